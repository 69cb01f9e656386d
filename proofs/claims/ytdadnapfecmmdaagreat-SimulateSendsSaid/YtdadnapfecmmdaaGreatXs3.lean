/- Own texts of a proof about layer 55's simulate (merged): Hm, Ca, Ct, Cu, Hb. -/
import Derived.Test.YtdadnapfecmmdaaGreatXs0
import Derived.Test.YtdadnapfecmmdaaGreatXs2
import Derived.Maps.OwnSet
import Derived.Maps.OwnOps
import Derived.WalkKit
import Derived.Deep.RegionHeld3
import Derived.Deep.DeepMust
namespace Go.Proofs.YtdadnapfecmmdaaGreat.Hm
set_option linter.unusedVariables false
set_option linter.unusedSimpArgs false
open Go.RowKit Go.MapKept Go.Proofs.YtdadnapfecmmdaaGreatW.PrintWords
section plain
variable {α β:Type} [DecidableEq α]
def mget:List (α × β)→α→Option β
 | [],_=>none
 | p::r,k=>if p.1 = k then some p.2 else mget r k
def mput:List (α × β)→α→β→List (α × β)
 | [],k,v=>[(k,v)]
 | p::r,k,v=>if p.1 = k then (k,v)::r else p::mput r k v
def mfind:List (α × β)→α→Option (Nat × β)
 | [],_=>none
 | p::r,k=>if p.1 = k then some (0,p.2) else (mfind r k).map fun q=>(q.1 + 1,q.2)
theorem mfind_get (l:List (α × β)) (k:α):(mfind l k).map (·.2) = mget l k:=by
 induction l with
 | nil=>rfl
 | cons p r ih=>
  unfold mfind mget
  by_cases h:p.1 = k
  ·simp [h]
  ·simp only [h,if_false]
   rw [← ih]
   cases mfind r k <;> rfl
theorem mget_put_same (l:List (α × β)) (k:α) (v:β):mget (mput l k v) k = some v:=by
 induction l with
 | nil=>simp [mput,mget]
 | cons p r ih=>
  unfold mput
  by_cases h:p.1 = k
  ·simp [h,mget]
  ·simp [h,mget,ih]
theorem mget_put_other (l:List (α × β)) (k k':α) (v:β) (hne:k' ≠ k):mget (mput l k v) k' = mget l k':=by
 induction l with
 | nil=>simp [mput,mget,Ne.symm hne]
 | cons p r ih=>
  unfold mput
  by_cases h:p.1 = k
  ·subst h
   simp [mget,Ne.symm hne]
  ·simp only [h,if_false]
   unfold mget
   by_cases h':p.1 = k'
   ·simp [h']
   ·simp [h',ih]
end plain
variable {α β:Type} {P:Program} {K E T:TypeId} {d:TypeDesc} {kd:α→Value} {vd:β→Value}
structure KeyEnc (d:TypeDesc) (kd:α→Value):Prop where
 key:∀ x,IsKey d (kd x)
 inj:∀ x y,kd x = kd y→x = y
 bits:∀ x,Instr.sameBits 10000 (kd x) (kd x) = true
def MapIs (w:World) (b:Nat) (kd:α→Value) (vd:β→Value) (l:List (α × β)):Prop:=
 ∃ es clock,w.heap[b]? = some (.map es clock)∧es.toList.map (fun e=>(e.key,e.val)) = l.map fun p=>(kd p.1,vd p.2)
theorem MapIs.lt {w:World} {b:Nat} {l:List (α × β)} (h:MapIs w b kd vd l):b < w.heap.size:=by
 obtain ⟨es,clock,hb,_⟩:=h
 exact (Array.getElem?_eq_some_iff.1 hb).1
theorem MapIs.made (w:World) (kd:α→Value) (vd:β→Value):MapIs (w.alloc (.map #[] 0)) w.heap.size kd vd ([]:List (α × β)):=
 ⟨#[],0,heap_alloc_new w _,rfl⟩
theorem MapIs.move {w w1:World} {b:Nat} {l:List (α × β)} (h:MapIs w b kd vd l) (hm:w1.heap[b]? = w.heap[b]?):MapIs w1 b kd vd l:=by
 obtain ⟨es,clock,hb,he⟩:=h
 exact ⟨es,clock,hm.trans hb,he⟩
theorem MapIs.below {w w1:World} {b:Nat} {l:List (α × β)} (h:MapIs w b kd vd l) (hb:Below w.heap.size w w1):MapIs w1 b kd vd l:=h.move (hb.block b h.lt)
theorem MapIs.alloc {w:World} {b:Nat} {l:List (α × β)} (h:MapIs w b kd vd l) (o:Obj):MapIs (w.alloc o) b kd vd l:=h.below ((Below.refl _ _).alloc (Nat.le_refl _) o)
theorem MapIs.setCell {w:World} {b:Nat} {l:List (α × β)} (h:MapIs w b kd vd l) (a:Addr) (v:Value) (hne:b ≠ a.block):MapIs (w.setCell a v) b kd vd l:=h.move (Below.heap_setCell w a v b hne)
variable [DecidableEq α]
theorem find_of (hk:KeyEnc d kd) (k:α):∀ (es:List MapEntry) (l:List (α × β)) (i:Nat),es.map (fun e=>(e.key,e.val)) = l.map (fun p=>(kd p.1,vd p.2))→
  Instr.findNow d (kd k) es i = some ((mfind l k).map fun q=>(i + q.1,vd q.2))
 | [],[],_,_=>rfl
 | [],_::_,_,h=>by simp at h
 | _::_,[],_,h=>by simp at h
 | e::es,p::l,i,h=>by
  simp only [List.map_cons,List.cons.injEq,Prod.mk.injEq] at h
  obtain ⟨⟨hk1,hv1⟩,hr⟩:=h
  have ih:=find_of hk k es l (i + 1) hr
  obtain ⟨r,hr1,hiff⟩:=sameNow_of_keys (hk.key k) (hk1 ▸ hk.key p.1:IsKey d e.key)
  unfold Instr.findNow mfind
  rw [hr1]
  by_cases hp:p.1 = k
  ·have:r = true:=hiff.2 (by rw [hk1,hp])
   subst this
   simp [hp,hv1]
  ·have:r = false:=by
    cases r with
    | false=>rfl
    | true=>exact absurd (hk.inj _ _ ((hiff.1 rfl).trans hk1)).symm hp
   subst this
   simp only [ih,hp,if_false]
   cases mfind l k with
   | none=>rfl
   | some q=>
    simp only [Option.map_some,Option.some.injEq,Prod.mk.injEq,and_true]
    omega
theorem mfind_put {β:Type} (l:List (α × β)) (k:α) (v:β):(mfind l k = none∧mput l k v = l ++ [(k,v)]) ∨ ∃ j u,mfind l k = some (j,u)∧j < l.length∧l[j]? = some (k,u)∧mput l k v = l.set j (k,v):=by
 induction l with
 | nil=>exact .inl ⟨rfl,rfl⟩
 | cons p r ih=>
  unfold mfind mput
  by_cases h:p.1 = k
  ·exact .inr ⟨0,p.2,by simp [h],by simp,by simp [← h],by simp [h]⟩
  ·rcases ih with ⟨h1,h2⟩ | ⟨j,u,h1,h2,h3,h4⟩
   ·exact .inl ⟨by simp [h,h1],by simp [h,h2]⟩
   ·exact .inr ⟨j + 1,u,by simp [h,h1],by simpa using h2,by simpa using h3,by simp [h,h4]⟩
theorem MapIs.look {w:World} {b:Nat} {l:List (α × β)} (h:MapIs w b kd vd l) (hT:P.underlying T = some (.map K E)) (hK:P.underlying K = some d) (hk:KeyEnc d kd) {z:Value} (hz:(zeroValue E).run P w = .ok z w) (k:α):
  (Instr.lookup T (.map (some b)) (kd k) false).run P w = .ok ((mget l k).elim z vd) w:=by
 obtain ⟨es,clock,hb,he⟩:=h
 have hf:=find_of (β:=β) (vd:=vd) hk k es.toList l 0 he
 have hrun:=run_findKey (w:=w) hK hf
 rw [← mfind_get]
 cases hm:mfind l k with
 | none=>
  rw [hm] at hrun
  simp [Instr.lookup,run_underlying hT,MapKept.run_getObj_map hb,run_checkKey hK (hk.key k),hrun,hz,Result.andThen]
 | some q=>
  rw [hm] at hrun
  simp [Instr.lookup,run_underlying hT,MapKept.run_getObj_map hb,run_checkKey hK (hk.key k),hrun,Result.andThen]
theorem MapIs.store {w:World} {b:Nat} {l:List (α × β)} (h:MapIs w b kd vd l) (hT:P.underlying T = some (.map K E)) (hK:P.underlying K = some d) (hk:KeyEnc d kd) (k:α) (v:β):
  ∃ w1,(Instr.mapUpdate T (.map (some b)) (kd k) (vd v)).run P w = .ok () w1∧MapIs w1 b kd vd (mput l k v)∧w.grownBy w1 (some b):=by
 obtain ⟨es,clock,hb,he⟩:=h
 have hf:=find_of (β:=β) (vd:=vd) hk k es.toList l 0 he
 have hrun:=run_findKey (w:=w) hK hf
 have hgr:∀ o:Obj,w.grownBy { w with heap:=w.heap.setIfInBounds b o } (some b):=fun o=>
  ⟨rfl,rfl,rfl,by simp,fun i hi hne=>by
   have:i ≠ b:=fun e=>hne (by rw [e])
   exact (heap_set (o':=o) hb).2 i this⟩
 rcases mfind_put l k v with ⟨h1,h2⟩ | ⟨j,u,h1,h2,h3,h4⟩
 ·rw [h1] at hrun
  refine ⟨_,by simp [Instr.mapUpdate,run_underlying hT,MapKept.run_getObj_map hb,run_checkKey hK (hk.key k),hrun,MapKept.run_setObj_map _ hb,Result.andThen];rfl,⟨_,_,(heap_set hb).1,?_⟩,hgr _⟩
  rw [h2]
  simp [he]
 ·rw [h1] at hrun
  have hlen:es.size = l.length:=by have:=congrArg List.length he;simpa using this
  have hj:j < es.size:=by omega
  have hel:(es.toList.map (fun e=>(e.key,e.val)))[j]? = some (kd k,vd u):=by rw [he];simp [h3]
  have hkey:es[j].key = kd k:=by
   simp [hj] at hel
   exact hel.1
  have hes:es[j]? = some es[j]:=by simp [hj]
  refine ⟨_,by simp [Instr.mapUpdate,run_underlying hT,MapKept.run_getObj_map hb,run_checkKey hK (hk.key k),hrun,MapKept.run_setObj_map _ hb,Result.andThen,hes,Instr.keyThatStays,hkey,hk.bits];rfl,⟨_,_,(heap_set hb).1,?_⟩,hgr _⟩
  rw [h4]
  simp only [Array.toList_modify,List.map_set,← he]
  apply List.ext_getElem?
  intro i
  simp only [List.getElem?_map,List.getElem?_modify,List.getElem?_set,List.length_map,Array.length_toList]
  by_cases hij:j = i
  ·subst hij
   simp [hj]
  ·simp [hij]
section
variable {ops:Array Oper} {rest:List Oper} {o:Oper} {a:Act} {Q:Exit→Act→World→Prop} {w:World}
theorem wp_store (hg:o.guard = none) (m x v:Operand) (hop:o.op = Op.mapUpdate T m x v) (hT:P.underlying T = some (.map K E)) (hK:P.underlying K = some d) (hk:KeyEnc d kd)
  {b:Nat} {l:List (α × β)} (h:MapIs w b kd vd l) (hm:a.eval m = .map (some b)) (k:α) (u:β) (hx:a.eval x = kd k) (hv:a.eval v = vd u)
  (hK1:∀ w1,MapIs w1 b kd vd (mput l k u)→w.grownBy w1 (some b)→wpList P ops Q rest (a.put o.dst undef) w1):wpList P ops Q (o::rest) a w:=by
 refine wpList_plain hg fun K' hK'=>?_
 obtain ⟨w',hrun,r1,r2⟩:=h.store (P:=P) hT hK hk k u
 unfold Oper.wp
 simp [execOp,hop,hm,hx,hv,hrun,Result.andThen]
 exact hK' _ _ (hK1 w' r1 r2)
theorem wp_look (hg:o.guard = none) (m x:Operand) (hop:o.op = Op.lookup T m x false) (hT:P.underlying T = some (.map K E)) (hK:P.underlying K = some d) (hk:KeyEnc d kd)
  {b:Nat} {l:List (α × β)} (h:MapIs w b kd vd l) (hm:a.eval m = .map (some b)) (k:α) (hx:a.eval x = kd k) {z:Value} (hz:(zeroValue E).run P w = .ok z w)
  (hK1:wpList P ops Q rest (a.put o.dst ((mget l k).elim z vd)) w):wpList P ops Q (o::rest) a w:=by
 refine wpList_plain hg fun K' hK'=>?_
 have hrun:=h.look (P:=P) hT hK hk hz k
 unfold Oper.wp
 simp [execOp,hop,hm,hx,hrun,Result.andThen]
 exact hK' _ _ hK1
end
theorem enc_string:KeyEnc (α:=ByteArray) .string Value.string:=⟨fun _=>by simp [IsKey],fun x y h=>by simpa using h,fun x=>by simp [Instr.sameBits,bytes_beq]⟩
theorem enc_int (k:IntKind):KeyEnc (α:=Int) (.int k) (Value.int k):=⟨fun _=>by simp [IsKey],fun x y h=>by simpa using h,fun x=>by simp [Instr.sameBits]⟩
end Go.Proofs.YtdadnapfecmmdaaGreat.Hm
namespace Go.Proofs.YtdadnapfecmmdaaGreat.P
set_option linter.unusedVariables false
set_option linter.unusedSimpArgs false
open Go.RowKit Go.Proofs.YtdadnapfecmmdaaGreatW.PrintWords Go.Proofs.YtdadnapfecmmdaaGreatW.PrintLast Go.Proofs.YtdadnapfecmmdaaGreatW.PrintMore
def nmW:ByteArray:=⟨#[119,101,98]⟩
def nmA:ByteArray:=⟨#[97,112,105]⟩
def nmD:ByteArray:=⟨#[100,98]⟩
def nmC:ByteArray:=⟨#[99,97,99,104,101]⟩
def nm4:Nat→ByteArray
 | 0=>nmW
 | 1=>nmA
 | 2=>nmD
 | _=>nmC
def ver3:Nat→ByteArray
 | 0=>⟨#[]⟩
 | 1=>⟨#[118,49]⟩
 | _=>⟨#[118,50]⟩
structure Plan where
 seed:Int
 parts:List S47
 o0:Int
 o1:Int
 o2:Int
 steps:List S56
 trs:List S59
 first:Int
 slots:Int
 per:Int
 delay:Int
 chunk:Int
 loss:Int
 rep:Int
structure PlanAt where
 A1:Option Addr
 c1:Nat
 A2:Option Addr
 c2:Nat
 A3:Option Addr
 c3:Nat
abbrev Plan.cells (p:Plan) (a:PlanAt):Array Value:=#[.int .u8 p.seed,.slice a.A1 p.parts.length a.c1,.int .i8 p.o0,.int .i8 p.o1,.int .i8 p.o2,.slice a.A2 p.steps.length a.c2,.slice a.A3 p.trs.length a.c3,.int .u8 p.first,.int .u8 p.slots,.int .u8 p.per,.int .u8 p.delay,.int .u8 p.chunk,.int .u8 p.loss,.int .u8 p.rep]
def U8 (x:Int):Prop:=0 ≤ x∧x ≤ 255
def I8 (x:Int):Prop:=-128 ≤ x∧x ≤ 127
structure PlanR (w:World) (a:PlanAt) (p:Plan):Prop where
 r1:Kd.C k47 w a.A1 p.parts.length p.parts
 l1:p.parts.length ≤ a.c1
 r2:Kd.C k56 w a.A2 p.steps.length p.steps
 l2:p.steps.length ≤ a.c2
 r3:Kd.C k59 w a.A3 p.trs.length p.trs
 l3:p.trs.length ≤ a.c3
structure PlanOk (p:Plan):Prop where
 seed:U8 p.seed
 o0:I8 p.o0
 o1:I8 p.o1
 o2:I8 p.o2
 first:U8 p.first
 slots:U8 p.slots
 per:U8 p.per
 delay:U8 p.delay
 chunk:U8 p.chunk
 loss:U8 p.loss
 rep:U8 p.rep
 parts:∀ x ∈ p.parts,U8 x.f0∧U8 x.f1∧U8 x.f2∧U8 x.f3∧U8 x.f4
 steps:∀ x ∈ p.steps,U8 x.f0∧U8 x.f1∧U8 x.f2∧U8 x.f3∧U8 x.f4
 trs:∀ x ∈ p.trs,U8 x.f0∧U8 x.f1∧U8 x.f2∧U8 x.f3∧U8 x.f4∧U8 x.f5
theorem PlanR.below {w w1:World} {a:PlanAt} {p:Plan} (h:PlanR w a p) (hb:Below w.heap.size w w1):PlanR w1 a p:=
 ⟨Kd.C_below h.r1 hb,h.l1,Kd.C_below h.r2 hb,h.l2,Kd.C_below h.r3 hb,h.l3⟩
def bitOf (b:Int) (k:Nat):Bool:=decide (b / 2 ^ k % 2 = 1)
def callsOf (n i:Nat) (b:Int) (k:Nat):List ByteArray:=((List.range k).filter fun j=>decide (i + 1 + j < n) && bitOf b j).map fun j=>nm4 (i + 1 + j)
def svOf (n i:Nat) (x:S47):S51:=⟨nm4 i,1 + x.f0 % 3,x.f1 % 20,x.f2 % 10,x.f3 % 4 * 1000000 / 4,callsOf n i x.f4 3⟩
def Plan.ps (p:Plan):List S47:=if p.parts = [] then [z47] else p.parts
def Plan.n (p:Plan):Nat:=min p.ps.length 4
def Plan.sv (p:Plan):List S51:=(List.range p.n).map fun i=>svOf p.n i (rd_T47 p.ps i)
def Plan.offs (p:Plan):List S54:=[⟨1,p.o0.tmod 21⟩,⟨2,p.o1.tmod 21⟩,⟨3,p.o2.tmod 21⟩]
def Plan.sts (p:Plan):List S56:=(p.steps.take 6).map fun x=>{ x with f1:=x.f1 % 10 }
def trOf (n:Nat) (x:S59):S61:=⟨nm4 (x.f0 % n).toNat,ver3 (x.f1 % 3).toNat,⟨x.f2 % 8,x.f2 % 8 + 1 + x.f3 % 8⟩,x.f4 % 30,x.f5 % 3 * 1000000 / 4⟩
def Plan.flts (p:Plan):List S61:=(p.trs.take 3).map (trOf p.n)
def Plan.cfg (p:Plan) (chg:List S56→List S98):Cfg:=⟨p.seed,p.sv,p.offs,chg p.sts,p.flts,p.first % 8,p.first % 8 + p.slots % 4,p.per % 3,p.delay % 6,1 + p.chunk % 8,p.loss % 9 * 1000000 / 8,p.rep % 9 * 1000000 / 8⟩
theorem callsOf_succ (n i:Nat) (b:Int) (k:Nat):callsOf n i b (k + 1) = if i + 1 + k < n∧bitOf b k = true then callsOf n i b k ++ [nm4 (i + 1 + k)] else callsOf n i b k:=by
 unfold callsOf
 rw [List.range_succ,List.filter_append,List.map_append]
 by_cases h1:i + 1 + k < n <;> cases h2:bitOf b k <;> simp [h1,h2]
theorem callsOf_end (n i:Nat) (b:Int) (k:Nat) (hk:k ≤ 3) (h:k = 3 ∨ n ≤ i + 1 + k):callsOf n i b k = callsOf n i b 3:=by
 rcases h with rfl | h
 ·rfl
 ·have step:∀ d,callsOf n i b (k + d) = callsOf n i b k:=by
   intro d
   induction d with
   | zero=>rfl
   | succ d ih=>rw [show k + (d + 1) = k + d + 1 from by omega,callsOf_succ,if_neg (by omega),ih]
  rw [← step (3 - k),show k + (3 - k) = 3 from by omega]
theorem callsOf_len (n i:Nat) (b:Int) (k:Nat):(callsOf n i b k).length ≤ k:=by
 unfold callsOf
 rw [List.length_map]
 exact Nat.le_trans (List.length_filter_le _ _) (by simp)
theorem names_calls (w:World):Calls Tryz.prog 11 #[] w fun e w'=>e = .returned (.slice (some ⟨w.heap.size,0,none⟩) 4 4)∧w' = w.alloc (.cells #[.string nmW,.string nmA,.string nmD,.string nmC] 9):=by
 go_enter Tryz.func11,Tryz.ntmps11
 go_wp2
 go_ret
 exact ⟨by simp,by simp [nmW,nmA,nmD,nmC]⟩
def NamesAt (w:World) (g:Nat):Prop:=∀ k,k < 4→w.cell? ⟨g,k,none⟩ = some (.string (nm4 k))
theorem names_any (w:World):Calls Tryz.prog 11 #[] w fun e w'=>e = .returned (.slice (some ⟨w.heap.size,0,none⟩) 4 4)∧NamesAt w' w.heap.size∧Below w.heap.size w w':=by
 refine (names_calls w).mono ?_
 rintro e w' ⟨he,rfl⟩
 refine ⟨he,fun k hk=>?_,below_alloc (Below.refl _ _) _⟩
 rw [blk_cell (blk_new w _)]
 match k,hk with
 | 0,_=>rfl
 | 1,_=>rfl
 | 2,_=>rfl
 | 3,_=>rfl
def nm47:Nat→ByteArray
 | 0=>nmA
 | 1=>nmD
 | 2=>nmW
 | _=>nmC
def ver47:Nat→ByteArray
 | 0=>⟨#[118,49]⟩
 | 1=>⟨#[118,50]⟩
 | _=>⟨#[118,51]⟩
def chgOf (x:S56) (id:Int):S98:=if x.f0 % 3 = 0 then ⟨id,1,x.f1 % 64,nm47 (x.f2 % 4).toNat,⟨#[]⟩,ver47 (x.f4 % 3).toNat⟩ else ⟨id,1 + x.f0 % 3,x.f1 % 64,nm47 (x.f2 % 4).toNat,nm47 (x.f3 % 4).toNat,⟨#[]⟩⟩
abbrev stCells (x:S56):Array Value:=#[.int .u8 x.f0,.int .u8 x.f1,.int .u8 x.f2,.int .u8 x.f3,.int .u8 x.f4]
theorem fill6 {W:World} {g:Nat} {t:TypeId} {z0 z1 z2 z3 z4 z5:Value} (h:W.heap[g]? = some (.cells #[z0,z1,z2,z3,z4,z5] t (0,0))) (v0 v1 v2 v3 v4 v5:Value):
  ((((((W.setCell ⟨g,0,none⟩ v0).setCell ⟨g,1,none⟩ v1).setCell ⟨g,2,none⟩ v2).setCell ⟨g,3,none⟩ v3).setCell ⟨g,4,none⟩ v4).setCell ⟨g,5,none⟩ v5).heap[g]? = some (.cells #[v0,v1,v2,v3,v4,v5] t (0,0)):=by
 have h0:=blk_set h 0 v0
 have h1:=blk_set h0 1 v1
 have h2:=blk_set h1 2 v2
 have h3:=blk_set h2 3 v3
 have h4:=blk_set h3 4 v4
 have h5:=blk_set h4 5 v5
 simpa using h5
theorem below6 {w W:World} {g:Nat} (h:Below w.heap.size w W) (hg:w.heap.size ≤ g) (v0 v1 v2 v3 v4 v5:Value):
  Below w.heap.size w ((((((W.setCell ⟨g,0,none⟩ v0).setCell ⟨g,1,none⟩ v1).setCell ⟨g,2,none⟩ v2).setCell ⟨g,3,none⟩ v3).setCell ⟨g,4,none⟩ v4).setCell ⟨g,5,none⟩ v5):=
 (((((h.setCell (p:=⟨g,0,none⟩) hg v0).setCell (p:=⟨g,1,none⟩) hg v1).setCell (p:=⟨g,2,none⟩) hg v2).setCell (p:=⟨g,3,none⟩) hg v3).setCell (p:=⟨g,4,none⟩) hg v4).setCell (p:=⟨g,5,none⟩) hg v5
set_option maxHeartbeats 4000000 in
theorem change_calls (x:S56) (id:Int) (w:World) (hx:U8 x.f0∧U8 x.f1∧U8 x.f2∧U8 x.f3∧U8 x.f4):
  Calls Tryz.prog 28 #[.agg (stCells x),.int .i64 id] w fun e w'=>e = .returned (.agg (chgVals (chgOf x id)))∧Below w.heap.size w w':=by
 have EO:Aside0 (chgOf x id = if x.f0 % 3 = 0 then ⟨id,1,x.f1 % 64,nm47 (x.f2 % 4).toNat,⟨#[]⟩,ver47 (x.f4 % 3).toNat⟩ else ⟨id,1 + x.f0 % 3,x.f1 % 64,nm47 (x.f2 % 4).toNat,nm47 (x.f3 % 4).toNat,⟨#[]⟩⟩):=⟨rfl⟩
 generalize chgOf x id = r at EO
 obtain ⟨x0,x1,x2,x3,x4⟩:=x
 obtain ⟨⟨b00,b01⟩,⟨b10,b11⟩,⟨b20,b21⟩,⟨b30,b31⟩,b40,b41⟩:=hx
 unfold stCells
 dsimp only at *
 have kx:=blk_alloc (blk_alloc (blk_new w (.cells #[.int .u8 x0,.int .u8 x1,.int .u8 x2,.int .u8 x3,.int .u8 x4] 56)) (.cells #[.int .i64 0,.int .i64 0,.int .i64 0,.string ⟨#[]⟩,.string ⟨#[]⟩,.string ⟨#[]⟩] 98)) (.cells #[.string ⟨#[97,112,105]⟩,.string ⟨#[100,98]⟩,.string ⟨#[119,101,98]⟩,.string ⟨#[99,97,99,104,101]⟩] 9)
 have kn:=blk_new ((w.alloc (.cells #[.int .u8 x0,.int .u8 x1,.int .u8 x2,.int .u8 x3,.int .u8 x4] 56)).alloc (.cells #[.int .i64 0,.int .i64 0,.int .i64 0,.string ⟨#[]⟩,.string ⟨#[]⟩,.string ⟨#[]⟩] 98)) (.cells #[.string ⟨#[97,112,105]⟩,.string ⟨#[100,98]⟩,.string ⟨#[119,101,98]⟩,.string ⟨#[99,97,99,104,101]⟩] 9)
 rw [show ((w.alloc (.cells #[.int .u8 x0,.int .u8 x1,.int .u8 x2,.int .u8 x3,.int .u8 x4] 56)).alloc (.cells #[.int .i64 0,.int .i64 0,.int .i64 0,.string ⟨#[]⟩,.string ⟨#[]⟩,.string ⟨#[]⟩] 98)).heap.size = w.heap.size + 2 from by simp] at kn
 have hb0:Below w.heap.size w (((w.alloc (.cells #[.int .u8 x0,.int .u8 x1,.int .u8 x2,.int .u8 x3,.int .u8 x4] 56)).alloc (.cells #[.int .i64 0,.int .i64 0,.int .i64 0,.string ⟨#[]⟩,.string ⟨#[]⟩,.string ⟨#[]⟩] 98)).alloc (.cells #[.string ⟨#[97,112,105]⟩,.string ⟨#[100,98]⟩,.string ⟨#[119,101,98]⟩,.string ⟨#[99,97,99,104,101]⟩] 9)):=below_alloc (below_alloc (below_alloc (Below.refl _ _) _) _) _
 have hn:∀ k,k < 4→(((w.alloc (.cells #[.int .u8 x0,.int .u8 x1,.int .u8 x2,.int .u8 x3,.int .u8 x4] 56)).alloc (.cells #[.int .i64 0,.int .i64 0,.int .i64 0,.string ⟨#[]⟩,.string ⟨#[]⟩,.string ⟨#[]⟩] 98)).alloc (.cells #[.string ⟨#[97,112,105]⟩,.string ⟨#[100,98]⟩,.string ⟨#[119,101,98]⟩,.string ⟨#[99,97,99,104,101]⟩] 9)).cell? ⟨w.heap.size + 2,k,none⟩ = some (.string (nm47 k)):=fun k hk=>by
  rw [blk_cell kn]
  match k,hk with
  | 0,_=>rfl
  | 1,_=>rfl
  | 2,_=>rfl
  | 3,_=>rfl
 have p0:(((w.alloc (.cells #[.int .u8 x0,.int .u8 x1,.int .u8 x2,.int .u8 x3,.int .u8 x4] 56)).alloc (.cells #[.int .i64 0,.int .i64 0,.int .i64 0,.string ⟨#[]⟩,.string ⟨#[]⟩,.string ⟨#[]⟩] 98)).alloc (.cells #[.string ⟨#[97,112,105]⟩,.string ⟨#[100,98]⟩,.string ⟨#[119,101,98]⟩,.string ⟨#[99,97,99,104,101]⟩] 9)).cell? ⟨w.heap.size,0,none⟩ = some (.int .u8 x0):=(blk_cell kx 0).trans rfl
 have p1:(((w.alloc (.cells #[.int .u8 x0,.int .u8 x1,.int .u8 x2,.int .u8 x3,.int .u8 x4] 56)).alloc (.cells #[.int .i64 0,.int .i64 0,.int .i64 0,.string ⟨#[]⟩,.string ⟨#[]⟩,.string ⟨#[]⟩] 98)).alloc (.cells #[.string ⟨#[97,112,105]⟩,.string ⟨#[100,98]⟩,.string ⟨#[119,101,98]⟩,.string ⟨#[99,97,99,104,101]⟩] 9)).cell? ⟨w.heap.size,1,none⟩ = some (.int .u8 x1):=(blk_cell kx 1).trans rfl
 have p2:(((w.alloc (.cells #[.int .u8 x0,.int .u8 x1,.int .u8 x2,.int .u8 x3,.int .u8 x4] 56)).alloc (.cells #[.int .i64 0,.int .i64 0,.int .i64 0,.string ⟨#[]⟩,.string ⟨#[]⟩,.string ⟨#[]⟩] 98)).alloc (.cells #[.string ⟨#[97,112,105]⟩,.string ⟨#[100,98]⟩,.string ⟨#[119,101,98]⟩,.string ⟨#[99,97,99,104,101]⟩] 9)).cell? ⟨w.heap.size,2,none⟩ = some (.int .u8 x2):=(blk_cell kx 2).trans rfl
 have p3:(((w.alloc (.cells #[.int .u8 x0,.int .u8 x1,.int .u8 x2,.int .u8 x3,.int .u8 x4] 56)).alloc (.cells #[.int .i64 0,.int .i64 0,.int .i64 0,.string ⟨#[]⟩,.string ⟨#[]⟩,.string ⟨#[]⟩] 98)).alloc (.cells #[.string ⟨#[97,112,105]⟩,.string ⟨#[100,98]⟩,.string ⟨#[119,101,98]⟩,.string ⟨#[99,97,99,104,101]⟩] 9)).cell? ⟨w.heap.size,3,none⟩ = some (.int .u8 x3):=(blk_cell kx 3).trans rfl
 have p4:(((w.alloc (.cells #[.int .u8 x0,.int .u8 x1,.int .u8 x2,.int .u8 x3,.int .u8 x4] 56)).alloc (.cells #[.int .i64 0,.int .i64 0,.int .i64 0,.string ⟨#[]⟩,.string ⟨#[]⟩,.string ⟨#[]⟩] 98)).alloc (.cells #[.string ⟨#[97,112,105]⟩,.string ⟨#[100,98]⟩,.string ⟨#[119,101,98]⟩,.string ⟨#[99,97,99,104,101]⟩] 9)).cell? ⟨w.heap.size,4,none⟩ = some (.int .u8 x4):=(blk_cell kx 4).trans rfl
 have kz:=blk_alloc (blk_new (w.alloc (.cells #[.int .u8 x0,.int .u8 x1,.int .u8 x2,.int .u8 x3,.int .u8 x4] 56)) (.cells #[.int .i64 0,.int .i64 0,.int .i64 0,.string ⟨#[]⟩,.string ⟨#[]⟩,.string ⟨#[]⟩] 98)) (.cells #[.string ⟨#[97,112,105]⟩,.string ⟨#[100,98]⟩,.string ⟨#[119,101,98]⟩,.string ⟨#[99,97,99,104,101]⟩] 9)
 rw [show (w.alloc (.cells #[.int .u8 x0,.int .u8 x1,.int .u8 x2,.int .u8 x3,.int .u8 x4] 56)).heap.size = w.heap.size + 1 from by simp] at kz
 have r0:(((w.alloc (.cells #[.int .u8 x0,.int .u8 x1,.int .u8 x2,.int .u8 x3,.int .u8 x4] 56)).alloc (.cells #[.int .i64 0,.int .i64 0,.int .i64 0,.string ⟨#[]⟩,.string ⟨#[]⟩,.string ⟨#[]⟩] 98)).alloc (.cells #[.string ⟨#[97,112,105]⟩,.string ⟨#[100,98]⟩,.string ⟨#[119,101,98]⟩,.string ⟨#[99,97,99,104,101]⟩] 9)).cell? ⟨w.heap.size + 1,0,none⟩ = some (.int .i64 0):=(blk_cell kz 0).trans rfl
 have g0:(((w.alloc (.cells #[.int .u8 x0,.int .u8 x1,.int .u8 x2,.int .u8 x3,.int .u8 x4] 56)).alloc (.cells #[.int .i64 0,.int .i64 0,.int .i64 0,.string ⟨#[]⟩,.string ⟨#[]⟩,.string ⟨#[]⟩] 98)).alloc (.cells #[.string ⟨#[97,112,105]⟩,.string ⟨#[100,98]⟩,.string ⟨#[119,101,98]⟩,.string ⟨#[99,97,99,104,101]⟩] 9)).frozen? ⟨w.heap.size + 1,0,none⟩ = false:=blk_frozen kz 0
 have r1:(((w.alloc (.cells #[.int .u8 x0,.int .u8 x1,.int .u8 x2,.int .u8 x3,.int .u8 x4] 56)).alloc (.cells #[.int .i64 0,.int .i64 0,.int .i64 0,.string ⟨#[]⟩,.string ⟨#[]⟩,.string ⟨#[]⟩] 98)).alloc (.cells #[.string ⟨#[97,112,105]⟩,.string ⟨#[100,98]⟩,.string ⟨#[119,101,98]⟩,.string ⟨#[99,97,99,104,101]⟩] 9)).cell? ⟨w.heap.size + 1,1,none⟩ = some (.int .i64 0):=(blk_cell kz 1).trans rfl
 have g1:(((w.alloc (.cells #[.int .u8 x0,.int .u8 x1,.int .u8 x2,.int .u8 x3,.int .u8 x4] 56)).alloc (.cells #[.int .i64 0,.int .i64 0,.int .i64 0,.string ⟨#[]⟩,.string ⟨#[]⟩,.string ⟨#[]⟩] 98)).alloc (.cells #[.string ⟨#[97,112,105]⟩,.string ⟨#[100,98]⟩,.string ⟨#[119,101,98]⟩,.string ⟨#[99,97,99,104,101]⟩] 9)).frozen? ⟨w.heap.size + 1,1,none⟩ = false:=blk_frozen kz 1
 have r2:(((w.alloc (.cells #[.int .u8 x0,.int .u8 x1,.int .u8 x2,.int .u8 x3,.int .u8 x4] 56)).alloc (.cells #[.int .i64 0,.int .i64 0,.int .i64 0,.string ⟨#[]⟩,.string ⟨#[]⟩,.string ⟨#[]⟩] 98)).alloc (.cells #[.string ⟨#[97,112,105]⟩,.string ⟨#[100,98]⟩,.string ⟨#[119,101,98]⟩,.string ⟨#[99,97,99,104,101]⟩] 9)).cell? ⟨w.heap.size + 1,2,none⟩ = some (.int .i64 0):=(blk_cell kz 2).trans rfl
 have g2:(((w.alloc (.cells #[.int .u8 x0,.int .u8 x1,.int .u8 x2,.int .u8 x3,.int .u8 x4] 56)).alloc (.cells #[.int .i64 0,.int .i64 0,.int .i64 0,.string ⟨#[]⟩,.string ⟨#[]⟩,.string ⟨#[]⟩] 98)).alloc (.cells #[.string ⟨#[97,112,105]⟩,.string ⟨#[100,98]⟩,.string ⟨#[119,101,98]⟩,.string ⟨#[99,97,99,104,101]⟩] 9)).frozen? ⟨w.heap.size + 1,2,none⟩ = false:=blk_frozen kz 2
 have r3:(((w.alloc (.cells #[.int .u8 x0,.int .u8 x1,.int .u8 x2,.int .u8 x3,.int .u8 x4] 56)).alloc (.cells #[.int .i64 0,.int .i64 0,.int .i64 0,.string ⟨#[]⟩,.string ⟨#[]⟩,.string ⟨#[]⟩] 98)).alloc (.cells #[.string ⟨#[97,112,105]⟩,.string ⟨#[100,98]⟩,.string ⟨#[119,101,98]⟩,.string ⟨#[99,97,99,104,101]⟩] 9)).cell? ⟨w.heap.size + 1,3,none⟩ = some (.string ⟨#[]⟩):=(blk_cell kz 3).trans rfl
 have g3:(((w.alloc (.cells #[.int .u8 x0,.int .u8 x1,.int .u8 x2,.int .u8 x3,.int .u8 x4] 56)).alloc (.cells #[.int .i64 0,.int .i64 0,.int .i64 0,.string ⟨#[]⟩,.string ⟨#[]⟩,.string ⟨#[]⟩] 98)).alloc (.cells #[.string ⟨#[97,112,105]⟩,.string ⟨#[100,98]⟩,.string ⟨#[119,101,98]⟩,.string ⟨#[99,97,99,104,101]⟩] 9)).frozen? ⟨w.heap.size + 1,3,none⟩ = false:=blk_frozen kz 3
 have r4:(((w.alloc (.cells #[.int .u8 x0,.int .u8 x1,.int .u8 x2,.int .u8 x3,.int .u8 x4] 56)).alloc (.cells #[.int .i64 0,.int .i64 0,.int .i64 0,.string ⟨#[]⟩,.string ⟨#[]⟩,.string ⟨#[]⟩] 98)).alloc (.cells #[.string ⟨#[97,112,105]⟩,.string ⟨#[100,98]⟩,.string ⟨#[119,101,98]⟩,.string ⟨#[99,97,99,104,101]⟩] 9)).cell? ⟨w.heap.size + 1,4,none⟩ = some (.string ⟨#[]⟩):=(blk_cell kz 4).trans rfl
 have g4:(((w.alloc (.cells #[.int .u8 x0,.int .u8 x1,.int .u8 x2,.int .u8 x3,.int .u8 x4] 56)).alloc (.cells #[.int .i64 0,.int .i64 0,.int .i64 0,.string ⟨#[]⟩,.string ⟨#[]⟩,.string ⟨#[]⟩] 98)).alloc (.cells #[.string ⟨#[97,112,105]⟩,.string ⟨#[100,98]⟩,.string ⟨#[119,101,98]⟩,.string ⟨#[99,97,99,104,101]⟩] 9)).frozen? ⟨w.heap.size + 1,4,none⟩ = false:=blk_frozen kz 4
 have r5:(((w.alloc (.cells #[.int .u8 x0,.int .u8 x1,.int .u8 x2,.int .u8 x3,.int .u8 x4] 56)).alloc (.cells #[.int .i64 0,.int .i64 0,.int .i64 0,.string ⟨#[]⟩,.string ⟨#[]⟩,.string ⟨#[]⟩] 98)).alloc (.cells #[.string ⟨#[97,112,105]⟩,.string ⟨#[100,98]⟩,.string ⟨#[119,101,98]⟩,.string ⟨#[99,97,99,104,101]⟩] 9)).cell? ⟨w.heap.size + 1,5,none⟩ = some (.string ⟨#[]⟩):=(blk_cell kz 5).trans rfl
 have g5:(((w.alloc (.cells #[.int .u8 x0,.int .u8 x1,.int .u8 x2,.int .u8 x3,.int .u8 x4] 56)).alloc (.cells #[.int .i64 0,.int .i64 0,.int .i64 0,.string ⟨#[]⟩,.string ⟨#[]⟩,.string ⟨#[]⟩] 98)).alloc (.cells #[.string ⟨#[97,112,105]⟩,.string ⟨#[100,98]⟩,.string ⟨#[119,101,98]⟩,.string ⟨#[99,97,99,104,101]⟩] 9)).frozen? ⟨w.heap.size + 1,5,none⟩ = false:=blk_frozen kz 5
 have c2:=hn (x2 % 4).toNat (by omega)
 have c3:=hn (x3 % 4).toNat (by omega)
 have hz:(((w.alloc (.cells #[.int .u8 x0,.int .u8 x1,.int .u8 x2,.int .u8 x3,.int .u8 x4] 56)).alloc (.cells #[.int .i64 0,.int .i64 0,.int .i64 0,.string ⟨#[]⟩,.string ⟨#[]⟩,.string ⟨#[]⟩] 98)).alloc (.cells #[.string ⟨#[97,112,105]⟩,.string ⟨#[100,98]⟩,.string ⟨#[119,101,98]⟩,.string ⟨#[99,97,99,104,101]⟩] 9)).heap.size = w.heap.size + 3:=by simp
 have HB:=Aside0.mk hb0
 have HZ:=Aside0.mk hz
 clear kx kn hn hb0 hz
 have d0:0 ≤ x2 % 4:=by omega
 have d1:x2 % 4 < 4:=by omega
 have e0:0 ≤ x3 % 4:=by omega
 have e1:x3 % 4 < 4:=by omega
 have f0:0 ≤ x4 % 3:=by omega
 have f1:x4 % 3 < 3:=by omega
 go_enter Tryz.func28,Tryz.ntmps28
 go_upto_region 2 with fail
 generalize (((w.alloc (.cells #[.int .u8 x0,.int .u8 x1,.int .u8 x2,.int .u8 x3,.int .u8 x4] 56)).alloc (.cells #[.int .i64 0,.int .i64 0,.int .i64 0,.string ⟨#[]⟩,.string ⟨#[]⟩,.string ⟨#[]⟩] 98)).alloc (.cells #[.string ⟨#[97,112,105]⟩,.string ⟨#[100,98]⟩,.string ⟨#[119,101,98]⟩,.string ⟨#[99,97,99,104,101]⟩] 9)) = W at *
 have n0:=World.new_ne W _ p0
 have t0:x0.tmod 3 = x0 % 3:=Int.tmod_eq_emod_of_nonneg b00
 have t1:x1.tmod 64 = x1 % 64:=Int.tmod_eq_emod_of_nonneg b10
 have t2:x2.tmod 4 = x2 % 4:=Int.tmod_eq_emod_of_nonneg b20
 have t3:IntKind.i64.wrap (1 + x0 % 3) = 1 + x0 % 3:=IntWalk.i64_in _ (by omega)
 have t4:IntKind.i64.wrap (x0 % 3) = x0 % 3:=IntWalk.i64_in _ (by omega)
 have t5:IntKind.i64.wrap (x1 % 64) = x1 % 64:=IntWalk.i64_in _ (by omega)
 have n1:=World.new_ne W _ c2
 go_region_held3 (fun w'=>w'.cell? ⟨w.heap.size,0,none⟩ = some (.int .u8 x0)∧w'.cell? ⟨w.heap.size,1,none⟩ = some (.int .u8 x1)∧w'.cell? ⟨w.heap.size,2,none⟩ = some (.int .u8 x2)∧w'.cell? ⟨w.heap.size + 2,(x2 % 4).toNat,none⟩ = some (.string (nm47 (x2 % 4).toNat))) (go_keep) (fail)
 clear t0 t1 t2 t3 t4 t5
 have kb:=blk_drew (blk_new W (.cells #[.int .i64 id,.int .i64 (1 + x0 % 3),.int .i64 (x1 % 64),.string (nm47 (x2 % 4).toNat),.string ⟨#[]⟩,.string ⟨#[]⟩] 98))
 have HB2:=Aside0.mk ((below_alloc HB.out (.cells #[.int .i64 id,.int .i64 (1 + x0 % 3),.int .i64 (x1 % 64),.string (nm47 (x2 % 4).toNat),.string ⟨#[]⟩,.string ⟨#[]⟩] 98)).drew)
 have hz2:(W.alloc (.cells #[.int .i64 id,.int .i64 (1 + x0 % 3),.int .i64 (x1 % 64),.string (nm47 (x2 % 4).toNat),.string ⟨#[]⟩,.string ⟨#[]⟩] 98)).drew.heap.size = w.heap.size + 4:=by have:=HZ.out;simp;omega
 have mv:Below W.heap.size W (W.alloc (.cells #[.int .i64 id,.int .i64 (1 + x0 % 3),.int .i64 (x1 % 64),.string (nm47 (x2 % 4).toNat),.string ⟨#[]⟩,.string ⟨#[]⟩] 98)).drew:=(below_alloc (Below.refl _ _) _).drew
 replace p3:=below_at mv p3
 replace p4:=below_at mv p4
 replace c3:=below_at mv c3
 replace g0:(W.alloc (.cells #[.int .i64 id,.int .i64 (1 + x0 % 3),.int .i64 (x1 % 64),.string (nm47 (x2 % 4).toNat),.string ⟨#[]⟩,.string ⟨#[]⟩] 98)).drew.frozen? ⟨w.heap.size + 1,0,none⟩ = false:=(mv.frozen (p:=⟨w.heap.size + 1,0,none⟩) (World.block_lt_of_cell? W _ r0)).trans g0
 replace r0:=below_at mv r0
 replace g1:(W.alloc (.cells #[.int .i64 id,.int .i64 (1 + x0 % 3),.int .i64 (x1 % 64),.string (nm47 (x2 % 4).toNat),.string ⟨#[]⟩,.string ⟨#[]⟩] 98)).drew.frozen? ⟨w.heap.size + 1,1,none⟩ = false:=(mv.frozen (p:=⟨w.heap.size + 1,1,none⟩) (World.block_lt_of_cell? W _ r1)).trans g1
 replace r1:=below_at mv r1
 replace g2:(W.alloc (.cells #[.int .i64 id,.int .i64 (1 + x0 % 3),.int .i64 (x1 % 64),.string (nm47 (x2 % 4).toNat),.string ⟨#[]⟩,.string ⟨#[]⟩] 98)).drew.frozen? ⟨w.heap.size + 1,2,none⟩ = false:=(mv.frozen (p:=⟨w.heap.size + 1,2,none⟩) (World.block_lt_of_cell? W _ r2)).trans g2
 replace r2:=below_at mv r2
 replace g3:(W.alloc (.cells #[.int .i64 id,.int .i64 (1 + x0 % 3),.int .i64 (x1 % 64),.string (nm47 (x2 % 4).toNat),.string ⟨#[]⟩,.string ⟨#[]⟩] 98)).drew.frozen? ⟨w.heap.size + 1,3,none⟩ = false:=(mv.frozen (p:=⟨w.heap.size + 1,3,none⟩) (World.block_lt_of_cell? W _ r3)).trans g3
 replace r3:=below_at mv r3
 replace g4:(W.alloc (.cells #[.int .i64 id,.int .i64 (1 + x0 % 3),.int .i64 (x1 % 64),.string (nm47 (x2 % 4).toNat),.string ⟨#[]⟩,.string ⟨#[]⟩] 98)).drew.frozen? ⟨w.heap.size + 1,4,none⟩ = false:=(mv.frozen (p:=⟨w.heap.size + 1,4,none⟩) (World.block_lt_of_cell? W _ r4)).trans g4
 replace r4:=below_at mv r4
 replace g5:(W.alloc (.cells #[.int .i64 id,.int .i64 (1 + x0 % 3),.int .i64 (x1 % 64),.string (nm47 (x2 % 4).toNat),.string ⟨#[]⟩,.string ⟨#[]⟩] 98)).drew.frozen? ⟨w.heap.size + 1,5,none⟩ = false:=(mv.frozen (p:=⟨w.heap.size + 1,5,none⟩) (World.block_lt_of_cell? W _ r5)).trans g5
 replace r5:=below_at mv r5
 replace kz:=blk_drew (blk_alloc kz (.cells #[.int .i64 id,.int .i64 (1 + x0 % 3),.int .i64 (x1 % 64),.string (nm47 (x2 % 4).toNat),.string ⟨#[]⟩,.string ⟨#[]⟩] 98))
 rw [HZ.out] at kb ⊢
 generalize (W.alloc (.cells #[.int .i64 id,.int .i64 (1 + x0 % 3),.int .i64 (x1 % 64),.string (nm47 (x2 % 4).toNat),.string ⟨#[]⟩,.string ⟨#[]⟩] 98)).drew = W2 at *
 clear mv p0 p1 p2 c2 n0 n1 HB HZ d0 d1
 have q0:W2.cell? ⟨w.heap.size + 3,0,none⟩ = some (.int .i64 id):=(blk_cell kb 0).trans rfl
 have q1:W2.cell? ⟨w.heap.size + 3,1,none⟩ = some (.int .i64 (1 + x0 % 3)):=(blk_cell kb 1).trans rfl
 have q2:W2.cell? ⟨w.heap.size + 3,2,none⟩ = some (.int .i64 (x1 % 64)):=(blk_cell kb 2).trans rfl
 have q3:W2.cell? ⟨w.heap.size + 3,3,none⟩ = some (.string (nm47 (x2 % 4).toNat)):=(blk_cell kb 3).trans rfl
 have q4:W2.cell? ⟨w.heap.size + 3,4,none⟩ = some (.string ⟨#[]⟩):=(blk_cell kb 4).trans rfl
 have q5:W2.cell? ⟨w.heap.size + 3,5,none⟩ = some (.string ⟨#[]⟩):=(blk_cell kb 5).trans rfl
 have f4:=blk_frozen kb 4
 have f5:=blk_frozen kb 5
 have HZ:=Aside0.mk hz2
 have KZ:=Aside0.mk kz
 clear kb hz2 kz
 have l0:w.heap.size < W2.heap.size:=by have:=HZ.out;omega
 have l1:w.heap.size + 3 < W2.heap.size:=by have:=HZ.out;omega
 have l2:w.heap.size + 1 < W2.heap.size:=by have:=HZ.out;omega
 have m0:w.heap.size ≠ W2.heap.size:=by have:=HZ.out;omega
 have m2:w.heap.size + 1 ≠ W2.heap.size:=by have:=HZ.out;omega
 have m1:w.heap.size + 3 ≠ W2.heap.size:=by have:=HZ.out;omega
 by_cases hk:x0 % 3 = 0
 ·have HK:=Aside0.mk hk
  rcases (show x4 % 3 = 0 ∨ x4 % 3 = 1 ∨ x4 % 3 = 2 by omega) with h4 | h4 | h4
  ·have E4:=Aside0.mk h4
   have HK1:=Aside0.mk hk
   have h0:(1 + x0 % 3 == 1) = true:=beq_iff_eq.mpr (by omega)
   have KZ3:=Aside0.mk (blk_far KZ.out (p:=⟨w.heap.size + 3,5,none⟩) (by simp) (.string ⟨#[118,49]⟩))
   have HB3:=Aside0.mk (HB2.out.setCell (p:=⟨w.heap.size + 3,5,none⟩) (by simp) (.string ⟨#[118,49]⟩))
   clear c3 e0 e1 p3 hk
   go_wp2
   have kf:=blk_alloc (fill6 KZ3.out (.int .i64 id) (.int .i64 (1 + x0 % 3)) (.int .i64 (x1 % 64)) (.string (nm47 (x2 % 4).toNat)) (.string ⟨#[]⟩) (.string ⟨#[118,49]⟩)) (.cells #[.string ⟨#[118,49]⟩,.string ⟨#[118,50]⟩,.string ⟨#[118,51]⟩] 9)
   have hb:=below_alloc (below6 (g:=w.heap.size + 1) HB3.out (by omega) (.int .i64 id) (.int .i64 (1 + x0 % 3)) (.int .i64 (x1 % 64)) (.string (nm47 (x2 % 4).toNat)) (.string ⟨#[]⟩) (.string ⟨#[118,49]⟩)) (.cells #[.string ⟨#[118,49]⟩,.string ⟨#[118,50]⟩,.string ⟨#[118,51]⟩] 9)
   have t0:((((((((W2.setCell ⟨w.heap.size + 3,5,none⟩ (.string ⟨#[118,49]⟩)).setCell ⟨w.heap.size + 1,0,none⟩ (.int .i64 id)).setCell ⟨w.heap.size + 1,1,none⟩ (.int .i64 (1 + x0 % 3))).setCell ⟨w.heap.size + 1,2,none⟩ (.int .i64 (x1 % 64))).setCell ⟨w.heap.size + 1,3,none⟩ (.string (nm47 (x2 % 4).toNat))).setCell ⟨w.heap.size + 1,4,none⟩ (.string ⟨#[]⟩)).setCell ⟨w.heap.size + 1,5,none⟩ (.string ⟨#[118,49]⟩)).alloc (.cells #[.string ⟨#[118,49]⟩,.string ⟨#[118,50]⟩,.string ⟨#[118,51]⟩] 9)).cell? ⟨w.heap.size + 1,0,none⟩ = some (.int .i64 id):=(blk_cell kf 0).trans rfl
   have t1:((((((((W2.setCell ⟨w.heap.size + 3,5,none⟩ (.string ⟨#[118,49]⟩)).setCell ⟨w.heap.size + 1,0,none⟩ (.int .i64 id)).setCell ⟨w.heap.size + 1,1,none⟩ (.int .i64 (1 + x0 % 3))).setCell ⟨w.heap.size + 1,2,none⟩ (.int .i64 (x1 % 64))).setCell ⟨w.heap.size + 1,3,none⟩ (.string (nm47 (x2 % 4).toNat))).setCell ⟨w.heap.size + 1,4,none⟩ (.string ⟨#[]⟩)).setCell ⟨w.heap.size + 1,5,none⟩ (.string ⟨#[118,49]⟩)).alloc (.cells #[.string ⟨#[118,49]⟩,.string ⟨#[118,50]⟩,.string ⟨#[118,51]⟩] 9)).cell? ⟨w.heap.size + 1,1,none⟩ = some (.int .i64 (1 + x0 % 3)):=(blk_cell kf 1).trans rfl
   have t2:((((((((W2.setCell ⟨w.heap.size + 3,5,none⟩ (.string ⟨#[118,49]⟩)).setCell ⟨w.heap.size + 1,0,none⟩ (.int .i64 id)).setCell ⟨w.heap.size + 1,1,none⟩ (.int .i64 (1 + x0 % 3))).setCell ⟨w.heap.size + 1,2,none⟩ (.int .i64 (x1 % 64))).setCell ⟨w.heap.size + 1,3,none⟩ (.string (nm47 (x2 % 4).toNat))).setCell ⟨w.heap.size + 1,4,none⟩ (.string ⟨#[]⟩)).setCell ⟨w.heap.size + 1,5,none⟩ (.string ⟨#[118,49]⟩)).alloc (.cells #[.string ⟨#[118,49]⟩,.string ⟨#[118,50]⟩,.string ⟨#[118,51]⟩] 9)).cell? ⟨w.heap.size + 1,2,none⟩ = some (.int .i64 (x1 % 64)):=(blk_cell kf 2).trans rfl
   have t3:((((((((W2.setCell ⟨w.heap.size + 3,5,none⟩ (.string ⟨#[118,49]⟩)).setCell ⟨w.heap.size + 1,0,none⟩ (.int .i64 id)).setCell ⟨w.heap.size + 1,1,none⟩ (.int .i64 (1 + x0 % 3))).setCell ⟨w.heap.size + 1,2,none⟩ (.int .i64 (x1 % 64))).setCell ⟨w.heap.size + 1,3,none⟩ (.string (nm47 (x2 % 4).toNat))).setCell ⟨w.heap.size + 1,4,none⟩ (.string ⟨#[]⟩)).setCell ⟨w.heap.size + 1,5,none⟩ (.string ⟨#[118,49]⟩)).alloc (.cells #[.string ⟨#[118,49]⟩,.string ⟨#[118,50]⟩,.string ⟨#[118,51]⟩] 9)).cell? ⟨w.heap.size + 1,3,none⟩ = some (.string (nm47 (x2 % 4).toNat)):=(blk_cell kf 3).trans rfl
   have t4:((((((((W2.setCell ⟨w.heap.size + 3,5,none⟩ (.string ⟨#[118,49]⟩)).setCell ⟨w.heap.size + 1,0,none⟩ (.int .i64 id)).setCell ⟨w.heap.size + 1,1,none⟩ (.int .i64 (1 + x0 % 3))).setCell ⟨w.heap.size + 1,2,none⟩ (.int .i64 (x1 % 64))).setCell ⟨w.heap.size + 1,3,none⟩ (.string (nm47 (x2 % 4).toNat))).setCell ⟨w.heap.size + 1,4,none⟩ (.string ⟨#[]⟩)).setCell ⟨w.heap.size + 1,5,none⟩ (.string ⟨#[118,49]⟩)).alloc (.cells #[.string ⟨#[118,49]⟩,.string ⟨#[118,50]⟩,.string ⟨#[118,51]⟩] 9)).cell? ⟨w.heap.size + 1,4,none⟩ = some (.string ⟨#[]⟩):=(blk_cell kf 4).trans rfl
   have t5:((((((((W2.setCell ⟨w.heap.size + 3,5,none⟩ (.string ⟨#[118,49]⟩)).setCell ⟨w.heap.size + 1,0,none⟩ (.int .i64 id)).setCell ⟨w.heap.size + 1,1,none⟩ (.int .i64 (1 + x0 % 3))).setCell ⟨w.heap.size + 1,2,none⟩ (.int .i64 (x1 % 64))).setCell ⟨w.heap.size + 1,3,none⟩ (.string (nm47 (x2 % 4).toNat))).setCell ⟨w.heap.size + 1,4,none⟩ (.string ⟨#[]⟩)).setCell ⟨w.heap.size + 1,5,none⟩ (.string ⟨#[118,49]⟩)).alloc (.cells #[.string ⟨#[118,49]⟩,.string ⟨#[118,50]⟩,.string ⟨#[118,51]⟩] 9)).cell? ⟨w.heap.size + 1,5,none⟩ = some (.string ⟨#[118,49]⟩):=(blk_cell kf 5).trans rfl
   generalize ((((((((W2.setCell ⟨w.heap.size + 3,5,none⟩ (.string ⟨#[118,49]⟩)).setCell ⟨w.heap.size + 1,0,none⟩ (.int .i64 id)).setCell ⟨w.heap.size + 1,1,none⟩ (.int .i64 (1 + x0 % 3))).setCell ⟨w.heap.size + 1,2,none⟩ (.int .i64 (x1 % 64))).setCell ⟨w.heap.size + 1,3,none⟩ (.string (nm47 (x2 % 4).toNat))).setCell ⟨w.heap.size + 1,4,none⟩ (.string ⟨#[]⟩)).setCell ⟨w.heap.size + 1,5,none⟩ (.string ⟨#[118,49]⟩)).alloc (.cells #[.string ⟨#[118,49]⟩,.string ⟨#[118,50]⟩,.string ⟨#[118,51]⟩] 9)) = W4 at *
   refine bodyPost_ret (v:=.agg (chgVals r)) ?_ rfl ⟨rfl,hb⟩
   rw [EO.out,if_pos HK.out]
   simp [results,Tryz.results66,go_sem,t0,t1,t2,t3,t4,t5]
   simp [E4.out,ver47,HK.out]
  ·have E4:=Aside0.mk h4
   have HK1:=Aside0.mk hk
   have h0:(1 + x0 % 3 == 1) = true:=beq_iff_eq.mpr (by omega)
   have KZ3:=Aside0.mk (blk_far KZ.out (p:=⟨w.heap.size + 3,5,none⟩) (by simp) (.string ⟨#[118,50]⟩))
   have HB3:=Aside0.mk (HB2.out.setCell (p:=⟨w.heap.size + 3,5,none⟩) (by simp) (.string ⟨#[118,50]⟩))
   clear c3 e0 e1 p3 hk
   go_wp2
   have kf:=blk_alloc (fill6 KZ3.out (.int .i64 id) (.int .i64 (1 + x0 % 3)) (.int .i64 (x1 % 64)) (.string (nm47 (x2 % 4).toNat)) (.string ⟨#[]⟩) (.string ⟨#[118,50]⟩)) (.cells #[.string ⟨#[118,49]⟩,.string ⟨#[118,50]⟩,.string ⟨#[118,51]⟩] 9)
   have hb:=below_alloc (below6 (g:=w.heap.size + 1) HB3.out (by omega) (.int .i64 id) (.int .i64 (1 + x0 % 3)) (.int .i64 (x1 % 64)) (.string (nm47 (x2 % 4).toNat)) (.string ⟨#[]⟩) (.string ⟨#[118,50]⟩)) (.cells #[.string ⟨#[118,49]⟩,.string ⟨#[118,50]⟩,.string ⟨#[118,51]⟩] 9)
   have t0:((((((((W2.setCell ⟨w.heap.size + 3,5,none⟩ (.string ⟨#[118,50]⟩)).setCell ⟨w.heap.size + 1,0,none⟩ (.int .i64 id)).setCell ⟨w.heap.size + 1,1,none⟩ (.int .i64 (1 + x0 % 3))).setCell ⟨w.heap.size + 1,2,none⟩ (.int .i64 (x1 % 64))).setCell ⟨w.heap.size + 1,3,none⟩ (.string (nm47 (x2 % 4).toNat))).setCell ⟨w.heap.size + 1,4,none⟩ (.string ⟨#[]⟩)).setCell ⟨w.heap.size + 1,5,none⟩ (.string ⟨#[118,50]⟩)).alloc (.cells #[.string ⟨#[118,49]⟩,.string ⟨#[118,50]⟩,.string ⟨#[118,51]⟩] 9)).cell? ⟨w.heap.size + 1,0,none⟩ = some (.int .i64 id):=(blk_cell kf 0).trans rfl
   have t1:((((((((W2.setCell ⟨w.heap.size + 3,5,none⟩ (.string ⟨#[118,50]⟩)).setCell ⟨w.heap.size + 1,0,none⟩ (.int .i64 id)).setCell ⟨w.heap.size + 1,1,none⟩ (.int .i64 (1 + x0 % 3))).setCell ⟨w.heap.size + 1,2,none⟩ (.int .i64 (x1 % 64))).setCell ⟨w.heap.size + 1,3,none⟩ (.string (nm47 (x2 % 4).toNat))).setCell ⟨w.heap.size + 1,4,none⟩ (.string ⟨#[]⟩)).setCell ⟨w.heap.size + 1,5,none⟩ (.string ⟨#[118,50]⟩)).alloc (.cells #[.string ⟨#[118,49]⟩,.string ⟨#[118,50]⟩,.string ⟨#[118,51]⟩] 9)).cell? ⟨w.heap.size + 1,1,none⟩ = some (.int .i64 (1 + x0 % 3)):=(blk_cell kf 1).trans rfl
   have t2:((((((((W2.setCell ⟨w.heap.size + 3,5,none⟩ (.string ⟨#[118,50]⟩)).setCell ⟨w.heap.size + 1,0,none⟩ (.int .i64 id)).setCell ⟨w.heap.size + 1,1,none⟩ (.int .i64 (1 + x0 % 3))).setCell ⟨w.heap.size + 1,2,none⟩ (.int .i64 (x1 % 64))).setCell ⟨w.heap.size + 1,3,none⟩ (.string (nm47 (x2 % 4).toNat))).setCell ⟨w.heap.size + 1,4,none⟩ (.string ⟨#[]⟩)).setCell ⟨w.heap.size + 1,5,none⟩ (.string ⟨#[118,50]⟩)).alloc (.cells #[.string ⟨#[118,49]⟩,.string ⟨#[118,50]⟩,.string ⟨#[118,51]⟩] 9)).cell? ⟨w.heap.size + 1,2,none⟩ = some (.int .i64 (x1 % 64)):=(blk_cell kf 2).trans rfl
   have t3:((((((((W2.setCell ⟨w.heap.size + 3,5,none⟩ (.string ⟨#[118,50]⟩)).setCell ⟨w.heap.size + 1,0,none⟩ (.int .i64 id)).setCell ⟨w.heap.size + 1,1,none⟩ (.int .i64 (1 + x0 % 3))).setCell ⟨w.heap.size + 1,2,none⟩ (.int .i64 (x1 % 64))).setCell ⟨w.heap.size + 1,3,none⟩ (.string (nm47 (x2 % 4).toNat))).setCell ⟨w.heap.size + 1,4,none⟩ (.string ⟨#[]⟩)).setCell ⟨w.heap.size + 1,5,none⟩ (.string ⟨#[118,50]⟩)).alloc (.cells #[.string ⟨#[118,49]⟩,.string ⟨#[118,50]⟩,.string ⟨#[118,51]⟩] 9)).cell? ⟨w.heap.size + 1,3,none⟩ = some (.string (nm47 (x2 % 4).toNat)):=(blk_cell kf 3).trans rfl
   have t4:((((((((W2.setCell ⟨w.heap.size + 3,5,none⟩ (.string ⟨#[118,50]⟩)).setCell ⟨w.heap.size + 1,0,none⟩ (.int .i64 id)).setCell ⟨w.heap.size + 1,1,none⟩ (.int .i64 (1 + x0 % 3))).setCell ⟨w.heap.size + 1,2,none⟩ (.int .i64 (x1 % 64))).setCell ⟨w.heap.size + 1,3,none⟩ (.string (nm47 (x2 % 4).toNat))).setCell ⟨w.heap.size + 1,4,none⟩ (.string ⟨#[]⟩)).setCell ⟨w.heap.size + 1,5,none⟩ (.string ⟨#[118,50]⟩)).alloc (.cells #[.string ⟨#[118,49]⟩,.string ⟨#[118,50]⟩,.string ⟨#[118,51]⟩] 9)).cell? ⟨w.heap.size + 1,4,none⟩ = some (.string ⟨#[]⟩):=(blk_cell kf 4).trans rfl
   have t5:((((((((W2.setCell ⟨w.heap.size + 3,5,none⟩ (.string ⟨#[118,50]⟩)).setCell ⟨w.heap.size + 1,0,none⟩ (.int .i64 id)).setCell ⟨w.heap.size + 1,1,none⟩ (.int .i64 (1 + x0 % 3))).setCell ⟨w.heap.size + 1,2,none⟩ (.int .i64 (x1 % 64))).setCell ⟨w.heap.size + 1,3,none⟩ (.string (nm47 (x2 % 4).toNat))).setCell ⟨w.heap.size + 1,4,none⟩ (.string ⟨#[]⟩)).setCell ⟨w.heap.size + 1,5,none⟩ (.string ⟨#[118,50]⟩)).alloc (.cells #[.string ⟨#[118,49]⟩,.string ⟨#[118,50]⟩,.string ⟨#[118,51]⟩] 9)).cell? ⟨w.heap.size + 1,5,none⟩ = some (.string ⟨#[118,50]⟩):=(blk_cell kf 5).trans rfl
   generalize ((((((((W2.setCell ⟨w.heap.size + 3,5,none⟩ (.string ⟨#[118,50]⟩)).setCell ⟨w.heap.size + 1,0,none⟩ (.int .i64 id)).setCell ⟨w.heap.size + 1,1,none⟩ (.int .i64 (1 + x0 % 3))).setCell ⟨w.heap.size + 1,2,none⟩ (.int .i64 (x1 % 64))).setCell ⟨w.heap.size + 1,3,none⟩ (.string (nm47 (x2 % 4).toNat))).setCell ⟨w.heap.size + 1,4,none⟩ (.string ⟨#[]⟩)).setCell ⟨w.heap.size + 1,5,none⟩ (.string ⟨#[118,50]⟩)).alloc (.cells #[.string ⟨#[118,49]⟩,.string ⟨#[118,50]⟩,.string ⟨#[118,51]⟩] 9)) = W4 at *
   refine bodyPost_ret (v:=.agg (chgVals r)) ?_ rfl ⟨rfl,hb⟩
   rw [EO.out,if_pos HK.out]
   simp [results,Tryz.results66,go_sem,t0,t1,t2,t3,t4,t5]
   simp [E4.out,ver47,HK.out]
  ·have E4:=Aside0.mk h4
   have HK1:=Aside0.mk hk
   have h0:(1 + x0 % 3 == 1) = true:=beq_iff_eq.mpr (by omega)
   have KZ3:=Aside0.mk (blk_far KZ.out (p:=⟨w.heap.size + 3,5,none⟩) (by simp) (.string ⟨#[118,51]⟩))
   have HB3:=Aside0.mk (HB2.out.setCell (p:=⟨w.heap.size + 3,5,none⟩) (by simp) (.string ⟨#[118,51]⟩))
   clear c3 e0 e1 p3 hk
   go_wp2
   have kf:=blk_alloc (fill6 KZ3.out (.int .i64 id) (.int .i64 (1 + x0 % 3)) (.int .i64 (x1 % 64)) (.string (nm47 (x2 % 4).toNat)) (.string ⟨#[]⟩) (.string ⟨#[118,51]⟩)) (.cells #[.string ⟨#[118,49]⟩,.string ⟨#[118,50]⟩,.string ⟨#[118,51]⟩] 9)
   have hb:=below_alloc (below6 (g:=w.heap.size + 1) HB3.out (by omega) (.int .i64 id) (.int .i64 (1 + x0 % 3)) (.int .i64 (x1 % 64)) (.string (nm47 (x2 % 4).toNat)) (.string ⟨#[]⟩) (.string ⟨#[118,51]⟩)) (.cells #[.string ⟨#[118,49]⟩,.string ⟨#[118,50]⟩,.string ⟨#[118,51]⟩] 9)
   have t0:((((((((W2.setCell ⟨w.heap.size + 3,5,none⟩ (.string ⟨#[118,51]⟩)).setCell ⟨w.heap.size + 1,0,none⟩ (.int .i64 id)).setCell ⟨w.heap.size + 1,1,none⟩ (.int .i64 (1 + x0 % 3))).setCell ⟨w.heap.size + 1,2,none⟩ (.int .i64 (x1 % 64))).setCell ⟨w.heap.size + 1,3,none⟩ (.string (nm47 (x2 % 4).toNat))).setCell ⟨w.heap.size + 1,4,none⟩ (.string ⟨#[]⟩)).setCell ⟨w.heap.size + 1,5,none⟩ (.string ⟨#[118,51]⟩)).alloc (.cells #[.string ⟨#[118,49]⟩,.string ⟨#[118,50]⟩,.string ⟨#[118,51]⟩] 9)).cell? ⟨w.heap.size + 1,0,none⟩ = some (.int .i64 id):=(blk_cell kf 0).trans rfl
   have t1:((((((((W2.setCell ⟨w.heap.size + 3,5,none⟩ (.string ⟨#[118,51]⟩)).setCell ⟨w.heap.size + 1,0,none⟩ (.int .i64 id)).setCell ⟨w.heap.size + 1,1,none⟩ (.int .i64 (1 + x0 % 3))).setCell ⟨w.heap.size + 1,2,none⟩ (.int .i64 (x1 % 64))).setCell ⟨w.heap.size + 1,3,none⟩ (.string (nm47 (x2 % 4).toNat))).setCell ⟨w.heap.size + 1,4,none⟩ (.string ⟨#[]⟩)).setCell ⟨w.heap.size + 1,5,none⟩ (.string ⟨#[118,51]⟩)).alloc (.cells #[.string ⟨#[118,49]⟩,.string ⟨#[118,50]⟩,.string ⟨#[118,51]⟩] 9)).cell? ⟨w.heap.size + 1,1,none⟩ = some (.int .i64 (1 + x0 % 3)):=(blk_cell kf 1).trans rfl
   have t2:((((((((W2.setCell ⟨w.heap.size + 3,5,none⟩ (.string ⟨#[118,51]⟩)).setCell ⟨w.heap.size + 1,0,none⟩ (.int .i64 id)).setCell ⟨w.heap.size + 1,1,none⟩ (.int .i64 (1 + x0 % 3))).setCell ⟨w.heap.size + 1,2,none⟩ (.int .i64 (x1 % 64))).setCell ⟨w.heap.size + 1,3,none⟩ (.string (nm47 (x2 % 4).toNat))).setCell ⟨w.heap.size + 1,4,none⟩ (.string ⟨#[]⟩)).setCell ⟨w.heap.size + 1,5,none⟩ (.string ⟨#[118,51]⟩)).alloc (.cells #[.string ⟨#[118,49]⟩,.string ⟨#[118,50]⟩,.string ⟨#[118,51]⟩] 9)).cell? ⟨w.heap.size + 1,2,none⟩ = some (.int .i64 (x1 % 64)):=(blk_cell kf 2).trans rfl
   have t3:((((((((W2.setCell ⟨w.heap.size + 3,5,none⟩ (.string ⟨#[118,51]⟩)).setCell ⟨w.heap.size + 1,0,none⟩ (.int .i64 id)).setCell ⟨w.heap.size + 1,1,none⟩ (.int .i64 (1 + x0 % 3))).setCell ⟨w.heap.size + 1,2,none⟩ (.int .i64 (x1 % 64))).setCell ⟨w.heap.size + 1,3,none⟩ (.string (nm47 (x2 % 4).toNat))).setCell ⟨w.heap.size + 1,4,none⟩ (.string ⟨#[]⟩)).setCell ⟨w.heap.size + 1,5,none⟩ (.string ⟨#[118,51]⟩)).alloc (.cells #[.string ⟨#[118,49]⟩,.string ⟨#[118,50]⟩,.string ⟨#[118,51]⟩] 9)).cell? ⟨w.heap.size + 1,3,none⟩ = some (.string (nm47 (x2 % 4).toNat)):=(blk_cell kf 3).trans rfl
   have t4:((((((((W2.setCell ⟨w.heap.size + 3,5,none⟩ (.string ⟨#[118,51]⟩)).setCell ⟨w.heap.size + 1,0,none⟩ (.int .i64 id)).setCell ⟨w.heap.size + 1,1,none⟩ (.int .i64 (1 + x0 % 3))).setCell ⟨w.heap.size + 1,2,none⟩ (.int .i64 (x1 % 64))).setCell ⟨w.heap.size + 1,3,none⟩ (.string (nm47 (x2 % 4).toNat))).setCell ⟨w.heap.size + 1,4,none⟩ (.string ⟨#[]⟩)).setCell ⟨w.heap.size + 1,5,none⟩ (.string ⟨#[118,51]⟩)).alloc (.cells #[.string ⟨#[118,49]⟩,.string ⟨#[118,50]⟩,.string ⟨#[118,51]⟩] 9)).cell? ⟨w.heap.size + 1,4,none⟩ = some (.string ⟨#[]⟩):=(blk_cell kf 4).trans rfl
   have t5:((((((((W2.setCell ⟨w.heap.size + 3,5,none⟩ (.string ⟨#[118,51]⟩)).setCell ⟨w.heap.size + 1,0,none⟩ (.int .i64 id)).setCell ⟨w.heap.size + 1,1,none⟩ (.int .i64 (1 + x0 % 3))).setCell ⟨w.heap.size + 1,2,none⟩ (.int .i64 (x1 % 64))).setCell ⟨w.heap.size + 1,3,none⟩ (.string (nm47 (x2 % 4).toNat))).setCell ⟨w.heap.size + 1,4,none⟩ (.string ⟨#[]⟩)).setCell ⟨w.heap.size + 1,5,none⟩ (.string ⟨#[118,51]⟩)).alloc (.cells #[.string ⟨#[118,49]⟩,.string ⟨#[118,50]⟩,.string ⟨#[118,51]⟩] 9)).cell? ⟨w.heap.size + 1,5,none⟩ = some (.string ⟨#[118,51]⟩):=(blk_cell kf 5).trans rfl
   generalize ((((((((W2.setCell ⟨w.heap.size + 3,5,none⟩ (.string ⟨#[118,51]⟩)).setCell ⟨w.heap.size + 1,0,none⟩ (.int .i64 id)).setCell ⟨w.heap.size + 1,1,none⟩ (.int .i64 (1 + x0 % 3))).setCell ⟨w.heap.size + 1,2,none⟩ (.int .i64 (x1 % 64))).setCell ⟨w.heap.size + 1,3,none⟩ (.string (nm47 (x2 % 4).toNat))).setCell ⟨w.heap.size + 1,4,none⟩ (.string ⟨#[]⟩)).setCell ⟨w.heap.size + 1,5,none⟩ (.string ⟨#[118,51]⟩)).alloc (.cells #[.string ⟨#[118,49]⟩,.string ⟨#[118,50]⟩,.string ⟨#[118,51]⟩] 9)) = W4 at *
   refine bodyPost_ret (v:=.agg (chgVals r)) ?_ rfl ⟨rfl,hb⟩
   rw [EO.out,if_pos HK.out]
   simp [results,Tryz.results66,go_sem,t0,t1,t2,t3,t4,t5]
   simp [E4.out,ver47,HK.out]
 ·have HK:=Aside0.mk hk
  have h0:(1 + x0 % 3 == 1) = false:=beq_eq_false_iff_ne.mpr (by omega)
  have KZ3:=Aside0.mk (blk_far KZ.out (p:=⟨w.heap.size + 3,4,none⟩) (by simp) (.string (nm47 (x3 % 4).toNat)))
  have HB3:=Aside0.mk (HB2.out.setCell (p:=⟨w.heap.size + 3,4,none⟩) (by simp) (.string (nm47 (x3 % 4).toNat)))
  clear hk p4 f0 f1
  go_wp2
  have kf:=fill6 KZ3.out (.int .i64 id) (.int .i64 (1 + x0 % 3)) (.int .i64 (x1 % 64)) (.string (nm47 (x2 % 4).toNat)) (.string (nm47 (x3 % 4).toNat)) (.string ⟨#[]⟩)
  have hb:=below6 (g:=w.heap.size + 1) HB3.out (by omega) (.int .i64 id) (.int .i64 (1 + x0 % 3)) (.int .i64 (x1 % 64)) (.string (nm47 (x2 % 4).toNat)) (.string (nm47 (x3 % 4).toNat)) (.string ⟨#[]⟩)
  have t0:(((((((W2.setCell ⟨w.heap.size + 3,4,none⟩ (.string (nm47 (x3 % 4).toNat))).setCell ⟨w.heap.size + 1,0,none⟩ (.int .i64 id)).setCell ⟨w.heap.size + 1,1,none⟩ (.int .i64 (1 + x0 % 3))).setCell ⟨w.heap.size + 1,2,none⟩ (.int .i64 (x1 % 64))).setCell ⟨w.heap.size + 1,3,none⟩ (.string (nm47 (x2 % 4).toNat))).setCell ⟨w.heap.size + 1,4,none⟩ (.string (nm47 (x3 % 4).toNat))).setCell ⟨w.heap.size + 1,5,none⟩ (.string ⟨#[]⟩)).cell? ⟨w.heap.size + 1,0,none⟩ = some (.int .i64 id):=(blk_cell kf 0).trans rfl
  have t1:(((((((W2.setCell ⟨w.heap.size + 3,4,none⟩ (.string (nm47 (x3 % 4).toNat))).setCell ⟨w.heap.size + 1,0,none⟩ (.int .i64 id)).setCell ⟨w.heap.size + 1,1,none⟩ (.int .i64 (1 + x0 % 3))).setCell ⟨w.heap.size + 1,2,none⟩ (.int .i64 (x1 % 64))).setCell ⟨w.heap.size + 1,3,none⟩ (.string (nm47 (x2 % 4).toNat))).setCell ⟨w.heap.size + 1,4,none⟩ (.string (nm47 (x3 % 4).toNat))).setCell ⟨w.heap.size + 1,5,none⟩ (.string ⟨#[]⟩)).cell? ⟨w.heap.size + 1,1,none⟩ = some (.int .i64 (1 + x0 % 3)):=(blk_cell kf 1).trans rfl
  have t2:(((((((W2.setCell ⟨w.heap.size + 3,4,none⟩ (.string (nm47 (x3 % 4).toNat))).setCell ⟨w.heap.size + 1,0,none⟩ (.int .i64 id)).setCell ⟨w.heap.size + 1,1,none⟩ (.int .i64 (1 + x0 % 3))).setCell ⟨w.heap.size + 1,2,none⟩ (.int .i64 (x1 % 64))).setCell ⟨w.heap.size + 1,3,none⟩ (.string (nm47 (x2 % 4).toNat))).setCell ⟨w.heap.size + 1,4,none⟩ (.string (nm47 (x3 % 4).toNat))).setCell ⟨w.heap.size + 1,5,none⟩ (.string ⟨#[]⟩)).cell? ⟨w.heap.size + 1,2,none⟩ = some (.int .i64 (x1 % 64)):=(blk_cell kf 2).trans rfl
  have t3:(((((((W2.setCell ⟨w.heap.size + 3,4,none⟩ (.string (nm47 (x3 % 4).toNat))).setCell ⟨w.heap.size + 1,0,none⟩ (.int .i64 id)).setCell ⟨w.heap.size + 1,1,none⟩ (.int .i64 (1 + x0 % 3))).setCell ⟨w.heap.size + 1,2,none⟩ (.int .i64 (x1 % 64))).setCell ⟨w.heap.size + 1,3,none⟩ (.string (nm47 (x2 % 4).toNat))).setCell ⟨w.heap.size + 1,4,none⟩ (.string (nm47 (x3 % 4).toNat))).setCell ⟨w.heap.size + 1,5,none⟩ (.string ⟨#[]⟩)).cell? ⟨w.heap.size + 1,3,none⟩ = some (.string (nm47 (x2 % 4).toNat)):=(blk_cell kf 3).trans rfl
  have t4:(((((((W2.setCell ⟨w.heap.size + 3,4,none⟩ (.string (nm47 (x3 % 4).toNat))).setCell ⟨w.heap.size + 1,0,none⟩ (.int .i64 id)).setCell ⟨w.heap.size + 1,1,none⟩ (.int .i64 (1 + x0 % 3))).setCell ⟨w.heap.size + 1,2,none⟩ (.int .i64 (x1 % 64))).setCell ⟨w.heap.size + 1,3,none⟩ (.string (nm47 (x2 % 4).toNat))).setCell ⟨w.heap.size + 1,4,none⟩ (.string (nm47 (x3 % 4).toNat))).setCell ⟨w.heap.size + 1,5,none⟩ (.string ⟨#[]⟩)).cell? ⟨w.heap.size + 1,4,none⟩ = some (.string (nm47 (x3 % 4).toNat)):=(blk_cell kf 4).trans rfl
  have t5:(((((((W2.setCell ⟨w.heap.size + 3,4,none⟩ (.string (nm47 (x3 % 4).toNat))).setCell ⟨w.heap.size + 1,0,none⟩ (.int .i64 id)).setCell ⟨w.heap.size + 1,1,none⟩ (.int .i64 (1 + x0 % 3))).setCell ⟨w.heap.size + 1,2,none⟩ (.int .i64 (x1 % 64))).setCell ⟨w.heap.size + 1,3,none⟩ (.string (nm47 (x2 % 4).toNat))).setCell ⟨w.heap.size + 1,4,none⟩ (.string (nm47 (x3 % 4).toNat))).setCell ⟨w.heap.size + 1,5,none⟩ (.string ⟨#[]⟩)).cell? ⟨w.heap.size + 1,5,none⟩ = some (.string ⟨#[]⟩):=(blk_cell kf 5).trans rfl
  generalize (((((((W2.setCell ⟨w.heap.size + 3,4,none⟩ (.string (nm47 (x3 % 4).toNat))).setCell ⟨w.heap.size + 1,0,none⟩ (.int .i64 id)).setCell ⟨w.heap.size + 1,1,none⟩ (.int .i64 (1 + x0 % 3))).setCell ⟨w.heap.size + 1,2,none⟩ (.int .i64 (x1 % 64))).setCell ⟨w.heap.size + 1,3,none⟩ (.string (nm47 (x2 % 4).toNat))).setCell ⟨w.heap.size + 1,4,none⟩ (.string (nm47 (x3 % 4).toNat))).setCell ⟨w.heap.size + 1,5,none⟩ (.string ⟨#[]⟩)) = W4 at *
  refine bodyPost_ret (v:=.agg (chgVals r)) ?_ rfl ⟨rfl,hb⟩
  rw [EO.out,if_neg HK.out]
  simp [results,Tryz.results66,go_sem,t0,t1,t2,t3,t4,t5]
def mkChgs (l:List S56) (k:Nat):List S98:=(List.range k).map fun (i:Nat)=>chgOf (rd_T56 l i) ((i:Int) + 1)
theorem mkChgs_succ (l:List S56) (k:Nat):mkChgs l (k + 1) = mkChgs l k ++ [chgOf (rd_T56 l k) ((k:Int) + 1)]:=by simp [mkChgs,List.range_succ]
theorem mkChgs_len (l:List S56) (k:Nat):(mkChgs l k).length = k:=by simp [mkChgs]
def chgs47 (l:List S56):List S98:=srt47 (mkChgs l (min l.length 12))
theorem cells93 {w:World} {A:Option Addr} {n:Nat} {xs:List S56} (h:Kd.C k56 w A n xs) (i:Nat) (hi:i < n):∃ ad,A = some ad∧w.cell? (ad.add (i * 5)) = some (.int .u8 (rd_T56 xs i).f0)∧w.cell? ⟨(ad.add (i * 5)).block,(ad.add (i * 5)).off + 1,none⟩ = some (.int .u8 (rd_T56 xs i).f1)∧w.cell? ⟨(ad.add (i * 5)).block,(ad.add (i * 5)).off + 2,none⟩ = some (.int .u8 (rd_T56 xs i).f2)∧w.cell? ⟨(ad.add (i * 5)).block,(ad.add (i * 5)).off + 3,none⟩ = some (.int .u8 (rd_T56 xs i).f3)∧w.cell? ⟨(ad.add (i * 5)).block,(ad.add (i * 5)).off + 4,none⟩ = some (.int .u8 (rd_T56 xs i).f4):=by
 have:=at_T56 h (i:Int) (by omega) (by omega)
 simpa only [Int.toNat_natCast] using this
theorem ok93 {l:List S56} (h:∀ x ∈ l,U8 x.f0∧U8 x.f1∧U8 x.f2∧U8 x.f3∧U8 x.f4) (i:Nat) (hi:i < l.length):U8 (rd_T56 l i).f0∧U8 (rd_T56 l i).f1∧U8 (rd_T56 l i).f2∧U8 (rd_T56 l i).f3∧U8 (rd_T56 l i).f4:=by
 have e:rd_T56 l (i:Int) = l[i]:=by unfold rd_T56;simp [List.getD_eq_getElem?_getD,hi]
 rw [e]
 exact h _ (List.getElem_mem hi)
set_option maxHeartbeats 8000000 in
set_option maxRecDepth 100000 in
theorem Changes_calls (A:Option Addr) (c:Nat) (l:List S56) (w:World) (hr:Kd.C k56 w A l.length l) (hok:∀ x ∈ l,U8 x.f0∧U8 x.f1∧U8 x.f2∧U8 x.f3∧U8 x.f4):
  Calls Tryz.prog 12 #[.slice A l.length c] w (RowOut k98 98 w (chgs47 l)):=by
 have hbig:l.length ≤ 9223372036854775807:=hr.2.1
 have HR:=Aside0.mk hr
 have HOK:=Aside0.mk hok
 clear hr hok
 go_enter Tryz.func12,Tryz.ntmps12
 go_wp2
 go_loopg [3,4] 12 (fun gg s3 s4 wr=>∃ i:Nat,i ≤ min l.length 12∧12 - i ≤ gg∧s4 = .int .i64 i∧Aside0 (Kd.R k98 98 wr w.heap.size (fun _=>True) s3 (mkChgs l i))∧Aside0 (Below w.heap.size w wr))
 case atStart=>exact ⟨0,Nat.zero_le _,by omega,rfl,⟨Kd.R_nil _ _ _ _ _⟩,⟨Below.refl _ _⟩⟩
 case round=>
  obtain ⟨i,hi,hgi,rfl,HO,HB⟩:=hrel
  have hi1:i ≤ l.length:=by omega
  have hi2:i ≤ 12:=by omega
  obtain ⟨A3,c3,e3⟩:=Kd.R_slice HO.out
  subst e3
  by_cases hlt:i < l.length∧i < 12
  ·obtain ⟨hl1,hl2⟩:=hlt
   obtain ⟨ad,e,h0,h1,h2,h3,h4⟩:=cells93 HR.out i hl1
   subst e
   have HX:=Aside0.mk (mkChgs_succ l i)
   have HL:=Aside0.mk (mkChgs_len l i)
   have HCH:=Aside0.mk (fun W=>change_calls (rd_T56 l (i:Int)) ((i:Int) + 1) W (ok93 HOK.out i hl1))
   generalize mkChgs l i = xs at HO HX HL
   generalize chgOf (rd_T56 l (i:Int)) ((i:Int) + 1) = y at HX HCH
   generalize rd_T56 l (i:Int) = x at h0 h1 h2 h3 h4 HCH
   obtain ⟨x0,x1,x2,x3,x4⟩:=x
   obtain ⟨y0,y1,y2,y3,y4,y5⟩:=y
   unfold stCells chgVals at HCH
   dsimp only at h0 h1 h2 h3 h4 HCH
   replace h0:=below_at HB.out h0
   replace h1:=below_at HB.out h1
   replace h2:=below_at HB.out h2
   replace h3:=below_at HB.out h3
   replace h4:=below_at HB.out h4
   have hz1:(i:Int) < (l.length:Int):=by omega
   have hz2:decide ((i:Int) < 12) = true:=by simp;omega
   clear hi
   go_wp2_with fail
   refine (HCH.out _).mono ?_
   rintro e w1 ⟨rfl,hb1⟩
   have HO1:=Aside0.mk (Kd.R_below HO.out hb1)
   have HB1:=Aside0.mk (below_step HB.out hb1)
   clear HO HB hb1 h0 h1 h2 h3 h4
   go_wp2_with (at_builtin;go_must (refine Kd.R_append k98 (w0:=w) w.heap.size rfl _ _ 31 98 _ 72 rfl Tryz.underlying31 info98 rfl (by decide) (by decide) (.slice A3 xs.length c3) xs ⟨y0,y1,y2,y3,y4,y5⟩ [.int .i64 y0,.int .i64 y1,.int .i64 y2,.string y3,.string y4,.string y5] (fun _=>True) (fun _=>False) rfl ?c4 (k98_mkM _ _ _ ⟨y0,y1,y2,y3,y4,y5⟩) (fun _ h=>h.elim) (fun _ _=>trivial) HO1.out HB1.out HB1.out.size ?c3 ?_;(case c4=>simp [go_sem]);(case c3=>rw [HL.out];omega);intro v2 w2 hr2 hb2 hg2 ho2;clear hg2 ho2;have HR2:=Aside0.mk hr2;have HB2:=Aside0.mk hb2;clear hr2 hb2))
   go_roundg (12 - (i + 1))
   case measure=>omega
   case rel=>exact ⟨i + 1,by omega,by omega,by go_num,⟨by rw [HX.out];exact HR2.out⟩,HB2⟩
  ·have HS:=Aside0.mk (fun W B H=>sorted_calls A3 c3 (mkChgs l i) W B H)
   have HE:Aside0 (chgs47 l = srt47 (mkChgs l i)):=⟨by unfold chgs47;rw [show min l.length 12 = i from by omega]⟩
   have HL:=Aside0.mk (mkChgs_len l i)
   have HK:=Aside0.mk (Kd.R_reads' HO.out).2.2
   generalize mkChgs l i = ys at HS HE HL HK HO
   by_cases hl1:i < l.length
   ·have hz1:(i:Int) < (l.length:Int):=by omega
    obtain rfl:i = 12:=by omega
    clear hi hlt
    go_wp2_with fail
    refine (HS.out _ HK.out (by rw [HL.out];omega)).mono ?_
    rintro e w1 ⟨v,rfl,hv,hb⟩
    go_wp2
    go_ret
    exact ⟨v,rfl,by rw [HE.out];exact Kd.R_lower hv HB.out.size,below_step HB.out hb⟩
   ·have hz1:decide (i < l.length) = false:=by simp;omega
    clear hi hlt
    go_wp2_with fail
    refine (HS.out _ HK.out (by rw [HL.out];omega)).mono ?_
    rintro e w1 ⟨v,rfl,hv,hb⟩
    go_wp2
    go_ret
    exact ⟨v,rfl,by rw [HE.out];exact Kd.R_lower hv HB.out.size,below_step HB.out hb⟩
end Go.Proofs.YtdadnapfecmmdaaGreat.P
namespace Go.Proofs.YtdadnapfecmmdaaGreat.P
set_option linter.unusedVariables false
set_option linter.unusedSimpArgs false
open Go.RowKit Go.Proofs.YtdadnapfecmmdaaGreatW.PrintWords Go.Proofs.YtdadnapfecmmdaaGreatW.PrintLast Go.Proofs.YtdadnapfecmmdaaGreatW.PrintMore
open Go.Proofs.YtdadnapfecmmdaaGreat.Hm
def cntName (m:List (ByteArray × Int)) (name:ByteArray):Int:=(mget m name).getD 0
def cntSum (m:List (ByteArray × Int)):List ByteArray→Int→Int
 | [],n=>n
 | x::r,n=>cntSum m r (wrap64 (n + wrap64 (1 + cntName m x)))
def cntMap:List S51→List (ByteArray × Int)
 | []=>[]
 | s::r=>mput (cntMap r) s.f0 (cntSum (cntMap r) s.f5 1)
theorem cntSum_step (m:List (ByteArray × Int)) (l:List ByteArray) (n:Int) (j:Nat) (h:j < l.length):cntSum m (l.drop j) n = cntSum m (l.drop (j + 1)) (wrap64 (n + wrap64 (1 + cntName m l[j]))):=by
 rw [List.drop_eq_getElem_cons h]
 rfl
theorem cntMap_step (l:List S51) (k:Nat) (h:k < l.length):cntMap (l.drop k) = mput (cntMap (l.drop (k + 1))) l[k].f0 (cntSum (cntMap (l.drop (k + 1))) l[k].f5 1):=by
 conv=>lhs;rw [List.drop_eq_getElem_cons h]
 rfl
def cntOf (l:List S51):Int:=cntName (cntMap l) (rd_T51 l 0).f0
theorem zero3:∀ w:World,(zeroValue 3).run Tryz.prog w = .ok (.int .i64 0) w:=fun _=>by kernel_rfl
theorem match_int (m:List (ByteArray × Int)) (x:ByteArray):((mget m x).elim (Value.int .i64 0) (Value.int .i64)) = Value.int .i64 (cntName m x):=by
 unfold cntName
 cases mget m x <;> rfl
theorem string_at {w:World} {A:Option Addr} {n:Nat} {xs:List ByteArray} (h:Kd.C Kd.string w A n xs) (i:Nat) (hi:i < xs.length):∃ ad,A = some ad∧w.cell? (ad.add i) = some (.string xs[i]):=by
 obtain ⟨ad,e,hc⟩:=h.2.2 (by have:=h.1;omega)
 obtain ⟨c,hl,hk,hcell⟩:=hc i xs[i] (by simp [hi])
 have hk':c = [.string xs[i]]:=hk
 subst hk'
 refine ⟨ad,e,?_⟩
 have:=hcell 0 _ rfl
 have h1:(Kd.string).sz = 1:=rfl
 rw [h1] at this
 simpa using this
abbrev Cfg.cells (c:Cfg) (p:CfgAt):Array Value:=#[.int .i64 c.seed,.slice p.A1 c.sv.length p.c1,.slice p.A2 c.off.length p.c2,.slice p.A3 c.ch.length p.c3,.slice p.A4 c.fl.length p.c4,.int .i64 c.sfrom,.int .i64 c.sto,.int .i64 c.per,.int .i64 c.delay,.int .i64 c.chunk,.int .i64 c.loss,.int .i64 c.rep]
set_option maxHeartbeats 4000000 in
set_option maxRecDepth 100000 in
theorem count_calls (c:Cfg) (p:CfgAt) (w:World) (hR:CfgR w p c) (hne:1 ≤ c.sv.length):
  Calls Tryz.prog 102 #[c.val p] w fun e w'=>e = .returned (.int .i64 (cntOf c.sv))∧Below w.heap.size w w':=by
 have HR:=Aside0.mk hR.r1
 have hbig:c.sv.length ≤ 9223372036854775807:=hR.r1.2.1
 clear hR
 obtain ⟨A1,c1,A2,c2,A3,c3,A4,c4⟩:=p
 have hmm:=@run_makeMap Tryz.prog
 change Aside0 (Kd.C k51 w A1 c.sv.length c.sv) at HR
 go_enter Tryz.func102,Tryz.ntmps102
 go_wp2
 go_loopg [4] c.sv.length (fun gg s4 wr=>∃ (k:Nat) (i:Int),k ≤ c.sv.length∧k ≤ gg∧s4 = .int .i64 i∧Aside0 (i = (k:Int) - 1)∧Aside0 (wr.heap[w.heap.size]? = some (.cells (c.cells ⟨A1,c1,A2,c2,A3,c3,A4,c4⟩) 36 (0,0)))∧Aside0 (MapIs wr (w.heap.size + 1) Value.string (Value.int .i64) (cntMap (c.sv.drop k)))∧Aside0 (Below w.heap.size w wr))
 case atStart=>
  refine ⟨c.sv.length,(c.sv.length:Int) - 1,Nat.le_refl _,Nat.le_refl _,by simp,⟨rfl⟩,⟨?_⟩,⟨?_⟩,⟨below_alloc (below_alloc (Below.refl _ _) _) _⟩⟩
  ·exact blk_alloc (blk_new w _) _
  ·have h:=MapIs.made (w.alloc (.cells (c.cells ⟨A1,c1,A2,c2,A3,c3,A4,c4⟩) 36)) Value.string (Value.int .i64)
   have h':MapIs ((w.alloc (.cells (c.cells ⟨A1,c1,A2,c2,A3,c3,A4,c4⟩) 36)).alloc (.map #[] 0)) (w.heap.size + 1) Value.string (Value.int .i64) ([]:List (ByteArray × Int)):=by simpa using h
   rw [List.drop_length]
   exact h'
 case round=>
  obtain ⟨k,i0,hk,hgk,rfl,HI,BK,HM,HB⟩:=hrel
  have q1:wr.cell? ⟨w.heap.size,1,none⟩ = some (.slice A1 c.sv.length c1):=(blk_cell BK.out 1).trans rfl
  cases k with
  | zero=>
   obtain rfl:i0 = -1:=by have:=HI.out;omega
   obtain ⟨ad,A5,c5,e,h0,_⟩:=at_T51 HR.out 0 (by omega) (by omega)
   subst e
   rw [show ad.add ((0:Int).toNat * 6) = ad from by simp [Addr.add]] at h0
   replace h0:=below_at HB.out h0
   have EO:Aside0 (cntOf c.sv = cntName (cntMap (c.sv.drop 0)) (rd_T51 c.sv 0).f0):=⟨rfl⟩
   go_wp2_with (first | (at_lookup;go_loud (refine wp_look rfl _ _ rfl Tryz.underlying193 Tryz.underlying9 enc_string HM.out rfl _ rfl (zero3 _) ?_);go_loud (rw [match_int])))
   go_ret
   exact ⟨by rw [EO.out];rfl,HB.out⟩
  | succ j=>
   obtain rfl:i0 = (j:Int):=by have:=HI.out;omega
   obtain ⟨ad,A5,c5,e,h0,_,_,_,_,h5,l5,k5⟩:=at_T51 HR.out (j:Int) (by omega) (by omega)
   subst e
   rw [rd_T51_get c.sv j (by omega)] at h0 h5 l5 k5
   simp only [Int.toNat_natCast] at h0 h5
   replace h0:=below_at HB.out h0
   replace h5:=below_at HB.out h5
   have K5:=Aside0.mk (Kd.C_below k5 HB.out)
   have n5:c.sv[j].f5.length ≤ 9223372036854775807:=k5.2.1
   clear k5
   have hj1:(j:Int) < (c.sv.length:Int):=by omega
   have HS:=Aside0.mk (cntMap_step c.sv j (by omega))
   generalize hx:c.sv[j] = x at h0 h5 l5 K5 n5 HS
   clear hx
   generalize hM:cntMap (c.sv.drop (j + 1)) = M at HM HS
   clear hM
   go_wp2_with (first | (at_lookup;refine wp_look rfl _ _ rfl Tryz.underlying193 Tryz.underlying9 enc_string HM.out rfl _ rfl (zero3 _) ?_;rw [match_int]))
   obtain ⟨wo,rfl⟩:∃ wo:World,wo = wr:=⟨_,rfl⟩
   go_loopg [5,24] x.f5.length (fun gg s5 s24 w2=>∃ (i:Nat) (acc:Int),i ≤ x.f5.length∧x.f5.length - i ≤ gg∧s24 = .int .i64 i∧s5 = .int .i64 acc∧Aside0 (cntSum M (x.f5.drop i) acc = cntSum M x.f5 1)∧Aside0 (w2.heap[w.heap.size]? = some (.cells (c.cells ⟨some ad,c1,A2,c2,A3,c3,A4,c4⟩) 36 (0,0)))∧Aside0 (MapIs w2 (w.heap.size + 1) Value.string (Value.int .i64) M)∧Aside0 (Below w.heap.size w w2)∧Aside0 (Below wo.heap.size wo w2))
   case atStart=>exact ⟨0,1,Nat.zero_le _,by omega,by rfl,rfl,⟨rfl⟩,BK,HM,HB,⟨Below.refl _ _⟩⟩
   case round=>
    clear BK HM HB q1
    obtain ⟨i,acc,hi,hgi,rfl,rfl,HA,BK,HM,HB,HW⟩:=hrel
    have q1:wr.cell? ⟨w.heap.size,1,none⟩ = some (.slice (some ad) c.sv.length c1):=(blk_cell BK.out 1).trans rfl
    replace h0:=below_at HW.out h0
    replace h5:=below_at HW.out h5
    by_cases hlt:i < x.f5.length
    ·have hil:(i:Int) < (x.f5.length:Int):=by omega
     obtain ⟨ad5,e5,g5⟩:=string_at K5.out i hlt
     subst e5
     replace g5:=below_at HW.out g5
     have HT:=Aside0.mk (cntSum_step M x.f5 acc i hlt)
     generalize x.f5[i] = nm at g5 HT
     go_wp2_with (first | (at_lookup;refine wp_look rfl _ _ rfl Tryz.underlying193 Tryz.underlying9 enc_string HM.out rfl _ rfl (zero3 _) ?_;rw [match_int]))
     go_roundg (x.f5.length - (i + 1))
     case measure=>omega
     case rel=>exact ⟨i + 1,wrap64 (acc + wrap64 (1 + cntName M nm)),by omega,Nat.le_refl _,by go_num,rfl,⟨HT.out.symm.trans HA.out⟩,BK,HM,HB,HW⟩
    ·obtain rfl:i = x.f5.length:=by omega
     have hacc:Aside0 (acc = cntSum M x.f5 1):=⟨by have:=HA.out;rwa [List.drop_length] at this⟩
     go_wp2_with (first | (at_mapUpdate;refine wp_store rfl _ _ _ rfl Tryz.underlying193 Tryz.underlying9 enc_string HM.out rfl _ _ rfl rfl ?_;intro w3 hm3 hg3))
     go_roundg j
     case measure=>omega
     case rel=>
      refine ⟨j,(j:Int) - 1,by omega,Nat.le_refl _,by rfl,⟨rfl⟩,⟨blk_grown BK.out hg3 (by simp)⟩,⟨?_⟩,⟨HB.out.grown hg3 HB.out.size (fun z hz=>by simp at hz;omega)⟩⟩
      rw [HS.out,← hacc.out]
      exact hm3
end Go.Proofs.YtdadnapfecmmdaaGreat.P
