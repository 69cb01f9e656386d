/- Own texts of a proof about layer 55's simulate (merged): Vf. -/
import Derived.Test.YtdadnapfecmmdaaGreatXs11
import Derived.Test.YtdadnapfecmmdaaGreatXs9
namespace Go.Proofs.YtdadnapfecmmdaaGreat.P
set_option linter.unusedVariables false
set_option linter.unusedSimpArgs false
open Go.RowKit Go.Proofs.YtdadnapfecmmdaaGreatW.PrintWords Go.Proofs.YtdadnapfecmmdaaGreatW.PrintLast Go.Proofs.YtdadnapfecmmdaaGreatW.PrintMore
open Go.Proofs.YtdadnapfecmmdaaGreat.Hm
def traceId (slot k:Int):Int:=slot * 1048576 + 1 + k
def traceI (c:Cfg) (slot k:Int):List Sp:=(serveI c slot (traceId slot k) c.sv.length (nm4 0) 0 (1000 * slot + 7 * k) 0).2.2
theorem traceI_cons (c:Cfg) (hS:Sys c) (slot k:Int):∃ s r,traceI c slot k = s::r∧s.tr = traceId slot k:=by
 unfold traceI
 obtain ⟨d,hd⟩:∃ d,c.sv.length = d + 1:=⟨c.sv.length - 1,by have:=hS.n0;omega⟩
 rw [hd]
 exact ⟨_,_,rfl,rfl⟩
theorem lng_le (d:Nat) (h:d ≤ 4):lng d ≤ 160∧tim d ≤ 11600:=by
 match d,h with
 | 0,_=>decide
 | 1,_=>decide
 | 2,_=>decide
 | 3,_=>decide
 | 4,_=>decide
theorem trace_eq (c:Cfg) (hS:Sys c) (slot k:Int) (m:Nat) (hm:110 ≤ m) (hs0:0 ≤ slot) (hs1:slot ≤ 1000) (hk0:0 ≤ k) (hk1:k ≤ 1000):traceV m c slot k = some (traceI c slot k):=by
 have h0:=hS.n0
 have h4:=hS.n4
 have hd0:=hS.delay0
 have hd1:=hS.delay1
 have hb:=lng_le c.sv.length h4
 have hB:BIG = 1152921504606846976:=rfl
 have he:=(serve_eq c hS slot (traceId slot k) c.sv.length 0 (by omega) (by omega) m (by omega) 0 (1000 * slot + 7 * k) [] (by simp only [List.length_nil];omega) (by omega) (by rw [hB];omega)).1
 unfold traceV
 cases hsv:c.sv with
 | nil=>rw [hsv] at h0;simp at h0
 | cons x r=>
  have hx:x.f0 = nm4 0:=by
   have:=hS.name 0 (by omega)
   simpa [hsv] using this
  dsimp only
  rw [if_pos ⟨hs0,by omega,hk0,by omega,hd0,by omega⟩,hx,← hsv]
  rw [show slot * 1048576 + 1 + k = traceId slot k from rfl,he]
  rfl
def slotTr (c:Cfg) (f:Sp→Sp) (s:Int):List Tr:=(List.range c.per.toNat).map fun (k:Nat)=>⟨traceId s k,(traceI c s k).map f⟩
def tracesI (c:Cfg) (f:Sp→Sp):List Tr:=(List.range (c.sto - c.sfrom).toNat).flatMap fun (i:Nat)=>slotTr c f (c.sfrom + i)
theorem trK_eq (c:Cfg) (hS:Sys c) (f:Sp→Sp) (s:Int) (m:Nat) (hm:110 ≤ m) (hs0:0 ≤ s) (hs1:s ≤ 1000) (j:Nat):∀ (k:Nat) (acc:List Tr),k + j ≤ 1000→acc.length + j ≤ 100000→
  trK (traceV m c s) f j (k:Int) acc = some (acc ++ (List.range' k j).map fun (k:Nat)=>⟨traceId s k,(traceI c s k).map f⟩):=by
 induction j with
 | zero=>intro k acc _ _;simp [trK]
 | succ j ih=>
  intro k acc hk ha
  simp only [trK]
  rw [if_pos (by omega),trace_eq c hS s k m hm hs0 hs1 (by omega) (by omega)]
  simp only [Option.bind_some]
  obtain ⟨a,r,e,ht⟩:=traceI_cons c hS s k
  have h:=ih (k + 1) (acc ++ [⟨traceId s k,(traceI c s k).map f⟩]) (by omega) (by simp;omega)
  rw [e] at h ⊢
  dsimp only
  rw [ht,show (k:Int) + 1 = ((k + 1:Nat):Int) from rfl,h,List.range'_succ]
  simp [e]
theorem trS_eq (c:Cfg) (hS:Sys c) (f:Sp→Sp) (m:Nat) (hm:110 ≤ m) (hp:c.per.toNat ≤ 1000) (j:Nat):∀ (i:Nat) (s:Int) (acc:List Tr),0 ≤ s→s + j ≤ 1000→acc.length + j * c.per.toNat ≤ 100000→
  trS m c f j s acc = some (acc ++ (List.range j).flatMap fun (i:Nat)=>slotTr c f (s + i)):=by
 induction j with
 | zero=>intro i s acc _ _ _;simp [trS]
 | succ j ih=>
  intro i s acc h0 h1 ha
  have hm1:(j + 1) * c.per.toNat = j * c.per.toNat + c.per.toNat:=Nat.succ_mul _ _
  simp only [trS]
  have hk:=trK_eq c hS f s m hm h0 (by omega) c.per.toNat 0 acc (by omega) (by omega)
  rw [show ((0:Nat):Int) = 0 from rfl] at hk
  rw [hk]
  simp only [Option.bind_some]
  rw [ih i (s + 1) _ (by omega) (by omega) (by simp;omega),← List.range_eq_range']
  rw [List.range_succ_eq_map,List.flatMap_cons,List.flatMap_map]
  rw [List.append_assoc]
  have e:(fun i:Nat=>slotTr c f (s + 1 + i)) = fun a:Nat=>slotTr c f (s + (Nat.succ a:Nat)):=by
   funext a
   rw [show s + 1 + (a:Int) = s + ((Nat.succ a:Nat):Int) from by omega]
  rw [e]
  simp [slotTr]
theorem traces_eq (c:Cfg) (hS:Sys c) (f:Sp→Sp) (h0:0 ≤ c.sfrom) (h1:c.sto ≤ 100) (hp:c.per ≤ 10) (m:Nat) (hm:110 ≤ m):tracesV m c f = some (tracesI c f):=by
 unfold tracesV
 rw [if_pos ⟨h0,by omega,by omega⟩]
 have hb:(c.sto - c.sfrom).toNat * c.per.toNat ≤ 100 * 10:=Nat.mul_le_mul (by omega) (by omega)
 by_cases hs:c.sfrom ≤ c.sto
 ·have:=trS_eq c hS f m hm (by omega) (c.sto - c.sfrom).toNat 0 c.sfrom [] h0 (by omega) (by simp only [List.length_nil];omega)
  rw [this];rfl
 ·have:(c.sto - c.sfrom).toNat = 0:=by omega
  unfold tracesI
  rw [this];rfl
theorem plan_traces (p:Plan) (hok:PlanOk p) (f:Sp→Sp) (m:Nat) (hm:110 ≤ m):tracesV m (p.cfg chgs47) f = some (tracesI (p.cfg chgs47) f):=by
 refine traces_eq _ (plan_sys p hok) f ?_ ?_ ?_ m hm <;> simp only [Plan.cfg] <;> omega
theorem tracesI_mem (c:Cfg) (f:Sp→Sp) (x:Tr) (h:x ∈ tracesI c f):∃ s k:Int,c.sfrom ≤ s∧s < c.sto∧0 ≤ k∧k < c.per∧x = ⟨traceId s k,(traceI c s k).map f⟩:=by
 unfold tracesI at h
 obtain ⟨i,hi,hx⟩:=List.mem_flatMap.mp h
 unfold slotTr at hx
 obtain ⟨k,hk,rfl⟩:=List.mem_map.mp hx
 have:=List.mem_range.mp hi
 have:=List.mem_range.mp hk
 exact ⟨c.sfrom + i,k,by omega,by omega,by omega,by omega,rfl⟩
end Go.Proofs.YtdadnapfecmmdaaGreat.P
