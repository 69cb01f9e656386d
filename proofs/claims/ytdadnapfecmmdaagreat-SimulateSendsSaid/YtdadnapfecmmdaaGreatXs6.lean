/- Own texts of a proof about layer 55's simulate (merged): Hr. -/
import Derived.Test.YtdadnapfecmmdaaGreatXs2
import Derived.Test.YtdadnapfecmmdaaGreatXs5
import Derived.Handy
namespace Go.Proofs.YtdadnapfecmmdaaGreat.P
set_option linter.unusedVariables false
set_option linter.unusedSimpArgs false
open Go.RowKit Go.Proofs.YtdadnapfecmmdaaGreatW.PrintWords Go.Proofs.YtdadnapfecmmdaaGreatW.PrintLast Go.Proofs.YtdadnapfecmmdaaGreatW.PrintMore
open Go.Proofs.YtdadnapfecmmdaaGreat.Hm
theorem zero64:∀ w:World,(zeroValue 51).run Tryz.prog w = .ok (.agg #[.string ⟨#[]⟩,.int .i64 0,.int .i64 0,.int .i64 0,.int .i64 0,.slice none 0 0]) w:=fun _=>by kernel_rfl
theorem elim_sv (sm:List (ByteArray × SvV)) (k:ByteArray) (x:S51) (A:Option Addr) (c:Nat) (z:Value) (h:mget sm k = some ⟨x,A,c⟩):((mget sm k).elim z svVal) = .agg #[.string x.f0,.int .i64 x.f1,.int .i64 x.f2,.int .i64 x.f3,.int .i64 x.f4,.slice A x.f5.length c]:=by
 rw [h];rfl
theorem at_T61n {w:World} {A:Option Addr} {n:Nat} {xs:List S61} (h:Kd.C k61 w A n xs) (i:Nat) (hi:i < xs.length):∃ ad,A = some ad∧w.cell? (ad.add (i * 6)) = some (.string xs[i].f0)∧w.cell? ⟨(ad.add (i * 6)).block,(ad.add (i * 6)).off + 1,none⟩ = some (.string xs[i].f1)∧w.cell? ⟨(ad.add (i * 6)).block,(ad.add (i * 6)).off + 2,none⟩ = some (.int .i64 xs[i].f2.f0)∧w.cell? ⟨(ad.add (i * 6)).block,(ad.add (i * 6)).off + 3,none⟩ = some (.int .i64 xs[i].f2.f1)∧w.cell? ⟨(ad.add (i * 6)).block,(ad.add (i * 6)).off + 4,none⟩ = some (.int .i64 xs[i].f3)∧w.cell? ⟨(ad.add (i * 6)).block,(ad.add (i * 6)).off + 5,none⟩ = some (.int .i64 xs[i].f4):=by
 have hr:rd_T61 xs (i:Int) = xs[i]:=by unfold rd_T61;simp [List.getD_eq_getElem?_getD,hi]
 have:=at_T61 h (i:Int) (by omega) (by have:=h.1;omega)
 rw [hr] at this
 simpa only [Int.toNat_natCast] using this
theorem active_calls (k:Nat) (A:Option Addr) (cp:Nat) (l:List S98) (name:ByteArray) (slot:Int) (act:Int × Int × Int × ByteArray × ByteArray × ByteArray × Bool) (w:World) (hr:Kd.C k98 w A l.length l) (hc:l.length ≤ cp) (h:deployment_Active.f k l name slot = some act):
  Calls Tryz.prog 69 #[.slice A l.length cp,.string name,.int .i64 slot] w fun e w'=>e = .returned (.tuple #[.agg #[.int .i64 act.1,.int .i64 act.2.1,.int .i64 act.2.2.1,.string act.2.2.2.1,.string act.2.2.2.2.1,.string act.2.2.2.2.2.1],.bool act.2.2.2.2.2.2])∧Below w.heap.size w w':=
 deployment_Active.calls k A cp l name slot _ _ _ _ _ _ _ w hr hc h
theorem SpR.opened {W:World} {g base:Nat} {l:List Sp} (h:SpR W g base l) (j:Nat) (hj:j < l.length):∃ r cp,W.heap[g]? = some (.cells #[.slice (some ⟨r,0,none⟩) l.length cp] 68 (0,0))∧W.ownsRow base 74 14 (.slice (some ⟨r,0,none⟩) l.length cp) l.length (spc l)∧
  W.cell? ⟨r,j * 14 + 10,none⟩ = some (.int .i64 l[j].en)∧W.cell? ⟨r,j * 14 + 11,none⟩ = some (.bool l[j].err)∧W.frozen? ⟨r,j * 14 + 10,none⟩ = false∧W.frozen? ⟨r,j * 14 + 11,none⟩ = false∧base ≤ r∧(∃ cur,W.heap[r]? = some (.cells cur 74 (0,0))):=by
 obtain ⟨v,hv,ho⟩:=h
 rcases ho.2 with ⟨_,h⟩ | ⟨r,cap,cur,e,hb,hr,h1,h2,h3,h4⟩
 ·omega
 ·subst e
  have hc:∀ i,i < l.length * 14→cur[i]? = (spc l)[i]?:=fun i hi=>by
   rw [← h4,List.getElem?_take,if_pos hi,Array.getElem?_toList]
  refine ⟨r,cap,hv,ho,?_,?_,blk_frozen hr _,blk_frozen hr _,hb,⟨cur,hr⟩⟩
  ·rw [blk_cell hr,hc _ (by omega),spc_get l j 10 hj (by omega)]
   rfl
  ·rw [blk_cell hr,hc _ (by omega),spc_get l j 11 hj (by omega)]
   rfl
theorem KeepT.stores {W:World} {g r:Nat} (hr:∃ cur,W.heap[r]? = some (.cells cur 74 (0,0))) (i j:Nat) (u v:Value):KeepT W ((W.setCell ⟨r,i,none⟩ u).setCell ⟨r,j,none⟩ v) g:=by
 obtain ⟨cur,hr⟩:=hr
 refine ⟨by simp,fun k _ _ hn=>?_⟩
 have hne:k ≠ r:=fun e=>hn cur (0,0) (e ▸ hr)
 rw [Below.heap_setCell _ _ _ _ hne,Below.heap_setCell _ _ _ _ hne]
theorem SpR.stores2 {W:World} {g base r cp:Nat} {l:List Sp} (hv:W.heap[g]? = some (.cells #[.slice (some ⟨r,0,none⟩) l.length cp] 68 (0,0))) (ho:W.ownsRow base 74 14 (.slice (some ⟨r,0,none⟩) l.length cp) l.length (spc l)) (j:Nat) (hj:j < l.length) (en:Int) (err:Bool):
  SpR ((W.setCell ⟨r,j * 14 + 10,none⟩ (.int .i64 en)).setCell ⟨r,j * 14 + 11,none⟩ (.bool err)) g base (setEnd l j en err):=by
 have h:=SpR.stores (v:=.bool false) hv ho j hj en err
 simpa only [Nat.zero_add] using h
theorem cell_ne_ {w:World} {g r:Nat} (i:Nat) (j:Nat) (v:Value) (h:g ≠ r):(w.setCell ⟨r,i,none⟩ v).cell? ⟨g,j,none⟩ = w.cell? ⟨g,j,none⟩:=by
 unfold World.cell?
 rw [Below.heap_setCell _ _ _ _ h]
theorem emod_wrap (y r m:Int) (h0:0 ≤ m) (h1:m ≤ 1048576) (hy0:0 ≤ y) (hy1:y ≤ 2305843009213693952):IntKind.i64.wrap (y + r % (m + 1)) = y + r % (m + 1):=by
 have a1:=Int.emod_nonneg r (b:=m + 1) (by omega)
 have a2:=Int.emod_lt_of_pos r (b:=m + 1) (by omega)
 exact IntWalk.i64_in _ (by omega)
theorem roll_tmod (s a b d m:Int):(rollV s a b d).tmod m = rollV s a b d % m:=Int.tmod_eq_emod_of_nonneg (roll_range _ _ _ _).1
def serveT.T4:Bool × List (List Nat × List Nat):=(true,[([],[]),([0],[0]),([],[]),([],[]),([],[]),([2,3,4],[2,3,4]),([],[]),([6],[6]),([7],[7]),([5,8],[5,8]),([1,9],[1,9]),([],[]),([11],[11]),([10,5,0,1,2,3,4,5,6,7,8,9,10],[10]),([12,13,0,1,2,3,4,5,6,7,8,9,10,11,12,13],[12])])
def serveT.B4:List Nat:=[0,1,0,0,0,28,0,64,192,508,1023,0,2048,2047,16383]
theorem serveT.tab4:rtab .any (opsOf Tryz.f81 4) = serveT.T4:=by kernel_rfl
theorem serveT.bits4:waitsOk serveT.T4.2 serveT.B4 = true:=by kernel_rfl
def serveT.T17:Bool × List (List Nat × List Nat):=(true,[([],[]),([],[]),([],[]),([],[]),([],[]),([4],[4]),([3,5],[3,5]),([],[]),([],[]),([],[]),([7,8,9],[7,8,9]),([],[]),([11],[11]),([12],[12]),([10,13],[10,13]),([6,14],[6,14]),([0,1,2,15,10],[0,1,2,15]),([16],[16]),([17],[17]),([17],[17]),([18,16,0,1,2,3,4,5,6,7,8,9,10,11,12,13,14,15,16,17,18],[18]),([19,20,0,1,2,3,4,5,6,7,8,9,10,11,12,13,14,15,16,17,18,19,20],[19])])
def serveT.B17:List Nat:=[0,0,0,0,0,16,56,0,0,0,896,0,2048,6144,16256,32760,65535,131071,262143,262143,524287,2097151]
theorem serveT.tab17:rtab .any (opsOf Tryz.f81 17) = serveT.T17:=by kernel_rfl
theorem serveT.bits17:waitsOk serveT.T17.2 serveT.B17 = true:=by kernel_rfl
def serveT.T18:Bool × List (List Nat × List Nat):=(true,[([],[]),([],[]),([1],[1]),([0,2],[0,2]),([],[]),([],[]),([],[]),([4,5,6],[4,5,6]),([],[]),([8],[8]),([9],[9]),([7,10],[7,10]),([3,11],[3,11]),([12,7,0,1,2,3,4,5,6,7,8,9,10,11,12],[12])])
def serveT.B18:List Nat:=[0,0,2,7,0,0,0,112,0,256,768,2032,4095,8191]
theorem serveT.tab18:rtab .any (opsOf Tryz.f81 18) = serveT.T18:=by kernel_rfl
theorem serveT.bits18:waitsOk serveT.T18.2 serveT.B18 = true:=by kernel_rfl
def serveT.T19:Bool × List (List Nat × List Nat):=(true,[([],[]),([],[]),([1],[1]),([],[]),([],[]),([4],[4]),([],[]),([],[]),([0,2,0,1,2,6],[0,2]),([8,0,1,2,6],[8]),([9,6,0,1,2,6],[6,9]),([3,5,0,1,2,3,4,5,6,7,8,9,10],[3,5]),([11,0,1,2,3,4,5,6,7,8,9,10],[11]),([12,7,10,0,1,2,3,4,5,6,7,8,9,10],[7,12])])
def serveT.B19:List Nat:=[0,0,2,0,0,16,0,0,71,327,839,2047,4095,8191]
theorem serveT.tab19:rtab .any (opsOf Tryz.f81 19) = serveT.T19:=by kernel_rfl
theorem serveT.bits19:waitsOk serveT.T19.2 serveT.B19 = true:=by kernel_rfl
def serveT.T23:Bool × List (List Nat × List Nat):=(true,[([],[]),([],[]),([1],[1]),([],[]),([],[]),([4],[4]),([],[]),([],[]),([0,2,0,1,2,6],[0,2]),([8,0,1,2,6],[8]),([9,6,0,1,2,6],[6,9]),([3,5,0,1,2,3,4,5,6,7,8,9,10],[3,5]),([11,0,1,2,3,4,5,6,7,8,9,10],[11]),([12,7,10,0,1,2,3,4,5,6,7,8,9,10],[7,12])])
def serveT.B23:List Nat:=[0,0,2,0,0,16,0,0,71,327,839,2047,4095,8191]
theorem serveT.tab23:rtab .any (opsOf Tryz.f81 23) = serveT.T23:=by kernel_rfl
theorem serveT.bits23:waitsOk serveT.T23.2 serveT.B23 = true:=by kernel_rfl
set_option maxHeartbeats 8000000 in
set_option maxRecDepth 100000 in
theorem serve_step (w0:World) (bs bm bc bl bb bt bv g:Nat) (c:Cfg) (p:CfgAt) (slot t:Int) (sm:List (ByteArray × SvV)) (hR:CfgR w0 p c) (hd:0 ≤ c.delay) (hd1:c.delay ≤ 1048576)
  (hsm:∀ nm sv,mget sm nm = some sv→Kd.C Kd.string w0 sv.A sv.x.f5.length sv.x.f5) (n:Nat)
  (ih:∀ (name:ByteArray) (parent x:Int) (l:List Sp) (W:World) (r1:Int) (r2:Bool) (l':List Sp),serveV c slot t sm n name parent x l = some (r1,r2,l')→EnvR W bs bm bc bl bb bt bv g w0.heap.size c p slot t sm→SpR W g w0.heap.size l→Below w0.heap.size w0 W→
   Calls Tryz.prog 81 #[.string name,.int .i64 parent,.int .i64 x,pv bs,pv bc,pv bl,pv bb,pv bt,pv bv,pv g] W fun e w'=>e = .returned (.tuple #[.int .i64 r1,.bool r2])∧SpR w' g w0.heap.size l'∧KeepT W w' g∧Below w0.heap.size w0 w')
  (name:ByteArray) (parent x:Int) (l:List Sp) (W:World) (r1:Int) (r2:Bool) (l':List Sp) (h:serveV c slot t sm (n + 1) name parent x l = some (r1,r2,l')) (hE:EnvR W bs bm bc bl bb bt bv g w0.heap.size c p slot t sm) (hS:SpR W g w0.heap.size l) (hB:Below w0.heap.size w0 W):
  Calls Tryz.prog 81 #[.string name,.int .i64 parent,.int .i64 x,pv bs,pv bc,pv bl,pv bb,pv bt,pv bv,pv g] W fun e w'=>e = .returned (.tuple #[.int .i64 r1,.bool r2])∧SpR w' g w0.heap.size l'∧KeepT W w' g∧Below w0.heap.size w0 w':=by
 unfold serveV at h
 obtain ⟨⟨sx,SA,sc⟩,hsv,h⟩:=Option.bind_eq_some_iff.mp h
 dsimp only at h
 obtain ⟨act,hact,h⟩:=Option.bind_eq_some_iff.mp h
 by_cases hg0:l.length < 1000∧0 ≤ x∧x ≤ BIG∧0 ≤ sx.f3∧sx.f3 ≤ 1048576∧0 ≤ sx.f2∧sx.f2 ≤ 1048576
 case neg=>rw [if_neg hg0] at h;cases h
 rw [if_pos hg0] at h
 obtain ⟨hl,hx0,hx1,hj0,hj1,hw0,hw1⟩:=hg0
 unfold BIG at hx1
 have IH:=Aside0.mk ih
 have HR:=Aside0.mk hR
 have HE:=Aside0.mk hE
 have HS:=Aside0.mk hS
 have HB:=Aside0.mk hB
 have HA:=Aside0.mk h
 have HSV:=Aside0.mk hsv
 have HACT:=Aside0.mk hact
 have HSM:=Aside0.mk (hsm name _ hsv)
 have hn5:sx.f5.length ≤ 9223372036854775807:=(hsm name _ hsv).2.1
 have hflen:c.fl.length ≤ 9223372036854775807:=hR.r4.2.1
 have K0:=Aside0.mk (KeepT.refl W g)
 have HN:=Aside0.mk hS.lt
 clear ih hR hE hS hB h hsv hact hsm
 obtain ⟨A1,c1,A2,c2,A3,c3,A4,c4⟩:=p
 obtain ⟨a0,a1,a2,a3,a4,ver,ab⟩:=act
 dsimp only at HA
 -- the service and its deployment
 have q0:W.cell? ⟨bs,0,none⟩ = some (.map (some bm)):=(blk_cell HE.out.s 0).trans rfl
 have q1:W.cell? ⟨bc,3,none⟩ = some (.slice A3 c.ch.length c3):=(blk_cell HE.out.c 3).trans rfl
 have q2:W.cell? ⟨bl,0,none⟩ = some (.int .i64 slot):=(blk_cell HE.out.l 0).trans rfl
 have hbc:bc < W.heap.size:=blk_lt HE.out.c
 have hbl:bl < W.heap.size:=blk_lt HE.out.l
 have n1:bc ≠ W.heap.size:=by omega
 have n2:bl ≠ W.heap.size:=by omega
 go_enter Tryz.func81,Tryz.ntmps81
 go_wp2_with (first | (at_lookup;refine wp_look rfl _ _ rfl Tryz.underlying150 Tryz.underlying9 enc_string HE.out.m rfl _ rfl (zero64 _) ?_;rw [elim_sv _ _ _ _ _ _ HSV.out]))
 refine (active_calls n A3 c3 c.ch name slot (a0,a1,a2,a3,a4,ver,ab) _ (Kd.C_below HR.out.r3 (below_alloc HB.out _)) HR.out.l3 HACT.out).mono ?_
 rintro e w1 ⟨rfl,hb1⟩
 have hz1:W.heap.size + 1 ≤ w1.heap.size:=by have:=hb1.size;simpa using this
 have hbW:Below W.heap.size W w1:=below_step (below_alloc (Below.refl _ _) _) hb1
 have L1:=Aside0.mk (blk_below (blk_new W (.cells (svCells sx SA sc) 51 (0,0))) hb1)
 have K1:=Aside0.mk (KeepT.of_below hbW g)
 have HE1:=Aside0.mk (HE.out.keep K1.out)
 have HS1:=Aside0.mk (HS.out.below hbW)
 have HB1:=Aside0.mk (below_step (below_alloc HB.out _) hb1)
 clear HE HS HB K0 hb1 hbW q0 q1 q2 hbc hbl n1 n2 HACT
 have hlW:Aside0 (l.length ≤ l.length):=Aside0.mk (Nat.le_refl _)
 obtain ⟨lb,hlb⟩:∃ lb:Nat,lb = W.heap.size:=⟨_,rfl⟩
 rw [← hlb] at L1 hz1 HN ⊢
 have HLB:=Aside0.mk hlb
 clear hlb hlW
 -- it begins
 have q0:w1.cell? ⟨bb,0,none⟩ = some (.func (.func 80) #[] #[pv g,pv bt]):=(blk_cell HE1.out.b 0).trans rfl
 have q1:w1.cell? ⟨lb,0,none⟩ = some (.string sx.f0):=(blk_cell L1.out 0).trans rfl
 have q2:w1.cell? ⟨lb,1,none⟩ = some (.int .i64 sx.f1):=(blk_cell L1.out 1).trans rfl
 have q3:w1.cell? ⟨lb,2,none⟩ = some (.int .i64 sx.f2):=(blk_cell L1.out 2).trans rfl
 have q4:w1.cell? ⟨lb,3,none⟩ = some (.int .i64 sx.f3):=(blk_cell L1.out 3).trans rfl
 have q5:w1.cell? ⟨lb,4,none⟩ = some (.int .i64 sx.f4):=(blk_cell L1.out 4).trans rfl
 have q6:w1.cell? ⟨lb,5,none⟩ = some (.slice SA sx.f5.length sc):=(blk_cell L1.out 5).trans rfl
 have n1:lb ≠ w1.heap.size:=by omega
 have hlb:lb < w1.heap.size:=by omega
 have hbb:bb < w1.heap.size:=blk_lt HE1.out.b
 have n2:bb ≠ w1.heap.size:=by omega
 go_wp2_with fail
 have hlen1:w1.heap.size ≤ (w1.alloc (.cells #[.int .i64 a0,.int .i64 a1,.int .i64 a2,.string a3,.string a4,.string ver] 98)).heap.size:=by simp
 have HEa:=Aside0.mk (HE1.out.keep (KeepT.of_below (below_alloc (Below.refl _ _) (.cells #[.int .i64 a0,.int .i64 a1,.int .i64 a2,.string a3,.string a4,.string ver] 98)) g))
 have HSa:=Aside0.mk (HS1.out.below (below_alloc (Below.refl _ _) (.cells #[.int .i64 a0,.int .i64 a1,.int .i64 a2,.string a3,.string a4,.string ver] 98)))
 have HBa:=Aside0.mk (below_alloc HB1.out (.cells #[.int .i64 a0,.int .i64 a1,.int .i64 a2,.string a3,.string a4,.string ver] 98))
 have La:=Aside0.mk (blk_alloc L1.out (.cells #[.int .i64 a0,.int .i64 a1,.int .i64 a2,.string a3,.string a4,.string ver] 98))
 have Va:=Aside0.mk (blk_new w1 (.cells #[.int .i64 a0,.int .i64 a1,.int .i64 a2,.string a3,.string a4,.string ver] 98))
 have Ka:=Aside0.mk (K1.out.trans (KeepT.of_below (below_alloc (Below.refl _ _) (.cells #[.int .i64 a0,.int .i64 a1,.int .i64 a2,.string a3,.string a4,.string ver] 98)) g))
 have hgl:g ≠ lb:=by have:=HN.out;omega
 have hgv:g ≠ w1.heap.size:=by have:=HS1.out.lt;omega
 obtain ⟨vb,hvb⟩:∃ vb:Nat,vb = w1.heap.size:=⟨_,rfl⟩
 have hsz:vb < (w1.alloc (.cells #[.int .i64 a0,.int .i64 a1,.int .i64 a2,.string a3,.string a4,.string ver] 98)).heap.size:=by simp;omega
 rw [← hvb] at Va hgv ⊢
 generalize w1.alloc (.cells #[.int .i64 a0,.int .i64 a1,.int .i64 a2,.string a3,.string a4,.string ver] 98) = wa at HEa HSa HBa La Va Ka hsz ⊢
 have hlv:lb ≠ vb:=by omega
 have hlbv:=Aside0.mk hlb
 clear q0 q1 q2 q3 q4 q5 q6 n1 n2 hlb hbb HE1 HS1 HB1 L1 K1 hz1 hlen1 hvb HLB
 refine (begin_calls wa w0 g bt w0.heap.size t l sx SA sc parent 3 x strServe ver HEa.out.t HSa.out HEa.out.hg hl HBa.out HEa.out.hW).mono ?_
 clear hlbv
 clear w1
 rintro e w2 ⟨rfl,hs2,hk2,CB_⟩
 have HS:=Aside0.mk hs2
 have HE:=Aside0.mk (HEa.out.keep hk2)
 have HL:=Aside0.mk (hk2.cellsBlk La.out (Ne.symm hgl) (by decide))
 have HV:=Aside0.mk (hk2.cellsBlk Va.out (Ne.symm hgv) (by decide))
 have HK:=Aside0.mk (Ka.out.trans hk2)
 have CB:=Aside0.mk CB_
 clear hs2 hk2 CB_ HEa HSa HBa La Va Ka hsz
 -- how long it works
 have q0:w2.cell? ⟨lb,2,none⟩ = some (.int .i64 sx.f2):=(blk_cell HL.out 2).trans rfl
 have q1:w2.cell? ⟨lb,3,none⟩ = some (.int .i64 sx.f3):=(blk_cell HL.out 3).trans rfl
 have q2:w2.cell? ⟨lb,4,none⟩ = some (.int .i64 sx.f4):=(blk_cell HL.out 4).trans rfl
 have q3:w2.cell? ⟨bt,0,none⟩ = some (.int .i64 t):=(blk_cell HE.out.t 0).trans rfl
 have q4:w2.cell? ⟨bc,0,none⟩ = some (.int .i64 c.seed):=(blk_cell HE.out.c 0).trans rfl
 have q5:w2.cell? ⟨bc,1,none⟩ = some (.slice A1 c.sv.length c1):=(blk_cell HE.out.c 1).trans rfl
 have q6:w2.cell? ⟨bc,2,none⟩ = some (.slice A2 c.off.length c2):=(blk_cell HE.out.c 2).trans rfl
 have q7:w2.cell? ⟨bc,3,none⟩ = some (.slice A3 c.ch.length c3):=(blk_cell HE.out.c 3).trans rfl
 have q8:w2.cell? ⟨bc,4,none⟩ = some (.slice A4 c.fl.length c4):=(blk_cell HE.out.c 4).trans rfl
 have q9:w2.cell? ⟨bc,5,none⟩ = some (.int .i64 c.sfrom):=(blk_cell HE.out.c 5).trans rfl
 have q10:w2.cell? ⟨bc,6,none⟩ = some (.int .i64 c.sto):=(blk_cell HE.out.c 6).trans rfl
 have q11:w2.cell? ⟨bc,7,none⟩ = some (.int .i64 c.per):=(blk_cell HE.out.c 7).trans rfl
 have q12:w2.cell? ⟨bc,8,none⟩ = some (.int .i64 c.delay):=(blk_cell HE.out.c 8).trans rfl
 have q13:w2.cell? ⟨bc,9,none⟩ = some (.int .i64 c.chunk):=(blk_cell HE.out.c 9).trans rfl
 have q14:w2.cell? ⟨bc,10,none⟩ = some (.int .i64 c.loss):=(blk_cell HE.out.c 10).trans rfl
 have q15:w2.cell? ⟨bc,11,none⟩ = some (.int .i64 c.rep):=(blk_cell HE.out.c 11).trans rfl
 have q16:w2.cell? ⟨bl,0,none⟩ = some (.int .i64 slot):=(blk_cell HE.out.l 0).trans rfl
 have q17:w2.cell? ⟨g,0,none⟩ = w2.cell? ⟨g,0,none⟩:=rfl
 clear q17
 have q17:=q16
 go_wp2_with fail
 have s1:IntKind.i64.wrap (sx.f3 + 1) = sx.f3 + 1:=IntWalk.i64_in _ (by omega)
 have s2:¬ (sx.f3 + 1 = 0):=by omega
 have s3:(rollV c.seed t ((l.length:Int) + 1) 1).tmod (sx.f3 + 1) = rollV c.seed t ((l.length:Int) + 1) 1 % (sx.f3 + 1):=roll_tmod _ _ _ _ _
 have s4:IntKind.i64.wrap (sx.f2 + rollV c.seed t ((l.length:Int) + 1) 1 % (sx.f3 + 1)) = sx.f2 + rollV c.seed t ((l.length:Int) + 1) 1 % (sx.f3 + 1):=emod_wrap _ _ _ hj0 hj1 hw0 (by omega)
 refine start_ (n:=15) (S:=fun w'=>Below w2.heap.size w2 w') (ds:=[]) (bq 15 0) (by kernel_rfl) rfl rfl (Below.refl _ _).drew (fun hHeld=>?_)
 refine with_tabW serveT.tab4 serveT.bits4 (fun HT_ HW_=>?_)
 generalize w2.drew = wd at hHeld ⊢
 refine pu_ 0 (some 49) (bq 15 1) HT_ rfl rfl ?_
 refine tk_ 1 (some 50) (bq 15 3) HT_ HW_ rfl rfl hHeld ?_ (by intro w' hS;replace q0:=below_at hS q0;replace q1:=below_at hS q1;replace q2:=below_at hS q2;replace q3:=below_at hS q3;replace q4:=below_at hS q4;replace q5:=below_at hS q5;replace q6:=below_at hS q6;replace q7:=below_at hS q7;replace q8:=below_at hS q8;replace q9:=below_at hS q9;replace q10:=below_at hS q10;replace q11:=below_at hS q11;replace q12:=below_at hS q12;replace q13:=below_at hS q13;replace q14:=below_at hS q14;replace q15:=below_at hS q15;replace q16:=below_at hS q16;replace q17:=below_at hS q17;go_simp;with_reducible rfl)
 refine tk_ 2 (some 51) (bq 15 7) HT_ HW_ rfl rfl hHeld ?_ (by intro w' hS;replace q0:=below_at hS q0;replace q1:=below_at hS q1;replace q2:=below_at hS q2;replace q3:=below_at hS q3;replace q4:=below_at hS q4;replace q5:=below_at hS q5;replace q6:=below_at hS q6;replace q7:=below_at hS q7;replace q8:=below_at hS q8;replace q9:=below_at hS q9;replace q10:=below_at hS q10;replace q11:=below_at hS q11;replace q12:=below_at hS q12;replace q13:=below_at hS q13;replace q14:=below_at hS q14;replace q15:=below_at hS q15;replace q16:=below_at hS q16;replace q17:=below_at hS q17;go_simp;with_reducible rfl)
 refine tk_ 3 (some 52) (bq 15 15) HT_ HW_ rfl rfl hHeld ?_ (by intro w' hS;replace q0:=below_at hS q0;replace q1:=below_at hS q1;replace q2:=below_at hS q2;replace q3:=below_at hS q3;replace q4:=below_at hS q4;replace q5:=below_at hS q5;replace q6:=below_at hS q6;replace q7:=below_at hS q7;replace q8:=below_at hS q8;replace q9:=below_at hS q9;replace q10:=below_at hS q10;replace q11:=below_at hS q11;replace q12:=below_at hS q12;replace q13:=below_at hS q13;replace q14:=below_at hS q14;replace q15:=below_at hS q15;replace q16:=below_at hS q16;replace q17:=below_at hS q17;go_simp;with_reducible rfl)
 refine pu_ 4 (some 53) (bq 15 31) HT_ rfl rfl ?_
 refine pu_ 6 (some 55) (bq 15 95) HT_ rfl rfl ?_
 refine tk_ 7 (some 56) (bq 15 223) HT_ HW_ rfl rfl hHeld ?_ (by intro w' hS;replace q0:=below_at hS q0;replace q1:=below_at hS q1;replace q2:=below_at hS q2;replace q3:=below_at hS q3;replace q4:=below_at hS q4;replace q5:=below_at hS q5;replace q6:=below_at hS q6;replace q7:=below_at hS q7;replace q8:=below_at hS q8;replace q9:=below_at hS q9;replace q10:=below_at hS q10;replace q11:=below_at hS q11;replace q12:=below_at hS q12;replace q13:=below_at hS q13;replace q14:=below_at hS q14;replace q15:=below_at hS q15;replace q16:=below_at hS q16;replace q17:=below_at hS q17;go_simp;with_reducible rfl)
 refine pu_ 8 (some 57) (bq 15 479) HT_ rfl rfl ?_
 refine pu_ 11 (some 60) (bq 15 2527) HT_ rfl rfl ?_
 refine tk_ 12 (some 61) (bq 15 6623) HT_ HW_ rfl rfl hHeld ?_ (by intro w' hS;replace q0:=below_at hS q0;replace q1:=below_at hS q1;replace q2:=below_at hS q2;replace q3:=below_at hS q3;replace q4:=below_at hS q4;replace q5:=below_at hS q5;replace q6:=below_at hS q6;replace q7:=below_at hS q7;replace q8:=below_at hS q8;replace q9:=below_at hS q9;replace q10:=below_at hS q10;replace q11:=below_at hS q11;replace q12:=below_at hS q12;replace q13:=below_at hS q13;replace q14:=below_at hS q14;replace q15:=below_at hS q15;replace q16:=below_at hS q16;replace q17:=below_at hS q17;go_simp;with_reducible rfl)
 refine one_ (i:=5) (N:=some 54) (bq 15 6655) rfl rfl (one_of HT_.out (by kernel_rfl)) (by decide) (fun K hK=>?_)
 refine goes_ Tryz.func18 (by kernel_rfl) rfl #[c.val ⟨A1,c1,A2,c2,A3,c3,A4,c4⟩,.int .i64 t,.int .i64 ((l.length:Int) + 1),.int .i64 1] (by rfl) rfl rfl (by (try simp only [List.map_toArray,List.map_cons,List.map_nil]);first | done | rfl | (simp only [List.length_drop,List.length_take];rfl)) ?_
 with_reducible refine (roll_calls c ⟨A1,c1,A2,c2,A3,c3,A4,c4⟩ t ((l.length:Int) + 1) 1 _ (HR.out.below (below_step CB.out hHeld))).mono ?_
 rintro e wx ⟨rfl,hb⟩
 refine ⟨_,rfl,?_⟩
 replace hHeld:=below_step hHeld hb
 clear hb
 refine hK.out _ _ hHeld (fun hHeld=>?_)
 clear hK K
 refine norm_ (a':=?_) ?_ ?_
 rotate_left
 ·show Act.put _ (some 54) _ = _
  simp only [Act.put,List.setIfInBounds_toArray,List.set_cons_zero,List.set_cons_succ,i64_w,i32_w]
  rfl
 refine pu_ 9 (some 58) (bq 15 7167) HT_ rfl rfl ?_
 refine pu_ 10 (some 59) (bq 15 8191) HT_ rfl rfl ?_
 refine pu_ 13 (some 19) (bq 15 16383) HT_ rfl rfl ?_
 refine pu_ 14 (some 20) (bq 15 32767) HT_ rfl rfl ?_
 refine done_ (done_of HT_.out (by kernel_rfl)) ?_
 have HS3:=Aside0.mk (HS.out.below hHeld)
 have HE3:=Aside0.mk (HE.out.keep (KeepT.of_below hHeld g))
 have HL3:=Aside0.mk (blk_below HL.out hHeld)
 have HV3:=Aside0.mk (blk_below HV.out hHeld)
 have HK3:=Aside0.mk (HK.out.trans (KeepT.of_below hHeld g))
 have CB3:=Aside0.mk (below_step CB.out hHeld)
 clear hHeld q0 q1 q2 q3 q4 q5 q6 q7 q8 q9 q10 q11 q12 q13 q14 q15 q16 q17 s1 s2 s3 s4 HS HE HL HV HK CB
 obtain ⟨wo,rfl⟩:∃ wo:World,wo = wx:=⟨_,rfl⟩
 generalize sx.f2 + rollV c.seed t ((l.length:Int) + 1) 1 % (sx.f3 + 1) = W0 at HA ⊢
 -- what the faults add
 have q0:wo.cell? ⟨bc,4,none⟩ = some (.slice A4 c.fl.length c4):=(blk_cell HE3.out.c 4).trans rfl
 go_wp2_with fail
 go_loopg [19,20,65] c.fl.length (fun gg s19 s20 s65 wr=>∃ (i:Nat) (wk fk:Int),i ≤ c.fl.length∧c.fl.length - i ≤ gg∧s65 = .int .i64 i∧s19 = .int .i64 wk∧s20 = .int .i64 fk∧Aside0 (faultsV name ver slot (c.fl.drop i) wk fk = faultsV name ver slot c.fl W0 sx.f4)∧Aside0 (Below wo.heap.size wo wr))
 case atStart=>exact ⟨0,W0,sx.f4,by omega,by omega,by rfl,by rfl,by rfl,⟨by simp⟩,⟨Below.refl _ _⟩⟩
 case round=>
  obtain ⟨i,wk,fk,hi,hgi,rfl,rfl,rfl,HF,HBw⟩:=hrel
  by_cases hlt:i < c.fl.length
  ·obtain ⟨ad,e,p0,p1,p2,p3,p4,p5⟩:=at_T61n (Kd.C_below HR.out.r4 (below_step CB3.out HBw.out)) i hlt
   cases e
   have hF:=HF.out
   rw [List.drop_eq_getElem_cons hlt] at hF
   generalize c.fl[i] = x0 at hF p0 p1 p2 p3 p4 p5
   have p6:wr.cell? ⟨bl,0,none⟩ = some (.int .i64 slot):=(HBw.out.cell (World.block_lt_of_cell? wo ⟨bl,0,none⟩ ((blk_cell HE3.out.l 0).trans rfl))).trans ((blk_cell HE3.out.l 0).trans rfl)
   have p7:wr.cell? ⟨vb,5,none⟩ = some (.string ver):=(HBw.out.cell (World.block_lt_of_cell? wo ⟨vb,5,none⟩ ((blk_cell HV3.out 5).trans rfl))).trans ((blk_cell HV3.out 5).trans rfl)
   have hb1:bl < wr.heap.size:=World.block_lt_of_cell? wr _ p6
   have hb2:vb < wr.heap.size:=World.block_lt_of_cell? wr _ p7
   have n1:bl ≠ wr.heap.size:=by omega
   have n2:vb ≠ wr.heap.size:=by omega
   have g0:decide ((i:Int) < (c.fl.length:Int)) = true:=by simpa using hlt
   obtain ⟨y0,y1,⟨y2,y3⟩,y4,y5⟩:=x0
   dsimp only at p0 p1 p2 p3 p4 p5
   have HF':=Aside0.mk hF
   clear hF HF q0
   by_cases kA:y0.toList = name.toList
   ·by_cases kB:y2 ≤ slot
    ·by_cases kC:slot < y3
     ·by_cases kD:y1.toList = []
      ·go_wp2_with fail
       go_quiet (fail)
       go_wp2_with fail
       go_roundg (c.fl.length - (i + 1))
       case measure=>omega
       case rel=>exact ⟨i + 1,wrap64 (wk + y4),wrap64 (fk + y5),by omega,Nat.le_refl _,by go_num,by rfl,by rfl,⟨by have h:=HF'.out;rw [faultsV,if_pos ⟨kA,kB,kC,.inl kD⟩] at h;exact h⟩,⟨by repeat (first | exact HBw.out | apply below_alloc | apply pw_below_drewN)⟩⟩
      ·by_cases kE:y1.toList = ver.toList
       ·have kD':¬ ver.toList = []:=kE ▸ kD
        go_wp2_with fail
        go_quiet (fail)
        go_wp2_with fail
        go_roundg (c.fl.length - (i + 1))
        case measure=>omega
        case rel=>exact ⟨i + 1,wrap64 (wk + y4),wrap64 (fk + y5),by omega,Nat.le_refl _,by go_num,by rfl,by rfl,⟨by have h:=HF'.out;rw [faultsV,if_pos ⟨kA,kB,kC,.inr kE⟩] at h;exact h⟩,⟨by repeat (first | exact HBw.out | apply below_alloc | apply pw_below_drewN)⟩⟩
       ·have kDb:y1.toList.isEmpty = false:=by simpa using kD
        have kEb:(y1.toList == ver.toList) = false:=by simpa using kE
        go_wp2_with fail
        go_roundg (c.fl.length - (i + 1))
        case measure=>omega
        case rel=>exact ⟨i + 1,wk,fk,by omega,Nat.le_refl _,by go_num,by rfl,by rfl,⟨by have h:=HF'.out;rw [faultsV,if_neg (fun h=>h.2.2.2.elim kD kE)] at h;exact h⟩,⟨by repeat (first | exact HBw.out | apply below_alloc | apply pw_below_drewN)⟩⟩
     ·go_wp2_with fail
      go_roundg (c.fl.length - (i + 1))
      case measure=>omega
      case rel=>exact ⟨i + 1,wk,fk,by omega,Nat.le_refl _,by go_num,by rfl,by rfl,⟨by have h:=HF'.out;rw [faultsV,if_neg (fun h=>by have h9:slot < y3:=h.2.2.1;omega)] at h;exact h⟩,⟨by repeat (first | exact HBw.out | apply below_alloc | apply pw_below_drewN)⟩⟩
    ·go_wp2_with fail
     go_roundg (c.fl.length - (i + 1))
     case measure=>omega
     case rel=>exact ⟨i + 1,wk,fk,by omega,Nat.le_refl _,by go_num,by rfl,by rfl,⟨by have h:=HF'.out;rw [faultsV,if_neg (fun h=>by have h9:y2 ≤ slot:=h.2.1;omega)] at h;exact h⟩,⟨by repeat (first | exact HBw.out | apply below_alloc | apply pw_below_drewN)⟩⟩
   ·go_wp2_with fail
    go_roundg (c.fl.length - (i + 1))
    case measure=>omega
    case rel=>exact ⟨i + 1,wk,fk,by omega,Nat.le_refl _,by go_num,by rfl,by rfl,⟨by have h:=HF'.out;rw [faultsV,if_neg (fun h=>kA h.1)] at h;exact h⟩,⟨by repeat (first | exact HBw.out | apply below_alloc | apply pw_below_drewN)⟩⟩
  ·obtain rfl:i = c.fl.length:=by omega
   have hF:=HF.out
   rw [List.drop_length,faultsV] at hF
   have g0:decide ((c.fl.length:Int) < (c.fl.length:Int)) = false:=by simp
   rw [← hF] at HA
   clear hF HF q0
   have HS:=Aside0.mk (HS3.out.below HBw.out)
   have HE:=Aside0.mk (HE3.out.keep (KeepT.of_below HBw.out g))
   have HL:=Aside0.mk (blk_below HL3.out HBw.out)
   have HV:=Aside0.mk (blk_below HV3.out HBw.out)
   have HK:=Aside0.mk (HK3.out.trans (KeepT.of_below HBw.out g))
   have CB:=Aside0.mk (below_step CB3.out HBw.out)
   clear HS3 HE3 HL3 HV3 HK3 CB3 HBw hgi hlt hi
   have q0:wr.cell? ⟨bt,0,none⟩ = some (.int .i64 t):=(blk_cell HE.out.t 0).trans rfl
   have q1:wr.cell? ⟨bc,0,none⟩ = some (.int .i64 c.seed):=(blk_cell HE.out.c 0).trans rfl
   have q2:wr.cell? ⟨bc,1,none⟩ = some (.slice A1 c.sv.length c1):=(blk_cell HE.out.c 1).trans rfl
   have q3:wr.cell? ⟨bc,2,none⟩ = some (.slice A2 c.off.length c2):=(blk_cell HE.out.c 2).trans rfl
   have q4:wr.cell? ⟨bc,3,none⟩ = some (.slice A3 c.ch.length c3):=(blk_cell HE.out.c 3).trans rfl
   have q5:wr.cell? ⟨bc,4,none⟩ = some (.slice A4 c.fl.length c4):=(blk_cell HE.out.c 4).trans rfl
   have q6:wr.cell? ⟨bc,5,none⟩ = some (.int .i64 c.sfrom):=(blk_cell HE.out.c 5).trans rfl
   have q7:wr.cell? ⟨bc,6,none⟩ = some (.int .i64 c.sto):=(blk_cell HE.out.c 6).trans rfl
   have q8:wr.cell? ⟨bc,7,none⟩ = some (.int .i64 c.per):=(blk_cell HE.out.c 7).trans rfl
   have q9:wr.cell? ⟨bc,8,none⟩ = some (.int .i64 c.delay):=(blk_cell HE.out.c 8).trans rfl
   have q10:wr.cell? ⟨bc,9,none⟩ = some (.int .i64 c.chunk):=(blk_cell HE.out.c 9).trans rfl
   have q11:wr.cell? ⟨bc,10,none⟩ = some (.int .i64 c.loss):=(blk_cell HE.out.c 10).trans rfl
   have q12:wr.cell? ⟨bc,11,none⟩ = some (.int .i64 c.rep):=(blk_cell HE.out.c 11).trans rfl
   have q13:wr.cell? ⟨bv,0,none⟩ = some (.func (.func 81) #[] #[pv bs,pv bc,pv bl,pv bb,pv bt,pv bv,pv g]):=(blk_cell HE.out.v 0).trans rfl
   have hA:=HA.out
   clear HA
   dsimp only at hA
   by_cases hwk:0 ≤ wk∧wk ≤ 1099511627776
   case neg=>rw [if_neg hwk] at hA;cases hA
   rw [if_pos hwk] at hA
   obtain ⟨q,hq,hA⟩:=Option.bind_eq_some_iff.mp hA
   obtain ⟨z1,z2,L2⟩:=q
   dsimp only at hA
   by_cases hz:0 ≤ z1∧z1 ≤ BIG∧l.length < L2.length
   case neg=>rw [if_neg hz] at hA;cases hA
   rw [if_pos hz] at hA
   injection hA with hA
   injection hA with hA1 hA
   injection hA with hA2 hA3
   obtain ⟨hz1,hz2,hz3⟩:=hz
   obtain ⟨hwk0,hwk1⟩:=hwk
   unfold BIG at hz2
   have HC:=Aside0.mk hq
   have HA:=Aside0.mk (And.intro hA1 (And.intro hA2 hA3))
   clear hq hA1 hA2 hA3
   go_wp2_with fail
   refine (roll_calls c ⟨A1,c1,A2,c2,A3,c3,A4,c4⟩ t ((l.length:Int) + 1) 4 _ (HR.out.below CB.out)).mono ?_
   rintro e w3 ⟨rfl,hb3⟩
   have HS4:=Aside0.mk (HS.out.below hb3)
   have HE4:=Aside0.mk (HE.out.keep (KeepT.of_below hb3 g))
   have HL4:=Aside0.mk (blk_below HL.out hb3)
   have HV4:=Aside0.mk (blk_below HV.out hb3)
   have HK4:=Aside0.mk (HK.out.trans (KeepT.of_below hb3 g))
   have CB4:=Aside0.mk (below_step CB.out hb3)
   clear hb3 q0 q1 q2 q3 q4 q5 q6 q7 q8 q9 q10 q11 q12 q13 HS HE HL HV HK CB
   have s1:(rollV c.seed t ((l.length:Int) + 1) 4).tmod 1000000 = rollV c.seed t ((l.length:Int) + 1) 4 % 1000000:=roll_tmod _ _ _ _ _
   have s2:wk.tdiv 2 = wk / 2:=Int.tdiv_eq_ediv_of_nonneg hwk0
   have s3:IntKind.i64.wrap (x + wk / 2) = x + wk / 2:=IntWalk.i64_in _ (by omega)
   have q0:w3.cell? ⟨lb,5,none⟩ = some (.slice SA sx.f5.length sc):=(blk_cell HL4.out 5).trans rfl
   clear wr
   obtain ⟨wo,rfl⟩:∃ wo:World,wo = w3:=⟨_,rfl⟩
   go_wp2_with fail
   have HSM3:=Aside0.mk (Kd.C_below HSM.out CB4.out)
   obtain ⟨b0,hb0⟩:∃ b0:Bool,b0 = decide (rollV c.seed t ((l.length:Int) + 1) 4 % 1000000 < fk):=⟨_,rfl⟩
   rw [← hb0] at HC ⊢
   clear hb0 s1 s2 s3
   have K00:=Aside0.mk (KeepT.refl wo g)
   go_loopg [23,24,122] sx.f5.length (fun gg s23 s24 s122 wr=>∃ (i:Nat) (y:Int) (bf:Bool) (L:List Sp),i ≤ sx.f5.length∧sx.f5.length - i ≤ gg∧s122 = .int .i64 i∧s24 = .int .i64 y∧s23 = .bool bf∧Aside0 (callsV c.seed c.delay t ((l.length:Int) + 1) sx ver (serveV c slot t sm n) (sx.f5.drop i) y bf L = some (z1,z2,L2))∧Aside0 (SpR wr g w0.heap.size L)∧Aside0 (KeepT wo wr g)∧Aside0 (Below w0.heap.size w0 wr))
   case atStart=>exact ⟨0,x + wk / 2,b0,_,by omega,by omega,by rfl,by rfl,by rfl,⟨by have:=HC.out;simpa using this⟩,HS4,K00,CB4⟩
   case round=>
    clear HC HS4 K00 CB4 q0
    obtain ⟨i,y,bf,L,hi,hgi,rfl,rfl,rfl,HC,HS5,HK5,CB5⟩:=hrel
    have HE5:=Aside0.mk (HE4.out.keep HK5.out)
    have HL5:=Aside0.mk (HK5.out.cellsBlk HL4.out (Ne.symm hgl) (by decide))
    have HV5:=Aside0.mk (HK5.out.cellsBlk HV4.out (Ne.symm hgv) (by decide))
    by_cases hlt:i < sx.f5.length
    ·have g0:decide ((i:Int) < (sx.f5.length:Int)) = true:=by simpa using hlt
     obtain ⟨ad5,e5,g5⟩:=string_at HSM.out i hlt
     subst e5
     replace g5:=below_at CB5.out g5
     have hC:=HC.out
     clear HC
     rw [List.drop_eq_getElem_cons hlt] at hC
     generalize sx.f5[i] = nm at hC g5
     unfold callsV at hC
     by_cases hgd:L.length < 1000∧0 ≤ y∧y ≤ BIG
     case neg=>rw [if_neg hgd] at hC;cases hC
     rw [if_pos hgd] at hC
     obtain ⟨q',hrec,hC⟩:=Option.bind_eq_some_iff.mp hC
     obtain ⟨v1,v2,L3⟩:=q'
     dsimp only at hC
     by_cases hgd2:0 ≤ v1∧v1 ≤ BIG∧L.length < L3.length
     case neg=>rw [if_neg hgd2] at hC;cases hC
     rw [if_pos hgd2] at hC
     obtain ⟨hL0,hy0,hy1⟩:=hgd
     obtain ⟨hv0,hv1,hL3⟩:=hgd2
     unfold BIG at hy1 hv1
     have HC:=Aside0.mk hC
     have HREC:=Aside0.mk hrec
     clear hC hrec
     have p0:wr.cell? ⟨bb,0,none⟩ = some (.func (.func 80) #[] #[pv g,pv bt]):=(blk_cell HE5.out.b 0).trans rfl
     have p1:wr.cell? ⟨lb,0,none⟩ = some (.string sx.f0):=(blk_cell HL5.out 0).trans rfl
     have p2:wr.cell? ⟨lb,1,none⟩ = some (.int .i64 sx.f1):=(blk_cell HL5.out 1).trans rfl
     have p3:wr.cell? ⟨lb,2,none⟩ = some (.int .i64 sx.f2):=(blk_cell HL5.out 2).trans rfl
     have p4:wr.cell? ⟨lb,3,none⟩ = some (.int .i64 sx.f3):=(blk_cell HL5.out 3).trans rfl
     have p5:wr.cell? ⟨lb,4,none⟩ = some (.int .i64 sx.f4):=(blk_cell HL5.out 4).trans rfl
     have p6:wr.cell? ⟨lb,5,none⟩ = some (.slice (some ad5) sx.f5.length sc):=(blk_cell HL5.out 5).trans rfl
     have p7:wr.cell? ⟨vb,5,none⟩ = some (.string ver):=(blk_cell HV5.out 5).trans rfl
     go_wp2_with fail
     refine (begin_calls wr w0 g bt w0.heap.size t L sx (some ad5) sc ((l.length:Int) + 1) 2 y strCall ver HE5.out.t HS5.out HE5.out.hg hL0 CB5.out HE5.out.hW).mono ?_
     rintro e w4 ⟨rfl,hs4,hk4,hb4⟩
     have HS6:=Aside0.mk hs4
     have HK6:=Aside0.mk (HK5.out.trans hk4)
     have HE6:=Aside0.mk (HE5.out.keep hk4)
     have CB:=Aside0.mk hb4
     clear p0 p1 p2 p3 p4 p5 p6 p7 g5 HS5 HK5 HE5 HL5 HV5 CB5 hs4 hk4 hb4
     have q0:w4.cell? ⟨bt,0,none⟩ = some (.int .i64 t):=(blk_cell HE6.out.t 0).trans rfl
     have q1:w4.cell? ⟨bc,0,none⟩ = some (.int .i64 c.seed):=(blk_cell HE6.out.c 0).trans rfl
     have q2:w4.cell? ⟨bc,1,none⟩ = some (.slice A1 c.sv.length c1):=(blk_cell HE6.out.c 1).trans rfl
     have q3:w4.cell? ⟨bc,2,none⟩ = some (.slice A2 c.off.length c2):=(blk_cell HE6.out.c 2).trans rfl
     have q4:w4.cell? ⟨bc,3,none⟩ = some (.slice A3 c.ch.length c3):=(blk_cell HE6.out.c 3).trans rfl
     have q5:w4.cell? ⟨bc,4,none⟩ = some (.slice A4 c.fl.length c4):=(blk_cell HE6.out.c 4).trans rfl
     have q6:w4.cell? ⟨bc,5,none⟩ = some (.int .i64 c.sfrom):=(blk_cell HE6.out.c 5).trans rfl
     have q7:w4.cell? ⟨bc,6,none⟩ = some (.int .i64 c.sto):=(blk_cell HE6.out.c 6).trans rfl
     have q8:w4.cell? ⟨bc,7,none⟩ = some (.int .i64 c.per):=(blk_cell HE6.out.c 7).trans rfl
     have q9:w4.cell? ⟨bc,8,none⟩ = some (.int .i64 c.delay):=(blk_cell HE6.out.c 8).trans rfl
     have q10:w4.cell? ⟨bc,9,none⟩ = some (.int .i64 c.chunk):=(blk_cell HE6.out.c 9).trans rfl
     have q11:w4.cell? ⟨bc,10,none⟩ = some (.int .i64 c.loss):=(blk_cell HE6.out.c 10).trans rfl
     have q12:w4.cell? ⟨bc,11,none⟩ = some (.int .i64 c.rep):=(blk_cell HE6.out.c 11).trans rfl
     have q13:w4.cell? ⟨bv,0,none⟩ = some (.func (.func 81) #[] #[pv bs,pv bc,pv bl,pv bb,pv bt,pv bv,pv g]):=(blk_cell HE6.out.v 0).trans rfl
     go_wp2_with fail
     have s0:IntKind.i64.wrap (c.delay + 1) = c.delay + 1:=IntWalk.i64_in _ (by omega)
     have s1:IntKind.i64.wrap (y + c.delay) = y + c.delay:=IntWalk.i64_in _ (by omega)
     have s2:¬ (c.delay + 1 = 0):=by omega
     have s3:(rollV c.seed t ((L.length:Int) + 1) 2).tmod (c.delay + 1) = rollV c.seed t ((L.length:Int) + 1) 2 % (c.delay + 1):=roll_tmod _ _ _ _ _
     have s4:IntKind.i64.wrap (y + c.delay + rollV c.seed t ((L.length:Int) + 1) 2 % (c.delay + 1)) = y + c.delay + rollV c.seed t ((L.length:Int) + 1) 2 % (c.delay + 1):=emod_wrap _ _ _ hd hd1 (by omega) (by omega)
     refine start_ (n:=22) (S:=fun w'=>Below w4.heap.size w4 w') (ds:=[16]) (bq 22 0) (by kernel_rfl) rfl rfl (Below.refl _ _).drew (fun hHeld=>?_)
     refine with_tabW serveT.tab17 serveT.bits17 (fun HT_ HW_=>?_)
     generalize w4.drew = wd at hHeld ⊢
     refine tk_ 0 (some 134) (bq 22 1) HT_ HW_ rfl rfl hHeld ?_ (by intro w' hS;replace q0:=below_at hS q0;replace q1:=below_at hS q1;replace q2:=below_at hS q2;replace q3:=below_at hS q3;replace q4:=below_at hS q4;replace q5:=below_at hS q5;replace q6:=below_at hS q6;replace q7:=below_at hS q7;replace q8:=below_at hS q8;replace q9:=below_at hS q9;replace q10:=below_at hS q10;replace q11:=below_at hS q11;replace q12:=below_at hS q12;replace q13:=below_at hS q13;go_simp;with_reducible rfl)
     refine pu_ 1 (some 135) (bq 22 3) HT_ rfl rfl ?_
     refine pu_ 2 (some 136) (bq 22 7) HT_ rfl rfl ?_
     refine pu_ 3 (some 137) (bq 22 15) HT_ rfl rfl ?_
     refine pu_ 4 (some 138) (bq 22 31) HT_ rfl rfl ?_
     refine tk_ 5 (some 139) (bq 22 63) HT_ HW_ rfl rfl hHeld ?_ (by intro w' hS;replace q0:=below_at hS q0;replace q1:=below_at hS q1;replace q2:=below_at hS q2;replace q3:=below_at hS q3;replace q4:=below_at hS q4;replace q5:=below_at hS q5;replace q6:=below_at hS q6;replace q7:=below_at hS q7;replace q8:=below_at hS q8;replace q9:=below_at hS q9;replace q10:=below_at hS q10;replace q11:=below_at hS q11;replace q12:=below_at hS q12;replace q13:=below_at hS q13;go_simp;with_reducible rfl)
     refine pu_ 6 (some 140) (bq 22 127) HT_ rfl rfl ?_
     refine tk_ 7 (some 141) (bq 22 255) HT_ HW_ rfl rfl hHeld ?_ (by intro w' hS;replace q0:=below_at hS q0;replace q1:=below_at hS q1;replace q2:=below_at hS q2;replace q3:=below_at hS q3;replace q4:=below_at hS q4;replace q5:=below_at hS q5;replace q6:=below_at hS q6;replace q7:=below_at hS q7;replace q8:=below_at hS q8;replace q9:=below_at hS q9;replace q10:=below_at hS q10;replace q11:=below_at hS q11;replace q12:=below_at hS q12;replace q13:=below_at hS q13;go_simp;with_reducible rfl)
     refine tk_ 8 (some 142) (bq 22 511) HT_ HW_ rfl rfl hHeld ?_ (by intro w' hS;replace q0:=below_at hS q0;replace q1:=below_at hS q1;replace q2:=below_at hS q2;replace q3:=below_at hS q3;replace q4:=below_at hS q4;replace q5:=below_at hS q5;replace q6:=below_at hS q6;replace q7:=below_at hS q7;replace q8:=below_at hS q8;replace q9:=below_at hS q9;replace q10:=below_at hS q10;replace q11:=below_at hS q11;replace q12:=below_at hS q12;replace q13:=below_at hS q13;go_simp;with_reducible rfl)
     refine pu_ 9 (some 143) (bq 22 1023) HT_ rfl rfl ?_
     refine pu_ 11 (some 145) (bq 22 3071) HT_ rfl rfl ?_
     refine tk_ 12 (some 146) (bq 22 7167) HT_ HW_ rfl rfl hHeld ?_ (by intro w' hS;replace q0:=below_at hS q0;replace q1:=below_at hS q1;replace q2:=below_at hS q2;replace q3:=below_at hS q3;replace q4:=below_at hS q4;replace q5:=below_at hS q5;replace q6:=below_at hS q6;replace q7:=below_at hS q7;replace q8:=below_at hS q8;replace q9:=below_at hS q9;replace q10:=below_at hS q10;replace q11:=below_at hS q11;replace q12:=below_at hS q12;replace q13:=below_at hS q13;go_simp;with_reducible rfl)
     refine pu_ 13 (some 147) (bq 22 15359) HT_ rfl rfl ?_
     refine one_ (i:=10) (N:=some 144) (bq 22 16383) rfl rfl (one_of HT_.out (by kernel_rfl)) (by decide) (fun K hK=>?_)
     refine goes_ Tryz.func18 (by kernel_rfl) rfl #[c.val ⟨A1,c1,A2,c2,A3,c3,A4,c4⟩,.int .i64 t,.int .i64 ((L.length:Int) + 1),.int .i64 2] (by rfl) rfl rfl (by (try simp only [List.map_toArray,List.map_cons,List.map_nil]);first | done | rfl | (simp only [List.length_drop,List.length_take];rfl)) ?_
     with_reducible refine (roll_calls c ⟨A1,c1,A2,c2,A3,c3,A4,c4⟩ t ((L.length:Int) + 1) 2 _ (HR.out.below (below_step CB.out hHeld))).mono ?_
     rintro e wx ⟨rfl,hb⟩
     refine ⟨_,rfl,?_⟩
     replace hHeld:=below_step hHeld hb
     clear hb
     refine hK.out _ _ hHeld (fun hHeld=>?_)
     clear hK K
     refine norm_ (a':=?_) ?_ ?_
     rotate_left
     ·show Act.put _ (some 144) _ = _
      simp only [Act.put,List.setIfInBounds_toArray,List.set_cons_zero,List.set_cons_succ,i64_w,i32_w]
      rfl
     refine pu_ 14 (some 148) (bq 22 32767) HT_ rfl rfl ?_
     refine pu_ 15 (some 149) (bq 22 65535) HT_ rfl rfl ?_
     refine last_ (i:=16) (N:=some 150) (bq 22 131071) rfl rfl (one_of HT_.out (by kernel_rfl)) (by decide) (fun K hK=>?_)
     refine call_ 81 #[.string nm,.int .i64 ((L.length:Int) + 1),.int .i64 (y + c.delay + rollV c.seed t ((L.length:Int) + 1) 2 % (c.delay + 1)),pv bs,pv bc,pv bl,pv bb,pv bt,pv bv,pv g] (by rfl) rfl ?_ ?_
     ·have he:=enters_ (P:=Tryz.prog) Tryz.func81 (by kernel_rfl) rfl #[.string nm,.int .i64 ((L.length:Int) + 1),.int .i64 (y + c.delay + rollV c.seed t ((L.length:Int) + 1) 2 % (c.delay + 1)),pv bs,pv bc,pv bl,pv bb,pv bt,pv bv,pv g] wx
      unfold execOp
      simp [resolve,Deferred.ofValue,invoke,Act.eval,he]
     refine (IH.out nm _ _ _ wx v1 v2 L3 HREC.out (HE6.out.keep (KeepT.of_below hHeld g)) (HS6.out.below hHeld) (below_step CB.out hHeld)).mono ?_
     rintro e w5 ⟨rfl,hs5,hk5,hb5⟩
     refine ⟨_,rfl,?_⟩
     have HS7:=Aside0.mk hs5
     have HK7:=Aside0.mk ((HK6.out.trans (KeepT.of_below hHeld g)).trans hk5)
     have HE7:=Aside0.mk ((HE6.out.keep (KeepT.of_below hHeld g)).keep hk5)
     have CB7:=Aside0.mk hb5
     clear hs5 hk5 hb5
     refine hK.out _ _ ?_
     clear hK K
     refine norm_ (a':=?_) ?_ ?_
     rotate_left
     ·show Act.put _ (some 150) _ = _
      simp only [Act.put,List.setIfInBounds_toArray,List.set_cons_zero,List.set_cons_succ,i64_w,i32_w]
      rfl
     refine pu_ 17 (some 133) (bq 22 262143) HT_ rfl rfl ?_
     refine pu_ 18 (some 151) (bq 22 524287) HT_ rfl rfl ?_
     refine pu_ 19 (some 152) (bq 22 1048575) HT_ rfl rfl ?_
     refine pu_ 20 (some 28) (bq 22 2097151) HT_ rfl rfl ?_
     refine pu_ 21 (some 29) (bq 22 4194303) HT_ rfl rfl ?_
     refine done_ (done_of HT_.out (by kernel_rfl)) ?_
     clear q0 q1 q2 q3 q4 q5 q6 q7 q8 q9 q10 q11 q12 q13 s1 s3 s4 HS6 HE6 HK6 CB HREC
     have q0:w5.cell? ⟨bt,0,none⟩ = some (.int .i64 t):=(blk_cell HE7.out.t 0).trans rfl
     have q1:w5.cell? ⟨bc,0,none⟩ = some (.int .i64 c.seed):=(blk_cell HE7.out.c 0).trans rfl
     have q2:w5.cell? ⟨bc,1,none⟩ = some (.slice A1 c.sv.length c1):=(blk_cell HE7.out.c 1).trans rfl
     have q3:w5.cell? ⟨bc,2,none⟩ = some (.slice A2 c.off.length c2):=(blk_cell HE7.out.c 2).trans rfl
     have q4:w5.cell? ⟨bc,3,none⟩ = some (.slice A3 c.ch.length c3):=(blk_cell HE7.out.c 3).trans rfl
     have q5:w5.cell? ⟨bc,4,none⟩ = some (.slice A4 c.fl.length c4):=(blk_cell HE7.out.c 4).trans rfl
     have q6:w5.cell? ⟨bc,5,none⟩ = some (.int .i64 c.sfrom):=(blk_cell HE7.out.c 5).trans rfl
     have q7:w5.cell? ⟨bc,6,none⟩ = some (.int .i64 c.sto):=(blk_cell HE7.out.c 6).trans rfl
     have q8:w5.cell? ⟨bc,7,none⟩ = some (.int .i64 c.per):=(blk_cell HE7.out.c 7).trans rfl
     have q9:w5.cell? ⟨bc,8,none⟩ = some (.int .i64 c.delay):=(blk_cell HE7.out.c 8).trans rfl
     have q10:w5.cell? ⟨bc,9,none⟩ = some (.int .i64 c.chunk):=(blk_cell HE7.out.c 9).trans rfl
     have q11:w5.cell? ⟨bc,10,none⟩ = some (.int .i64 c.loss):=(blk_cell HE7.out.c 10).trans rfl
     have q12:w5.cell? ⟨bc,11,none⟩ = some (.int .i64 c.rep):=(blk_cell HE7.out.c 11).trans rfl
     have q13:w5.cell? ⟨bv,0,none⟩ = some (.func (.func 81) #[] #[pv bs,pv bc,pv bl,pv bb,pv bt,pv bv,pv g]):=(blk_cell HE7.out.v 0).trans rfl
     have s1:IntKind.i64.wrap (v1 + c.delay) = v1 + c.delay:=IntWalk.i64_in _ (by omega)
     have s3:(rollV c.seed t ((L.length:Int) + 1) 3).tmod (c.delay + 1) = rollV c.seed t ((L.length:Int) + 1) 3 % (c.delay + 1):=roll_tmod _ _ _ _ _
     have s4:IntKind.i64.wrap (v1 + c.delay + rollV c.seed t ((L.length:Int) + 1) 3 % (c.delay + 1)) = v1 + c.delay + rollV c.seed t ((L.length:Int) + 1) 3 % (c.delay + 1):=emod_wrap _ _ _ hd hd1 (by omega) (by omega)
     go_wp2_with fail
     refine start_ (n:=14) (S:=fun w'=>Below w5.heap.size w5 w') (ds:=[]) (bq 14 0) (by kernel_rfl) rfl rfl (Below.refl _ _).drew (fun hHeld=>?_)
     refine with_tabW serveT.tab18 serveT.bits18 (fun HT_ HW_=>?_)
     generalize w5.drew = wd at hHeld ⊢
     refine pu_ 0 (some 153) (bq 14 1) HT_ rfl rfl ?_
     refine pu_ 1 (some 154) (bq 14 3) HT_ rfl rfl ?_
     refine tk_ 2 (some 155) (bq 14 7) HT_ HW_ rfl rfl hHeld ?_ (by intro w' hS;replace q0:=below_at hS q0;replace q1:=below_at hS q1;replace q2:=below_at hS q2;replace q3:=below_at hS q3;replace q4:=below_at hS q4;replace q5:=below_at hS q5;replace q6:=below_at hS q6;replace q7:=below_at hS q7;replace q8:=below_at hS q8;replace q9:=below_at hS q9;replace q10:=below_at hS q10;replace q11:=below_at hS q11;replace q12:=below_at hS q12;replace q13:=below_at hS q13;go_simp;with_reducible rfl)
     refine pu_ 3 (some 156) (bq 14 15) HT_ rfl rfl ?_
     refine tk_ 4 (some 157) (bq 14 31) HT_ HW_ rfl rfl hHeld ?_ (by intro w' hS;replace q0:=below_at hS q0;replace q1:=below_at hS q1;replace q2:=below_at hS q2;replace q3:=below_at hS q3;replace q4:=below_at hS q4;replace q5:=below_at hS q5;replace q6:=below_at hS q6;replace q7:=below_at hS q7;replace q8:=below_at hS q8;replace q9:=below_at hS q9;replace q10:=below_at hS q10;replace q11:=below_at hS q11;replace q12:=below_at hS q12;replace q13:=below_at hS q13;go_simp;with_reducible rfl)
     refine tk_ 5 (some 158) (bq 14 63) HT_ HW_ rfl rfl hHeld ?_ (by intro w' hS;replace q0:=below_at hS q0;replace q1:=below_at hS q1;replace q2:=below_at hS q2;replace q3:=below_at hS q3;replace q4:=below_at hS q4;replace q5:=below_at hS q5;replace q6:=below_at hS q6;replace q7:=below_at hS q7;replace q8:=below_at hS q8;replace q9:=below_at hS q9;replace q10:=below_at hS q10;replace q11:=below_at hS q11;replace q12:=below_at hS q12;replace q13:=below_at hS q13;go_simp;with_reducible rfl)
     refine pu_ 6 (some 159) (bq 14 127) HT_ rfl rfl ?_
     refine pu_ 8 (some 161) (bq 14 383) HT_ rfl rfl ?_
     refine tk_ 9 (some 162) (bq 14 895) HT_ HW_ rfl rfl hHeld ?_ (by intro w' hS;replace q0:=below_at hS q0;replace q1:=below_at hS q1;replace q2:=below_at hS q2;replace q3:=below_at hS q3;replace q4:=below_at hS q4;replace q5:=below_at hS q5;replace q6:=below_at hS q6;replace q7:=below_at hS q7;replace q8:=below_at hS q8;replace q9:=below_at hS q9;replace q10:=below_at hS q10;replace q11:=below_at hS q11;replace q12:=below_at hS q12;replace q13:=below_at hS q13;go_simp;with_reducible rfl)
     refine pu_ 10 (some 163) (bq 14 1919) HT_ rfl rfl ?_
     refine one_ (i:=7) (N:=some 160) (bq 14 2047) rfl rfl (one_of HT_.out (by kernel_rfl)) (by decide) (fun K hK=>?_)
     refine goes_ Tryz.func18 (by kernel_rfl) rfl #[c.val ⟨A1,c1,A2,c2,A3,c3,A4,c4⟩,.int .i64 t,.int .i64 ((L.length:Int) + 1),.int .i64 3] (by rfl) rfl rfl (by (try simp only [List.map_toArray,List.map_cons,List.map_nil]);first | done | rfl | (simp only [List.length_drop,List.length_take];rfl)) ?_
     with_reducible refine (roll_calls c ⟨A1,c1,A2,c2,A3,c3,A4,c4⟩ t ((L.length:Int) + 1) 3 _ (HR.out.below (below_step CB7.out hHeld))).mono ?_
     rintro e wx ⟨rfl,hb⟩
     refine ⟨_,rfl,?_⟩
     replace hHeld:=below_step hHeld hb
     clear hb
     refine hK.out _ _ hHeld (fun hHeld=>?_)
     clear hK K
     refine norm_ (a':=?_) ?_ ?_
     rotate_left
     ·show Act.put _ (some 160) _ = _
      simp only [Act.put,List.setIfInBounds_toArray,List.set_cons_zero,List.set_cons_succ,i64_w,i32_w]
      rfl
     refine pu_ 11 (some 164) (bq 14 4095) HT_ rfl rfl ?_
     refine pu_ 12 (some 165) (bq 14 8191) HT_ rfl rfl ?_
     refine pu_ 13 (some 24) (bq 14 16383) HT_ rfl rfl ?_
     refine done_ (done_of HT_.out (by kernel_rfl)) ?_
     clear q0 q1 q2 q3 q4 q5 q6 q7 q8 q9 q10 q11 q12 q13 s0 s1 s2 s3 s4
     have hdr:Below wx.heap.size wx wx.drew:=(Below.refl _ _).drew
     have HS8:=Aside0.mk ((HS7.out.below hHeld).below hdr)
     have HK8:=Aside0.mk (HK7.out.trans ((KeepT.of_below hHeld g).trans (KeepT.of_below hdr g)))
     have CB8:=Aside0.mk (below_step (below_step CB7.out hHeld) hdr)
     have hgr:=HE7.out.hg
     generalize v1 + c.delay + rollV c.seed t ((L.length:Int) + 1) 3 % (c.delay + 1) = y1 at HC ⊢
     clear hHeld hdr HS7 HE7 HK7 CB7
     obtain ⟨r,cp,hv8,ho8,e1,e2,f1,f2,hbr,hr8⟩:=HS8.out.opened L.length hL3
     have hq:wx.drew.cell? ⟨g,0,none⟩ = some (.slice (some ⟨r,0,none⟩) L3.length cp):=(blk_cell hv8 0).trans rfl
     have HX:=Aside0.mk (And.intro hv8 (And.intro ho8 hr8))
     clear hv8 ho8 hr8
     go_wp2_with fail
     have s1:IntKind.i64.wrap ((L.length:Int) + 1 - 1) = (L.length:Int):=by rw [show (L.length:Int) + 1 - 1 = (L.length:Int) from by omega];exact IntWalk.i64_in _ (by omega)
     have s5:IntKind.i64.wrap (L.length:Int) = (L.length:Int):=IntWalk.i64_in _ (by omega)
     have s2:(0:Int) ≤ (L.length:Int):=by omega
     have s4:(L.length:Int) < (L3.length:Int):=by omega
     have hgr8:g ≠ r:=by
      rintro rfl
      obtain ⟨cur,hcur⟩:=HX.out.2.2
      have h9:=HX.out.1.symm.trans hcur
      injection h9 with h9
      injection h9 with _ h9
      exact absurd h9 (by decide)
     refine start_ (n:=14) (S:=fun w'=>w'.cell? ⟨g,0,none⟩ = some (.slice (some ⟨r,0,none⟩) L3.length cp)) (ds:=[13]) (bq 14 0) (by kernel_rfl) rfl rfl hq (fun hHeld=>?_)
     refine with_tabW serveT.tab19 serveT.bits19 (fun HT_ HW_=>?_)
     generalize wx.drew = wz at *
     refine with_tabW serveT.tab19 serveT.bits19 (fun HT_ HW_=>?_)
     refine tk_ 0 (some 166) (bq 14 1) HT_ HW_ rfl rfl hHeld ?_ (by intro w' hS;go_simp;with_reducible rfl)
     refine pu_ 1 (some 167) (bq 14 3) HT_ rfl rfl ?_
     refine pu_ 2 (some 168) (bq 14 7) HT_ rfl rfl ?_
     refine tk_ 3 (some 169) (bq 14 15) HT_ HW_ rfl rfl hHeld ?_ (by intro w' hS;go_simp;with_reducible rfl)
     refine pu_ 4 (some 170) (bq 14 31) HT_ rfl rfl ?_
     refine pu_ 5 (some 171) (bq 14 63) HT_ rfl rfl ?_
     refine pu_ 6 (some 172) (bq 14 127) HT_ rfl rfl ?_
     refine pu_ 7 (some 173) (bq 14 255) HT_ rfl rfl ?_
     refine pu_ 8 (some 174) (bq 14 511) HT_ rfl rfl ?_
     refine pu_ 9 (some 175) (bq 14 1023) HT_ rfl rfl ?_
     refine one_ (i:=10) (N:=none) (bq 14 2047) rfl rfl (one_of HT_.out (by kernel_rfl)) (by decide) (fun K hK=>?_)
     rw [if_pos (by rfl)]
     go_simp
     refine hK.out _ _ ?_ (fun hHeld=>?_)
     ·rw [cell_ne_ _ _ _ hgr8]
      exact hq
     clear hK K
     refine pu_ 11 (some 176) (bq 14 4095) HT_ rfl rfl ?_
     refine pu_ 12 (some 177) (bq 14 8191) HT_ rfl rfl ?_
     refine last_ (i:=13) (N:=none) (bq 14 16383) rfl rfl (one_of HT_.out (by kernel_rfl)) (by decide) (fun K hK=>?_)
     rw [if_pos (by rfl)]
     go_simp
     refine hK.out _ _ ?_
     clear hK K
     refine done_ (done_of HT_.out (by kernel_rfl)) ?_
     ·cases bf
      ·go_wp2_with fail
       go_roundg (sx.f5.length - (i + 1))
       case measure=>omega
       case rel=>
        refine ⟨i + 1,y1,v2,setEnd L3 L.length y1 v2,by omega,Nat.le_refl _,by go_num,by rfl,by rfl,⟨by have h:=HC.out;rw [Bool.false_or] at h;exact h⟩,⟨?_⟩,⟨?_⟩,⟨?_⟩⟩
        ·with_reducible exact SpR.stores2 HX.out.1 HX.out.2.1 L.length hL3 y1 v2
        ·exact HK8.out.trans (KeepT.stores HX.out.2.2 _ _ _ _)
        ·exact (CB8.out.setCell hbr _).setCell hbr _
      ·go_wp2_with fail
       go_roundg (sx.f5.length - (i + 1))
       case measure=>omega
       case rel=>
        refine ⟨i + 1,y1,true,setEnd L3 L.length y1 v2,by omega,Nat.le_refl _,by go_num,by rfl,by rfl,⟨by have h:=HC.out;rw [Bool.true_or] at h;exact h⟩,⟨?_⟩,⟨?_⟩,⟨?_⟩⟩
        ·with_reducible exact SpR.stores2 HX.out.1 HX.out.2.1 L.length hL3 y1 v2
        ·exact HK8.out.trans (KeepT.stores HX.out.2.2 _ _ _ _)
        ·exact (CB8.out.setCell hbr _).setCell hbr _
    ·obtain rfl:i = sx.f5.length:=by omega
     have hC:=HC.out
     rw [List.drop_length,callsV] at hC
     injection hC with hC
     injection hC with hC1 hC
     injection hC with hC2 hC3
     subst hC1
     subst hC2
     subst hC3
     clear HC hi hgi hlt
     have g0:decide ((sx.f5.length:Int) < (sx.f5.length:Int)) = false:=by simp
     have hdr:Below wr.heap.size wr wr.drew:=(Below.refl _ _).drew
     have HS8:=Aside0.mk (HS5.out.below hdr)
     have HK8:=Aside0.mk ((HK4.out.trans HK5.out).trans (KeepT.of_below hdr g))
     have CB8:=Aside0.mk (below_step CB5.out hdr)
     clear hdr HS5 HE5 HK5 CB5 HL5 HV5
     obtain ⟨r,cp,hv8,ho8,e1,e2,f1,f2,hbr,hr8⟩:=HS8.out.opened l.length hz3
     have hq:wr.drew.cell? ⟨g,0,none⟩ = some (.slice (some ⟨r,0,none⟩) L.length cp):=(blk_cell hv8 0).trans rfl
     have HX:=Aside0.mk (And.intro hv8 (And.intro ho8 hr8))
     clear hv8 ho8 hr8
     have s1:wk.tdiv 2 = wk / 2:=Int.tdiv_eq_ediv_of_nonneg hwk0
     have s2:IntKind.i64.wrap (y + wk) = y + wk:=IntWalk.i64_in _ (by omega)
     have s3:IntKind.i64.wrap (y + wk - wk / 2) = y + wk - wk / 2:=IntWalk.i64_in _ (by omega)
     go_wp2_with fail
     have s4:IntKind.i64.wrap ((l.length:Int) + 1 - 1) = (l.length:Int):=by rw [show (l.length:Int) + 1 - 1 = (l.length:Int) from by omega];exact IntWalk.i64_in _ (by omega)
     have s5:IntKind.i64.wrap (l.length:Int) = (l.length:Int):=IntWalk.i64_in _ (by omega)
     have s6:(0:Int) ≤ (l.length:Int):=by omega
     have s7:(l.length:Int) < (L.length:Int):=by omega
     have hgr8:g ≠ r:=by
      rintro rfl
      obtain ⟨cur,hcur⟩:=HX.out.2.2
      have h9:=HX.out.1.symm.trans hcur
      injection h9 with h9
      injection h9 with _ h9
      exact absurd h9 (by decide)
     refine start_ (n:=14) (S:=fun w'=>w'.cell? ⟨g,0,none⟩ = some (.slice (some ⟨r,0,none⟩) L.length cp)) (ds:=[13]) (bq 14 0) (by kernel_rfl) rfl rfl hq (fun hHeld=>?_)
     refine with_tabW serveT.tab23 serveT.bits23 (fun HT_ HW_=>?_)
     generalize wr.drew = wz at *
     refine with_tabW serveT.tab23 serveT.bits23 (fun HT_ HW_=>?_)
     refine tk_ 0 (some 189) (bq 14 1) HT_ HW_ rfl rfl hHeld ?_ (by intro w' hS;go_simp;with_reducible rfl)
     refine pu_ 1 (some 190) (bq 14 3) HT_ rfl rfl ?_
     refine pu_ 2 (some 191) (bq 14 7) HT_ rfl rfl ?_
     refine tk_ 3 (some 192) (bq 14 15) HT_ HW_ rfl rfl hHeld ?_ (by intro w' hS;go_simp;with_reducible rfl)
     refine pu_ 4 (some 193) (bq 14 31) HT_ rfl rfl ?_
     refine pu_ 5 (some 194) (bq 14 63) HT_ rfl rfl ?_
     refine pu_ 6 (some 195) (bq 14 127) HT_ rfl rfl ?_
     refine pu_ 7 (some 196) (bq 14 255) HT_ rfl rfl ?_
     refine pu_ 8 (some 197) (bq 14 511) HT_ rfl rfl ?_
     refine pu_ 9 (some 198) (bq 14 1023) HT_ rfl rfl ?_
     refine one_ (i:=10) (N:=none) (bq 14 2047) rfl rfl (one_of HT_.out (by kernel_rfl)) (by decide) (fun K hK=>?_)
     rw [if_pos (by rfl)]
     go_simp
     refine hK.out _ _ ?_ (fun hHeld=>?_)
     ·rw [cell_ne_ _ _ _ hgr8]
      exact hq
     clear hK K
     refine pu_ 11 (some 199) (bq 14 4095) HT_ rfl rfl ?_
     refine pu_ 12 (some 200) (bq 14 8191) HT_ rfl rfl ?_
     refine last_ (i:=13) (N:=none) (bq 14 16383) rfl rfl (one_of HT_.out (by kernel_rfl)) (by decide) (fun K hK=>?_)
     rw [if_pos (by rfl)]
     go_simp
     refine hK.out _ _ ?_
     clear hK K
     refine done_ (done_of HT_.out (by kernel_rfl)) ?_
     obtain ⟨k1,k2,k3⟩:=HA.out
     subst k1
     subst k2
     subst k3
     clear HA
     go_wp2_with fail
     go_returns
     refine ⟨by rfl,?_,?_,?_⟩
     ·with_reducible exact SpR.stores2 HX.out.1 HX.out.2.1 l.length hz3 (y + wk - wk / 2) bf
     ·exact HK8.out.trans (KeepT.stores HX.out.2.2 _ _ _ _)
     ·exact (CB8.out.setCell hbr _).setCell hbr _
theorem serve_calls (w0:World) (bs bm bc bl bb bt bv g:Nat) (c:Cfg) (p:CfgAt) (slot t:Int) (sm:List (ByteArray × SvV)) (hR:CfgR w0 p c) (hd:0 ≤ c.delay) (hd1:c.delay ≤ 1048576)
  (hsm:∀ nm sv,mget sm nm = some sv→Kd.C Kd.string w0 sv.A sv.x.f5.length sv.x.f5):∀ (n:Nat)
  (name:ByteArray) (parent x:Int) (l:List Sp) (W:World) (r1:Int) (r2:Bool) (l':List Sp),serveV c slot t sm n name parent x l = some (r1,r2,l')→EnvR W bs bm bc bl bb bt bv g w0.heap.size c p slot t sm→SpR W g w0.heap.size l→Below w0.heap.size w0 W→
   Calls Tryz.prog 81 #[.string name,.int .i64 parent,.int .i64 x,pv bs,pv bc,pv bl,pv bb,pv bt,pv bv,pv g] W fun e w'=>e = .returned (.tuple #[.int .i64 r1,.bool r2])∧SpR w' g w0.heap.size l'∧KeepT W w' g∧Below w0.heap.size w0 w'
 | 0=>fun _ _ _ _ _ _ _ _ h=>by simp [serveV] at h
 | n + 1=>serve_step w0 bs bm bc bl bb bt bv g c p slot t sm hR hd hd1 hsm n (serve_calls w0 bs bm bc bl bb bt bv g c p slot t sm hR hd hd1 hsm n)
end Go.Proofs.YtdadnapfecmmdaaGreat.P
