/- Own texts of a proof about layer 55's simulate (merged): Hu, Hv, PF110, PF98, PF73, PF100, PF21, PF38. -/
import Derived.Test.YtdadnapfecmmdaaGreatXs2
import Derived.Test.YtdadnapfecmmdaaGreatXs6
import Derived.Laws.EntriesVeiled
namespace Go.Proofs.YtdadnapfecmmdaaGreat.P
set_option linter.unusedVariables false
set_option linter.unusedSimpArgs false
open Go.RowKit Go.Proofs.YtdadnapfecmmdaaGreatW.PrintWords Go.Proofs.YtdadnapfecmmdaaGreatW.PrintLast Go.Proofs.YtdadnapfecmmdaaGreatW.PrintMore
open Go.Proofs.YtdadnapfecmmdaaGreat.Hm
def smC (l:List S51):List (ByteArray × SvV):=l.foldl (fun m x=>mput m x.f0 ⟨x,none,0⟩) []
theorem smC_snoc (l:List S51) (x:S51):smC (l ++ [x]) = mput (smC l) x.f0 ⟨x,none,0⟩:=by simp [smC]
def sameX (a b:List (ByteArray × SvV)):Prop:=∀ k,(mget a k).map (·.x) = (mget b k).map (·.x)
theorem sameX.put {a b:List (ByteArray × SvV)} (h:sameX a b) (k:ByteArray) (u v:SvV) (e:u.x = v.x):sameX (mput a k u) (mput b k v):=by
 intro j
 by_cases hj:j = k
 ·subst hj
  simp [mget_put_same,e]
 ·rw [mget_put_other _ _ _ _ hj,mget_put_other _ _ _ _ hj]
  exact h j
theorem serveV_same (c:Cfg) (slot t:Int) (a b:List (ByteArray × SvV)) (hab:sameX a b):∀ n,serveV c slot t a n = serveV c slot t b n
 | 0=>by
  funext name parent x l
  simp [serveV]
 | n + 1=>by
  funext name parent x l
  unfold serveV
  rw [serveV_same c slot t a b hab n]
  have h:=hab name
  cases ha:mget a name with
  | none=>
   rw [ha] at h
   cases hb:mget b name with
   | none=>rfl
   | some v=>rw [hb] at h;cases h
  | some u=>
   rw [ha] at h
   cases hb:mget b name with
   | none=>rw [hb] at h;cases h
   | some v=>
    rw [hb] at h
    obtain ⟨ux,uA,uc⟩:=u
    obtain ⟨vx,vA,vc⟩:=v
    obtain rfl:ux = vx:=by simpa using h
    rfl
def traceV (n:Nat) (c:Cfg) (slot k:Int):Option (List Sp):=
 match c.sv with
 | []=>none
 | x::_=>if 0 ≤ slot∧slot ≤ 1048576∧0 ≤ k∧k ≤ 1048576∧0 ≤ c.delay∧c.delay ≤ 1048576 then (serveV c slot (slot * 1048576 + 1 + k) (smC c.sv) n x.f0 0 (1000 * slot + 7 * k) []).map (·.2.2) else none
def traceT.T12:Bool × List (List Nat × List Nat):=(true,[([],[]),([],[]),([1],[1]),([2],[2]),([3],[3]),([4],[4]),([],[]),([6],[6]),([],[]),([8],[8]),([7,9],[7,9]),([0,5,10],[0,5,10])])
def traceT.B12:List Nat:=[0,0,2,6,14,30,0,64,0,256,960,2047]
theorem traceT.tab12:rtab .any (opsOf Tryz.f44 12) = traceT.T12:=by kernel_rfl
theorem traceT.bits12:waitsOk traceT.T12.2 traceT.B12 = true:=by kernel_rfl
theorem two_blocks (w:World) (o0 o1:Obj):((w.alloc o0).alloc o1).heap[w.heap.size]? = some o0∧((w.alloc o0).alloc o1).heap[w.heap.size + 1]? = some o1∧((w.alloc o0).alloc o1).heap.size = w.heap.size + 1 + 1:=by
 have z:∀ (u:World) (o:Obj),(u.alloc o).heap.size = u.heap.size + 1:=fun u o=>by simp
 have n1:=blk_new (w.alloc o0) o1
 simp only [z] at n1
 exact ⟨blk_alloc (blk_new w o0) _,n1,by simp only [z]⟩
structure TrB (wr:World) (bc bl bt g bm bs:Nat) (c:Cfg) (p:CfgAt) (slot t:Int):Prop where
 c:wr.heap[bc]? = some (.cells (c.cells p) 36 (0,0))
 l:wr.heap[bl]? = some (.cells #[.int .i64 slot] 3 (0,0))
 t:wr.heap[bt]? = some (.cells #[.int .i64 t] 3 (0,0))
 g:wr.heap[g]? = some (.cells #[.slice none 0 0] 68 (0,0))
 s:wr.heap[bs]? = some (.cells #[.map (some bm)] 150 (0,0))
theorem TrB.below {wr w2:World} {bc bl bt g bm bs:Nat} {c:Cfg} {p:CfgAt} {slot t:Int} (h:TrB wr bc bl bt g bm bs c p slot t) (hb:Below wr.heap.size wr w2):TrB w2 bc bl bt g bm bs c p slot t:=
 ⟨blk_below h.c hb,blk_below h.l hb,blk_below h.t hb,blk_below h.g hb,blk_below h.s hb⟩
theorem TrB.grown {wr w2:World} {bc bl bt g bm bs:Nat} {c:Cfg} {p:CfgAt} {slot t:Int} (h:TrB wr bc bl bt g bm bs c p slot t) (hb:wr.grownBy w2 (some bm)) (n1:bc ≠ bm) (n2:bl ≠ bm) (n3:bt ≠ bm) (n4:g ≠ bm) (n5:bs ≠ bm):TrB w2 bc bl bt g bm bs c p slot t:=
 ⟨blk_grown h.c hb (by simpa using n1),blk_grown h.l hb (by simpa using n2),blk_grown h.t hb (by simpa using n3),blk_grown h.g hb (by simpa using n4),blk_grown h.s hb (by simpa using n5)⟩
theorem six_blocks (w:World) (o0 o1 o2 o3 o4 o5:Obj):((((((w.alloc o0).alloc o1).alloc o2).alloc o3).alloc o4).alloc o5).heap[w.heap.size]? = some o0∧((((((w.alloc o0).alloc o1).alloc o2).alloc o3).alloc o4).alloc o5).heap[w.heap.size + 1]? = some o1∧
  ((((((w.alloc o0).alloc o1).alloc o2).alloc o3).alloc o4).alloc o5).heap[w.heap.size + 1 + 1]? = some o2∧((((((w.alloc o0).alloc o1).alloc o2).alloc o3).alloc o4).alloc o5).heap[w.heap.size + 1 + 1 + 1]? = some o3∧
  ((((((w.alloc o0).alloc o1).alloc o2).alloc o3).alloc o4).alloc o5).heap[w.heap.size + 1 + 1 + 1 + 1]? = some o4∧((((((w.alloc o0).alloc o1).alloc o2).alloc o3).alloc o4).alloc o5).heap[w.heap.size + 1 + 1 + 1 + 1 + 1]? = some o5∧
  ((((((w.alloc o0).alloc o1).alloc o2).alloc o3).alloc o4).alloc o5).heap.size = w.heap.size + 1 + 1 + 1 + 1 + 1 + 1:=by
 have z:∀ (u:World) (o:Obj),(u.alloc o).heap.size = u.heap.size + 1:=fun u o=>by simp
 have n1:=blk_new (w.alloc o0) o1
 have n2:=blk_new ((w.alloc o0).alloc o1) o2
 have n3:=blk_new (((w.alloc o0).alloc o1).alloc o2) o3
 have n4:=blk_new ((((w.alloc o0).alloc o1).alloc o2).alloc o3) o4
 have n5:=blk_new (((((w.alloc o0).alloc o1).alloc o2).alloc o3).alloc o4) o5
 simp only [z] at n1 n2 n3 n4 n5
 exact ⟨blk_alloc (blk_alloc (blk_alloc (blk_alloc (blk_alloc (blk_new w o0) _) _) _) _) _,blk_alloc (blk_alloc (blk_alloc (blk_alloc n1 _) _) _) _,blk_alloc (blk_alloc (blk_alloc n2 _) _) _,blk_alloc (blk_alloc n3 _) _,blk_alloc n4 _,n5,by simp only [z]⟩
set_option maxHeartbeats 8000000 in
set_option maxRecDepth 100000 in
theorem trace_calls (n:Nat) (c:Cfg) (p:CfgAt) (slot k:Int) (w:World) (r:List Sp) (hR:CfgR w p c) (h:traceV n c slot k = some r):
  Calls Tryz.prog 44 #[c.val p,.int .i64 slot,.int .i64 k] w fun e w'=>∃ v,e = .returned v∧w'.ownsRow w.heap.size 74 14 v r.length (spc r)∧Below w.heap.size w w':=by
 unfold traceV at h
 obtain ⟨x0,sv',hsv⟩:∃ x0 sv',c.sv = x0::sv':=by
  cases hs:c.sv with
  | nil=>rw [hs] at h;cases h
  | cons a b=>exact ⟨a,b,rfl⟩
 rw [hsv] at h
 dsimp only at h
 by_cases hg:0 ≤ slot∧slot ≤ 1048576∧0 ≤ k∧k ≤ 1048576∧0 ≤ c.delay∧c.delay ≤ 1048576
 case neg=>rw [if_neg hg] at h;cases h
 rw [if_pos hg] at h
 obtain ⟨hs0,hs1,hk0,hk1,hd0,hd1⟩:=hg
 rw [← hsv] at h
 have hx0:c.sv[0]? = some x0:=by rw [hsv];rfl
 have hlen0:0 < c.sv.length:=by rw [hsv];simp
 clear hsv sv'
 have HA:=Aside0.mk h
 have HX0:=Aside0.mk hx0
 have hbig:c.sv.length ≤ 9223372036854775807:=hR.r1.2.1
 have HR:=Aside0.mk hR
 clear h hx0 hR
 obtain ⟨A1,c1,A2,c2,A3,c3,A4,c4⟩:=p
 have hmm:=@run_makeMap Tryz.prog
 have s1:IntKind.i64.wrap (1000 * slot) = 1000 * slot:=IntWalk.i64_in _ (by omega)
 have s2:IntKind.i64.wrap (7 * k) = 7 * k:=IntWalk.i64_in _ (by omega)
 have s3:IntKind.i64.wrap (1000 * slot + 7 * k) = 1000 * slot + 7 * k:=IntWalk.i64_in _ (by omega)
 have s4:IntKind.i64.wrap (slot * 1048576) = slot * 1048576:=IntWalk.i64_in _ (by omega)
 have s5:IntKind.i64.wrap (slot * 1048576 + 1) = slot * 1048576 + 1:=IntWalk.i64_in _ (by omega)
 have s6:IntKind.i64.wrap (slot * 1048576 + 1 + k) = slot * 1048576 + 1 + k:=IntWalk.i64_in _ (by omega)
 go_enter Tryz.func44,Tryz.ntmps44
 go_wp2_with fail
 obtain ⟨k0,k1,k2,k3,k4,k5,k6⟩:=six_blocks w (.cells (c.cells ⟨A1,c1,A2,c2,A3,c3,A4,c4⟩) 36) (.cells #[.int .i64 slot] 3) (.cells #[.int .i64 (slot * 1048576 + 1 + k)] 3) (.cells #[.slice none 0 0] 68) (.map #[] 0) (.cells #[.map (some (w.heap.size + 1 + 1 + 1 + 1))] 150)
 have kb:Below w.heap.size w ((((((w.alloc (.cells (c.cells ⟨A1,c1,A2,c2,A3,c3,A4,c4⟩) 36)).alloc (.cells #[.int .i64 slot] 3)).alloc (.cells #[.int .i64 (slot * 1048576 + 1 + k)] 3)).alloc (.cells #[.slice none 0 0] 68)).alloc (.map #[] 0)).alloc (.cells #[.map (some (w.heap.size + 1 + 1 + 1 + 1))] 150)):=
  below_alloc (below_alloc (below_alloc (below_alloc (below_alloc (below_alloc (Below.refl _ _) _) _) _) _) _) _
 unfold Cfg.cells at k0 k1 k2 k3 k4 k5 k6 kb
 dsimp only at k0 k1 k2 k3 k4 k5 k6 kb
 obtain ⟨bs,hbs⟩:∃ b,b = w.heap.size + 1 + 1 + 1 + 1 + 1:=⟨_,rfl⟩
 rw [← hbs] at k5 k6 ⊢
 obtain ⟨bm,hbm⟩:∃ b,b = w.heap.size + 1 + 1 + 1 + 1:=⟨_,rfl⟩
 rw [← hbm] at k0 k1 k2 k3 k4 k5 k6 kb hbs ⊢
 obtain ⟨g,hg⟩:∃ b,b = w.heap.size + 1 + 1 + 1:=⟨_,rfl⟩
 rw [← hg] at k3 hbm ⊢
 obtain ⟨bt,hbt⟩:∃ b,b = w.heap.size + 1 + 1:=⟨_,rfl⟩
 rw [← hbt] at k2 hg ⊢
 obtain ⟨bl,hbl⟩:∃ b,b = w.heap.size + 1:=⟨_,rfl⟩
 rw [← hbl] at k1 hbt ⊢
 generalize ((((((w.alloc _).alloc _).alloc _).alloc _).alloc _).alloc _) = W0 at *
 have HT:=Aside0.mk (TrB.mk (p:=⟨A1,c1,A2,c2,A3,c3,A4,c4⟩) k0 k1 k2 k3 k5:TrB W0 w.heap.size bl bt g bm bs c ⟨A1,c1,A2,c2,A3,c3,A4,c4⟩ slot (slot * 1048576 + 1 + k))
 have HM:=Aside0.mk (⟨#[],0,k4,rfl⟩:MapIs W0 bm Value.string svVal ([]:List (ByteArray × SvV)))
 have HB:=Aside0.mk kb
 have HN:=Aside0.mk (And.intro hbs (And.intro hbm (And.intro hg (And.intro hbt (And.intro hbl k6)))))
 clear k0 k1 k2 k3 k4 k5 kb hbs hbm hg hbt hbl k6
 go_loopg [23] c.sv.length (fun gg s23 wr=>∃ (i:Nat) (sm:List (ByteArray × SvV)),i ≤ c.sv.length∧c.sv.length - i ≤ gg∧s23 = .int .i64 i∧Aside0 (sameX sm (smC (c.sv.take i)))∧Aside0 (∀ nm sv,mget sm nm = some sv→Kd.C Kd.string w sv.A sv.x.f5.length sv.x.f5)∧Aside0 (MapIs wr bm Value.string svVal sm)∧Aside0 (TrB wr w.heap.size bl bt g bm bs c ⟨A1,c1,A2,c2,A3,c3,A4,c4⟩ slot (slot * 1048576 + 1 + k))∧Aside0 (Below w.heap.size w wr)∧Aside0 (bs < wr.heap.size))
 case atStart=>exact ⟨0,[],by omega,by omega,by rfl,⟨fun _=>rfl⟩,⟨fun _ _ h=>by cases h⟩,HM,HT,HB,⟨by have:=HN.out.2.2.2.2.2;omega⟩⟩
 case round=>
  clear HM HT HB
  obtain ⟨i,sm,hi,hgi,rfl,HS,HK,HM,HT,HB,HZ⟩:=hrel
  by_cases hlt:i < c.sv.length
  ·have g0:decide ((i:Int) < (c.sv.length:Int)) = true:=by simpa using hlt
   obtain ⟨ad,A5,c5,e,h0,h1,h2,h3,h4,h5,l5,k5⟩:=at_T51 HR.out.r1 (i:Int) (by omega) (by omega)
   cases e
   rw [rd_T51_get c.sv i hlt] at h0 h1 h2 h3 h4 h5 l5 k5
   simp only [Int.toNat_natCast] at h0 h1 h2 h3 h4 h5
   replace h0:=below_at HB.out h0
   replace h1:=below_at HB.out h1
   replace h2:=below_at HB.out h2
   replace h3:=below_at HB.out h3
   replace h4:=below_at HB.out h4
   replace h5:=below_at HB.out h5
   have hT:=HS.out
   have hs:=smC_snoc (c.sv.take i) c.sv[i]
   rw [List.take_append_getElem hlt] at hs
   generalize c.sv[i] = x at h0 h1 h2 h3 h4 h5 l5 k5 hs
   have HS':=Aside0.mk (show sameX (mput sm x.f0 ⟨x,A5,c5⟩) (smC (c.sv.take (i + 1))) from hs ▸ hT.put x.f0 _ _ rfl)
   have HK':=Aside0.mk (show ∀ nm sv,mget (mput sm x.f0 ⟨x,A5,c5⟩) nm = some sv→Kd.C Kd.string w sv.A sv.x.f5.length sv.x.f5 from fun nm sv h=>by
    by_cases hn:nm = x.f0
    ·subst hn
     rw [mget_put_same] at h
     cases h
     exact k5
    ·rw [mget_put_other _ _ _ _ hn] at h
     exact HK.out nm sv h)
   clear hT hs k5 l5
   have q0:wr.cell? ⟨bs,0,none⟩ = some (.map (some bm)):=(blk_cell HT.out.s 0).trans rfl
   have hbs1:bs < wr.heap.size:=HZ.out
   have n1:bs ≠ wr.heap.size:=by omega
   go_wp2_with (first | (at_mapUpdate;refine wp_store rfl _ _ _ rfl Tryz.underlying150 Tryz.underlying9 enc_string (HM.out.alloc _) rfl _ (⟨x,A5,c5⟩:SvV) rfl rfl ?_;intro w3 hm3 hg3))
   have hn:=HN.out
   have ha:Below wr.heap.size wr (wr.alloc (.cells #[.string x.f0,.int .i64 x.f1,.int .i64 x.f2,.int .i64 x.f3,.int .i64 x.f4,.slice A5 x.f5.length c5] 51)):=below_alloc (Below.refl _ _) _
   have hsz:bs < w3.heap.size:=Nat.lt_of_lt_of_le hbs1 (Nat.le_trans ha.size hg3.size)
   go_roundg (c.sv.length - (i + 1))
   case measure=>omega
   case rel=>exact ⟨i + 1,mput sm x.f0 ⟨x,A5,c5⟩,by omega,Nat.le_refl _,by go_num,HS',HK',⟨hm3⟩,⟨(HT.out.below ha).grown hg3 (by omega) (by omega) (by omega) (by omega) (by omega)⟩,⟨(below_step HB.out ha).grown hg3 (Nat.le_trans HB.out.size ha.size) (fun z hz=>by simp at hz;omega)⟩,⟨hsz⟩⟩
  ·obtain rfl:i = c.sv.length:=by omega
   have g0:decide ((c.sv.length:Int) < (c.sv.length:Int)) = false:=by simp
   rw [List.take_length] at HS
   clear hi hgi hlt
   go_wp2_with fail
   obtain ⟨e0,e1,e2⟩:=two_blocks wr (.cells #[.func (.func 80) #[] #[pv g,pv bt]] 151) (.cells #[.func (.func 81) #[] #[pv bs,pv w.heap.size,pv bl,pv wr.heap.size,pv bt,pv (wr.heap.size + 1),pv g]] 152)
   have eb:Below wr.heap.size wr ((wr.alloc (.cells #[.func (.func 80) #[] #[pv g,pv bt]] 151)).alloc (.cells #[.func (.func 81) #[] #[pv bs,pv w.heap.size,pv bl,pv wr.heap.size,pv bt,pv (wr.heap.size + 1),pv g]] 152)):=below_alloc (below_alloc (Below.refl _ _) _) _
   unfold pv at e0 e1 e2 eb
   obtain ⟨bv,hbv⟩:∃ b,b = wr.heap.size + 1:=⟨_,rfl⟩
   rw [← hbv] at e0 e1 e2 eb ⊢
   generalize (wr.alloc _).alloc _ = W1 at e0 e1 e2 eb ⊢
   obtain ⟨hn1,hn2,hn3,hn4,hn5,hn6⟩:=HN.out
   have hzz:=HZ.out
   have HT1:=HT.out.below eb
   have HE:=Aside0.mk (⟨HT1.s,HM.out.below eb,HT1.c,HT1.l,e0,HT1.t,e1,by omega,by omega,by omega,by omega,by omega,by omega,by omega,by omega,Nat.le_trans HB.out.size eb.size⟩:EnvR W1 bs bm w.heap.size bl wr.heap.size bt bv g w.heap.size c ⟨A1,c1,A2,c2,A3,c3,A4,c4⟩ slot (slot * 1048576 + 1 + k) sm)
   have HS1:Aside0 (SpR W1 g w.heap.size []):=⟨⟨.slice none 0 0,HT1.g,rfl,.inl ⟨rfl,rfl⟩⟩⟩
   have HB1:=Aside0.mk (below_step HB.out eb)
   have hA:=HA.out
   rw [← serveV_same c slot _ sm (smC c.sv) HS.out n] at hA
   obtain ⟨⟨r1,r2,l'⟩,hq,hq2⟩:=Option.map_eq_some_iff.mp hA
   obtain rfl:l' = r:=hq2
   have HC:=Aside0.mk hq
   clear hA hq HA HT1 hn1 hn2 hn3 hn4 hn5 hn6 hzz
   obtain ⟨bb,hbb⟩:∃ b,b = wr.heap.size:=⟨_,rfl⟩
   rw [← hbb] at HE e0 e1 ⊢
   obtain ⟨ad,A5,c5,e,h0,_⟩:=at_T51 HR.out.r1 (0:Int) (by omega) (by omega)
   have hx:rd_T51 c.sv 0 = x0:=by
    have h9:=HX0.out
    have h8:=rd_T51_get c.sv 0 hlen0
    rw [List.getElem?_eq_getElem hlen0] at h9
    exact h8.trans (Option.some.inj h9)
   rw [hx,show ad.add ((0:Int).toNat * 6) = ad from by simp [Addr.add]] at h0
   replace h0:=below_at HB1.out h0
   cases e
   have q0:W1.cell? ⟨bv,0,none⟩ = some (.func (.func 81) #[] #[pv bs,pv w.heap.size,pv bl,pv bb,pv bt,pv bv,pv g]):=(blk_cell HE.out.v 0).trans rfl
   have q1:W1.cell? ⟨w.heap.size,1,none⟩ = some (.slice (some ad) c.sv.length c1):=(blk_cell HE.out.c 1).trans rfl
   have q2:W1.cell? ⟨bl,0,none⟩ = some (.int .i64 slot):=(blk_cell HE.out.l 0).trans rfl
   have p1:(0:Int) < (c.sv.length:Int):=by omega
   clear hbb hbv e0 e1 e2 eb hx
   go_wp2_with fail
   refine start_ (n:=12) (S:=fun w'=>Below W1.heap.size W1 w') (ds:=[11]) (bq 12 0) (by kernel_rfl) rfl rfl (Below.refl _ _).drew (fun hHeld=>?_)
   refine with_tabW traceT.tab12 traceT.bits12 (fun HT_ HW_=>?_)
   generalize W1.drew = wd at hHeld ⊢
   refine tk_ 0 (some 34) (bq 12 1) HT_ HW_ rfl rfl hHeld ?_ (by intro w' hS;replace q0:=below_at hS q0;replace q1:=below_at hS q1;replace q2:=below_at hS q2;replace h0:=below_at hS h0;go_simp;with_reducible rfl)
   refine pu_ 1 (some 35) (bq 12 3) HT_ rfl rfl ?_
   refine tk_ 2 (some 36) (bq 12 7) HT_ HW_ rfl rfl hHeld ?_ (by intro w' hS;replace q0:=below_at hS q0;replace q1:=below_at hS q1;replace q2:=below_at hS q2;replace h0:=below_at hS h0;go_simp;with_reducible rfl)
   refine pu_ 3 (some 37) (bq 12 15) HT_ rfl rfl ?_
   refine pu_ 4 (some 38) (bq 12 31) HT_ rfl rfl ?_
   refine tk_ 5 (some 39) (bq 12 63) HT_ HW_ rfl rfl hHeld ?_ (by intro w' hS;replace q0:=below_at hS q0;replace q1:=below_at hS q1;replace q2:=below_at hS q2;replace h0:=below_at hS h0;go_simp;with_reducible rfl)
   refine tk_ 6 (some 40) (bq 12 127) HT_ HW_ rfl rfl hHeld ?_ (by intro w' hS;replace q0:=below_at hS q0;replace q1:=below_at hS q1;replace q2:=below_at hS q2;replace h0:=below_at hS h0;go_simp;with_reducible rfl)
   refine pu_ 7 (some 41) (bq 12 255) HT_ rfl rfl ?_
   refine pu_ 8 (some 42) (bq 12 511) HT_ rfl rfl ?_
   refine pu_ 9 (some 43) (bq 12 1023) HT_ rfl rfl ?_
   refine pu_ 10 (some 44) (bq 12 2047) HT_ rfl rfl ?_
   refine last_ (i:=11) (N:=some 45) (bq 12 4095) rfl rfl (one_of HT_.out (by kernel_rfl)) (by decide) (fun K hK=>?_)
   refine call_ 81 #[.string x0.f0,.int .i64 0,.int .i64 (1000 * slot + 7 * k),pv bs,pv w.heap.size,pv bl,pv bb,pv bt,pv bv,pv g] (by rfl) rfl ?_ ?_
   ·have he:=enters_ (P:=Tryz.prog) Tryz.func81 (by kernel_rfl) rfl #[.string x0.f0,.int .i64 0,.int .i64 (1000 * slot + 7 * k),pv bs,pv w.heap.size,pv bl,pv bb,pv bt,pv bv,pv g] wd
    unfold execOp
    simp [resolve,Deferred.ofValue,invoke,Act.eval,he]
   refine (serve_calls w bs bm w.heap.size bl bb bt bv g c ⟨some ad,c1,A2,c2,A3,c3,A4,c4⟩ slot (slot * 1048576 + 1 + k) sm HR.out hd0 hd1 HK.out n x0.f0 0 (1000 * slot + 7 * k) [] wd r1 r2 _ HC.out (HE.out.keep (KeepT.of_below hHeld g)) (HS1.out.below hHeld) (below_step HB1.out hHeld)).mono ?_
   rintro e w5 ⟨rfl,hs5,hk5,hb5⟩
   refine ⟨_,rfl,?_⟩
   have HS7:=Aside0.mk hs5
   have CB7:=Aside0.mk hb5
   clear hs5 hk5 hb5
   refine hK.out _ _ ?_
   clear hK K
   refine norm_ (a':=?_) ?_ ?_
   rotate_left
   ·show Act.put _ (some 45) _ = _
    simp only [Act.put,List.setIfInBounds_toArray,List.set_cons_zero,List.set_cons_succ,i64_w,i32_w]
    rfl
   refine done_ (done_of HT_.out (by kernel_rfl)) ?_
   obtain ⟨v,hv,hown⟩:=HS7.out
   have q9:w5.cell? ⟨g,0,none⟩ = some v:=(blk_cell hv 0).trans rfl
   have HO:=Aside0.mk hown
   clear hv hown HS7 q0 q1 q2 h0
   go_wp2_with fail
   go_ret
   exact ⟨v,rfl,HO.out,CB7.out⟩
def shiftSp (off:List S54) (s:Sp):Sp:={ s with st:=wrap64 (s.st + (offOf off s.clk).1),en:=wrap64 (s.en + (offOf off s.clk).1) }
def Shows (fid:Nat) (caps:Array Value) (f:Sp→Sp) (base:Nat) (w0:World) (ok:World→Prop):Prop:=
 (∀ (args:Array Value) (w:World),(callFunc fid args).run Tryz.prog w = .ok (.enter fid args) w)∧
 ∀ (W:World) (r cp b j:Nat) (l:List Sp) (hj:j < l.length),ok W→Below base w0 W→base ≤ b→b ≤ W.heap.size→W.ownsRow b 74 14 (.slice (some ⟨r,0,none⟩) l.length cp) l.length (spc l)→
  Calls Tryz.prog fid (#[.pointer (some ⟨r,j * 14,none⟩)] ++ caps) W fun e w'=>e = .returned (.tuple #[])∧w'.ownsRow b 74 14 (.slice (some ⟨r,0,none⟩) l.length cp) l.length (spc (l.set j (f l[j])))∧Below b W w'∧∀ i,i < W.heap.size→i ≠ r→w'.heap[i]? = W.heap[i]?
theorem own_cell56 {W:World} {b r cp:Nat} {l:List Sp} (ho:W.ownsRow b 74 14 (.slice (some ⟨r,0,none⟩) l.length cp) l.length (spc l)) (j i:Nat) (hj:j < l.length) (hi:i < 14):W.cell? ⟨r,j * 14 + i,none⟩ = (l[j].cells)[i]?∧W.frozen? ⟨r,j * 14 + i,none⟩ = false∧b ≤ r∧r < W.heap.size:=by
 rcases ho.2 with ⟨_,h⟩ | ⟨r',cap,cur,e,hb,hr,h1,h2,h3,h4⟩
 ·omega
 ·injection e with e
  injection e with e
  injection e with e
  subst e
  have hc:∀ i,i < l.length * 14→cur[i]? = (spc l)[i]?:=fun i hi=>by
   rw [← h4,List.getElem?_take,if_pos hi,Array.getElem?_toList]
  exact ⟨by rw [blk_cell hr,hc _ (by omega),spc_get l j i hj hi],blk_frozen hr _,hb,blk_lt hr⟩
theorem own_shift {W:World} {b r cp:Nat} {l:List Sp} (ho:W.ownsRow b 74 14 (.slice (some ⟨r,0,none⟩) l.length cp) l.length (spc l)) (j:Nat) (hj:j < l.length) (st en:Int):
  ((W.setCell ⟨r,j * 14 + 9,none⟩ (.int .i64 st)).setCell ⟨r,j * 14 + 10,none⟩ (.int .i64 en)).ownsRow b 74 14 (.slice (some ⟨r,0,none⟩) l.length cp) l.length (spc (l.set j { l[j] with st:=st,en:=en })):=by
 obtain ⟨o1,g1⟩:=ho.stored (j * 14 + 9) (.int .i64 st)
 obtain ⟨o2,g2⟩:=o1.stored (j * 14 + 10) (.int .i64 en)
 rw [spc_set l j 9 (.int .i64 st) { l[j] with st:=st } hj (by omega) rfl] at o1 o2
 rw [spc_set (l.set j { l[j] with st:=st }) j 10 (.int .i64 en) { l[j] with st:=st,en:=en } (by simpa using hj) (by omega) (by simp [Sp.cells])] at o2
 simpa using o2
def showT.T0:Bool × List (List Nat × List Nat):=(true,[([],[]),([],[]),([1],[1]),([2],[2]),([3],[3]),([0,4],[0,4]),([5],[5]),([6],[6]),([6],[6]),([7,5,0,1,2,3,4,5,6,7],[7]),([8,9,0,1,2,3,4,5,6,7,8,9],[8])])
def showT.B0:List Nat:=[0,0,2,6,14,31,63,127,127,255,1023]
theorem showT.tab0:rtab .any (opsOf Tryz.f31 0) = showT.T0:=by kernel_rfl
theorem showT.bits0:waitsOk showT.T0.2 showT.B0 = true:=by kernel_rfl
def showT.T1:Bool × List (List Nat × List Nat):=(true,[([],[]),([],[]),([],[]),([2],[2]),([3],[3]),([4],[4]),([],[]),([5,6],[5,6]),([],[]),([8],[8]),([9],[9]),([10],[10]),([],[]),([11,12],[11,12]),([0,0,2,3,4,5,6,7,11],[0]),([14,0,2,3,4,5,6,7,11],[14]),([15,7,0,2,3,4,5,6,7,11],[7,15]),([1,0,1,2,3,4,5,6,7,8,9,10,11,12,13,14,15,16],[1]),([17,0,1,2,3,4,5,6,7,8,9,10,11,12,13,14,15,16],[17]),([18,13,16,0,1,2,3,4,5,6,7,8,9,10,11,12,13,14,15,16],[13,18])])
def showT.B1:List Nat:=[0,0,0,4,12,28,0,124,0,256,768,1792,0,7936,4093,20477,53245,131071,262143,524287]
theorem showT.tab1:rtab .any (opsOf Tryz.f31 1) = showT.T1:=by kernel_rfl
theorem showT.bits1:waitsOk showT.T1.2 showT.B1 = true:=by kernel_rfl
set_option maxHeartbeats 8000000 in
set_option maxRecDepth 100000 in
theorem traces_shows (w0:World) (c:Cfg) (p:CfgAt) (bx:Nat) (hR:CfgR w0 p c):Shows 31 #[pv bx] (shiftSp c.off) w0.heap.size w0 (fun W=>W.heap[bx]? = some (.cells (c.cells p) 36 (0,0))):=by
 refine ⟨fun args w=>enters_ Tryz.func31 (by kernel_rfl) rfl args w,fun W r cp b j l hj hC hB hbb hbW ho=>?_⟩
 obtain ⟨e4,_,hbr,hrW⟩:=own_cell56 ho j 4 hj (by omega)
 have CR:=Aside0.mk (hR.below hB)
 have HO:=Aside0.mk ho
 have HC:=Aside0.mk hC
 obtain ⟨A1,c1,A2,c2,A3,c3,A4,c4⟩:=p
 have q0:W.cell? ⟨r,j * 14 + 4,none⟩ = some (.int .i64 l[j].clk):=e4
 have q1:W.cell? ⟨bx,0,none⟩ = some (.int .i64 c.seed):=(blk_cell HC.out 0).trans rfl
 have q2:W.cell? ⟨bx,1,none⟩ = some (.slice A1 c.sv.length c1):=(blk_cell HC.out 1).trans rfl
 have q3:W.cell? ⟨bx,2,none⟩ = some (.slice A2 c.off.length c2):=(blk_cell HC.out 2).trans rfl
 have q4:W.cell? ⟨bx,3,none⟩ = some (.slice A3 c.ch.length c3):=(blk_cell HC.out 3).trans rfl
 have q5:W.cell? ⟨bx,4,none⟩ = some (.slice A4 c.fl.length c4):=(blk_cell HC.out 4).trans rfl
 have q6:W.cell? ⟨bx,5,none⟩ = some (.int .i64 c.sfrom):=(blk_cell HC.out 5).trans rfl
 have q7:W.cell? ⟨bx,6,none⟩ = some (.int .i64 c.sto):=(blk_cell HC.out 6).trans rfl
 have q8:W.cell? ⟨bx,7,none⟩ = some (.int .i64 c.per):=(blk_cell HC.out 7).trans rfl
 have q9:W.cell? ⟨bx,8,none⟩ = some (.int .i64 c.delay):=(blk_cell HC.out 8).trans rfl
 have q10:W.cell? ⟨bx,9,none⟩ = some (.int .i64 c.chunk):=(blk_cell HC.out 9).trans rfl
 have q11:W.cell? ⟨bx,10,none⟩ = some (.int .i64 c.loss):=(blk_cell HC.out 10).trans rfl
 have q12:W.cell? ⟨bx,11,none⟩ = some (.int .i64 c.rep):=(blk_cell HC.out 11).trans rfl
 have EO:=Aside0.mk (show shiftSp c.off l[j] = { l[j] with st:=wrap64 (l[j].st + (offOf c.off l[j].clk).1),en:=wrap64 (l[j].en + (offOf c.off l[j].clk).1) } from rfl)
 clear ho hC e4 hB hR
 simp only [List.append_toArray,List.cons_append,List.nil_append]
 go_enter Tryz.func31,Tryz.ntmps31
 go_wp2_with fail
 refine start_ (n:=11) (S:=fun w'=>Below W.heap.size W w') (ds:=[]) (bq 11 0) (by kernel_rfl) rfl rfl (Below.refl _ _).drew (fun hHeld=>?_)
 refine with_tabW showT.tab0 showT.bits0 (fun HT_ HW_=>?_)
 generalize W.drew = wd at hHeld ⊢
 refine tk_ 0 (some 6) (bq 11 1) HT_ HW_ rfl rfl hHeld ?_ (by intro w' hS;replace q0:=below_at hS q0;replace q1:=below_at hS q1;replace q2:=below_at hS q2;replace q3:=below_at hS q3;replace q4:=below_at hS q4;replace q5:=below_at hS q5;replace q6:=below_at hS q6;replace q7:=below_at hS q7;replace q8:=below_at hS q8;replace q9:=below_at hS q9;replace q10:=below_at hS q10;replace q11:=below_at hS q11;replace q12:=below_at hS q12;go_simp;with_reducible rfl)
 refine pu_ 1 (some 7) (bq 11 3) HT_ rfl rfl ?_
 refine pu_ 2 (some 8) (bq 11 7) HT_ rfl rfl ?_
 refine pu_ 3 (some 9) (bq 11 15) HT_ rfl rfl ?_
 refine tk_ 4 (some 10) (bq 11 31) HT_ HW_ rfl rfl hHeld ?_ (by intro w' hS;replace q0:=below_at hS q0;replace q1:=below_at hS q1;replace q2:=below_at hS q2;replace q3:=below_at hS q3;replace q4:=below_at hS q4;replace q5:=below_at hS q5;replace q6:=below_at hS q6;replace q7:=below_at hS q7;replace q8:=below_at hS q8;replace q9:=below_at hS q9;replace q10:=below_at hS q10;replace q11:=below_at hS q11;replace q12:=below_at hS q12;go_simp;with_reducible rfl)
 refine one_ (i:=5) (N:=some 11) (bq 11 63) rfl rfl (one_of HT_.out (by kernel_rfl)) (by decide) (fun K hK=>?_)
 refine goes_ Tryz.func32 (by kernel_rfl) rfl #[c.val ⟨A1,c1,A2,c2,A3,c3,A4,c4⟩,.int .i64 l[j].clk] (by rfl) rfl rfl (by (try simp only [List.map_toArray,List.map_cons,List.map_nil]);first | done | rfl | (simp only [List.length_drop,List.length_take];rfl)) ?_
 with_reducible refine (offset_calls c ⟨A1,c1,A2,c2,A3,c3,A4,c4⟩ l[j].clk _ (CR.out.below hHeld)).mono ?_
 rintro e wx ⟨rfl,hb⟩
 refine ⟨_,rfl,?_⟩
 replace hHeld:=below_step hHeld hb
 clear hb
 refine hK.out _ _ hHeld (fun hHeld=>?_)
 clear hK K
 refine norm_ (a':=?_) ?_ ?_
 rotate_left
 ·show Act.put _ (some 11) _ = _
  simp only [Act.put,List.setIfInBounds_toArray,List.set_cons_zero,List.set_cons_succ,i64_w,i32_w]
  rfl
 refine pu_ 6 (some 5) (bq 11 127) HT_ rfl rfl ?_
 refine pu_ 7 (some 12) (bq 11 255) HT_ rfl rfl ?_
 refine pu_ 8 (some 13) (bq 11 511) HT_ rfl rfl ?_
 refine pu_ 9 (some 3) (bq 11 1023) HT_ rfl rfl ?_
 refine pu_ 10 (some 4) (bq 11 2047) HT_ rfl rfl ?_
 refine done_ (done_of HT_.out (by kernel_rfl)) ?_
 obtain ⟨off,hoff⟩:∃ o:Int,o = (offOf c.off l[j].clk).1:=⟨_,rfl⟩
 rw [← hoff] at EO ⊢
 have HO1:=Aside0.mk (pw_own_below HO.out hHeld)
 have hd:Below wx.heap.size wx wx.drew:=(Below.refl _ _).drew
 have HO2:=Aside0.mk (pw_own_below HO1.out hd)
 have HB2:=Aside0.mk ((below_step hHeld hd).mono hbW)
 have HB3:=Aside0.mk (below_step hHeld hd)
 obtain ⟨e9,_,_,_⟩:=own_cell56 HO1.out j 9 hj (by omega)
 obtain ⟨e10,_,_,_⟩:=own_cell56 HO1.out j 10 hj (by omega)
 obtain ⟨g9,f9,_,_⟩:=own_cell56 HO2.out j 9 hj (by omega)
 obtain ⟨g10,f10,_,_⟩:=own_cell56 HO2.out j 10 hj (by omega)
 replace e9:wx.cell? ⟨r,j * 14 + 9,none⟩ = some (.int .i64 l[j].st):=e9
 replace e10:wx.cell? ⟨r,j * 14 + 10,none⟩ = some (.int .i64 l[j].en):=e10
 replace g9:wx.drew.cell? ⟨r,j * 14 + 9,none⟩ = some (.int .i64 l[j].st):=g9
 replace g10:wx.drew.cell? ⟨r,j * 14 + 10,none⟩ = some (.int .i64 l[j].en):=g10
 clear hHeld hd hoff HO HO1 q0 q1 q2 q3 q4 q5 q6 q7 q8 q9 q10 q11 q12
 go_wp2_with fail
 refine start_ (n:=20) (S:=fun w'=>Below wx.heap.size wx w') (ds:=[16,19]) (bq 20 0) (by kernel_rfl) rfl rfl (Below.refl _ _).drew (fun hHeld=>?_)
 refine with_tabW showT.tab1 showT.bits1 (fun HT_ HW_=>?_)
 generalize wx.drew = wz at hHeld HO2 HB2 HB3 g9 g10 f9 f10 ⊢
 refine with_tabW showT.tab1 showT.bits1 (fun HT_ HW_=>?_)
 refine pu_ 0 (some 14) (bq 20 1) HT_ rfl rfl ?_
 refine pu_ 1 (some 15) (bq 20 3) HT_ rfl rfl ?_
 refine pu_ 2 (some 16) (bq 20 7) HT_ rfl rfl ?_
 refine pu_ 3 (some 17) (bq 20 15) HT_ rfl rfl ?_
 refine pu_ 4 (some 18) (bq 20 31) HT_ rfl rfl ?_
 refine tk_ 5 (some 19) (bq 20 63) HT_ HW_ rfl rfl hHeld ?_ (by intro w' hS;replace e9:=below_at hS e9;replace e10:=below_at hS e10;go_simp;with_reducible rfl)
 refine pu_ 6 (some 20) (bq 20 127) HT_ rfl rfl ?_
 refine pu_ 7 (some 21) (bq 20 255) HT_ rfl rfl ?_
 refine pu_ 8 (some 22) (bq 20 511) HT_ rfl rfl ?_
 refine pu_ 9 (some 23) (bq 20 1023) HT_ rfl rfl ?_
 refine pu_ 10 (some 24) (bq 20 2047) HT_ rfl rfl ?_
 refine tk_ 11 (some 25) (bq 20 4095) HT_ HW_ rfl rfl hHeld ?_ (by intro w' hS;replace e9:=below_at hS e9;replace e10:=below_at hS e10;go_simp;with_reducible rfl)
 refine pu_ 12 (some 26) (bq 20 8191) HT_ rfl rfl ?_
 refine pu_ 13 (some 27) (bq 20 16383) HT_ rfl rfl ?_
 refine pu_ 14 (some 28) (bq 20 32767) HT_ rfl rfl ?_
 refine pu_ 15 (some 29) (bq 20 65535) HT_ rfl rfl ?_
 refine last_ (i:=16) (N:=none) (bq 20 131071) rfl rfl (one_of HT_.out (by kernel_rfl)) (by decide) (fun K hK=>?_)
 rw [if_pos (by rfl)]
 go_simp
 refine hK.out _ _ ?_
 clear hK K
 refine pu_ 17 (some 30) (bq 20 262143) HT_ rfl rfl ?_
 refine pu_ 18 (some 31) (bq 20 524287) HT_ rfl rfl ?_
 refine last_ (i:=19) (N:=none) (bq 20 1048575) rfl rfl (one_of HT_.out (by kernel_rfl)) (by decide) (fun K hK=>?_)
 rw [if_pos (by rfl)]
 go_simp
 refine hK.out _ _ ?_
 clear hK K
 refine done_ (done_of HT_.out (by kernel_rfl)) ?_
 go_wp2_with fail
 go_returns
 refine ⟨by rfl,?_,?_,?_⟩
 ·rw [EO.out]
  with_reducible exact own_shift HO2.out j hj _ _
 ·exact (HB2.out.setCell hbr _).setCell hbr _
 ·intro i hi hir
  rw [Below.heap_setCell _ _ _ _ hir,Below.heap_setCell _ _ _ _ hir]
  exact HB3.out.block i hi
end Go.Proofs.YtdadnapfecmmdaaGreat.P
namespace Go.Proofs.YtdadnapfecmmdaaGreat.P
open Go.RowKit Go.Proofs.YtdadnapfecmmdaaGreatW.PrintWords Go.Proofs.YtdadnapfecmmdaaGreatW.PrintLast Go.Proofs.YtdadnapfecmmdaaGreatW.PrintMore
attribute [local go_sem] max2_int min2_int max_two min_two max_three min_three max_four min_four   -- for this text's walks alone
set_option linter.unusedVariables false
set_option linter.unusedSimpArgs false
def attribute_within.l0:Nat→ByteArray→Int→Int→Int→Int→Option (Bool)
 | 0,_,_,_,_,_=>none
 | k + 1,x0,x1,x2,x9,x10=>if x10 < x9 then (if 0 ≤ x10 then (if x10 < (x0.size:Int) then (if (bt x0 x10) < x1 then (some false) else (if (bt x0 x10) > x2 then (some false) else (attribute_within.l0 k x0 x1 x2 x9 (wrap64 (x10 + 1))))) else (none)) else (none)) else (some true)
def attribute_within.f (k:Nat) (a0:ByteArray) (a1:Int) (a2:Int):Option (Bool):=attribute_within.l0 k a0 a1 a2 (a0.size:Int) 0
theorem attribute_within.mono_l:∀ k,(∀ y0 y1 y2 y3 y4,LeO (attribute_within.l0 k y0 y1 y2 y3 y4) (attribute_within.l0 (k + 1) y0 y1 y2 y3 y4))
 | 0=>fun _ _ _ _ _ r h=>by simp [attribute_within.l0] at h
 | k + 1=>by
  have ih0:=attribute_within.mono_l k
  ·intro y0 y1 y2 y3 y4
   unfold attribute_within.l0
   repeat' first
   | (with_reducible exact ih0 _ _ _ _ _)
   | (with_reducible exact LeO.refl _)
   | (with_reducible exact LeO.none _)
   | (with_reducible refine LeO.ite ?_ ?_)
   | (with_reducible refine LeO.bind ?_ (fun _=>?_))
   | exact ih0 _ _ _ _ _
   | exact LeO.none _
   | refine LeO.ite ?_ ?_
   | refine LeO.bind ?_ (fun _=>?_)
set_option maxHeartbeats 8000000 in
set_option maxRecDepth 100000 in
theorem attribute_within.calls (k:Nat) (a0:ByteArray) (a1:Int) (a2:Int) (r:Bool) (w:World) (h:attribute_within.f k a0 a1 a2 = some r):
  Calls Tryz.prog 110 #[.string a0,.int .u8 a1,.int .u8 a2] w fun e w'=>e = .returned (.bool r)∧Drawn0 w w':=by
 have H:(attribute_within.l0 k a0 a1 a2 (a0.size:Int) 0) = some r:=h
 clear h
 have H':=Aside0.mk H
 clear H
 go_enter Tryz.func110,Tryz.ntmps110
 go_wp2
 go_loopg [10] k (fun kq v10 w'=>∃ (x10_1:Int),v10 = .int .i64 x10_1∧Aside0 (attribute_within.l0 kq a0 a1 a2 (a0.size:Int) x10_1 = some r)∧Aside0 (kq ≤ k)∧Drawn0 w w')
 case atStart=>exact ⟨(0),(by first | rfl | (simp;done) | (simp [*];done)),H',⟨Nat.le_refl _⟩,by repeat (first | exact Drawn0.refl _ | apply Drawn0.step)⟩
 case round=>
  clear H'
  try clear c1
  try clear p2
  obtain ⟨x10_1,rfl,HA,HK1,⟨m1,rfl⟩⟩:=hrel
  cases gk with
  | zero=>exact absurd HA.out (by simp [attribute_within.l0])
  | succ k1=>
   have H:=HA.out
   clear HA
   simp only [attribute_within.l0] at H
   by_cases c4:x10_1 < (a0.size:Int)
   ·rw [if_pos c4] at H
    have c4b0:decide (x10_1 < (a0.size:Int)) = true:=decide_eq_true c4
    clear c4
    by_cases c5:0 ≤ x10_1
    ·rw [if_pos c5] at H
     have c5b0:decide (0 ≤ x10_1) = true:=decide_eq_true c5
     clear c5
     by_cases c6:x10_1 < (a0.size:Int)
     ·rw [if_pos c6] at H
      have c6b0:decide (x10_1 < (a0.size:Int)) = true:=decide_eq_true c6
      clear c6
      by_cases c8:(bt a0 x10_1) < a1
      ·rw [if_pos c8] at H
       have c8b0:decide ((bt a0 x10_1) < a1) = true:=decide_eq_true c8
       clear c8
       obtain rfl:=Option.some.inj H
       have p7:0 ≤ (x10_1:Int):=of_decide_eq_true (by first | (with_reducible assumption) | assumption)
       have q7:x10_1 < (a0.size:Int):=of_decide_eq_true (by first | (with_reducible assumption) | assumption)
       have hx7:=bt_at a0 x10_1
       replace p7:=eq_true p7
       replace q7:=eq_true q7
       go_wp2
       go_ret
       exact ⟨by first | rfl | (simp;done) | (simp [*];done),by repeat (first | exact Drawn0.refl _ | apply Drawn0.step)⟩
      ·rw [if_neg c8] at H
       have c8b0:decide ((bt a0 x10_1) < a1) = false:=decide_eq_false c8
       clear c8
       by_cases c10:(bt a0 x10_1) > a2
       ·rw [if_pos c10] at H
        have c10b0:decide (a2 < (bt a0 x10_1)) = true:=decide_eq_true c10
        clear c10
        obtain rfl:=Option.some.inj H
        have p7:0 ≤ (x10_1:Int):=of_decide_eq_true (by first | (with_reducible assumption) | assumption)
        have q7:x10_1 < (a0.size:Int):=of_decide_eq_true (by first | (with_reducible assumption) | assumption)
        have hx7:=bt_at a0 x10_1
        replace p7:=eq_true p7
        replace q7:=eq_true q7
        have p9:0 ≤ (x10_1:Int):=of_decide_eq_true (by first | (with_reducible assumption) | assumption)
        have q9:x10_1 < (a0.size:Int):=of_decide_eq_true (by first | (with_reducible assumption) | assumption)
        have hx9:=bt_at a0 x10_1
        replace p9:=eq_true p9
        replace q9:=eq_true q9
        go_wp2
        go_ret
        exact ⟨by first | rfl | (simp;done) | (simp [*];done),by repeat (first | exact Drawn0.refl _ | apply Drawn0.step)⟩
       ·rw [if_neg c10] at H
        have c10b0:decide (a2 < (bt a0 x10_1)) = false:=decide_eq_false c10
        clear c10
        have H':=Aside0.mk H
        clear H
        have p7:0 ≤ (x10_1:Int):=of_decide_eq_true (by first | (with_reducible assumption) | assumption)
        have q7:x10_1 < (a0.size:Int):=of_decide_eq_true (by first | (with_reducible assumption) | assumption)
        have hx7:=bt_at a0 x10_1
        replace p7:=eq_true p7
        replace q7:=eq_true q7
        have p9:0 ≤ (x10_1:Int):=of_decide_eq_true (by first | (with_reducible assumption) | assumption)
        have q9:x10_1 < (a0.size:Int):=of_decide_eq_true (by first | (with_reducible assumption) | assumption)
        have hx9:=bt_at a0 x10_1
        replace p9:=eq_true p9
        replace q9:=eq_true q9
        go_wp2
        go_roundg k1
        case measure=>have:=HK1.out;omega
        case rel=>exact ⟨(wrap64 (x10_1 + 1)),(by first | rfl | (simp;done) | (simp [*];done)),H',⟨by have:=HK1.out;omega⟩,by repeat (first | exact Drawn0.refl _ | apply Drawn0.step)⟩
     ·rw [if_neg c6] at H
      exact absurd H (by simp)
    ·rw [if_neg c5] at H
     exact absurd H (by simp)
   ·rw [if_neg c4] at H
    have c4b0:decide (x10_1 < (a0.size:Int)) = false:=decide_eq_false c4
    clear c4
    obtain rfl:=Option.some.inj H
    go_wp2
    go_ret
    exact ⟨by first | rfl | (simp;done) | (simp [*];done),by repeat (first | exact Drawn0.refl _ | apply Drawn0.step)⟩
def attribute_IsName.f (k:Nat) (a0:ByteArray):Option (Bool):=if a0.toList = ([]:List UInt8) then (some false) else (if (a0.size:Int) ≤ 64 then ((attribute_within.f k a0 33 126).bind fun t120=>(some t120)) else (some false))
set_option maxHeartbeats 8000000 in
set_option maxRecDepth 100000 in
theorem attribute_IsName.calls (k:Nat) (a0:ByteArray) (r:Bool) (w:World) (h:attribute_IsName.f k a0 = some r):
  Calls Tryz.prog 98 #[.string a0] w fun e w'=>e = .returned (.bool r)∧Drawn0 w w':=by
 have H:(if a0.toList = ([]:List UInt8) then (some false) else (if (a0.size:Int) ≤ 64 then ((attribute_within.f k a0 33 126).bind fun t120=>(some t120)) else (some false))) = some r:=h
 clear h
 by_cases c2:a0.toList = ([]:List UInt8)
 ·rw [if_pos c2] at H
  have c2b0:(a0.toList == ([]:List UInt8)) = true:=beq_iff_eq.mpr c2
  have c2b1:(a0.toList != ([]:List UInt8)) = false:=bne_eq_false_iff_eq.mpr c2
  clear c2
  obtain rfl:=Option.some.inj H
  go_enter Tryz.func98,Tryz.ntmps98
  go_wp2
  go_ret
  exact ⟨by first | rfl | (simp;done) | (simp [*];done),by repeat (first | exact Drawn0.refl _ | apply Drawn0.step)⟩
 ·rw [if_neg c2] at H
  have c2b0:(a0.toList == ([]:List UInt8)) = false:=beq_eq_false_iff_ne.mpr c2
  have c2b1:(a0.toList != ([]:List UInt8)) = true:=bne_iff_ne.mpr c2
  by_cases c3:(a0.size:Int) ≤ 64
  ·rw [if_pos c3] at H
   have c3b0:decide ((a0.size:Int) ≤ 64) = true:=decide_eq_true c3
   have c3b1:decide (a0.size ≤ 64) = true:=decide_eq_true (by omega)
   clear c3
   replace H:=Option.bind_eq_some_iff.mp H
   obtain ⟨t120,A40,H⟩:=H
   replace H:(some t120) = some r:=H
   have A4:=Aside0.mk A40
   clear A40
   obtain rfl:=Option.some.inj H
   go_enter Tryz.func98,Tryz.ntmps98
   go_wp2_with (first | (go_at_call 110;(with_reducible refine (attribute_within.calls k a0 33 126 t120 _ A4.out).mono ?_);rintro e w' ⟨rfl,⟨nd,rfl⟩⟩))
   go_ret
   exact ⟨by first | rfl | (simp;done) | (simp [*];done),by repeat (first | exact Drawn0.refl _ | apply Drawn0.step)⟩
  ·rw [if_neg c3] at H
   have c3b0:decide ((a0.size:Int) ≤ 64) = false:=decide_eq_false c3
   have c3b1:decide (a0.size ≤ 64) = false:=decide_eq_false (by omega)
   clear c3
   obtain rfl:=Option.some.inj H
   go_enter Tryz.func98,Tryz.ntmps98
   go_wp2
   go_ret
   exact ⟨by first | rfl | (simp;done) | (simp [*];done),by repeat (first | exact Drawn0.refl _ | apply Drawn0.step)⟩
def simulate_outside.f (a0:Int) (a1:Int) (a2:Int):Option (Bool):=if a0 < a1 then (some true) else (some (decide (a0 > a2)))
set_option maxHeartbeats 8000000 in
set_option maxRecDepth 100000 in
theorem simulate_outside.calls (a0:Int) (a1:Int) (a2:Int) (r:Bool) (w:World) (h:simulate_outside.f a0 a1 a2 = some r):
  Calls Tryz.prog 73 #[.int .i64 a0,.int .i64 a1,.int .i64 a2] w fun e w'=>e = .returned (.bool r)∧Drawn0 w w':=by
 have H:(if a0 < a1 then (some true) else (some (decide (a0 > a2)))) = some r:=h
 clear h
 by_cases c4:a0 < a1
 ·rw [if_pos c4] at H
  have c4b0:decide (a0 < a1) = true:=decide_eq_true c4
  clear c4
  obtain rfl:=Option.some.inj H
  go_enter Tryz.func73,Tryz.ntmps73
  go_wp2
  go_ret
  exact ⟨by first | rfl | (simp;done) | (simp [*];done),by repeat (first | exact Drawn0.refl _ | apply Drawn0.step)⟩
 ·rw [if_neg c4] at H
  have c4b0:decide (a0 < a1) = false:=decide_eq_false c4
  clear c4
  obtain rfl:=Option.some.inj H
  go_enter Tryz.func73,Tryz.ntmps73
  go_wp2
  go_ret
  exact ⟨by first | rfl | (simp;done) | (simp [*];done),by repeat (first | exact Drawn0.refl _ | apply Drawn0.step)⟩
mutual
def deployment_checkOne.j0:Nat→ByteArray→ByteArray→Int→Int→Int→ByteArray→ByteArray→ByteArray→Option (Int)
 | 0,_,_,_,_,_,_,_,_=>none
 | k + 1,x3,x4,x122000,x122001,x122002,x122003,x122004,x122005=>if x122000 < 1 then (deployment_checkOne.j1 k x3 x4 true x122000 x122001 x122002 x122003 x122004 x122005) else (deployment_checkOne.j1 k x3 x4 (decide (x122000 > 1099511627776)) x122000 x122001 x122002 x122003 x122004 x122005)
def deployment_checkOne.j1:Nat→ByteArray→ByteArray→Bool→Int→Int→Int→ByteArray→ByteArray→ByteArray→Option (Int)
 | 0,_,_,_,_,_,_,_,_,_=>none
 | k + 1,x3,x4,x14,x122000,x122001,x122002,x122003,x122004,x122005=>if x14 = true then (some 2) else (if x122001 < 1 then (deployment_checkOne.j2 k x3 x4 true x122000 x122001 x122002 x122003 x122004 x122005) else (deployment_checkOne.j2 k x3 x4 (decide (x122001 > 3)) x122000 x122001 x122002 x122003 x122004 x122005))
def deployment_checkOne.j2:Nat→ByteArray→ByteArray→Bool→Int→Int→Int→ByteArray→ByteArray→ByteArray→Option (Int)
 | 0,_,_,_,_,_,_,_,_,_=>none
 | k + 1,x3,x4,x23,x122000,x122001,x122002,x122003,x122004,x122005=>if x23 = true then (some 12) else (if x122002 < 0 then (deployment_checkOne.j3 k x3 x4 true x122000 x122001 x122002 x122003 x122004 x122005) else (deployment_checkOne.j3 k x3 x4 (decide (x122002 > 1048576)) x122000 x122001 x122002 x122003 x122004 x122005))
def deployment_checkOne.j3:Nat→ByteArray→ByteArray→Bool→Int→Int→Int→ByteArray→ByteArray→ByteArray→Option (Int)
 | 0,_,_,_,_,_,_,_,_,_=>none
 | k + 1,x3,x4,x32,x122000,x122001,x122002,x122003,x122004,x122005=>if x32 = true then (some 32) else ((attribute_IsName.f k x122003).bind fun t122=>(if t122 = true then (if x4.toList = ([]:List UInt8) then ((attribute_IsName.f k x3).bind fun t123=>(if t123 = true then (some 0) else (some 11))) else (some 3)) else (some 11)))
end
def deployment_checkOne.f (k:Nat) (a0_0:Int) (a0_1:Int) (a0_2:Int) (a0_3:ByteArray) (a0_4:ByteArray) (a0_5:ByteArray):Option (Int):=if a0_1 = 1 then (deployment_checkOne.j0 k a0_5 a0_4 a0_0 a0_1 a0_2 a0_3 a0_4 a0_5) else (deployment_checkOne.j0 k a0_4 a0_5 a0_0 a0_1 a0_2 a0_3 a0_4 a0_5)
set_option maxHeartbeats 8000000 in
set_option maxRecDepth 100000 in
theorem deployment_checkOne.calls (k:Nat) (a0_0:Int) (a0_1:Int) (a0_2:Int) (a0_3:ByteArray) (a0_4:ByteArray) (a0_5:ByteArray) (r:Int) (w:World) (h:deployment_checkOne.f k a0_0 a0_1 a0_2 a0_3 a0_4 a0_5 = some r):
  Calls Tryz.prog 100 #[.agg #[.int .i64 a0_0,.int .i64 a0_1,.int .i64 a0_2,.string a0_3,.string a0_4,.string a0_5]] w fun e w'=>e = .returned (.int .i64 r)∧Below w.heap.size w w':=by
 have hu98:=Tryz.underlying98
 have HB:=Aside0.mk (Below.refl w.heap.size w)
 have H:(if a0_1 = 1 then (deployment_checkOne.j0 k a0_5 a0_4 a0_0 a0_1 a0_2 a0_3 a0_4 a0_5) else (deployment_checkOne.j0 k a0_4 a0_5 a0_0 a0_1 a0_2 a0_3 a0_4 a0_5)) = some r:=h
 clear h
 have HC2:=Aside0.mk H
 clear H
 go_enter Tryz.func100,Tryz.ntmps100
 go_upto_if 11 with (first | ((with_reducible refine gate_dst (N:=1) rfl ?_);refine box_event ?hg (N:=1) ?hd (cs:=#[.int .i64 a0_0,.int .i64 a0_1,.int .i64 a0_2,.string a0_3,.string a0_4,.string a0_5]) (t:=98) ?hr ?_;(case hd=>rfl);(case hg=>rfl);(case hr=>first | (go_simp;done) | (go_simp;rfl));intro gb121 hg w3 hbox hb;have n0_:=Aside0.mk (below_step (by repeat (first | (with_reducible first | exact HB.out | apply below_alloc | apply pw_below_drewN | apply below_drew1) | exact HB.out)) hb);have n1_:=Aside0.mk (hbox);have n2_:=Aside0.mk ((by rw [hg];exact (below_size (by repeat (first | (with_reducible first | exact HB.out | apply below_alloc | apply pw_below_drewN | apply below_drew1) | exact HB.out))):w.heap.size ≤ gb121));have n3_:=Aside0.mk ((by rw [hg];exact (below_size (by repeat (first | (with_reducible first | exact HB.out | apply below_alloc | apply pw_below_drewN | apply below_drew1) | exact HB.out))):w.heap.size ≤ gb121));clear HB;have HB:=n0_;have BK121:=n1_;have GW121:=n2_;have GE121:=n3_;clear n0_ n1_ n2_ n3_;clear hb hbox hg;have hcz4_0:w3.cell? ⟨gb121,0,none⟩ = some (.int .i64 a0_0):=(blk_cell BK121.out 0).trans rfl;have hcz4_1:w3.cell? ⟨gb121,1,none⟩ = some (.int .i64 a0_1):=(blk_cell BK121.out 1).trans rfl;have hcz4_2:w3.cell? ⟨gb121,2,none⟩ = some (.int .i64 a0_2):=(blk_cell BK121.out 2).trans rfl;have hcz4_3:w3.cell? ⟨gb121,3,none⟩ = some (.string a0_3):=(blk_cell BK121.out 3).trans rfl;have hcz4_4:w3.cell? ⟨gb121,4,none⟩ = some (.string a0_4):=(blk_cell BK121.out 4).trans rfl;have hcz4_5:w3.cell? ⟨gb121,5,none⟩ = some (.string a0_5):=(blk_cell BK121.out 5).trans rfl;have hfz4_0:=blk_frozen BK121.out 0;have hfz4_1:=blk_frozen BK121.out 1;have hfz4_2:=blk_frozen BK121.out 2;have hfz4_3:=blk_frozen BK121.out 3;have hfz4_4:=blk_frozen BK121.out 4;have hfz4_5:=blk_frozen BK121.out 5))
 repeat (go_quiet (first | ((with_reducible refine gate_dst (N:=1) rfl ?_);refine box_event ?hg (N:=1) ?hd (cs:=#[.int .i64 a0_0,.int .i64 a0_1,.int .i64 a0_2,.string a0_3,.string a0_4,.string a0_5]) (t:=98) ?hr ?_;(case hd=>rfl);(case hg=>rfl);(case hr=>first | (go_simp;done) | (go_simp;rfl));intro gb121 hg w3 hbox hb;have n0_:=Aside0.mk (below_step (by repeat (first | (with_reducible first | exact HB.out | apply below_alloc | apply pw_below_drewN | apply below_drew1) | exact HB.out)) hb);have n1_:=Aside0.mk (hbox);have n2_:=Aside0.mk ((by rw [hg];exact (below_size (by repeat (first | (with_reducible first | exact HB.out | apply below_alloc | apply pw_below_drewN | apply below_drew1) | exact HB.out))):w.heap.size ≤ gb121));have n3_:=Aside0.mk ((by rw [hg];exact (below_size (by repeat (first | (with_reducible first | exact HB.out | apply below_alloc | apply pw_below_drewN | apply below_drew1) | exact HB.out))):w.heap.size ≤ gb121));clear HB;have HB:=n0_;have BK121:=n1_;have GW121:=n2_;have GE121:=n3_;clear n0_ n1_ n2_ n3_;clear hb hbox hg;have hcz4_0:w3.cell? ⟨gb121,0,none⟩ = some (.int .i64 a0_0):=(blk_cell BK121.out 0).trans rfl;have hcz4_1:w3.cell? ⟨gb121,1,none⟩ = some (.int .i64 a0_1):=(blk_cell BK121.out 1).trans rfl;have hcz4_2:w3.cell? ⟨gb121,2,none⟩ = some (.int .i64 a0_2):=(blk_cell BK121.out 2).trans rfl;have hcz4_3:w3.cell? ⟨gb121,3,none⟩ = some (.string a0_3):=(blk_cell BK121.out 3).trans rfl;have hcz4_4:w3.cell? ⟨gb121,4,none⟩ = some (.string a0_4):=(blk_cell BK121.out 4).trans rfl;have hcz4_5:w3.cell? ⟨gb121,5,none⟩ = some (.string a0_5):=(blk_cell BK121.out 5).trans rfl;have hfz4_0:=blk_frozen BK121.out 0;have hfz4_1:=blk_frozen BK121.out 1;have hfz4_2:=blk_frozen BK121.out 2;have hfz4_3:=blk_frozen BK121.out 3;have hfz4_4:=blk_frozen BK121.out 4;have hfz4_5:=blk_frozen BK121.out 5));go_upto_if 11 with (first | ((with_reducible refine gate_dst (N:=1) rfl ?_);refine box_event ?hg (N:=1) ?hd (cs:=#[.int .i64 a0_0,.int .i64 a0_1,.int .i64 a0_2,.string a0_3,.string a0_4,.string a0_5]) (t:=98) ?hr ?_;(case hd=>rfl);(case hg=>rfl);(case hr=>first | (go_simp;done) | (go_simp;rfl));intro gb121 hg w3 hbox hb;have n0_:=Aside0.mk (below_step (by repeat (first | (with_reducible first | exact HB.out | apply below_alloc | apply pw_below_drewN | apply below_drew1) | exact HB.out)) hb);have n1_:=Aside0.mk (hbox);have n2_:=Aside0.mk ((by rw [hg];exact (below_size (by repeat (first | (with_reducible first | exact HB.out | apply below_alloc | apply pw_below_drewN | apply below_drew1) | exact HB.out))):w.heap.size ≤ gb121));have n3_:=Aside0.mk ((by rw [hg];exact (below_size (by repeat (first | (with_reducible first | exact HB.out | apply below_alloc | apply pw_below_drewN | apply below_drew1) | exact HB.out))):w.heap.size ≤ gb121));clear HB;have HB:=n0_;have BK121:=n1_;have GW121:=n2_;have GE121:=n3_;clear n0_ n1_ n2_ n3_;clear hb hbox hg;have hcz4_0:w3.cell? ⟨gb121,0,none⟩ = some (.int .i64 a0_0):=(blk_cell BK121.out 0).trans rfl;have hcz4_1:w3.cell? ⟨gb121,1,none⟩ = some (.int .i64 a0_1):=(blk_cell BK121.out 1).trans rfl;have hcz4_2:w3.cell? ⟨gb121,2,none⟩ = some (.int .i64 a0_2):=(blk_cell BK121.out 2).trans rfl;have hcz4_3:w3.cell? ⟨gb121,3,none⟩ = some (.string a0_3):=(blk_cell BK121.out 3).trans rfl;have hcz4_4:w3.cell? ⟨gb121,4,none⟩ = some (.string a0_4):=(blk_cell BK121.out 4).trans rfl;have hcz4_5:w3.cell? ⟨gb121,5,none⟩ = some (.string a0_5):=(blk_cell BK121.out 5).trans rfl;have hfz4_0:=blk_frozen BK121.out 0;have hfz4_1:=blk_frozen BK121.out 1;have hfz4_2:=blk_frozen BK121.out 2;have hfz4_3:=blk_frozen BK121.out 3;have hfz4_4:=blk_frozen BK121.out 4;have hfz4_5:=blk_frozen BK121.out 5)))
 (try simp only [Act.put,List.setIfInBounds_toArray,List.set_cons_zero,List.set_cons_succ])
 go_cut [3,4] (fun v3 v4 wc=>∃ (kq:Nat) (x3_1:ByteArray) (x4_1:ByteArray),v3 = .string x3_1∧v4 = .string x4_1∧Aside0 (deployment_checkOne.j0 kq x3_1 x4_1 a0_0 a0_1 a0_2 a0_3 a0_4 a0_5 = some r)∧Aside0 (kq ≤ k)∧Aside0 (wc.heap[gb121]? = some (.cells #[.int .i64 a0_0,.int .i64 a0_1,.int .i64 a0_2,.string a0_3,.string a0_4,.string a0_5] 98 (0,0)))∧Aside0 (Below w.heap.size w wc))
 case first=>
  have H:=HC2.out
  clear HC2
  by_cases c5:a0_1 = 1
  ·rw [if_pos c5] at H
   have c5b0:(a0_1 == 1) = true:=beq_iff_eq.mpr c5
   have c5b1:(a0_1 != 1) = false:=bne_eq_false_iff_eq.mpr c5
   clear c5
   (first | rw [c5b0] | (simp only [i64_w,i32_w];rw [c5b0]) | skip)
   have H':=Aside0.mk H
   clear H
   go_wp2
   repeat (go_quiet (fail);try go_wp2)
   go_meet
   case rel=>exact ⟨_,(a0_5),(a0_4),(by first | rfl | (simp;done) | (simp [*];done)),(by first | rfl | (simp;done) | (simp [*];done)),H',⟨by first | omega | exact Nat.le_refl _⟩,⟨by (with_reducible repeat (first | refine blk_drewN ?_ _ | refine blk_drew ?_ | refine blk_alloc ?_ _));exact BK121.out⟩,⟨by repeat (first | (with_reducible first | exact HB.out | apply below_alloc | apply pw_below_drewN | apply below_drew1 | refine below_set ?_ GE121.out) | exact HB.out)⟩⟩
  ·rw [if_neg c5] at H
   have c5b0:(a0_1 == 1) = false:=beq_eq_false_iff_ne.mpr c5
   have c5b1:(a0_1 != 1) = true:=bne_iff_ne.mpr c5
   (first | rw [c5b0] | (simp only [i64_w,i32_w];rw [c5b0]) | skip)
   have H':=Aside0.mk H
   clear H
   go_wp2
   repeat (go_quiet (fail);try go_wp2)
   go_meet
   case rel=>exact ⟨_,(a0_4),(a0_5),(by first | rfl | (simp;done) | (simp [*];done)),(by first | rfl | (simp;done) | (simp [*];done)),H',⟨by first | omega | exact Nat.le_refl _⟩,⟨by (with_reducible repeat (first | refine blk_drewN ?_ _ | refine blk_drew ?_ | refine blk_alloc ?_ _));exact BK121.out⟩,⟨by repeat (first | (with_reducible first | exact HB.out | apply below_alloc | apply pw_below_drewN | apply below_drew1 | refine below_set ?_ GE121.out) | exact HB.out)⟩⟩
 case rest=>
  clear HC2
  try clear c1
  try clear p2
  try clear c5
  try clear c5b0
  try clear c5b1
  try clear hcz4_0
  try clear hcz4_1
  try clear hcz4_2
  try clear hcz4_3
  try clear hcz4_4
  try clear hcz4_5
  try clear hfz4_0
  try clear hfz4_1
  try clear hfz4_2
  try clear hfz4_3
  try clear hfz4_4
  try clear hfz4_5
  obtain ⟨kq,x3_1,x4_1,rfl,rfl,HA,HJ1,BK121,HB⟩:=hcut
  cases kq with
  | zero=>exact absurd HA.out (by simp [deployment_checkOne.j0])
  | succ kj1=>
   have H:=HA.out
   clear HA
   simp only [deployment_checkOne.j0] at H
   have HC6:=Aside0.mk H
   clear H
   go_upto_region 4 with (fail)
   repeat (go_quiet (fail);go_upto_region 4 with (fail))
   go_cut [14] (fun v14 wc=>∃ (kq:Nat) (x14_5:Bool),v14 = .bool x14_5∧Aside0 (deployment_checkOne.j1 kq x3_1 x4_1 x14_5 a0_0 a0_1 a0_2 a0_3 a0_4 a0_5 = some r)∧Aside0 (kq ≤ kj1)∧Aside0 (wc.heap[gb121]? = some (.cells #[.int .i64 a0_0,.int .i64 a0_1,.int .i64 a0_2,.string a0_3,.string a0_4,.string a0_5] 98 (0,0)))∧Aside0 (Below w.heap.size w wc))
   case first=>
    have H:=HC6.out
    clear HC6
    by_cases c7:a0_0 < 1
    ·rw [if_pos c7] at H
     have c7b0:decide (a0_0 < 1) = true:=decide_eq_true c7
     clear c7
     (first | rw [c7b0] | (simp only [i64_w,i32_w];rw [c7b0]) | skip)
     have H':=Aside0.mk H
     clear H
     have hcz8_0:wc.cell? ⟨gb121,0,none⟩ = some (.int .i64 a0_0):=(blk_cell BK121.out 0).trans rfl
     have hcz8_1:wc.cell? ⟨gb121,1,none⟩ = some (.int .i64 a0_1):=(blk_cell BK121.out 1).trans rfl
     have hcz8_2:wc.cell? ⟨gb121,2,none⟩ = some (.int .i64 a0_2):=(blk_cell BK121.out 2).trans rfl
     have hcz8_3:wc.cell? ⟨gb121,3,none⟩ = some (.string a0_3):=(blk_cell BK121.out 3).trans rfl
     have hcz8_4:wc.cell? ⟨gb121,4,none⟩ = some (.string a0_4):=(blk_cell BK121.out 4).trans rfl
     have hcz8_5:wc.cell? ⟨gb121,5,none⟩ = some (.string a0_5):=(blk_cell BK121.out 5).trans rfl
     have hfz8_0:=blk_frozen BK121.out 0
     have hfz8_1:=blk_frozen BK121.out 1
     have hfz8_2:=blk_frozen BK121.out 2
     have hfz8_3:=blk_frozen BK121.out 3
     have hfz8_4:=blk_frozen BK121.out 4
     have hfz8_5:=blk_frozen BK121.out 5
     go_wp2
     repeat (go_quiet (fail);try go_wp2)
     go_meet
     case rel=>exact ⟨_,(true),(by first | rfl | (simp;done) | (simp [*];done)),H',⟨by have:=HJ1.out;first | omega | exact Nat.le_refl _⟩,⟨by (with_reducible repeat (first | refine blk_drewN ?_ _ | refine blk_drew ?_ | refine blk_alloc ?_ _));exact BK121.out⟩,⟨by repeat (first | (with_reducible first | exact HB.out | apply below_alloc | apply pw_below_drewN | apply below_drew1 | refine below_set ?_ GE121.out) | exact HB.out)⟩⟩
    ·rw [if_neg c7] at H
     have c7b0:decide (a0_0 < 1) = false:=decide_eq_false c7
     clear c7
     (first | rw [c7b0] | (simp only [i64_w,i32_w];rw [c7b0]) | skip)
     have H':=Aside0.mk H
     clear H
     have hcz9_0:wc.cell? ⟨gb121,0,none⟩ = some (.int .i64 a0_0):=(blk_cell BK121.out 0).trans rfl
     have hcz9_1:wc.cell? ⟨gb121,1,none⟩ = some (.int .i64 a0_1):=(blk_cell BK121.out 1).trans rfl
     have hcz9_2:wc.cell? ⟨gb121,2,none⟩ = some (.int .i64 a0_2):=(blk_cell BK121.out 2).trans rfl
     have hcz9_3:wc.cell? ⟨gb121,3,none⟩ = some (.string a0_3):=(blk_cell BK121.out 3).trans rfl
     have hcz9_4:wc.cell? ⟨gb121,4,none⟩ = some (.string a0_4):=(blk_cell BK121.out 4).trans rfl
     have hcz9_5:wc.cell? ⟨gb121,5,none⟩ = some (.string a0_5):=(blk_cell BK121.out 5).trans rfl
     have hfz9_0:=blk_frozen BK121.out 0
     have hfz9_1:=blk_frozen BK121.out 1
     have hfz9_2:=blk_frozen BK121.out 2
     have hfz9_3:=blk_frozen BK121.out 3
     have hfz9_4:=blk_frozen BK121.out 4
     have hfz9_5:=blk_frozen BK121.out 5
     go_wp2
     repeat (go_quiet (fail);try go_wp2)
     go_meet
     case rel=>exact ⟨_,(decide (a0_0 > 1099511627776)),(by first | rfl | (simp;done) | (simp [*];done)),H',⟨by have:=HJ1.out;first | omega | exact Nat.le_refl _⟩,⟨by (with_reducible repeat (first | refine blk_drewN ?_ _ | refine blk_drew ?_ | refine blk_alloc ?_ _));exact BK121.out⟩,⟨by repeat (first | (with_reducible first | exact HB.out | apply below_alloc | apply pw_below_drewN | apply below_drew1 | refine below_set ?_ GE121.out) | exact HB.out)⟩⟩
   case rest=>
    clear HC6
    try clear c1
    try clear p2
    try clear c5
    try clear c5b0
    try clear c5b1
    try clear c7
    try clear c7b0
    try clear hcz4_0
    try clear hcz4_1
    try clear hcz4_2
    try clear hcz4_3
    try clear hcz4_4
    try clear hcz4_5
    try clear hcz8_0
    try clear hcz8_1
    try clear hcz8_2
    try clear hcz8_3
    try clear hcz8_4
    try clear hcz8_5
    try clear hcz9_0
    try clear hcz9_1
    try clear hcz9_2
    try clear hcz9_3
    try clear hcz9_4
    try clear hcz9_5
    try clear hfz4_0
    try clear hfz4_1
    try clear hfz4_2
    try clear hfz4_3
    try clear hfz4_4
    try clear hfz4_5
    try clear hfz8_0
    try clear hfz8_1
    try clear hfz8_2
    try clear hfz8_3
    try clear hfz8_4
    try clear hfz8_5
    try clear hfz9_0
    try clear hfz9_1
    try clear hfz9_2
    try clear hfz9_3
    try clear hfz9_4
    try clear hfz9_5
    try clear p2
    obtain ⟨kq,x14_5,rfl,HA,HJ5,BK121,HB⟩:=hcut
    cases kq with
    | zero=>exact absurd HA.out (by simp [deployment_checkOne.j1])
    | succ kj5=>
     have H:=HA.out
     clear HA
     simp only [deployment_checkOne.j1] at H
     by_cases c10:x14_5 = true
     ·subst c10
      have H1:(some 2) = some r:=by rw [if_pos rfl] at H;exact H
      clear H
      have H:=H1
      clear H1
      obtain rfl:=Option.some.inj H
      go_wp2
      repeat (go_quiet (fail);try go_wp2)
      go_ret
      exact ⟨by first | rfl | (simp [errW_none,errW_some] <;> rfl) | (simp [*,errW_none,errW_some] <;> rfl),by repeat (first | (with_reducible first | exact HB.out | apply below_alloc | apply pw_below_drewN | apply below_drew1 | refine below_set ?_ GE121.out) | exact HB.out)⟩
     ·replace c10:=Bool.eq_false_iff.mpr c10
      subst c10
      have H1:(if a0_1 < 1 then (deployment_checkOne.j2 kj5 x3_1 x4_1 true a0_0 a0_1 a0_2 a0_3 a0_4 a0_5) else (deployment_checkOne.j2 kj5 x3_1 x4_1 (decide (a0_1 > 3)) a0_0 a0_1 a0_2 a0_3 a0_4 a0_5)) = some r:=by rw [if_neg (show ¬ (false = true) by decide)] at H;exact H
      clear H
      have H:=H1
      clear H1
      have HC11:=Aside0.mk H
      clear H
      go_upto_region 6 with (fail)
      repeat (go_quiet (fail);go_upto_region 6 with (fail))
      go_cut [23] (fun v23 wc=>∃ (kq:Nat) (x23_10:Bool),v23 = .bool x23_10∧Aside0 (deployment_checkOne.j2 kq x3_1 x4_1 x23_10 a0_0 a0_1 a0_2 a0_3 a0_4 a0_5 = some r)∧Aside0 (kq ≤ kj5)∧Aside0 (wc.heap[gb121]? = some (.cells #[.int .i64 a0_0,.int .i64 a0_1,.int .i64 a0_2,.string a0_3,.string a0_4,.string a0_5] 98 (0,0)))∧Aside0 (Below w.heap.size w wc))
      case first=>
       have H:=HC11.out
       clear HC11
       by_cases c12:a0_1 < 1
       ·rw [if_pos c12] at H
        have c12b0:decide (a0_1 < 1) = true:=decide_eq_true c12
        clear c12
        (first | rw [c12b0] | (simp only [i64_w,i32_w];rw [c12b0]) | skip)
        have H':=Aside0.mk H
        clear H
        have hcz13_0:wc.cell? ⟨gb121,0,none⟩ = some (.int .i64 a0_0):=(blk_cell BK121.out 0).trans rfl
        have hcz13_1:wc.cell? ⟨gb121,1,none⟩ = some (.int .i64 a0_1):=(blk_cell BK121.out 1).trans rfl
        have hcz13_2:wc.cell? ⟨gb121,2,none⟩ = some (.int .i64 a0_2):=(blk_cell BK121.out 2).trans rfl
        have hcz13_3:wc.cell? ⟨gb121,3,none⟩ = some (.string a0_3):=(blk_cell BK121.out 3).trans rfl
        have hcz13_4:wc.cell? ⟨gb121,4,none⟩ = some (.string a0_4):=(blk_cell BK121.out 4).trans rfl
        have hcz13_5:wc.cell? ⟨gb121,5,none⟩ = some (.string a0_5):=(blk_cell BK121.out 5).trans rfl
        have hfz13_0:=blk_frozen BK121.out 0
        have hfz13_1:=blk_frozen BK121.out 1
        have hfz13_2:=blk_frozen BK121.out 2
        have hfz13_3:=blk_frozen BK121.out 3
        have hfz13_4:=blk_frozen BK121.out 4
        have hfz13_5:=blk_frozen BK121.out 5
        go_wp2
        repeat (go_quiet (fail);try go_wp2)
        go_meet
        case rel=>exact ⟨_,(true),(by first | rfl | (simp;done) | (simp [*];done)),H',⟨by have:=HJ1.out;have:=HJ5.out;first | omega | exact Nat.le_refl _⟩,⟨by (with_reducible repeat (first | refine blk_drewN ?_ _ | refine blk_drew ?_ | refine blk_alloc ?_ _));exact BK121.out⟩,⟨by repeat (first | (with_reducible first | exact HB.out | apply below_alloc | apply pw_below_drewN | apply below_drew1 | refine below_set ?_ GE121.out) | exact HB.out)⟩⟩
       ·rw [if_neg c12] at H
        have c12b0:decide (a0_1 < 1) = false:=decide_eq_false c12
        clear c12
        (first | rw [c12b0] | (simp only [i64_w,i32_w];rw [c12b0]) | skip)
        have H':=Aside0.mk H
        clear H
        have hcz14_0:wc.cell? ⟨gb121,0,none⟩ = some (.int .i64 a0_0):=(blk_cell BK121.out 0).trans rfl
        have hcz14_1:wc.cell? ⟨gb121,1,none⟩ = some (.int .i64 a0_1):=(blk_cell BK121.out 1).trans rfl
        have hcz14_2:wc.cell? ⟨gb121,2,none⟩ = some (.int .i64 a0_2):=(blk_cell BK121.out 2).trans rfl
        have hcz14_3:wc.cell? ⟨gb121,3,none⟩ = some (.string a0_3):=(blk_cell BK121.out 3).trans rfl
        have hcz14_4:wc.cell? ⟨gb121,4,none⟩ = some (.string a0_4):=(blk_cell BK121.out 4).trans rfl
        have hcz14_5:wc.cell? ⟨gb121,5,none⟩ = some (.string a0_5):=(blk_cell BK121.out 5).trans rfl
        have hfz14_0:=blk_frozen BK121.out 0
        have hfz14_1:=blk_frozen BK121.out 1
        have hfz14_2:=blk_frozen BK121.out 2
        have hfz14_3:=blk_frozen BK121.out 3
        have hfz14_4:=blk_frozen BK121.out 4
        have hfz14_5:=blk_frozen BK121.out 5
        go_wp2
        repeat (go_quiet (fail);try go_wp2)
        go_meet
        case rel=>exact ⟨_,(decide (a0_1 > 3)),(by first | rfl | (simp;done) | (simp [*];done)),H',⟨by have:=HJ1.out;have:=HJ5.out;first | omega | exact Nat.le_refl _⟩,⟨by (with_reducible repeat (first | refine blk_drewN ?_ _ | refine blk_drew ?_ | refine blk_alloc ?_ _));exact BK121.out⟩,⟨by repeat (first | (with_reducible first | exact HB.out | apply below_alloc | apply pw_below_drewN | apply below_drew1 | refine below_set ?_ GE121.out) | exact HB.out)⟩⟩
      case rest=>
       clear HC11
       try clear c1
       try clear p2
       try clear c5
       try clear c5b0
       try clear c5b1
       try clear c7
       try clear c7b0
       try clear c10
       try clear c12
       try clear c12b0
       try clear hcz13_0
       try clear hcz13_1
       try clear hcz13_2
       try clear hcz13_3
       try clear hcz13_4
       try clear hcz13_5
       try clear hcz14_0
       try clear hcz14_1
       try clear hcz14_2
       try clear hcz14_3
       try clear hcz14_4
       try clear hcz14_5
       try clear hcz4_0
       try clear hcz4_1
       try clear hcz4_2
       try clear hcz4_3
       try clear hcz4_4
       try clear hcz4_5
       try clear hcz8_0
       try clear hcz8_1
       try clear hcz8_2
       try clear hcz8_3
       try clear hcz8_4
       try clear hcz8_5
       try clear hcz9_0
       try clear hcz9_1
       try clear hcz9_2
       try clear hcz9_3
       try clear hcz9_4
       try clear hcz9_5
       try clear hfz13_0
       try clear hfz13_1
       try clear hfz13_2
       try clear hfz13_3
       try clear hfz13_4
       try clear hfz13_5
       try clear hfz14_0
       try clear hfz14_1
       try clear hfz14_2
       try clear hfz14_3
       try clear hfz14_4
       try clear hfz14_5
       try clear hfz4_0
       try clear hfz4_1
       try clear hfz4_2
       try clear hfz4_3
       try clear hfz4_4
       try clear hfz4_5
       try clear hfz8_0
       try clear hfz8_1
       try clear hfz8_2
       try clear hfz8_3
       try clear hfz8_4
       try clear hfz8_5
       try clear hfz9_0
       try clear hfz9_1
       try clear hfz9_2
       try clear hfz9_3
       try clear hfz9_4
       try clear hfz9_5
       try clear p2
       obtain ⟨kq,x23_10,rfl,HA,HJ10,BK121,HB⟩:=hcut
       cases kq with
       | zero=>exact absurd HA.out (by simp [deployment_checkOne.j2])
       | succ kj10=>
        have H:=HA.out
        clear HA
        simp only [deployment_checkOne.j2] at H
        by_cases c15:x23_10 = true
        ·subst c15
         have H1:(some 12) = some r:=by rw [if_pos rfl] at H;exact H
         clear H
         have H:=H1
         clear H1
         obtain rfl:=Option.some.inj H
         go_wp2
         repeat (go_quiet (fail);try go_wp2)
         go_ret
         exact ⟨by first | rfl | (simp [errW_none,errW_some] <;> rfl) | (simp [*,errW_none,errW_some] <;> rfl),by repeat (first | (with_reducible first | exact HB.out | apply below_alloc | apply pw_below_drewN | apply below_drew1 | refine below_set ?_ GE121.out) | exact HB.out)⟩
        ·replace c15:=Bool.eq_false_iff.mpr c15
         subst c15
         have H1:(if a0_2 < 0 then (deployment_checkOne.j3 kj10 x3_1 x4_1 true a0_0 a0_1 a0_2 a0_3 a0_4 a0_5) else (deployment_checkOne.j3 kj10 x3_1 x4_1 (decide (a0_2 > 1048576)) a0_0 a0_1 a0_2 a0_3 a0_4 a0_5)) = some r:=by rw [if_neg (show ¬ (false = true) by decide)] at H;exact H
         clear H
         have H:=H1
         clear H1
         have HC16:=Aside0.mk H
         clear H
         go_upto_region 8 with (fail)
         repeat (go_quiet (fail);go_upto_region 8 with (fail))
         go_cut [32] (fun v32 wc=>∃ (kq:Nat) (x32_15:Bool),v32 = .bool x32_15∧Aside0 (deployment_checkOne.j3 kq x3_1 x4_1 x32_15 a0_0 a0_1 a0_2 a0_3 a0_4 a0_5 = some r)∧Aside0 (kq ≤ kj10)∧Aside0 (wc.heap[gb121]? = some (.cells #[.int .i64 a0_0,.int .i64 a0_1,.int .i64 a0_2,.string a0_3,.string a0_4,.string a0_5] 98 (0,0)))∧Aside0 (Below w.heap.size w wc))
         case first=>
          have H:=HC16.out
          clear HC16
          by_cases c17:a0_2 < 0
          ·rw [if_pos c17] at H
           have c17b0:decide (a0_2 < 0) = true:=decide_eq_true c17
           clear c17
           (first | rw [c17b0] | (simp only [i64_w,i32_w];rw [c17b0]) | skip)
           have H':=Aside0.mk H
           clear H
           have hcz18_0:wc.cell? ⟨gb121,0,none⟩ = some (.int .i64 a0_0):=(blk_cell BK121.out 0).trans rfl
           have hcz18_1:wc.cell? ⟨gb121,1,none⟩ = some (.int .i64 a0_1):=(blk_cell BK121.out 1).trans rfl
           have hcz18_2:wc.cell? ⟨gb121,2,none⟩ = some (.int .i64 a0_2):=(blk_cell BK121.out 2).trans rfl
           have hcz18_3:wc.cell? ⟨gb121,3,none⟩ = some (.string a0_3):=(blk_cell BK121.out 3).trans rfl
           have hcz18_4:wc.cell? ⟨gb121,4,none⟩ = some (.string a0_4):=(blk_cell BK121.out 4).trans rfl
           have hcz18_5:wc.cell? ⟨gb121,5,none⟩ = some (.string a0_5):=(blk_cell BK121.out 5).trans rfl
           have hfz18_0:=blk_frozen BK121.out 0
           have hfz18_1:=blk_frozen BK121.out 1
           have hfz18_2:=blk_frozen BK121.out 2
           have hfz18_3:=blk_frozen BK121.out 3
           have hfz18_4:=blk_frozen BK121.out 4
           have hfz18_5:=blk_frozen BK121.out 5
           go_wp2
           repeat (go_quiet (fail);try go_wp2)
           go_meet
           case rel=>exact ⟨_,(true),(by first | rfl | (simp;done) | (simp [*];done)),H',⟨by have:=HJ1.out;have:=HJ5.out;have:=HJ10.out;first | omega | exact Nat.le_refl _⟩,⟨by (with_reducible repeat (first | refine blk_drewN ?_ _ | refine blk_drew ?_ | refine blk_alloc ?_ _));exact BK121.out⟩,⟨by repeat (first | (with_reducible first | exact HB.out | apply below_alloc | apply pw_below_drewN | apply below_drew1 | refine below_set ?_ GE121.out) | exact HB.out)⟩⟩
          ·rw [if_neg c17] at H
           have c17b0:decide (a0_2 < 0) = false:=decide_eq_false c17
           clear c17
           (first | rw [c17b0] | (simp only [i64_w,i32_w];rw [c17b0]) | skip)
           have H':=Aside0.mk H
           clear H
           have hcz19_0:wc.cell? ⟨gb121,0,none⟩ = some (.int .i64 a0_0):=(blk_cell BK121.out 0).trans rfl
           have hcz19_1:wc.cell? ⟨gb121,1,none⟩ = some (.int .i64 a0_1):=(blk_cell BK121.out 1).trans rfl
           have hcz19_2:wc.cell? ⟨gb121,2,none⟩ = some (.int .i64 a0_2):=(blk_cell BK121.out 2).trans rfl
           have hcz19_3:wc.cell? ⟨gb121,3,none⟩ = some (.string a0_3):=(blk_cell BK121.out 3).trans rfl
           have hcz19_4:wc.cell? ⟨gb121,4,none⟩ = some (.string a0_4):=(blk_cell BK121.out 4).trans rfl
           have hcz19_5:wc.cell? ⟨gb121,5,none⟩ = some (.string a0_5):=(blk_cell BK121.out 5).trans rfl
           have hfz19_0:=blk_frozen BK121.out 0
           have hfz19_1:=blk_frozen BK121.out 1
           have hfz19_2:=blk_frozen BK121.out 2
           have hfz19_3:=blk_frozen BK121.out 3
           have hfz19_4:=blk_frozen BK121.out 4
           have hfz19_5:=blk_frozen BK121.out 5
           go_wp2
           repeat (go_quiet (fail);try go_wp2)
           go_meet
           case rel=>exact ⟨_,(decide (a0_2 > 1048576)),(by first | rfl | (simp;done) | (simp [*];done)),H',⟨by have:=HJ1.out;have:=HJ5.out;have:=HJ10.out;first | omega | exact Nat.le_refl _⟩,⟨by (with_reducible repeat (first | refine blk_drewN ?_ _ | refine blk_drew ?_ | refine blk_alloc ?_ _));exact BK121.out⟩,⟨by repeat (first | (with_reducible first | exact HB.out | apply below_alloc | apply pw_below_drewN | apply below_drew1 | refine below_set ?_ GE121.out) | exact HB.out)⟩⟩
         case rest=>
          clear HC16
          try clear c1
          try clear p2
          try clear c5
          try clear c5b0
          try clear c5b1
          try clear c7
          try clear c7b0
          try clear c10
          try clear c12
          try clear c12b0
          try clear c15
          try clear c17
          try clear c17b0
          try clear hcz13_0
          try clear hcz13_1
          try clear hcz13_2
          try clear hcz13_3
          try clear hcz13_4
          try clear hcz13_5
          try clear hcz14_0
          try clear hcz14_1
          try clear hcz14_2
          try clear hcz14_3
          try clear hcz14_4
          try clear hcz14_5
          try clear hcz18_0
          try clear hcz18_1
          try clear hcz18_2
          try clear hcz18_3
          try clear hcz18_4
          try clear hcz18_5
          try clear hcz19_0
          try clear hcz19_1
          try clear hcz19_2
          try clear hcz19_3
          try clear hcz19_4
          try clear hcz19_5
          try clear hcz4_0
          try clear hcz4_1
          try clear hcz4_2
          try clear hcz4_3
          try clear hcz4_4
          try clear hcz4_5
          try clear hcz8_0
          try clear hcz8_1
          try clear hcz8_2
          try clear hcz8_3
          try clear hcz8_4
          try clear hcz8_5
          try clear hcz9_0
          try clear hcz9_1
          try clear hcz9_2
          try clear hcz9_3
          try clear hcz9_4
          try clear hcz9_5
          try clear hfz13_0
          try clear hfz13_1
          try clear hfz13_2
          try clear hfz13_3
          try clear hfz13_4
          try clear hfz13_5
          try clear hfz14_0
          try clear hfz14_1
          try clear hfz14_2
          try clear hfz14_3
          try clear hfz14_4
          try clear hfz14_5
          try clear hfz18_0
          try clear hfz18_1
          try clear hfz18_2
          try clear hfz18_3
          try clear hfz18_4
          try clear hfz18_5
          try clear hfz19_0
          try clear hfz19_1
          try clear hfz19_2
          try clear hfz19_3
          try clear hfz19_4
          try clear hfz19_5
          try clear hfz4_0
          try clear hfz4_1
          try clear hfz4_2
          try clear hfz4_3
          try clear hfz4_4
          try clear hfz4_5
          try clear hfz8_0
          try clear hfz8_1
          try clear hfz8_2
          try clear hfz8_3
          try clear hfz8_4
          try clear hfz8_5
          try clear hfz9_0
          try clear hfz9_1
          try clear hfz9_2
          try clear hfz9_3
          try clear hfz9_4
          try clear hfz9_5
          try clear p2
          obtain ⟨kq,x32_15,rfl,HA,HJ15,BK121,HB⟩:=hcut
          cases kq with
          | zero=>exact absurd HA.out (by simp [deployment_checkOne.j3])
          | succ kj15=>
           have H:=HA.out
           clear HA
           simp only [deployment_checkOne.j3] at H
           by_cases c20:x32_15 = true
           ·subst c20
            have H1:(some 32) = some r:=by rw [if_pos rfl] at H;exact H
            clear H
            have H:=H1
            clear H1
            obtain rfl:=Option.some.inj H
            go_wp2
            repeat (go_quiet (fail);try go_wp2)
            go_ret
            exact ⟨by first | rfl | (simp [errW_none,errW_some] <;> rfl) | (simp [*,errW_none,errW_some] <;> rfl),by repeat (first | (with_reducible first | exact HB.out | apply below_alloc | apply pw_below_drewN | apply below_drew1 | refine below_set ?_ GE121.out) | exact HB.out)⟩
           ·replace c20:=Bool.eq_false_iff.mpr c20
            subst c20
            have H1:((attribute_IsName.f kj15 a0_3).bind fun t122=>(if t122 = true then (if x4_1.toList = ([]:List UInt8) then ((attribute_IsName.f kj15 x3_1).bind fun t123=>(if t123 = true then (some 0) else (some 11))) else (some 3)) else (some 11))) = some r:=by rw [if_neg (show ¬ (false = true) by decide)] at H;exact H
            clear H
            have H:=H1
            clear H1
            replace H:=Option.bind_eq_some_iff.mp H
            obtain ⟨t122,A210,H⟩:=H
            replace H:(if t122 = true then (if x4_1.toList = ([]:List UInt8) then ((attribute_IsName.f kj15 x3_1).bind fun t123=>(if t123 = true then (some 0) else (some 11))) else (some 3)) else (some 11)) = some r:=H
            have A21:=Aside0.mk A210
            clear A210
            by_cases c22:t122 = true
            ·subst c22
             have H1:(if x4_1.toList = ([]:List UInt8) then ((attribute_IsName.f kj15 x3_1).bind fun t123=>(if t123 = true then (some 0) else (some 11))) else (some 3)) = some r:=by rw [if_pos rfl] at H;exact H
             clear H
             have H:=H1
             clear H1
             by_cases c23:x4_1.toList = ([]:List UInt8)
             ·rw [if_pos c23] at H
              have c23b0:(x4_1.toList == ([]:List UInt8)) = true:=beq_iff_eq.mpr c23
              have c23b1:(x4_1.toList != ([]:List UInt8)) = false:=bne_eq_false_iff_eq.mpr c23
              clear c23
              replace H:=Option.bind_eq_some_iff.mp H
              obtain ⟨t123,A240,H⟩:=H
              replace H:(if t123 = true then (some 0) else (some 11)) = some r:=H
              have A24:=Aside0.mk A240
              clear A240
              by_cases c25:t123 = true
              ·subst c25
               have H1:(some 0) = some r:=by rw [if_pos rfl] at H;exact H
               clear H
               have H:=H1
               clear H1
               obtain rfl:=Option.some.inj H
               have hcz26_0:wc.cell? ⟨gb121,0,none⟩ = some (.int .i64 a0_0):=(blk_cell BK121.out 0).trans rfl
               have hcz26_1:wc.cell? ⟨gb121,1,none⟩ = some (.int .i64 a0_1):=(blk_cell BK121.out 1).trans rfl
               have hcz26_2:wc.cell? ⟨gb121,2,none⟩ = some (.int .i64 a0_2):=(blk_cell BK121.out 2).trans rfl
               have hcz26_3:wc.cell? ⟨gb121,3,none⟩ = some (.string a0_3):=(blk_cell BK121.out 3).trans rfl
               have hcz26_4:wc.cell? ⟨gb121,4,none⟩ = some (.string a0_4):=(blk_cell BK121.out 4).trans rfl
               have hcz26_5:wc.cell? ⟨gb121,5,none⟩ = some (.string a0_5):=(blk_cell BK121.out 5).trans rfl
               have hfz26_0:=blk_frozen BK121.out 0
               have hfz26_1:=blk_frozen BK121.out 1
               have hfz26_2:=blk_frozen BK121.out 2
               have hfz26_3:=blk_frozen BK121.out 3
               have hfz26_4:=blk_frozen BK121.out 4
               have hfz26_5:=blk_frozen BK121.out 5
               go_wp2_with (first | (go_at_call 98;(with_reducible refine (attribute_IsName.calls kj15 a0_3 true _ A21.out).mono ?_);rintro e w' ⟨rfl,⟨nd,rfl⟩⟩;(try first | exact ⟨rfl,_,World.drewN_drewN _ _ _⟩ | exact ⟨rfl,_,Eq.trans (World.drewN_drewN _ _ _) (congrArg (World.drewN _) (Nat.add_assoc _ _ _))⟩)) | (go_at_call 98;(with_reducible refine (attribute_IsName.calls kj15 x3_1 true _ A24.out).mono ?_);rintro e w' ⟨rfl,⟨nd,rfl⟩⟩;(try first | exact ⟨rfl,_,World.drewN_drewN _ _ _⟩ | exact ⟨rfl,_,Eq.trans (World.drewN_drewN _ _ _) (congrArg (World.drewN _) (Nat.add_assoc _ _ _))⟩)))
               repeat (go_quiet (first | (go_at_call 98;(with_reducible refine (attribute_IsName.calls kj15 a0_3 true _ A21.out).mono ?_);rintro e w' ⟨rfl,⟨nd,rfl⟩⟩;(try first | exact ⟨rfl,_,World.drewN_drewN _ _ _⟩ | exact ⟨rfl,_,Eq.trans (World.drewN_drewN _ _ _) (congrArg (World.drewN _) (Nat.add_assoc _ _ _))⟩)) | (go_at_call 98;(with_reducible refine (attribute_IsName.calls kj15 x3_1 true _ A24.out).mono ?_);rintro e w' ⟨rfl,⟨nd,rfl⟩⟩;(try first | exact ⟨rfl,_,World.drewN_drewN _ _ _⟩ | exact ⟨rfl,_,Eq.trans (World.drewN_drewN _ _ _) (congrArg (World.drewN _) (Nat.add_assoc _ _ _))⟩)));try go_wp2_with (first | (go_at_call 98;(with_reducible refine (attribute_IsName.calls kj15 a0_3 true _ A21.out).mono ?_);rintro e w' ⟨rfl,⟨nd,rfl⟩⟩;(try first | exact ⟨rfl,_,World.drewN_drewN _ _ _⟩ | exact ⟨rfl,_,Eq.trans (World.drewN_drewN _ _ _) (congrArg (World.drewN _) (Nat.add_assoc _ _ _))⟩)) | (go_at_call 98;(with_reducible refine (attribute_IsName.calls kj15 x3_1 true _ A24.out).mono ?_);rintro e w' ⟨rfl,⟨nd,rfl⟩⟩;(try first | exact ⟨rfl,_,World.drewN_drewN _ _ _⟩ | exact ⟨rfl,_,Eq.trans (World.drewN_drewN _ _ _) (congrArg (World.drewN _) (Nat.add_assoc _ _ _))⟩))))
               go_ret
               exact ⟨by first | rfl | (simp [errW_none,errW_some] <;> rfl) | (simp [*,errW_none,errW_some] <;> rfl),by repeat (first | (with_reducible first | exact HB.out | apply below_alloc | apply pw_below_drewN | apply below_drew1 | refine below_set ?_ GE121.out) | exact HB.out)⟩
              ·replace c25:=Bool.eq_false_iff.mpr c25
               subst c25
               have H1:(some 11) = some r:=by rw [if_neg (show ¬ (false = true) by decide)] at H;exact H
               clear H
               have H:=H1
               clear H1
               obtain rfl:=Option.some.inj H
               have hcz27_0:wc.cell? ⟨gb121,0,none⟩ = some (.int .i64 a0_0):=(blk_cell BK121.out 0).trans rfl
               have hcz27_1:wc.cell? ⟨gb121,1,none⟩ = some (.int .i64 a0_1):=(blk_cell BK121.out 1).trans rfl
               have hcz27_2:wc.cell? ⟨gb121,2,none⟩ = some (.int .i64 a0_2):=(blk_cell BK121.out 2).trans rfl
               have hcz27_3:wc.cell? ⟨gb121,3,none⟩ = some (.string a0_3):=(blk_cell BK121.out 3).trans rfl
               have hcz27_4:wc.cell? ⟨gb121,4,none⟩ = some (.string a0_4):=(blk_cell BK121.out 4).trans rfl
               have hcz27_5:wc.cell? ⟨gb121,5,none⟩ = some (.string a0_5):=(blk_cell BK121.out 5).trans rfl
               have hfz27_0:=blk_frozen BK121.out 0
               have hfz27_1:=blk_frozen BK121.out 1
               have hfz27_2:=blk_frozen BK121.out 2
               have hfz27_3:=blk_frozen BK121.out 3
               have hfz27_4:=blk_frozen BK121.out 4
               have hfz27_5:=blk_frozen BK121.out 5
               go_wp2_with (first | (go_at_call 98;(with_reducible refine (attribute_IsName.calls kj15 a0_3 true _ A21.out).mono ?_);rintro e w' ⟨rfl,⟨nd,rfl⟩⟩;(try first | exact ⟨rfl,_,World.drewN_drewN _ _ _⟩ | exact ⟨rfl,_,Eq.trans (World.drewN_drewN _ _ _) (congrArg (World.drewN _) (Nat.add_assoc _ _ _))⟩)) | (go_at_call 98;(with_reducible refine (attribute_IsName.calls kj15 x3_1 false _ A24.out).mono ?_);rintro e w' ⟨rfl,⟨nd,rfl⟩⟩;(try first | exact ⟨rfl,_,World.drewN_drewN _ _ _⟩ | exact ⟨rfl,_,Eq.trans (World.drewN_drewN _ _ _) (congrArg (World.drewN _) (Nat.add_assoc _ _ _))⟩)))
               repeat (go_quiet (first | (go_at_call 98;(with_reducible refine (attribute_IsName.calls kj15 a0_3 true _ A21.out).mono ?_);rintro e w' ⟨rfl,⟨nd,rfl⟩⟩;(try first | exact ⟨rfl,_,World.drewN_drewN _ _ _⟩ | exact ⟨rfl,_,Eq.trans (World.drewN_drewN _ _ _) (congrArg (World.drewN _) (Nat.add_assoc _ _ _))⟩)) | (go_at_call 98;(with_reducible refine (attribute_IsName.calls kj15 x3_1 false _ A24.out).mono ?_);rintro e w' ⟨rfl,⟨nd,rfl⟩⟩;(try first | exact ⟨rfl,_,World.drewN_drewN _ _ _⟩ | exact ⟨rfl,_,Eq.trans (World.drewN_drewN _ _ _) (congrArg (World.drewN _) (Nat.add_assoc _ _ _))⟩)));try go_wp2_with (first | (go_at_call 98;(with_reducible refine (attribute_IsName.calls kj15 a0_3 true _ A21.out).mono ?_);rintro e w' ⟨rfl,⟨nd,rfl⟩⟩;(try first | exact ⟨rfl,_,World.drewN_drewN _ _ _⟩ | exact ⟨rfl,_,Eq.trans (World.drewN_drewN _ _ _) (congrArg (World.drewN _) (Nat.add_assoc _ _ _))⟩)) | (go_at_call 98;(with_reducible refine (attribute_IsName.calls kj15 x3_1 false _ A24.out).mono ?_);rintro e w' ⟨rfl,⟨nd,rfl⟩⟩;(try first | exact ⟨rfl,_,World.drewN_drewN _ _ _⟩ | exact ⟨rfl,_,Eq.trans (World.drewN_drewN _ _ _) (congrArg (World.drewN _) (Nat.add_assoc _ _ _))⟩))))
               go_ret
               exact ⟨by first | rfl | (simp [errW_none,errW_some] <;> rfl) | (simp [*,errW_none,errW_some] <;> rfl),by repeat (first | (with_reducible first | exact HB.out | apply below_alloc | apply pw_below_drewN | apply below_drew1 | refine below_set ?_ GE121.out) | exact HB.out)⟩
             ·rw [if_neg c23] at H
              have c23b0:(x4_1.toList == ([]:List UInt8)) = false:=beq_eq_false_iff_ne.mpr c23
              have c23b1:(x4_1.toList != ([]:List UInt8)) = true:=bne_iff_ne.mpr c23
              obtain rfl:=Option.some.inj H
              have hcz28_0:wc.cell? ⟨gb121,0,none⟩ = some (.int .i64 a0_0):=(blk_cell BK121.out 0).trans rfl
              have hcz28_1:wc.cell? ⟨gb121,1,none⟩ = some (.int .i64 a0_1):=(blk_cell BK121.out 1).trans rfl
              have hcz28_2:wc.cell? ⟨gb121,2,none⟩ = some (.int .i64 a0_2):=(blk_cell BK121.out 2).trans rfl
              have hcz28_3:wc.cell? ⟨gb121,3,none⟩ = some (.string a0_3):=(blk_cell BK121.out 3).trans rfl
              have hcz28_4:wc.cell? ⟨gb121,4,none⟩ = some (.string a0_4):=(blk_cell BK121.out 4).trans rfl
              have hcz28_5:wc.cell? ⟨gb121,5,none⟩ = some (.string a0_5):=(blk_cell BK121.out 5).trans rfl
              have hfz28_0:=blk_frozen BK121.out 0
              have hfz28_1:=blk_frozen BK121.out 1
              have hfz28_2:=blk_frozen BK121.out 2
              have hfz28_3:=blk_frozen BK121.out 3
              have hfz28_4:=blk_frozen BK121.out 4
              have hfz28_5:=blk_frozen BK121.out 5
              go_wp2_with (first | (go_at_call 98;(with_reducible refine (attribute_IsName.calls kj15 a0_3 true _ A21.out).mono ?_);rintro e w' ⟨rfl,⟨nd,rfl⟩⟩;(try first | exact ⟨rfl,_,World.drewN_drewN _ _ _⟩ | exact ⟨rfl,_,Eq.trans (World.drewN_drewN _ _ _) (congrArg (World.drewN _) (Nat.add_assoc _ _ _))⟩)))
              repeat (go_quiet (first | (go_at_call 98;(with_reducible refine (attribute_IsName.calls kj15 a0_3 true _ A21.out).mono ?_);rintro e w' ⟨rfl,⟨nd,rfl⟩⟩;(try first | exact ⟨rfl,_,World.drewN_drewN _ _ _⟩ | exact ⟨rfl,_,Eq.trans (World.drewN_drewN _ _ _) (congrArg (World.drewN _) (Nat.add_assoc _ _ _))⟩)));try go_wp2_with (first | (go_at_call 98;(with_reducible refine (attribute_IsName.calls kj15 a0_3 true _ A21.out).mono ?_);rintro e w' ⟨rfl,⟨nd,rfl⟩⟩;(try first | exact ⟨rfl,_,World.drewN_drewN _ _ _⟩ | exact ⟨rfl,_,Eq.trans (World.drewN_drewN _ _ _) (congrArg (World.drewN _) (Nat.add_assoc _ _ _))⟩))))
              go_ret
              exact ⟨by first | rfl | (simp [errW_none,errW_some] <;> rfl) | (simp [*,errW_none,errW_some] <;> rfl),by repeat (first | (with_reducible first | exact HB.out | apply below_alloc | apply pw_below_drewN | apply below_drew1 | refine below_set ?_ GE121.out) | exact HB.out)⟩
            ·replace c22:=Bool.eq_false_iff.mpr c22
             subst c22
             have H1:(some 11) = some r:=by rw [if_neg (show ¬ (false = true) by decide)] at H;exact H
             clear H
             have H:=H1
             clear H1
             obtain rfl:=Option.some.inj H
             have hcz29_0:wc.cell? ⟨gb121,0,none⟩ = some (.int .i64 a0_0):=(blk_cell BK121.out 0).trans rfl
             have hcz29_1:wc.cell? ⟨gb121,1,none⟩ = some (.int .i64 a0_1):=(blk_cell BK121.out 1).trans rfl
             have hcz29_2:wc.cell? ⟨gb121,2,none⟩ = some (.int .i64 a0_2):=(blk_cell BK121.out 2).trans rfl
             have hcz29_3:wc.cell? ⟨gb121,3,none⟩ = some (.string a0_3):=(blk_cell BK121.out 3).trans rfl
             have hcz29_4:wc.cell? ⟨gb121,4,none⟩ = some (.string a0_4):=(blk_cell BK121.out 4).trans rfl
             have hcz29_5:wc.cell? ⟨gb121,5,none⟩ = some (.string a0_5):=(blk_cell BK121.out 5).trans rfl
             have hfz29_0:=blk_frozen BK121.out 0
             have hfz29_1:=blk_frozen BK121.out 1
             have hfz29_2:=blk_frozen BK121.out 2
             have hfz29_3:=blk_frozen BK121.out 3
             have hfz29_4:=blk_frozen BK121.out 4
             have hfz29_5:=blk_frozen BK121.out 5
             go_wp2_with (first | (go_at_call 98;(with_reducible refine (attribute_IsName.calls kj15 a0_3 false _ A21.out).mono ?_);rintro e w' ⟨rfl,⟨nd,rfl⟩⟩;(try first | exact ⟨rfl,_,World.drewN_drewN _ _ _⟩ | exact ⟨rfl,_,Eq.trans (World.drewN_drewN _ _ _) (congrArg (World.drewN _) (Nat.add_assoc _ _ _))⟩)))
             repeat (go_quiet (first | (go_at_call 98;(with_reducible refine (attribute_IsName.calls kj15 a0_3 false _ A21.out).mono ?_);rintro e w' ⟨rfl,⟨nd,rfl⟩⟩;(try first | exact ⟨rfl,_,World.drewN_drewN _ _ _⟩ | exact ⟨rfl,_,Eq.trans (World.drewN_drewN _ _ _) (congrArg (World.drewN _) (Nat.add_assoc _ _ _))⟩)));try go_wp2_with (first | (go_at_call 98;(with_reducible refine (attribute_IsName.calls kj15 a0_3 false _ A21.out).mono ?_);rintro e w' ⟨rfl,⟨nd,rfl⟩⟩;(try first | exact ⟨rfl,_,World.drewN_drewN _ _ _⟩ | exact ⟨rfl,_,Eq.trans (World.drewN_drewN _ _ _) (congrArg (World.drewN _) (Nat.add_assoc _ _ _))⟩))))
             go_ret
             exact ⟨by first | rfl | (simp [errW_none,errW_some] <;> rfl) | (simp [*,errW_none,errW_some] <;> rfl),by repeat (first | (with_reducible first | exact HB.out | apply below_alloc | apply pw_below_drewN | apply below_drew1 | refine below_set ?_ GE121.out) | exact HB.out)⟩
def cmp_Or_int.l0:Nat→Int→List Int→Int→Int→Option (Int)
 | 0,_,_,_,_=>none
 | k + 1,x3,x6,x7,x8=>if x8 < x7 then (if 0 ≤ x8 then (if x8 < (x6.length:Int) then (if (rd x6 x8) = x3 then (cmp_Or_int.l0 k x3 x6 x7 (wrap64 (x8 + 1))) else (some (rd x6 x8))) else (none)) else (none)) else (some x3)
def cmp_Or_int.f (k:Nat) (l0:List Int):Option (Int):=cmp_Or_int.l0 k 0 l0 (l0.length:Int) 0
set_option maxHeartbeats 8000000 in
set_option maxRecDepth 100000 in
theorem cmp_Or_int.calls (k:Nat) (A0:Option Addr) (c0:Nat) (l0:List Int) (r:Int) (w:World) (hr0:Kd.C (Kd.int .i64) w A0 l0.length l0) (hc0:l0.length ≤ c0) (h:cmp_Or_int.f k l0 = some r):
  Calls Tryz.prog 21 #[.slice A0 l0.length c0] w fun e w'=>e = .returned (.int .i64 r)∧Drawn0 w w':=by
 have HR0:=Aside0.mk hr0
 have HC0:=Aside0.mk hc0
 clear hr0 hc0
 have H:(cmp_Or_int.l0 k 0 l0 (l0.length:Int) 0) = some r:=h
 clear h
 have H':=Aside0.mk H
 clear H
 go_enter Tryz.func21,Tryz.ntmps21
 go_wp2
 go_loopg [8] k (fun kq v8 w'=>∃ (x8_1:Int),v8 = .int .i64 x8_1∧Aside0 (cmp_Or_int.l0 kq 0 l0 (l0.length:Int) x8_1 = some r)∧Aside0 (kq ≤ k)∧Drawn0 w w')
 case atStart=>exact ⟨(0),(by first | rfl | (simp;done) | (simp [*];done)),H',⟨Nat.le_refl _⟩,by repeat (first | exact Drawn0.refl _ | apply Drawn0.step)⟩
 case round=>
  clear H'
  obtain ⟨x8_1,rfl,HA,HK1,⟨m1,rfl⟩⟩:=hrel
  cases gk with
  | zero=>exact absurd HA.out (by simp [cmp_Or_int.l0])
  | succ k1=>
   have H:=HA.out
   clear HA
   simp only [cmp_Or_int.l0] at H
   by_cases c2:x8_1 < (l0.length:Int)
   ·rw [if_pos c2] at H
    have c2b0:decide (x8_1 < (l0.length:Int)) = true:=decide_eq_true c2
    clear c2
    by_cases c3:0 ≤ x8_1
    ·rw [if_pos c3] at H
     have c3b0:decide (0 ≤ x8_1) = true:=decide_eq_true c3
     clear c3
     by_cases c4:x8_1 < (l0.length:Int)
     ·rw [if_pos c4] at H
      have c4b0:decide (x8_1 < (l0.length:Int)) = true:=decide_eq_true c4
      clear c4
      by_cases c5:(rd l0 x8_1) = 0
      ·rw [if_pos c5] at H
       have c5b0:((rd l0 x8_1) == 0) = true:=beq_iff_eq.mpr c5
       have c5b1:((rd l0 x8_1) != 0) = false:=bne_eq_false_iff_eq.mpr c5
       clear c5
       have H':=Aside0.mk H
       clear H
       have p124:0 ≤ (x8_1:Int):=of_decide_eq_true (by first | (with_reducible assumption) | assumption)
       have q124:x8_1 < (l0.length:Int):=of_decide_eq_true (by first | (with_reducible assumption) | assumption)
       obtain ⟨ad124,e124,hx124_0⟩:=Kd.at_int HR0.out x8_1 p124 q124
       cases e124
       replace p124:=eq_true p124
       replace q124:=eq_true q124
       go_wp2
       go_roundg k1
       case measure=>have:=HK1.out;omega
       case rel=>exact ⟨(wrap64 (x8_1 + 1)),(by first | rfl | (simp;done) | (simp [*];done)),H',⟨by have:=HK1.out;omega⟩,by repeat (first | exact Drawn0.refl _ | apply Drawn0.step)⟩
      ·rw [if_neg c5] at H
       have c5b0:((rd l0 x8_1) == 0) = false:=beq_eq_false_iff_ne.mpr c5
       have c5b1:((rd l0 x8_1) != 0) = true:=bne_iff_ne.mpr c5
       obtain rfl:=Option.some.inj H
       have p124:0 ≤ (x8_1:Int):=of_decide_eq_true (by first | (with_reducible assumption) | assumption)
       have q124:x8_1 < (l0.length:Int):=of_decide_eq_true (by first | (with_reducible assumption) | assumption)
       obtain ⟨ad124,e124,hx124_0⟩:=Kd.at_int HR0.out x8_1 p124 q124
       cases e124
       replace p124:=eq_true p124
       replace q124:=eq_true q124
       go_wp2
       go_ret
       exact ⟨by first | rfl | (simp;done) | (simp [*];done),by repeat (first | exact Drawn0.refl _ | apply Drawn0.step)⟩
     ·rw [if_neg c4] at H
      exact absurd H (by simp)
    ·rw [if_neg c3] at H
     exact absurd H (by simp)
   ·rw [if_neg c2] at H
    have c2b0:decide (x8_1 < (l0.length:Int)) = false:=decide_eq_false c2
    clear c2
    obtain rfl:=Option.some.inj H
    go_wp2
    go_ret
    exact ⟨by first | rfl | (simp;done) | (simp [*];done),by repeat (first | exact Drawn0.refl _ | apply Drawn0.step)⟩
def cmp_isNaN_int.f (a0:Int):Option (Bool):=some (a0 != a0)
set_option maxHeartbeats 8000000 in
set_option maxRecDepth 100000 in
theorem cmp_isNaN_int.calls (a0:Int) (r:Bool) (w:World) (h:cmp_isNaN_int.f a0 = some r):
  Calls Tryz.prog 38 #[.int .i64 a0] w fun e w'=>e = .returned (.bool r)∧Drawn0 w w':=by
 have H:(some (a0 != a0)) = some r:=h
 clear h
 obtain rfl:=Option.some.inj H
 go_enter Tryz.func38,Tryz.ntmps38
 go_wp2
 go_ret
 exact ⟨by first | rfl | (simp;done) | (simp [*];done),by repeat (first | exact Drawn0.refl _ | apply Drawn0.step)⟩
end Go.Proofs.YtdadnapfecmmdaaGreat.P
