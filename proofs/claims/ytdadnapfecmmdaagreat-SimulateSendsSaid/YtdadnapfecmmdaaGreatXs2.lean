/- Own texts of a proof about layer 55's simulate (merged): P0, Pu, Hc, Cw, Cx, Ha, Cs. -/
import Derived.Test.YtdadnapfecmmdaaGreatProg
import Derived.Test.YtdadnapfecmmdaaGreatXs0
import Derived.Test.YtdadnapfecmmdaaGreatXs1
import Derived.Below
import Derived.Deep.Draws
import Derived.Deep.AppendLies
import Derived.Maps.AppendAt
import Derived.OwnWalk
import Derived.Laws.BytesArg
import Derived.Laws.MakeOwn
import Derived.Laws.OwnMore
import Derived.Deep.OwnRows
import Derived.Tactics
import Derived.Lib.ConvBytes
import Derived.Laws.Slices
import Derived.WalkKit
import Derived.KernelRfl
import Derived.RowKit3
import Derived.Deep.LoopGhost
import Derived.Deep.QuietTactic
import Derived.BigQuiet
import Derived.WideLaws
import Derived.Deep.DeepCutAuto
import Derived.Deep.CutBlock
import Derived.Deep.RegionHeld3
import Derived.Laws.Rows
import Derived.Lib.AppendStr
import Derived.ArgAppend
import Derived.Laws.IdiomCopy
import Derived.OrdersHeld
import Derived.Laws.BitsLemmas
import Derived.RowKit
import Derived.WalkLawsBesides
import Derived.StillTailTactics
namespace Go.Proofs.YtdadnapfecmmdaaGreat.P
open Go.RowKit Go.Proofs.YtdadnapfecmmdaaGreatW.PrintWords Go.Proofs.YtdadnapfecmmdaaGreatW.PrintLast Go.Proofs.YtdadnapfecmmdaaGreatW.PrintMore
attribute [local go_sem] max2_int min2_int max_two min_two max_three min_three max_four min_four   -- for this text's walks alone
set_option linter.unusedVariables false
set_option linter.unusedSimpArgs false
def errW:Option Int→Value
 | none=>.nilIface
 | some c=>.iface 0 (.int .i64 c)
theorem errW_none:errW none = .nilIface:=rfl
theorem errW_some (c:Int):errW (some c) = .iface 0 (.int .i64 c):=rfl
theorem info3:(Tryz.prog.info? 3).map (fun i=>(i.zero,i.size,i.bytes)) = some (some (.int .i64 0),1,8):=by kernel_rfl
theorem info9:(Tryz.prog.info? 9).map (fun i=>(i.zero,i.size,i.bytes)) = some (some (.string ⟨#[]⟩),1,16):=by kernel_rfl
theorem info51:(Tryz.prog.info? 51).map (fun i=>(i.zero,i.size,i.bytes)) = some (some (.agg #[(.string ⟨#[]⟩),(.int .i64 0),(.int .i64 0),(.int .i64 0),(.int .i64 0),(.slice none 0 0)]),6,72):=by kernel_rfl
theorem info54:(Tryz.prog.info? 54).map (fun i=>(i.zero,i.size,i.bytes)) = some (some (.agg #[(.int .i64 0),(.int .i64 0)]),2,16):=by kernel_rfl
theorem info56:(Tryz.prog.info? 56).map (fun i=>(i.zero,i.size,i.bytes)) = some (some (.agg #[(.int .u8 0),(.int .u8 0),(.int .u8 0),(.int .u8 0),(.int .u8 0)]),5,5):=by kernel_rfl
theorem info61:(Tryz.prog.info? 61).map (fun i=>(i.zero,i.size,i.bytes)) = some (some (.agg #[(.string ⟨#[]⟩),(.string ⟨#[]⟩),(.int .i64 0),(.int .i64 0),(.int .i64 0),(.int .i64 0)]),6,64):=by kernel_rfl
theorem info70:(Tryz.prog.info? 70).map (fun i=>(i.zero,i.size,i.bytes)) = some (some (.agg #[(.int .i64 0),(.int .i64 0),(.slice none 0 0)]),3,40):=by kernel_rfl
theorem info74:(Tryz.prog.info? 74).map (fun i=>(i.zero,i.size,i.bytes)) = some (some (.agg #[(.int .i64 0),(.int .i64 0),(.int .i64 0),(.int .i64 0),(.int .i64 0),(.int .i64 0),(.string ⟨#[]⟩),(.string ⟨#[]⟩),(.string ⟨#[]⟩),(.int .i64 0),(.int .i64 0),(.bool false),(.slice none 0 0),(.slice none 0 0)]),14,168):=by kernel_rfl
theorem info98:(Tryz.prog.info? 98).map (fun i=>(i.zero,i.size,i.bytes)) = some (some (.agg #[(.int .i64 0),(.int .i64 0),(.int .i64 0),(.string ⟨#[]⟩),(.string ⟨#[]⟩),(.string ⟨#[]⟩)]),6,72):=by kernel_rfl
structure S51 where
 f0:ByteArray
 f1:Int
 f2:Int
 f3:Int
 f4:Int
 f5:(List ByteArray)
def z51:S51:=⟨(⟨#[]⟩:ByteArray),(0:Int),(0:Int),(0:Int),(0:Int),([]:List ByteArray)⟩
def k51:Kd S51:=Kd.iso (Kd.pair Kd.string (Kd.pair (Kd.int .i64) (Kd.pair (Kd.int .i64) (Kd.pair (Kd.int .i64) (Kd.pair (Kd.int .i64) (Kd.slice 9 Kd.string)))))) (fun x:S51=>(x.f0,x.f1,x.f2,x.f3,x.f4,x.f5))
theorem k51_open {w:World} {x:S51} {cs:List Value} (h:k51.K w x cs):∃ A5 c5,cs = [.string x.f0,.int .i64 x.f1,.int .i64 x.f2,.int .i64 x.f3,.int .i64 x.f4,.slice A5 x.f5.length c5]∧x.f5.length ≤ c5∧Kd.string.C w A5 x.f5.length x.f5:=by
 obtain ⟨_,_,rfl,rfl,⟨_,_,rfl,rfl,⟨_,_,rfl,rfl,⟨_,_,rfl,rfl,⟨_,_,rfl,rfl,⟨A5,c5,rfl,l5,g5⟩⟩⟩⟩⟩⟩:=h
 exact ⟨A5,c5,rfl,l5,g5⟩
theorem k51_mk (w:World) (x:S51) {A5:Option Addr} {c5:Nat} (l5:x.f5.length ≤ c5) (g5:Kd.string.C w A5 x.f5.length x.f5):k51.K w x [.string x.f0,.int .i64 x.f1,.int .i64 x.f2,.int .i64 x.f3,.int .i64 x.f4,.slice A5 x.f5.length c5]:=⟨[.string x.f0],[.int .i64 x.f1,.int .i64 x.f2,.int .i64 x.f3,.int .i64 x.f4,.slice A5 x.f5.length c5],rfl,rfl,⟨[.int .i64 x.f1],[.int .i64 x.f2,.int .i64 x.f3,.int .i64 x.f4,.slice A5 x.f5.length c5],rfl,rfl,⟨[.int .i64 x.f2],[.int .i64 x.f3,.int .i64 x.f4,.slice A5 x.f5.length c5],rfl,rfl,⟨[.int .i64 x.f3],[.int .i64 x.f4,.slice A5 x.f5.length c5],rfl,rfl,⟨[.int .i64 x.f4],[.slice A5 x.f5.length c5],rfl,rfl,⟨A5,c5,rfl,l5,g5⟩⟩⟩⟩⟩⟩
theorem k51_mkM (w:World) (base:Nat) (ok:Nat→Prop) (x:S51) {v5:Value} (g5:Kd.string.R 9 w base ok v5 x.f5):k51.M w base ok x [.string x.f0,.int .i64 x.f1,.int .i64 x.f2,.int .i64 x.f3,.int .i64 x.f4,v5]:=⟨[.string x.f0],[.int .i64 x.f1,.int .i64 x.f2,.int .i64 x.f3,.int .i64 x.f4,v5],rfl,rfl,⟨[.int .i64 x.f1],[.int .i64 x.f2,.int .i64 x.f3,.int .i64 x.f4,v5],rfl,rfl,⟨[.int .i64 x.f2],[.int .i64 x.f3,.int .i64 x.f4,v5],rfl,rfl,⟨[.int .i64 x.f3],[.int .i64 x.f4,v5],rfl,rfl,⟨[.int .i64 x.f4],[v5],rfl,rfl,⟨v5,rfl,g5⟩⟩⟩⟩⟩⟩
theorem k51_mkF (W:World) (ok:Nat→Prop) (x:S51) {A5:Option Addr} {c5:Nat} (l5:x.f5.length ≤ c5) (g5:Kd.F Kd.string W ok A5 x.f5.length x.f5):Kd.FK k51 W ok x [.string x.f0,.int .i64 x.f1,.int .i64 x.f2,.int .i64 x.f3,.int .i64 x.f4,.slice A5 x.f5.length c5]:=fun W2 hW=>k51_mk W2 x l5 (g5 W2 hW)
def rd_T51 (xs:List S51) (i:Int):S51:=xs.getD i.toNat z51
theorem at_T51 {w:World} {A:Option Addr} {n:Nat} {xs:List S51} (h:Kd.C k51 w A n xs) (i:Int) (h0:0 ≤ i) (h1:i < n):∃ ad A5 c5,A = some ad∧w.cell? (ad.add (i.toNat * 6)) = some (.string (rd_T51 xs i).f0)∧w.cell? ⟨(ad.add (i.toNat * 6)).block,(ad.add (i.toNat * 6)).off + 1,none⟩ = some (.int .i64 (rd_T51 xs i).f1)∧w.cell? ⟨(ad.add (i.toNat * 6)).block,(ad.add (i.toNat * 6)).off + 2,none⟩ = some (.int .i64 (rd_T51 xs i).f2)∧w.cell? ⟨(ad.add (i.toNat * 6)).block,(ad.add (i.toNat * 6)).off + 3,none⟩ = some (.int .i64 (rd_T51 xs i).f3)∧w.cell? ⟨(ad.add (i.toNat * 6)).block,(ad.add (i.toNat * 6)).off + 4,none⟩ = some (.int .i64 (rd_T51 xs i).f4)∧w.cell? ⟨(ad.add (i.toNat * 6)).block,(ad.add (i.toNat * 6)).off + 5,none⟩ = some (.slice A5 (rd_T51 xs i).f5.length c5)∧(rd_T51 xs i).f5.length ≤ c5∧Kd.string.C w A5 (rd_T51 xs i).f5.length (rd_T51 xs i).f5:=by
 obtain ⟨ad,c,e,_,hK,hc0⟩:=Kd.C_get h z51 i h0 h1
 have hc:∀ j u,c[j]? = some u→w.cell? (ad.add (i.toNat * 6 + j)) = some u:=hc0
 obtain ⟨A5,c5,rfl,l5,g5⟩:=k51_open hK
 exact ⟨ad,A5,c5,e,hc 0 _ rfl,by rw [← add_field _ _ 1 (by omega)];exact hc 1 _ rfl,by rw [← add_field _ _ 2 (by omega)];exact hc 2 _ rfl,by rw [← add_field _ _ 3 (by omega)];exact hc 3 _ rfl,by rw [← add_field _ _ 4 (by omega)];exact hc 4 _ rfl,by rw [← add_field _ _ 5 (by omega)];exact hc 5 _ rfl,l5,g5⟩
structure S54 where
 f0:Int
 f1:Int
def z54:S54:=⟨(0:Int),(0:Int)⟩
def k54:Kd S54:=Kd.iso (Kd.pair (Kd.int .i64) (Kd.int .i64)) (fun x:S54=>(x.f0,x.f1))
theorem k54_open {w:World} {x:S54} {cs:List Value} (h:k54.K w x cs):cs = [.int .i64 x.f0,.int .i64 x.f1]:=by
 obtain ⟨_,_,rfl,rfl,rfl⟩:=h
 exact rfl
theorem k54_mkM (w:World) (base:Nat) (ok:Nat→Prop) (x:S54)  : k54.M w base ok x [.int .i64 x.f0,.int .i64 x.f1]:=⟨[.int .i64 x.f0],[.int .i64 x.f1],rfl,rfl,rfl⟩
def rd_T54 (xs:List S54) (i:Int):S54:=xs.getD i.toNat z54
theorem at_T54 {w:World} {A:Option Addr} {n:Nat} {xs:List S54} (h:Kd.C k54 w A n xs) (i:Int) (h0:0 ≤ i) (h1:i < n):∃ ad ,A = some ad∧w.cell? (ad.add (i.toNat * 2)) = some (.int .i64 (rd_T54 xs i).f0)∧w.cell? ⟨(ad.add (i.toNat * 2)).block,(ad.add (i.toNat * 2)).off + 1,none⟩ = some (.int .i64 (rd_T54 xs i).f1):=by
 obtain ⟨ad,c,e,_,hK,hc0⟩:=Kd.C_get h z54 i h0 h1
 have hc:∀ j u,c[j]? = some u→w.cell? (ad.add (i.toNat * 2 + j)) = some u:=hc0
 obtain rfl:=k54_open hK
 exact ⟨ad,e,hc 0 _ rfl,by rw [← add_field _ _ 1 (by omega)];exact hc 1 _ rfl⟩
structure S98 where
 f0:Int
 f1:Int
 f2:Int
 f3:ByteArray
 f4:ByteArray
 f5:ByteArray
def z98:S98:=⟨(0:Int),(0:Int),(0:Int),(⟨#[]⟩:ByteArray),(⟨#[]⟩:ByteArray),(⟨#[]⟩:ByteArray)⟩
def k98:Kd S98:=Kd.iso (Kd.pair (Kd.int .i64) (Kd.pair (Kd.int .i64) (Kd.pair (Kd.int .i64) (Kd.pair Kd.string (Kd.pair Kd.string Kd.string))))) (fun x:S98=>(x.f0,x.f1,x.f2,x.f3,x.f4,x.f5))
theorem k98_open {w:World} {x:S98} {cs:List Value} (h:k98.K w x cs):cs = [.int .i64 x.f0,.int .i64 x.f1,.int .i64 x.f2,.string x.f3,.string x.f4,.string x.f5]:=by
 obtain ⟨_,_,rfl,rfl,⟨_,_,rfl,rfl,⟨_,_,rfl,rfl,⟨_,_,rfl,rfl,⟨_,_,rfl,rfl,rfl⟩⟩⟩⟩⟩:=h
 exact rfl
theorem k98_mk (w:World) (x:S98)  : k98.K w x [.int .i64 x.f0,.int .i64 x.f1,.int .i64 x.f2,.string x.f3,.string x.f4,.string x.f5]:=⟨[.int .i64 x.f0],[.int .i64 x.f1,.int .i64 x.f2,.string x.f3,.string x.f4,.string x.f5],rfl,rfl,⟨[.int .i64 x.f1],[.int .i64 x.f2,.string x.f3,.string x.f4,.string x.f5],rfl,rfl,⟨[.int .i64 x.f2],[.string x.f3,.string x.f4,.string x.f5],rfl,rfl,⟨[.string x.f3],[.string x.f4,.string x.f5],rfl,rfl,⟨[.string x.f4],[.string x.f5],rfl,rfl,rfl⟩⟩⟩⟩⟩
theorem k98_mkM (w:World) (base:Nat) (ok:Nat→Prop) (x:S98)  : k98.M w base ok x [.int .i64 x.f0,.int .i64 x.f1,.int .i64 x.f2,.string x.f3,.string x.f4,.string x.f5]:=⟨[.int .i64 x.f0],[.int .i64 x.f1,.int .i64 x.f2,.string x.f3,.string x.f4,.string x.f5],rfl,rfl,⟨[.int .i64 x.f1],[.int .i64 x.f2,.string x.f3,.string x.f4,.string x.f5],rfl,rfl,⟨[.int .i64 x.f2],[.string x.f3,.string x.f4,.string x.f5],rfl,rfl,⟨[.string x.f3],[.string x.f4,.string x.f5],rfl,rfl,⟨[.string x.f4],[.string x.f5],rfl,rfl,rfl⟩⟩⟩⟩⟩
def rd_T98 (xs:List S98) (i:Int):S98:=xs.getD i.toNat z98
theorem at_T98 {w:World} {A:Option Addr} {n:Nat} {xs:List S98} (h:Kd.C k98 w A n xs) (i:Int) (h0:0 ≤ i) (h1:i < n):∃ ad ,A = some ad∧w.cell? (ad.add (i.toNat * 6)) = some (.int .i64 (rd_T98 xs i).f0)∧w.cell? ⟨(ad.add (i.toNat * 6)).block,(ad.add (i.toNat * 6)).off + 1,none⟩ = some (.int .i64 (rd_T98 xs i).f1)∧w.cell? ⟨(ad.add (i.toNat * 6)).block,(ad.add (i.toNat * 6)).off + 2,none⟩ = some (.int .i64 (rd_T98 xs i).f2)∧w.cell? ⟨(ad.add (i.toNat * 6)).block,(ad.add (i.toNat * 6)).off + 3,none⟩ = some (.string (rd_T98 xs i).f3)∧w.cell? ⟨(ad.add (i.toNat * 6)).block,(ad.add (i.toNat * 6)).off + 4,none⟩ = some (.string (rd_T98 xs i).f4)∧w.cell? ⟨(ad.add (i.toNat * 6)).block,(ad.add (i.toNat * 6)).off + 5,none⟩ = some (.string (rd_T98 xs i).f5):=by
 obtain ⟨ad,c,e,_,hK,hc0⟩:=Kd.C_get h z98 i h0 h1
 have hc:∀ j u,c[j]? = some u→w.cell? (ad.add (i.toNat * 6 + j)) = some u:=hc0
 obtain rfl:=k98_open hK
 exact ⟨ad,e,hc 0 _ rfl,by rw [← add_field _ _ 1 (by omega)];exact hc 1 _ rfl,by rw [← add_field _ _ 2 (by omega)];exact hc 2 _ rfl,by rw [← add_field _ _ 3 (by omega)];exact hc 3 _ rfl,by rw [← add_field _ _ 4 (by omega)];exact hc 4 _ rfl,by rw [← add_field _ _ 5 (by omega)];exact hc 5 _ rfl⟩
structure S34 where
 f0:Int
 f1:Int
def z34:S34:=⟨(0:Int),(0:Int)⟩
def k34:Kd S34:=Kd.iso (Kd.pair (Kd.int .i64) (Kd.int .i64)) (fun x:S34=>(x.f0,x.f1))
theorem k34_open {w:World} {x:S34} {cs:List Value} (h:k34.K w x cs):cs = [.int .i64 x.f0,.int .i64 x.f1]:=by
 obtain ⟨_,_,rfl,rfl,rfl⟩:=h
 exact rfl
theorem k34_mkM (w:World) (base:Nat) (ok:Nat→Prop) (x:S34)  : k34.M w base ok x [.int .i64 x.f0,.int .i64 x.f1]:=⟨[.int .i64 x.f0],[.int .i64 x.f1],rfl,rfl,rfl⟩
structure S61 where
 f0:ByteArray
 f1:ByteArray
 f2:S34
 f3:Int
 f4:Int
def z61:S61:=⟨(⟨#[]⟩:ByteArray),(⟨#[]⟩:ByteArray),z34,(0:Int),(0:Int)⟩
def k61:Kd S61:=Kd.iso (Kd.pair Kd.string (Kd.pair Kd.string (Kd.pair k34 (Kd.pair (Kd.int .i64) (Kd.int .i64))))) (fun x:S61=>(x.f0,x.f1,x.f2,x.f3,x.f4))
theorem k61_open {w:World} {x:S61} {cs:List Value} (h:k61.K w x cs):cs = [.string x.f0,.string x.f1,.int .i64 x.f2.f0,.int .i64 x.f2.f1,.int .i64 x.f3,.int .i64 x.f4]:=by
 obtain ⟨_,_,rfl,rfl,⟨_,_,rfl,rfl,⟨_,_,rfl,s2,⟨_,_,rfl,rfl,rfl⟩⟩⟩⟩:=h
 obtain rfl:=k34_open s2
 exact rfl
theorem k61_mkM (w:World) (base:Nat) (ok:Nat→Prop) (x:S61)  : k61.M w base ok x [.string x.f0,.string x.f1,.int .i64 x.f2.f0,.int .i64 x.f2.f1,.int .i64 x.f3,.int .i64 x.f4]:=⟨[.string x.f0],[.string x.f1,.int .i64 x.f2.f0,.int .i64 x.f2.f1,.int .i64 x.f3,.int .i64 x.f4],rfl,rfl,⟨[.string x.f1],[.int .i64 x.f2.f0,.int .i64 x.f2.f1,.int .i64 x.f3,.int .i64 x.f4],rfl,rfl,⟨[.int .i64 x.f2.f0,.int .i64 x.f2.f1],[.int .i64 x.f3,.int .i64 x.f4],rfl,(k34_mkM w base ok x.f2 ),⟨[.int .i64 x.f3],[.int .i64 x.f4],rfl,rfl,rfl⟩⟩⟩⟩
def rd_T61 (xs:List S61) (i:Int):S61:=xs.getD i.toNat z61
theorem at_T61 {w:World} {A:Option Addr} {n:Nat} {xs:List S61} (h:Kd.C k61 w A n xs) (i:Int) (h0:0 ≤ i) (h1:i < n):∃ ad ,A = some ad∧w.cell? (ad.add (i.toNat * 6)) = some (.string (rd_T61 xs i).f0)∧w.cell? ⟨(ad.add (i.toNat * 6)).block,(ad.add (i.toNat * 6)).off + 1,none⟩ = some (.string (rd_T61 xs i).f1)∧w.cell? ⟨(ad.add (i.toNat * 6)).block,(ad.add (i.toNat * 6)).off + 2,none⟩ = some (.int .i64 (rd_T61 xs i).f2.f0)∧w.cell? ⟨(ad.add (i.toNat * 6)).block,(ad.add (i.toNat * 6)).off + 3,none⟩ = some (.int .i64 (rd_T61 xs i).f2.f1)∧w.cell? ⟨(ad.add (i.toNat * 6)).block,(ad.add (i.toNat * 6)).off + 4,none⟩ = some (.int .i64 (rd_T61 xs i).f3)∧w.cell? ⟨(ad.add (i.toNat * 6)).block,(ad.add (i.toNat * 6)).off + 5,none⟩ = some (.int .i64 (rd_T61 xs i).f4):=by
 obtain ⟨ad,c,e,_,hK,hc0⟩:=Kd.C_get h z61 i h0 h1
 have hc:∀ j u,c[j]? = some u→w.cell? (ad.add (i.toNat * 6 + j)) = some u:=hc0
 obtain rfl:=k61_open hK
 exact ⟨ad,e,hc 0 _ rfl,by rw [← add_field _ _ 1 (by omega)];exact hc 1 _ rfl,by rw [← add_field _ _ 2 (by omega)];exact hc 2 _ rfl,by rw [← add_field _ _ 3 (by omega)];exact hc 3 _ rfl,by rw [← add_field _ _ 4 (by omega)];exact hc 4 _ rfl,by rw [← add_field _ _ 5 (by omega)];exact hc 5 _ rfl⟩
structure S56 where
 f0:Int
 f1:Int
 f2:Int
 f3:Int
 f4:Int
def z56:S56:=⟨(0:Int),(0:Int),(0:Int),(0:Int),(0:Int)⟩
def k56:Kd S56:=Kd.iso (Kd.pair (Kd.int .u8) (Kd.pair (Kd.int .u8) (Kd.pair (Kd.int .u8) (Kd.pair (Kd.int .u8) (Kd.int .u8))))) (fun x:S56=>(x.f0,x.f1,x.f2,x.f3,x.f4))
theorem k56_open {w:World} {x:S56} {cs:List Value} (h:k56.K w x cs):cs = [.int .u8 x.f0,.int .u8 x.f1,.int .u8 x.f2,.int .u8 x.f3,.int .u8 x.f4]:=by
 obtain ⟨_,_,rfl,rfl,⟨_,_,rfl,rfl,⟨_,_,rfl,rfl,⟨_,_,rfl,rfl,rfl⟩⟩⟩⟩:=h
 exact rfl
theorem k56_mk (w:World) (x:S56)  : k56.K w x [.int .u8 x.f0,.int .u8 x.f1,.int .u8 x.f2,.int .u8 x.f3,.int .u8 x.f4]:=⟨[.int .u8 x.f0],[.int .u8 x.f1,.int .u8 x.f2,.int .u8 x.f3,.int .u8 x.f4],rfl,rfl,⟨[.int .u8 x.f1],[.int .u8 x.f2,.int .u8 x.f3,.int .u8 x.f4],rfl,rfl,⟨[.int .u8 x.f2],[.int .u8 x.f3,.int .u8 x.f4],rfl,rfl,⟨[.int .u8 x.f3],[.int .u8 x.f4],rfl,rfl,rfl⟩⟩⟩⟩
theorem k56_mkM (w:World) (base:Nat) (ok:Nat→Prop) (x:S56)  : k56.M w base ok x [.int .u8 x.f0,.int .u8 x.f1,.int .u8 x.f2,.int .u8 x.f3,.int .u8 x.f4]:=⟨[.int .u8 x.f0],[.int .u8 x.f1,.int .u8 x.f2,.int .u8 x.f3,.int .u8 x.f4],rfl,rfl,⟨[.int .u8 x.f1],[.int .u8 x.f2,.int .u8 x.f3,.int .u8 x.f4],rfl,rfl,⟨[.int .u8 x.f2],[.int .u8 x.f3,.int .u8 x.f4],rfl,rfl,⟨[.int .u8 x.f3],[.int .u8 x.f4],rfl,rfl,rfl⟩⟩⟩⟩
def rd_T56 (xs:List S56) (i:Int):S56:=xs.getD i.toNat z56
theorem at_T56 {w:World} {A:Option Addr} {n:Nat} {xs:List S56} (h:Kd.C k56 w A n xs) (i:Int) (h0:0 ≤ i) (h1:i < n):∃ ad ,A = some ad∧w.cell? (ad.add (i.toNat * 5)) = some (.int .u8 (rd_T56 xs i).f0)∧w.cell? ⟨(ad.add (i.toNat * 5)).block,(ad.add (i.toNat * 5)).off + 1,none⟩ = some (.int .u8 (rd_T56 xs i).f1)∧w.cell? ⟨(ad.add (i.toNat * 5)).block,(ad.add (i.toNat * 5)).off + 2,none⟩ = some (.int .u8 (rd_T56 xs i).f2)∧w.cell? ⟨(ad.add (i.toNat * 5)).block,(ad.add (i.toNat * 5)).off + 3,none⟩ = some (.int .u8 (rd_T56 xs i).f3)∧w.cell? ⟨(ad.add (i.toNat * 5)).block,(ad.add (i.toNat * 5)).off + 4,none⟩ = some (.int .u8 (rd_T56 xs i).f4):=by
 obtain ⟨ad,c,e,_,hK,hc0⟩:=Kd.C_get h z56 i h0 h1
 have hc:∀ j u,c[j]? = some u→w.cell? (ad.add (i.toNat * 5 + j)) = some u:=hc0
 obtain rfl:=k56_open hK
 exact ⟨ad,e,hc 0 _ rfl,by rw [← add_field _ _ 1 (by omega)];exact hc 1 _ rfl,by rw [← add_field _ _ 2 (by omega)];exact hc 2 _ rfl,by rw [← add_field _ _ 3 (by omega)];exact hc 3 _ rfl,by rw [← add_field _ _ 4 (by omega)];exact hc 4 _ rfl⟩
structure S47 where
 f0:Int
 f1:Int
 f2:Int
 f3:Int
 f4:Int
def z47:S47:=⟨(0:Int),(0:Int),(0:Int),(0:Int),(0:Int)⟩
def k47:Kd S47:=Kd.iso (Kd.pair (Kd.int .u8) (Kd.pair (Kd.int .u8) (Kd.pair (Kd.int .u8) (Kd.pair (Kd.int .u8) (Kd.int .u8))))) (fun x:S47=>(x.f0,x.f1,x.f2,x.f3,x.f4))
theorem k47_open {w:World} {x:S47} {cs:List Value} (h:k47.K w x cs):cs = [.int .u8 x.f0,.int .u8 x.f1,.int .u8 x.f2,.int .u8 x.f3,.int .u8 x.f4]:=by
 obtain ⟨_,_,rfl,rfl,⟨_,_,rfl,rfl,⟨_,_,rfl,rfl,⟨_,_,rfl,rfl,rfl⟩⟩⟩⟩:=h
 exact rfl
theorem k47_mk (w:World) (x:S47)  : k47.K w x [.int .u8 x.f0,.int .u8 x.f1,.int .u8 x.f2,.int .u8 x.f3,.int .u8 x.f4]:=⟨[.int .u8 x.f0],[.int .u8 x.f1,.int .u8 x.f2,.int .u8 x.f3,.int .u8 x.f4],rfl,rfl,⟨[.int .u8 x.f1],[.int .u8 x.f2,.int .u8 x.f3,.int .u8 x.f4],rfl,rfl,⟨[.int .u8 x.f2],[.int .u8 x.f3,.int .u8 x.f4],rfl,rfl,⟨[.int .u8 x.f3],[.int .u8 x.f4],rfl,rfl,rfl⟩⟩⟩⟩
def rd_T47 (xs:List S47) (i:Int):S47:=xs.getD i.toNat z47
theorem at_T47 {w:World} {A:Option Addr} {n:Nat} {xs:List S47} (h:Kd.C k47 w A n xs) (i:Int) (h0:0 ≤ i) (h1:i < n):∃ ad ,A = some ad∧w.cell? (ad.add (i.toNat * 5)) = some (.int .u8 (rd_T47 xs i).f0)∧w.cell? ⟨(ad.add (i.toNat * 5)).block,(ad.add (i.toNat * 5)).off + 1,none⟩ = some (.int .u8 (rd_T47 xs i).f1)∧w.cell? ⟨(ad.add (i.toNat * 5)).block,(ad.add (i.toNat * 5)).off + 2,none⟩ = some (.int .u8 (rd_T47 xs i).f2)∧w.cell? ⟨(ad.add (i.toNat * 5)).block,(ad.add (i.toNat * 5)).off + 3,none⟩ = some (.int .u8 (rd_T47 xs i).f3)∧w.cell? ⟨(ad.add (i.toNat * 5)).block,(ad.add (i.toNat * 5)).off + 4,none⟩ = some (.int .u8 (rd_T47 xs i).f4):=by
 obtain ⟨ad,c,e,_,hK,hc0⟩:=Kd.C_get h z47 i h0 h1
 have hc:∀ j u,c[j]? = some u→w.cell? (ad.add (i.toNat * 5 + j)) = some u:=hc0
 obtain rfl:=k47_open hK
 exact ⟨ad,e,hc 0 _ rfl,by rw [← add_field _ _ 1 (by omega)];exact hc 1 _ rfl,by rw [← add_field _ _ 2 (by omega)];exact hc 2 _ rfl,by rw [← add_field _ _ 3 (by omega)];exact hc 3 _ rfl,by rw [← add_field _ _ 4 (by omega)];exact hc 4 _ rfl⟩
structure S59 where
 f0:Int
 f1:Int
 f2:Int
 f3:Int
 f4:Int
 f5:Int
def z59:S59:=⟨(0:Int),(0:Int),(0:Int),(0:Int),(0:Int),(0:Int)⟩
def k59:Kd S59:=Kd.iso (Kd.pair (Kd.int .u8) (Kd.pair (Kd.int .u8) (Kd.pair (Kd.int .u8) (Kd.pair (Kd.int .u8) (Kd.pair (Kd.int .u8) (Kd.int .u8)))))) (fun x:S59=>(x.f0,x.f1,x.f2,x.f3,x.f4,x.f5))
theorem k59_open {w:World} {x:S59} {cs:List Value} (h:k59.K w x cs):cs = [.int .u8 x.f0,.int .u8 x.f1,.int .u8 x.f2,.int .u8 x.f3,.int .u8 x.f4,.int .u8 x.f5]:=by
 obtain ⟨_,_,rfl,rfl,⟨_,_,rfl,rfl,⟨_,_,rfl,rfl,⟨_,_,rfl,rfl,⟨_,_,rfl,rfl,rfl⟩⟩⟩⟩⟩:=h
 exact rfl
theorem k59_mk (w:World) (x:S59)  : k59.K w x [.int .u8 x.f0,.int .u8 x.f1,.int .u8 x.f2,.int .u8 x.f3,.int .u8 x.f4,.int .u8 x.f5]:=⟨[.int .u8 x.f0],[.int .u8 x.f1,.int .u8 x.f2,.int .u8 x.f3,.int .u8 x.f4,.int .u8 x.f5],rfl,rfl,⟨[.int .u8 x.f1],[.int .u8 x.f2,.int .u8 x.f3,.int .u8 x.f4,.int .u8 x.f5],rfl,rfl,⟨[.int .u8 x.f2],[.int .u8 x.f3,.int .u8 x.f4,.int .u8 x.f5],rfl,rfl,⟨[.int .u8 x.f3],[.int .u8 x.f4,.int .u8 x.f5],rfl,rfl,⟨[.int .u8 x.f4],[.int .u8 x.f5],rfl,rfl,rfl⟩⟩⟩⟩⟩
def rd_T59 (xs:List S59) (i:Int):S59:=xs.getD i.toNat z59
theorem at_T59 {w:World} {A:Option Addr} {n:Nat} {xs:List S59} (h:Kd.C k59 w A n xs) (i:Int) (h0:0 ≤ i) (h1:i < n):∃ ad ,A = some ad∧w.cell? (ad.add (i.toNat * 6)) = some (.int .u8 (rd_T59 xs i).f0)∧w.cell? ⟨(ad.add (i.toNat * 6)).block,(ad.add (i.toNat * 6)).off + 1,none⟩ = some (.int .u8 (rd_T59 xs i).f1)∧w.cell? ⟨(ad.add (i.toNat * 6)).block,(ad.add (i.toNat * 6)).off + 2,none⟩ = some (.int .u8 (rd_T59 xs i).f2)∧w.cell? ⟨(ad.add (i.toNat * 6)).block,(ad.add (i.toNat * 6)).off + 3,none⟩ = some (.int .u8 (rd_T59 xs i).f3)∧w.cell? ⟨(ad.add (i.toNat * 6)).block,(ad.add (i.toNat * 6)).off + 4,none⟩ = some (.int .u8 (rd_T59 xs i).f4)∧w.cell? ⟨(ad.add (i.toNat * 6)).block,(ad.add (i.toNat * 6)).off + 5,none⟩ = some (.int .u8 (rd_T59 xs i).f5):=by
 obtain ⟨ad,c,e,_,hK,hc0⟩:=Kd.C_get h z59 i h0 h1
 have hc:∀ j u,c[j]? = some u→w.cell? (ad.add (i.toNat * 6 + j)) = some u:=hc0
 obtain rfl:=k59_open hK
 exact ⟨ad,e,hc 0 _ rfl,by rw [← add_field _ _ 1 (by omega)];exact hc 1 _ rfl,by rw [← add_field _ _ 2 (by omega)];exact hc 2 _ rfl,by rw [← add_field _ _ 3 (by omega)];exact hc 3 _ rfl,by rw [← add_field _ _ 4 (by omega)];exact hc 4 _ rfl,by rw [← add_field _ _ 5 (by omega)];exact hc 5 _ rfl⟩
structure S182 where
 f0:Int
 f1:ByteArray
 f2:Int
def z182:S182:=⟨(0:Int),(⟨#[]⟩:ByteArray),(0:Int)⟩
def k182:Kd S182:=Kd.iso (Kd.pair (Kd.int .i64) (Kd.pair Kd.string (Kd.int .i64))) (fun x:S182=>(x.f0,x.f1,x.f2))
structure S184 where
 f0:ByteArray
 f1:S182
def k184:Kd S184:=Kd.iso (Kd.pair Kd.string k182) (fun x:S184=>(x.f0,x.f1))
structure S167 where
 f0:Int
 f1:Int
def k167:Kd S167:=Kd.iso (Kd.pair (Kd.int .i64) (Kd.int .i64)) (fun x:S167=>(x.f0,x.f1))
structure S74 where
 f0:Int
 f1:Int
 f2:Int
 f3:Int
 f4:Int
 f5:Int
 f6:ByteArray
 f7:ByteArray
 f8:ByteArray
 f9:Int
 f10:Int
 f11:Bool
 f12:(List S184)
 f13:(List S167)
def z74:S74:=⟨(0:Int),(0:Int),(0:Int),(0:Int),(0:Int),(0:Int),(⟨#[]⟩:ByteArray),(⟨#[]⟩:ByteArray),(⟨#[]⟩:ByteArray),(0:Int),(0:Int),false,([]:List S184),([]:List S167)⟩
def k74:Kd S74:=Kd.iso (Kd.pair (Kd.int .i64) (Kd.pair (Kd.int .i64) (Kd.pair (Kd.int .i64) (Kd.pair (Kd.int .i64) (Kd.pair (Kd.int .i64) (Kd.pair (Kd.int .i64) (Kd.pair Kd.string (Kd.pair Kd.string (Kd.pair Kd.string (Kd.pair (Kd.int .i64) (Kd.pair (Kd.int .i64) (Kd.pair Kd.bool (Kd.pair (Kd.slice 184 k184) (Kd.slice 167 k167)))))))))))))) (fun x:S74=>(x.f0,x.f1,x.f2,x.f3,x.f4,x.f5,x.f6,x.f7,x.f8,x.f9,x.f10,x.f11,x.f12,x.f13))
theorem k74_open {w:World} {x:S74} {cs:List Value} (h:k74.K w x cs):∃ A12 c12 A13 c13,cs = [.int .i64 x.f0,.int .i64 x.f1,.int .i64 x.f2,.int .i64 x.f3,.int .i64 x.f4,.int .i64 x.f5,.string x.f6,.string x.f7,.string x.f8,.int .i64 x.f9,.int .i64 x.f10,.bool x.f11,.slice A12 x.f12.length c12,.slice A13 x.f13.length c13]∧x.f12.length ≤ c12∧k184.C w A12 x.f12.length x.f12∧x.f13.length ≤ c13∧k167.C w A13 x.f13.length x.f13:=by
 obtain ⟨_,_,rfl,rfl,⟨_,_,rfl,rfl,⟨_,_,rfl,rfl,⟨_,_,rfl,rfl,⟨_,_,rfl,rfl,⟨_,_,rfl,rfl,⟨_,_,rfl,rfl,⟨_,_,rfl,rfl,⟨_,_,rfl,rfl,⟨_,_,rfl,rfl,⟨_,_,rfl,rfl,⟨_,_,rfl,rfl,⟨_,_,rfl,⟨A12,c12,rfl,l12,g12⟩,⟨A13,c13,rfl,l13,g13⟩⟩⟩⟩⟩⟩⟩⟩⟩⟩⟩⟩⟩⟩:=h
 exact ⟨A12,c12,A13,c13,rfl,l12,g12,l13,g13⟩
theorem k74_mk (w:World) (x:S74) {A12:Option Addr} {c12:Nat} (l12:x.f12.length ≤ c12) (g12:k184.C w A12 x.f12.length x.f12) {A13:Option Addr} {c13:Nat} (l13:x.f13.length ≤ c13) (g13:k167.C w A13 x.f13.length x.f13):k74.K w x [.int .i64 x.f0,.int .i64 x.f1,.int .i64 x.f2,.int .i64 x.f3,.int .i64 x.f4,.int .i64 x.f5,.string x.f6,.string x.f7,.string x.f8,.int .i64 x.f9,.int .i64 x.f10,.bool x.f11,.slice A12 x.f12.length c12,.slice A13 x.f13.length c13]:=⟨[.int .i64 x.f0],[.int .i64 x.f1,.int .i64 x.f2,.int .i64 x.f3,.int .i64 x.f4,.int .i64 x.f5,.string x.f6,.string x.f7,.string x.f8,.int .i64 x.f9,.int .i64 x.f10,.bool x.f11,.slice A12 x.f12.length c12,.slice A13 x.f13.length c13],rfl,rfl,⟨[.int .i64 x.f1],[.int .i64 x.f2,.int .i64 x.f3,.int .i64 x.f4,.int .i64 x.f5,.string x.f6,.string x.f7,.string x.f8,.int .i64 x.f9,.int .i64 x.f10,.bool x.f11,.slice A12 x.f12.length c12,.slice A13 x.f13.length c13],rfl,rfl,⟨[.int .i64 x.f2],[.int .i64 x.f3,.int .i64 x.f4,.int .i64 x.f5,.string x.f6,.string x.f7,.string x.f8,.int .i64 x.f9,.int .i64 x.f10,.bool x.f11,.slice A12 x.f12.length c12,.slice A13 x.f13.length c13],rfl,rfl,⟨[.int .i64 x.f3],[.int .i64 x.f4,.int .i64 x.f5,.string x.f6,.string x.f7,.string x.f8,.int .i64 x.f9,.int .i64 x.f10,.bool x.f11,.slice A12 x.f12.length c12,.slice A13 x.f13.length c13],rfl,rfl,⟨[.int .i64 x.f4],[.int .i64 x.f5,.string x.f6,.string x.f7,.string x.f8,.int .i64 x.f9,.int .i64 x.f10,.bool x.f11,.slice A12 x.f12.length c12,.slice A13 x.f13.length c13],rfl,rfl,⟨[.int .i64 x.f5],[.string x.f6,.string x.f7,.string x.f8,.int .i64 x.f9,.int .i64 x.f10,.bool x.f11,.slice A12 x.f12.length c12,.slice A13 x.f13.length c13],rfl,rfl,⟨[.string x.f6],[.string x.f7,.string x.f8,.int .i64 x.f9,.int .i64 x.f10,.bool x.f11,.slice A12 x.f12.length c12,.slice A13 x.f13.length c13],rfl,rfl,⟨[.string x.f7],[.string x.f8,.int .i64 x.f9,.int .i64 x.f10,.bool x.f11,.slice A12 x.f12.length c12,.slice A13 x.f13.length c13],rfl,rfl,⟨[.string x.f8],[.int .i64 x.f9,.int .i64 x.f10,.bool x.f11,.slice A12 x.f12.length c12,.slice A13 x.f13.length c13],rfl,rfl,⟨[.int .i64 x.f9],[.int .i64 x.f10,.bool x.f11,.slice A12 x.f12.length c12,.slice A13 x.f13.length c13],rfl,rfl,⟨[.int .i64 x.f10],[.bool x.f11,.slice A12 x.f12.length c12,.slice A13 x.f13.length c13],rfl,rfl,⟨[.bool x.f11],[.slice A12 x.f12.length c12,.slice A13 x.f13.length c13],rfl,rfl,⟨[.slice A12 x.f12.length c12],[.slice A13 x.f13.length c13],rfl,⟨A12,c12,rfl,l12,g12⟩,⟨A13,c13,rfl,l13,g13⟩⟩⟩⟩⟩⟩⟩⟩⟩⟩⟩⟩⟩⟩
def rd_T74 (xs:List S74) (i:Int):S74:=xs.getD i.toNat z74
theorem at_T74 {w:World} {A:Option Addr} {n:Nat} {xs:List S74} (h:Kd.C k74 w A n xs) (i:Int) (h0:0 ≤ i) (h1:i < n):∃ ad A12 c12 A13 c13,A = some ad∧w.cell? (ad.add (i.toNat * 14)) = some (.int .i64 (rd_T74 xs i).f0)∧w.cell? ⟨(ad.add (i.toNat * 14)).block,(ad.add (i.toNat * 14)).off + 1,none⟩ = some (.int .i64 (rd_T74 xs i).f1)∧w.cell? ⟨(ad.add (i.toNat * 14)).block,(ad.add (i.toNat * 14)).off + 2,none⟩ = some (.int .i64 (rd_T74 xs i).f2)∧w.cell? ⟨(ad.add (i.toNat * 14)).block,(ad.add (i.toNat * 14)).off + 3,none⟩ = some (.int .i64 (rd_T74 xs i).f3)∧w.cell? ⟨(ad.add (i.toNat * 14)).block,(ad.add (i.toNat * 14)).off + 4,none⟩ = some (.int .i64 (rd_T74 xs i).f4)∧w.cell? ⟨(ad.add (i.toNat * 14)).block,(ad.add (i.toNat * 14)).off + 5,none⟩ = some (.int .i64 (rd_T74 xs i).f5)∧w.cell? ⟨(ad.add (i.toNat * 14)).block,(ad.add (i.toNat * 14)).off + 6,none⟩ = some (.string (rd_T74 xs i).f6)∧w.cell? ⟨(ad.add (i.toNat * 14)).block,(ad.add (i.toNat * 14)).off + 7,none⟩ = some (.string (rd_T74 xs i).f7)∧w.cell? ⟨(ad.add (i.toNat * 14)).block,(ad.add (i.toNat * 14)).off + 8,none⟩ = some (.string (rd_T74 xs i).f8)∧w.cell? ⟨(ad.add (i.toNat * 14)).block,(ad.add (i.toNat * 14)).off + 9,none⟩ = some (.int .i64 (rd_T74 xs i).f9)∧w.cell? ⟨(ad.add (i.toNat * 14)).block,(ad.add (i.toNat * 14)).off + 10,none⟩ = some (.int .i64 (rd_T74 xs i).f10)∧w.cell? ⟨(ad.add (i.toNat * 14)).block,(ad.add (i.toNat * 14)).off + 11,none⟩ = some (.bool (rd_T74 xs i).f11)∧w.cell? ⟨(ad.add (i.toNat * 14)).block,(ad.add (i.toNat * 14)).off + 12,none⟩ = some (.slice A12 (rd_T74 xs i).f12.length c12)∧w.cell? ⟨(ad.add (i.toNat * 14)).block,(ad.add (i.toNat * 14)).off + 13,none⟩ = some (.slice A13 (rd_T74 xs i).f13.length c13)∧(rd_T74 xs i).f12.length ≤ c12∧k184.C w A12 (rd_T74 xs i).f12.length (rd_T74 xs i).f12∧(rd_T74 xs i).f13.length ≤ c13∧k167.C w A13 (rd_T74 xs i).f13.length (rd_T74 xs i).f13:=by
 obtain ⟨ad,c,e,_,hK,hc0⟩:=Kd.C_get h z74 i h0 h1
 have hc:∀ j u,c[j]? = some u→w.cell? (ad.add (i.toNat * 14 + j)) = some u:=hc0
 obtain ⟨A12,c12,A13,c13,rfl,l12,g12,l13,g13⟩:=k74_open hK
 exact ⟨ad,A12,c12,A13,c13,e,hc 0 _ rfl,by rw [← add_field _ _ 1 (by omega)];exact hc 1 _ rfl,by rw [← add_field _ _ 2 (by omega)];exact hc 2 _ rfl,by rw [← add_field _ _ 3 (by omega)];exact hc 3 _ rfl,by rw [← add_field _ _ 4 (by omega)];exact hc 4 _ rfl,by rw [← add_field _ _ 5 (by omega)];exact hc 5 _ rfl,by rw [← add_field _ _ 6 (by omega)];exact hc 6 _ rfl,by rw [← add_field _ _ 7 (by omega)];exact hc 7 _ rfl,by rw [← add_field _ _ 8 (by omega)];exact hc 8 _ rfl,by rw [← add_field _ _ 9 (by omega)];exact hc 9 _ rfl,by rw [← add_field _ _ 10 (by omega)];exact hc 10 _ rfl,by rw [← add_field _ _ 11 (by omega)];exact hc 11 _ rfl,by rw [← add_field _ _ 12 (by omega)];exact hc 12 _ rfl,by rw [← add_field _ _ 13 (by omega)];exact hc 13 _ rfl,l12,g12,l13,g13⟩
structure S70 where
 f0:Int
 f1:Int
 f2:(List S74)
def z70:S70:=⟨(0:Int),(0:Int),([]:List S74)⟩
def k70:Kd S70:=Kd.iso (Kd.pair (Kd.int .i64) (Kd.pair (Kd.int .i64) (Kd.slice 74 k74))) (fun x:S70=>(x.f0,x.f1,x.f2))
end Go.Proofs.YtdadnapfecmmdaaGreat.P
namespace Go.Proofs.YtdadnapfecmmdaaGreat.P
set_option linter.unusedVariables false
open Go.RowKit Go.Proofs.YtdadnapfecmmdaaGreatW.PrintWords Go.Proofs.YtdadnapfecmmdaaGreatW.PrintLast Go.Proofs.YtdadnapfecmmdaaGreatW.PrintMore
def bq (n m:Nat):Array Bool:=((List.range n).map m.testBit).toArray
theorem below_at {W w':World} {x:Addr} {v:Value} (hS:Below W.heap.size W w') (h:W.cell? x = some v):w'.cell? x = some v:=(hS.cell (World.block_lt_of_cell? _ _ h)).trans h
section
variable {P:Program} {Q:Exit→Act→World→Prop} {S:World→Prop} {md:Region.Mode} {ops:Array Oper} {ds:List Nat} {T:Bool × List (List Nat × List Nat)} {B:List Nat}
theorem pu_ (i:Nat) (N:Option Tmp) {oi:Oper} {v:Value} {fuel:Nat} {l:Array Bool} {a a':Act} {w:World} (l':Array Bool) (HT:Aside0 (rtab md ops = T)) (hi:ops[i]? = some oi) (hN:oi.dst = N) (h:wpAnyLast P md ops Q S ds fuel l' a' w)
  (hw:Region.wanted oi (yielded ops a.tmps) = true:=by rfl) (hc:anyT T l.toList l'.toList i = true:=by kernel_rfl)
  (hQ:∀ c a w,Q (.panic c) (a.put oi.dst v) w→Q (.panic c) a w:=by exact fun _ _ _ h=>h) (hy:∀ w',(execOp a.eval oi).run P w' = .ok (.value v) w':=by (intro w';go_simp;with_reducible rfl))
  (ha:a.put N v = a':=by (simp only [Act.put,List.setIfInBounds_toArray,List.set_cons_zero,List.set_cons_succ,i64_w,i32_w];rfl)):wpAnyLast P md ops Q S ds (fuel + 1) l a w:=
 pure_ l' hi hN (any_of HT.out hc) hQ (Or.inl ⟨hw,hy⟩) ha h
theorem po_ (i:Nat) (N:Option Tmp) {oi:Oper} {fuel:Nat} {l:Array Bool} {a a':Act} {w:World} (l':Array Bool) (HT:Aside0 (rtab md ops = T)) (hi:ops[i]? = some oi) (hN:oi.dst = N) (h:wpAnyLast P md ops Q S ds fuel l' a' w)
  (hw:Region.wanted oi (yielded ops a.tmps) = false:=by rfl) (hc:anyT T l.toList l'.toList i = true:=by kernel_rfl)
  (hQ:∀ c a w,Q (.panic c) (a.put oi.dst undef) w→Q (.panic c) a w:=by exact fun _ _ _ h=>h)
  (ha:a.put N undef = a':=by (simp only [Act.put,List.setIfInBounds_toArray,List.set_cons_zero,List.set_cons_succ,i64_w,i32_w];rfl)):wpAnyLast P md ops Q S ds (fuel + 1) l a w:=
 pure_ l' hi hN (any_of HT.out hc) hQ (Or.inr ⟨hw,rfl⟩) ha h
theorem tk_ (i:Nat) (N:Option Tmp) {oi:Oper} {v:Value} {fuel:Nat} {l:Array Bool} {a a':Act} {w:World} (l':Array Bool) (HT:Aside0 (rtab md ops = T)) (HW:Aside0 (waitsOk T.2 B = true)) (hi:ops[i]? = some oi) (hN:oi.dst = N) (hS:S w) (h:wpAnyLast P md ops Q S ds fuel l' a' w)
  (hy:∀ w',S w'→(execOp a.eval oi).run P w' = .ok (.value v) w') (hw:Region.wanted oi (yielded ops a.tmps) = true:=by rfl) (hc:takeW T B ds l.toList l'.toList i = true:=by kernel_rfl)
  (hQ:∀ c a w,Q (.panic c) (a.put oi.dst v) w→Q (.panic c) a w:=by exact fun _ _ _ h=>h)
  (ha:a.put N v = a':=by (simp only [Act.put,List.setIfInBounds_toArray,List.set_cons_zero,List.set_cons_succ,i64_w,i32_w];rfl)):wpAnyLast P md ops Q S ds (fuel + 1) l a w:=
 take_ l' hi hN (take_ofW HT.out HW.out hc) hQ (Or.inl ⟨hw,hy⟩) hS ha h
theorem to_ (i:Nat) (N:Option Tmp) {oi:Oper} {fuel:Nat} {l:Array Bool} {a a':Act} {w:World} (l':Array Bool) (HT:Aside0 (rtab md ops = T)) (HW:Aside0 (waitsOk T.2 B = true)) (hi:ops[i]? = some oi) (hN:oi.dst = N) (hS:S w) (h:wpAnyLast P md ops Q S ds fuel l' a' w)
  (hw:Region.wanted oi (yielded ops a.tmps) = false:=by rfl) (hc:takeW T B ds l.toList l'.toList i = true:=by kernel_rfl)
  (hQ:∀ c a w,Q (.panic c) (a.put oi.dst undef) w→Q (.panic c) a w:=by exact fun _ _ _ h=>h)
  (ha:a.put N undef = a':=by (simp only [Act.put,List.setIfInBounds_toArray,List.set_cons_zero,List.set_cons_succ,i64_w,i32_w];rfl)):wpAnyLast P md ops Q S ds (fuel + 1) l a w:=
 take_ l' hi hN (take_ofW HT.out HW.out hc) hQ (Or.inr ⟨hw,rfl⟩) hS ha h
end
end Go.Proofs.YtdadnapfecmmdaaGreat.P
namespace Go.Proofs.YtdadnapfecmmdaaGreat.P
set_option linter.unusedVariables false
set_option linter.unusedSimpArgs false
open Go.RowKit Go.Proofs.YtdadnapfecmmdaaGreatW.PrintWords Go.Proofs.YtdadnapfecmmdaaGreatW.PrintLast Go.Proofs.YtdadnapfecmmdaaGreatW.PrintMore
def cmpStr (a b:ByteArray):Int:=if Op.bytesLess a.toList b.toList = true then -1 else if a.toList = b.toList then 0 else 1
theorem nan_calls (a:ByteArray) (w:World):Calls Tryz.prog 105 #[.string a] w fun e w'=>e = .returned (.bool false)∧w = w':=by
 go_enter Tryz.func105,Tryz.ntmps105
 go_wp2
 go_ret
 exact ⟨by simp,rfl⟩
theorem cmpStr_calls (a b:ByteArray) (w:World):Calls Tryz.prog 91 #[.string a,.string b] w fun e w'=>e = .returned (.int .i64 (cmpStr a b))∧w = w':=by
 have EO:Aside0 (cmpStr a b = if Op.bytesLess a.toList b.toList = true then -1 else if a.toList = b.toList then 0 else 1):=⟨rfl⟩
 by_cases h1:Op.bytesLess a.toList b.toList = true
 ·go_enter Tryz.func91,Tryz.ntmps91
  go_wp2_with fail
  refine (nan_calls _ _).mono ?_
  rintro e w' ⟨rfl,rfl⟩
  go_wp2_with fail
  refine (nan_calls _ _).mono ?_
  rintro e w' ⟨rfl,rfl⟩
  go_wp2_with fail
  go_ret
  exact ⟨by rw [EO.out,if_pos h1];rfl,rfl⟩
 ·replace h1:Op.bytesLess a.toList b.toList = false:=by simpa using h1
  by_cases h2:a.toList = b.toList
  ·have h3:(a.toList == b.toList) = true:=by simp [h2]
   have E2:=Aside0.mk h2
   clear h2
   go_enter Tryz.func91,Tryz.ntmps91
   go_wp2_with fail
   refine (nan_calls _ _).mono ?_
   rintro e w' ⟨rfl,rfl⟩
   go_wp2_with fail
   refine (nan_calls _ _).mono ?_
   rintro e w' ⟨rfl,rfl⟩
   go_wp2_with fail
   go_ret
   exact ⟨by rw [EO.out,if_neg (by rw [h1];simp),if_pos E2.out];rfl,rfl⟩
  ·have h3:(a.toList == b.toList) = false:=by simp [h2]
   have E2:=Aside0.mk h2
   clear h2
   go_enter Tryz.func91,Tryz.ntmps91
   go_wp2_with fail
   refine (nan_calls _ _).mono ?_
   rintro e w' ⟨rfl,rfl⟩
   go_wp2_with fail
   refine (nan_calls _ _).mono ?_
   rintro e w' ⟨rfl,rfl⟩
   go_wp2_with fail
   go_ret
   exact ⟨by rw [EO.out,if_neg (by rw [h1];simp),if_neg E2.out];rfl,rfl⟩
theorem word_calls (a b:ByteArray) (w:World):Calls Tryz.prog 72 #[.string a,.string b] w fun e w'=>e = .returned (.int .i64 (cmpStr a b))∧w = w':=by
 have EO:Aside0 (cmpStr a b = if Op.bytesLess a.toList b.toList = true then -1 else if a.toList = b.toList then 0 else 1):=⟨rfl⟩
 by_cases h1:Op.bytesLess a.toList b.toList = true
 ·go_enter Tryz.func72,Tryz.ntmps72
  go_wp2
  go_ret
  exact ⟨by rw [EO.out,if_pos h1];rfl,rfl⟩
 ·replace h1:Op.bytesLess a.toList b.toList = false:=by simpa using h1
  by_cases h2:a.toList = b.toList
  ·have h3:(a.toList == b.toList) = true:=by simp [h2]
   have E2:=Aside0.mk h2
   clear h2
   go_enter Tryz.func72,Tryz.ntmps72
   go_wp2
   go_ret
   exact ⟨by rw [EO.out,if_neg (by rw [h1];simp),if_pos E2.out];rfl,rfl⟩
  ·have h3:(a.toList == b.toList) = false:=by simp [h2]
   have E2:=Aside0.mk h2
   clear h2
   go_enter Tryz.func72,Tryz.ntmps72
   go_wp2
   go_ret
   exact ⟨by rw [EO.out,if_neg (by rw [h1];simp),if_neg E2.out];rfl,rfl⟩
def ordV (a b:Int):Int:=if a < b then -1 else if a > b then 1 else 0
theorem order_calls (a b:Int) (w:World):Calls Tryz.prog 71 #[.int .i64 a,.int .i64 b] w fun e w'=>e = .returned (.int .i64 (ordV a b))∧w' = w:=by
 have EO:Aside0 (ordV a b = if a < b then -1 else if a > b then 1 else 0):=⟨rfl⟩
 by_cases h1:a < b
 ·have k1:decide (a < b) = true:=by simpa using h1
  clear h1
  go_enter Tryz.func71,Tryz.ntmps71
  go_wp2
  go_ret
  exact ⟨by rw [EO.out,if_pos (by simpa using k1)];rfl,rfl⟩
 ·have k1:decide (a < b) = false:=by simpa using h1
  by_cases h2:a > b
  ·have k2:decide (b < a) = true:=by simpa using h2
   clear h1 h2
   go_enter Tryz.func71,Tryz.ntmps71
   go_wp2
   go_ret
   exact ⟨by rw [EO.out,if_neg (by simpa using k1),if_pos (by simpa using k2)];rfl,rfl⟩
  ·have k2:decide (b < a) = false:=by simpa using h2
   clear h1 h2
   go_enter Tryz.func71,Tryz.ntmps71
   go_wp2
   go_ret
   exact ⟨by rw [EO.out,if_neg (by simpa using k1),if_neg (by simpa using k2)];rfl,rfl⟩
theorem word_still (a b:ByteArray) (w:World):Calls Tryz.prog 72 #[.string a,.string b] w fun e w'=>e = .returned (.int .i64 (cmpStr a b))∧w' = w:=(word_calls a b w).mono fun _ _ h=>⟨h.1,h.2.symm⟩
def firstNz:List Int→Int
 | []=>0
 | x::r=>if x = 0 then firstNz r else x
def cmp47 (a b:S98):Int:=firstNz [ordV a.f2 b.f2,ordV a.f0 b.f0,ordV a.f1 b.f1,cmpStr a.f3 b.f3,cmpStr a.f4 b.f4,cmpStr a.f5 b.f5]
abbrev chgVals (x:S98):Array Value:=#[.int .i64 x.f0,.int .i64 x.f1,.int .i64 x.f2,.string x.f3,.string x.f4,.string x.f5]
theorem firstNz_drop (l:List Int) (i:Nat) (h:i < l.length):firstNz (l.drop i) = if l[i] = 0 then firstNz (l.drop (i + 1)) else l[i]:=by
 rw [List.drop_eq_getElem_cons h]
 rfl
set_option maxHeartbeats 4000000 in
set_option maxRecDepth 100000 in
theorem cmp47_calls (a b:S98) (w:World):Calls Tryz.prog 42 #[.agg (chgVals a),.agg (chgVals b)] w fun e w'=>e = .returned (.int .i64 (cmp47 a b))∧Below w.heap.size w w':=by
 have HB0:=Aside0.mk (below_alloc (below_alloc (Below.refl w.heap.size w) (.cells (chgVals a) 98)) (.cells (chgVals b) 98))
 have h0:=order_calls a.f2 b.f2
 have h1:=order_calls a.f0 b.f0
 have h2:=order_calls a.f1 b.f1
 have h3:=word_still a.f3 b.f3
 have h4:=word_still a.f4 b.f4
 have h5:=word_still a.f5 b.f5
 have EO:Aside0 (cmp47 a b = firstNz [ordV a.f2 b.f2,ordV a.f0 b.f0,ordV a.f1 b.f1,cmpStr a.f3 b.f3,cmpStr a.f4 b.f4,cmpStr a.f5 b.f5]):=⟨rfl⟩
 generalize ordV a.f2 b.f2 = r0 at h0 EO
 generalize ordV a.f0 b.f0 = r1 at h1 EO
 generalize ordV a.f1 b.f1 = r2 at h2 EO
 generalize cmpStr a.f3 b.f3 = r3 at h3 EO
 generalize cmpStr a.f4 b.f4 = r4 at h4 EO
 generalize cmpStr a.f5 b.f5 = r5 at h5 EO
 have H0:=Aside0.mk h0
 have H1:=Aside0.mk h1
 have H2:=Aside0.mk h2
 have H3:=Aside0.mk h3
 have H4:=Aside0.mk h4
 have H5:=Aside0.mk h5
 clear h0 h1 h2 h3 h4 h5
 obtain ⟨a0,a1,a2,a3,a4,a5⟩:=a
 obtain ⟨b0,b1,b2,b3,b4,b5⟩:=b
 dsimp only at HB0 H0 H1 H2 H3 H4 H5
 unfold chgVals at HB0 ⊢
 dsimp only at HB0 ⊢
 have ka:=blk_alloc (blk_new w (.cells #[.int .i64 a0,.int .i64 a1,.int .i64 a2,.string a3,.string a4,.string a5] 98)) (.cells #[.int .i64 b0,.int .i64 b1,.int .i64 b2,.string b3,.string b4,.string b5] 98)
 have kb:=blk_new (w.alloc (.cells #[.int .i64 a0,.int .i64 a1,.int .i64 a2,.string a3,.string a4,.string a5] 98)) (.cells #[.int .i64 b0,.int .i64 b1,.int .i64 b2,.string b3,.string b4,.string b5] 98)
 rw [show (w.alloc (.cells #[.int .i64 a0,.int .i64 a1,.int .i64 a2,.string a3,.string a4,.string a5] 98)).heap.size = w.heap.size + 1 from by simp] at kb
 have p0:((w.alloc (.cells #[.int .i64 a0,.int .i64 a1,.int .i64 a2,.string a3,.string a4,.string a5] 98)).alloc (.cells #[.int .i64 b0,.int .i64 b1,.int .i64 b2,.string b3,.string b4,.string b5] 98)).cell? ⟨w.heap.size,0,none⟩ = some (.int .i64 a0):=(blk_cell ka 0).trans rfl
 have q0:((w.alloc (.cells #[.int .i64 a0,.int .i64 a1,.int .i64 a2,.string a3,.string a4,.string a5] 98)).alloc (.cells #[.int .i64 b0,.int .i64 b1,.int .i64 b2,.string b3,.string b4,.string b5] 98)).cell? ⟨w.heap.size + 1,0,none⟩ = some (.int .i64 b0):=(blk_cell kb 0).trans rfl
 have p1:((w.alloc (.cells #[.int .i64 a0,.int .i64 a1,.int .i64 a2,.string a3,.string a4,.string a5] 98)).alloc (.cells #[.int .i64 b0,.int .i64 b1,.int .i64 b2,.string b3,.string b4,.string b5] 98)).cell? ⟨w.heap.size,1,none⟩ = some (.int .i64 a1):=(blk_cell ka 1).trans rfl
 have q1:((w.alloc (.cells #[.int .i64 a0,.int .i64 a1,.int .i64 a2,.string a3,.string a4,.string a5] 98)).alloc (.cells #[.int .i64 b0,.int .i64 b1,.int .i64 b2,.string b3,.string b4,.string b5] 98)).cell? ⟨w.heap.size + 1,1,none⟩ = some (.int .i64 b1):=(blk_cell kb 1).trans rfl
 have p2:((w.alloc (.cells #[.int .i64 a0,.int .i64 a1,.int .i64 a2,.string a3,.string a4,.string a5] 98)).alloc (.cells #[.int .i64 b0,.int .i64 b1,.int .i64 b2,.string b3,.string b4,.string b5] 98)).cell? ⟨w.heap.size,2,none⟩ = some (.int .i64 a2):=(blk_cell ka 2).trans rfl
 have q2:((w.alloc (.cells #[.int .i64 a0,.int .i64 a1,.int .i64 a2,.string a3,.string a4,.string a5] 98)).alloc (.cells #[.int .i64 b0,.int .i64 b1,.int .i64 b2,.string b3,.string b4,.string b5] 98)).cell? ⟨w.heap.size + 1,2,none⟩ = some (.int .i64 b2):=(blk_cell kb 2).trans rfl
 have p3:((w.alloc (.cells #[.int .i64 a0,.int .i64 a1,.int .i64 a2,.string a3,.string a4,.string a5] 98)).alloc (.cells #[.int .i64 b0,.int .i64 b1,.int .i64 b2,.string b3,.string b4,.string b5] 98)).cell? ⟨w.heap.size,3,none⟩ = some (.string a3):=(blk_cell ka 3).trans rfl
 have q3:((w.alloc (.cells #[.int .i64 a0,.int .i64 a1,.int .i64 a2,.string a3,.string a4,.string a5] 98)).alloc (.cells #[.int .i64 b0,.int .i64 b1,.int .i64 b2,.string b3,.string b4,.string b5] 98)).cell? ⟨w.heap.size + 1,3,none⟩ = some (.string b3):=(blk_cell kb 3).trans rfl
 have p4:((w.alloc (.cells #[.int .i64 a0,.int .i64 a1,.int .i64 a2,.string a3,.string a4,.string a5] 98)).alloc (.cells #[.int .i64 b0,.int .i64 b1,.int .i64 b2,.string b3,.string b4,.string b5] 98)).cell? ⟨w.heap.size,4,none⟩ = some (.string a4):=(blk_cell ka 4).trans rfl
 have q4:((w.alloc (.cells #[.int .i64 a0,.int .i64 a1,.int .i64 a2,.string a3,.string a4,.string a5] 98)).alloc (.cells #[.int .i64 b0,.int .i64 b1,.int .i64 b2,.string b3,.string b4,.string b5] 98)).cell? ⟨w.heap.size + 1,4,none⟩ = some (.string b4):=(blk_cell kb 4).trans rfl
 have p5:((w.alloc (.cells #[.int .i64 a0,.int .i64 a1,.int .i64 a2,.string a3,.string a4,.string a5] 98)).alloc (.cells #[.int .i64 b0,.int .i64 b1,.int .i64 b2,.string b3,.string b4,.string b5] 98)).cell? ⟨w.heap.size,5,none⟩ = some (.string a5):=(blk_cell ka 5).trans rfl
 have q5:((w.alloc (.cells #[.int .i64 a0,.int .i64 a1,.int .i64 a2,.string a3,.string a4,.string a5] 98)).alloc (.cells #[.int .i64 b0,.int .i64 b1,.int .i64 b2,.string b3,.string b4,.string b5] 98)).cell? ⟨w.heap.size + 1,5,none⟩ = some (.string b5):=(blk_cell kb 5).trans rfl
 clear ka kb
 go_enter Tryz.func42,Tryz.ntmps42
 go_wp2_with fail
 refine wp_region_still_tail 30 (by kernel_rfl) (by kernel_rfl) ?_
 generalize (w.alloc (.cells #[.int .i64 a0,.int .i64 a1,.int .i64 a2,.string a3,.string a4,.string a5] 98)).alloc (.cells #[.int .i64 b0,.int .i64 b1,.int .i64 b2,.string b3,.string b4,.string b5] 98) = W1 at *
 rw [show ({ heap:=W1.heap,tape:=W1.tape,drawn:=W1.drawn + 1,os:=W1.os,output:=W1.output }:World) = W1.drew from rfl]
 replace p0:W1.drew.cell? _ = some _:=p0
 replace p1:W1.drew.cell? _ = some _:=p1
 replace p2:W1.drew.cell? _ = some _:=p2
 replace p3:W1.drew.cell? _ = some _:=p3
 replace p4:W1.drew.cell? _ = some _:=p4
 replace p5:W1.drew.cell? _ = some _:=p5
 replace q0:W1.drew.cell? _ = some _:=q0
 replace q1:W1.drew.cell? _ = some _:=q1
 replace q2:W1.drew.cell? _ = some _:=q2
 replace q3:W1.drew.cell? _ = some _:=q3
 replace q4:W1.drew.cell? _ = some _:=q4
 replace q5:W1.drew.cell? _ = some _:=q5
 have HB1:=Aside0.mk (HB0.out.drew)
 clear HB0
 generalize W1.drew = W2 at *
 clear W1
 simp only [List.take_succ_cons,List.take_zero,List.drop_succ_cons,List.drop_zero]
 iterate 4 still_step
 still_call (H0.out _)
 iterate 4 still_step
 still_call (H1.out _)
 iterate 4 still_step
 still_call (H2.out _)
 iterate 4 still_step
 still_call (H3.out _)
 iterate 4 still_step
 still_call (H4.out _)
 iterate 4 still_step
 still_call (H5.out _)
 refine wpStill_nil ?_
 clear p0 p1 p2 p3 p4 p5 q0 q1 q2 q3 q4 q5 H0 H1 H2 H3 H4 H5
 have kb:=blk_new W2 (.cells #[.int .i64 r0,.int .i64 r1,.int .i64 r2,.int .i64 r3,.int .i64 r4,.int .i64 r5] 3)
 have HB2:=Aside0.mk (below_alloc HB1.out (.cells #[.int .i64 r0,.int .i64 r1,.int .i64 r2,.int .i64 r3,.int .i64 r4,.int .i64 r5] 3))
 go_wp2_with fail
 obtain ⟨g,hg⟩:∃ g:Nat,g = W2.heap.size:=⟨_,rfl⟩
 rw [← hg] at kb ⊢
 have KB:=Aside0.mk kb
 clear kb hg
 generalize W2.alloc (.cells #[.int .i64 r0,.int .i64 r1,.int .i64 r2,.int .i64 r3,.int .i64 r4,.int .i64 r5] 3) = W3 at KB HB2 ⊢
 clear W2 HB1
 go_loopg [6] 6 (fun gg s6 wr=>∃ (i:Nat),i ≤ 6∧6 - i ≤ gg∧s6 = .int .i64 i∧Aside0 (firstNz ([r0,r1,r2,r3,r4,r5].drop i) = firstNz [r0,r1,r2,r3,r4,r5])∧Aside0 (wr.heap[g]? = some (.cells #[.int .i64 r0,.int .i64 r1,.int .i64 r2,.int .i64 r3,.int .i64 r4,.int .i64 r5] 3 (0,0)))∧Aside0 (Below w.heap.size w wr))
 case atStart=>exact ⟨0,by omega,by omega,by rfl,⟨rfl⟩,KB,HB2⟩
 case round=>
  clear KB HB2
  obtain ⟨i,hi,hgi,rfl,HA,BK,HB⟩:=hrel
  by_cases hlt:i < 6
  ·match i,hlt with
   | 0,_=>
    have hA:=HA.out
    clear HA
    replace hA:(if r0 = 0 then firstNz ([r0,r1,r2,r3,r4,r5].drop 1) else r0) = firstNz [r0,r1,r2,r3,r4,r5]:=hA
    have q:wr.cell? ⟨g,0,none⟩ = some (.int .i64 r0):=(blk_cell BK.out 0).trans rfl
    by_cases h0:r0 = 0
    ·rw [if_pos h0] at hA
     have HA:=Aside0.mk hA
     have hb:(r0 != 0) = false:=by simpa using h0
     clear hA h0
     go_wp2
     go_roundg (6 - (0 + 1))
     case measure=>omega
     case rel=>exact ⟨0 + 1,by omega,by omega,by rfl,HA,BK,HB⟩
    ·rw [if_neg h0] at hA
     have HA:=Aside0.mk hA
     have hb:(r0 != 0) = true:=by simpa using h0
     clear hA h0
     go_wp2
     go_ret
     exact ⟨by rw [EO.out,← HA.out];rfl,HB.out⟩
   | 1,_=>
    have hA:=HA.out
    clear HA
    replace hA:(if r1 = 0 then firstNz ([r0,r1,r2,r3,r4,r5].drop 2) else r1) = firstNz [r0,r1,r2,r3,r4,r5]:=hA
    have q:wr.cell? ⟨g,1,none⟩ = some (.int .i64 r1):=(blk_cell BK.out 1).trans rfl
    by_cases h0:r1 = 0
    ·rw [if_pos h0] at hA
     have HA:=Aside0.mk hA
     have hb:(r1 != 0) = false:=by simpa using h0
     clear hA h0
     go_wp2
     go_roundg (6 - (1 + 1))
     case measure=>omega
     case rel=>exact ⟨1 + 1,by omega,by omega,by rfl,HA,BK,HB⟩
    ·rw [if_neg h0] at hA
     have HA:=Aside0.mk hA
     have hb:(r1 != 0) = true:=by simpa using h0
     clear hA h0
     go_wp2
     go_ret
     exact ⟨by rw [EO.out,← HA.out];rfl,HB.out⟩
   | 2,_=>
    have hA:=HA.out
    clear HA
    replace hA:(if r2 = 0 then firstNz ([r0,r1,r2,r3,r4,r5].drop 3) else r2) = firstNz [r0,r1,r2,r3,r4,r5]:=hA
    have q:wr.cell? ⟨g,2,none⟩ = some (.int .i64 r2):=(blk_cell BK.out 2).trans rfl
    by_cases h0:r2 = 0
    ·rw [if_pos h0] at hA
     have HA:=Aside0.mk hA
     have hb:(r2 != 0) = false:=by simpa using h0
     clear hA h0
     go_wp2
     go_roundg (6 - (2 + 1))
     case measure=>omega
     case rel=>exact ⟨2 + 1,by omega,by omega,by rfl,HA,BK,HB⟩
    ·rw [if_neg h0] at hA
     have HA:=Aside0.mk hA
     have hb:(r2 != 0) = true:=by simpa using h0
     clear hA h0
     go_wp2
     go_ret
     exact ⟨by rw [EO.out,← HA.out];rfl,HB.out⟩
   | 3,_=>
    have hA:=HA.out
    clear HA
    replace hA:(if r3 = 0 then firstNz ([r0,r1,r2,r3,r4,r5].drop 4) else r3) = firstNz [r0,r1,r2,r3,r4,r5]:=hA
    have q:wr.cell? ⟨g,3,none⟩ = some (.int .i64 r3):=(blk_cell BK.out 3).trans rfl
    by_cases h0:r3 = 0
    ·rw [if_pos h0] at hA
     have HA:=Aside0.mk hA
     have hb:(r3 != 0) = false:=by simpa using h0
     clear hA h0
     go_wp2
     go_roundg (6 - (3 + 1))
     case measure=>omega
     case rel=>exact ⟨3 + 1,by omega,by omega,by rfl,HA,BK,HB⟩
    ·rw [if_neg h0] at hA
     have HA:=Aside0.mk hA
     have hb:(r3 != 0) = true:=by simpa using h0
     clear hA h0
     go_wp2
     go_ret
     exact ⟨by rw [EO.out,← HA.out];rfl,HB.out⟩
   | 4,_=>
    have hA:=HA.out
    clear HA
    replace hA:(if r4 = 0 then firstNz ([r0,r1,r2,r3,r4,r5].drop 5) else r4) = firstNz [r0,r1,r2,r3,r4,r5]:=hA
    have q:wr.cell? ⟨g,4,none⟩ = some (.int .i64 r4):=(blk_cell BK.out 4).trans rfl
    by_cases h0:r4 = 0
    ·rw [if_pos h0] at hA
     have HA:=Aside0.mk hA
     have hb:(r4 != 0) = false:=by simpa using h0
     clear hA h0
     go_wp2
     go_roundg (6 - (4 + 1))
     case measure=>omega
     case rel=>exact ⟨4 + 1,by omega,by omega,by rfl,HA,BK,HB⟩
    ·rw [if_neg h0] at hA
     have HA:=Aside0.mk hA
     have hb:(r4 != 0) = true:=by simpa using h0
     clear hA h0
     go_wp2
     go_ret
     exact ⟨by rw [EO.out,← HA.out];rfl,HB.out⟩
   | 5,_=>
    have hA:=HA.out
    clear HA
    replace hA:(if r5 = 0 then firstNz ([r0,r1,r2,r3,r4,r5].drop 6) else r5) = firstNz [r0,r1,r2,r3,r4,r5]:=hA
    have q:wr.cell? ⟨g,5,none⟩ = some (.int .i64 r5):=(blk_cell BK.out 5).trans rfl
    by_cases h0:r5 = 0
    ·rw [if_pos h0] at hA
     have HA:=Aside0.mk hA
     have hb:(r5 != 0) = false:=by simpa using h0
     clear hA h0
     go_wp2
     go_roundg (6 - (5 + 1))
     case measure=>omega
     case rel=>exact ⟨5 + 1,by omega,by omega,by rfl,HA,BK,HB⟩
    ·rw [if_neg h0] at hA
     have HA:=Aside0.mk hA
     have hb:(r5 != 0) = true:=by simpa using h0
     clear hA h0
     go_wp2
     go_ret
     exact ⟨by rw [EO.out,← HA.out];rfl,HB.out⟩
  ·obtain rfl:i = 6:=by omega
   go_wp2
   go_ret
   exact ⟨by rw [EO.out,← HA.out];rfl,HB.out⟩
def idxBy {α:Type} (p:α→Bool) (l:List α):Int:=match l.findIdx? p with | some i=>(i:Int) | none=>-1
theorem idxBy_hit {α:Type} (p:α→Bool) (l:List α) (k:Nat) (hk:k < l.length) (h:p l[k] = true) (hn:∀ j (hj:j < k),p (l[j]'(by omega)) = false):idxBy p l = (k:Int):=by
 unfold idxBy
 have:l.findIdx? p = some k:=by
  rw [List.findIdx?_eq_some_iff_getElem]
  exact ⟨hk,h,fun j hj=>by rw [hn j hj];simp⟩
 rw [this]
theorem idxBy_none {α:Type} (p:α→Bool) (l:List α) (hn:∀ j (hj:j < l.length),p l[j] = false):idxBy p l = -1:=by
 unfold idxBy
 have:l.findIdx? p = none:=by
  rw [List.findIdx?_eq_none_iff]
  intro x hx
  obtain ⟨j,hj,rfl⟩:=List.getElem_of_mem hx
  exact hn j hj
 rw [this]
theorem off1_calls (x:S54) (clock:Int) (a:Addr) (w:World) (hc:w.cell? a = some (.int .i64 clock)):
  Calls Tryz.prog 46 #[.agg #[.int .i64 x.f0,.int .i64 x.f1],.pointer (some a)] w fun e w'=>e = .returned (.bool (x.f0 == clock))∧Below w.heap.size w w':=by
 have hlt:=World.block_lt_of_cell? w a hc
 have hne:a.block ≠ w.heap.size:=by omega
 obtain ⟨f0,f1⟩:=x
 dsimp only
 go_enter Tryz.func46,Tryz.ntmps46
 go_wp2
 all_goals (go_ret;exact ⟨by simp_all,(Below.refl _ _).alloc (Nat.le_refl _) _⟩)
theorem rd_T54_get (xs:List S54) (k:Nat) (h:k < xs.length):rd_T54 xs (k:Int) = xs[k]:=by
 unfold rd_T54;simp [List.getD_eq_getElem?_getD,h]
set_option maxHeartbeats 1000000 in
theorem idx69_calls (A:Option Addr) (c:Nat) (l:List S54) (g:Nat) (lb:Array Value) (p:S54→Bool) (w:World) (_hl:l.length ≤ c) (hr:Kd.C k54 w A l.length l)
  (eg:∀ args w,(callFunc g args).run Tryz.prog w = .ok (.enter g args) w)
  (hp:∀ (W:World) (x:S54),Below w.heap.size w W→Calls Tryz.prog g (#[.agg #[.int .i64 x.f0,.int .i64 x.f1]] ++ lb) W fun e w'=>e = .returned (.bool (p x))∧Below W.heap.size W w'):
  Calls Tryz.prog 45 #[.slice A l.length c,.func (.func g) #[] lb] w fun e w'=>e = .returned (.int .i64 (idxBy p l))∧Below w.heap.size w w':=by
 have hbig:l.length ≤ 9223372036854775807:=hr.2.1
 have HR:=Aside0.mk hr
 have HP:=Aside0.mk hp
 clear hp hr
 go_enter Tryz.func45,Tryz.ntmps45
 go_wp2
 go_loopg [5,8] l.length (fun gg _ s8 wr=>∃ kk:Nat,kk ≤ l.length∧l.length - kk ≤ gg∧s8 = .int .i64 kk∧Aside0 (Below w.heap.size w wr)∧Aside0 (∀ j (_:j < kk) (hj:j < l.length),p (l[j]) = false))
 case atStart=>exact ⟨0,Nat.zero_le _,by omega,rfl,⟨Below.refl _ w⟩,⟨fun j hj=>absurd hj (Nat.not_lt_zero _)⟩⟩
 case round=>
  obtain ⟨kk,hkk,hg,rfl,BW,AN⟩:=hrel
  by_cases hlt:kk < l.length
  ·obtain ⟨ad,e,h0,h1⟩:=at_T54 HR.out (kk:Int) (by omega) (by omega)
   subst e
   rw [rd_T54_get l kk hlt] at h0 h1
   simp only [Int.toNat_natCast] at h0 h1
   have hcall:=HP.out wr l[kk] BW.out
   replace h0:=below_at BW.out h0
   replace h1:=below_at BW.out h1
   have hltz:(kk:Int) < (l.length:Int):=by omega
   generalize hy:l[kk] = y at h0 h1 hcall
   have B:=Aside0.mk hy
   clear hy
   cases hq:p y with
   | true=>
    rw [hq] at hcall
    go_wp2_with fail
    refine hcall.mono ?_
    rintro e w' ⟨rfl,hb'⟩
    go_wp2_with fail
    go_ret
    refine ⟨?_,below_step BW.out hb'⟩
    rw [idxBy_hit p l kk hlt (by rw [B.out];exact hq) (fun j hj=>AN.out j hj (by omega))]
    rfl
   | false=>
    rw [hq] at hcall
    go_wp2_with fail
    refine hcall.mono ?_
    rintro e w' ⟨rfl,hb'⟩
    go_wp2_with fail
    go_roundg (l.length - (kk + 1))
    case rel=>exact ⟨kk + 1,by omega,Nat.le_refl _,by go_num,⟨below_step BW.out hb'⟩,⟨fun j hj hjl=>by
     by_cases hjk:j < kk
     ·exact AN.out j hjk hjl
     ·obtain rfl:j = kk:=by omega
      rw [B.out];exact hq⟩⟩
    case measure=>omega
  ·obtain rfl:kk = l.length:=by omega
   go_wp2
   go_ret
   exact ⟨by rw [idxBy_none p l (fun j hj=>AN.out j hj hj)];rfl,BW.out⟩
structure Cfg where
 seed:Int
 sv:List S51
 off:List S54
 ch:List S98
 fl:List S61
 sfrom:Int
 sto:Int
 per:Int
 delay:Int
 chunk:Int
 loss:Int
 rep:Int
structure CfgAt where
 A1:Option Addr
 c1:Nat
 A2:Option Addr
 c2:Nat
 A3:Option Addr
 c3:Nat
 A4:Option Addr
 c4:Nat
abbrev Cfg.val (c:Cfg) (p:CfgAt):Value:=.agg #[.int .i64 c.seed,.slice p.A1 c.sv.length p.c1,.slice p.A2 c.off.length p.c2,.slice p.A3 c.ch.length p.c3,.slice p.A4 c.fl.length p.c4,.int .i64 c.sfrom,.int .i64 c.sto,.int .i64 c.per,.int .i64 c.delay,.int .i64 c.chunk,.int .i64 c.loss,.int .i64 c.rep]
structure CfgR (w:World) (p:CfgAt) (c:Cfg):Prop where
 r1:Kd.C k51 w p.A1 c.sv.length c.sv
 l1:c.sv.length ≤ p.c1
 r2:Kd.C k54 w p.A2 c.off.length c.off
 l2:c.off.length ≤ p.c2
 r3:Kd.C k98 w p.A3 c.ch.length c.ch
 l3:c.ch.length ≤ p.c3
 r4:Kd.C k61 w p.A4 c.fl.length c.fl
 l4:c.fl.length ≤ p.c4
theorem CfgR.below {w w1:World} {p:CfgAt} {c:Cfg} (h:CfgR w p c) (hb:Below w.heap.size w w1):CfgR w1 p c:=
 ⟨Kd.C_below h.r1 hb,h.l1,Kd.C_below h.r2 hb,h.l2,Kd.C_below h.r3 hb,h.l3,Kd.C_below h.r4 hb,h.l4⟩
def offIdx (l:List S54) (clock:Int):Int:=idxBy (fun x:S54=>x.f0 == clock) l
theorem idxBy_range {α:Type} (p:α→Bool) (l:List α):idxBy p l = -1 ∨ (0 ≤ idxBy p l∧idxBy p l < l.length):=by
 unfold idxBy
 cases h:l.findIdx? p with
 | none=>exact .inl rfl
 | some i=>
  rw [List.findIdx?_eq_some_iff_getElem] at h
  obtain ⟨hi,_⟩:=h
  exact .inr ⟨by simp,by simpa using hi⟩
def offOf (l:List S54) (clock:Int):Int × Bool:=if offIdx l clock < 0 then (0,false) else ((rd_T54 l (offIdx l clock)).f1,true)
set_option maxHeartbeats 1000000 in
theorem offset_calls (c:Cfg) (p:CfgAt) (clock:Int) (w:World) (hR:CfgR w p c):
  Calls Tryz.prog 32 #[c.val p,.int .i64 clock] w fun e w'=>e = .returned (.tuple #[.int .i64 (offOf c.off clock).1,.bool (offOf c.off clock).2])∧Below w.heap.size w w':=by
 have eg:∀ args w,(callFunc 46 args).run Tryz.prog w = .ok (.enter 46 args) w:=fun args w=>enters_ Tryz.func46 (by kernel_rfl) rfl args w
 have HR:=Aside0.mk hR
 clear hR
 have hb0:Below w.heap.size w ((w.alloc (.cells #[.int .i64 c.seed,.slice p.A1 c.sv.length p.c1,.slice p.A2 c.off.length p.c2,.slice p.A3 c.ch.length p.c3,.slice p.A4 c.fl.length p.c4,.int .i64 c.sfrom,.int .i64 c.sto,.int .i64 c.per,.int .i64 c.delay,.int .i64 c.chunk,.int .i64 c.loss,.int .i64 c.rep] 36)).alloc (.cells #[.int .i64 clock] 3)):=below_alloc (below_alloc (Below.refl _ _) _) _
 have hcon:=idx69_calls p.A2 p.c2 c.off 46 #[.pointer (some ⟨w.heap.size + 1,0,none⟩)] (fun x=>x.f0 == clock) _ HR.out.l2 (Kd.C_below HR.out.r2 hb0) eg (fun W x hb=>off1_calls x clock ⟨w.heap.size + 1,0,none⟩ W ((hb.cell (p:=⟨w.heap.size + 1,0,none⟩) (by simp)).trans (by simp)))
 have hrg:=idxBy_range (fun x:S54=>x.f0 == clock) c.off
 have EO:Aside0 (offOf c.off clock = if idxBy (fun x:S54=>x.f0 == clock) c.off < 0 then (0,false) else ((rd_T54 c.off (idxBy (fun x:S54=>x.f0 == clock) c.off)).f1,true)):=⟨rfl⟩
 have HB0:=Aside0.mk hb0
 clear hb0
 generalize idxBy (fun x:S54=>x.f0 == clock) c.off = r at hcon hrg EO
 go_enter Tryz.func32,Tryz.ntmps32
 go_wp2_with fail
 refine hcon.mono ?_
 rintro e w1 ⟨rfl,hb1⟩
 have hz:w.heap.size + 2 ≤ w1.heap.size:=by have:=hb1.size;simpa using this
 have HB1:=Aside0.mk (HB0.out.trans (hb1.mono (by simp;omega)))
 by_cases hneg:r < 0
 ·go_wp2
  go_ret2
  refine ⟨?_,HB1.out⟩
  rw [EO.out,if_pos hneg]
  rfl
 ·obtain ⟨ad,e,h0,h1⟩:=at_T54 HR.out.r2 r (by omega) (by omega)
  have q:w1.cell? ⟨w.heap.size,2,none⟩ = some (.slice p.A2 c.off.length p.c2):=(hb1.cell (p:=⟨w.heap.size,2,none⟩) (by simp;omega)).trans (by simp)
  replace h1:=below_at HB1.out h1
  have hr0:0 ≤ r:=by omega
  have hr1:r < (c.off.length:Int):=by omega
  rw [e] at q
  go_wp2
  go_ret2
  refine ⟨?_,HB1.out⟩
  rw [EO.out,if_neg (by omega)]
  rfl
theorem idx1_calls (x:S51) (A5:Option Addr) (c5:Nat) (name:ByteArray) (a:Addr) (w:World) (hc:w.cell? a = some (.string name)):
  Calls Tryz.prog 112 #[.agg #[.string x.f0,.int .i64 x.f1,.int .i64 x.f2,.int .i64 x.f3,.int .i64 x.f4,.slice A5 x.f5.length c5],.pointer (some a)] w fun e w'=>e = .returned (.bool (x.f0.toList == name.toList))∧Below w.heap.size w w':=by
 have hlt:=World.block_lt_of_cell? w a hc
 have hne:a.block ≠ w.heap.size:=by omega
 obtain ⟨f0,f1,f2,f3,f4,f5⟩:=x
 dsimp only
 generalize f5.length = n5
 go_enter Tryz.func112,Tryz.ntmps112
 go_wp2
 all_goals (go_ret;exact ⟨by simp_all,(Below.refl _ _).alloc (Nat.le_refl _) _⟩)
theorem rd_T51_get (xs:List S51) (k:Nat) (h:k < xs.length):rd_T51 xs (k:Int) = xs[k]:=by
 unfold rd_T51;simp [List.getD_eq_getElem?_getD,h]
set_option maxHeartbeats 1000000 in
theorem idx104_calls (A:Option Addr) (c:Nat) (l:List S51) (g:Nat) (lb:Array Value) (p:S51→Bool) (w:World) (_hl:l.length ≤ c) (hr:Kd.C k51 w A l.length l)
  (eg:∀ args w,(callFunc g args).run Tryz.prog w = .ok (.enter g args) w)
  (hp:∀ (W:World) (x:S51) (A5:Option Addr) (c5:Nat),Below w.heap.size w W→Calls Tryz.prog g (#[.agg #[.string x.f0,.int .i64 x.f1,.int .i64 x.f2,.int .i64 x.f3,.int .i64 x.f4,.slice A5 x.f5.length c5]] ++ lb) W fun e w'=>e = .returned (.bool (p x))∧Below W.heap.size W w'):
  Calls Tryz.prog 111 #[.slice A l.length c,.func (.func g) #[] lb] w fun e w'=>e = .returned (.int .i64 (idxBy p l))∧Below w.heap.size w w':=by
 have hbig:l.length ≤ 9223372036854775807:=hr.2.1
 have HR:=Aside0.mk hr
 have HP:=Aside0.mk hp
 clear hp hr
 go_enter Tryz.func111,Tryz.ntmps111
 go_wp2
 go_loopg [5,8] l.length (fun gg _ s8 wr=>∃ kk:Nat,kk ≤ l.length∧l.length - kk ≤ gg∧s8 = .int .i64 kk∧Aside0 (Below w.heap.size w wr)∧Aside0 (∀ j (_:j < kk) (hj:j < l.length),p (l[j]) = false))
 case atStart=>exact ⟨0,Nat.zero_le _,by omega,rfl,⟨Below.refl _ w⟩,⟨fun j hj=>absurd hj (Nat.not_lt_zero _)⟩⟩
 case round=>
  obtain ⟨kk,hkk,hg,rfl,BW,AN⟩:=hrel
  by_cases hlt:kk < l.length
  ·obtain ⟨ad,A5,c5,e,h0,h1,h2,h3,h4,h5,_,_⟩:=at_T51 HR.out (kk:Int) (by omega) (by omega)
   subst e
   rw [rd_T51_get l kk hlt] at h0 h1 h2 h3 h4 h5
   simp only [Int.toNat_natCast] at h0 h1 h2 h3 h4 h5
   have hcall:=HP.out wr l[kk] A5 c5 BW.out
   replace h0:=below_at BW.out h0
   replace h1:=below_at BW.out h1
   replace h2:=below_at BW.out h2
   replace h3:=below_at BW.out h3
   replace h4:=below_at BW.out h4
   replace h5:=below_at BW.out h5
   have hltz:(kk:Int) < (l.length:Int):=by omega
   generalize hy:l[kk] = y at h0 h1 h2 h3 h4 h5 hcall
   have B:=Aside0.mk hy
   clear hy
   generalize y.f5.length = n5 at h5 hcall
   cases hq:p y with
   | true=>
    rw [hq] at hcall
    go_wp2_with fail
    refine hcall.mono ?_
    rintro e w' ⟨rfl,hb'⟩
    go_wp2_with fail
    go_ret
    refine ⟨?_,below_step BW.out hb'⟩
    rw [idxBy_hit p l kk hlt (by rw [B.out];exact hq) (fun j hj=>AN.out j hj (by omega))]
    rfl
   | false=>
    rw [hq] at hcall
    go_wp2_with fail
    refine hcall.mono ?_
    rintro e w' ⟨rfl,hb'⟩
    go_wp2_with fail
    go_roundg (l.length - (kk + 1))
    case rel=>exact ⟨kk + 1,by omega,Nat.le_refl _,by go_num,⟨below_step BW.out hb'⟩,⟨fun j hj hjl=>by
     by_cases hjk:j < kk
     ·exact AN.out j hjk hjl
     ·obtain rfl:j = kk:=by omega
      rw [B.out];exact hq⟩⟩
    case measure=>omega
  ·obtain rfl:kk = l.length:=by omega
   go_wp2
   go_ret
   exact ⟨by rw [idxBy_none p l (fun j hj=>AN.out j hj hj)];rfl,BW.out⟩
def svIdx (l:List S51) (name:ByteArray):Int:=idxBy (fun x:S51=>x.f0.toList == name.toList) l
set_option maxHeartbeats 1000000 in
theorem index_calls (c:Cfg) (p:CfgAt) (name:ByteArray) (w:World) (hR:CfgR w p c):
  Calls Tryz.prog 99 #[c.val p,.string name] w fun e w'=>e = .returned (.int .i64 (svIdx c.sv name))∧Below w.heap.size w w':=by
 have eg:∀ args w,(callFunc 112 args).run Tryz.prog w = .ok (.enter 112 args) w:=fun args w=>enters_ Tryz.func112 (by kernel_rfl) rfl args w
 have HR:=Aside0.mk hR
 clear hR
 have hb0:Below w.heap.size w ((w.alloc (.cells #[.int .i64 c.seed,.slice p.A1 c.sv.length p.c1,.slice p.A2 c.off.length p.c2,.slice p.A3 c.ch.length p.c3,.slice p.A4 c.fl.length p.c4,.int .i64 c.sfrom,.int .i64 c.sto,.int .i64 c.per,.int .i64 c.delay,.int .i64 c.chunk,.int .i64 c.loss,.int .i64 c.rep] 36)).alloc (.cells #[.string name] 9)):=below_alloc (below_alloc (Below.refl _ _) _) _
 have hcon:=idx104_calls p.A1 p.c1 c.sv 112 #[.pointer (some ⟨w.heap.size + 1,0,none⟩)] (fun x=>x.f0.toList == name.toList) _ HR.out.l1 (Kd.C_below HR.out.r1 hb0) eg (fun W x A5 c5 hb=>idx1_calls x A5 c5 name ⟨w.heap.size + 1,0,none⟩ W ((hb.cell (p:=⟨w.heap.size + 1,0,none⟩) (by simp)).trans (by simp)))
 have EO:Aside0 (svIdx c.sv name = idxBy (fun x:S51=>x.f0.toList == name.toList) c.sv):=⟨rfl⟩
 have HB0:=Aside0.mk hb0
 clear hb0
 generalize idxBy (fun x:S51=>x.f0.toList == name.toList) c.sv = r at hcon EO
 go_enter Tryz.func99,Tryz.ntmps99
 go_wp2_with fail
 refine hcon.mono ?_
 rintro e w1 ⟨rfl,hb1⟩
 have HB1:=Aside0.mk (HB0.out.trans (hb1.mono (by simp;omega)))
 go_wp2
 go_ret
 refine ⟨?_,HB1.out⟩
 rw [EO.out]
 rfl
theorem eqA100 (d:Nat) (w:World) (x0 y0:Int) (x1 y1:Int) (x2 y2:Int) (x3 y3:ByteArray) (x4 y4:ByteArray) (x5 y5:ByteArray):
  (Op.equalIn (d + 2) 98 (.agg #[.int .i64 x0,.int .i64 x1,.int .i64 x2,.string x3,.string x4,.string x5]) (.agg #[.int .i64 y0,.int .i64 y1,.int .i64 y2,.string y3,.string y4,.string y5])).run Tryz.prog w = .ok (x0 == y0 && (x1 == y1 && (x2 == y2 && (x3.toList == y3.toList && (x4.toList == y4.toList && (x5.toList == y5.toList)))))) w:=by
 refine eqA_of Tryz.underlying98 (by kernel_rfl) ?_
 refine eqf_cons (by rfl) (by go_simp;rfl) (by go_simp;rfl) (by go_simp) ?_
 refine eqf_cons (by rfl) (by go_simp;rfl) (by go_simp;rfl) (by go_simp) ?_
 refine eqf_cons (by rfl) (by go_simp;rfl) (by go_simp;rfl) (by go_simp) ?_
 refine eqf_cons (by rfl) (by go_simp;rfl) (by go_simp;rfl) (by go_simp) ?_
 refine eqf_cons (by rfl) (by go_simp;rfl) (by go_simp;rfl) (by go_simp) ?_
 exact eqf_last (by rfl) (by go_simp;rfl) (by go_simp;rfl) (by go_simp)
def same100 (x y:S98):Bool:=x.f0 == y.f0 && (x.f1 == y.f1 && (x.f2 == y.f2 && (x.f3.toList == y.f3.toList && (x.f4.toList == y.f4.toList && (x.f5.toList == y.f5.toList)))))
def insAt (x:S98):List S98→Nat
 | []=>0
 | y::r=>if cmp47 y x < 0 then insAt x r + 1 else 0
theorem insAt_le (x:S98) (l:List S98):insAt x l ≤ l.length:=by
 induction l with
 | nil=>exact Nat.le_refl _
 | cons y r ih=>
  simp only [insAt,List.length_cons]
  split <;> omega
theorem insAt_less (x:S98) (l:List S98) (k:Nat) (h:k < insAt x l) (hk:k < l.length):cmp47 l[k] x < 0:=by
 induction l generalizing k with
 | nil=>simp [insAt] at h
 | cons y r ih=>
  simp only [insAt] at h
  split at h
  ·rename_i hc
   cases k with
   | zero=>exact hc
   | succ k=>exact ih k (by omega) (by simpa using hk)
  ·omega
theorem insAt_not (x:S98) (l:List S98) (hk:insAt x l < l.length):¬ cmp47 l[insAt x l] x < 0:=by
 induction l with
 | nil=>simp at hk
 | cons y r ih=>
  by_cases hc:cmp47 y x < 0
  ·have e:insAt x (y::r) = insAt x r + 1:=by simp only [insAt];rw [if_pos hc]
   have hr:insAt x r < r.length:=by rw [e] at hk;simpa using hk
   have:=ih hr
   simp only [e,List.getElem_cons_succ]
   exact this
  ·have e:insAt x (y::r) = 0:=by simp only [insAt];rw [if_neg hc]
   simp only [e,List.getElem_cons_zero]
   exact hc
def insNew (x:S98) (l:List S98):Bool:=if insAt x l = l.length then true else !same100 (rd_T98 l (insAt x l)) x
def ins47 (l:List S98) (x:S98):List S98:=if insNew x l = true then l.take (insAt x l) ++ [x] ++ l.drop (insAt x l) else l
def srt47 (l:List S98):List S98:=l.foldl ins47 []
theorem ins47_len (l:List S98) (x:S98):(ins47 l x).length ≤ l.length + 1:=by
 unfold ins47
 have:=insAt_le x l
 split
 ·simp only [List.length_append,List.length_take,List.length_drop,List.length_singleton];omega
 ·omega
theorem srt47_snoc (l:List S98) (x:S98):srt47 (l ++ [x]) = ins47 (srt47 l) x:=by simp [srt47]
theorem srt47_take (l:List S98) (i:Nat) (h:i < l.length):srt47 (l.take (i + 1)) = ins47 (srt47 (l.take i)) (rd_T98 l i):=by
 have:rd_T98 l (i:Int) = l[i]:=by unfold rd_T98;simp [List.getD_eq_getElem?_getD,h]
 rw [List.take_succ_eq_append_getElem h,srt47_snoc,this]
theorem srt47_len (l:List S98) (i:Nat) (h:i ≤ l.length):(srt47 (l.take i)).length ≤ i:=by
 induction i with
 | zero=>simp [srt47]
 | succ i ih=>
  rw [srt47_take l i (by omega)]
  have:=ins47_len (srt47 (l.take i)) (rd_T98 l i)
  have:=ih (by omega)
  omega
def RowOut {α:Type} (d:Kd α) (t:Nat) (w:World) (xs:List α) (e:Ending) (w':World):Prop:=∃ v,e = .returned v∧Kd.R d t w' w.heap.size (fun _=>True) v xs∧Below w.heap.size w w'
theorem cells100 {w:World} {A:Option Addr} {n:Nat} {xs:List S98} (h:Kd.C k98 w A n xs) (i:Nat) (hi:i < n):∃ ad,A = some ad∧w.cell? (ad.add (i * 6)) = some (.int .i64 (rd_T98 xs i).f0)∧w.cell? ⟨(ad.add (i * 6)).block,(ad.add (i * 6)).off + 1,none⟩ = some (.int .i64 (rd_T98 xs i).f1)∧w.cell? ⟨(ad.add (i * 6)).block,(ad.add (i * 6)).off + 2,none⟩ = some (.int .i64 (rd_T98 xs i).f2)∧w.cell? ⟨(ad.add (i * 6)).block,(ad.add (i * 6)).off + 3,none⟩ = some (.string (rd_T98 xs i).f3)∧w.cell? ⟨(ad.add (i * 6)).block,(ad.add (i * 6)).off + 4,none⟩ = some (.string (rd_T98 xs i).f4)∧w.cell? ⟨(ad.add (i * 6)).block,(ad.add (i * 6)).off + 5,none⟩ = some (.string (rd_T98 xs i).f5):=by
 have:=at_T98 h (i:Int) (by omega) (by omega)
 simpa only [Int.toNat_natCast] using this
theorem k98_KM {w:World} {base:Nat} {ok:Nat→Prop} {x:S98} {cs:List Value} (h:k98.K w x cs):k98.M w base ok x cs:=by
 obtain rfl:=k98_open h
 exact k98_mkM w base ok x
theorem Kd.R_lt' {α:Type} {d:Kd α} {e:Nat} {w:World} {base:Nat} {ok:Nat→Prop} {v:Value} {xs:List α} (h:Kd.R d e w base ok v xs) (k:Nat) (hk:v.ownBlock = some k):k < w.heap.size:=by
 obtain ⟨inner,ho⟩:=Kd.R_own h
 exact own_lt ho k hk
theorem Kd.R_other {w w1:World} {base:Nat} {v u:Value} {xs:List S98} (h:Kd.R k98 98 w base (fun _=>True) v xs) (hg:w.grownBy w1 u.ownBlock) (hn:∀ k,some k = v.ownBlock→some k ≠ u.ownBlock):Kd.R k98 98 w1 base (fun _=>True) v xs:=by
 obtain ⟨h0,inner,ho,hr⟩:=h
 refine ⟨fun _ _=>trivial,inner,own_move ho (fun k hk=>hg.block k (own_lt ho k hk) (hn k hk.symm)),hr.imp_ (fun p c hp=>?_)⟩
 exact k98_KM (k98.K_of_M hp |> fun h=>by obtain rfl:=k98_open h;exact k98_mk w1 p)
attribute [local go_sem high] eqA100
def srtT.T9:Bool × List (List Nat × List Nat):=(true,[([],[]),([],[]),([],[]),([1,2],[1,2]),([0,3],[0,3]),([],[]),([],[]),([5,6],[5,6]),([7],[7]),([8],[8]),([4,9,4],[4,9]),([],[]),([],[]),([11,12],[11,12]),([10,13,10],[10,13]),([14,14,0,1,2,3,4,5,6,7,8,9,10,11,12,13,14],[1,11,14])])
def srtT.B9:List Nat:=[0,0,0,6,15,0,0,96,224,480,1023,0,0,6144,16383,32767]
theorem srtT.tab9:rtab .any (opsOf Tryz.f29 9) = srtT.T9:=by kernel_rfl
theorem srtT.bits9:waitsOk srtT.T9.2 srtT.B9 = true:=by kernel_rfl
set_option maxHeartbeats 8000000 in
set_option maxRecDepth 100000 in
theorem sorted_calls (A:Option Addr) (c:Nat) (l:List S98) (w:World) (hr:Kd.C k98 w A l.length l) (hl:l.length ≤ 1000):
  Calls Tryz.prog 29 #[.slice A l.length c] w (RowOut k98 98 w (srt47 l)):=by
 have HR:=Aside0.mk hr
 clear hr
 go_enter Tryz.func29,Tryz.ntmps29
 go_wp2
 go_loopg [3,4] l.length (fun gg s3 s4 wr=>∃ i:Nat,i ≤ l.length∧l.length - i ≤ gg∧s4 = .int .i64 i∧Aside0 (Kd.R k98 98 wr w.heap.size (fun _=>True) s3 (srt47 (l.take i)))∧Aside0 (Below w.heap.size w wr))
 case atStart=>exact ⟨0,Nat.zero_le _,by omega,rfl,⟨Kd.R_nil _ _ _ _ _⟩,⟨Below.refl _ _⟩⟩
 case round=>
  obtain ⟨i,hi,hgi,rfl,HO,HB⟩:=hrel
  by_cases hlt:i < l.length
  ·obtain ⟨ad,e,h0,h1,h2,h3,h4,h5⟩:=cells100 HR.out i hlt
   subst e
   have HS:=Aside0.mk (srt47_take l i hlt)
   have HL:=srt47_len l i hi
   generalize srt47 (l.take i) = xs at HO HS HL
   generalize rd_T98 l (i:Int) = x at h0 h1 h2 h3 h4 h5 HS
   obtain ⟨x0,x1,x2,x3,x4,x5⟩:=x
   dsimp only at h0 h1 h2 h3 h4 h5
   replace h0:=below_at HB.out h0
   replace h1:=below_at HB.out h1
   replace h2:=below_at HB.out h2
   replace h3:=below_at HB.out h3
   replace h4:=below_at HB.out h4
   replace h5:=below_at HB.out h5
   obtain ⟨A3,c3,e3⟩:=Kd.R_slice HO.out
   subst e3
   have HC:=Aside0.mk (Kd.R_reads' HO.out).2.2
   have hc3:xs.length ≤ c3:=(Kd.R_reads' HO.out).2.1
   have hltz:(i:Int) < (l.length:Int):=by omega
   have hle:=insAt_le ⟨x0,x1,x2,x3,x4,x5⟩ xs
   have HLess:=Aside0.mk (insAt_less ⟨x0,x1,x2,x3,x4,x5⟩ xs)
   have HNot:=Aside0.mk (insAt_not ⟨x0,x1,x2,x3,x4,x5⟩ xs)
   have HNew:Aside0 (insNew ⟨x0,x1,x2,x3,x4,x5⟩ xs = if insAt ⟨x0,x1,x2,x3,x4,x5⟩ xs = xs.length then true else !same100 (rd_T98 xs (insAt ⟨x0,x1,x2,x3,x4,x5⟩ xs)) ⟨x0,x1,x2,x3,x4,x5⟩):=⟨rfl⟩
   have HIns:Aside0 (srt47 (l.take (i + 1)) = if insNew ⟨x0,x1,x2,x3,x4,x5⟩ xs = true then xs.take (insAt ⟨x0,x1,x2,x3,x4,x5⟩ xs) ++ [⟨x0,x1,x2,x3,x4,x5⟩] ++ xs.drop (insAt ⟨x0,x1,x2,x3,x4,x5⟩ xs) else xs):=HS
   generalize insNew ⟨x0,x1,x2,x3,x4,x5⟩ xs = nw at HNew HIns
   generalize insAt ⟨x0,x1,x2,x3,x4,x5⟩ xs = kx at hle HLess HNot HNew HIns
   clear HS
   obtain ⟨wo,rfl⟩:∃ wo:World,wo = wr:=⟨_,rfl⟩
   go_upto_block 2 with fail
   go_cut [5] (fun s5 w2=>s5 = .int .i64 (kx:Int)∧Aside0 (Below wo.heap.size wo w2))
   case first=>
    go_wp2_with fail
    go_loopg [5] xs.length (fun gg s5 w2=>∃ k:Nat,k ≤ kx∧xs.length - k ≤ gg∧s5 = .int .i64 (k:Int)∧Aside0 (Below wo.heap.size wo w2))
    case atStart=>exact ⟨0,Nat.zero_le _,by omega,by rfl,⟨Below.refl _ _⟩⟩
    case round=>
     obtain ⟨k,hk,hgk,rfl,HW⟩:=hrel
     by_cases hkl:k < xs.length
     ·obtain ⟨a3,e,p0,p1,p2,p3,p4,p5⟩:=cells100 HC.out k hkl
      subst e
      have HCM:=Aside0.mk (cmp47_calls (rd_T98 xs (k:Int)) ⟨x0,x1,x2,x3,x4,x5⟩)
      have hrd:rd_T98 xs (k:Int) = xs[k]:=by unfold rd_T98;simp [List.getD_eq_getElem?_getD,hkl]
      have HQ1:Aside0 (k < kx→cmp47 (rd_T98 xs (k:Int)) ⟨x0,x1,x2,x3,x4,x5⟩ < 0):=⟨fun h=>by rw [hrd];exact HLess.out k h hkl⟩
      have HQ2:Aside0 (k = kx→0 ≤ cmp47 (rd_T98 xs (k:Int)) ⟨x0,x1,x2,x3,x4,x5⟩):=⟨fun h=>by rw [hrd];subst h;have:=HNot.out hkl;omega⟩
      clear hrd
      unfold chgVals at HCM
      generalize cmp47 (rd_T98 xs (k:Int)) ⟨x0,x1,x2,x3,x4,x5⟩ = z at HCM HQ1 HQ2
      generalize rd_T98 xs (k:Int) = y at p0 p1 p2 p3 p4 p5 HCM
      obtain ⟨y0,y1,y2,y3,y4,y5⟩:=y
      dsimp only at p0 p1 p2 p3 p4 p5 HCM
      replace p0:=below_at HW.out p0
      replace p1:=below_at HW.out p1
      replace p2:=below_at HW.out p2
      replace p3:=below_at HW.out p3
      replace p4:=below_at HW.out p4
      replace p5:=below_at HW.out p5
      have g0:=(HW.out.cell (World.block_lt_of_cell? wo _ h0)).trans h0
      have g1:=(HW.out.cell (World.block_lt_of_cell? wo _ h1)).trans h1
      have g2:=(HW.out.cell (World.block_lt_of_cell? wo _ h2)).trans h2
      have g3:=(HW.out.cell (World.block_lt_of_cell? wo _ h3)).trans h3
      have g4:=(HW.out.cell (World.block_lt_of_cell? wo _ h4)).trans h4
      have g5:=(HW.out.cell (World.block_lt_of_cell? wo _ h5)).trans h5
      have hkz:(k:Int) < (xs.length:Int):=by omega
      clear h0 h1 h2 h3 h4 h5
      go_wp2_with fail
      refine wp_region_still_tail 13 (by kernel_rfl) (by kernel_rfl) ?_
      rw [show ({ heap:=wr.heap,tape:=wr.tape,drawn:=wr.drawn + 1,os:=wr.os,output:=wr.output }:World) = wr.drew from rfl]
      replace p0:wr.drew.cell? _ = some _:=p0
      replace p1:wr.drew.cell? _ = some _:=p1
      replace p2:wr.drew.cell? _ = some _:=p2
      replace p3:wr.drew.cell? _ = some _:=p3
      replace p4:wr.drew.cell? _ = some _:=p4
      replace p5:wr.drew.cell? _ = some _:=p5
      replace g0:wr.drew.cell? _ = some _:=g0
      replace g1:wr.drew.cell? _ = some _:=g1
      replace g2:wr.drew.cell? _ = some _:=g2
      replace g3:wr.drew.cell? _ = some _:=g3
      replace g4:wr.drew.cell? _ = some _:=g4
      replace g5:wr.drew.cell? _ = some _:=g5
      have HW1:=Aside0.mk (HW.out.drew)
      clear HW
      generalize wr.drew = W2 at *
      clear wr
      simp only [List.take_succ_cons,List.take_zero,List.drop_succ_cons,List.drop_zero]
      repeat still_step
      refine wpStill_nil ?_
      clear p0 p1 p2 p3 p4 p5 g0 g1 g2 g3 g4 g5
      by_cases hz:z < 0
      ·have hz1:decide (z < 0) = true:=by simpa using hz
       have hkK:k < kx:=by
        apply Classical.byContradiction
        intro h
        have:=HQ2.out (by omega);omega
       clear hz
       go_wp2_with (go_at_call 42;refine (HCM.out _).mono ?_;rintro e w3 ⟨rfl,hb3⟩)
       go_roundg (xs.length - (k + 1))
       case measure=>omega
       case rel=>exact ⟨k + 1,by omega,by omega,by go_num,⟨below_step HW1.out hb3⟩⟩
      ·have hz1:decide (z < 0) = false:=by simpa using hz
       have hkK:kx = k:=by
        apply Classical.byContradiction
        intro h
        exact hz (HQ1.out (by omega))
       have HKK:=Aside0.mk hkK
       clear hz hkK
       go_wp2_with (go_at_call 42;refine (HCM.out _).mono ?_;rintro e w3 ⟨rfl,hb3⟩)
       go_meet
       exact ⟨by rw [HKK.out],⟨below_step HW1.out hb3⟩⟩
     ·have hkl2:k = xs.length:=by omega
      have HKK:Aside0 (kx = k):=⟨by omega⟩
      have hkz:decide (k < xs.length) = false:=by simp;omega
      clear hkl hkl2
      go_wp2_with fail
      go_quiet (fail)
      go_wp2
      go_meet
      exact ⟨by rw [HKK.out],⟨pw_below_drewN HW.out _⟩⟩
   case rest=>
    obtain ⟨rfl,HW⟩:=hcut
    go_upto_region 8 with fail
    go_cut [44] (fun s44 w3=>s44 = .bool nw∧Aside0 (Below wo.heap.size wo w3))
    case first=>
     by_cases hK:kx = xs.length
     ·have hn:Aside0 (nw = true):=⟨by rw [HNew.out,if_pos hK]⟩
      have hb:((kx:Int) == (xs.length:Int)) = true:=beq_iff_eq.mpr (by omega)
      clear hK
      go_wp2_with fail
      go_quiet (fail)
      go_wp2
      go_meet
      exact ⟨by rw [hn.out],⟨pw_below_drewN HW.out _⟩⟩
     ·have hn:Aside0 (nw = !same100 (rd_T98 xs kx) ⟨x0,x1,x2,x3,x4,x5⟩):=⟨by rw [HNew.out,if_neg hK]⟩
      have hb:((kx:Int) == (xs.length:Int)) = false:=beq_eq_false_iff_ne.mpr (by omega)
      have hkz:(kx:Int) < (xs.length:Int):=by omega
      obtain ⟨a3,e,p0,p1,p2,p3,p4,p5⟩:=cells100 HC.out kx (by omega)
      subst e
      generalize rd_T98 xs (kx:Int) = y at p0 p1 p2 p3 p4 p5 hn
      obtain ⟨y0,y1,y2,y3,y4,y5⟩:=y
      dsimp only at p0 p1 p2 p3 p4 p5
      replace p0:=below_at HW.out p0
      replace p1:=below_at HW.out p1
      replace p2:=below_at HW.out p2
      replace p3:=below_at HW.out p3
      replace p4:=below_at HW.out p4
      replace p5:=below_at HW.out p5
      have g0:=(HW.out.cell (World.block_lt_of_cell? wo _ h0)).trans h0
      have g1:=(HW.out.cell (World.block_lt_of_cell? wo _ h1)).trans h1
      have g2:=(HW.out.cell (World.block_lt_of_cell? wo _ h2)).trans h2
      have g3:=(HW.out.cell (World.block_lt_of_cell? wo _ h3)).trans h3
      have g4:=(HW.out.cell (World.block_lt_of_cell? wo _ h4)).trans h4
      have g5:=(HW.out.cell (World.block_lt_of_cell? wo _ h5)).trans h5
      clear hK h0 h1 h2 h3 h4 h5
      go_wp2_with fail
      go_quiet (fail)
      go_wp2
      go_meet
      exact ⟨by rw [hn.out];unfold same100;simp,⟨pw_below_drewN HW.out _⟩⟩
    case rest=>
     obtain ⟨rfl,HW2⟩:=hcut
     clear HNew HNot HLess
     cases nw with
     | false=>
      have HE:Aside0 (srt47 (l.take (i + 1)) = xs):=HIns
      go_wp2
      go_roundg (l.length - (i + 1))
      case measure=>omega
      case rel=>exact ⟨i + 1,by omega,by omega,by go_num,⟨by rw [HE.out];exact Kd.R_below HO.out HW2.out⟩,⟨below_step HB.out HW2.out⟩⟩
     | true=>
      have HE:Aside0 (srt47 (l.take (i + 1)) = xs.take kx ++ [⟨x0,x1,x2,x3,x4,x5⟩] ++ xs.drop kx):=HIns
      clear HIns
      have g0:=(HW2.out.cell (World.block_lt_of_cell? wo _ h0)).trans h0
      have g1:=(HW2.out.cell (World.block_lt_of_cell? wo _ h1)).trans h1
      have g2:=(HW2.out.cell (World.block_lt_of_cell? wo _ h2)).trans h2
      have g3:=(HW2.out.cell (World.block_lt_of_cell? wo _ h3)).trans h3
      have g4:=(HW2.out.cell (World.block_lt_of_cell? wo _ h4)).trans h4
      have g5:=(HW2.out.cell (World.block_lt_of_cell? wo _ h5)).trans h5
      clear h0 h1 h2 h3 h4 h5
      have HO3:=Aside0.mk (Kd.R_below HO.out HW2.out)
      have HB3:=Aside0.mk (below_step HB.out HW2.out)
      clear HO HB HW HW2
      obtain ⟨i0,hi0,_,hsz,_⟩:=info_parts info98
      have hK0:(0:Int) ≤ (kx:Int):=by omega
      have hK1:(kx:Int) ≤ (xs.length:Int):=by omega
      have hcutA:=cut_to (P:=Tryz.prog) 31 98 .i64 Tryz.underlying31 hi0 A3 xs.length c3 (kx:Int) hK0 hK1 hc3
      have hcutB:=cut_from (P:=Tryz.prog) 31 98 .i64 Tryz.underlying31 hi0 6 hsz A3 xs.length c3 (kx:Int) hK0 hK1
      rw [Int.toNat_natCast] at hcutA hcutB
      have hdrop:=Kd.C_drop (m:=kx) (Kd.R_reads' HO3.out).2.2 hle hc3
      rw [List.length_drop] at hdrop
      have htake:=Kd.C_take (m:=kx) (Kd.R_reads' HO3.out).2.2 hle
      rw [show (xs.take kx).length = kx from by rw [List.length_take];omega] at htake
      have hsz6:k98.sz = 6:=rfl
      rw [hsz6] at hdrop
      obtain ⟨A4,hA4⟩:∃ A4,A4 = (if c3 = kx then A3 else A3.map (·.add (kx * 6))):=⟨_,rfl⟩
      rw [← hA4] at hcutB hdrop
      have HD:=Aside0.mk hdrop
      have HT:=Aside0.mk htake
      clear hdrop htake hA4 hi0 hsz
      have hx:∀ W,k98.M W wc.heap.size (fun _=>False) ⟨x0,x1,x2,x3,x4,x5⟩ [.int .i64 x0,.int .i64 x1,.int .i64 x2,.string x3,.string x4,.string x5]:=fun W=>k98_mkM W _ _ ⟨x0,x1,x2,x3,x4,x5⟩
      have HX:=Aside0.mk hx
      have hwb:w.heap.size ≤ wc.heap.size:=HB3.out.size
      have HWB:=Aside0.mk hwb
      have hlen:(xs.take kx).length = kx:=by rw [List.length_take];omega
      have HLEN:=Aside0.mk hlen
      have hlen2:(xs.drop kx).length = xs.length - kx:=by rw [List.length_drop]
      have HLEN2:=Aside0.mk hlen2
      clear hx hwb hlen hlen2 hsz6
      go_wp2_with fail
      refine start_ (n:=16) (S:=fun w'=>Below wc.heap.size wc w') (ds:=[]) (bq 16 0) (by kernel_rfl) rfl rfl (Below.refl _ _).drew (fun hHeld=>?_)
      refine with_tabW srtT.tab9 srtT.bits9 (fun HT_ HW_=>?_)
      generalize wc.drew = wd at hHeld ⊢
      refine pu_ 1 (some 46) (bq 16 2) HT_ rfl rfl ?_
      refine pu_ 2 (some 47) (bq 16 6) HT_ rfl rfl ?_
      refine pu_ 3 (some 48) (bq 16 14) HT_ rfl rfl ?_
      refine pu_ 5 (some 50) (bq 16 46) HT_ rfl rfl ?_
      refine pu_ 6 (some 51) (bq 16 110) HT_ rfl rfl ?_
      refine pu_ 7 (some 52) (bq 16 238) HT_ rfl rfl ?_
      refine tk_ 8 (some 53) (bq 16 494) HT_ HW_ rfl rfl hHeld ?_ (by intro w' hS;replace g0:=below_at hS g0;replace g1:=below_at hS g1;replace g2:=below_at hS g2;replace g3:=below_at hS g3;replace g4:=below_at hS g4;replace g5:=below_at hS g5;go_simp;with_reducible rfl)
      refine pu_ 11 (some 56) (bq 16 2542) HT_ rfl rfl ?_
      refine pu_ 12 (some 57) (bq 16 6638) HT_ rfl rfl ?_
      refine pu_ 13 (some 58) (bq 16 14830) HT_ rfl rfl ?_
      refine join_ (σ:=Value × Value × Value) 3 (bq 16 15359) (fun s=>[(45,s.1),(49,s.2.1),(54,s.2.2)]) (fun s w'=>Below wc.heap.size wc w'∧Kd.R k98 98 w' wc.heap.size (fun _=>True) s.2.1 (xs.take kx)∧∃ A c,s.2.2 = .slice A 1 c∧Kd.C k98 w' A 1 [⟨x0,x1,x2,x3,x4,x5⟩]) ?_ ?_
      rotate_left
      ·intro hCont
       refine two_ (i:=0) (j:=9) (Ni:=some 45) (Nj:=some 54) (bq 16 14831) (bq 16 15342) rfl rfl rfl rfl (two_of HT_.out (by kernel_rfl)) (by decide) (by decide) (fun K hK=>?_) (fun K hK=>?_)
       ·refine Kd.R_lit_step k98 (w0:=wc) wc.heap.size 98 (by rfl) (N:=45) rfl (xs:=([]:List S98)) (inner:=[]) (ok:=fun _=>True) (okp:=fun _=>False) (by go_simp) (Reps.none _ _) (fun _ h=>h.elim) trivial hHeld hHeld.size (by simp) ?_
        intro v45 W45 hr45 hb45 hg45 ho45
        refine hK.out _ _ hb45 (fun hHeld=>?_)
        clear hK K
        refine norm_ (a':=?_) ?_ ?_
        rotate_left
        ·show Act.put _ (some 45) _ = _
         simp only [Act.put,List.setIfInBounds_toArray,List.set_cons_zero,List.set_cons_succ,i64_w,i32_w]
         rfl
        refine two_ (i:=4) (j:=9) (Ni:=some 49) (Nj:=some 54) (bq 16 14847) (bq 16 15343) rfl rfl rfl rfl (two_of HT_.out (by kernel_rfl)) (by decide) (by decide) (fun K hK=>?_) (fun K hK=>?_)
        ·refine Kd.R_append_rows_step k98 (Rr:=k98.K _) (w0:=wc) wc.heap.size (by rfl) (.tmp 45) (.tmp 48) 31 98 _ 72 rfl Tryz.underlying31 info98 rfl (by decide) (by decide) v45 [] (xs.take kx) A3 kx c3 (fun _=>True) (fun _=>False) (by rfl) (by rfl) hr45 (by exact Kd.C_below HT.out hHeld) (fun x cs h=>k98_KM h) (fun _ h=>h.elim) (fun _ _=>trivial) hHeld hHeld.size (by simp;omega) ?_
         intro v49 W49 hr49 hb49 hg49 ho49
         refine hK.out _ _ hb49 (fun hHeld=>?_)
         clear hK K
         refine norm_ (a':=?_) ?_ ?_
         rotate_left
         ·show Act.put _ (some 49) _ = _
          simp only [Act.put,List.setIfInBounds_toArray,List.set_cons_zero,List.set_cons_succ,i64_w,i32_w]
          rfl
         refine one_ (i:=9) (N:=some 54) (bq 16 15359) rfl rfl (one_of HT_.out (by kernel_rfl)) (by decide) (fun K hK=>?_)
         refine Kd.R_lit_step k98 (w0:=wc) wc.heap.size 98 (by rfl) (N:=54) rfl (xs:=[⟨x0,x1,x2,x3,x4,x5⟩]) (inner:=[.int .i64 x0,.int .i64 x1,.int .i64 x2,.string x3,.string x4,.string x5]) (ok:=fun _=>True) (okp:=fun _=>False) (by go_simp) ((Reps.none _ _).snoc (HX.out _) rfl) (fun _ h=>h.elim) trivial hHeld hHeld.size (by simp) ?_
         intro v54 W54 hr54 hb54 hg54 ho54
         replace hr49:=Kd.R_grown hr49 hg54 (fun k _=>by simp)
         refine hK.out _ _ hb54 (fun hHeld=>?_)
         clear hK K
         refine norm_ (a':=?_) ?_ ?_
         rotate_left
         ·show Act.put _ (some 54) _ = _
          simp only [Act.put,List.setIfInBounds_toArray,List.set_cons_zero,List.set_cons_succ,i64_w,i32_w]
          rfl
         obtain ⟨A5,c5,e5,_,hc5⟩:=Kd.R_reads hr54
         exact norm_ (by simp only [putAll,Act.put,List.setIfInBounds_toArray,List.set_cons_zero,List.set_cons_succ]) (hCont (v45,v49,v54) _ ⟨hHeld,hr49,A5,c5,e5,hc5⟩)
        ·refine Kd.R_lit_step k98 (w0:=wc) wc.heap.size 98 (by rfl) (N:=54) rfl (xs:=[⟨x0,x1,x2,x3,x4,x5⟩]) (inner:=[.int .i64 x0,.int .i64 x1,.int .i64 x2,.string x3,.string x4,.string x5]) (ok:=fun _=>True) (okp:=fun _=>False) (by go_simp) ((Reps.none _ _).snoc (HX.out _) rfl) (fun _ h=>h.elim) trivial hHeld hHeld.size (by simp) ?_
         intro v54 W54 hr54 hb54 hg54 ho54
         have hn54:∀ k,some k = v54.ownBlock→some k ≠ v45.ownBlock:=fun k hk=>by
          obtain ⟨b,e1,e2⟩:=ho54
          rw [e1] at hk
          injection hk with hk
          intro e
          have:=Kd.R_lt' hr45 k e.symm
          omega
         replace hr45:=Kd.R_grown hr45 hg54 (fun k _=>by simp)
         refine hK.out _ _ hb54 (fun hHeld=>?_)
         clear hK K
         refine norm_ (a':=?_) ?_ ?_
         rotate_left
         ·show Act.put _ (some 54) _ = _
          simp only [Act.put,List.setIfInBounds_toArray,List.set_cons_zero,List.set_cons_succ,i64_w,i32_w]
          rfl
         refine one_ (i:=4) (N:=some 49) (bq 16 15359) rfl rfl (one_of HT_.out (by kernel_rfl)) (by decide) (fun K hK=>?_)
         refine Kd.R_append_rows_step k98 (Rr:=k98.K _) (w0:=wc) wc.heap.size (by rfl) (.tmp 45) (.tmp 48) 31 98 _ 72 rfl Tryz.underlying31 info98 rfl (by decide) (by decide) v45 [] (xs.take kx) A3 kx c3 (fun _=>True) (fun _=>False) (by rfl) (by rfl) hr45 (by exact Kd.C_below HT.out hHeld) (fun x cs h=>k98_KM h) (fun _ h=>h.elim) (fun _ _=>trivial) hHeld hHeld.size (by simp;omega) ?_
         intro v49 W49 hr49 hb49 hg49 ho49
         replace hr54:=Kd.R_other hr54 hg49 hn54
         refine hK.out _ _ hb49 (fun hHeld=>?_)
         clear hK K
         refine norm_ (a':=?_) ?_ ?_
         rotate_left
         ·show Act.put _ (some 49) _ = _
          simp only [Act.put,List.setIfInBounds_toArray,List.set_cons_zero,List.set_cons_succ,i64_w,i32_w]
          rfl
         obtain ⟨A5,c5,e5,_,hc5⟩:=Kd.R_reads hr54
         exact norm_ (by simp only [putAll,Act.put,List.setIfInBounds_toArray,List.set_cons_zero,List.set_cons_succ]) (hCont (v45,v49,v54) _ ⟨hHeld,hr49,A5,c5,e5,hc5⟩)
       ·refine Kd.R_lit_step k98 (w0:=wc) wc.heap.size 98 (by rfl) (N:=54) rfl (xs:=[⟨x0,x1,x2,x3,x4,x5⟩]) (inner:=[.int .i64 x0,.int .i64 x1,.int .i64 x2,.string x3,.string x4,.string x5]) (ok:=fun _=>True) (okp:=fun _=>False) (by go_simp) ((Reps.none _ _).snoc (HX.out _) rfl) (fun _ h=>h.elim) trivial hHeld hHeld.size (by simp) ?_
        intro v54 W54 hr54 hb54 hg54 ho54
        refine hK.out _ _ hb54 (fun hHeld=>?_)
        clear hK K
        refine norm_ (a':=?_) ?_ ?_
        rotate_left
        ·show Act.put _ (some 54) _ = _
         simp only [Act.put,List.setIfInBounds_toArray,List.set_cons_zero,List.set_cons_succ,i64_w,i32_w]
         rfl
        refine one_ (i:=0) (N:=some 45) (bq 16 15343) rfl rfl (one_of HT_.out (by kernel_rfl)) (by decide) (fun K hK=>?_)
        refine Kd.R_lit_step k98 (w0:=wc) wc.heap.size 98 (by rfl) (N:=45) rfl (xs:=([]:List S98)) (inner:=[]) (ok:=fun _=>True) (okp:=fun _=>False) (by go_simp) (Reps.none _ _) (fun _ h=>h.elim) trivial hHeld hHeld.size (by simp) ?_
        intro v45 W45 hr45 hb45 hg45 ho45
        have hn54:∀ k,some k = v54.ownBlock→some k ≠ v45.ownBlock:=fun k hk=>by
         obtain ⟨b,e1,e2⟩:=ho45
         have:=Kd.R_lt' hr54 k hk.symm
         rw [e1]
         intro e
         injection e with e
         omega
        replace hr54:=Kd.R_grown hr54 hg45 (fun k _=>by simp)
        refine hK.out _ _ hb45 (fun hHeld=>?_)
        clear hK K
        refine norm_ (a':=?_) ?_ ?_
        rotate_left
        ·show Act.put _ (some 45) _ = _
         simp only [Act.put,List.setIfInBounds_toArray,List.set_cons_zero,List.set_cons_succ,i64_w,i32_w]
         rfl
        refine one_ (i:=4) (N:=some 49) (bq 16 15359) rfl rfl (one_of HT_.out (by kernel_rfl)) (by decide) (fun K hK=>?_)
        refine Kd.R_append_rows_step k98 (Rr:=k98.K _) (w0:=wc) wc.heap.size (by rfl) (.tmp 45) (.tmp 48) 31 98 _ 72 rfl Tryz.underlying31 info98 rfl (by decide) (by decide) v45 [] (xs.take kx) A3 kx c3 (fun _=>True) (fun _=>False) (by rfl) (by rfl) hr45 (by exact Kd.C_below HT.out hHeld) (fun x cs h=>k98_KM h) (fun _ h=>h.elim) (fun _ _=>trivial) hHeld hHeld.size (by simp;omega) ?_
        intro v49 W49 hr49 hb49 hg49 ho49
        replace hr54:=Kd.R_other hr54 hg49 hn54
        refine hK.out _ _ hb49 (fun hHeld=>?_)
        clear hK K
        refine norm_ (a':=?_) ?_ ?_
        rotate_left
        ·show Act.put _ (some 49) _ = _
         simp only [Act.put,List.setIfInBounds_toArray,List.set_cons_zero,List.set_cons_succ,i64_w,i32_w]
         rfl
        obtain ⟨A5,c5,e5,_,hc5⟩:=Kd.R_reads hr54
        exact norm_ (by simp only [putAll,Act.put,List.setIfInBounds_toArray,List.set_cons_zero,List.set_cons_succ]) (hCont (v45,v49,v54) _ ⟨hHeld,hr49,A5,c5,e5,hc5⟩)
      rintro ⟨v45,v49,v54⟩ w5 ⟨hHeld,hr49,A5,c5,e5,hc5⟩
      dsimp only at hr49 e5
      subst e5
      have hC5:=Aside0.mk hc5
      clear hc5
      refine norm_ (a':=?_) ?_ ?_
      rotate_left
      ·simp only [putAll,Act.put,List.setIfInBounds_toArray,List.set_cons_zero,List.set_cons_succ]
       rfl
      refine one_ (i:=10) (N:=some 55) (bq 16 16383) rfl rfl (one_of HT_.out (by kernel_rfl)) (by decide) (fun K hK=>?_)
      refine Kd.R_append_rows_step k98 (Rr:=k98.K _) (w0:=wc) wc.heap.size (by rfl) (.tmp 49) (.tmp 54) 31 98 _ 72 rfl Tryz.underlying31 info98 rfl (by decide) (by decide) v49 (xs.take kx) [⟨x0,x1,x2,x3,x4,x5⟩] A5 1 c5 (fun _=>True) (fun _=>False) (by rfl) (by rfl) hr49 (by exact hC5.out) (fun x cs h=>k98_KM h) (fun _ h=>h.elim) (fun _ _=>trivial) hHeld hHeld.size (by rw [HLEN.out];omega) ?_
      intro v55 W55 hr55 hb55 hg55 ho55
      refine hK.out _ _ hb55 (fun hHeld=>?_)
      clear hK K
      refine norm_ (a':=?_) ?_ ?_
      rotate_left
      ·show Act.put _ (some 55) _ = _
       simp only [Act.put,List.setIfInBounds_toArray,List.set_cons_zero,List.set_cons_succ,i64_w,i32_w]
       rfl
      refine one_ (i:=14) (N:=some 59) (bq 16 32767) rfl rfl (one_of HT_.out (by kernel_rfl)) (by decide) (fun K hK=>?_)
      refine Kd.R_append_rows_step k98 (Rr:=k98.K _) (w0:=wc) wc.heap.size (by rfl) (.tmp 55) (.tmp 58) 31 98 _ 72 rfl Tryz.underlying31 info98 rfl (by decide) (by decide) v55 (xs.take kx ++ [⟨x0,x1,x2,x3,x4,x5⟩]) (xs.drop kx) A4 (xs.length - kx) (c3 - kx) (fun _=>True) (fun _=>False) (by rfl) (by rfl) hr55 (by exact Kd.C_below HD.out hHeld) (fun x cs h=>k98_KM h) (fun _ h=>h.elim) (fun _ _=>trivial) hHeld hHeld.size (by rw [List.length_append,HLEN.out,List.length_singleton];omega) ?_
      intro v59 W59 hr59 hb59 hg59 ho59
      refine hK.out _ _ hb59 (fun hHeld=>?_)
      clear hK K
      refine norm_ (a':=?_) ?_ ?_
      rotate_left
      ·show Act.put _ (some 59) _ = _
       simp only [Act.put,List.setIfInBounds_toArray,List.set_cons_zero,List.set_cons_succ,i64_w,i32_w]
       rfl
      refine pu_ 15 (some 3) (bq 16 65535) HT_ rfl rfl ?_
      refine done_ (done_of HT_.out (by kernel_rfl)) ?_
      clear HT HD HX hcutA hcutB
      go_wp2
      go_roundg (l.length - (i + 1))
      case measure=>omega
      case rel=>exact ⟨i + 1,by omega,by omega,by go_num,⟨by rw [HE.out];exact Kd.R_lower hr59 HWB.out⟩,⟨below_step HB3.out hHeld⟩⟩
  ·obtain rfl:i = l.length:=by omega
   go_wp2
   go_ret
   exact ⟨_,rfl,by have:=HO.out;rwa [List.take_length] at this,HB.out⟩
end Go.Proofs.YtdadnapfecmmdaaGreat.P
