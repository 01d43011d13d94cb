/- Part 2 of the texts behind the last one of this claim. -/
import Derived.Test.YtkgdlbepjmgaiaaProg
import Derived.WalkLawsBesides
import Derived.Below
import Derived.Deep.Draws
import Derived.Deep.AppendLies
import Derived.Maps.AppendAt
import Derived.OwnWalk
import Derived.Laws.BytesArg
import Derived.Laws.MakeOwn
import Derived.Laws.OwnMore
import Derived.Deep.OwnRows
import Derived.Tactics
import Derived.Lib.ConvBytes
import Derived.Laws.Slices
import Derived.WalkKit
import Derived.KernelRfl
import Derived.RowKit3
import Derived.Deep.LoopGhost
import Derived.Deep.QuietTactic
import Derived.BigQuiet
import Derived.WideLaws
import Derived.Deep.DeepCutAuto
import Derived.Deep.CutBlock
import Derived.Deep.RegionHeld3
import Derived.Laws.Rows
import Derived.Lib.AppendStr
import Derived.ArgAppend
import Derived.Laws.IdiomCopy
import Derived.OrdersHeld
import Derived.Laws.BitsLemmas
import Derived.RowKit
import Derived.LoopTactic
import Derived.Outline
import Derived.IntWalk
import Derived.Test.YtkgdlbepjmgaiaaZMoves1
set_option linter.unusedVariables false
set_option linter.unusedSimpArgs false
namespace Go.Proofs.Ytkgdlbepjmgaiaa.Fea
open Go.RowKit YtkgdlbepjmgaiaaW.PrintWords YtkgdlbepjmgaiaaW.PrintLast YtkgdlbepjmgaiaaW.PrintMore
attribute [local go_sem] max2_int min2_int max_two min_two max_three min_three max_four min_four
def errW:Option Int→Value
  | none=>.nilIface
  | some c=>.iface 0 (.int .i64 c)
theorem errW_none:errW none=.nilIface:=rfl
theorem errW_some (c:Int):errW (some c)=.iface 0 (.int .i64 c):=rfl
theorem info28:(Try.prog.info? 28).map (fun i=>(i.zero,i.size,i.bytes))=some (some (.agg #[(.string ⟨#[]⟩),(.int .i64 0),(.int .i64 0),(.int .i64 0),(.int .i64 0),(.int .i64 0),(.int .i64 0),(.int .i64 0),(.slice none 0 0)]),9,96):=by kernel_rfl
structure S106 where
  f0:ByteArray
  f1:Int
def z106:S106:=⟨(⟨#[]⟩:ByteArray),(0:Int)⟩
def k106:Kd S106:=Kd.iso (Kd.pair Kd.string (Kd.int .i64)) (fun x:S106=>(x.f0,x.f1))
theorem k106_heap:Kd.Heap k106:=Kd.heap_iso _ (Kd.heap_pair Kd.heap_string (Kd.heap_int .i64))
theorem k106_open {w:World} {x:S106} {cs:List Value} (h:k106.K w x cs):cs=[.string x.f0,.int .i64 x.f1]:=by
 obtain⟨_,_,rfl,rfl,rfl⟩:=h
 exact rfl
theorem k106_openM {w:World} {base:Nat} {ok:Nat→Prop} {x:S106} {cs:List Value} (h:k106.M w base ok x cs):cs=[.string x.f0,.int .i64 x.f1]:=by
 obtain⟨_,_,rfl,rfl,rfl⟩:=h
 exact rfl
theorem k106_mk (w:World) (x:S106) :k106.K w x [.string x.f0,.int .i64 x.f1]:=⟨[.string x.f0],[.int .i64 x.f1],rfl,rfl,rfl⟩
theorem k106_mkM (w:World) (base:Nat) (ok:Nat→Prop) (x:S106) :k106.M w base ok x [.string x.f0,.int .i64 x.f1]:=⟨[.string x.f0],[.int .i64 x.f1],rfl,rfl,rfl⟩
theorem k106_mkF (W:World) (ok:Nat→Prop) (x:S106):Kd.FK k106 W ok x [.string x.f0,.int .i64 x.f1]:=fun W2 _=>k106_mk W2 x
def rd_T106 (xs:List S106) (i:Int):S106:=xs.getD i.toNat z106
theorem at_T106 {w:World} {A:Option Addr} {n:Nat} {xs:List S106} (h:Kd.C k106 w A n xs) (i:Int) (h0:0≤i) (h1:i < n):∃ ad ,A=some ad∧w.cell? (ad.add (i.toNat * 2))=some (.string (rd_T106 xs i).f0)∧w.cell? ⟨(ad.add (i.toNat * 2)).block,(ad.add (i.toNat * 2)).off+1,none⟩=some (.int .i64 (rd_T106 xs i).f1):=by
 obtain⟨ad,c,e,_,hK,hc0⟩:=Kd.C_get h z106 i h0 h1
 have hc:∀ j u,c[j]?=some u→w.cell? (ad.add (i.toNat * 2+j))=some u:=hc0
 obtain rfl:=k106_open hK
 exact⟨ad,e,hc 0 _ rfl,by rw[← add_field _ _ 1 (by omega)];exact hc 1 _ rfl⟩
def rd_L4 (xs:List (List S106)) (i:Int):(List S106):=xs.getD i.toNat ([]:List S106)
theorem at_L4 {w:World} {A:Option Addr} {n:Nat} {xs:List (List S106)} (h:Kd.C (Kd.slice 106 k106) w A n xs) (i:Int) (h0:0≤i) (h1:i < n):∃ ad A0 c0,A=some ad∧w.cell? (ad.add i.toNat)=some (.slice A0 (rd_L4 xs i).length c0)∧(rd_L4 xs i).length≤c0∧k106.C w A0 (rd_L4 xs i).length (rd_L4 xs i):=by
 obtain⟨ad,c,e,_,hK,hc0⟩:=Kd.C_get h ([]:List S106) i h0 h1
 have hc:∀ j u,c[j]?=some u→w.cell? (ad.add (i.toNat * 1+j))=some u:=hc0
 obtain⟨A0,c0,rfl,l0,g0⟩:=hK
 exact⟨ad,A0,c0,e,by have hq:=hc 0 _ rfl;rwa[Nat.mul_one,Nat.add_zero] at hq,l0,g0⟩
structure S104 where
  f0:Int
  f1:Bool
  f2:Int
  f3:Int
  f4:(List S106)
def z104:S104:=⟨(0:Int),false,(0:Int),(0:Int),([]:List S106)⟩
def k104:Kd S104:=Kd.iso (Kd.pair (Kd.int .i64) (Kd.pair Kd.bool (Kd.pair (Kd.int .i64) (Kd.pair (Kd.int .i64) (Kd.slice 106 k106))))) (fun x:S104=>(x.f0,x.f1,x.f2,x.f3,x.f4))
theorem k104_heap:Kd.Heap k104:=Kd.heap_iso _ (Kd.heap_pair (Kd.heap_int .i64) (Kd.heap_pair Kd.heap_bool (Kd.heap_pair (Kd.heap_int .i64) (Kd.heap_pair (Kd.heap_int .i64) (Kd.heap_slice 106 k106_heap)))))
theorem k104_open {w:World} {x:S104} {cs:List Value} (h:k104.K w x cs):∃ A4 c4,cs=[.int .i64 x.f0,.bool x.f1,.int .i64 x.f2,.int .i64 x.f3,.slice A4 x.f4.length c4]∧x.f4.length≤c4∧k106.C w A4 x.f4.length x.f4:=by
 obtain⟨_,_,rfl,rfl,⟨_,_,rfl,rfl,⟨_,_,rfl,rfl,⟨_,_,rfl,rfl,⟨A4,c4,rfl,l4,g4⟩⟩⟩⟩⟩:=h
 exact⟨A4,c4,rfl,l4,g4⟩
theorem k104_openM {w:World} {base:Nat} {ok:Nat→Prop} {x:S104} {cs:List Value} (h:k104.M w base ok x cs):∃ v4,cs=[.int .i64 x.f0,.bool x.f1,.int .i64 x.f2,.int .i64 x.f3,v4]∧k106.R 106 w base ok v4 x.f4:=by
 obtain⟨_,_,rfl,rfl,⟨_,_,rfl,rfl,⟨_,_,rfl,rfl,⟨_,_,rfl,rfl,⟨v4,rfl,g4⟩⟩⟩⟩⟩:=h
 exact⟨v4,rfl,g4⟩
theorem k104_mk (w:World) (x:S104) {A4:Option Addr} {c4:Nat} (l4:x.f4.length≤c4) (g4:k106.C w A4 x.f4.length x.f4):k104.K w x [.int .i64 x.f0,.bool x.f1,.int .i64 x.f2,.int .i64 x.f3,.slice A4 x.f4.length c4]:=⟨[.int .i64 x.f0],[.bool x.f1,.int .i64 x.f2,.int .i64 x.f3,.slice A4 x.f4.length c4],rfl,rfl,⟨[.bool x.f1],[.int .i64 x.f2,.int .i64 x.f3,.slice A4 x.f4.length c4],rfl,rfl,⟨[.int .i64 x.f2],[.int .i64 x.f3,.slice A4 x.f4.length c4],rfl,rfl,⟨[.int .i64 x.f3],[.slice A4 x.f4.length c4],rfl,rfl,⟨A4,c4,rfl,l4,g4⟩⟩⟩⟩⟩
theorem k104_mkM (w:World) (base:Nat) (ok:Nat→Prop) (x:S104) {v4:Value} (g4:k106.R 106 w base ok v4 x.f4):k104.M w base ok x [.int .i64 x.f0,.bool x.f1,.int .i64 x.f2,.int .i64 x.f3,v4]:=⟨[.int .i64 x.f0],[.bool x.f1,.int .i64 x.f2,.int .i64 x.f3,v4],rfl,rfl,⟨[.bool x.f1],[.int .i64 x.f2,.int .i64 x.f3,v4],rfl,rfl,⟨[.int .i64 x.f2],[.int .i64 x.f3,v4],rfl,rfl,⟨[.int .i64 x.f3],[v4],rfl,rfl,⟨v4,rfl,g4⟩⟩⟩⟩⟩
theorem k104_openF {W:World} {ok:Nat→Prop} {x:S104} {cs:List Value} (h:Kd.FK k104 W ok x cs):∃ A4 c4,cs=[.int .i64 x.f0,.bool x.f1,.int .i64 x.f2,.int .i64 x.f3,.slice A4 x.f4.length c4]∧x.f4.length≤c4∧Kd.F k106 W ok A4 x.f4.length x.f4:=by
 obtain⟨A4,c4,rfl,l4,_⟩:=k104_open (Kd.FK_now h)
 exact⟨A4,c4,rfl,l4,(fun W' hW=>by obtain⟨A4_,c4_,he,l4_,g4_⟩:=k104_open (h W' hW);injection (Option.some.inj (show some (Value.slice A4 x.f4.length c4)=some (Value.slice A4_ x.f4.length c4_) from congrArg (fun l=>l[4]?) he)) with ha_ _ _;rw[ha_];exact g4_)⟩
theorem k104_mkF (W:World) (ok:Nat→Prop) (x:S104) {A4:Option Addr} {c4:Nat} (l4:x.f4.length≤c4) (g4:Kd.F k106 W ok A4 x.f4.length x.f4):Kd.FK k104 W ok x [.int .i64 x.f0,.bool x.f1,.int .i64 x.f2,.int .i64 x.f3,.slice A4 x.f4.length c4]:=fun W2 hW=>k104_mk W2 x l4 (g4 W2 hW)
def rd_T104 (xs:List S104) (i:Int):S104:=xs.getD i.toNat z104
theorem at_T104 {w:World} {A:Option Addr} {n:Nat} {xs:List S104} (h:Kd.C k104 w A n xs) (i:Int) (h0:0≤i) (h1:i < n):∃ ad A4 c4,A=some ad∧w.cell? (ad.add (i.toNat * 5))=some (.int .i64 (rd_T104 xs i).f0)∧w.cell? ⟨(ad.add (i.toNat * 5)).block,(ad.add (i.toNat * 5)).off+1,none⟩=some (.bool (rd_T104 xs i).f1)∧w.cell? ⟨(ad.add (i.toNat * 5)).block,(ad.add (i.toNat * 5)).off+2,none⟩=some (.int .i64 (rd_T104 xs i).f2)∧w.cell? ⟨(ad.add (i.toNat * 5)).block,(ad.add (i.toNat * 5)).off+3,none⟩=some (.int .i64 (rd_T104 xs i).f3)∧w.cell? ⟨(ad.add (i.toNat * 5)).block,(ad.add (i.toNat * 5)).off+4,none⟩=some (.slice A4 (rd_T104 xs i).f4.length c4)∧(rd_T104 xs i).f4.length≤c4∧k106.C w A4 (rd_T104 xs i).f4.length (rd_T104 xs i).f4:=by
 obtain⟨ad,c,e,_,hK,hc0⟩:=Kd.C_get h z104 i h0 h1
 have hc:∀ j u,c[j]?=some u→w.cell? (ad.add (i.toNat * 5+j))=some u:=hc0
 obtain⟨A4,c4,rfl,l4,g4⟩:=k104_open hK
 exact⟨ad,A4,c4,e,hc 0 _ rfl,by rw[← add_field _ _ 1 (by omega)];exact hc 1 _ rfl,by rw[← add_field _ _ 2 (by omega)];exact hc 2 _ rfl,by rw[← add_field _ _ 3 (by omega)];exact hc 3 _ rfl,by rw[← add_field _ _ 4 (by omega)];exact hc 4 _ rfl,l4,g4⟩
structure S23 where
  f0:Int
  f1:Int
  f2:Int
def z23:S23:=⟨(0:Int),(0:Int),(0:Int)⟩
def k23:Kd S23:=Kd.iso (Kd.pair (Kd.int .i64) (Kd.pair (Kd.int .i64) (Kd.int .i64))) (fun x:S23=>(x.f0,x.f1,x.f2))
theorem k23_heap:Kd.Heap k23:=Kd.heap_iso _ (Kd.heap_pair (Kd.heap_int .i64) (Kd.heap_pair (Kd.heap_int .i64) (Kd.heap_int .i64)))
theorem k23_open {w:World} {x:S23} {cs:List Value} (h:k23.K w x cs):cs=[.int .i64 x.f0,.int .i64 x.f1,.int .i64 x.f2]:=by
 obtain⟨_,_,rfl,rfl,⟨_,_,rfl,rfl,rfl⟩⟩:=h
 exact rfl
theorem k23_openM {w:World} {base:Nat} {ok:Nat→Prop} {x:S23} {cs:List Value} (h:k23.M w base ok x cs):cs=[.int .i64 x.f0,.int .i64 x.f1,.int .i64 x.f2]:=by
 obtain⟨_,_,rfl,rfl,⟨_,_,rfl,rfl,rfl⟩⟩:=h
 exact rfl
theorem k23_mk (w:World) (x:S23) :k23.K w x [.int .i64 x.f0,.int .i64 x.f1,.int .i64 x.f2]:=⟨[.int .i64 x.f0],[.int .i64 x.f1,.int .i64 x.f2],rfl,rfl,⟨[.int .i64 x.f1],[.int .i64 x.f2],rfl,rfl,rfl⟩⟩
theorem k23_mkM (w:World) (base:Nat) (ok:Nat→Prop) (x:S23) :k23.M w base ok x [.int .i64 x.f0,.int .i64 x.f1,.int .i64 x.f2]:=⟨[.int .i64 x.f0],[.int .i64 x.f1,.int .i64 x.f2],rfl,rfl,⟨[.int .i64 x.f1],[.int .i64 x.f2],rfl,rfl,rfl⟩⟩
theorem k23_mkF (W:World) (ok:Nat→Prop) (x:S23):Kd.FK k23 W ok x [.int .i64 x.f0,.int .i64 x.f1,.int .i64 x.f2]:=fun W2 _=>k23_mk W2 x
def rd_T23 (xs:List S23) (i:Int):S23:=xs.getD i.toNat z23
theorem at_T23 {w:World} {A:Option Addr} {n:Nat} {xs:List S23} (h:Kd.C k23 w A n xs) (i:Int) (h0:0≤i) (h1:i < n):∃ ad ,A=some ad∧w.cell? (ad.add (i.toNat * 3))=some (.int .i64 (rd_T23 xs i).f0)∧w.cell? ⟨(ad.add (i.toNat * 3)).block,(ad.add (i.toNat * 3)).off+1,none⟩=some (.int .i64 (rd_T23 xs i).f1)∧w.cell? ⟨(ad.add (i.toNat * 3)).block,(ad.add (i.toNat * 3)).off+2,none⟩=some (.int .i64 (rd_T23 xs i).f2):=by
 obtain⟨ad,c,e,_,hK,hc0⟩:=Kd.C_get h z23 i h0 h1
 have hc:∀ j u,c[j]?=some u→w.cell? (ad.add (i.toNat * 3+j))=some u:=hc0
 obtain rfl:=k23_open hK
 exact⟨ad,e,hc 0 _ rfl,by rw[← add_field _ _ 1 (by omega)];exact hc 1 _ rfl,by rw[← add_field _ _ 2 (by omega)];exact hc 2 _ rfl⟩
structure S25 where
  f0:Int
  f1:Int
def z25:S25:=⟨(0:Int),(0:Int)⟩
def k25:Kd S25:=Kd.iso (Kd.pair (Kd.int .i64) (Kd.int .i64)) (fun x:S25=>(x.f0,x.f1))
theorem k25_heap:Kd.Heap k25:=Kd.heap_iso _ (Kd.heap_pair (Kd.heap_int .i64) (Kd.heap_int .i64))
theorem k25_open {w:World} {x:S25} {cs:List Value} (h:k25.K w x cs):cs=[.int .i64 x.f0,.int .i64 x.f1]:=by
 obtain⟨_,_,rfl,rfl,rfl⟩:=h
 exact rfl
theorem k25_openM {w:World} {base:Nat} {ok:Nat→Prop} {x:S25} {cs:List Value} (h:k25.M w base ok x cs):cs=[.int .i64 x.f0,.int .i64 x.f1]:=by
 obtain⟨_,_,rfl,rfl,rfl⟩:=h
 exact rfl
theorem k25_mk (w:World) (x:S25) :k25.K w x [.int .i64 x.f0,.int .i64 x.f1]:=⟨[.int .i64 x.f0],[.int .i64 x.f1],rfl,rfl,rfl⟩
theorem k25_mkM (w:World) (base:Nat) (ok:Nat→Prop) (x:S25) :k25.M w base ok x [.int .i64 x.f0,.int .i64 x.f1]:=⟨[.int .i64 x.f0],[.int .i64 x.f1],rfl,rfl,rfl⟩
theorem k25_mkF (W:World) (ok:Nat→Prop) (x:S25):Kd.FK k25 W ok x [.int .i64 x.f0,.int .i64 x.f1]:=fun W2 _=>k25_mk W2 x
def rd_T25 (xs:List S25) (i:Int):S25:=xs.getD i.toNat z25
theorem at_T25 {w:World} {A:Option Addr} {n:Nat} {xs:List S25} (h:Kd.C k25 w A n xs) (i:Int) (h0:0≤i) (h1:i < n):∃ ad ,A=some ad∧w.cell? (ad.add (i.toNat * 2))=some (.int .i64 (rd_T25 xs i).f0)∧w.cell? ⟨(ad.add (i.toNat * 2)).block,(ad.add (i.toNat * 2)).off+1,none⟩=some (.int .i64 (rd_T25 xs i).f1):=by
 obtain⟨ad,c,e,_,hK,hc0⟩:=Kd.C_get h z25 i h0 h1
 have hc:∀ j u,c[j]?=some u→w.cell? (ad.add (i.toNat * 2+j))=some u:=hc0
 obtain rfl:=k25_open hK
 exact⟨ad,e,hc 0 _ rfl,by rw[← add_field _ _ 1 (by omega)];exact hc 1 _ rfl⟩
def rd_L8 (xs:List (List S104)) (i:Int):(List S104):=xs.getD i.toNat ([]:List S104)
theorem at_L8 {w:World} {A:Option Addr} {n:Nat} {xs:List (List S104)} (h:Kd.C (Kd.slice 104 k104) w A n xs) (i:Int) (h0:0≤i) (h1:i < n):∃ ad A0 c0,A=some ad∧w.cell? (ad.add i.toNat)=some (.slice A0 (rd_L8 xs i).length c0)∧(rd_L8 xs i).length≤c0∧k104.C w A0 (rd_L8 xs i).length (rd_L8 xs i):=by
 obtain⟨ad,c,e,_,hK,hc0⟩:=Kd.C_get h ([]:List S104) i h0 h1
 have hc:∀ j u,c[j]?=some u→w.cell? (ad.add (i.toNat * 1+j))=some u:=hc0
 obtain⟨A0,c0,rfl,l0,g0⟩:=hK
 exact⟨ad,A0,c0,e,by have hq:=hc 0 _ rfl;rwa[Nat.mul_one,Nat.add_zero] at hq,l0,g0⟩
structure S28 where
  f0:ByteArray
  f1:Int
  f2:Int
  f3:S23
  f4:S25
  f5:(List S104)
def z28:S28:=⟨(⟨#[]⟩:ByteArray),(0:Int),(0:Int),z23,z25,([]:List S104)⟩
def k28:Kd S28:=Kd.iso (Kd.pair Kd.string (Kd.pair (Kd.int .i64) (Kd.pair (Kd.int .i64) (Kd.pair k23 (Kd.pair k25 (Kd.slice 104 k104)))))) (fun x:S28=>(x.f0,x.f1,x.f2,x.f3,x.f4,x.f5))
theorem k28_heap:Kd.Heap k28:=Kd.heap_iso _ (Kd.heap_pair Kd.heap_string (Kd.heap_pair (Kd.heap_int .i64) (Kd.heap_pair (Kd.heap_int .i64) (Kd.heap_pair k23_heap (Kd.heap_pair k25_heap (Kd.heap_slice 104 k104_heap))))))
theorem k28_open {w:World} {x:S28} {cs:List Value} (h:k28.K w x cs):∃ A8 c8,cs=[.string x.f0,.int .i64 x.f1,.int .i64 x.f2,.int .i64 x.f3.f0,.int .i64 x.f3.f1,.int .i64 x.f3.f2,.int .i64 x.f4.f0,.int .i64 x.f4.f1,.slice A8 x.f5.length c8]∧x.f5.length≤c8∧k104.C w A8 x.f5.length x.f5:=by
 obtain⟨_,_,rfl,rfl,⟨_,_,rfl,rfl,⟨_,_,rfl,rfl,⟨_,_,rfl,s3,⟨_,_,rfl,s6,⟨A8,c8,rfl,l8,g8⟩⟩⟩⟩⟩⟩:=h
 obtain rfl:=k23_open s3
 obtain rfl:=k25_open s6
 exact⟨A8,c8,rfl,l8,g8⟩
theorem k28_openM {w:World} {base:Nat} {ok:Nat→Prop} {x:S28} {cs:List Value} (h:k28.M w base ok x cs):∃ v8,cs=[.string x.f0,.int .i64 x.f1,.int .i64 x.f2,.int .i64 x.f3.f0,.int .i64 x.f3.f1,.int .i64 x.f3.f2,.int .i64 x.f4.f0,.int .i64 x.f4.f1,v8]∧k104.R 104 w base ok v8 x.f5:=by
 obtain⟨_,_,rfl,rfl,⟨_,_,rfl,rfl,⟨_,_,rfl,rfl,⟨_,_,rfl,s3,⟨_,_,rfl,s6,⟨v8,rfl,g8⟩⟩⟩⟩⟩⟩:=h
 obtain rfl:=k23_openM s3
 obtain rfl:=k25_openM s6
 exact⟨v8,rfl,g8⟩
theorem k28_mk (w:World) (x:S28) {A8:Option Addr} {c8:Nat} (l8:x.f5.length≤c8) (g8:k104.C w A8 x.f5.length x.f5):k28.K w x [.string x.f0,.int .i64 x.f1,.int .i64 x.f2,.int .i64 x.f3.f0,.int .i64 x.f3.f1,.int .i64 x.f3.f2,.int .i64 x.f4.f0,.int .i64 x.f4.f1,.slice A8 x.f5.length c8]:=⟨[.string x.f0],[.int .i64 x.f1,.int .i64 x.f2,.int .i64 x.f3.f0,.int .i64 x.f3.f1,.int .i64 x.f3.f2,.int .i64 x.f4.f0,.int .i64 x.f4.f1,.slice A8 x.f5.length c8],rfl,rfl,⟨[.int .i64 x.f1],[.int .i64 x.f2,.int .i64 x.f3.f0,.int .i64 x.f3.f1,.int .i64 x.f3.f2,.int .i64 x.f4.f0,.int .i64 x.f4.f1,.slice A8 x.f5.length c8],rfl,rfl,⟨[.int .i64 x.f2],[.int .i64 x.f3.f0,.int .i64 x.f3.f1,.int .i64 x.f3.f2,.int .i64 x.f4.f0,.int .i64 x.f4.f1,.slice A8 x.f5.length c8],rfl,rfl,⟨[.int .i64 x.f3.f0,.int .i64 x.f3.f1,.int .i64 x.f3.f2],[.int .i64 x.f4.f0,.int .i64 x.f4.f1,.slice A8 x.f5.length c8],rfl,(k23_mk w x.f3 ),⟨[.int .i64 x.f4.f0,.int .i64 x.f4.f1],[.slice A8 x.f5.length c8],rfl,(k25_mk w x.f4 ),⟨A8,c8,rfl,l8,g8⟩⟩⟩⟩⟩⟩
theorem k28_mkM (w:World) (base:Nat) (ok:Nat→Prop) (x:S28) {v8:Value} (g8:k104.R 104 w base ok v8 x.f5):k28.M w base ok x [.string x.f0,.int .i64 x.f1,.int .i64 x.f2,.int .i64 x.f3.f0,.int .i64 x.f3.f1,.int .i64 x.f3.f2,.int .i64 x.f4.f0,.int .i64 x.f4.f1,v8]:=⟨[.string x.f0],[.int .i64 x.f1,.int .i64 x.f2,.int .i64 x.f3.f0,.int .i64 x.f3.f1,.int .i64 x.f3.f2,.int .i64 x.f4.f0,.int .i64 x.f4.f1,v8],rfl,rfl,⟨[.int .i64 x.f1],[.int .i64 x.f2,.int .i64 x.f3.f0,.int .i64 x.f3.f1,.int .i64 x.f3.f2,.int .i64 x.f4.f0,.int .i64 x.f4.f1,v8],rfl,rfl,⟨[.int .i64 x.f2],[.int .i64 x.f3.f0,.int .i64 x.f3.f1,.int .i64 x.f3.f2,.int .i64 x.f4.f0,.int .i64 x.f4.f1,v8],rfl,rfl,⟨[.int .i64 x.f3.f0,.int .i64 x.f3.f1,.int .i64 x.f3.f2],[.int .i64 x.f4.f0,.int .i64 x.f4.f1,v8],rfl,(k23_mkM w base ok x.f3 ),⟨[.int .i64 x.f4.f0,.int .i64 x.f4.f1],[v8],rfl,(k25_mkM w base ok x.f4 ),⟨v8,rfl,g8⟩⟩⟩⟩⟩⟩
theorem k28_openF {W:World} {ok:Nat→Prop} {x:S28} {cs:List Value} (h:Kd.FK k28 W ok x cs):∃ A8 c8,cs=[.string x.f0,.int .i64 x.f1,.int .i64 x.f2,.int .i64 x.f3.f0,.int .i64 x.f3.f1,.int .i64 x.f3.f2,.int .i64 x.f4.f0,.int .i64 x.f4.f1,.slice A8 x.f5.length c8]∧x.f5.length≤c8∧Kd.F k104 W ok A8 x.f5.length x.f5:=by
 obtain⟨A8,c8,rfl,l8,_⟩:=k28_open (Kd.FK_now h)
 exact⟨A8,c8,rfl,l8,(fun W' hW=>by obtain⟨A8_,c8_,he,l8_,g8_⟩:=k28_open (h W' hW);injection (Option.some.inj (show some (Value.slice A8 x.f5.length c8)=some (Value.slice A8_ x.f5.length c8_) from congrArg (fun l=>l[8]?) he)) with ha_ _ _;rw[ha_];exact g8_)⟩
theorem k28_mkF (W:World) (ok:Nat→Prop) (x:S28) {A8:Option Addr} {c8:Nat} (l8:x.f5.length≤c8) (g8:Kd.F k104 W ok A8 x.f5.length x.f5):Kd.FK k28 W ok x [.string x.f0,.int .i64 x.f1,.int .i64 x.f2,.int .i64 x.f3.f0,.int .i64 x.f3.f1,.int .i64 x.f3.f2,.int .i64 x.f4.f0,.int .i64 x.f4.f1,.slice A8 x.f5.length c8]:=fun W2 hW=>k28_mk W2 x l8 (g8 W2 hW)
def rd_T28 (xs:List S28) (i:Int):S28:=xs.getD i.toNat z28
theorem at_T28 {w:World} {A:Option Addr} {n:Nat} {xs:List S28} (h:Kd.C k28 w A n xs) (i:Int) (h0:0≤i) (h1:i < n):∃ ad A8 c8,A=some ad∧w.cell? (ad.add (i.toNat * 9))=some (.string (rd_T28 xs i).f0)∧w.cell? ⟨(ad.add (i.toNat * 9)).block,(ad.add (i.toNat * 9)).off+1,none⟩=some (.int .i64 (rd_T28 xs i).f1)∧w.cell? ⟨(ad.add (i.toNat * 9)).block,(ad.add (i.toNat * 9)).off+2,none⟩=some (.int .i64 (rd_T28 xs i).f2)∧w.cell? ⟨(ad.add (i.toNat * 9)).block,(ad.add (i.toNat * 9)).off+3,none⟩=some (.int .i64 (rd_T28 xs i).f3.f0)∧w.cell? ⟨(ad.add (i.toNat * 9)).block,(ad.add (i.toNat * 9)).off+4,none⟩=some (.int .i64 (rd_T28 xs i).f3.f1)∧w.cell? ⟨(ad.add (i.toNat * 9)).block,(ad.add (i.toNat * 9)).off+5,none⟩=some (.int .i64 (rd_T28 xs i).f3.f2)∧w.cell? ⟨(ad.add (i.toNat * 9)).block,(ad.add (i.toNat * 9)).off+6,none⟩=some (.int .i64 (rd_T28 xs i).f4.f0)∧w.cell? ⟨(ad.add (i.toNat * 9)).block,(ad.add (i.toNat * 9)).off+7,none⟩=some (.int .i64 (rd_T28 xs i).f4.f1)∧w.cell? ⟨(ad.add (i.toNat * 9)).block,(ad.add (i.toNat * 9)).off+8,none⟩=some (.slice A8 (rd_T28 xs i).f5.length c8)∧(rd_T28 xs i).f5.length≤c8∧k104.C w A8 (rd_T28 xs i).f5.length (rd_T28 xs i).f5:=by
 obtain⟨ad,c,e,_,hK,hc0⟩:=Kd.C_get h z28 i h0 h1
 have hc:∀ j u,c[j]?=some u→w.cell? (ad.add (i.toNat * 9+j))=some u:=hc0
 obtain⟨A8,c8,rfl,l8,g8⟩:=k28_open hK
 exact⟨ad,A8,c8,e,hc 0 _ rfl,by rw[← add_field _ _ 1 (by omega)];exact hc 1 _ rfl,by rw[← add_field _ _ 2 (by omega)];exact hc 2 _ rfl,by rw[← add_field _ _ 3 (by omega)];exact hc 3 _ rfl,by rw[← add_field _ _ 4 (by omega)];exact hc 4 _ rfl,by rw[← add_field _ _ 5 (by omega)];exact hc 5 _ rfl,by rw[← add_field _ _ 6 (by omega)];exact hc 6 _ rfl,by rw[← add_field _ _ 7 (by omega)];exact hc 7 _ rfl,by rw[← add_field _ _ 8 (by omega)];exact hc 8 _ rfl,l8,g8⟩
end Go.Proofs.Ytkgdlbepjmgaiaa.Fea
namespace Go.Proofs.Ytkgdlbepjmgaiaa.Fea
open Go.RowKit YtkgdlbepjmgaiaaW.PrintWords YtkgdlbepjmgaiaaW.PrintLast YtkgdlbepjmgaiaaW.PrintMore
theorem zc {w:World} {g:Nat} {cs:Array Value} {t:TypeId} (h:w.heap[g]?=some (.cells cs t)) (i:Nat) (v:Value) (hv:cs[i]?=some v):w.cell? ⟨g,i,none⟩=some v:=(blk_cell h i).trans hv
theorem zl {w:World} {p:Addr} {v:Value} {g:Nat} (h:w.cell? p=some v) (hg:w.heap.size≤g):p.block≠g:=Nat.ne_of_lt (Nat.lt_of_lt_of_le (World.block_lt_of_cell? _ _ h) hg)
theorem zP {w:World} {g:Nat} {t:TypeId} {c0 c1 c2 c3 c4 c5 c6 c7 c8:Value} (h:w.heap[g]?=some (.cells #[c0,c1,c2,c3,c4,c5,c6,c7,c8] t (0,0))) (v0 v1 v2 v3 v4 v5 v6 v7 v8:Value):(((((((((w.setCell ⟨g,0,none⟩ v0).setCell ⟨g,1,none⟩ v1).setCell ⟨g,2,none⟩ v2).setCell ⟨g,3,none⟩ v3).setCell ⟨g,4,none⟩ v4).setCell ⟨g,5,none⟩ v5).setCell ⟨g,6,none⟩ v6).setCell ⟨g,7,none⟩ v7).setCell ⟨g,8,none⟩ v8).heap[g]?=some (.cells #[v0,v1,v2,v3,v4,v5,v6,v7,v8] t (0,0)):=by
  have h0:(w.setCell ⟨g,0,none⟩ v0).heap[g]?=some (.cells #[v0,c1,c2,c3,c4,c5,c6,c7,c8] t (0,0)):=blk_put h 0 v0 rfl
  have h1:((w.setCell ⟨g,0,none⟩ v0).setCell ⟨g,1,none⟩ v1).heap[g]?=some (.cells #[v0,v1,c2,c3,c4,c5,c6,c7,c8] t (0,0)):=blk_put h0 1 v1 rfl
  have h2:(((w.setCell ⟨g,0,none⟩ v0).setCell ⟨g,1,none⟩ v1).setCell ⟨g,2,none⟩ v2).heap[g]?=some (.cells #[v0,v1,v2,c3,c4,c5,c6,c7,c8] t (0,0)):=blk_put h1 2 v2 rfl
  have h3:((((w.setCell ⟨g,0,none⟩ v0).setCell ⟨g,1,none⟩ v1).setCell ⟨g,2,none⟩ v2).setCell ⟨g,3,none⟩ v3).heap[g]?=some (.cells #[v0,v1,v2,v3,c4,c5,c6,c7,c8] t (0,0)):=blk_put h2 3 v3 rfl
  have h4:(((((w.setCell ⟨g,0,none⟩ v0).setCell ⟨g,1,none⟩ v1).setCell ⟨g,2,none⟩ v2).setCell ⟨g,3,none⟩ v3).setCell ⟨g,4,none⟩ v4).heap[g]?=some (.cells #[v0,v1,v2,v3,v4,c5,c6,c7,c8] t (0,0)):=blk_put h3 4 v4 rfl
  have h5:((((((w.setCell ⟨g,0,none⟩ v0).setCell ⟨g,1,none⟩ v1).setCell ⟨g,2,none⟩ v2).setCell ⟨g,3,none⟩ v3).setCell ⟨g,4,none⟩ v4).setCell ⟨g,5,none⟩ v5).heap[g]?=some (.cells #[v0,v1,v2,v3,v4,v5,c6,c7,c8] t (0,0)):=blk_put h4 5 v5 rfl
  have h6:(((((((w.setCell ⟨g,0,none⟩ v0).setCell ⟨g,1,none⟩ v1).setCell ⟨g,2,none⟩ v2).setCell ⟨g,3,none⟩ v3).setCell ⟨g,4,none⟩ v4).setCell ⟨g,5,none⟩ v5).setCell ⟨g,6,none⟩ v6).heap[g]?=some (.cells #[v0,v1,v2,v3,v4,v5,v6,c7,c8] t (0,0)):=blk_put h5 6 v6 rfl
  have h7:((((((((w.setCell ⟨g,0,none⟩ v0).setCell ⟨g,1,none⟩ v1).setCell ⟨g,2,none⟩ v2).setCell ⟨g,3,none⟩ v3).setCell ⟨g,4,none⟩ v4).setCell ⟨g,5,none⟩ v5).setCell ⟨g,6,none⟩ v6).setCell ⟨g,7,none⟩ v7).heap[g]?=some (.cells #[v0,v1,v2,v3,v4,v5,v6,v7,c8] t (0,0)):=blk_put h6 7 v7 rfl
  have h8:(((((((((w.setCell ⟨g,0,none⟩ v0).setCell ⟨g,1,none⟩ v1).setCell ⟨g,2,none⟩ v2).setCell ⟨g,3,none⟩ v3).setCell ⟨g,4,none⟩ v4).setCell ⟨g,5,none⟩ v5).setCell ⟨g,6,none⟩ v6).setCell ⟨g,7,none⟩ v7).setCell ⟨g,8,none⟩ v8).heap[g]?=some (.cells #[v0,v1,v2,v3,v4,v5,v6,v7,v8] t (0,0)):=blk_put h7 8 v8 rfl
  exact h8
theorem zF {w:World} {q g:Nat} {t:TypeId} {cs:Array Value} (h:w.heap[q]?=some (.cells cs t (0,0))) (hn:q≠g) (v0 v1 v2 v3 v4 v5 v6 v7 v8:Value):(((((((((w.setCell ⟨g,0,none⟩ v0).setCell ⟨g,1,none⟩ v1).setCell ⟨g,2,none⟩ v2).setCell ⟨g,3,none⟩ v3).setCell ⟨g,4,none⟩ v4).setCell ⟨g,5,none⟩ v5).setCell ⟨g,6,none⟩ v6).setCell ⟨g,7,none⟩ v7).setCell ⟨g,8,none⟩ v8).heap[q]?=some (.cells cs t (0,0)):=by
  refine blk_far ?_ (p:=⟨g,8,none⟩) hn v8
  refine blk_far ?_ (p:=⟨g,7,none⟩) hn v7
  refine blk_far ?_ (p:=⟨g,6,none⟩) hn v6
  refine blk_far ?_ (p:=⟨g,5,none⟩) hn v5
  refine blk_far ?_ (p:=⟨g,4,none⟩) hn v4
  refine blk_far ?_ (p:=⟨g,3,none⟩) hn v3
  refine blk_far ?_ (p:=⟨g,2,none⟩) hn v2
  refine blk_far ?_ (p:=⟨g,1,none⟩) hn v1
  refine blk_far ?_ (p:=⟨g,0,none⟩) hn v0
  exact h
theorem zV {α:Type} {d:Kd α} {e:TypeId} {w:World} {base:Nat} {ok:Nat→Prop} {v:Value} {xs:List α} (g:Nat) (h:Kd.V d e w base ok v xs) (hok:∀ k,ok k→k≠g) (v0 v1 v2 v3 v4 v5 v6 v7 v8:Value):Kd.V d e (((((((((w.setCell ⟨g,0,none⟩ v0).setCell ⟨g,1,none⟩ v1).setCell ⟨g,2,none⟩ v2).setCell ⟨g,3,none⟩ v3).setCell ⟨g,4,none⟩ v4).setCell ⟨g,5,none⟩ v5).setCell ⟨g,6,none⟩ v6).setCell ⟨g,7,none⟩ v7).setCell ⟨g,8,none⟩ v8) base ok v xs:=by
  refine Kd.V_far (p:=⟨g,8,none⟩) ?_ hok v8
  refine Kd.V_far (p:=⟨g,7,none⟩) ?_ hok v7
  refine Kd.V_far (p:=⟨g,6,none⟩) ?_ hok v6
  refine Kd.V_far (p:=⟨g,5,none⟩) ?_ hok v5
  refine Kd.V_far (p:=⟨g,4,none⟩) ?_ hok v4
  refine Kd.V_far (p:=⟨g,3,none⟩) ?_ hok v3
  refine Kd.V_far (p:=⟨g,2,none⟩) ?_ hok v2
  refine Kd.V_far (p:=⟨g,1,none⟩) ?_ hok v1
  refine Kd.V_far (p:=⟨g,0,none⟩) ?_ hok v0
  exact h
abbrev zf:=@blk_frozen
abbrev zd:=@blk_drewN
abbrev ze:=@blk_drew
abbrev za:=@blk_alloc
abbrev zb:=@blk_below
abbrev zA:=@below_alloc
abbrev zD:=@pw_below_drewN
abbrev zE:=@below_drew1
abbrev zS:=@below_set
abbrev zm:=@Aside0.mk
abbrev zx:=@List.setIfInBounds_toArray
abbrev zy:=@List.set_cons_zero
abbrev zz:=@List.set_cons_succ
end Go.Proofs.Ytkgdlbepjmgaiaa.Fea
namespace Go.Proofs.Ytkgdlbepjmgaiaa.Fea
open Go.RowKit YtkgdlbepjmgaiaaW.PrintWords YtkgdlbepjmgaiaaW.PrintLast YtkgdlbepjmgaiaaW.PrintMore
attribute [local go_sem] max2_int min2_int max_two min_two max_three min_three max_four min_four
theorem eqA25 (d:Nat) (w:World) (x0 y0 x1 y1:Int):
    (Op.equalIn (d+2) 25 (.agg #[.int .i64 x0,.int .i64 x1]) (.agg #[.int .i64 y0,.int .i64 y1])).run Try.prog w=.ok (x0==y0&&(x1==y1)) w:=by
  refine eqA_of Try.underlying25 (by kernel_rfl) ?_
  refine eqf_cons (by rfl) (by go_simp;rfl) (by go_simp;rfl) (by go_simp) ?_
  exact eqf_last (by rfl) (by go_simp;rfl) (by go_simp;rfl) (by go_simp)
end Go.Proofs.Ytkgdlbepjmgaiaa.Fea
namespace Go.Proofs.Ytkgdlbepjmgaiaa.Hand
open Go.RowKit YtkgdlbepjmgaiaaW.PrintWords
def letB (c:Int):Bool:=(decide (65≤c)&&decide (c≤90))||(decide (97≤c)&&decide (c≤122))
def digB (c:Int):Bool:=decide (48≤c)&&decide (c≤57)
theorem letter_calls (c:Int) (w:World):Calls Try.prog 115 #[.int .u8 c] w fun e w'=>e=.returned (.bool (letB c))∧w=w':=by
  by_cases h1:65≤c<;>by_cases h2:c≤90<;>by_cases h3:97≤c<;>by_cases h4:c≤122
  all_goals try(exfalso;omega)
  all_goals
    have hr:∀ b,(b=letB c)→Ending.returned (.bool b)=.returned (.bool (letB c)):=fun b h=>by rw[h]
    have hl:letB c=((decide (65≤c)&&decide (c≤90))||(decide (97≤c)&&decide (c≤122))):=rfl
    have HL:=Aside0.mk hl
    clear hl
    have HR:=Aside0.mk hr
    clear hr
    go_enter Try.func115,Try.ntmps115
    go_wp2
    go_ret
    exact⟨HR.out _ (by rw[HL.out];simp[h1,h2,h3,h4]),rfl⟩
theorem digit_calls (c:Int) (w:World):Calls Try.prog 116 #[.int .u8 c] w fun e w'=>e=.returned (.bool (digB c))∧w=w':=by
  by_cases h1:48≤c<;>by_cases h2:c≤57
  all_goals
    have hr:∀ b,(b=digB c)→Ending.returned (.bool b)=.returned (.bool (digB c)):=fun b h=>by rw[h]
    have hl:digB c=(decide (48≤c)&&decide (c≤57)):=rfl
    have HL:=Aside0.mk hl
    clear hl
    have HR:=Aside0.mk hr
    clear hr
    go_enter Try.func116,Try.ntmps116
    go_wp2
    go_ret
    exact⟨HR.out _ (by rw[HL.out];simp[h1,h2]),rfl⟩
def nmOk (c:Int):Bool:=letB c||digB c
def nmGo (s:ByteArray):Nat→Bool
  | 0=>true
  | n+1=>nmGo s n&&nmOk (bt s n)
def nmV (s:ByteArray):Int:=if 24 < (s.size:Int) then 17 else if(s.size:Int)=0 then 3 else if letB (bt s 0)=false then 3 else if nmGo s s.size=true then 0 else 3
theorem nmGo_step (s:ByteArray) (k:Nat) (h:nmGo s k=true):nmGo s (k+1)=nmOk (bt s k):=by
  simp[nmGo,h]
theorem nmGo_false (s:ByteArray) (k n:Nat) (hk:nmGo s k=false) (h:k≤n):nmGo s n=false:=by
  induction h with
  | refl=>exact hk
  | step _ ih=>simp[nmGo,ih]
theorem ret_i {a b:Int} (h:a=b):Ending.returned (.int .i64 a)=.returned (.int .i64 b):=by rw[h]
set_option maxHeartbeats 1000000 in
theorem name_calls (s:ByteArray) (w:World):Calls Try.prog 80 #[.string s] w fun e w'=>e=.returned (.int .i64 (nmV s))∧Below w.heap.size w w':=by
  by_cases h1:24 < (s.size:Int)
  · have hv:nmV s=17:=by unfold nmV;rw[if_pos h1]
    have HV:=Aside0.mk hv
    clear hv
    go_enter Try.func80,Try.ntmps80
    go_wp2
    go_ret
    exact⟨ret_i HV.out.symm,Below.refl _ _⟩
  · by_cases h2:(s.size:Int)=0
    · have hv:nmV s=3:=by unfold nmV;rw[if_neg h1,if_pos h2]
      have HV:=Aside0.mk hv
      clear hv
      have hz:s.toList=[]:=by
        have:s.data.toList.length=0:=by rw[data_length];omega
        rw[ByteArray.toList_eq]
        exact List.eq_nil_of_length_eq_zero this
      have hz1:(s.toList.isEmpty)=true:=by rw[hz];rfl
      have hz2:(s.toList==([]:List UInt8))=true:=by rw[hz];rfl
      clear hz h2
      go_enter Try.func80,Try.ntmps80
      go_wp2
      go_ret
      exact⟨ret_i HV.out.symm,Below.refl _ _⟩
    · have hpos:0 < s.size:=by omega
      have hne:(s.toList.isEmpty)=false:=by
        rw[List.isEmpty_eq_false_iff]
        intro h
        have:s.data.toList.length=0:=by rw[← ByteArray.toList_eq,h];rfl
        rw[data_length] at this;omega
      have hne2:(s.toList==([]:List UInt8))=false:=by
        rw[beq_eq_false_iff_ne];exact List.isEmpty_eq_false_iff.1 hne
      have hb0:∀ h:0 < s.size,((s[0]'h).toNat:Int)=bt s 0:=fun h=>bt_at s 0 h
      by_cases h3:letB (bt s 0)=false
      · have hv:nmV s=3:=by unfold nmV;rw[if_neg h1,if_neg h2,if_pos h3]
        have HV:=Aside0.mk hv
        clear hv
        go_enter Try.func80,Try.ntmps80
        go_wp2_with (go_at_call 115;refine(letter_calls _ _).mono ?_;rintro e w' ⟨rfl,rfl⟩)
        go_ret
        exact⟨ret_i HV.out.symm,Below.refl _ _⟩
      · replace h3:letB (bt s 0)=true:=by cases h:letB (bt s 0)<;>simp_all
        have hv:nmV s=if nmGo s s.size=true then 0 else 3:=by unfold nmV;rw[if_neg h1,if_neg h2,if_neg (by rw[h3];decide)]
        have HV:=Aside0.mk hv
        clear hv h2
        have h1':s.size≤24:=by omega
        have kb:=fun W=>print_bytes (P:=Try.prog) 9 146 5 Try.underlying9 Try.underlying146 Try.underlying5 s W
        have HB:Below w.heap.size w (Lib.bytesWorld w 5 s):=bytes_below (Below.refl _ _) (Nat.le_refl _) 5 s
        have HC:Aside0 (∀ k:Nat,k < s.size→(Lib.bytesWorld w 5 s).cell? ⟨w.heap.size,k,none⟩=some (.int .u8 (bt s k))):=⟨fun k hk=>by
          rw[Lib.bytesWorld_cell w 5 s k hk]
          have h':k < s.data.toList.length:=by rw[data_length];exact hk
          rw[← bt_at s k (by simpa using hk)]
          simp[List.getD_eq_getElem?_getD,List.getElem?_eq_getElem h']
          rfl⟩
        go_enter Try.func80,Try.ntmps80
        go_wp2_with (go_at_call 115;refine(letter_calls _ _).mono ?_;rintro e w' ⟨rfl,rfl⟩)
        have HBB:=Aside0.mk HB
        clear HB kb h3 hb0 hne hne2
        generalize Lib.bytesWorld w 5 s=W at *
        go_loop [4,19] (fun _ i=>∃ k:Nat,k≤s.size∧i=.int .i64 k∧Aside0 (nmGo s k=true)) (fun _ i=>s.size - (intOf i).toNat)
        case atStart=>exact⟨0,Nat.zero_le _,rfl,⟨rfl⟩⟩
        case round=>
          obtain⟨k,hk,rfl,hg⟩:=hrel
          by_cases hlt:k < s.size
          · have hc:=HC.out k hlt
            cases hL:letB (bt s k)
            · cases hD:digB (bt s k)
              · have hf:nmGo s s.size=false:=nmGo_false s (k+1) s.size (by rw[nmGo_step s k hg.out];simp[nmOk,hL,hD]) hlt
                have HF:=Aside0.mk hf
                clear hf
                go_wp2_with (first|(go_at_call 115;refine(letter_calls _ _).mono ?_;rintro e w' ⟨rfl,rfl⟩)|(go_at_call 116;refine(digit_calls _ _).mono ?_;rintro e w' ⟨rfl,rfl⟩))
                go_ret
                exact⟨ret_i (by rw[HV.out,HF.out];rfl),HBB.out⟩
              · have hf:nmGo s (k+1)=true:=by rw[nmGo_step s k hg.out];simp[nmOk,hD]
                have HF:=Aside0.mk hf
                clear hf
                go_wp2_with (first|(go_at_call 115;refine(letter_calls _ _).mono ?_;rintro e w' ⟨rfl,rfl⟩)|(go_at_call 116;refine(digit_calls _ _).mono ?_;rintro e w' ⟨rfl,rfl⟩))
                go_round
                case rel=>exact⟨k+1,hlt,by go_num,HF⟩
                case measure=>simp[intOf];omega
            · have hf:nmGo s (k+1)=true:=by rw[nmGo_step s k hg.out];simp[nmOk,hL]
              have HF:=Aside0.mk hf
              clear hf
              go_wp2_with (first|(go_at_call 115;refine(letter_calls _ _).mono ?_;rintro e w' ⟨rfl,rfl⟩)|(go_at_call 116;refine(digit_calls _ _).mono ?_;rintro e w' ⟨rfl,rfl⟩))
              go_round
              case rel=>exact⟨k+1,hlt,by go_num,HF⟩
              case measure=>simp[intOf];omega
          · obtain rfl:k=s.size:=by omega
            go_wp2
            go_ret
            exact⟨ret_i (by rw[HV.out,hg.out];rfl),HBB.out⟩
end Go.Proofs.Ytkgdlbepjmgaiaa.Hand
namespace Go.Proofs.Ytkgdlbepjmgaiaa.Fea
open Go.RowKit YtkgdlbepjmgaiaaW.PrintWords YtkgdlbepjmgaiaaW.PrintLast YtkgdlbepjmgaiaaW.PrintMore
attribute [local go_sem] max2_int min2_int max_two min_two max_three min_three max_four min_four
def di_Name.f (a0:ByteArray):Option Int:=some (Hand.nmV a0)
theorem di_Name.calls (a0:ByteArray) (r:Int) (w:World) (h:di_Name.f a0=some r):
    Calls Try.prog 80 #[.string a0] w fun e w'=>e=.returned (.int .i64 r)∧Below w.heap.size w w':=by
  obtain rfl:=Option.some.inj h
  exact Hand.name_calls a0 w
def fe_in.f (a0:Int):Option (Bool):=if a0≥(-100000) then(some (decide (a0≤100000))) else(some false)
set_option maxHeartbeats 8000000 in
set_option maxRecDepth 100000 in
theorem fe_in.calls (a0:Int) (r:Bool) (w:World) (h:fe_in.f a0=some r):
    Calls Try.prog 71 #[.int .i64 a0] w fun e w'=>e=.returned (.bool r)∧Drawn0 w w':=by
  have H:(if a0≥(-100000) then(some (decide (a0≤100000))) else(some false))=some r:=h
  clear h
  by_cases c2:a0≥(-100000)
  · rw[if_pos c2] at H
    have c2b0:decide ((-100000)≤a0)=true:=decide_eq_true c2
    clear c2
    obtain rfl:=Option.some.inj H
    go_enter Try.func71,Try.ntmps71
    go_wp2
    go_ret
    exact⟨by first|rfl|(simp;done)|(simp[*];done),by repeat(first|exact Drawn0.refl _|apply Drawn0.step)⟩
  · rw[if_neg c2] at H
    have c2b0:decide ((-100000)≤a0)=false:=decide_eq_false c2
    clear c2
    obtain rfl:=Option.some.inj H
    go_enter Try.func71,Try.ntmps71
    go_wp2
    go_ret
    exact⟨by first|rfl|(simp;done)|(simp[*];done),by repeat(first|exact Drawn0.refl _|apply Drawn0.step)⟩
def fe_ranged.f (a0_0 a0_1 a0_2:Int):Option (Bool):=(fe_in.f a0_0).bind fun t107=>(if t107=true then((fe_in.f a0_1).bind fun t108=>(if t108=true then((fe_in.f a0_2).bind fun t109=>(some t109)) else(some false))) else(some false))
set_option maxHeartbeats 8000000 in
set_option maxRecDepth 100000 in
theorem fe_ranged.calls (a0_0 a0_1 a0_2:Int) (r:Bool) (w:World) (h:fe_ranged.f a0_0 a0_1 a0_2=some r):
 Calls Try.prog 81 #[.agg #[.int .i64 a0_0,.int .i64 a0_1,.int .i64 a0_2]] w fun e w'=>e=.returned (.bool r)∧Below w.heap.size w w':=by
 have hu23:=Try.underlying23
 have HB:=zm (Below.refl w.heap.size w)
 have H:((fe_in.f a0_0).bind fun t107=>(if t107=true then((fe_in.f a0_1).bind fun t108=>(if t108=true then((fe_in.f a0_2).bind fun t109=>(some t109)) else(some false))) else(some false)))=some r:=h
 clear h
 replace H:=Option.bind_eq_some_iff.mp H
 obtain⟨t107,A20,H⟩:=H
 replace H:(if t107=true then((fe_in.f a0_1).bind fun t108=>(if t108=true then((fe_in.f a0_2).bind fun t109=>(some t109)) else(some false))) else(some false))=some r:=H
 have A2:=zm A20
 clear A20
 by_cases c3:t107=true
 ·subst c3
  have H1:((fe_in.f a0_1).bind fun t108=>(if t108=true then((fe_in.f a0_2).bind fun t109=>(some t109)) else(some false)))=some r:=by rw[if_pos rfl] at H;exact H
  clear H
  have H:=H1
  clear H1
  replace H:=Option.bind_eq_some_iff.mp H
  obtain⟨t108,A40,H⟩:=H
  replace H:(if t108=true then((fe_in.f a0_2).bind fun t109=>(some t109)) else(some false))=some r:=H
  have A4:=zm A40
  clear A40
  by_cases c5:t108=true
  ·subst c5
   have H1:((fe_in.f a0_2).bind fun t109=>(some t109))=some r:=by rw[if_pos rfl] at H;exact H
   clear H
   have H:=H1
   clear H1
   replace H:=Option.bind_eq_some_iff.mp H
   obtain⟨t109,A60,H⟩:=H
   replace H:(some t109)=some r:=H
   have A6:=zm A60
   clear A60
   obtain rfl:=Option.some.inj H
   go_enter Try.func81,Try.ntmps81
   go_wp2_with (first|((with_reducible refine gate_dst (N:=1) rfl ?_);refine box_event ?hg (N:=1) ?hd (cs:=#[.int .i64 a0_0,.int .i64 a0_1,.int .i64 a0_2]) (t:=23) ?hr ?_;(case hd=>rfl);(case hg=>rfl);(case hr=>first|(go_simp;done)|(go_simp;rfl));intro gb106 hg w7 hbox hb;have n0_:=zm (below_step (by repeat(first|(with_reducible first|exact HB.out|apply zA|apply zD|apply zE)|exact HB.out)) hb);have n1_:=zm (hbox);have n2_:=zm ((by rw[hg];exact(below_size (by repeat(first|(with_reducible first|exact HB.out|apply zA|apply zD|apply zE)|exact HB.out))):w.heap.size≤gb106));have n3_:=zm ((by rw[hg];exact(below_size (by repeat(first|(with_reducible first|exact HB.out|apply zA|apply zD|apply zE)|exact HB.out))):w.heap.size≤gb106));clear HB;have HB:=n0_;have BK106:=n1_;have GW106:=n2_;have GE106:=n3_;clear n0_ n1_ n2_ n3_;clear hb hbox hg;have hcz8_0:=zc BK106.out 0 (.int .i64 a0_0) rfl;have hcz8_1:=zc BK106.out 1 (.int .i64 a0_1) rfl;have hcz8_2:=zc BK106.out 2 (.int .i64 a0_2) rfl;have hfz8_0:=zf BK106.out 0;have hfz8_1:=zf BK106.out 1;have hfz8_2:=zf BK106.out 2)|((with_reducible refine gate_callee (f:=71) rfl ?_);refine goesL_ (some 5) rfl rfl Try.func71 (by kernel_rfl) rfl #[.int .i64 a0_0] rfl (by(try simp only[List.map_toArray,List.map_cons,List.map_nil]);first|done|rfl|(simp only[List.length_drop,List.length_take];rfl)) ?_;(with_reducible refine(fe_in.calls a0_0 true _ A2.out).mono ?_);rintro e w' ⟨rfl,⟨nd,rfl⟩⟩;refine⟨_,rfl,?_⟩)|(go_at_call 71;(with_reducible refine(fe_in.calls a0_1 true _ A4.out).mono ?_);rintro e w' ⟨rfl,⟨nd,rfl⟩⟩)|(go_at_call 71;(with_reducible refine(fe_in.calls a0_2 t109 _ A6.out).mono ?_);rintro e w' ⟨rfl,⟨nd,rfl⟩⟩))
   go_ret
   exact⟨by first|rfl|(simp[errW_none,errW_some]<;>rfl)|(simp[*,errW_none,errW_some]<;>rfl),by repeat(first|(with_reducible first|exact HB.out|apply zA|apply zD|apply zE|refine zS ?_ GE106.out)|exact HB.out)⟩
  ·replace c5:=Bool.eq_false_iff.mpr c5
   subst c5
   have H1:(some false)=some r:=by rw[if_neg (show ¬(false=true) by decide)] at H;exact H
   clear H
   have H:=H1
   clear H1
   obtain rfl:=Option.some.inj H
   go_enter Try.func81,Try.ntmps81
   go_wp2_with (first|((with_reducible refine gate_dst (N:=1) rfl ?_);refine box_event ?hg (N:=1) ?hd (cs:=#[.int .i64 a0_0,.int .i64 a0_1,.int .i64 a0_2]) (t:=23) ?hr ?_;(case hd=>rfl);(case hg=>rfl);(case hr=>first|(go_simp;done)|(go_simp;rfl));intro gb106 hg w9 hbox hb;have n0_:=zm (below_step (by repeat(first|(with_reducible first|exact HB.out|apply zA|apply zD|apply zE)|exact HB.out)) hb);have n1_:=zm (hbox);have n2_:=zm ((by rw[hg];exact(below_size (by repeat(first|(with_reducible first|exact HB.out|apply zA|apply zD|apply zE)|exact HB.out))):w.heap.size≤gb106));have n3_:=zm ((by rw[hg];exact(below_size (by repeat(first|(with_reducible first|exact HB.out|apply zA|apply zD|apply zE)|exact HB.out))):w.heap.size≤gb106));clear HB;have HB:=n0_;have BK106:=n1_;have GW106:=n2_;have GE106:=n3_;clear n0_ n1_ n2_ n3_;clear hb hbox hg;have hcz10_0:=zc BK106.out 0 (.int .i64 a0_0) rfl;have hcz10_1:=zc BK106.out 1 (.int .i64 a0_1) rfl;have hcz10_2:=zc BK106.out 2 (.int .i64 a0_2) rfl;have hfz10_0:=zf BK106.out 0;have hfz10_1:=zf BK106.out 1;have hfz10_2:=zf BK106.out 2)|((with_reducible refine gate_callee (f:=71) rfl ?_);refine goesL_ (some 5) rfl rfl Try.func71 (by kernel_rfl) rfl #[.int .i64 a0_0] rfl (by(try simp only[List.map_toArray,List.map_cons,List.map_nil]);first|done|rfl|(simp only[List.length_drop,List.length_take];rfl)) ?_;(with_reducible refine(fe_in.calls a0_0 true _ A2.out).mono ?_);rintro e w' ⟨rfl,⟨nd,rfl⟩⟩;refine⟨_,rfl,?_⟩)|(go_at_call 71;(with_reducible refine(fe_in.calls a0_1 false _ A4.out).mono ?_);rintro e w' ⟨rfl,⟨nd,rfl⟩⟩))
   go_ret
   exact⟨by first|rfl|(simp[errW_none,errW_some]<;>rfl)|(simp[*,errW_none,errW_some]<;>rfl),by repeat(first|(with_reducible first|exact HB.out|apply zA|apply zD|apply zE|refine zS ?_ GE106.out)|exact HB.out)⟩
 ·replace c3:=Bool.eq_false_iff.mpr c3
  subst c3
  have H1:(some false)=some r:=by rw[if_neg (show ¬(false=true) by decide)] at H;exact H
  clear H
  have H:=H1
  clear H1
  obtain rfl:=Option.some.inj H
  go_enter Try.func81,Try.ntmps81
  go_wp2_with (first|((with_reducible refine gate_dst (N:=1) rfl ?_);refine box_event ?hg (N:=1) ?hd (cs:=#[.int .i64 a0_0,.int .i64 a0_1,.int .i64 a0_2]) (t:=23) ?hr ?_;(case hd=>rfl);(case hg=>rfl);(case hr=>first|(go_simp;done)|(go_simp;rfl));intro gb106 hg w11 hbox hb;have n0_:=zm (below_step (by repeat(first|(with_reducible first|exact HB.out|apply zA|apply zD|apply zE)|exact HB.out)) hb);have n1_:=zm (hbox);have n2_:=zm ((by rw[hg];exact(below_size (by repeat(first|(with_reducible first|exact HB.out|apply zA|apply zD|apply zE)|exact HB.out))):w.heap.size≤gb106));have n3_:=zm ((by rw[hg];exact(below_size (by repeat(first|(with_reducible first|exact HB.out|apply zA|apply zD|apply zE)|exact HB.out))):w.heap.size≤gb106));clear HB;have HB:=n0_;have BK106:=n1_;have GW106:=n2_;have GE106:=n3_;clear n0_ n1_ n2_ n3_;clear hb hbox hg;have hcz12_0:=zc BK106.out 0 (.int .i64 a0_0) rfl;have hcz12_1:=zc BK106.out 1 (.int .i64 a0_1) rfl;have hcz12_2:=zc BK106.out 2 (.int .i64 a0_2) rfl;have hfz12_0:=zf BK106.out 0;have hfz12_1:=zf BK106.out 1;have hfz12_2:=zf BK106.out 2)|((with_reducible refine gate_callee (f:=71) rfl ?_);refine goesL_ (some 5) rfl rfl Try.func71 (by kernel_rfl) rfl #[.int .i64 a0_0] rfl (by(try simp only[List.map_toArray,List.map_cons,List.map_nil]);first|done|rfl|(simp only[List.length_drop,List.length_take];rfl)) ?_;(with_reducible refine(fe_in.calls a0_0 false _ A2.out).mono ?_);rintro e w' ⟨rfl,⟨nd,rfl⟩⟩;refine⟨_,rfl,?_⟩))
  go_ret
  exact⟨by first|rfl|(simp[errW_none,errW_some]<;>rfl)|(simp[*,errW_none,errW_some]<;>rfl),by repeat(first|(with_reducible first|exact HB.out|apply zA|apply zD|apply zE|refine zS ?_ GE106.out)|exact HB.out)⟩
def di_ranged.f (a0:Int):Option (Bool):=if a0≥(-100000) then(some (decide (a0≤100000))) else(some false)
set_option maxHeartbeats 8000000 in
set_option maxRecDepth 100000 in
theorem di_ranged.calls (a0:Int) (r:Bool) (w:World) (h:di_ranged.f a0=some r):
    Calls Try.prog 117 #[.int .i64 a0] w fun e w'=>e=.returned (.bool r)∧Drawn0 w w':=by
  have H:(if a0≥(-100000) then(some (decide (a0≤100000))) else(some false))=some r:=h
  clear h
  by_cases c2:a0≥(-100000)
  · rw[if_pos c2] at H
    have c2b0:decide ((-100000)≤a0)=true:=decide_eq_true c2
    clear c2
    obtain rfl:=Option.some.inj H
    go_enter Try.func117,Try.ntmps117
    go_wp2
    go_ret
    exact⟨by first|rfl|(simp;done)|(simp[*];done),by repeat(first|exact Drawn0.refl _|apply Drawn0.step)⟩
  · rw[if_neg c2] at H
    have c2b0:decide ((-100000)≤a0)=false:=decide_eq_false c2
    clear c2
    obtain rfl:=Option.some.inj H
    go_enter Try.func117,Try.ntmps117
    go_wp2
    go_ret
    exact⟨by first|rfl|(simp;done)|(simp[*];done),by repeat(first|exact Drawn0.refl _|apply Drawn0.step)⟩
def di_Check.j0:Nat→Bool→Int→Int→Option (Int)
  | 0,_,_,_=>none
  | k+1,x3,x111000,x111001=>if x3=true then(some 2) else(if x111000 > x111001 then(some 9) else(some 0))
def di_Check.f (k:Nat) (a0_0 a0_1:Int):Option (Int):=(di_ranged.f a0_0).bind fun t111=>(if t111=true then((di_ranged.f a0_1).bind fun t112=>(di_Check.j0 k (!t112) a0_0 a0_1)) else(di_Check.j0 k true a0_0 a0_1))
theorem di_Check.mono_l:∀ k,(∀ y0 y1 y2,LeO (di_Check.j0 k y0 y1 y2) (di_Check.j0 (k+1) y0 y1 y2))
 | 0=>fun _ _ _ r h=>by simp[di_Check.j0] at h
 | k+1=>by
  have ih0:=di_Check.mono_l k
  ·intro y0 y1 y2
   unfold di_Check.j0
   repeat' first
   | (with_reducible exact ih0 _ _ _)
   | (with_reducible exact LeO.refl _)
   | (with_reducible exact LeO.none _)
   | (with_reducible refine LeO.ite ?_ ?_)
   | (with_reducible refine LeO.bind ?_ (fun _=>?_))
   | exact ih0 _ _ _
   | exact LeO.none _
   | refine LeO.ite ?_ ?_
   | refine LeO.bind ?_ (fun _=>?_)
theorem di_Check.mono:∀ a0 a1 k,LeO (di_Check.f k a0 a1) (di_Check.f (k+1) a0 a1):=by
 intro a0 a1 k
 have ih0:=di_Check.mono_l k
 unfold di_Check.f
 repeat' first
  | (with_reducible exact ih0 _ _ _)
  | (with_reducible exact LeO.refl _)
  | (with_reducible exact LeO.none _)
  | (with_reducible refine LeO.ite ?_ ?_)
  | (with_reducible refine LeO.bind ?_ (fun _=>?_))
  | exact ih0 _ _ _
  | exact LeO.none _
  | refine LeO.ite ?_ ?_
  | refine LeO.bind ?_ (fun _=>?_)
set_option maxHeartbeats 8000000 in
set_option maxRecDepth 100000 in
theorem di_Check.calls (k:Nat) (a0_0 a0_1 r:Int) (w:World) (h:di_Check.f k a0_0 a0_1=some r):
 Calls Try.prog 82 #[.agg #[.int .i64 a0_0,.int .i64 a0_1]] w fun e w'=>e=.returned (.int .i64 r)∧Below w.heap.size w w':=by
 have hu25:=Try.underlying25
 have HB:=zm (Below.refl w.heap.size w)
 have H:((di_ranged.f a0_0).bind fun t111=>(if t111=true then((di_ranged.f a0_1).bind fun t112=>(di_Check.j0 k (!t112) a0_0 a0_1)) else(di_Check.j0 k true a0_0 a0_1)))=some r:=h
 clear h
 have HC2:=zm H
 clear H
 go_enter Try.func82,Try.ntmps82
 go_upto_region 1 with (first|((with_reducible refine gate_dst (N:=1) rfl ?_);refine box_event ?hg (N:=1) ?hd (cs:=#[.int .i64 a0_0,.int .i64 a0_1]) (t:=25) ?hr ?_;(case hd=>rfl);(case hg=>rfl);(case hr=>first|(go_simp;done)|(go_simp;rfl));intro gb110 hg w3 hbox hb;have n0_:=zm (below_step (by repeat(first|(with_reducible first|exact HB.out|apply zA|apply zD|apply zE)|exact HB.out)) hb);have n1_:=zm (hbox);have n2_:=zm ((by rw[hg];exact(below_size (by repeat(first|(with_reducible first|exact HB.out|apply zA|apply zD|apply zE)|exact HB.out))):w.heap.size≤gb110));have n3_:=zm ((by rw[hg];exact(below_size (by repeat(first|(with_reducible first|exact HB.out|apply zA|apply zD|apply zE)|exact HB.out))):w.heap.size≤gb110));clear HB;have HB:=n0_;have BK110:=n1_;have GW110:=n2_;have GE110:=n3_;clear n0_ n1_ n2_ n3_;clear hb hbox hg))
 (try simp only[Act.put,zx,zy,zz])
 go_cut [3] (fun v3 wc=>∃(kq:Nat) (x3_1:Bool),v3=.bool x3_1∧Aside0 (di_Check.j0 kq x3_1 a0_0 a0_1=some r)∧Aside0 (kq≤k)∧Aside0 (wc.heap[gb110]?=some (.cells #[.int .i64 a0_0,.int .i64 a0_1] 25 (0,0)))∧Aside0 (Below w.heap.size w wc))
 case first=>
  have H:=HC2.out
  clear HC2
  replace H:=Option.bind_eq_some_iff.mp H
  obtain⟨t111,A40,H⟩:=H
  replace H:(if t111=true then((di_ranged.f a0_1).bind fun t112=>(di_Check.j0 k (!t112) a0_0 a0_1)) else(di_Check.j0 k true a0_0 a0_1))=some r:=H
  have A4:=zm A40
  clear A40
  by_cases c5:t111=true
  ·subst c5
   have H1:((di_ranged.f a0_1).bind fun t112=>(di_Check.j0 k (!t112) a0_0 a0_1))=some r:=by rw[if_pos rfl] at H;exact H
   clear H
   have H:=H1
   clear H1
   replace H:=Option.bind_eq_some_iff.mp H
   obtain⟨t112,A60,H⟩:=H
   replace H:(di_Check.j0 k (!t112) a0_0 a0_1)=some r:=H
   have A6:=zm A60
   clear A60
   have H':=zm H
   clear H
   have hcz7_0:=zc BK110.out 0 (.int .i64 a0_0) rfl
   have hcz7_1:=zc BK110.out 1 (.int .i64 a0_1) rfl
   have hfz7_0:=zf BK110.out 0
   have hfz7_1:=zf BK110.out 1
   go_wp2_with (first|((with_reducible refine gate_callee (f:=117) rfl ?_);refine goesL_ (some 6) rfl rfl Try.func117 (by kernel_rfl) rfl #[.int .i64 a0_0] rfl (by(try simp only[List.map_toArray,List.map_cons,List.map_nil]);first|done|rfl|(simp only[List.length_drop,List.length_take];rfl)) ?_;(with_reducible refine(di_ranged.calls a0_0 true _ A4.out).mono ?_);rintro e w' ⟨rfl,⟨nd,rfl⟩⟩;refine⟨_,rfl,?_⟩)|(go_at_call 117;(with_reducible refine(di_ranged.calls a0_1 t112 _ A6.out).mono ?_);rintro e w' ⟨rfl,⟨nd,rfl⟩⟩))
   go_meet
   case rel=>exact⟨_,(!t112),(by first|rfl|(simp;done)|(simp[*];done)),H',⟨by first|omega|exact Nat.le_refl _⟩,⟨by(with_reducible repeat first|apply zd|apply ze|apply za);exact BK110.out⟩,⟨by repeat(first|(with_reducible first|exact HB.out|apply zA|apply zD|apply zE|refine zS ?_ GE110.out)|exact HB.out)⟩⟩
  ·replace c5:=Bool.eq_false_iff.mpr c5
   subst c5
   have H1:(di_Check.j0 k true a0_0 a0_1)=some r:=by rw[if_neg (show ¬(false=true) by decide)] at H;exact H
   clear H
   have H:=H1
   clear H1
   have H':=zm H
   clear H
   have hcz8_0:=zc BK110.out 0 (.int .i64 a0_0) rfl
   have hcz8_1:=zc BK110.out 1 (.int .i64 a0_1) rfl
   have hfz8_0:=zf BK110.out 0
   have hfz8_1:=zf BK110.out 1
   go_wp2_with (first|((with_reducible refine gate_callee (f:=117) rfl ?_);refine goesL_ (some 6) rfl rfl Try.func117 (by kernel_rfl) rfl #[.int .i64 a0_0] rfl (by(try simp only[List.map_toArray,List.map_cons,List.map_nil]);first|done|rfl|(simp only[List.length_drop,List.length_take];rfl)) ?_;(with_reducible refine(di_ranged.calls a0_0 false _ A4.out).mono ?_);rintro e w' ⟨rfl,⟨nd,rfl⟩⟩;refine⟨_,rfl,?_⟩))
   go_meet
   case rel=>exact⟨_,(true),(by first|rfl|(simp;done)|(simp[*];done)),H',⟨by first|omega|exact Nat.le_refl _⟩,⟨by(with_reducible repeat first|apply zd|apply ze|apply za);exact BK110.out⟩,⟨by repeat(first|(with_reducible first|exact HB.out|apply zA|apply zD|apply zE|refine zS ?_ GE110.out)|exact HB.out)⟩⟩
 case rest=>
  clear HC2
  try clear c1
  try clear p2
  try clear c5
  try clear c8
  try clear hcz7_0
  try clear hcz7_1
  try clear hcz8_0
  try clear hcz8_1
  try clear hfz7_0
  try clear hfz7_1
  try clear hfz8_0
  try clear hfz8_1
  obtain⟨kq,x3_1,rfl,HA,HJ1,BK110,HB⟩:=hcut
  cases kq with
  | zero=>exact absurd HA.out (by simp[di_Check.j0])
  | succ kj1=>
   have H:=HA.out
   clear HA
   simp only[di_Check.j0] at H
   by_cases c9:x3_1=true
   ·subst c9
    have H1:(some 2)=some r:=by rw[if_pos rfl] at H;exact H
    clear H
    have H:=H1
    clear H1
    obtain rfl:=Option.some.inj H
    go_wp2
    go_ret
    exact⟨by first|rfl|(simp[errW_none,errW_some]<;>rfl)|(simp[*,errW_none,errW_some]<;>rfl),by repeat(first|(with_reducible first|exact HB.out|apply zA|apply zD|apply zE|refine zS ?_ GE110.out)|exact HB.out)⟩
   ·replace c9:=Bool.eq_false_iff.mpr c9
    subst c9
    have H1:(if a0_0 > a0_1 then(some 9) else(some 0))=some r:=by rw[if_neg (show ¬(false=true) by decide)] at H;exact H
    clear H
    have H:=H1
    clear H1
    by_cases c10:a0_0 > a0_1
    ·rw[if_pos c10] at H
     have c10b0:decide (a0_1 < a0_0)=true:=decide_eq_true c10
     clear c10
     obtain rfl:=Option.some.inj H
     have hcz11_0:=zc BK110.out 0 (.int .i64 a0_0) rfl
     have hcz11_1:=zc BK110.out 1 (.int .i64 a0_1) rfl
     have hfz11_0:=zf BK110.out 0
     have hfz11_1:=zf BK110.out 1
     go_wp2
     go_ret
     exact⟨by first|rfl|(simp[errW_none,errW_some]<;>rfl)|(simp[*,errW_none,errW_some]<;>rfl),by repeat(first|(with_reducible first|exact HB.out|apply zA|apply zD|apply zE|refine zS ?_ GE110.out)|exact HB.out)⟩
    ·rw[if_neg c10] at H
     have c10b0:decide (a0_1 < a0_0)=false:=decide_eq_false c10
     clear c10
     obtain rfl:=Option.some.inj H
     have hcz12_0:=zc BK110.out 0 (.int .i64 a0_0) rfl
     have hcz12_1:=zc BK110.out 1 (.int .i64 a0_1) rfl
     have hfz12_0:=zf BK110.out 0
     have hfz12_1:=zf BK110.out 1
     go_wp2
     go_ret
     exact⟨by first|rfl|(simp[errW_none,errW_some]<;>rfl)|(simp[*,errW_none,errW_some]<;>rfl),by repeat(first|(with_reducible first|exact HB.out|apply zA|apply zD|apply zE|refine zS ?_ GE110.out)|exact HB.out)⟩
end Go.Proofs.Ytkgdlbepjmgaiaa.Fea
namespace Go.Proofs.Ytkgdlbepjmgaiaa.Fea
open Go.RowKit YtkgdlbepjmgaiaaW.PrintWords YtkgdlbepjmgaiaaW.PrintLast YtkgdlbepjmgaiaaW.PrintMore
attribute [local go_sem] max2_int min2_int max_two min_two max_three min_three max_four min_four
attribute [local go_sem high] eqA25
mutual
def fe_Check.j0:Nat→Bool→ByteArray→Int→Int→Int→Int→Int→Int→Int→List (S104)→Option (Int)
  | 0,_,_,_,_,_,_,_,_,_,_=>none
  | k+1,x11,x114000,x114001,x114002,x114003,x114004,x114005,x114006,x114007,x114008=>if x11=true then(some 1) else(if x114001=4 then(fe_Check.j1 k (x114002 != 0) x114000 x114001 x114002 x114003 x114004 x114005 x114006 x114007 x114008) else(fe_Check.j1 k false x114000 x114001 x114002 x114003 x114004 x114005 x114006 x114007 x114008))
def fe_Check.j1:Nat→Bool→ByteArray→Int→Int→Int→Int→Int→Int→Int→List (S104)→Option (Int)
  | 0,_,_,_,_,_,_,_,_,_,_=>none
  | k+1,x30,x114000,x114001,x114002,x114003,x114004,x114005,x114006,x114007,x114008=>if x30=true then(some 3) else((fe_ranged.f x114003 x114004 x114005).bind fun t115=>(if t115=true then(if x114001=0 then(fe_Check.j2 k (!(x114006==0)||(!(x114007==0))) x114000 x114001 x114002 x114003 x114004 x114005 x114006 x114007 x114008) else(fe_Check.j2 k false x114000 x114001 x114002 x114003 x114004 x114005 x114006 x114007 x114008)) else(some 2)))
def fe_Check.j2:Nat→Bool→ByteArray→Int→Int→Int→Int→Int→Int→Int→List (S104)→Option (Int)
  | 0,_,_,_,_,_,_,_,_,_,_=>none
  | k+1,x44,x114000,x114001,x114002,x114003,x114004,x114005,x114006,x114007,x114008=>if x44=true then(some 3) else(if x114001=0 then(some 0) else((di_Check.f k x114006 x114007).bind fun t116=>(if t116=0 then(if x114006 < 1 then(some 2) else(some 0)) else(some t116))))
end
def fe_Check.f (k:Nat) (a0_0:ByteArray) (a0_1 a0_2 a0_3 a0_4 a0_5 a0_6 a0_7:Int) (l0_8:List (S104)):Option (Int):=(di_Name.f a0_0).bind fun t114=>(if t114=0 then(if a0_1 < 0 then(fe_Check.j0 k true a0_0 a0_1 a0_2 a0_3 a0_4 a0_5 a0_6 a0_7 l0_8) else(if a0_1≥5 then(fe_Check.j0 k true a0_0 a0_1 a0_2 a0_3 a0_4 a0_5 a0_6 a0_7 l0_8) else(if a0_2 < 0 then(fe_Check.j0 k true a0_0 a0_1 a0_2 a0_3 a0_4 a0_5 a0_6 a0_7 l0_8) else(fe_Check.j0 k (decide (a0_2≥3)) a0_0 a0_1 a0_2 a0_3 a0_4 a0_5 a0_6 a0_7 l0_8)))) else(some t114))
theorem fe_Check.mono_l:∀ k,(∀ y0 y1 y2 y3 y4 y5 y6 y7 y8 y9,LeO (fe_Check.j0 k y0 y1 y2 y3 y4 y5 y6 y7 y8 y9) (fe_Check.j0 (k+1) y0 y1 y2 y3 y4 y5 y6 y7 y8 y9))∧(∀ y0 y1 y2 y3 y4 y5 y6 y7 y8 y9,LeO (fe_Check.j1 k y0 y1 y2 y3 y4 y5 y6 y7 y8 y9) (fe_Check.j1 (k+1) y0 y1 y2 y3 y4 y5 y6 y7 y8 y9))∧(∀ y0 y1 y2 y3 y4 y5 y6 y7 y8 y9,LeO (fe_Check.j2 k y0 y1 y2 y3 y4 y5 y6 y7 y8 y9) (fe_Check.j2 (k+1) y0 y1 y2 y3 y4 y5 y6 y7 y8 y9))
 | 0=>⟨fun _ _ _ _ _ _ _ _ _ _ r h=>by simp[fe_Check.j0] at h,fun _ _ _ _ _ _ _ _ _ _ r h=>by simp[fe_Check.j1] at h,fun _ _ _ _ _ _ _ _ _ _ r h=>by simp[fe_Check.j2] at h⟩
 | k+1=>by
  obtain⟨ih0,ih1,ih2⟩:=fe_Check.mono_l k
  refine⟨?_,?_,?_⟩
  ·intro y0 y1 y2 y3 y4 y5 y6 y7 y8 y9
   unfold fe_Check.j0
   repeat' first
   | (with_reducible exact ih0 _ _ _ _ _ _ _ _ _ _)
   | (with_reducible exact ih1 _ _ _ _ _ _ _ _ _ _)
   | (with_reducible exact ih2 _ _ _ _ _ _ _ _ _ _)
   | (with_reducible exact di_Check.mono _ _ _)
   | (with_reducible exact LeO.refl _)
   | (with_reducible exact LeO.none _)
   | (with_reducible refine LeO.ite ?_ ?_)
   | (with_reducible refine LeO.bind ?_ (fun _=>?_))
   | exact ih0 _ _ _ _ _ _ _ _ _ _
   | exact ih1 _ _ _ _ _ _ _ _ _ _
   | exact ih2 _ _ _ _ _ _ _ _ _ _
   | exact di_Check.mono _ _ _
   | exact LeO.none _
   | refine LeO.ite ?_ ?_
   | refine LeO.bind ?_ (fun _=>?_)
  ·intro y0 y1 y2 y3 y4 y5 y6 y7 y8 y9
   unfold fe_Check.j1
   repeat' first
   | (with_reducible exact ih0 _ _ _ _ _ _ _ _ _ _)
   | (with_reducible exact ih1 _ _ _ _ _ _ _ _ _ _)
   | (with_reducible exact ih2 _ _ _ _ _ _ _ _ _ _)
   | (with_reducible exact di_Check.mono _ _ _)
   | (with_reducible exact LeO.refl _)
   | (with_reducible exact LeO.none _)
   | (with_reducible refine LeO.ite ?_ ?_)
   | (with_reducible refine LeO.bind ?_ (fun _=>?_))
   | exact ih0 _ _ _ _ _ _ _ _ _ _
   | exact ih1 _ _ _ _ _ _ _ _ _ _
   | exact ih2 _ _ _ _ _ _ _ _ _ _
   | exact di_Check.mono _ _ _
   | exact LeO.none _
   | refine LeO.ite ?_ ?_
   | refine LeO.bind ?_ (fun _=>?_)
  ·intro y0 y1 y2 y3 y4 y5 y6 y7 y8 y9
   unfold fe_Check.j2
   repeat' first
   | (with_reducible exact ih0 _ _ _ _ _ _ _ _ _ _)
   | (with_reducible exact ih1 _ _ _ _ _ _ _ _ _ _)
   | (with_reducible exact ih2 _ _ _ _ _ _ _ _ _ _)
   | (with_reducible exact di_Check.mono _ _ _)
   | (with_reducible exact LeO.refl _)
   | (with_reducible exact LeO.none _)
   | (with_reducible refine LeO.ite ?_ ?_)
   | (with_reducible refine LeO.bind ?_ (fun _=>?_))
   | exact ih0 _ _ _ _ _ _ _ _ _ _
   | exact ih1 _ _ _ _ _ _ _ _ _ _
   | exact ih2 _ _ _ _ _ _ _ _ _ _
   | exact di_Check.mono _ _ _
   | exact LeO.none _
   | refine LeO.ite ?_ ?_
   | refine LeO.bind ?_ (fun _=>?_)
theorem fe_Check.mono:∀ a0 a1 a2 a3 a4 a5 a6 a7 a8 k,LeO (fe_Check.f k a0 a1 a2 a3 a4 a5 a6 a7 a8) (fe_Check.f (k+1) a0 a1 a2 a3 a4 a5 a6 a7 a8):=by
 intro a0 a1 a2 a3 a4 a5 a6 a7 a8 k
 obtain⟨ih0,ih1,ih2⟩:=fe_Check.mono_l k
 unfold fe_Check.f
 repeat' first
  | (with_reducible exact ih0 _ _ _ _ _ _ _ _ _ _)
  | (with_reducible exact ih1 _ _ _ _ _ _ _ _ _ _)
  | (with_reducible exact ih2 _ _ _ _ _ _ _ _ _ _)
  | (with_reducible exact di_Check.mono _ _ _)
  | (with_reducible exact LeO.refl _)
  | (with_reducible exact LeO.none _)
  | (with_reducible refine LeO.ite ?_ ?_)
  | (with_reducible refine LeO.bind ?_ (fun _=>?_))
  | exact ih0 _ _ _ _ _ _ _ _ _ _
  | exact ih1 _ _ _ _ _ _ _ _ _ _
  | exact ih2 _ _ _ _ _ _ _ _ _ _
  | exact di_Check.mono _ _ _
  | exact LeO.none _
  | refine LeO.ite ?_ ?_
  | refine LeO.bind ?_ (fun _=>?_)
set_option maxHeartbeats 8000000 in
set_option maxRecDepth 100000 in
theorem fe_Check.calls (k:Nat) (a0_0:ByteArray) (a0_1 a0_2 a0_3 a0_4 a0_5 a0_6 a0_7:Int) (A0_8:Option Addr) (c0_8:Nat) (l0_8:List (S104)) (r:Int) (w:World) (hr0_8:Kd.C k104 w A0_8 l0_8.length l0_8) (hc0_8:l0_8.length≤c0_8) (h:fe_Check.f k a0_0 a0_1 a0_2 a0_3 a0_4 a0_5 a0_6 a0_7 l0_8=some r):
 Calls Try.prog 29 #[.agg #[.string a0_0,.int .i64 a0_1,.int .i64 a0_2,.int .i64 a0_3,.int .i64 a0_4,.int .i64 a0_5,.int .i64 a0_6,.int .i64 a0_7,.slice A0_8 l0_8.length c0_8]] w fun e w'=>e=.returned (.int .i64 r)∧Below w.heap.size w w':=by
 have hu28:=Try.underlying28
 have hu23:=Try.underlying23
 have hu25:=Try.underlying25
 have HR0_8:=zm hr0_8
 have HC0_8:=zm hc0_8
 clear hr0_8 hc0_8
 have HB:=zm (Below.refl w.heap.size w)
 have H:((di_Name.f a0_0).bind fun t114=>(if t114=0 then(if a0_1 < 0 then(fe_Check.j0 k true a0_0 a0_1 a0_2 a0_3 a0_4 a0_5 a0_6 a0_7 l0_8) else(if a0_1≥5 then(fe_Check.j0 k true a0_0 a0_1 a0_2 a0_3 a0_4 a0_5 a0_6 a0_7 l0_8) else(if a0_2 < 0 then(fe_Check.j0 k true a0_0 a0_1 a0_2 a0_3 a0_4 a0_5 a0_6 a0_7 l0_8) else(fe_Check.j0 k (decide (a0_2≥3)) a0_0 a0_1 a0_2 a0_3 a0_4 a0_5 a0_6 a0_7 l0_8)))) else(some t114)))=some r:=h
 clear h
 replace H:=Option.bind_eq_some_iff.mp H
 obtain⟨t114,A20,H⟩:=H
 replace H:(if t114=0 then(if a0_1 < 0 then(fe_Check.j0 k true a0_0 a0_1 a0_2 a0_3 a0_4 a0_5 a0_6 a0_7 l0_8) else(if a0_1≥5 then(fe_Check.j0 k true a0_0 a0_1 a0_2 a0_3 a0_4 a0_5 a0_6 a0_7 l0_8) else(if a0_2 < 0 then(fe_Check.j0 k true a0_0 a0_1 a0_2 a0_3 a0_4 a0_5 a0_6 a0_7 l0_8) else(fe_Check.j0 k (decide (a0_2≥3)) a0_0 a0_1 a0_2 a0_3 a0_4 a0_5 a0_6 a0_7 l0_8)))) else(some t114))=some r:=H
 have A2:=zm A20
 clear A20
 by_cases c3:t114=0
 ·rw[if_pos c3] at H
  have c3b0:(t114==0)=true:=beq_iff_eq.mpr c3
  have c3b1:(t114 != 0)=false:=bne_eq_false_iff_eq.mpr c3
  clear c3
  have HC4:=zm H
  clear H
  go_enter Try.func29,Try.ntmps29
  go_upto_region 4 with (first|((with_reducible refine gate_dst (N:=1) rfl ?_);refine box_event ?hg (N:=1) ?hd (cs:=#[.string a0_0,.int .i64 a0_1,.int .i64 a0_2,.int .i64 a0_3,.int .i64 a0_4,.int .i64 a0_5,.int .i64 a0_6,.int .i64 a0_7,.slice A0_8 l0_8.length c0_8]) (t:=28) ?hr ?_;(case hd=>rfl);(case hg=>rfl);(case hr=>first|(go_simp;done)|(go_simp;rfl));intro gb113 hg w5 hbox hb;have n0_:=zm (below_step (by repeat(first|(with_reducible first|exact HB.out|apply zA|apply zD|apply zE)|exact HB.out)) hb);have n1_:=zm (hbox);have n2_:=zm ((by rw[hg];exact(below_size (by repeat(first|(with_reducible first|exact HB.out|apply zA|apply zD|apply zE)|exact HB.out))):w.heap.size≤gb113));have n3_:=zm ((by rw[hg];exact(below_size (by repeat(first|(with_reducible first|exact HB.out|apply zA|apply zD|apply zE)|exact HB.out))):w.heap.size≤gb113));clear HB;have HB:=n0_;have BK113:=n1_;have GW113:=n2_;have GE113:=n3_;clear n0_ n1_ n2_ n3_;clear hb hbox hg;have hcz6_0:=zc BK113.out 0 (.string a0_0) rfl;have hcz6_1:=zc BK113.out 1 (.int .i64 a0_1) rfl;have hcz6_2:=zc BK113.out 2 (.int .i64 a0_2) rfl;have hcz6_3:=zc BK113.out 3 (.int .i64 a0_3) rfl;have hcz6_4:=zc BK113.out 4 (.int .i64 a0_4) rfl;have hcz6_5:=zc BK113.out 5 (.int .i64 a0_5) rfl;have hcz6_6:=zc BK113.out 6 (.int .i64 a0_6) rfl;have hcz6_7:=zc BK113.out 7 (.int .i64 a0_7) rfl;have hcz6_8:=zc BK113.out 8 (.slice A0_8 l0_8.length c0_8) rfl;have hfz6_0:=zf BK113.out 0;have hfz6_1:=zf BK113.out 1;have hfz6_2:=zf BK113.out 2;have hfz6_3:=zf BK113.out 3;have hfz6_4:=zf BK113.out 4;have hfz6_5:=zf BK113.out 5;have hfz6_6:=zf BK113.out 6;have hfz6_7:=zf BK113.out 7;have hfz6_8:=zf BK113.out 8)|((with_reducible refine gate_callee (f:=80) rfl ?_);refine goesL_ (some 7) rfl rfl Try.func80 (by kernel_rfl) rfl #[.string a0_0] rfl (by(try simp only[List.map_toArray,List.map_cons,List.map_nil]);first|done|rfl|(simp only[List.length_drop,List.length_take];rfl)) ?_;(with_reducible refine(di_Name.calls a0_0 t114 _ A2.out).mono ?_);rintro e w7 ⟨rfl,hb⟩;refine⟨_,rfl,?_⟩;have n0_:=zm (zb (g:=gb113) (o:=.cells #[.string a0_0,.int .i64 a0_1,.int .i64 a0_2,.int .i64 a0_3,.int .i64 a0_4,.int .i64 a0_5,.int .i64 a0_6,.int .i64 a0_7,.slice A0_8 l0_8.length c0_8] 28 (0,0)) (by(with_reducible repeat first|apply zd|apply ze|apply za);exact BK113.out) hb);have n1_:=zm (below_step (by repeat(first|(with_reducible first|exact HB.out|apply zA|apply zD|apply zE|refine zS ?_ GE113.out)|exact HB.out)) hb);clear BK113 HB;have BK113:=n0_;have HB:=n1_;clear n0_ n1_;(try clear hb);(try clear hb2);(try clear hk);(try clear hi)))
  (try simp only[Act.put,zx,zy,zz])
  go_cut [11] (fun v11 wc=>∃(kq:Nat) (x11_3:Bool),v11=.bool x11_3∧Aside0 (fe_Check.j0 kq x11_3 a0_0 a0_1 a0_2 a0_3 a0_4 a0_5 a0_6 a0_7 l0_8=some r)∧Aside0 (kq≤k)∧Aside0 (wc.heap[gb113]?=some (.cells #[.string a0_0,.int .i64 a0_1,.int .i64 a0_2,.int .i64 a0_3,.int .i64 a0_4,.int .i64 a0_5,.int .i64 a0_6,.int .i64 a0_7,(.slice A0_8 l0_8.length c0_8)] 28 (0,0)))∧Aside0 (Below w.heap.size w wc))
  case first=>
   have H:=HC4.out
   clear HC4
   by_cases c8:a0_1 < 0
   ·rw[if_pos c8] at H
    have c8b0:decide (a0_1 < 0)=true:=decide_eq_true c8
    clear c8
    (first|rw[c8b0]|(simp only[i64_w,i32_w];rw[c8b0])|(rw[c8b2];try simp only[Bool.not_true,Bool.not_false])|skip)
    have H':=zm H
    clear H
    have hcz9_0:=zc BK113.out 0 (.string a0_0) rfl
    have hcz9_1:=zc BK113.out 1 (.int .i64 a0_1) rfl
    have hcz9_2:=zc BK113.out 2 (.int .i64 a0_2) rfl
    have hcz9_3:=zc BK113.out 3 (.int .i64 a0_3) rfl
    have hcz9_4:=zc BK113.out 4 (.int .i64 a0_4) rfl
    have hcz9_5:=zc BK113.out 5 (.int .i64 a0_5) rfl
    have hcz9_6:=zc BK113.out 6 (.int .i64 a0_6) rfl
    have hcz9_7:=zc BK113.out 7 (.int .i64 a0_7) rfl
    have hcz9_8:=zc BK113.out 8 (.slice A0_8 l0_8.length c0_8) rfl
    have hfz9_0:=zf BK113.out 0
    have hfz9_1:=zf BK113.out 1
    have hfz9_2:=zf BK113.out 2
    have hfz9_3:=zf BK113.out 3
    have hfz9_4:=zf BK113.out 4
    have hfz9_5:=zf BK113.out 5
    have hfz9_6:=zf BK113.out 6
    have hfz9_7:=zf BK113.out 7
    have hfz9_8:=zf BK113.out 8
    go_wp2
    go_meet
    case rel=>exact⟨_,(true),(by first|rfl|(simp;done)|(simp[*];done)),H',⟨by first|omega|exact Nat.le_refl _⟩,⟨by(with_reducible repeat first|apply zd|apply ze|apply za);exact BK113.out⟩,⟨by repeat(first|(with_reducible first|exact HB.out|apply zA|apply zD|apply zE|refine zS ?_ GE113.out)|exact HB.out)⟩⟩
   ·rw[if_neg c8] at H
    have c8b0:decide (a0_1 < 0)=false:=decide_eq_false c8
    clear c8
    (first|rw[c8b0]|(simp only[i64_w,i32_w];rw[c8b0])|(rw[c8b2];try simp only[Bool.not_true,Bool.not_false])|skip)
    by_cases c10:a0_1≥5
    ·rw[if_pos c10] at H
     have c10b0:decide (5≤a0_1)=true:=decide_eq_true c10
     clear c10
     have H':=zm H
     clear H
     have hcz11_0:=zc BK113.out 0 (.string a0_0) rfl
     have hcz11_1:=zc BK113.out 1 (.int .i64 a0_1) rfl
     have hcz11_2:=zc BK113.out 2 (.int .i64 a0_2) rfl
     have hcz11_3:=zc BK113.out 3 (.int .i64 a0_3) rfl
     have hcz11_4:=zc BK113.out 4 (.int .i64 a0_4) rfl
     have hcz11_5:=zc BK113.out 5 (.int .i64 a0_5) rfl
     have hcz11_6:=zc BK113.out 6 (.int .i64 a0_6) rfl
     have hcz11_7:=zc BK113.out 7 (.int .i64 a0_7) rfl
     have hcz11_8:=zc BK113.out 8 (.slice A0_8 l0_8.length c0_8) rfl
     have hfz11_0:=zf BK113.out 0
     have hfz11_1:=zf BK113.out 1
     have hfz11_2:=zf BK113.out 2
     have hfz11_3:=zf BK113.out 3
     have hfz11_4:=zf BK113.out 4
     have hfz11_5:=zf BK113.out 5
     have hfz11_6:=zf BK113.out 6
     have hfz11_7:=zf BK113.out 7
     have hfz11_8:=zf BK113.out 8
     go_wp2
     go_meet
     case rel=>exact⟨_,(true),(by first|rfl|(simp;done)|(simp[*];done)),H',⟨by first|omega|exact Nat.le_refl _⟩,⟨by(with_reducible repeat first|apply zd|apply ze|apply za);exact BK113.out⟩,⟨by repeat(first|(with_reducible first|exact HB.out|apply zA|apply zD|apply zE|refine zS ?_ GE113.out)|exact HB.out)⟩⟩
    ·rw[if_neg c10] at H
     have c10b0:decide (5≤a0_1)=false:=decide_eq_false c10
     clear c10
     by_cases c12:a0_2 < 0
     ·rw[if_pos c12] at H
      have c12b0:decide (a0_2 < 0)=true:=decide_eq_true c12
      clear c12
      have H':=zm H
      clear H
      have hcz13_0:=zc BK113.out 0 (.string a0_0) rfl
      have hcz13_1:=zc BK113.out 1 (.int .i64 a0_1) rfl
      have hcz13_2:=zc BK113.out 2 (.int .i64 a0_2) rfl
      have hcz13_3:=zc BK113.out 3 (.int .i64 a0_3) rfl
      have hcz13_4:=zc BK113.out 4 (.int .i64 a0_4) rfl
      have hcz13_5:=zc BK113.out 5 (.int .i64 a0_5) rfl
      have hcz13_6:=zc BK113.out 6 (.int .i64 a0_6) rfl
      have hcz13_7:=zc BK113.out 7 (.int .i64 a0_7) rfl
      have hcz13_8:=zc BK113.out 8 (.slice A0_8 l0_8.length c0_8) rfl
      have hfz13_0:=zf BK113.out 0
      have hfz13_1:=zf BK113.out 1
      have hfz13_2:=zf BK113.out 2
      have hfz13_3:=zf BK113.out 3
      have hfz13_4:=zf BK113.out 4
      have hfz13_5:=zf BK113.out 5
      have hfz13_6:=zf BK113.out 6
      have hfz13_7:=zf BK113.out 7
      have hfz13_8:=zf BK113.out 8
      go_wp2
      go_meet
      case rel=>exact⟨_,(true),(by first|rfl|(simp;done)|(simp[*];done)),H',⟨by first|omega|exact Nat.le_refl _⟩,⟨by(with_reducible repeat first|apply zd|apply ze|apply za);exact BK113.out⟩,⟨by repeat(first|(with_reducible first|exact HB.out|apply zA|apply zD|apply zE|refine zS ?_ GE113.out)|exact HB.out)⟩⟩
     ·rw[if_neg c12] at H
      have c12b0:decide (a0_2 < 0)=false:=decide_eq_false c12
      clear c12
      have H':=zm H
      clear H
      have hcz14_0:=zc BK113.out 0 (.string a0_0) rfl
      have hcz14_1:=zc BK113.out 1 (.int .i64 a0_1) rfl
      have hcz14_2:=zc BK113.out 2 (.int .i64 a0_2) rfl
      have hcz14_3:=zc BK113.out 3 (.int .i64 a0_3) rfl
      have hcz14_4:=zc BK113.out 4 (.int .i64 a0_4) rfl
      have hcz14_5:=zc BK113.out 5 (.int .i64 a0_5) rfl
      have hcz14_6:=zc BK113.out 6 (.int .i64 a0_6) rfl
      have hcz14_7:=zc BK113.out 7 (.int .i64 a0_7) rfl
      have hcz14_8:=zc BK113.out 8 (.slice A0_8 l0_8.length c0_8) rfl
      have hfz14_0:=zf BK113.out 0
      have hfz14_1:=zf BK113.out 1
      have hfz14_2:=zf BK113.out 2
      have hfz14_3:=zf BK113.out 3
      have hfz14_4:=zf BK113.out 4
      have hfz14_5:=zf BK113.out 5
      have hfz14_6:=zf BK113.out 6
      have hfz14_7:=zf BK113.out 7
      have hfz14_8:=zf BK113.out 8
      go_wp2
      go_meet
      case rel=>exact⟨_,(decide (a0_2≥3)),(by first|rfl|(simp;done)|(simp[*];done)),H',⟨by first|omega|exact Nat.le_refl _⟩,⟨by(with_reducible repeat first|apply zd|apply ze|apply za);exact BK113.out⟩,⟨by repeat(first|(with_reducible first|exact HB.out|apply zA|apply zD|apply zE|refine zS ?_ GE113.out)|exact HB.out)⟩⟩
  case rest=>
   clear HC4
   try clear c1
   try clear c2
   try clear p2
   try clear c3
   try clear c3b0
   try clear c3b1
   try clear c8
   try clear c8b0
   try clear c8b2
   try clear c10
   try clear c10b0
   try clear c12
   try clear c12b0
   try clear hcz11_0
   try clear hcz11_1
   try clear hcz11_2
   try clear hcz11_3
   try clear hcz11_4
   try clear hcz11_5
   try clear hcz11_6
   try clear hcz11_7
   try clear hcz11_8
   try clear hcz13_0
   try clear hcz13_1
   try clear hcz13_2
   try clear hcz13_3
   try clear hcz13_4
   try clear hcz13_5
   try clear hcz13_6
   try clear hcz13_7
   try clear hcz13_8
   try clear hcz14_0
   try clear hcz14_1
   try clear hcz14_2
   try clear hcz14_3
   try clear hcz14_4
   try clear hcz14_5
   try clear hcz14_6
   try clear hcz14_7
   try clear hcz14_8
   try clear hcz6_0
   try clear hcz6_1
   try clear hcz6_2
   try clear hcz6_3
   try clear hcz6_4
   try clear hcz6_5
   try clear hcz6_6
   try clear hcz6_7
   try clear hcz6_8
   try clear hcz9_0
   try clear hcz9_1
   try clear hcz9_2
   try clear hcz9_3
   try clear hcz9_4
   try clear hcz9_5
   try clear hcz9_6
   try clear hcz9_7
   try clear hcz9_8
   try clear hfz11_0
   try clear hfz11_1
   try clear hfz11_2
   try clear hfz11_3
   try clear hfz11_4
   try clear hfz11_5
   try clear hfz11_6
   try clear hfz11_7
   try clear hfz11_8
   try clear hfz13_0
   try clear hfz13_1
   try clear hfz13_2
   try clear hfz13_3
   try clear hfz13_4
   try clear hfz13_5
   try clear hfz13_6
   try clear hfz13_7
   try clear hfz13_8
   try clear hfz14_0
   try clear hfz14_1
   try clear hfz14_2
   try clear hfz14_3
   try clear hfz14_4
   try clear hfz14_5
   try clear hfz14_6
   try clear hfz14_7
   try clear hfz14_8
   try clear hfz6_0
   try clear hfz6_1
   try clear hfz6_2
   try clear hfz6_3
   try clear hfz6_4
   try clear hfz6_5
   try clear hfz6_6
   try clear hfz6_7
   try clear hfz6_8
   try clear hfz9_0
   try clear hfz9_1
   try clear hfz9_2
   try clear hfz9_3
   try clear hfz9_4
   try clear hfz9_5
   try clear hfz9_6
   try clear hfz9_7
   try clear hfz9_8
   obtain⟨kq,x11_3,rfl,HA,HJ3,BK113,HB⟩:=hcut
   cases kq with
   | zero=>exact absurd HA.out (by simp[fe_Check.j0])
   | succ kj3=>
    have H:=HA.out
    clear HA
    simp only[fe_Check.j0] at H
    by_cases c15:x11_3=true
    ·subst c15
     have H1:(some 1)=some r:=by rw[if_pos rfl] at H;exact H
     clear H
     have H:=H1
     clear H1
     obtain rfl:=Option.some.inj H
     go_wp2
     go_ret
     exact⟨by first|rfl|(simp[errW_none,errW_some]<;>rfl)|(simp[*,errW_none,errW_some]<;>rfl),by repeat(first|(with_reducible first|exact HB.out|apply zA|apply zD|apply zE|refine zS ?_ GE113.out)|exact HB.out)⟩
    ·replace c15:=Bool.eq_false_iff.mpr c15
     subst c15
     have H1:(if a0_1=4 then(fe_Check.j1 kj3 (a0_2 != 0) a0_0 a0_1 a0_2 a0_3 a0_4 a0_5 a0_6 a0_7 l0_8) else(fe_Check.j1 kj3 false a0_0 a0_1 a0_2 a0_3 a0_4 a0_5 a0_6 a0_7 l0_8))=some r:=by rw[if_neg (show ¬(false=true) by decide)] at H;exact H
     clear H
     have H:=H1
     clear H1
     have HC16:=zm H
     clear H
     go_upto_region 6 with (fail)
     go_cut [30] (fun v30 wc=>∃(kq:Nat) (x30_15:Bool),v30=.bool x30_15∧Aside0 (fe_Check.j1 kq x30_15 a0_0 a0_1 a0_2 a0_3 a0_4 a0_5 a0_6 a0_7 l0_8=some r)∧Aside0 (kq≤kj3)∧Aside0 (wc.heap[gb113]?=some (.cells #[.string a0_0,.int .i64 a0_1,.int .i64 a0_2,.int .i64 a0_3,.int .i64 a0_4,.int .i64 a0_5,.int .i64 a0_6,.int .i64 a0_7,(.slice A0_8 l0_8.length c0_8)] 28 (0,0)))∧Aside0 (Below w.heap.size w wc))
     case first=>
      have H:=HC16.out
      clear HC16
      by_cases c17:a0_1=4
      ·rw[if_pos c17] at H
       have c17b0:(a0_1==4)=true:=beq_iff_eq.mpr c17
       have c17b1:(a0_1 != 4)=false:=bne_eq_false_iff_eq.mpr c17
       clear c17
       (first|rw[c17b0]|(simp only[i64_w,i32_w];rw[c17b0])|(rw[c17b2];try simp only[Bool.not_true,Bool.not_false])|skip)
       have H':=zm H
       clear H
       have hcz18_0:=zc BK113.out 0 (.string a0_0) rfl
       have hcz18_1:=zc BK113.out 1 (.int .i64 a0_1) rfl
       have hcz18_2:=zc BK113.out 2 (.int .i64 a0_2) rfl
       have hcz18_3:=zc BK113.out 3 (.int .i64 a0_3) rfl
       have hcz18_4:=zc BK113.out 4 (.int .i64 a0_4) rfl
       have hcz18_5:=zc BK113.out 5 (.int .i64 a0_5) rfl
       have hcz18_6:=zc BK113.out 6 (.int .i64 a0_6) rfl
       have hcz18_7:=zc BK113.out 7 (.int .i64 a0_7) rfl
       have hcz18_8:=zc BK113.out 8 (.slice A0_8 l0_8.length c0_8) rfl
       have hfz18_0:=zf BK113.out 0
       have hfz18_1:=zf BK113.out 1
       have hfz18_2:=zf BK113.out 2
       have hfz18_3:=zf BK113.out 3
       have hfz18_4:=zf BK113.out 4
       have hfz18_5:=zf BK113.out 5
       have hfz18_6:=zf BK113.out 6
       have hfz18_7:=zf BK113.out 7
       have hfz18_8:=zf BK113.out 8
       go_wp2
       go_meet
       case rel=>exact⟨_,((a0_2 != 0)),(by first|rfl|(simp;done)|(simp[*];done)),H',⟨by have:=HJ3.out;first|omega|exact Nat.le_refl _⟩,⟨by(with_reducible repeat first|apply zd|apply ze|apply za);exact BK113.out⟩,⟨by repeat(first|(with_reducible first|exact HB.out|apply zA|apply zD|apply zE|refine zS ?_ GE113.out)|exact HB.out)⟩⟩
      ·rw[if_neg c17] at H
       have c17b0:(a0_1==4)=false:=beq_eq_false_iff_ne.mpr c17
       have c17b1:(a0_1 != 4)=true:=bne_iff_ne.mpr c17
       (first|rw[c17b0]|(simp only[i64_w,i32_w];rw[c17b0])|(rw[c17b2];try simp only[Bool.not_true,Bool.not_false])|skip)
       have H':=zm H
       clear H
       have hcz19_0:=zc BK113.out 0 (.string a0_0) rfl
       have hcz19_1:=zc BK113.out 1 (.int .i64 a0_1) rfl
       have hcz19_2:=zc BK113.out 2 (.int .i64 a0_2) rfl
       have hcz19_3:=zc BK113.out 3 (.int .i64 a0_3) rfl
       have hcz19_4:=zc BK113.out 4 (.int .i64 a0_4) rfl
       have hcz19_5:=zc BK113.out 5 (.int .i64 a0_5) rfl
       have hcz19_6:=zc BK113.out 6 (.int .i64 a0_6) rfl
       have hcz19_7:=zc BK113.out 7 (.int .i64 a0_7) rfl
       have hcz19_8:=zc BK113.out 8 (.slice A0_8 l0_8.length c0_8) rfl
       have hfz19_0:=zf BK113.out 0
       have hfz19_1:=zf BK113.out 1
       have hfz19_2:=zf BK113.out 2
       have hfz19_3:=zf BK113.out 3
       have hfz19_4:=zf BK113.out 4
       have hfz19_5:=zf BK113.out 5
       have hfz19_6:=zf BK113.out 6
       have hfz19_7:=zf BK113.out 7
       have hfz19_8:=zf BK113.out 8
       go_wp2
       go_meet
       case rel=>exact⟨_,(false),(by first|rfl|(simp;done)|(simp[*];done)),H',⟨by have:=HJ3.out;first|omega|exact Nat.le_refl _⟩,⟨by(with_reducible repeat first|apply zd|apply ze|apply za);exact BK113.out⟩,⟨by repeat(first|(with_reducible first|exact HB.out|apply zA|apply zD|apply zE|refine zS ?_ GE113.out)|exact HB.out)⟩⟩
     case rest=>
      clear HC16
      try clear c1
      try clear c2
      try clear p2
      try clear c3
      try clear c3b0
      try clear c3b1
      try clear c8
      try clear c8b0
      try clear c8b2
      try clear c10
      try clear c10b0
      try clear c12
      try clear c12b0
      try clear c15
      try clear c17
      try clear c17b0
      try clear c17b1
      try clear c17b2
      try clear hcz11_0
      try clear hcz11_1
      try clear hcz11_2
      try clear hcz11_3
      try clear hcz11_4
      try clear hcz11_5
      try clear hcz11_6
      try clear hcz11_7
      try clear hcz11_8
      try clear hcz13_0
      try clear hcz13_1
      try clear hcz13_2
      try clear hcz13_3
      try clear hcz13_4
      try clear hcz13_5
      try clear hcz13_6
      try clear hcz13_7
      try clear hcz13_8
      try clear hcz14_0
      try clear hcz14_1
      try clear hcz14_2
      try clear hcz14_3
      try clear hcz14_4
      try clear hcz14_5
      try clear hcz14_6
      try clear hcz14_7
      try clear hcz14_8
      try clear hcz18_0
      try clear hcz18_1
      try clear hcz18_2
      try clear hcz18_3
      try clear hcz18_4
      try clear hcz18_5
      try clear hcz18_6
      try clear hcz18_7
      try clear hcz18_8
      try clear hcz19_0
      try clear hcz19_1
      try clear hcz19_2
      try clear hcz19_3
      try clear hcz19_4
      try clear hcz19_5
      try clear hcz19_6
      try clear hcz19_7
      try clear hcz19_8
      try clear hcz6_0
      try clear hcz6_1
      try clear hcz6_2
      try clear hcz6_3
      try clear hcz6_4
      try clear hcz6_5
      try clear hcz6_6
      try clear hcz6_7
      try clear hcz6_8
      try clear hcz9_0
      try clear hcz9_1
      try clear hcz9_2
      try clear hcz9_3
      try clear hcz9_4
      try clear hcz9_5
      try clear hcz9_6
      try clear hcz9_7
      try clear hcz9_8
      try clear hfz11_0
      try clear hfz11_1
      try clear hfz11_2
      try clear hfz11_3
      try clear hfz11_4
      try clear hfz11_5
      try clear hfz11_6
      try clear hfz11_7
      try clear hfz11_8
      try clear hfz13_0
      try clear hfz13_1
      try clear hfz13_2
      try clear hfz13_3
      try clear hfz13_4
      try clear hfz13_5
      try clear hfz13_6
      try clear hfz13_7
      try clear hfz13_8
      try clear hfz14_0
      try clear hfz14_1
      try clear hfz14_2
      try clear hfz14_3
      try clear hfz14_4
      try clear hfz14_5
      try clear hfz14_6
      try clear hfz14_7
      try clear hfz14_8
      try clear hfz18_0
      try clear hfz18_1
      try clear hfz18_2
      try clear hfz18_3
      try clear hfz18_4
      try clear hfz18_5
      try clear hfz18_6
      try clear hfz18_7
      try clear hfz18_8
      try clear hfz19_0
      try clear hfz19_1
      try clear hfz19_2
      try clear hfz19_3
      try clear hfz19_4
      try clear hfz19_5
      try clear hfz19_6
      try clear hfz19_7
      try clear hfz19_8
      try clear hfz6_0
      try clear hfz6_1
      try clear hfz6_2
      try clear hfz6_3
      try clear hfz6_4
      try clear hfz6_5
      try clear hfz6_6
      try clear hfz6_7
      try clear hfz6_8
      try clear hfz9_0
      try clear hfz9_1
      try clear hfz9_2
      try clear hfz9_3
      try clear hfz9_4
      try clear hfz9_5
      try clear hfz9_6
      try clear hfz9_7
      try clear hfz9_8
      try clear p2
      obtain⟨kq,x30_15,rfl,HA,HJ15,BK113,HB⟩:=hcut
      cases kq with
      | zero=>exact absurd HA.out (by simp[fe_Check.j1])
      | succ kj15=>
       have H:=HA.out
       clear HA
       simp only[fe_Check.j1] at H
       by_cases c20:x30_15=true
       ·subst c20
        have H1:(some 3)=some r:=by rw[if_pos rfl] at H;exact H
        clear H
        have H:=H1
        clear H1
        obtain rfl:=Option.some.inj H
        go_wp2
        go_ret
        exact⟨by first|rfl|(simp[errW_none,errW_some]<;>rfl)|(simp[*,errW_none,errW_some]<;>rfl),by repeat(first|(with_reducible first|exact HB.out|apply zA|apply zD|apply zE|refine zS ?_ GE113.out)|exact HB.out)⟩
       ·replace c20:=Bool.eq_false_iff.mpr c20
        subst c20
        have H1:((fe_ranged.f a0_3 a0_4 a0_5).bind fun t115=>(if t115=true then(if a0_1=0 then(fe_Check.j2 kj15 (!(a0_6==0)||(!(a0_7==0))) a0_0 a0_1 a0_2 a0_3 a0_4 a0_5 a0_6 a0_7 l0_8) else(fe_Check.j2 kj15 false a0_0 a0_1 a0_2 a0_3 a0_4 a0_5 a0_6 a0_7 l0_8)) else(some 2)))=some r:=by rw[if_neg (show ¬(false=true) by decide)] at H;exact H
        clear H
        have H:=H1
        clear H1
        replace H:=Option.bind_eq_some_iff.mp H
        obtain⟨t115,A210,H⟩:=H
        replace H:(if t115=true then(if a0_1=0 then(fe_Check.j2 kj15 (!(a0_6==0)||(!(a0_7==0))) a0_0 a0_1 a0_2 a0_3 a0_4 a0_5 a0_6 a0_7 l0_8) else(fe_Check.j2 kj15 false a0_0 a0_1 a0_2 a0_3 a0_4 a0_5 a0_6 a0_7 l0_8)) else(some 2))=some r:=H
        have A21:=zm A210
        clear A210
        by_cases c22:t115=true
        ·subst c22
         have H1:(if a0_1=0 then(fe_Check.j2 kj15 (!(a0_6==0)||(!(a0_7==0))) a0_0 a0_1 a0_2 a0_3 a0_4 a0_5 a0_6 a0_7 l0_8) else(fe_Check.j2 kj15 false a0_0 a0_1 a0_2 a0_3 a0_4 a0_5 a0_6 a0_7 l0_8))=some r:=by rw[if_pos rfl] at H;exact H
         clear H
         have H:=H1
         clear H1
         have HC23:=zm H
         clear H
         have hcz24_0:=zc BK113.out 0 (.string a0_0) rfl
         have hcz24_1:=zc BK113.out 1 (.int .i64 a0_1) rfl
         have hcz24_2:=zc BK113.out 2 (.int .i64 a0_2) rfl
         have hcz24_3:=zc BK113.out 3 (.int .i64 a0_3) rfl
         have hcz24_4:=zc BK113.out 4 (.int .i64 a0_4) rfl
         have hcz24_5:=zc BK113.out 5 (.int .i64 a0_5) rfl
         have hcz24_6:=zc BK113.out 6 (.int .i64 a0_6) rfl
         have hcz24_7:=zc BK113.out 7 (.int .i64 a0_7) rfl
         have hcz24_8:=zc BK113.out 8 (.slice A0_8 l0_8.length c0_8) rfl
         have hfz24_0:=zf BK113.out 0
         have hfz24_1:=zf BK113.out 1
         have hfz24_2:=zf BK113.out 2
         have hfz24_3:=zf BK113.out 3
         have hfz24_4:=zf BK113.out 4
         have hfz24_5:=zf BK113.out 5
         have hfz24_6:=zf BK113.out 6
         have hfz24_7:=zf BK113.out 7
         have hfz24_8:=zf BK113.out 8
         go_upto_region 10 with (first|((with_reducible refine gate_callee (f:=81) rfl ?_);refine goesL_ (some 42) rfl rfl Try.func81 (by kernel_rfl) rfl #[.agg #[.int .i64 a0_3,.int .i64 a0_4,.int .i64 a0_5]] rfl (by(try simp only[List.map_toArray,List.map_cons,List.map_nil]);first|done|rfl|(simp only[List.length_drop,List.length_take];rfl)) ?_;(with_reducible refine(fe_ranged.calls a0_3 a0_4 a0_5 true _ A21.out).mono ?_);rintro e w25 ⟨rfl,hb⟩;refine⟨_,rfl,?_⟩;have n0_:=zm (zb (g:=gb113) (o:=.cells #[.string a0_0,.int .i64 a0_1,.int .i64 a0_2,.int .i64 a0_3,.int .i64 a0_4,.int .i64 a0_5,.int .i64 a0_6,.int .i64 a0_7,.slice A0_8 l0_8.length c0_8] 28 (0,0)) (by(with_reducible repeat first|apply zd|apply ze|apply za);exact BK113.out) hb);have n1_:=zm (below_step (by repeat(first|(with_reducible first|exact HB.out|apply zA|apply zD|apply zE|refine zS ?_ GE113.out)|exact HB.out)) hb);clear BK113 HB;have BK113:=n0_;have HB:=n1_;clear n0_ n1_;(try clear hb);(try clear hb2);(try clear hk);(try clear hi)))
         (try simp only[Act.put,zx,zy,zz])
         go_cut [44] (fun v44 wc=>∃(kq:Nat) (x44_22:Bool),v44=.bool x44_22∧Aside0 (fe_Check.j2 kq x44_22 a0_0 a0_1 a0_2 a0_3 a0_4 a0_5 a0_6 a0_7 l0_8=some r)∧Aside0 (kq≤kj15)∧Aside0 (wc.heap[gb113]?=some (.cells #[.string a0_0,.int .i64 a0_1,.int .i64 a0_2,.int .i64 a0_3,.int .i64 a0_4,.int .i64 a0_5,.int .i64 a0_6,.int .i64 a0_7,(.slice A0_8 l0_8.length c0_8)] 28 (0,0)))∧Aside0 (Below w.heap.size w wc))
         case first=>
          have H:=HC23.out
          clear HC23
          by_cases c26:a0_1=0
          ·rw[if_pos c26] at H
           have c26b0:(a0_1==0)=true:=beq_iff_eq.mpr c26
           have c26b1:(a0_1 != 0)=false:=bne_eq_false_iff_eq.mpr c26
           clear c26
           (first|rw[c26b0]|(simp only[i64_w,i32_w];rw[c26b0])|(rw[c26b2];try simp only[Bool.not_true,Bool.not_false])|skip)
           have H':=zm H
           clear H
           have hcz27_0:=zc BK113.out 0 (.string a0_0) rfl
           have hcz27_1:=zc BK113.out 1 (.int .i64 a0_1) rfl
           have hcz27_2:=zc BK113.out 2 (.int .i64 a0_2) rfl
           have hcz27_3:=zc BK113.out 3 (.int .i64 a0_3) rfl
           have hcz27_4:=zc BK113.out 4 (.int .i64 a0_4) rfl
           have hcz27_5:=zc BK113.out 5 (.int .i64 a0_5) rfl
           have hcz27_6:=zc BK113.out 6 (.int .i64 a0_6) rfl
           have hcz27_7:=zc BK113.out 7 (.int .i64 a0_7) rfl
           have hcz27_8:=zc BK113.out 8 (.slice A0_8 l0_8.length c0_8) rfl
           have hfz27_0:=zf BK113.out 0
           have hfz27_1:=zf BK113.out 1
           have hfz27_2:=zf BK113.out 2
           have hfz27_3:=zf BK113.out 3
           have hfz27_4:=zf BK113.out 4
           have hfz27_5:=zf BK113.out 5
           have hfz27_6:=zf BK113.out 6
           have hfz27_7:=zf BK113.out 7
           have hfz27_8:=zf BK113.out 8
           go_wp2
           go_meet
           case rel=>exact⟨_,((!(a0_6==0)||(!(a0_7==0)))),(by first|rfl|(simp;done)|(simp[*];done)),H',⟨by have:=HJ3.out;have:=HJ15.out;first|omega|exact Nat.le_refl _⟩,⟨by(with_reducible repeat first|apply zd|apply ze|apply za);exact BK113.out⟩,⟨by repeat(first|(with_reducible first|exact HB.out|apply zA|apply zD|apply zE|refine zS ?_ GE113.out)|exact HB.out)⟩⟩
          ·rw[if_neg c26] at H
           have c26b0:(a0_1==0)=false:=beq_eq_false_iff_ne.mpr c26
           have c26b1:(a0_1 != 0)=true:=bne_iff_ne.mpr c26
           (first|rw[c26b0]|(simp only[i64_w,i32_w];rw[c26b0])|(rw[c26b2];try simp only[Bool.not_true,Bool.not_false])|skip)
           have H':=zm H
           clear H
           have hcz28_0:=zc BK113.out 0 (.string a0_0) rfl
           have hcz28_1:=zc BK113.out 1 (.int .i64 a0_1) rfl
           have hcz28_2:=zc BK113.out 2 (.int .i64 a0_2) rfl
           have hcz28_3:=zc BK113.out 3 (.int .i64 a0_3) rfl
           have hcz28_4:=zc BK113.out 4 (.int .i64 a0_4) rfl
           have hcz28_5:=zc BK113.out 5 (.int .i64 a0_5) rfl
           have hcz28_6:=zc BK113.out 6 (.int .i64 a0_6) rfl
           have hcz28_7:=zc BK113.out 7 (.int .i64 a0_7) rfl
           have hcz28_8:=zc BK113.out 8 (.slice A0_8 l0_8.length c0_8) rfl
           have hfz28_0:=zf BK113.out 0
           have hfz28_1:=zf BK113.out 1
           have hfz28_2:=zf BK113.out 2
           have hfz28_3:=zf BK113.out 3
           have hfz28_4:=zf BK113.out 4
           have hfz28_5:=zf BK113.out 5
           have hfz28_6:=zf BK113.out 6
           have hfz28_7:=zf BK113.out 7
           have hfz28_8:=zf BK113.out 8
           go_wp2
           go_meet
           case rel=>exact⟨_,(false),(by first|rfl|(simp;done)|(simp[*];done)),H',⟨by have:=HJ3.out;have:=HJ15.out;first|omega|exact Nat.le_refl _⟩,⟨by(with_reducible repeat first|apply zd|apply ze|apply za);exact BK113.out⟩,⟨by repeat(first|(with_reducible first|exact HB.out|apply zA|apply zD|apply zE|refine zS ?_ GE113.out)|exact HB.out)⟩⟩
         case rest=>
          clear HC23
          try clear c1
          try clear c2
          try clear p2
          try clear c3
          try clear c3b0
          try clear c3b1
          try clear c8
          try clear c8b0
          try clear c8b2
          try clear c10
          try clear c10b0
          try clear c12
          try clear c12b0
          try clear c15
          try clear c17
          try clear c17b0
          try clear c17b1
          try clear c17b2
          try clear c20
          try clear c22
          try clear c26
          try clear c26b0
          try clear c26b1
          try clear c26b2
          try clear hcz11_0
          try clear hcz11_1
          try clear hcz11_2
          try clear hcz11_3
          try clear hcz11_4
          try clear hcz11_5
          try clear hcz11_6
          try clear hcz11_7
          try clear hcz11_8
          try clear hcz13_0
          try clear hcz13_1
          try clear hcz13_2
          try clear hcz13_3
          try clear hcz13_4
          try clear hcz13_5
          try clear hcz13_6
          try clear hcz13_7
          try clear hcz13_8
          try clear hcz14_0
          try clear hcz14_1
          try clear hcz14_2
          try clear hcz14_3
          try clear hcz14_4
          try clear hcz14_5
          try clear hcz14_6
          try clear hcz14_7
          try clear hcz14_8
          try clear hcz18_0
          try clear hcz18_1
          try clear hcz18_2
          try clear hcz18_3
          try clear hcz18_4
          try clear hcz18_5
          try clear hcz18_6
          try clear hcz18_7
          try clear hcz18_8
          try clear hcz19_0
          try clear hcz19_1
          try clear hcz19_2
          try clear hcz19_3
          try clear hcz19_4
          try clear hcz19_5
          try clear hcz19_6
          try clear hcz19_7
          try clear hcz19_8
          try clear hcz24_0
          try clear hcz24_1
          try clear hcz24_2
          try clear hcz24_3
          try clear hcz24_4
          try clear hcz24_5
          try clear hcz24_6
          try clear hcz24_7
          try clear hcz24_8
          try clear hcz27_0
          try clear hcz27_1
          try clear hcz27_2
          try clear hcz27_3
          try clear hcz27_4
          try clear hcz27_5
          try clear hcz27_6
          try clear hcz27_7
          try clear hcz27_8
          try clear hcz28_0
          try clear hcz28_1
          try clear hcz28_2
          try clear hcz28_3
          try clear hcz28_4
          try clear hcz28_5
          try clear hcz28_6
          try clear hcz28_7
          try clear hcz28_8
          try clear hcz6_0
          try clear hcz6_1
          try clear hcz6_2
          try clear hcz6_3
          try clear hcz6_4
          try clear hcz6_5
          try clear hcz6_6
          try clear hcz6_7
          try clear hcz6_8
          try clear hcz9_0
          try clear hcz9_1
          try clear hcz9_2
          try clear hcz9_3
          try clear hcz9_4
          try clear hcz9_5
          try clear hcz9_6
          try clear hcz9_7
          try clear hcz9_8
          try clear hfz11_0
          try clear hfz11_1
          try clear hfz11_2
          try clear hfz11_3
          try clear hfz11_4
          try clear hfz11_5
          try clear hfz11_6
          try clear hfz11_7
          try clear hfz11_8
          try clear hfz13_0
          try clear hfz13_1
          try clear hfz13_2
          try clear hfz13_3
          try clear hfz13_4
          try clear hfz13_5
          try clear hfz13_6
          try clear hfz13_7
          try clear hfz13_8
          try clear hfz14_0
          try clear hfz14_1
          try clear hfz14_2
          try clear hfz14_3
          try clear hfz14_4
          try clear hfz14_5
          try clear hfz14_6
          try clear hfz14_7
          try clear hfz14_8
          try clear hfz18_0
          try clear hfz18_1
          try clear hfz18_2
          try clear hfz18_3
          try clear hfz18_4
          try clear hfz18_5
          try clear hfz18_6
          try clear hfz18_7
          try clear hfz18_8
          try clear hfz19_0
          try clear hfz19_1
          try clear hfz19_2
          try clear hfz19_3
          try clear hfz19_4
          try clear hfz19_5
          try clear hfz19_6
          try clear hfz19_7
          try clear hfz19_8
          try clear hfz24_0
          try clear hfz24_1
          try clear hfz24_2
          try clear hfz24_3
          try clear hfz24_4
          try clear hfz24_5
          try clear hfz24_6
          try clear hfz24_7
          try clear hfz24_8
          try clear hfz27_0
          try clear hfz27_1
          try clear hfz27_2
          try clear hfz27_3
          try clear hfz27_4
          try clear hfz27_5
          try clear hfz27_6
          try clear hfz27_7
          try clear hfz27_8
          try clear hfz28_0
          try clear hfz28_1
          try clear hfz28_2
          try clear hfz28_3
          try clear hfz28_4
          try clear hfz28_5
          try clear hfz28_6
          try clear hfz28_7
          try clear hfz28_8
          try clear hfz6_0
          try clear hfz6_1
          try clear hfz6_2
          try clear hfz6_3
          try clear hfz6_4
          try clear hfz6_5
          try clear hfz6_6
          try clear hfz6_7
          try clear hfz6_8
          try clear hfz9_0
          try clear hfz9_1
          try clear hfz9_2
          try clear hfz9_3
          try clear hfz9_4
          try clear hfz9_5
          try clear hfz9_6
          try clear hfz9_7
          try clear hfz9_8
          try clear p2
          obtain⟨kq,x44_22,rfl,HA,HJ22,BK113,HB⟩:=hcut
          cases kq with
          | zero=>exact absurd HA.out (by simp[fe_Check.j2])
          | succ kj22=>
           have H:=HA.out
           clear HA
           simp only[fe_Check.j2] at H
           by_cases c29:x44_22=true
           ·subst c29
            have H1:(some 3)=some r:=by rw[if_pos rfl] at H;exact H
            clear H
            have H:=H1
            clear H1
            obtain rfl:=Option.some.inj H
            go_wp2
            go_ret
            exact⟨by first|rfl|(simp[errW_none,errW_some]<;>rfl)|(simp[*,errW_none,errW_some]<;>rfl),by repeat(first|(with_reducible first|exact HB.out|apply zA|apply zD|apply zE|refine zS ?_ GE113.out)|exact HB.out)⟩
           ·replace c29:=Bool.eq_false_iff.mpr c29
            subst c29
            have H1:(if a0_1=0 then(some 0) else((di_Check.f kj22 a0_6 a0_7).bind fun t116=>(if t116=0 then(if a0_6 < 1 then(some 2) else(some 0)) else(some t116))))=some r:=by rw[if_neg (show ¬(false=true) by decide)] at H;exact H
            clear H
            have H:=H1
            clear H1
            by_cases c30:a0_1=0
            ·rw[if_pos c30] at H
             have c30b0:(a0_1==0)=true:=beq_iff_eq.mpr c30
             have c30b1:(a0_1 != 0)=false:=bne_eq_false_iff_eq.mpr c30
             clear c30
             obtain rfl:=Option.some.inj H
             have hcz31_0:=zc BK113.out 0 (.string a0_0) rfl
             have hcz31_1:=zc BK113.out 1 (.int .i64 a0_1) rfl
             have hcz31_2:=zc BK113.out 2 (.int .i64 a0_2) rfl
             have hcz31_3:=zc BK113.out 3 (.int .i64 a0_3) rfl
             have hcz31_4:=zc BK113.out 4 (.int .i64 a0_4) rfl
             have hcz31_5:=zc BK113.out 5 (.int .i64 a0_5) rfl
             have hcz31_6:=zc BK113.out 6 (.int .i64 a0_6) rfl
             have hcz31_7:=zc BK113.out 7 (.int .i64 a0_7) rfl
             have hcz31_8:=zc BK113.out 8 (.slice A0_8 l0_8.length c0_8) rfl
             have hfz31_0:=zf BK113.out 0
             have hfz31_1:=zf BK113.out 1
             have hfz31_2:=zf BK113.out 2
             have hfz31_3:=zf BK113.out 3
             have hfz31_4:=zf BK113.out 4
             have hfz31_5:=zf BK113.out 5
             have hfz31_6:=zf BK113.out 6
             have hfz31_7:=zf BK113.out 7
             have hfz31_8:=zf BK113.out 8
             go_wp2
             go_ret
             exact⟨by first|rfl|(simp[errW_none,errW_some]<;>rfl)|(simp[*,errW_none,errW_some]<;>rfl),by repeat(first|(with_reducible first|exact HB.out|apply zA|apply zD|apply zE|refine zS ?_ GE113.out)|exact HB.out)⟩
            ·rw[if_neg c30] at H
             have c30b0:(a0_1==0)=false:=beq_eq_false_iff_ne.mpr c30
             have c30b1:(a0_1 != 0)=true:=bne_iff_ne.mpr c30
             replace H:=Option.bind_eq_some_iff.mp H
             obtain⟨t116,A320,H⟩:=H
             replace H:(if t116=0 then(if a0_6 < 1 then(some 2) else(some 0)) else(some t116))=some r:=H
             have A32:=zm A320
             clear A320
             by_cases c33:t116=0
             ·rw[if_pos c33] at H
              have c33b0:(t116==0)=true:=beq_iff_eq.mpr c33
              have c33b1:(t116 != 0)=false:=bne_eq_false_iff_eq.mpr c33
              clear c33
              by_cases c34:a0_6 < 1
              ·rw[if_pos c34] at H
               have c34b0:decide (a0_6 < 1)=true:=decide_eq_true c34
               clear c34
               obtain rfl:=Option.some.inj H
               have hcz35_0:=zc BK113.out 0 (.string a0_0) rfl
               have hcz35_1:=zc BK113.out 1 (.int .i64 a0_1) rfl
               have hcz35_2:=zc BK113.out 2 (.int .i64 a0_2) rfl
               have hcz35_3:=zc BK113.out 3 (.int .i64 a0_3) rfl
               have hcz35_4:=zc BK113.out 4 (.int .i64 a0_4) rfl
               have hcz35_5:=zc BK113.out 5 (.int .i64 a0_5) rfl
               have hcz35_6:=zc BK113.out 6 (.int .i64 a0_6) rfl
               have hcz35_7:=zc BK113.out 7 (.int .i64 a0_7) rfl
               have hcz35_8:=zc BK113.out 8 (.slice A0_8 l0_8.length c0_8) rfl
               have hfz35_0:=zf BK113.out 0
               have hfz35_1:=zf BK113.out 1
               have hfz35_2:=zf BK113.out 2
               have hfz35_3:=zf BK113.out 3
               have hfz35_4:=zf BK113.out 4
               have hfz35_5:=zf BK113.out 5
               have hfz35_6:=zf BK113.out 6
               have hfz35_7:=zf BK113.out 7
               have hfz35_8:=zf BK113.out 8
               go_wp2_with (first|((with_reducible refine gate_callee (f:=82) rfl ?_);refine goesL_ (some 60) rfl rfl Try.func82 (by kernel_rfl) rfl #[.agg #[.int .i64 a0_6,.int .i64 a0_7]] rfl (by(try simp only[List.map_toArray,List.map_cons,List.map_nil]);first|done|rfl|(simp only[List.length_drop,List.length_take];rfl)) ?_;(with_reducible refine(di_Check.calls kj22 a0_6 a0_7 t116 _ A32.out).mono ?_);rintro e w36 ⟨rfl,hb⟩;refine⟨_,rfl,?_⟩;have n0_:=zm (zb (g:=gb113) (o:=.cells #[.string a0_0,.int .i64 a0_1,.int .i64 a0_2,.int .i64 a0_3,.int .i64 a0_4,.int .i64 a0_5,.int .i64 a0_6,.int .i64 a0_7,.slice A0_8 l0_8.length c0_8] 28 (0,0)) (by(with_reducible repeat first|apply zd|apply ze|apply za);exact BK113.out) hb);have n1_:=zm (below_step (by repeat(first|(with_reducible first|exact HB.out|apply zA|apply zD|apply zE|refine zS ?_ GE113.out)|exact HB.out)) hb);clear BK113 HB;have BK113:=n0_;have HB:=n1_;clear n0_ n1_;(try clear hb);(try clear hb2);(try clear hk);(try clear hi);have hcz37_0:=zc BK113.out 0 (.string a0_0) rfl;have hcz37_1:=zc BK113.out 1 (.int .i64 a0_1) rfl;have hcz37_2:=zc BK113.out 2 (.int .i64 a0_2) rfl;have hcz37_3:=zc BK113.out 3 (.int .i64 a0_3) rfl;have hcz37_4:=zc BK113.out 4 (.int .i64 a0_4) rfl;have hcz37_5:=zc BK113.out 5 (.int .i64 a0_5) rfl;have hcz37_6:=zc BK113.out 6 (.int .i64 a0_6) rfl;have hcz37_7:=zc BK113.out 7 (.int .i64 a0_7) rfl;have hcz37_8:=zc BK113.out 8 (.slice A0_8 l0_8.length c0_8) rfl;have hfz37_0:=zf BK113.out 0;have hfz37_1:=zf BK113.out 1;have hfz37_2:=zf BK113.out 2;have hfz37_3:=zf BK113.out 3;have hfz37_4:=zf BK113.out 4;have hfz37_5:=zf BK113.out 5;have hfz37_6:=zf BK113.out 6;have hfz37_7:=zf BK113.out 7;have hfz37_8:=zf BK113.out 8))
               go_ret
               exact⟨by first|rfl|(simp[errW_none,errW_some]<;>rfl)|(simp[*,errW_none,errW_some]<;>rfl),by repeat(first|(with_reducible first|exact HB.out|apply zA|apply zD|apply zE|refine zS ?_ GE113.out)|exact HB.out)⟩
              ·rw[if_neg c34] at H
               have c34b0:decide (a0_6 < 1)=false:=decide_eq_false c34
               clear c34
               obtain rfl:=Option.some.inj H
               have hcz38_0:=zc BK113.out 0 (.string a0_0) rfl
               have hcz38_1:=zc BK113.out 1 (.int .i64 a0_1) rfl
               have hcz38_2:=zc BK113.out 2 (.int .i64 a0_2) rfl
               have hcz38_3:=zc BK113.out 3 (.int .i64 a0_3) rfl
               have hcz38_4:=zc BK113.out 4 (.int .i64 a0_4) rfl
               have hcz38_5:=zc BK113.out 5 (.int .i64 a0_5) rfl
               have hcz38_6:=zc BK113.out 6 (.int .i64 a0_6) rfl
               have hcz38_7:=zc BK113.out 7 (.int .i64 a0_7) rfl
               have hcz38_8:=zc BK113.out 8 (.slice A0_8 l0_8.length c0_8) rfl
               have hfz38_0:=zf BK113.out 0
               have hfz38_1:=zf BK113.out 1
               have hfz38_2:=zf BK113.out 2
               have hfz38_3:=zf BK113.out 3
               have hfz38_4:=zf BK113.out 4
               have hfz38_5:=zf BK113.out 5
               have hfz38_6:=zf BK113.out 6
               have hfz38_7:=zf BK113.out 7
               have hfz38_8:=zf BK113.out 8
               go_wp2_with (first|((with_reducible refine gate_callee (f:=82) rfl ?_);refine goesL_ (some 60) rfl rfl Try.func82 (by kernel_rfl) rfl #[.agg #[.int .i64 a0_6,.int .i64 a0_7]] rfl (by(try simp only[List.map_toArray,List.map_cons,List.map_nil]);first|done|rfl|(simp only[List.length_drop,List.length_take];rfl)) ?_;(with_reducible refine(di_Check.calls kj22 a0_6 a0_7 t116 _ A32.out).mono ?_);rintro e w39 ⟨rfl,hb⟩;refine⟨_,rfl,?_⟩;have n0_:=zm (zb (g:=gb113) (o:=.cells #[.string a0_0,.int .i64 a0_1,.int .i64 a0_2,.int .i64 a0_3,.int .i64 a0_4,.int .i64 a0_5,.int .i64 a0_6,.int .i64 a0_7,.slice A0_8 l0_8.length c0_8] 28 (0,0)) (by(with_reducible repeat first|apply zd|apply ze|apply za);exact BK113.out) hb);have n1_:=zm (below_step (by repeat(first|(with_reducible first|exact HB.out|apply zA|apply zD|apply zE|refine zS ?_ GE113.out)|exact HB.out)) hb);clear BK113 HB;have BK113:=n0_;have HB:=n1_;clear n0_ n1_;(try clear hb);(try clear hb2);(try clear hk);(try clear hi);have hcz40_0:=zc BK113.out 0 (.string a0_0) rfl;have hcz40_1:=zc BK113.out 1 (.int .i64 a0_1) rfl;have hcz40_2:=zc BK113.out 2 (.int .i64 a0_2) rfl;have hcz40_3:=zc BK113.out 3 (.int .i64 a0_3) rfl;have hcz40_4:=zc BK113.out 4 (.int .i64 a0_4) rfl;have hcz40_5:=zc BK113.out 5 (.int .i64 a0_5) rfl;have hcz40_6:=zc BK113.out 6 (.int .i64 a0_6) rfl;have hcz40_7:=zc BK113.out 7 (.int .i64 a0_7) rfl;have hcz40_8:=zc BK113.out 8 (.slice A0_8 l0_8.length c0_8) rfl;have hfz40_0:=zf BK113.out 0;have hfz40_1:=zf BK113.out 1;have hfz40_2:=zf BK113.out 2;have hfz40_3:=zf BK113.out 3;have hfz40_4:=zf BK113.out 4;have hfz40_5:=zf BK113.out 5;have hfz40_6:=zf BK113.out 6;have hfz40_7:=zf BK113.out 7;have hfz40_8:=zf BK113.out 8))
               go_ret
               exact⟨by first|rfl|(simp[errW_none,errW_some]<;>rfl)|(simp[*,errW_none,errW_some]<;>rfl),by repeat(first|(with_reducible first|exact HB.out|apply zA|apply zD|apply zE|refine zS ?_ GE113.out)|exact HB.out)⟩
             ·rw[if_neg c33] at H
              have c33b0:(t116==0)=false:=beq_eq_false_iff_ne.mpr c33
              have c33b1:(t116 != 0)=true:=bne_iff_ne.mpr c33
              obtain rfl:=Option.some.inj H
              have hcz41_0:=zc BK113.out 0 (.string a0_0) rfl
              have hcz41_1:=zc BK113.out 1 (.int .i64 a0_1) rfl
              have hcz41_2:=zc BK113.out 2 (.int .i64 a0_2) rfl
              have hcz41_3:=zc BK113.out 3 (.int .i64 a0_3) rfl
              have hcz41_4:=zc BK113.out 4 (.int .i64 a0_4) rfl
              have hcz41_5:=zc BK113.out 5 (.int .i64 a0_5) rfl
              have hcz41_6:=zc BK113.out 6 (.int .i64 a0_6) rfl
              have hcz41_7:=zc BK113.out 7 (.int .i64 a0_7) rfl
              have hcz41_8:=zc BK113.out 8 (.slice A0_8 l0_8.length c0_8) rfl
              have hfz41_0:=zf BK113.out 0
              have hfz41_1:=zf BK113.out 1
              have hfz41_2:=zf BK113.out 2
              have hfz41_3:=zf BK113.out 3
              have hfz41_4:=zf BK113.out 4
              have hfz41_5:=zf BK113.out 5
              have hfz41_6:=zf BK113.out 6
              have hfz41_7:=zf BK113.out 7
              have hfz41_8:=zf BK113.out 8
              go_wp2_with (first|((with_reducible refine gate_callee (f:=82) rfl ?_);refine goesL_ (some 60) rfl rfl Try.func82 (by kernel_rfl) rfl #[.agg #[.int .i64 a0_6,.int .i64 a0_7]] rfl (by(try simp only[List.map_toArray,List.map_cons,List.map_nil]);first|done|rfl|(simp only[List.length_drop,List.length_take];rfl)) ?_;(with_reducible refine(di_Check.calls kj22 a0_6 a0_7 t116 _ A32.out).mono ?_);rintro e w42 ⟨rfl,hb⟩;refine⟨_,rfl,?_⟩;have n0_:=zm (zb (g:=gb113) (o:=.cells #[.string a0_0,.int .i64 a0_1,.int .i64 a0_2,.int .i64 a0_3,.int .i64 a0_4,.int .i64 a0_5,.int .i64 a0_6,.int .i64 a0_7,.slice A0_8 l0_8.length c0_8] 28 (0,0)) (by(with_reducible repeat first|apply zd|apply ze|apply za);exact BK113.out) hb);have n1_:=zm (below_step (by repeat(first|(with_reducible first|exact HB.out|apply zA|apply zD|apply zE|refine zS ?_ GE113.out)|exact HB.out)) hb);clear BK113 HB;have BK113:=n0_;have HB:=n1_;clear n0_ n1_;(try clear hb);(try clear hb2);(try clear hk);(try clear hi)))
              go_ret
              exact⟨by first|rfl|(simp[errW_none,errW_some]<;>rfl)|(simp[*,errW_none,errW_some]<;>rfl),by repeat(first|(with_reducible first|exact HB.out|apply zA|apply zD|apply zE|refine zS ?_ GE113.out)|exact HB.out)⟩
        ·replace c22:=Bool.eq_false_iff.mpr c22
         subst c22
         have H1:(some 2)=some r:=by rw[if_neg (show ¬(false=true) by decide)] at H;exact H
         clear H
         have H:=H1
         clear H1
         obtain rfl:=Option.some.inj H
         have hcz43_0:=zc BK113.out 0 (.string a0_0) rfl
         have hcz43_1:=zc BK113.out 1 (.int .i64 a0_1) rfl
         have hcz43_2:=zc BK113.out 2 (.int .i64 a0_2) rfl
         have hcz43_3:=zc BK113.out 3 (.int .i64 a0_3) rfl
         have hcz43_4:=zc BK113.out 4 (.int .i64 a0_4) rfl
         have hcz43_5:=zc BK113.out 5 (.int .i64 a0_5) rfl
         have hcz43_6:=zc BK113.out 6 (.int .i64 a0_6) rfl
         have hcz43_7:=zc BK113.out 7 (.int .i64 a0_7) rfl
         have hcz43_8:=zc BK113.out 8 (.slice A0_8 l0_8.length c0_8) rfl
         have hfz43_0:=zf BK113.out 0
         have hfz43_1:=zf BK113.out 1
         have hfz43_2:=zf BK113.out 2
         have hfz43_3:=zf BK113.out 3
         have hfz43_4:=zf BK113.out 4
         have hfz43_5:=zf BK113.out 5
         have hfz43_6:=zf BK113.out 6
         have hfz43_7:=zf BK113.out 7
         have hfz43_8:=zf BK113.out 8
         go_wp2_with (first|((with_reducible refine gate_callee (f:=81) rfl ?_);refine goesL_ (some 42) rfl rfl Try.func81 (by kernel_rfl) rfl #[.agg #[.int .i64 a0_3,.int .i64 a0_4,.int .i64 a0_5]] rfl (by(try simp only[List.map_toArray,List.map_cons,List.map_nil]);first|done|rfl|(simp only[List.length_drop,List.length_take];rfl)) ?_;(with_reducible refine(fe_ranged.calls a0_3 a0_4 a0_5 false _ A21.out).mono ?_);rintro e w44 ⟨rfl,hb⟩;refine⟨_,rfl,?_⟩;have n0_:=zm (zb (g:=gb113) (o:=.cells #[.string a0_0,.int .i64 a0_1,.int .i64 a0_2,.int .i64 a0_3,.int .i64 a0_4,.int .i64 a0_5,.int .i64 a0_6,.int .i64 a0_7,.slice A0_8 l0_8.length c0_8] 28 (0,0)) (by(with_reducible repeat first|apply zd|apply ze|apply za);exact BK113.out) hb);have n1_:=zm (below_step (by repeat(first|(with_reducible first|exact HB.out|apply zA|apply zD|apply zE|refine zS ?_ GE113.out)|exact HB.out)) hb);clear BK113 HB;have BK113:=n0_;have HB:=n1_;clear n0_ n1_;(try clear hb);(try clear hb2);(try clear hk);(try clear hi)))
         go_ret
         exact⟨by first|rfl|(simp[errW_none,errW_some]<;>rfl)|(simp[*,errW_none,errW_some]<;>rfl),by repeat(first|(with_reducible first|exact HB.out|apply zA|apply zD|apply zE|refine zS ?_ GE113.out)|exact HB.out)⟩
 ·rw[if_neg c3] at H
  have c3b0:(t114==0)=false:=beq_eq_false_iff_ne.mpr c3
  have c3b1:(t114 != 0)=true:=bne_iff_ne.mpr c3
  obtain rfl:=Option.some.inj H
  go_enter Try.func29,Try.ntmps29
  go_wp2_with (first|((with_reducible refine gate_dst (N:=1) rfl ?_);refine box_event ?hg (N:=1) ?hd (cs:=#[.string a0_0,.int .i64 a0_1,.int .i64 a0_2,.int .i64 a0_3,.int .i64 a0_4,.int .i64 a0_5,.int .i64 a0_6,.int .i64 a0_7,.slice A0_8 l0_8.length c0_8]) (t:=28) ?hr ?_;(case hd=>rfl);(case hg=>rfl);(case hr=>first|(go_simp;done)|(go_simp;rfl));intro gb113 hg w45 hbox hb;have n0_:=zm (below_step (by repeat(first|(with_reducible first|exact HB.out|apply zA|apply zD|apply zE)|exact HB.out)) hb);have n1_:=zm (hbox);have n2_:=zm ((by rw[hg];exact(below_size (by repeat(first|(with_reducible first|exact HB.out|apply zA|apply zD|apply zE)|exact HB.out))):w.heap.size≤gb113));have n3_:=zm ((by rw[hg];exact(below_size (by repeat(first|(with_reducible first|exact HB.out|apply zA|apply zD|apply zE)|exact HB.out))):w.heap.size≤gb113));clear HB;have HB:=n0_;have BK113:=n1_;have GW113:=n2_;have GE113:=n3_;clear n0_ n1_ n2_ n3_;clear hb hbox hg;have hcz46_0:=zc BK113.out 0 (.string a0_0) rfl;have hcz46_1:=zc BK113.out 1 (.int .i64 a0_1) rfl;have hcz46_2:=zc BK113.out 2 (.int .i64 a0_2) rfl;have hcz46_3:=zc BK113.out 3 (.int .i64 a0_3) rfl;have hcz46_4:=zc BK113.out 4 (.int .i64 a0_4) rfl;have hcz46_5:=zc BK113.out 5 (.int .i64 a0_5) rfl;have hcz46_6:=zc BK113.out 6 (.int .i64 a0_6) rfl;have hcz46_7:=zc BK113.out 7 (.int .i64 a0_7) rfl;have hcz46_8:=zc BK113.out 8 (.slice A0_8 l0_8.length c0_8) rfl;have hfz46_0:=zf BK113.out 0;have hfz46_1:=zf BK113.out 1;have hfz46_2:=zf BK113.out 2;have hfz46_3:=zf BK113.out 3;have hfz46_4:=zf BK113.out 4;have hfz46_5:=zf BK113.out 5;have hfz46_6:=zf BK113.out 6;have hfz46_7:=zf BK113.out 7;have hfz46_8:=zf BK113.out 8)|((with_reducible refine gate_callee (f:=80) rfl ?_);refine goesL_ (some 7) rfl rfl Try.func80 (by kernel_rfl) rfl #[.string a0_0] rfl (by(try simp only[List.map_toArray,List.map_cons,List.map_nil]);first|done|rfl|(simp only[List.length_drop,List.length_take];rfl)) ?_;(with_reducible refine(di_Name.calls a0_0 t114 _ A2.out).mono ?_);rintro e w47 ⟨rfl,hb⟩;refine⟨_,rfl,?_⟩;have n0_:=zm (zb (g:=gb113) (o:=.cells #[.string a0_0,.int .i64 a0_1,.int .i64 a0_2,.int .i64 a0_3,.int .i64 a0_4,.int .i64 a0_5,.int .i64 a0_6,.int .i64 a0_7,.slice A0_8 l0_8.length c0_8] 28 (0,0)) (by(with_reducible repeat first|apply zd|apply ze|apply za);exact BK113.out) hb);have n1_:=zm (below_step (by repeat(first|(with_reducible first|exact HB.out|apply zA|apply zD|apply zE|refine zS ?_ GE113.out)|exact HB.out)) hb);clear BK113 HB;have BK113:=n0_;have HB:=n1_;clear n0_ n1_;(try clear hb);(try clear hb2);(try clear hk);(try clear hi)))
  go_ret
  exact⟨by first|rfl|(simp[errW_none,errW_some]<;>rfl)|(simp[*,errW_none,errW_some]<;>rfl),by repeat(first|(with_reducible first|exact HB.out|apply zA|apply zD|apply zE|refine zS ?_ GE113.out)|exact HB.out)⟩
end Go.Proofs.Ytkgdlbepjmgaiaa.Fea
namespace Go.Proofs.Ytkgdlbepjmgaiaa.Fea
open Go.RowKit YtkgdlbepjmgaiaaW.PrintWords YtkgdlbepjmgaiaaW.PrintLast YtkgdlbepjmgaiaaW.PrintMore
attribute [local go_sem] max2_int min2_int max_two min_two max_three min_three max_four min_four
def fe_along.f (k:Nat) (a0_0:ByteArray) (a0_1 a0_2 a0_3 a0_4 a0_5 a0_6 a0_7:Int) (l0_8:List (S104)) (a1:Int):Option (Int):=(fe_Check.f k a0_0 a0_1 a0_2 a0_3 a0_4 a0_5 a0_6 a0_7 l0_8).bind fun t118=>(if t118=0 then(if a1 < 0 then(some 1) else(if a1≥3 then(some 1) else(some 0))) else(some t118))
theorem fe_along.mono:∀ a0 a1 a2 a3 a4 a5 a6 a7 a8 a9 k,LeO (fe_along.f k a0 a1 a2 a3 a4 a5 a6 a7 a8 a9) (fe_along.f (k+1) a0 a1 a2 a3 a4 a5 a6 a7 a8 a9):=by
 intro a0 a1 a2 a3 a4 a5 a6 a7 a8 a9 k
 unfold fe_along.f
 repeat' first
  | (with_reducible exact fe_Check.mono _ _ _ _ _ _ _ _ _ _)
  | (with_reducible exact LeO.refl _)
  | (with_reducible exact LeO.none _)
  | (with_reducible refine LeO.ite ?_ ?_)
  | (with_reducible refine LeO.bind ?_ (fun _=>?_))
  | exact fe_Check.mono _ _ _ _ _ _ _ _ _ _
  | exact LeO.none _
  | refine LeO.ite ?_ ?_
  | refine LeO.bind ?_ (fun _=>?_)
set_option maxHeartbeats 8000000 in
set_option maxRecDepth 100000 in
theorem fe_along.calls (k:Nat) (a0_0:ByteArray) (a0_1 a0_2 a0_3 a0_4 a0_5 a0_6 a0_7:Int) (A0_8:Option Addr) (c0_8:Nat) (l0_8:List (S104)) (a1 r:Int) (w:World) (hr0_8:Kd.C k104 w A0_8 l0_8.length l0_8) (hc0_8:l0_8.length≤c0_8) (h:fe_along.f k a0_0 a0_1 a0_2 a0_3 a0_4 a0_5 a0_6 a0_7 l0_8 a1=some r):
 Calls Try.prog 68 #[.agg #[.string a0_0,.int .i64 a0_1,.int .i64 a0_2,.int .i64 a0_3,.int .i64 a0_4,.int .i64 a0_5,.int .i64 a0_6,.int .i64 a0_7,.slice A0_8 l0_8.length c0_8],.int .i64 a1] w fun e w'=>e=.returned (.int .i64 r)∧Below w.heap.size w w':=by
 have hu28:=Try.underlying28
 have HR0_8:=zm hr0_8
 have HC0_8:=zm hc0_8
 clear hr0_8 hc0_8
 have HB:=zm (Below.refl w.heap.size w)
 have H:((fe_Check.f k a0_0 a0_1 a0_2 a0_3 a0_4 a0_5 a0_6 a0_7 l0_8).bind fun t118=>(if t118=0 then(if a1 < 0 then(some 1) else(if a1≥3 then(some 1) else(some 0))) else(some t118)))=some r:=h
 clear h
 replace H:=Option.bind_eq_some_iff.mp H
 obtain⟨t118,A30,H⟩:=H
 replace H:(if t118=0 then(if a1 < 0 then(some 1) else(if a1≥3 then(some 1) else(some 0))) else(some t118))=some r:=H
 have A3:=zm A30
 clear A30
 by_cases c4:t118=0
 ·rw[if_pos c4] at H
  have c4b0:(t118==0)=true:=beq_iff_eq.mpr c4
  have c4b1:(t118 != 0)=false:=bne_eq_false_iff_eq.mpr c4
  clear c4
  by_cases c5:a1 < 0
  ·rw[if_pos c5] at H
   have c5b0:decide (a1 < 0)=true:=decide_eq_true c5
   clear c5
   obtain rfl:=Option.some.inj H
   go_enter Try.func68,Try.ntmps68
   go_wp2_with (first|((with_reducible refine gate_dst (N:=2) rfl ?_);refine box_event ?hg (N:=2) ?hd (cs:=#[.string a0_0,.int .i64 a0_1,.int .i64 a0_2,.int .i64 a0_3,.int .i64 a0_4,.int .i64 a0_5,.int .i64 a0_6,.int .i64 a0_7,.slice A0_8 l0_8.length c0_8]) (t:=28) ?hr ?_;(case hd=>rfl);(case hg=>rfl);(case hr=>first|(go_simp;done)|(go_simp;rfl));intro gb117 hg w6 hbox hb;have n0_:=zm (below_step (by repeat(first|(with_reducible first|exact HB.out|apply zA|apply zD|apply zE)|exact HB.out)) hb);have n1_:=zm (hbox);have n2_:=zm ((by rw[hg];exact(below_size (by repeat(first|(with_reducible first|exact HB.out|apply zA|apply zD|apply zE)|exact HB.out))):w.heap.size≤gb117));have n3_:=zm ((by rw[hg];exact(below_size (by repeat(first|(with_reducible first|exact HB.out|apply zA|apply zD|apply zE)|exact HB.out))):w.heap.size≤gb117));clear HB;have HB:=n0_;have BK117:=n1_;have GW117:=n2_;have GE117:=n3_;clear n0_ n1_ n2_ n3_;clear hb hbox hg;have hcz7_0:=zc BK117.out 0 (.string a0_0) rfl;have hcz7_1:=zc BK117.out 1 (.int .i64 a0_1) rfl;have hcz7_2:=zc BK117.out 2 (.int .i64 a0_2) rfl;have hcz7_3:=zc BK117.out 3 (.int .i64 a0_3) rfl;have hcz7_4:=zc BK117.out 4 (.int .i64 a0_4) rfl;have hcz7_5:=zc BK117.out 5 (.int .i64 a0_5) rfl;have hcz7_6:=zc BK117.out 6 (.int .i64 a0_6) rfl;have hcz7_7:=zc BK117.out 7 (.int .i64 a0_7) rfl;have hcz7_8:=zc BK117.out 8 (.slice A0_8 l0_8.length c0_8) rfl;have hfz7_0:=zf BK117.out 0;have hfz7_1:=zf BK117.out 1;have hfz7_2:=zf BK117.out 2;have hfz7_3:=zf BK117.out 3;have hfz7_4:=zf BK117.out 4;have hfz7_5:=zf BK117.out 5;have hfz7_6:=zf BK117.out 6;have hfz7_7:=zf BK117.out 7;have hfz7_8:=zf BK117.out 8)|((with_reducible refine gate_callee (f:=29) rfl ?_);refine goesL_ (some 7) rfl rfl Try.func29 (by kernel_rfl) rfl #[.agg #[.string a0_0,.int .i64 a0_1,.int .i64 a0_2,.int .i64 a0_3,.int .i64 a0_4,.int .i64 a0_5,.int .i64 a0_6,.int .i64 a0_7,.slice A0_8 l0_8.length c0_8]] rfl (by(try simp only[List.map_toArray,List.map_cons,List.map_nil]);first|done|rfl|(simp only[List.length_drop,List.length_take];rfl)) ?_;(with_reducible refine(fe_Check.calls k a0_0 a0_1 a0_2 a0_3 a0_4 a0_5 a0_6 a0_7 _ _ l0_8 t118 _ ?side1 ?side2 A3.out).mono ?_);(case side1=>repeat(first|exact(Kd.C_below HR0_8.out HB.out)|(with_reducible refine Kd.C_alloc ?_ _)|(with_reducible refine Kd.C_drewN ?_ _)|(with_reducible refine Kd.C_drew ?_)));(case side2=>exact HC0_8.out);rintro e w8 ⟨rfl,hb⟩;refine⟨_,rfl,?_⟩;have n0_:=zm (zb (g:=gb117) (o:=.cells #[.string a0_0,.int .i64 a0_1,.int .i64 a0_2,.int .i64 a0_3,.int .i64 a0_4,.int .i64 a0_5,.int .i64 a0_6,.int .i64 a0_7,.slice A0_8 l0_8.length c0_8] 28 (0,0)) (by(with_reducible repeat first|apply zd|apply ze|apply za);exact BK117.out) hb);have n1_:=zm (below_step (by repeat(first|(with_reducible first|exact HB.out|apply zA|apply zD|apply zE|refine zS ?_ GE117.out)|exact HB.out)) hb);clear BK117 HB;have BK117:=n0_;have HB:=n1_;clear n0_ n1_;(try clear hb);(try clear hb2);(try clear hk);(try clear hi)))
   go_ret
   exact⟨by first|rfl|(simp[errW_none,errW_some]<;>rfl)|(simp[*,errW_none,errW_some]<;>rfl),by repeat(first|(with_reducible first|exact HB.out|apply zA|apply zD|apply zE|refine zS ?_ GE117.out)|exact HB.out)⟩
  ·rw[if_neg c5] at H
   have c5b0:decide (a1 < 0)=false:=decide_eq_false c5
   clear c5
   by_cases c9:a1≥3
   ·rw[if_pos c9] at H
    have c9b0:decide (3≤a1)=true:=decide_eq_true c9
    clear c9
    obtain rfl:=Option.some.inj H
    go_enter Try.func68,Try.ntmps68
    go_wp2_with (first|((with_reducible refine gate_dst (N:=2) rfl ?_);refine box_event ?hg (N:=2) ?hd (cs:=#[.string a0_0,.int .i64 a0_1,.int .i64 a0_2,.int .i64 a0_3,.int .i64 a0_4,.int .i64 a0_5,.int .i64 a0_6,.int .i64 a0_7,.slice A0_8 l0_8.length c0_8]) (t:=28) ?hr ?_;(case hd=>rfl);(case hg=>rfl);(case hr=>first|(go_simp;done)|(go_simp;rfl));intro gb117 hg w10 hbox hb;have n0_:=zm (below_step (by repeat(first|(with_reducible first|exact HB.out|apply zA|apply zD|apply zE)|exact HB.out)) hb);have n1_:=zm (hbox);have n2_:=zm ((by rw[hg];exact(below_size (by repeat(first|(with_reducible first|exact HB.out|apply zA|apply zD|apply zE)|exact HB.out))):w.heap.size≤gb117));have n3_:=zm ((by rw[hg];exact(below_size (by repeat(first|(with_reducible first|exact HB.out|apply zA|apply zD|apply zE)|exact HB.out))):w.heap.size≤gb117));clear HB;have HB:=n0_;have BK117:=n1_;have GW117:=n2_;have GE117:=n3_;clear n0_ n1_ n2_ n3_;clear hb hbox hg;have hcz11_0:=zc BK117.out 0 (.string a0_0) rfl;have hcz11_1:=zc BK117.out 1 (.int .i64 a0_1) rfl;have hcz11_2:=zc BK117.out 2 (.int .i64 a0_2) rfl;have hcz11_3:=zc BK117.out 3 (.int .i64 a0_3) rfl;have hcz11_4:=zc BK117.out 4 (.int .i64 a0_4) rfl;have hcz11_5:=zc BK117.out 5 (.int .i64 a0_5) rfl;have hcz11_6:=zc BK117.out 6 (.int .i64 a0_6) rfl;have hcz11_7:=zc BK117.out 7 (.int .i64 a0_7) rfl;have hcz11_8:=zc BK117.out 8 (.slice A0_8 l0_8.length c0_8) rfl;have hfz11_0:=zf BK117.out 0;have hfz11_1:=zf BK117.out 1;have hfz11_2:=zf BK117.out 2;have hfz11_3:=zf BK117.out 3;have hfz11_4:=zf BK117.out 4;have hfz11_5:=zf BK117.out 5;have hfz11_6:=zf BK117.out 6;have hfz11_7:=zf BK117.out 7;have hfz11_8:=zf BK117.out 8)|((with_reducible refine gate_callee (f:=29) rfl ?_);refine goesL_ (some 7) rfl rfl Try.func29 (by kernel_rfl) rfl #[.agg #[.string a0_0,.int .i64 a0_1,.int .i64 a0_2,.int .i64 a0_3,.int .i64 a0_4,.int .i64 a0_5,.int .i64 a0_6,.int .i64 a0_7,.slice A0_8 l0_8.length c0_8]] rfl (by(try simp only[List.map_toArray,List.map_cons,List.map_nil]);first|done|rfl|(simp only[List.length_drop,List.length_take];rfl)) ?_;(with_reducible refine(fe_Check.calls k a0_0 a0_1 a0_2 a0_3 a0_4 a0_5 a0_6 a0_7 _ _ l0_8 t118 _ ?side1 ?side2 A3.out).mono ?_);(case side1=>repeat(first|exact(Kd.C_below HR0_8.out HB.out)|(with_reducible refine Kd.C_alloc ?_ _)|(with_reducible refine Kd.C_drewN ?_ _)|(with_reducible refine Kd.C_drew ?_)));(case side2=>exact HC0_8.out);rintro e w12 ⟨rfl,hb⟩;refine⟨_,rfl,?_⟩;have n0_:=zm (zb (g:=gb117) (o:=.cells #[.string a0_0,.int .i64 a0_1,.int .i64 a0_2,.int .i64 a0_3,.int .i64 a0_4,.int .i64 a0_5,.int .i64 a0_6,.int .i64 a0_7,.slice A0_8 l0_8.length c0_8] 28 (0,0)) (by(with_reducible repeat first|apply zd|apply ze|apply za);exact BK117.out) hb);have n1_:=zm (below_step (by repeat(first|(with_reducible first|exact HB.out|apply zA|apply zD|apply zE|refine zS ?_ GE117.out)|exact HB.out)) hb);clear BK117 HB;have BK117:=n0_;have HB:=n1_;clear n0_ n1_;(try clear hb);(try clear hb2);(try clear hk);(try clear hi)))
    go_ret
    exact⟨by first|rfl|(simp[errW_none,errW_some]<;>rfl)|(simp[*,errW_none,errW_some]<;>rfl),by repeat(first|(with_reducible first|exact HB.out|apply zA|apply zD|apply zE|refine zS ?_ GE117.out)|exact HB.out)⟩
   ·rw[if_neg c9] at H
    have c9b0:decide (3≤a1)=false:=decide_eq_false c9
    clear c9
    obtain rfl:=Option.some.inj H
    go_enter Try.func68,Try.ntmps68
    go_wp2_with (first|((with_reducible refine gate_dst (N:=2) rfl ?_);refine box_event ?hg (N:=2) ?hd (cs:=#[.string a0_0,.int .i64 a0_1,.int .i64 a0_2,.int .i64 a0_3,.int .i64 a0_4,.int .i64 a0_5,.int .i64 a0_6,.int .i64 a0_7,.slice A0_8 l0_8.length c0_8]) (t:=28) ?hr ?_;(case hd=>rfl);(case hg=>rfl);(case hr=>first|(go_simp;done)|(go_simp;rfl));intro gb117 hg w13 hbox hb;have n0_:=zm (below_step (by repeat(first|(with_reducible first|exact HB.out|apply zA|apply zD|apply zE)|exact HB.out)) hb);have n1_:=zm (hbox);have n2_:=zm ((by rw[hg];exact(below_size (by repeat(first|(with_reducible first|exact HB.out|apply zA|apply zD|apply zE)|exact HB.out))):w.heap.size≤gb117));have n3_:=zm ((by rw[hg];exact(below_size (by repeat(first|(with_reducible first|exact HB.out|apply zA|apply zD|apply zE)|exact HB.out))):w.heap.size≤gb117));clear HB;have HB:=n0_;have BK117:=n1_;have GW117:=n2_;have GE117:=n3_;clear n0_ n1_ n2_ n3_;clear hb hbox hg;have hcz14_0:=zc BK117.out 0 (.string a0_0) rfl;have hcz14_1:=zc BK117.out 1 (.int .i64 a0_1) rfl;have hcz14_2:=zc BK117.out 2 (.int .i64 a0_2) rfl;have hcz14_3:=zc BK117.out 3 (.int .i64 a0_3) rfl;have hcz14_4:=zc BK117.out 4 (.int .i64 a0_4) rfl;have hcz14_5:=zc BK117.out 5 (.int .i64 a0_5) rfl;have hcz14_6:=zc BK117.out 6 (.int .i64 a0_6) rfl;have hcz14_7:=zc BK117.out 7 (.int .i64 a0_7) rfl;have hcz14_8:=zc BK117.out 8 (.slice A0_8 l0_8.length c0_8) rfl;have hfz14_0:=zf BK117.out 0;have hfz14_1:=zf BK117.out 1;have hfz14_2:=zf BK117.out 2;have hfz14_3:=zf BK117.out 3;have hfz14_4:=zf BK117.out 4;have hfz14_5:=zf BK117.out 5;have hfz14_6:=zf BK117.out 6;have hfz14_7:=zf BK117.out 7;have hfz14_8:=zf BK117.out 8)|((with_reducible refine gate_callee (f:=29) rfl ?_);refine goesL_ (some 7) rfl rfl Try.func29 (by kernel_rfl) rfl #[.agg #[.string a0_0,.int .i64 a0_1,.int .i64 a0_2,.int .i64 a0_3,.int .i64 a0_4,.int .i64 a0_5,.int .i64 a0_6,.int .i64 a0_7,.slice A0_8 l0_8.length c0_8]] rfl (by(try simp only[List.map_toArray,List.map_cons,List.map_nil]);first|done|rfl|(simp only[List.length_drop,List.length_take];rfl)) ?_;(with_reducible refine(fe_Check.calls k a0_0 a0_1 a0_2 a0_3 a0_4 a0_5 a0_6 a0_7 _ _ l0_8 t118 _ ?side1 ?side2 A3.out).mono ?_);(case side1=>repeat(first|exact(Kd.C_below HR0_8.out HB.out)|(with_reducible refine Kd.C_alloc ?_ _)|(with_reducible refine Kd.C_drewN ?_ _)|(with_reducible refine Kd.C_drew ?_)));(case side2=>exact HC0_8.out);rintro e w15 ⟨rfl,hb⟩;refine⟨_,rfl,?_⟩;have n0_:=zm (zb (g:=gb117) (o:=.cells #[.string a0_0,.int .i64 a0_1,.int .i64 a0_2,.int .i64 a0_3,.int .i64 a0_4,.int .i64 a0_5,.int .i64 a0_6,.int .i64 a0_7,.slice A0_8 l0_8.length c0_8] 28 (0,0)) (by(with_reducible repeat first|apply zd|apply ze|apply za);exact BK117.out) hb);have n1_:=zm (below_step (by repeat(first|(with_reducible first|exact HB.out|apply zA|apply zD|apply zE|refine zS ?_ GE117.out)|exact HB.out)) hb);clear BK117 HB;have BK117:=n0_;have HB:=n1_;clear n0_ n1_;(try clear hb);(try clear hb2);(try clear hk);(try clear hi)))
    go_ret
    exact⟨by first|rfl|(simp[errW_none,errW_some]<;>rfl)|(simp[*,errW_none,errW_some]<;>rfl),by repeat(first|(with_reducible first|exact HB.out|apply zA|apply zD|apply zE|refine zS ?_ GE117.out)|exact HB.out)⟩
 ·rw[if_neg c4] at H
  have c4b0:(t118==0)=false:=beq_eq_false_iff_ne.mpr c4
  have c4b1:(t118 != 0)=true:=bne_iff_ne.mpr c4
  obtain rfl:=Option.some.inj H
  go_enter Try.func68,Try.ntmps68
  go_wp2_with (first|((with_reducible refine gate_dst (N:=2) rfl ?_);refine box_event ?hg (N:=2) ?hd (cs:=#[.string a0_0,.int .i64 a0_1,.int .i64 a0_2,.int .i64 a0_3,.int .i64 a0_4,.int .i64 a0_5,.int .i64 a0_6,.int .i64 a0_7,.slice A0_8 l0_8.length c0_8]) (t:=28) ?hr ?_;(case hd=>rfl);(case hg=>rfl);(case hr=>first|(go_simp;done)|(go_simp;rfl));intro gb117 hg w16 hbox hb;have n0_:=zm (below_step (by repeat(first|(with_reducible first|exact HB.out|apply zA|apply zD|apply zE)|exact HB.out)) hb);have n1_:=zm (hbox);have n2_:=zm ((by rw[hg];exact(below_size (by repeat(first|(with_reducible first|exact HB.out|apply zA|apply zD|apply zE)|exact HB.out))):w.heap.size≤gb117));have n3_:=zm ((by rw[hg];exact(below_size (by repeat(first|(with_reducible first|exact HB.out|apply zA|apply zD|apply zE)|exact HB.out))):w.heap.size≤gb117));clear HB;have HB:=n0_;have BK117:=n1_;have GW117:=n2_;have GE117:=n3_;clear n0_ n1_ n2_ n3_;clear hb hbox hg;have hcz17_0:=zc BK117.out 0 (.string a0_0) rfl;have hcz17_1:=zc BK117.out 1 (.int .i64 a0_1) rfl;have hcz17_2:=zc BK117.out 2 (.int .i64 a0_2) rfl;have hcz17_3:=zc BK117.out 3 (.int .i64 a0_3) rfl;have hcz17_4:=zc BK117.out 4 (.int .i64 a0_4) rfl;have hcz17_5:=zc BK117.out 5 (.int .i64 a0_5) rfl;have hcz17_6:=zc BK117.out 6 (.int .i64 a0_6) rfl;have hcz17_7:=zc BK117.out 7 (.int .i64 a0_7) rfl;have hcz17_8:=zc BK117.out 8 (.slice A0_8 l0_8.length c0_8) rfl;have hfz17_0:=zf BK117.out 0;have hfz17_1:=zf BK117.out 1;have hfz17_2:=zf BK117.out 2;have hfz17_3:=zf BK117.out 3;have hfz17_4:=zf BK117.out 4;have hfz17_5:=zf BK117.out 5;have hfz17_6:=zf BK117.out 6;have hfz17_7:=zf BK117.out 7;have hfz17_8:=zf BK117.out 8)|((with_reducible refine gate_callee (f:=29) rfl ?_);refine goesL_ (some 7) rfl rfl Try.func29 (by kernel_rfl) rfl #[.agg #[.string a0_0,.int .i64 a0_1,.int .i64 a0_2,.int .i64 a0_3,.int .i64 a0_4,.int .i64 a0_5,.int .i64 a0_6,.int .i64 a0_7,.slice A0_8 l0_8.length c0_8]] rfl (by(try simp only[List.map_toArray,List.map_cons,List.map_nil]);first|done|rfl|(simp only[List.length_drop,List.length_take];rfl)) ?_;(with_reducible refine(fe_Check.calls k a0_0 a0_1 a0_2 a0_3 a0_4 a0_5 a0_6 a0_7 _ _ l0_8 t118 _ ?side1 ?side2 A3.out).mono ?_);(case side1=>repeat(first|exact(Kd.C_below HR0_8.out HB.out)|(with_reducible refine Kd.C_alloc ?_ _)|(with_reducible refine Kd.C_drewN ?_ _)|(with_reducible refine Kd.C_drew ?_)));(case side2=>exact HC0_8.out);rintro e w18 ⟨rfl,hb⟩;refine⟨_,rfl,?_⟩;have n0_:=zm (zb (g:=gb117) (o:=.cells #[.string a0_0,.int .i64 a0_1,.int .i64 a0_2,.int .i64 a0_3,.int .i64 a0_4,.int .i64 a0_5,.int .i64 a0_6,.int .i64 a0_7,.slice A0_8 l0_8.length c0_8] 28 (0,0)) (by(with_reducible repeat first|apply zd|apply ze|apply za);exact BK117.out) hb);have n1_:=zm (below_step (by repeat(first|(with_reducible first|exact HB.out|apply zA|apply zD|apply zE|refine zS ?_ GE117.out)|exact HB.out)) hb);clear BK117 HB;have BK117:=n0_;have HB:=n1_;clear n0_ n1_;(try clear hb);(try clear hb2);(try clear hk);(try clear hi)))
  go_ret
  exact⟨by first|rfl|(simp[errW_none,errW_some]<;>rfl)|(simp[*,errW_none,errW_some]<;>rfl),by repeat(first|(with_reducible first|exact HB.out|apply zA|apply zD|apply zE|refine zS ?_ GE117.out)|exact HB.out)⟩
end Go.Proofs.Ytkgdlbepjmgaiaa.Fea
namespace Go.Proofs.Ytkgdlbepjmgaiaa.Fea
open Go.RowKit YtkgdlbepjmgaiaaW.PrintWords YtkgdlbepjmgaiaaW.PrintLast YtkgdlbepjmgaiaaW.PrintMore
theorem Ev.ite2 {α:Type} {c:Prop} [Decidable c] {f g:Nat→Option α} {a b:α} (h:Ev f a) (k:Ev g b):Ev (fun n=>if c then f n else g n) (if c then a else b):=by
  by_cases hc:c
  · simp only[if_pos hc];exact h
  · simp only[if_neg hc];exact k
theorem Ev.ite {α:Type} {c:Prop} [Decidable c] {f g:Nat→Option α} {a:α} (h:c→Ev f a) (k:¬ c→Ev g a):Ev (fun n=>if c then f n else g n) a:=by
  by_cases hc:c
  · simp only[if_pos hc];exact h hc
  · simp only[if_neg hc];exact k hc
theorem Ev.t {α:Type} {c:Prop} [Decidable c] {f g:Nat→Option α} {a:α} (hc:c) (h:Ev f a):Ev (fun n=>if c then f n else g n) a:=by
  simp only[if_pos hc];exact h
theorem Ev.e {α:Type} {c:Prop} [Decidable c] {f g:Nat→Option α} {a:α} (hc:¬ c) (h:Ev g a):Ev (fun n=>if c then f n else g n) a:=by
  simp only[if_neg hc];exact h
theorem Ev.some_eq {α:Type} {a b:α} (h:a=b):Ev (fun _=>some a) b:=h▸Ev.now _
theorem w64 {n:Int} (h:-9223372036854775808≤n∧n≤9223372036854775807):wrap64 n=n:=by unfold wrap64;omega
theorem w64s {n:Nat} (h:n < 4611686018427387904):wrap64 ((n:Int)+1)=((n+1:Nat):Int):=by unfold wrap64;omega
def inR (n:Int):Bool:=decide (-100000≤n)&&decide (n≤100000)
theorem in_eq (n:Int):fe_in.f n=some (inR n):=by
  unfold fe_in.f inR
  by_cases h:n≥(-100000)
  · rw[if_pos h,decide_eq_true (show (-100000)≤n from h)];rfl
  · rw[if_neg h,decide_eq_false (show ¬(-100000)≤n from h)];rfl
theorem dranged_eq (n:Int):di_ranged.f n=some (inR n):=by
  unfold di_ranged.f inR
  by_cases h:n≥(-100000)
  · rw[if_pos h,decide_eq_true (show (-100000)≤n from h)];rfl
  · rw[if_neg h,decide_eq_false (show ¬(-100000)≤n from h)];rfl
def in3 (x y z:Int):Bool:=inR x&&(inR y&&inR z)
theorem ranged_eq (x y z:Int):fe_ranged.f x y z=some (in3 x y z):=by
  unfold fe_ranged.f in3
  simp only[in_eq,Option.bind_some]
  cases inR x<;>cases inR y<;>cases inR z<;>rfl
def limV (a b:Int):Int:=if(inR a&&inR b)=true then(if a > b then 9 else 0) else 2
theorem limits_ev (a b:Int):Ev (fun k=>di_Check.f k a b) (limV a b):=by
  have j:∀ c,Ev (fun k=>di_Check.j0 k c a b) (if c=true then 2 else if a > b then 9 else 0):=fun c=>by
    refine Ev.step (fun k=>by rw[di_Check.j0]) ?_
    exact Ev.ite2 (Ev.now _) (Ev.ite2 (Ev.now _) (Ev.now _))
  unfold di_Check.f limV
  simp only[dranged_eq,Option.bind_some]
  cases inR a
  · exact Ev.e (by decide) (j true)
  · refine Ev.t rfl ?_
    cases inR b
    · exact j true
    · exact j false
theorem limV_ok {a b:Int}:limV a b=0↔-100000≤a∧a≤b∧b≤100000:=by
  unfold limV inR
  split
  · rename_i h
    simp only[Bool.and_eq_true,decide_eq_true_eq] at h
    split<;>omega
  · rename_i h
    simp only[Bool.and_eq_true,decide_eq_true_eq] at h
    omega
def chkF (nm:ByteArray) (k ax x y z lo hi:Int):Int:=
  if Hand.nmV nm=0 then
    (if 0≤k∧k < 5∧0≤ax∧ax < 3 then
      (if k=4∧ax≠0 then 3 else if in3 x y z=true then
        (if k=0 then(if lo=0∧hi=0 then 0 else 3) else if limV lo hi=0 then(if lo < 1 then 2 else 0) else limV lo hi)
       else 2)
     else 1)
  else Hand.nmV nm
theorem Check_ev (nm:ByteArray) (k ax x y z lo hi:Int) (l:List S104):Ev (fun n=>fe_Check.f n nm k ax x y z lo hi l) (chkF nm k ax x y z lo hi):=by
  have j2:∀ b,Ev (fun n=>fe_Check.j2 n b nm k ax x y z lo hi l) (if b=true then 3 else if k=0 then 0 else if limV lo hi=0 then(if lo < 1 then 2 else 0) else limV lo hi):=fun b=>by
    refine Ev.step (fun n=>by rw[fe_Check.j2]) ?_
    exact Ev.ite2 (Ev.now _) (Ev.ite2 (Ev.now _) (Ev.bind (limits_ev lo hi) (Ev.ite2 (Ev.ite2 (Ev.now _) (Ev.now _)) (Ev.now _))))
  have j1:∀ b,Ev (fun n=>fe_Check.j1 n b nm k ax x y z lo hi l) (if b=true then 3 else if in3 x y z=true then(if k=0 then(if lo=0∧hi=0 then 0 else 3) else if limV lo hi=0 then(if lo < 1 then 2 else 0) else limV lo hi) else 2):=fun b=>by
    refine Ev.step (fun n=>by rw[fe_Check.j1]) ?_
    refine Ev.ite2 (Ev.now _) ?_
    simp only[ranged_eq,Option.bind_some]
    refine Ev.ite2 ?_ (Ev.now _)
    by_cases h0:k=0
    · refine Ev.t h0 ?_
      rw[if_pos h0]
      have:=j2 (!(lo==0)||(!(hi==0)))
      rw[if_pos h0] at this
      by_cases h1:lo=0∧hi=0
      · rw[if_pos h1]
        simpa [h1.1,h1.2] using this
      · rw[if_neg h1]
        have hb:(!(lo==0)||(!(hi==0)))=true:=by
          simp only[Bool.or_eq_true,Bool.not_eq_true',beq_eq_false_iff_ne]
          omega
        rw[hb] at this ⊢
        exact this
    · refine Ev.e h0 ?_
      have:=j2 false
      simpa [if_neg h0] using this
  have j0:∀ b,Ev (fun n=>fe_Check.j0 n b nm k ax x y z lo hi l) (if b=true then 1 else if k=4∧ax≠0 then 3 else if in3 x y z=true then(if k=0 then(if lo=0∧hi=0 then 0 else 3) else if limV lo hi=0 then(if lo < 1 then 2 else 0) else limV lo hi) else 2):=fun b=>by
    refine Ev.step (fun n=>by rw[fe_Check.j0]) ?_
    refine Ev.ite2 (Ev.now _) ?_
    by_cases h4:k=4
    · refine Ev.t h4 ?_
      have:=j1 (ax != 0)
      by_cases ha:ax=0
      · rw[if_neg (fun h=>h.2 ha)]
        rw[show (ax != 0)=false by simp[ha]] at this ⊢
        exact this
      · rw[if_pos ⟨h4,ha⟩]
        rw[show (ax != 0)=true by simp[ha]] at this ⊢
        exact this
    · refine Ev.e h4 ?_
      rw[if_neg (fun h=>h4 h.1)]
      exact j1 false
  unfold fe_Check.f chkF di_Name.f
  simp only[Option.bind_some]
  refine Ev.ite2 ?_ (Ev.now _)
  by_cases h:0≤k∧k < 5∧0≤ax∧ax < 3
  · rw[if_pos h]
    refine Ev.e (by omega) (Ev.e (by omega) (Ev.e (by omega) ?_))
    rw[decide_eq_false (show ¬ ax≥3 by omega)]
    exact j0 false
  · rw[if_neg h]
    refine Ev.ite (fun _=>j0 true) (fun h1=>Ev.ite (fun _=>j0 true) (fun h2=>Ev.ite (fun _=>j0 true) (fun h3=>?_)))
    rw[decide_eq_true (show ax≥3 by omega)]
    exact j0 true
def axV (a:Int):Int:=if 0≤a∧a < 3 then 0 else 1
def alongV (nm:ByteArray) (k ax x y z lo hi a:Int):Int:=if chkF nm k ax x y z lo hi=0 then axV a else chkF nm k ax x y z lo hi
theorem along_ev (nm:ByteArray) (k ax x y z lo hi:Int) (l:List S104) (a:Int):Ev (fun n=>fe_along.f n nm k ax x y z lo hi l a) (alongV nm k ax x y z lo hi a):=by
  unfold fe_along.f alongV
  refine Ev.bind (Check_ev nm k ax x y z lo hi l) (Ev.ite2 ?_ (Ev.now _))
  unfold axV
  by_cases h:0≤a∧a < 3
  · rw[if_pos h];exact Ev.e (by omega) (Ev.e (by omega) (Ev.now _))
  · rw[if_neg h]
    exact Ev.ite (fun _=>Ev.now _) (fun h1=>Ev.t (by omega) (Ev.now _))
structure Rgt (k ax x y z lo hi:Int):Prop where
  k1:0≤k
  k2:k < 5
  a1:0≤ax
  a2:ax < 3
  ball:k=4→ax=0
  x1:-100000≤x∧x≤100000
  y1:-100000≤y∧y≤100000
  z1:-100000≤z∧z≤100000
  plane:k=0→lo=0∧hi=0
  size:k≠0→1≤lo∧lo≤hi∧hi≤100000
theorem chkF_ok {nm:ByteArray} {k ax x y z lo hi:Int}:chkF nm k ax x y z lo hi=0↔Hand.nmV nm=0∧Rgt k ax x y z lo hi:=by
  unfold chkF
  by_cases hn:Hand.nmV nm=0
  case neg=>rw[if_neg hn];exact⟨fun h=>absurd h hn,fun h=>absurd h.1 hn⟩
  rw[if_pos hn]
  by_cases h:0≤k∧k < 5∧0≤ax∧ax < 3
  case neg=>rw[if_neg h];exact⟨fun h=>by omega,fun g=>absurd ⟨g.2.k1,g.2.k2,g.2.a1,g.2.a2⟩ h⟩
  rw[if_pos h]
  by_cases h4:k=4∧ax≠0
  · rw[if_pos h4];exact⟨fun h=>by omega,fun g=>absurd (g.2.ball h4.1) h4.2⟩
  rw[if_neg h4]
  by_cases h3:in3 x y z=true
  case neg=>
    rw[if_neg h3]
    refine⟨fun h=>by omega,fun g=>absurd ?_ h3⟩
    have:=g.2.x1;have:=g.2.y1;have:=g.2.z1
    simp only[in3,inR,Bool.and_eq_true,decide_eq_true_eq]
    omega
  rw[if_pos h3]
  simp only[in3,inR,Bool.and_eq_true,decide_eq_true_eq] at h3
  by_cases h0:k=0
  · rw[if_pos h0]
    constructor
    · intro g
      split at g
      · rename_i hl
        exact⟨hn,by omega,by omega,by omega,by omega,by omega,h3.1,h3.2.1,h3.2.2,fun _=>hl,fun e=>absurd h0 e⟩
      · omega
    · intro g
      rw[if_pos (g.2.plane h0)]
  · rw[if_neg h0]
    constructor
    · intro g
      by_cases hl:limV lo hi=0
      · rw[if_pos hl] at g
        have:=limV_ok.1 hl
        split at g
        · omega
        · exact⟨hn,by omega,by omega,by omega,by omega,by omega,h3.1,h3.2.1,h3.2.2,fun e=>absurd e h0,fun _=>by omega⟩
      · rw[if_neg hl] at g
        exact absurd g hl
    · intro g
      have:=g.2.size h0
      rw[if_pos (limV_ok.2 ⟨by omega,by omega,by omega⟩),if_neg (by omega)]
theorem alongV_ok {nm:ByteArray} {k ax x y z lo hi a:Int}:alongV nm k ax x y z lo hi a=0↔chkF nm k ax x y z lo hi=0∧0≤a∧a < 3:=by
  unfold alongV axV
  by_cases h:chkF nm k ax x y z lo hi=0
  · rw[if_pos h]
    split
    · rename_i g;exact⟨fun _=>⟨h,g⟩,fun _=>rfl⟩
    · rename_i g;exact⟨fun e=>by omega,fun e=>absurd e.2 g⟩
  · rw[if_neg h]
    exact⟨fun e=>absurd e h,fun e=>absurd e.1 h⟩
end Go.Proofs.Ytkgdlbepjmgaiaa.Fea
namespace Go.Proofs.Ytkgdlbepjmgaiaa.Fea
open Go.RowKit YtkgdlbepjmgaiaaW.PrintWords YtkgdlbepjmgaiaaW.PrintLast YtkgdlbepjmgaiaaW.PrintMore
attribute [local go_sem] max2_int min2_int max_two min_two max_three min_three max_four min_four
mutual
def mr_Few.j0:Nat→Bool→ByteArray→Int→Int→Int→Int→Int→Int→Int→List (S104)→Option (Bool)
  | 0,_,_,_,_,_,_,_,_,_,_=>none
  | k+1,x14,x102000,x102001,x102002,x102003,x102004,x102005,x102006,x102007,x102008=>if x14=true then(some false) else(mr_Few.l0 k 0 x102000 x102001 x102002 x102003 x102004 x102005 x102006 x102007 x102008)
def mr_Few.l0:Nat→Int→ByteArray→Int→Int→Int→Int→Int→Int→Int→List (S104)→Option (Bool)
  | 0,_,_,_,_,_,_,_,_,_,_=>none
  | k+1,x3,x102000,x102001,x102002,x102003,x102004,x102005,x102006,x102007,x102008=>if x3 < (x102008.length:Int) then(if 0≤x3 then(if(((rd_T104 x102008 x3).f4).length:Int) > 6 then(some false) else(mr_Few.l1 k x3 0 x102000 x102001 x102002 x102003 x102004 x102005 x102006 x102007 x102008)) else(none)) else(some true)
def mr_Few.l1:Nat→Int→Int→ByteArray→Int→Int→Int→Int→Int→Int→Int→List (S104)→Option (Bool)
  | 0,_,_,_,_,_,_,_,_,_,_,_=>none
  | k+1,x3,x4,x102000,x102001,x102002,x102003,x102004,x102005,x102006,x102007,x102008=>if 0≤x3 then(if x3 < (x102008.length:Int) then(if x4 < (((rd_T104 x102008 x3).f4).length:Int) then(if 0≤x4 then(if(((rd_T106 ((rd_T104 x102008 x3).f4) x4).f0).size:Int) > 100 then(some false) else(mr_Few.l1 k x3 (wrap64 (x4+1)) x102000 x102001 x102002 x102003 x102004 x102005 x102006 x102007 x102008)) else(none)) else(mr_Few.l0 k (wrap64 (x3+1)) x102000 x102001 x102002 x102003 x102004 x102005 x102006 x102007 x102008)) else(none)) else(none)
end
def mr_Few.f (k:Nat) (a0_0:ByteArray) (a0_1 a0_2 a0_3 a0_4 a0_5 a0_6 a0_7:Int) (l0_8:List (S104)):Option (Bool):=if(a0_0.size:Int) > 100 then(mr_Few.j0 k true a0_0 a0_1 a0_2 a0_3 a0_4 a0_5 a0_6 a0_7 l0_8) else(mr_Few.j0 k (decide ((l0_8.length:Int) > 12)) a0_0 a0_1 a0_2 a0_3 a0_4 a0_5 a0_6 a0_7 l0_8)
theorem mr_Few.mono_l:∀ k,(∀ y0 y1 y2 y3 y4 y5 y6 y7 y8 y9,LeO (mr_Few.j0 k y0 y1 y2 y3 y4 y5 y6 y7 y8 y9) (mr_Few.j0 (k+1) y0 y1 y2 y3 y4 y5 y6 y7 y8 y9))∧(∀ y0 y1 y2 y3 y4 y5 y6 y7 y8 y9,LeO (mr_Few.l0 k y0 y1 y2 y3 y4 y5 y6 y7 y8 y9) (mr_Few.l0 (k+1) y0 y1 y2 y3 y4 y5 y6 y7 y8 y9))∧(∀ y0 y1 y2 y3 y4 y5 y6 y7 y8 y9 y10,LeO (mr_Few.l1 k y0 y1 y2 y3 y4 y5 y6 y7 y8 y9 y10) (mr_Few.l1 (k+1) y0 y1 y2 y3 y4 y5 y6 y7 y8 y9 y10))
 | 0=>⟨fun _ _ _ _ _ _ _ _ _ _ r h=>by simp[mr_Few.j0] at h,fun _ _ _ _ _ _ _ _ _ _ r h=>by simp[mr_Few.l0] at h,fun _ _ _ _ _ _ _ _ _ _ _ r h=>by simp[mr_Few.l1] at h⟩
 | k+1=>by
  obtain⟨ih0,ih1,ih2⟩:=mr_Few.mono_l k
  refine⟨?_,?_,?_⟩
  ·intro y0 y1 y2 y3 y4 y5 y6 y7 y8 y9
   unfold mr_Few.j0
   repeat' first
   | (with_reducible exact ih0 _ _ _ _ _ _ _ _ _ _)
   | (with_reducible exact ih1 _ _ _ _ _ _ _ _ _ _)
   | (with_reducible exact ih2 _ _ _ _ _ _ _ _ _ _ _)
   | (with_reducible exact LeO.refl _)
   | (with_reducible exact LeO.none _)
   | (with_reducible refine LeO.ite ?_ ?_)
   | (with_reducible refine LeO.bind ?_ (fun _=>?_))
   | exact ih0 _ _ _ _ _ _ _ _ _ _
   | exact ih1 _ _ _ _ _ _ _ _ _ _
   | exact ih2 _ _ _ _ _ _ _ _ _ _ _
   | exact LeO.none _
   | refine LeO.ite ?_ ?_
   | refine LeO.bind ?_ (fun _=>?_)
  ·intro y0 y1 y2 y3 y4 y5 y6 y7 y8 y9
   unfold mr_Few.l0
   repeat' first
   | (with_reducible exact ih0 _ _ _ _ _ _ _ _ _ _)
   | (with_reducible exact ih1 _ _ _ _ _ _ _ _ _ _)
   | (with_reducible exact ih2 _ _ _ _ _ _ _ _ _ _ _)
   | (with_reducible exact LeO.refl _)
   | (with_reducible exact LeO.none _)
   | (with_reducible refine LeO.ite ?_ ?_)
   | (with_reducible refine LeO.bind ?_ (fun _=>?_))
   | exact ih0 _ _ _ _ _ _ _ _ _ _
   | exact ih1 _ _ _ _ _ _ _ _ _ _
   | exact ih2 _ _ _ _ _ _ _ _ _ _ _
   | exact LeO.none _
   | refine LeO.ite ?_ ?_
   | refine LeO.bind ?_ (fun _=>?_)
  ·intro y0 y1 y2 y3 y4 y5 y6 y7 y8 y9 y10
   unfold mr_Few.l1
   repeat' first
   | (with_reducible exact ih0 _ _ _ _ _ _ _ _ _ _)
   | (with_reducible exact ih1 _ _ _ _ _ _ _ _ _ _)
   | (with_reducible exact ih2 _ _ _ _ _ _ _ _ _ _ _)
   | (with_reducible exact LeO.refl _)
   | (with_reducible exact LeO.none _)
   | (with_reducible refine LeO.ite ?_ ?_)
   | (with_reducible refine LeO.bind ?_ (fun _=>?_))
   | exact ih0 _ _ _ _ _ _ _ _ _ _
   | exact ih1 _ _ _ _ _ _ _ _ _ _
   | exact ih2 _ _ _ _ _ _ _ _ _ _ _
   | exact LeO.none _
   | refine LeO.ite ?_ ?_
   | refine LeO.bind ?_ (fun _=>?_)
theorem mr_Few.mono:∀ a0 a1 a2 a3 a4 a5 a6 a7 a8 k,LeO (mr_Few.f k a0 a1 a2 a3 a4 a5 a6 a7 a8) (mr_Few.f (k+1) a0 a1 a2 a3 a4 a5 a6 a7 a8):=by
 intro a0 a1 a2 a3 a4 a5 a6 a7 a8 k
 obtain⟨ih0,ih1,ih2⟩:=mr_Few.mono_l k
 unfold mr_Few.f
 repeat' first
  | (with_reducible exact ih0 _ _ _ _ _ _ _ _ _ _)
  | (with_reducible exact ih1 _ _ _ _ _ _ _ _ _ _)
  | (with_reducible exact ih2 _ _ _ _ _ _ _ _ _ _ _)
  | (with_reducible exact LeO.refl _)
  | (with_reducible exact LeO.none _)
  | (with_reducible refine LeO.ite ?_ ?_)
  | (with_reducible refine LeO.bind ?_ (fun _=>?_))
  | exact ih0 _ _ _ _ _ _ _ _ _ _
  | exact ih1 _ _ _ _ _ _ _ _ _ _
  | exact ih2 _ _ _ _ _ _ _ _ _ _ _
  | exact LeO.none _
  | refine LeO.ite ?_ ?_
  | refine LeO.bind ?_ (fun _=>?_)
set_option maxHeartbeats 8000000 in
set_option maxRecDepth 100000 in
theorem mr_Few.calls (k:Nat) (a0_0:ByteArray) (a0_1 a0_2 a0_3 a0_4 a0_5 a0_6 a0_7:Int) (A0_8:Option Addr) (c0_8:Nat) (l0_8:List (S104)) (r:Bool) (w:World) (hr0_8:Kd.C k104 w A0_8 l0_8.length l0_8) (hc0_8:l0_8.length≤c0_8) (h:mr_Few.f k a0_0 a0_1 a0_2 a0_3 a0_4 a0_5 a0_6 a0_7 l0_8=some r):
 Calls Try.prog 17 #[.agg #[.string a0_0,.int .i64 a0_1,.int .i64 a0_2,.int .i64 a0_3,.int .i64 a0_4,.int .i64 a0_5,.int .i64 a0_6,.int .i64 a0_7,.slice A0_8 l0_8.length c0_8]] w fun e w'=>e=.returned (.bool r)∧Below w.heap.size w w':=by
 have hu28:=Try.underlying28
 have HR0_8:=zm hr0_8
 have HC0_8:=zm hc0_8
 clear hr0_8 hc0_8
 have HB:=zm (Below.refl w.heap.size w)
 have H:(if(a0_0.size:Int) > 100 then(mr_Few.j0 k true a0_0 a0_1 a0_2 a0_3 a0_4 a0_5 a0_6 a0_7 l0_8) else(mr_Few.j0 k (decide ((l0_8.length:Int) > 12)) a0_0 a0_1 a0_2 a0_3 a0_4 a0_5 a0_6 a0_7 l0_8))=some r:=h
 clear h
 have HC2:=zm H
 clear H
 go_enter Try.func17,Try.ntmps17
 go_upto_region 1 with (first|((with_reducible refine gate_dst (N:=1) rfl ?_);(try(refine gate_guard (by rfl) ?_;dsimp only));refine box_event ?hg (N:=1) ?hd (cs:=#[.string a0_0,.int .i64 a0_1,.int .i64 a0_2,.int .i64 a0_3,.int .i64 a0_4,.int .i64 a0_5,.int .i64 a0_6,.int .i64 a0_7,.slice A0_8 l0_8.length c0_8]) (t:=28) ?hr ?_;(case hd=>rfl);(case hg=>rfl);(case hr=>first|(go_simp;done)|(go_simp;rfl));intro gb101 hg w3 hbox hb;have n0_:=zm (below_step (by repeat(first|(with_reducible first|exact HB.out|apply zA|apply zD|apply zE)|exact HB.out)) hb);have n1_:=zm (hbox);have n2_:=zm ((by rw[hg];exact(below_size (by repeat(first|(with_reducible first|exact HB.out|apply zA|apply zD|apply zE)|exact HB.out))):w.heap.size≤gb101));have n3_:=zm ((by rw[hg];exact(below_size (by repeat(first|(with_reducible first|exact HB.out|apply zA|apply zD|apply zE)|exact HB.out))):w.heap.size≤gb101));clear HB;have HB:=n0_;have BK101:=n1_;have GW101:=n2_;have GE101:=n3_;clear n0_ n1_ n2_ n3_;clear hb hbox hg))
 (try simp only[Act.put,zx,zy,zz])
 go_cut [14] (fun v14 wc=>∃(kq:Nat) (x14_1:Bool),v14=.bool x14_1∧Aside0 (mr_Few.j0 kq x14_1 a0_0 a0_1 a0_2 a0_3 a0_4 a0_5 a0_6 a0_7 l0_8=some r)∧Aside0 (kq≤k)∧Aside0 (wc.heap[gb101]?=some (.cells #[.string a0_0,.int .i64 a0_1,.int .i64 a0_2,.int .i64 a0_3,.int .i64 a0_4,.int .i64 a0_5,.int .i64 a0_6,.int .i64 a0_7,(.slice A0_8 l0_8.length c0_8)] 28 (0,0)))∧Aside0 (Below w.heap.size w wc))
 case first=>
  have H:=HC2.out
  clear HC2
  by_cases c4:(a0_0.size:Int) > 100
  ·rw[if_pos c4] at H
   have c4b0:decide (100 < (a0_0.size:Int))=true:=decide_eq_true c4
   have c4b1:decide (100 < a0_0.size)=true:=decide_eq_true (by omega)
   clear c4
   (first|rw[c4b0]|(simp only[i64_w,i32_w];rw[c4b0])|(rw[c4b2];try simp only[Bool.not_true,Bool.not_false])|skip)
   have H':=zm H
   clear H
   have hcz5_0:=zc BK101.out 0 (.string a0_0) rfl
   have hcz5_1:=zc BK101.out 1 (.int .i64 a0_1) rfl
   have hcz5_2:=zc BK101.out 2 (.int .i64 a0_2) rfl
   have hcz5_3:=zc BK101.out 3 (.int .i64 a0_3) rfl
   have hcz5_4:=zc BK101.out 4 (.int .i64 a0_4) rfl
   have hcz5_5:=zc BK101.out 5 (.int .i64 a0_5) rfl
   have hcz5_6:=zc BK101.out 6 (.int .i64 a0_6) rfl
   have hcz5_7:=zc BK101.out 7 (.int .i64 a0_7) rfl
   have hcz5_8:=zc BK101.out 8 (.slice A0_8 l0_8.length c0_8) rfl
   have hfz5_0:=zf BK101.out 0
   have hfz5_1:=zf BK101.out 1
   have hfz5_2:=zf BK101.out 2
   have hfz5_3:=zf BK101.out 3
   have hfz5_4:=zf BK101.out 4
   have hfz5_5:=zf BK101.out 5
   have hfz5_6:=zf BK101.out 6
   have hfz5_7:=zf BK101.out 7
   have hfz5_8:=zf BK101.out 8
   go_wp2
   go_meet
   case rel=>exact⟨_,(true),(by first|rfl|(simp;done)|(simp[*];done)),H',⟨by first|omega|exact Nat.le_refl _⟩,⟨by(with_reducible repeat first|apply zd|apply ze|apply za);exact BK101.out⟩,⟨by repeat(first|(with_reducible first|exact HB.out|apply zA|apply zD|apply zE|refine zS ?_ GE101.out)|exact HB.out)⟩⟩
  ·rw[if_neg c4] at H
   have c4b0:decide (100 < (a0_0.size:Int))=false:=decide_eq_false c4
   have c4b1:decide (100 < a0_0.size)=false:=decide_eq_false (by omega)
   clear c4
   (first|rw[c4b0]|(simp only[i64_w,i32_w];rw[c4b0])|(rw[c4b2];try simp only[Bool.not_true,Bool.not_false])|skip)
   have H':=zm H
   clear H
   have hcz6_0:=zc BK101.out 0 (.string a0_0) rfl
   have hcz6_1:=zc BK101.out 1 (.int .i64 a0_1) rfl
   have hcz6_2:=zc BK101.out 2 (.int .i64 a0_2) rfl
   have hcz6_3:=zc BK101.out 3 (.int .i64 a0_3) rfl
   have hcz6_4:=zc BK101.out 4 (.int .i64 a0_4) rfl
   have hcz6_5:=zc BK101.out 5 (.int .i64 a0_5) rfl
   have hcz6_6:=zc BK101.out 6 (.int .i64 a0_6) rfl
   have hcz6_7:=zc BK101.out 7 (.int .i64 a0_7) rfl
   have hcz6_8:=zc BK101.out 8 (.slice A0_8 l0_8.length c0_8) rfl
   have hfz6_0:=zf BK101.out 0
   have hfz6_1:=zf BK101.out 1
   have hfz6_2:=zf BK101.out 2
   have hfz6_3:=zf BK101.out 3
   have hfz6_4:=zf BK101.out 4
   have hfz6_5:=zf BK101.out 5
   have hfz6_6:=zf BK101.out 6
   have hfz6_7:=zf BK101.out 7
   have hfz6_8:=zf BK101.out 8
   go_wp2
   go_meet
   case rel=>exact⟨_,(decide ((l0_8.length:Int) > 12)),(by first|rfl|(simp;done)|(simp[*];done)),H',⟨by first|omega|exact Nat.le_refl _⟩,⟨by(with_reducible repeat first|apply zd|apply ze|apply za);exact BK101.out⟩,⟨by repeat(first|(with_reducible first|exact HB.out|apply zA|apply zD|apply zE|refine zS ?_ GE101.out)|exact HB.out)⟩⟩
 case rest=>
  clear HC2
  try clear c1
  try clear p2
  try clear c4
  try clear c4b0
  try clear c4b1
  try clear c4b2
  try clear hcz5_0
  try clear hcz5_1
  try clear hcz5_2
  try clear hcz5_3
  try clear hcz5_4
  try clear hcz5_5
  try clear hcz5_6
  try clear hcz5_7
  try clear hcz5_8
  try clear hcz6_0
  try clear hcz6_1
  try clear hcz6_2
  try clear hcz6_3
  try clear hcz6_4
  try clear hcz6_5
  try clear hcz6_6
  try clear hcz6_7
  try clear hcz6_8
  try clear hfz5_0
  try clear hfz5_1
  try clear hfz5_2
  try clear hfz5_3
  try clear hfz5_4
  try clear hfz5_5
  try clear hfz5_6
  try clear hfz5_7
  try clear hfz5_8
  try clear hfz6_0
  try clear hfz6_1
  try clear hfz6_2
  try clear hfz6_3
  try clear hfz6_4
  try clear hfz6_5
  try clear hfz6_6
  try clear hfz6_7
  try clear hfz6_8
  obtain⟨kq,x14_1,rfl,HA,HJ1,BK101,HB⟩:=hcut
  cases kq with
  | zero=>exact absurd HA.out (by simp[mr_Few.j0])
  | succ kj1=>
   have H:=HA.out
   clear HA
   simp only[mr_Few.j0] at H
   by_cases c7:x14_1=true
   ·subst c7
    have H1:(some false)=some r:=by rw[if_pos rfl] at H;exact H
    clear H
    have H:=H1
    clear H1
    obtain rfl:=Option.some.inj H
    go_wp2
    go_ret
    exact⟨by first|rfl|(simp[errW_none,errW_some]<;>rfl)|(simp[*,errW_none,errW_some]<;>rfl),by repeat(first|(with_reducible first|exact HB.out|apply zA|apply zD|apply zE|refine zS ?_ GE101.out)|exact HB.out)⟩
   ·replace c7:=Bool.eq_false_iff.mpr c7
    subst c7
    have H1:(mr_Few.l0 kj1 0 a0_0 a0_1 a0_2 a0_3 a0_4 a0_5 a0_6 a0_7 l0_8)=some r:=by rw[if_neg (show ¬(false=true) by decide)] at H;exact H
    clear H
    have H:=H1
    clear H1
    have H':=zm H
    clear H
    go_wp2
    go_loopg [3] kj1 (fun kq v3 w'=>∃(x3_2:Int),v3=.int .i64 x3_2∧Aside0 (mr_Few.l0 kq x3_2 a0_0 a0_1 a0_2 a0_3 a0_4 a0_5 a0_6 a0_7 l0_8=some r)∧Aside0 (kq≤kj1)∧Aside0 (w'.heap[gb101]?=some (.cells #[.string a0_0,.int .i64 a0_1,.int .i64 a0_2,.int .i64 a0_3,.int .i64 a0_4,.int .i64 a0_5,.int .i64 a0_6,.int .i64 a0_7,(.slice A0_8 l0_8.length c0_8)] 28 (0,0)))∧Aside0 (Below w.heap.size w w'))
    case atStart=>exact⟨(0),(by first|rfl|(simp;done)|(simp[*];done)),H',⟨Nat.le_refl _⟩,⟨by(with_reducible repeat first|apply zd|apply ze|apply za);exact BK101.out⟩,⟨by repeat(first|(with_reducible first|exact HB.out|apply zA|apply zD|apply zE|refine zS ?_ GE101.out)|exact HB.out)⟩⟩
    case round=>
     clear H'
     try clear c1
     try clear p2
     try clear c4
     try clear c4b0
     try clear c4b1
     try clear c4b2
     try clear c7
     try clear hcz5_0
     try clear hcz5_1
     try clear hcz5_2
     try clear hcz5_3
     try clear hcz5_4
     try clear hcz5_5
     try clear hcz5_6
     try clear hcz5_7
     try clear hcz5_8
     try clear hcz6_0
     try clear hcz6_1
     try clear hcz6_2
     try clear hcz6_3
     try clear hcz6_4
     try clear hcz6_5
     try clear hcz6_6
     try clear hcz6_7
     try clear hcz6_8
     try clear hfz5_0
     try clear hfz5_1
     try clear hfz5_2
     try clear hfz5_3
     try clear hfz5_4
     try clear hfz5_5
     try clear hfz5_6
     try clear hfz5_7
     try clear hfz5_8
     try clear hfz6_0
     try clear hfz6_1
     try clear hfz6_2
     try clear hfz6_3
     try clear hfz6_4
     try clear hfz6_5
     try clear hfz6_6
     try clear hfz6_7
     try clear hfz6_8
     try clear p2
     obtain⟨x3_2,rfl,HA,HK2,BK101,HB⟩:=hrel
     cases gk with
     | zero=>exact absurd HA.out (by simp[mr_Few.l0])
     | succ k2=>
      have H:=HA.out
      clear HA
      simp only[mr_Few.l0] at H
      by_cases c8:x3_2 < (l0_8.length:Int)
      ·rw[if_pos c8] at H
       have c8b0:decide (x3_2 < (l0_8.length:Int))=true:=decide_eq_true c8
       clear c8
       by_cases c9:0≤x3_2
       ·rw[if_pos c9] at H
        have c9b0:decide (0≤x3_2)=true:=decide_eq_true c9
        clear c9
        by_cases c10:(((rd_T104 l0_8 x3_2).f4).length:Int) > 6
        ·rw[if_pos c10] at H
         have c10b0:decide (6 < (((rd_T104 l0_8 x3_2).f4).length:Int))=true:=decide_eq_true c10
         have c10b1:decide (6 < ((rd_T104 l0_8 x3_2).f4).length)=true:=decide_eq_true (by omega)
         clear c10
         obtain rfl:=Option.some.inj H
         have hcz11_0:=zc BK101.out 0 (.string a0_0) rfl
         have hcz11_1:=zc BK101.out 1 (.int .i64 a0_1) rfl
         have hcz11_2:=zc BK101.out 2 (.int .i64 a0_2) rfl
         have hcz11_3:=zc BK101.out 3 (.int .i64 a0_3) rfl
         have hcz11_4:=zc BK101.out 4 (.int .i64 a0_4) rfl
         have hcz11_5:=zc BK101.out 5 (.int .i64 a0_5) rfl
         have hcz11_6:=zc BK101.out 6 (.int .i64 a0_6) rfl
         have hcz11_7:=zc BK101.out 7 (.int .i64 a0_7) rfl
         have hcz11_8:=zc BK101.out 8 (.slice A0_8 l0_8.length c0_8) rfl
         have hfz11_0:=zf BK101.out 0
         have hfz11_1:=zf BK101.out 1
         have hfz11_2:=zf BK101.out 2
         have hfz11_3:=zf BK101.out 3
         have hfz11_4:=zf BK101.out 4
         have hfz11_5:=zf BK101.out 5
         have hfz11_6:=zf BK101.out 6
         have hfz11_7:=zf BK101.out 7
         have hfz11_8:=zf BK101.out 8
         have p102:0≤(x3_2:Int):=of_decide_eq_true (by first|(with_reducible assumption)|assumption)
         have q102:x3_2 < (l0_8.length:Int):=of_decide_eq_true (by first|(with_reducible assumption)|assumption)
         obtain⟨ad102,A102_4,c102_4,e102,hx102_0,hx102_1,hx102_2,hx102_3,hx102_4,hl102_4,hi102_4⟩:=at_T104 HR0_8.out x3_2 p102 q102
         cases e102
         replace hx102_0:=(HB.out.cell (World.block_lt_of_cell? w _ hx102_0)).trans hx102_0
         replace hx102_1:=(HB.out.cell (World.block_lt_of_cell? w _ hx102_1)).trans hx102_1
         replace hx102_2:=(HB.out.cell (World.block_lt_of_cell? w _ hx102_2)).trans hx102_2
         replace hx102_3:=(HB.out.cell (World.block_lt_of_cell? w _ hx102_3)).trans hx102_3
         replace hx102_4:=(HB.out.cell (World.block_lt_of_cell? w _ hx102_4)).trans hx102_4
         have HR102_4:=zm hi102_4
         have HC102_4:=zm hl102_4
         clear hi102_4 hl102_4
         replace p102:=eq_true p102
         replace q102:=eq_true q102
         go_wp2
         go_ret
         exact⟨by first|rfl|(simp[errW_none,errW_some]<;>rfl)|(simp[*,errW_none,errW_some]<;>rfl),by repeat(first|(with_reducible first|exact HB.out|apply zA|apply zD|apply zE|refine zS ?_ GE101.out)|exact HB.out)⟩
        ·rw[if_neg c10] at H
         have c10b0:decide (6 < (((rd_T104 l0_8 x3_2).f4).length:Int))=false:=decide_eq_false c10
         have c10b1:decide (6 < ((rd_T104 l0_8 x3_2).f4).length)=false:=decide_eq_false (by omega)
         clear c10
         have H':=zm H
         clear H
         have hcz12_0:=zc BK101.out 0 (.string a0_0) rfl
         have hcz12_1:=zc BK101.out 1 (.int .i64 a0_1) rfl
         have hcz12_2:=zc BK101.out 2 (.int .i64 a0_2) rfl
         have hcz12_3:=zc BK101.out 3 (.int .i64 a0_3) rfl
         have hcz12_4:=zc BK101.out 4 (.int .i64 a0_4) rfl
         have hcz12_5:=zc BK101.out 5 (.int .i64 a0_5) rfl
         have hcz12_6:=zc BK101.out 6 (.int .i64 a0_6) rfl
         have hcz12_7:=zc BK101.out 7 (.int .i64 a0_7) rfl
         have hcz12_8:=zc BK101.out 8 (.slice A0_8 l0_8.length c0_8) rfl
         have hfz12_0:=zf BK101.out 0
         have hfz12_1:=zf BK101.out 1
         have hfz12_2:=zf BK101.out 2
         have hfz12_3:=zf BK101.out 3
         have hfz12_4:=zf BK101.out 4
         have hfz12_5:=zf BK101.out 5
         have hfz12_6:=zf BK101.out 6
         have hfz12_7:=zf BK101.out 7
         have hfz12_8:=zf BK101.out 8
         have p102:0≤(x3_2:Int):=of_decide_eq_true (by first|(with_reducible assumption)|assumption)
         have q102:x3_2 < (l0_8.length:Int):=of_decide_eq_true (by first|(with_reducible assumption)|assumption)
         obtain⟨ad102,A102_4,c102_4,e102,hx102_0,hx102_1,hx102_2,hx102_3,hx102_4,hl102_4,hi102_4⟩:=at_T104 HR0_8.out x3_2 p102 q102
         cases e102
         replace hx102_0:=(HB.out.cell (World.block_lt_of_cell? w _ hx102_0)).trans hx102_0
         replace hx102_1:=(HB.out.cell (World.block_lt_of_cell? w _ hx102_1)).trans hx102_1
         replace hx102_2:=(HB.out.cell (World.block_lt_of_cell? w _ hx102_2)).trans hx102_2
         replace hx102_3:=(HB.out.cell (World.block_lt_of_cell? w _ hx102_3)).trans hx102_3
         replace hx102_4:=(HB.out.cell (World.block_lt_of_cell? w _ hx102_4)).trans hx102_4
         have HR102_4:=zm hi102_4
         have HC102_4:=zm hl102_4
         clear hi102_4 hl102_4
         replace p102:=eq_true p102
         replace q102:=eq_true q102
         go_wp2
         go_loopg [4] k2 (fun kq v4 w'=>∃(x4_3:Int),v4=.int .i64 x4_3∧Aside0 (mr_Few.l1 kq x3_2 x4_3 a0_0 a0_1 a0_2 a0_3 a0_4 a0_5 a0_6 a0_7 l0_8=some r)∧Aside0 (kq≤k2)∧Aside0 (w'.heap[gb101]?=some (.cells #[.string a0_0,.int .i64 a0_1,.int .i64 a0_2,.int .i64 a0_3,.int .i64 a0_4,.int .i64 a0_5,.int .i64 a0_6,.int .i64 a0_7,(.slice (some ad102) l0_8.length c0_8)] 28 (0,0)))∧Aside0 (Below w.heap.size w w'))
         case atStart=>exact⟨(0),(by first|rfl|(simp;done)|(simp[*];done)),H',⟨Nat.le_refl _⟩,⟨by(with_reducible repeat first|apply zd|apply ze|apply za);exact BK101.out⟩,⟨by repeat(first|(with_reducible first|exact HB.out|apply zA|apply zD|apply zE|refine zS ?_ GE101.out)|exact HB.out)⟩⟩
         case round=>
          clear H'
          try clear c1
          try clear p1
          try clear q1
          try clear hx1
          try clear p2
          try clear c4
          try clear c4b0
          try clear c4b1
          try clear c4b2
          try clear c7
          try clear c8
          try clear c8b0
          try clear c9
          try clear c9b0
          try clear c10
          try clear c10b0
          try clear c10b1
          try clear p10
          try clear q10
          try clear hx10
          try clear hcz11_0
          try clear hcz11_1
          try clear hcz11_2
          try clear hcz11_3
          try clear hcz11_4
          try clear hcz11_5
          try clear hcz11_6
          try clear hcz11_7
          try clear hcz11_8
          try clear hcz12_0
          try clear hcz12_1
          try clear hcz12_2
          try clear hcz12_3
          try clear hcz12_4
          try clear hcz12_5
          try clear hcz12_6
          try clear hcz12_7
          try clear hcz12_8
          try clear hcz5_0
          try clear hcz5_1
          try clear hcz5_2
          try clear hcz5_3
          try clear hcz5_4
          try clear hcz5_5
          try clear hcz5_6
          try clear hcz5_7
          try clear hcz5_8
          try clear hcz6_0
          try clear hcz6_1
          try clear hcz6_2
          try clear hcz6_3
          try clear hcz6_4
          try clear hcz6_5
          try clear hcz6_6
          try clear hcz6_7
          try clear hcz6_8
          try clear hfz11_0
          try clear hfz11_1
          try clear hfz11_2
          try clear hfz11_3
          try clear hfz11_4
          try clear hfz11_5
          try clear hfz11_6
          try clear hfz11_7
          try clear hfz11_8
          try clear hfz12_0
          try clear hfz12_1
          try clear hfz12_2
          try clear hfz12_3
          try clear hfz12_4
          try clear hfz12_5
          try clear hfz12_6
          try clear hfz12_7
          try clear hfz12_8
          try clear hfz5_0
          try clear hfz5_1
          try clear hfz5_2
          try clear hfz5_3
          try clear hfz5_4
          try clear hfz5_5
          try clear hfz5_6
          try clear hfz5_7
          try clear hfz5_8
          try clear hfz6_0
          try clear hfz6_1
          try clear hfz6_2
          try clear hfz6_3
          try clear hfz6_4
          try clear hfz6_5
          try clear hfz6_6
          try clear hfz6_7
          try clear hfz6_8
          try clear hx102_0
          try clear hx102_1
          try clear hx102_2
          try clear hx102_3
          try clear hx102_4
          try clear p102
          try clear p2
          try clear q102
          obtain⟨x4_3,rfl,HA,HK3,BK101,HB⟩:=hrel
          cases gk with
          | zero=>exact absurd HA.out (by simp[mr_Few.l1])
          | succ k3=>
           have H:=HA.out
           clear HA
           simp only[mr_Few.l1] at H
           by_cases c13:0≤x3_2
           ·rw[if_pos c13] at H
            have c13b0:decide (0≤x3_2)=true:=decide_eq_true c13
            clear c13
            by_cases c14:x3_2 < (l0_8.length:Int)
            ·rw[if_pos c14] at H
             have c14b0:decide (x3_2 < (l0_8.length:Int))=true:=decide_eq_true c14
             clear c14
             by_cases c15:x4_3 < (((rd_T104 l0_8 x3_2).f4).length:Int)
             ·rw[if_pos c15] at H
              have c15b0:decide (x4_3 < (((rd_T104 l0_8 x3_2).f4).length:Int))=true:=decide_eq_true c15
              clear c15
              by_cases c16:0≤x4_3
              ·rw[if_pos c16] at H
               have c16b0:decide (0≤x4_3)=true:=decide_eq_true c16
               clear c16
               by_cases c17:(((rd_T106 ((rd_T104 l0_8 x3_2).f4) x4_3).f0).size:Int) > 100
               ·rw[if_pos c17] at H
                have c17b0:decide (100 < (((rd_T106 ((rd_T104 l0_8 x3_2).f4) x4_3).f0).size:Int))=true:=decide_eq_true c17
                have c17b1:decide (100 < ((rd_T106 ((rd_T104 l0_8 x3_2).f4) x4_3).f0).size)=true:=decide_eq_true (by omega)
                clear c17
                obtain rfl:=Option.some.inj H
                have hcz18_0:=zc BK101.out 0 (.string a0_0) rfl
                have hcz18_1:=zc BK101.out 1 (.int .i64 a0_1) rfl
                have hcz18_2:=zc BK101.out 2 (.int .i64 a0_2) rfl
                have hcz18_3:=zc BK101.out 3 (.int .i64 a0_3) rfl
                have hcz18_4:=zc BK101.out 4 (.int .i64 a0_4) rfl
                have hcz18_5:=zc BK101.out 5 (.int .i64 a0_5) rfl
                have hcz18_6:=zc BK101.out 6 (.int .i64 a0_6) rfl
                have hcz18_7:=zc BK101.out 7 (.int .i64 a0_7) rfl
                have hcz18_8:=zc BK101.out 8 (.slice (some ad102) l0_8.length c0_8) rfl
                have hfz18_0:=zf BK101.out 0
                have hfz18_1:=zf BK101.out 1
                have hfz18_2:=zf BK101.out 2
                have hfz18_3:=zf BK101.out 3
                have hfz18_4:=zf BK101.out 4
                have hfz18_5:=zf BK101.out 5
                have hfz18_6:=zf BK101.out 6
                have hfz18_7:=zf BK101.out 7
                have hfz18_8:=zf BK101.out 8
                have p103:0≤(x3_2:Int):=of_decide_eq_true (by first|(with_reducible assumption)|assumption)
                have q103:x3_2 < (l0_8.length:Int):=of_decide_eq_true (by first|(with_reducible assumption)|assumption)
                obtain⟨ad103,A103_4,c103_4,e103,hx103_0,hx103_1,hx103_2,hx103_3,hx103_4,hl103_4,hi103_4⟩:=at_T104 HR0_8.out x3_2 p103 q103
                obtain rfl:ad102=ad103:=(by injection e103)
                replace hx103_0:=(HB.out.cell (World.block_lt_of_cell? w _ hx103_0)).trans hx103_0
                replace hx103_1:=(HB.out.cell (World.block_lt_of_cell? w _ hx103_1)).trans hx103_1
                replace hx103_2:=(HB.out.cell (World.block_lt_of_cell? w _ hx103_2)).trans hx103_2
                replace hx103_3:=(HB.out.cell (World.block_lt_of_cell? w _ hx103_3)).trans hx103_3
                replace hx103_4:=(HB.out.cell (World.block_lt_of_cell? w _ hx103_4)).trans hx103_4
                have HR103_4:=zm hi103_4
                have HC103_4:=zm hl103_4
                clear hi103_4 hl103_4
                replace p103:=eq_true p103
                replace q103:=eq_true q103
                have p104:0≤(x3_2:Int):=of_decide_eq_true (by first|(with_reducible assumption)|assumption)
                have q104:x3_2 < (l0_8.length:Int):=of_decide_eq_true (by first|(with_reducible assumption)|assumption)
                obtain⟨ad104,A104_4,c104_4,e104,hx104_0,hx104_1,hx104_2,hx104_3,hx104_4,hl104_4,hi104_4⟩:=at_T104 HR0_8.out x3_2 p104 q104
                obtain rfl:ad102=ad104:=(by injection e104)
                replace hx104_0:=(HB.out.cell (World.block_lt_of_cell? w _ hx104_0)).trans hx104_0
                replace hx104_1:=(HB.out.cell (World.block_lt_of_cell? w _ hx104_1)).trans hx104_1
                replace hx104_2:=(HB.out.cell (World.block_lt_of_cell? w _ hx104_2)).trans hx104_2
                replace hx104_3:=(HB.out.cell (World.block_lt_of_cell? w _ hx104_3)).trans hx104_3
                replace hx104_4:=(HB.out.cell (World.block_lt_of_cell? w _ hx104_4)).trans hx104_4
                have HR104_4:=zm hi104_4
                have HC104_4:=zm hl104_4
                clear hi104_4 hl104_4
                replace p104:=eq_true p104
                replace q104:=eq_true q104
                have ea_:=Option.some.inj (hx103_4.symm.trans hx104_4)
                injection ea_ with ea_ en_ ec_
                subst ea_
                subst ec_
                clear en_
                have p105:0≤(x4_3:Int):=of_decide_eq_true (by first|(with_reducible assumption)|assumption)
                have q105:x4_3 < (((rd_T104 l0_8 x3_2).f4).length:Int):=of_decide_eq_true (by first|(with_reducible assumption)|assumption)
                obtain⟨ad105,e105,hx105_0,hx105_1⟩:=at_T106 HR104_4.out x4_3 p105 q105
                cases e105
                replace hx105_0:=(HB.out.cell (World.block_lt_of_cell? w _ hx105_0)).trans hx105_0
                replace hx105_1:=(HB.out.cell (World.block_lt_of_cell? w _ hx105_1)).trans hx105_1
                replace p105:=eq_true p105
                replace q105:=eq_true q105
                go_wp2
                go_ret
                exact⟨by first|rfl|(simp[errW_none,errW_some]<;>rfl)|(simp[*,errW_none,errW_some]<;>rfl),by repeat(first|(with_reducible first|exact HB.out|apply zA|apply zD|apply zE|refine zS ?_ GE101.out)|exact HB.out)⟩
               ·rw[if_neg c17] at H
                have c17b0:decide (100 < (((rd_T106 ((rd_T104 l0_8 x3_2).f4) x4_3).f0).size:Int))=false:=decide_eq_false c17
                have c17b1:decide (100 < ((rd_T106 ((rd_T104 l0_8 x3_2).f4) x4_3).f0).size)=false:=decide_eq_false (by omega)
                clear c17
                have H':=zm H
                clear H
                have hcz19_0:=zc BK101.out 0 (.string a0_0) rfl
                have hcz19_1:=zc BK101.out 1 (.int .i64 a0_1) rfl
                have hcz19_2:=zc BK101.out 2 (.int .i64 a0_2) rfl
                have hcz19_3:=zc BK101.out 3 (.int .i64 a0_3) rfl
                have hcz19_4:=zc BK101.out 4 (.int .i64 a0_4) rfl
                have hcz19_5:=zc BK101.out 5 (.int .i64 a0_5) rfl
                have hcz19_6:=zc BK101.out 6 (.int .i64 a0_6) rfl
                have hcz19_7:=zc BK101.out 7 (.int .i64 a0_7) rfl
                have hcz19_8:=zc BK101.out 8 (.slice (some ad102) l0_8.length c0_8) rfl
                have hfz19_0:=zf BK101.out 0
                have hfz19_1:=zf BK101.out 1
                have hfz19_2:=zf BK101.out 2
                have hfz19_3:=zf BK101.out 3
                have hfz19_4:=zf BK101.out 4
                have hfz19_5:=zf BK101.out 5
                have hfz19_6:=zf BK101.out 6
                have hfz19_7:=zf BK101.out 7
                have hfz19_8:=zf BK101.out 8
                have p103:0≤(x3_2:Int):=of_decide_eq_true (by first|(with_reducible assumption)|assumption)
                have q103:x3_2 < (l0_8.length:Int):=of_decide_eq_true (by first|(with_reducible assumption)|assumption)
                obtain⟨ad103,A103_4,c103_4,e103,hx103_0,hx103_1,hx103_2,hx103_3,hx103_4,hl103_4,hi103_4⟩:=at_T104 HR0_8.out x3_2 p103 q103
                obtain rfl:ad102=ad103:=(by injection e103)
                replace hx103_0:=(HB.out.cell (World.block_lt_of_cell? w _ hx103_0)).trans hx103_0
                replace hx103_1:=(HB.out.cell (World.block_lt_of_cell? w _ hx103_1)).trans hx103_1
                replace hx103_2:=(HB.out.cell (World.block_lt_of_cell? w _ hx103_2)).trans hx103_2
                replace hx103_3:=(HB.out.cell (World.block_lt_of_cell? w _ hx103_3)).trans hx103_3
                replace hx103_4:=(HB.out.cell (World.block_lt_of_cell? w _ hx103_4)).trans hx103_4
                have HR103_4:=zm hi103_4
                have HC103_4:=zm hl103_4
                clear hi103_4 hl103_4
                replace p103:=eq_true p103
                replace q103:=eq_true q103
                have p104:0≤(x3_2:Int):=of_decide_eq_true (by first|(with_reducible assumption)|assumption)
                have q104:x3_2 < (l0_8.length:Int):=of_decide_eq_true (by first|(with_reducible assumption)|assumption)
                obtain⟨ad104,A104_4,c104_4,e104,hx104_0,hx104_1,hx104_2,hx104_3,hx104_4,hl104_4,hi104_4⟩:=at_T104 HR0_8.out x3_2 p104 q104
                obtain rfl:ad102=ad104:=(by injection e104)
                replace hx104_0:=(HB.out.cell (World.block_lt_of_cell? w _ hx104_0)).trans hx104_0
                replace hx104_1:=(HB.out.cell (World.block_lt_of_cell? w _ hx104_1)).trans hx104_1
                replace hx104_2:=(HB.out.cell (World.block_lt_of_cell? w _ hx104_2)).trans hx104_2
                replace hx104_3:=(HB.out.cell (World.block_lt_of_cell? w _ hx104_3)).trans hx104_3
                replace hx104_4:=(HB.out.cell (World.block_lt_of_cell? w _ hx104_4)).trans hx104_4
                have HR104_4:=zm hi104_4
                have HC104_4:=zm hl104_4
                clear hi104_4 hl104_4
                replace p104:=eq_true p104
                replace q104:=eq_true q104
                have ea_:=Option.some.inj (hx103_4.symm.trans hx104_4)
                injection ea_ with ea_ en_ ec_
                subst ea_
                subst ec_
                clear en_
                have p105:0≤(x4_3:Int):=of_decide_eq_true (by first|(with_reducible assumption)|assumption)
                have q105:x4_3 < (((rd_T104 l0_8 x3_2).f4).length:Int):=of_decide_eq_true (by first|(with_reducible assumption)|assumption)
                obtain⟨ad105,e105,hx105_0,hx105_1⟩:=at_T106 HR104_4.out x4_3 p105 q105
                cases e105
                replace hx105_0:=(HB.out.cell (World.block_lt_of_cell? w _ hx105_0)).trans hx105_0
                replace hx105_1:=(HB.out.cell (World.block_lt_of_cell? w _ hx105_1)).trans hx105_1
                replace p105:=eq_true p105
                replace q105:=eq_true q105
                go_wp2
                go_roundg k3
                case measure=>have:=HJ1.out;have:=HK2.out;have:=HK3.out;omega
                case rel=>exact⟨(wrap64 (x4_3+1)),(by first|rfl|(simp;done)|(simp[*];done)),H',⟨by have:=HJ1.out;have:=HK2.out;have:=HK3.out;omega⟩,⟨by(with_reducible repeat first|apply zd|apply ze|apply za);exact BK101.out⟩,⟨by repeat(first|(with_reducible first|exact HB.out|apply zA|apply zD|apply zE|refine zS ?_ GE101.out)|exact HB.out)⟩⟩
              ·rw[if_neg c16] at H
               exact absurd H (by simp)
             ·rw[if_neg c15] at H
              have c15b0:decide (x4_3 < (((rd_T104 l0_8 x3_2).f4).length:Int))=false:=decide_eq_false c15
              clear c15
              have H':=zm H
              clear H
              have hcz20_0:=zc BK101.out 0 (.string a0_0) rfl
              have hcz20_1:=zc BK101.out 1 (.int .i64 a0_1) rfl
              have hcz20_2:=zc BK101.out 2 (.int .i64 a0_2) rfl
              have hcz20_3:=zc BK101.out 3 (.int .i64 a0_3) rfl
              have hcz20_4:=zc BK101.out 4 (.int .i64 a0_4) rfl
              have hcz20_5:=zc BK101.out 5 (.int .i64 a0_5) rfl
              have hcz20_6:=zc BK101.out 6 (.int .i64 a0_6) rfl
              have hcz20_7:=zc BK101.out 7 (.int .i64 a0_7) rfl
              have hcz20_8:=zc BK101.out 8 (.slice (some ad102) l0_8.length c0_8) rfl
              have hfz20_0:=zf BK101.out 0
              have hfz20_1:=zf BK101.out 1
              have hfz20_2:=zf BK101.out 2
              have hfz20_3:=zf BK101.out 3
              have hfz20_4:=zf BK101.out 4
              have hfz20_5:=zf BK101.out 5
              have hfz20_6:=zf BK101.out 6
              have hfz20_7:=zf BK101.out 7
              have hfz20_8:=zf BK101.out 8
              have p103:0≤(x3_2:Int):=of_decide_eq_true (by first|(with_reducible assumption)|assumption)
              have q103:x3_2 < (l0_8.length:Int):=of_decide_eq_true (by first|(with_reducible assumption)|assumption)
              obtain⟨ad103,A103_4,c103_4,e103,hx103_0,hx103_1,hx103_2,hx103_3,hx103_4,hl103_4,hi103_4⟩:=at_T104 HR0_8.out x3_2 p103 q103
              obtain rfl:ad102=ad103:=(by injection e103)
              replace hx103_0:=(HB.out.cell (World.block_lt_of_cell? w _ hx103_0)).trans hx103_0
              replace hx103_1:=(HB.out.cell (World.block_lt_of_cell? w _ hx103_1)).trans hx103_1
              replace hx103_2:=(HB.out.cell (World.block_lt_of_cell? w _ hx103_2)).trans hx103_2
              replace hx103_3:=(HB.out.cell (World.block_lt_of_cell? w _ hx103_3)).trans hx103_3
              replace hx103_4:=(HB.out.cell (World.block_lt_of_cell? w _ hx103_4)).trans hx103_4
              have HR103_4:=zm hi103_4
              have HC103_4:=zm hl103_4
              clear hi103_4 hl103_4
              replace p103:=eq_true p103
              replace q103:=eq_true q103
              go_wp2
              go_roundg k3
              case measure=>have:=HJ1.out;have:=HK2.out;have:=HK3.out;omega
              case rel=>exact⟨(wrap64 (x3_2+1)),(by first|rfl|(simp;done)|(simp[*];done)),H',⟨by have:=HJ1.out;have:=HK2.out;have:=HK3.out;omega⟩,⟨by(with_reducible repeat first|apply zd|apply ze|apply za);exact BK101.out⟩,⟨by repeat(first|(with_reducible first|exact HB.out|apply zA|apply zD|apply zE|refine zS ?_ GE101.out)|exact HB.out)⟩⟩
            ·rw[if_neg c14] at H
             exact absurd H (by simp)
           ·rw[if_neg c13] at H
            exact absurd H (by simp)
       ·rw[if_neg c9] at H
        exact absurd H (by simp)
      ·rw[if_neg c8] at H
       have c8b0:decide (x3_2 < (l0_8.length:Int))=false:=decide_eq_false c8
       clear c8
       obtain rfl:=Option.some.inj H
       have hcz21_0:=zc BK101.out 0 (.string a0_0) rfl
       have hcz21_1:=zc BK101.out 1 (.int .i64 a0_1) rfl
       have hcz21_2:=zc BK101.out 2 (.int .i64 a0_2) rfl
       have hcz21_3:=zc BK101.out 3 (.int .i64 a0_3) rfl
       have hcz21_4:=zc BK101.out 4 (.int .i64 a0_4) rfl
       have hcz21_5:=zc BK101.out 5 (.int .i64 a0_5) rfl
       have hcz21_6:=zc BK101.out 6 (.int .i64 a0_6) rfl
       have hcz21_7:=zc BK101.out 7 (.int .i64 a0_7) rfl
       have hcz21_8:=zc BK101.out 8 (.slice A0_8 l0_8.length c0_8) rfl
       have hfz21_0:=zf BK101.out 0
       have hfz21_1:=zf BK101.out 1
       have hfz21_2:=zf BK101.out 2
       have hfz21_3:=zf BK101.out 3
       have hfz21_4:=zf BK101.out 4
       have hfz21_5:=zf BK101.out 5
       have hfz21_6:=zf BK101.out 6
       have hfz21_7:=zf BK101.out 7
       have hfz21_8:=zf BK101.out 8
       go_wp2
       go_ret
       exact⟨by first|rfl|(simp[errW_none,errW_some]<;>rfl)|(simp[*,errW_none,errW_some]<;>rfl),by repeat(first|(with_reducible first|exact HB.out|apply zA|apply zD|apply zE|refine zS ?_ GE101.out)|exact HB.out)⟩
def mq_In.f (a0:Int):Option (Bool):=if a0≥(-100000) then(some (decide (a0≤100000))) else(some false)
set_option maxHeartbeats 8000000 in
set_option maxRecDepth 100000 in
theorem mq_In.calls (a0:Int) (r:Bool) (w:World) (h:mq_In.f a0=some r):
    Calls Try.prog 66 #[.int .i64 a0] w fun e w'=>e=.returned (.bool r)∧Drawn0 w w':=by
  have H:(if a0≥(-100000) then(some (decide (a0≤100000))) else(some false))=some r:=h
  clear h
  by_cases c2:a0≥(-100000)
  · rw[if_pos c2] at H
    have c2b0:decide ((-100000)≤a0)=true:=decide_eq_true c2
    clear c2
    obtain rfl:=Option.some.inj H
    go_enter Try.func66,Try.ntmps66
    go_wp2
    go_ret
    exact⟨by first|rfl|(simp;done)|(simp[*];done),by repeat(first|exact Drawn0.refl _|apply Drawn0.step)⟩
  · rw[if_neg c2] at H
    have c2b0:decide ((-100000)≤a0)=false:=decide_eq_false c2
    clear c2
    obtain rfl:=Option.some.inj H
    go_enter Try.func66,Try.ntmps66
    go_wp2
    go_ret
    exact⟨by first|rfl|(simp;done)|(simp[*];done),by repeat(first|exact Drawn0.refl _|apply Drawn0.step)⟩
def mq_Check.j0:Nat→Bool→Int→Int→Option (Int)
  | 0,_,_,_=>none
  | k+1,x12,x152000,x152001=>if x12=true then(some 2) else(if x152000 > x152001 then(some 9) else(some 0))
def mq_Check.f (k:Nat) (a0_0 a0_1:Int):Option (Int):=(mq_In.f a0_0).bind fun t152=>(if t152=true then((mq_In.f a0_1).bind fun t153=>(mq_Check.j0 k (!t153) a0_0 a0_1)) else(mq_Check.j0 k true a0_0 a0_1))
theorem mq_Check.mono_l:∀ k,(∀ y0 y1 y2,LeO (mq_Check.j0 k y0 y1 y2) (mq_Check.j0 (k+1) y0 y1 y2))
 | 0=>fun _ _ _ r h=>by simp[mq_Check.j0] at h
 | k+1=>by
  have ih0:=mq_Check.mono_l k
  ·intro y0 y1 y2
   unfold mq_Check.j0
   repeat' first
   | (with_reducible exact ih0 _ _ _)
   | (with_reducible exact LeO.refl _)
   | (with_reducible exact LeO.none _)
   | (with_reducible refine LeO.ite ?_ ?_)
   | (with_reducible refine LeO.bind ?_ (fun _=>?_))
   | exact ih0 _ _ _
   | exact LeO.none _
   | refine LeO.ite ?_ ?_
   | refine LeO.bind ?_ (fun _=>?_)
theorem mq_Check.mono:∀ a0 a1 k,LeO (mq_Check.f k a0 a1) (mq_Check.f (k+1) a0 a1):=by
 intro a0 a1 k
 have ih0:=mq_Check.mono_l k
 unfold mq_Check.f
 repeat' first
  | (with_reducible exact ih0 _ _ _)
  | (with_reducible exact LeO.refl _)
  | (with_reducible exact LeO.none _)
  | (with_reducible refine LeO.ite ?_ ?_)
  | (with_reducible refine LeO.bind ?_ (fun _=>?_))
  | exact ih0 _ _ _
  | exact LeO.none _
  | refine LeO.ite ?_ ?_
  | refine LeO.bind ?_ (fun _=>?_)
set_option maxHeartbeats 8000000 in
set_option maxRecDepth 100000 in
theorem mq_Check.calls (k:Nat) (a0_0 a0_1 r:Int) (w:World) (h:mq_Check.f k a0_0 a0_1=some r):
 Calls Try.prog 33 #[.agg #[.int .i64 a0_0,.int .i64 a0_1]] w fun e w'=>e=.returned (.int .i64 r)∧Below w.heap.size w w':=by
 have hu25:=Try.underlying25
 have HB:=zm (Below.refl w.heap.size w)
 have H:((mq_In.f a0_0).bind fun t152=>(if t152=true then((mq_In.f a0_1).bind fun t153=>(mq_Check.j0 k (!t153) a0_0 a0_1)) else(mq_Check.j0 k true a0_0 a0_1)))=some r:=h
 clear h
 have HC2:=zm H
 clear H
 go_enter Try.func33,Try.ntmps33
 go_upto_region 1 with (first|((with_reducible refine gate_dst (N:=1) rfl ?_);refine box_event ?hg (N:=1) ?hd (cs:=#[.int .i64 a0_0,.int .i64 a0_1]) (t:=25) ?hr ?_;(case hd=>rfl);(case hg=>rfl);(case hr=>first|(go_simp;done)|(go_simp;rfl));intro gb151 hg w3 hbox hb;have n0_:=zm (below_step (by repeat(first|(with_reducible first|exact HB.out|apply zA|apply zD|apply zE)|exact HB.out)) hb);have n1_:=zm (hbox);have n2_:=zm ((by rw[hg];exact(below_size (by repeat(first|(with_reducible first|exact HB.out|apply zA|apply zD|apply zE)|exact HB.out))):w.heap.size≤gb151));have n3_:=zm ((by rw[hg];exact(below_size (by repeat(first|(with_reducible first|exact HB.out|apply zA|apply zD|apply zE)|exact HB.out))):w.heap.size≤gb151));clear HB;have HB:=n0_;have BK151:=n1_;have GW151:=n2_;have GE151:=n3_;clear n0_ n1_ n2_ n3_;clear hb hbox hg))
 (try simp only[Act.put,zx,zy,zz])
 go_cut [12] (fun v12 wc=>∃(kq:Nat) (x12_1:Bool),v12=.bool x12_1∧Aside0 (mq_Check.j0 kq x12_1 a0_0 a0_1=some r)∧Aside0 (kq≤k)∧Aside0 (wc.heap[gb151]?=some (.cells #[.int .i64 a0_0,.int .i64 a0_1] 25 (0,0)))∧Aside0 (Below w.heap.size w wc))
 case first=>
  have H:=HC2.out
  clear HC2
  replace H:=Option.bind_eq_some_iff.mp H
  obtain⟨t152,A40,H⟩:=H
  replace H:(if t152=true then((mq_In.f a0_1).bind fun t153=>(mq_Check.j0 k (!t153) a0_0 a0_1)) else(mq_Check.j0 k true a0_0 a0_1))=some r:=H
  have A4:=zm A40
  clear A40
  by_cases c5:t152=true
  ·subst c5
   have H1:((mq_In.f a0_1).bind fun t153=>(mq_Check.j0 k (!t153) a0_0 a0_1))=some r:=by rw[if_pos rfl] at H;exact H
   clear H
   have H:=H1
   clear H1
   replace H:=Option.bind_eq_some_iff.mp H
   obtain⟨t153,A60,H⟩:=H
   replace H:(mq_Check.j0 k (!t153) a0_0 a0_1)=some r:=H
   have A6:=zm A60
   clear A60
   have H':=zm H
   clear H
   have hcz7_0:=zc BK151.out 0 (.int .i64 a0_0) rfl
   have hcz7_1:=zc BK151.out 1 (.int .i64 a0_1) rfl
   have hfz7_0:=zf BK151.out 0
   have hfz7_1:=zf BK151.out 1
   go_wp2_with (first|((with_reducible refine gate_callee (f:=66) rfl ?_);refine goesL_ (some 5) rfl rfl Try.func66 (by kernel_rfl) rfl #[.int .i64 a0_0] rfl (by(try simp only[List.map_toArray,List.map_cons,List.map_nil]);first|done|rfl|(simp only[List.length_drop,List.length_take];rfl)) ?_;(with_reducible refine(mq_In.calls a0_0 true _ A4.out).mono ?_);rintro e w' ⟨rfl,⟨nd,rfl⟩⟩;refine⟨_,rfl,?_⟩)|(go_at_call 66;(with_reducible refine(mq_In.calls a0_1 t153 _ A6.out).mono ?_);rintro e w' ⟨rfl,⟨nd,rfl⟩⟩))
   go_meet
   case rel=>exact⟨_,(!t153),(by first|rfl|(simp;done)|(simp[*];done)),H',⟨by first|omega|exact Nat.le_refl _⟩,⟨by(with_reducible repeat first|apply zd|apply ze|apply za);exact BK151.out⟩,⟨by repeat(first|(with_reducible first|exact HB.out|apply zA|apply zD|apply zE|refine zS ?_ GE151.out)|exact HB.out)⟩⟩
  ·replace c5:=Bool.eq_false_iff.mpr c5
   subst c5
   have H1:(mq_Check.j0 k true a0_0 a0_1)=some r:=by rw[if_neg (show ¬(false=true) by decide)] at H;exact H
   clear H
   have H:=H1
   clear H1
   have H':=zm H
   clear H
   have hcz8_0:=zc BK151.out 0 (.int .i64 a0_0) rfl
   have hcz8_1:=zc BK151.out 1 (.int .i64 a0_1) rfl
   have hfz8_0:=zf BK151.out 0
   have hfz8_1:=zf BK151.out 1
   go_wp2_with (first|((with_reducible refine gate_callee (f:=66) rfl ?_);refine goesL_ (some 5) rfl rfl Try.func66 (by kernel_rfl) rfl #[.int .i64 a0_0] rfl (by(try simp only[List.map_toArray,List.map_cons,List.map_nil]);first|done|rfl|(simp only[List.length_drop,List.length_take];rfl)) ?_;(with_reducible refine(mq_In.calls a0_0 false _ A4.out).mono ?_);rintro e w' ⟨rfl,⟨nd,rfl⟩⟩;refine⟨_,rfl,?_⟩))
   go_meet
   case rel=>exact⟨_,(true),(by first|rfl|(simp;done)|(simp[*];done)),H',⟨by first|omega|exact Nat.le_refl _⟩,⟨by(with_reducible repeat first|apply zd|apply ze|apply za);exact BK151.out⟩,⟨by repeat(first|(with_reducible first|exact HB.out|apply zA|apply zD|apply zE|refine zS ?_ GE151.out)|exact HB.out)⟩⟩
 case rest=>
  clear HC2
  try clear p2
  try clear c3
  try clear c5
  try clear c6
  try clear hcz7_0
  try clear hcz7_1
  try clear hcz8_0
  try clear hcz8_1
  try clear hfz7_0
  try clear hfz7_1
  try clear hfz8_0
  try clear hfz8_1
  obtain⟨kq,x12_1,rfl,HA,HJ1,BK151,HB⟩:=hcut
  cases kq with
  | zero=>exact absurd HA.out (by simp[mq_Check.j0])
  | succ kj1=>
   have H:=HA.out
   clear HA
   simp only[mq_Check.j0] at H
   by_cases c9:x12_1=true
   ·subst c9
    have H1:(some 2)=some r:=by rw[if_pos rfl] at H;exact H
    clear H
    have H:=H1
    clear H1
    obtain rfl:=Option.some.inj H
    go_wp2
    go_ret
    exact⟨by first|rfl|(simp[errW_none,errW_some]<;>rfl)|(simp[*,errW_none,errW_some]<;>rfl),by repeat(first|(with_reducible first|exact HB.out|apply zA|apply zD|apply zE|refine zS ?_ GE151.out)|exact HB.out)⟩
   ·replace c9:=Bool.eq_false_iff.mpr c9
    subst c9
    have H1:(if a0_0 > a0_1 then(some 9) else(some 0))=some r:=by rw[if_neg (show ¬(false=true) by decide)] at H;exact H
    clear H
    have H:=H1
    clear H1
    by_cases c10:a0_0 > a0_1
    ·rw[if_pos c10] at H
     have c10b0:decide (a0_1 < a0_0)=true:=decide_eq_true c10
     clear c10
     obtain rfl:=Option.some.inj H
     have hcz11_0:=zc BK151.out 0 (.int .i64 a0_0) rfl
     have hcz11_1:=zc BK151.out 1 (.int .i64 a0_1) rfl
     have hfz11_0:=zf BK151.out 0
     have hfz11_1:=zf BK151.out 1
     go_wp2
     go_ret
     exact⟨by first|rfl|(simp[errW_none,errW_some]<;>rfl)|(simp[*,errW_none,errW_some]<;>rfl),by repeat(first|(with_reducible first|exact HB.out|apply zA|apply zD|apply zE|refine zS ?_ GE151.out)|exact HB.out)⟩
    ·rw[if_neg c10] at H
     have c10b0:decide (a0_1 < a0_0)=false:=decide_eq_false c10
     clear c10
     obtain rfl:=Option.some.inj H
     have hcz12_0:=zc BK151.out 0 (.int .i64 a0_0) rfl
     have hcz12_1:=zc BK151.out 1 (.int .i64 a0_1) rfl
     have hfz12_0:=zf BK151.out 0
     have hfz12_1:=zf BK151.out 1
     go_wp2
     go_ret
     exact⟨by first|rfl|(simp[errW_none,errW_some]<;>rfl)|(simp[*,errW_none,errW_some]<;>rfl),by repeat(first|(with_reducible first|exact HB.out|apply zA|apply zD|apply zE|refine zS ?_ GE151.out)|exact HB.out)⟩
def mq_letter.f (a0:Int):Option (Bool):=if a0≥97 then(if a0≤122 then(some true) else(if a0≥65 then(some (decide (a0≤90))) else(some false))) else(if a0≥65 then(some (decide (a0≤90))) else(some false))
set_option maxHeartbeats 8000000 in
set_option maxRecDepth 100000 in
theorem mq_letter.calls (a0:Int) (r:Bool) (w:World) (h:mq_letter.f a0=some r):
    Calls Try.prog 118 #[.int .u8 a0] w fun e w'=>e=.returned (.bool r)∧Drawn0 w w':=by
  have H:(if a0≥97 then(if a0≤122 then(some true) else(if a0≥65 then(some (decide (a0≤90))) else(some false))) else(if a0≥65 then(some (decide (a0≤90))) else(some false)))=some r:=h
  clear h
  by_cases c2:a0≥97
  · rw[if_pos c2] at H
    have c2b0:decide (97≤a0)=true:=decide_eq_true c2
    clear c2
    by_cases c3:a0≤122
    · rw[if_pos c3] at H
      have c3b0:decide (a0≤122)=true:=decide_eq_true c3
      clear c3
      obtain rfl:=Option.some.inj H
      go_enter Try.func118,Try.ntmps118
      go_wp2
      go_ret
      exact⟨by first|rfl|(simp;done)|(simp[*];done),by repeat(first|exact Drawn0.refl _|apply Drawn0.step)⟩
    · rw[if_neg c3] at H
      have c3b0:decide (a0≤122)=false:=decide_eq_false c3
      clear c3
      by_cases c4:a0≥65
      · rw[if_pos c4] at H
        have c4b0:decide (65≤a0)=true:=decide_eq_true c4
        clear c4
        obtain rfl:=Option.some.inj H
        go_enter Try.func118,Try.ntmps118
        go_wp2
        go_ret
        exact⟨by first|rfl|(simp;done)|(simp[*];done),by repeat(first|exact Drawn0.refl _|apply Drawn0.step)⟩
      · rw[if_neg c4] at H
        have c4b0:decide (65≤a0)=false:=decide_eq_false c4
        clear c4
        obtain rfl:=Option.some.inj H
        go_enter Try.func118,Try.ntmps118
        go_wp2
        go_ret
        exact⟨by first|rfl|(simp;done)|(simp[*];done),by repeat(first|exact Drawn0.refl _|apply Drawn0.step)⟩
  · rw[if_neg c2] at H
    have c2b0:decide (97≤a0)=false:=decide_eq_false c2
    clear c2
    by_cases c5:a0≥65
    · rw[if_pos c5] at H
      have c5b0:decide (65≤a0)=true:=decide_eq_true c5
      clear c5
      obtain rfl:=Option.some.inj H
      go_enter Try.func118,Try.ntmps118
      go_wp2
      go_ret
      exact⟨by first|rfl|(simp;done)|(simp[*];done),by repeat(first|exact Drawn0.refl _|apply Drawn0.step)⟩
    · rw[if_neg c5] at H
      have c5b0:decide (65≤a0)=false:=decide_eq_false c5
      clear c5
      obtain rfl:=Option.some.inj H
      go_enter Try.func118,Try.ntmps118
      go_wp2
      go_ret
      exact⟨by first|rfl|(simp;done)|(simp[*];done),by repeat(first|exact Drawn0.refl _|apply Drawn0.step)⟩
mutual
def mq_Name.j0:Nat→ByteArray→Bool→Option (Int)
  | 0,_,_=>none
  | k+1,x0,x15=>if x15=true then(some 3) else(mq_Name.l0 k x0 0)
def mq_Name.l0:Nat→ByteArray→Int→Option (Int)
  | 0,_,_=>none
  | k+1,x0,x3=>if x3 < (x0.size:Int) then(if 0≤x3 then((mq_letter.f (bt x0 x3)).bind fun t155=>(if t155=true then(mq_Name.l0 k x0 (wrap64 (x3+1))) else(if(bt x0 x3) < 48 then(some 3) else(if(bt x0 x3) > 57 then(some 3) else(mq_Name.l0 k x0 (wrap64 (x3+1))))))) else(none)) else(some 0)
end
def mq_Name.f (k:Nat) (a0:ByteArray):Option (Int):=if(a0.size:Int) > 24 then(some 17) else(if(a0.size:Int)=0 then(mq_Name.j0 k a0 true) else(if 0 < (a0.size:Int) then((mq_letter.f (bt a0 0)).bind fun t154=>(mq_Name.j0 k a0 (!t154))) else(none)))
theorem mq_Name.mono_l:∀ k,(∀ y0 y1,LeO (mq_Name.j0 k y0 y1) (mq_Name.j0 (k+1) y0 y1))∧(∀ y0 y1,LeO (mq_Name.l0 k y0 y1) (mq_Name.l0 (k+1) y0 y1))
 | 0=>⟨fun _ _ r h=>by simp[mq_Name.j0] at h,fun _ _ r h=>by simp[mq_Name.l0] at h⟩
 | k+1=>by
  obtain⟨ih0,ih1⟩:=mq_Name.mono_l k
  refine⟨?_,?_⟩
  ·intro y0 y1
   unfold mq_Name.j0
   repeat' first
   | (with_reducible exact ih0 _ _)
   | (with_reducible exact ih1 _ _)
   | (with_reducible exact LeO.refl _)
   | (with_reducible exact LeO.none _)
   | (with_reducible refine LeO.ite ?_ ?_)
   | (with_reducible refine LeO.bind ?_ (fun _=>?_))
   | exact ih0 _ _
   | exact ih1 _ _
   | exact LeO.none _
   | refine LeO.ite ?_ ?_
   | refine LeO.bind ?_ (fun _=>?_)
  ·intro y0 y1
   unfold mq_Name.l0
   repeat' first
   | (with_reducible exact ih0 _ _)
   | (with_reducible exact ih1 _ _)
   | (with_reducible exact LeO.refl _)
   | (with_reducible exact LeO.none _)
   | (with_reducible refine LeO.ite ?_ ?_)
   | (with_reducible refine LeO.bind ?_ (fun _=>?_))
   | exact ih0 _ _
   | exact ih1 _ _
   | exact LeO.none _
   | refine LeO.ite ?_ ?_
   | refine LeO.bind ?_ (fun _=>?_)
theorem mq_Name.mono:∀ a0 k,LeO (mq_Name.f k a0) (mq_Name.f (k+1) a0):=by
 intro a0 k
 obtain⟨ih0,ih1⟩:=mq_Name.mono_l k
 unfold mq_Name.f
 repeat' first
  | (with_reducible exact ih0 _ _)
  | (with_reducible exact ih1 _ _)
  | (with_reducible exact LeO.refl _)
  | (with_reducible exact LeO.none _)
  | (with_reducible refine LeO.ite ?_ ?_)
  | (with_reducible refine LeO.bind ?_ (fun _=>?_))
  | exact ih0 _ _
  | exact ih1 _ _
  | exact LeO.none _
  | refine LeO.ite ?_ ?_
  | refine LeO.bind ?_ (fun _=>?_)
set_option maxHeartbeats 8000000 in
set_option maxRecDepth 100000 in
theorem mq_Name.calls (k:Nat) (a0:ByteArray) (r:Int) (w:World) (h:mq_Name.f k a0=some r):
 Calls Try.prog 83 #[.string a0] w fun e w'=>e=.returned (.int .i64 r)∧Drawn0 w w':=by
 have H:(if(a0.size:Int) > 24 then(some 17) else(if(a0.size:Int)=0 then(mq_Name.j0 k a0 true) else(if 0 < (a0.size:Int) then((mq_letter.f (bt a0 0)).bind fun t154=>(mq_Name.j0 k a0 (!t154))) else(none))))=some r:=h
 clear h
 by_cases c2:(a0.size:Int) > 24
 ·rw[if_pos c2] at H
  have c2b0:decide (24 < (a0.size:Int))=true:=decide_eq_true c2
  have c2b1:decide (24 < a0.size)=true:=decide_eq_true (by omega)
  clear c2
  obtain rfl:=Option.some.inj H
  go_enter Try.func83,Try.ntmps83
  go_wp2
  go_ret
  exact⟨by first|rfl|(simp;done)|(simp[*];done),by repeat(first|exact Drawn0.refl _|apply Drawn0.step)⟩
 ·rw[if_neg c2] at H
  have c2b0:decide (24 < (a0.size:Int))=false:=decide_eq_false c2
  have c2b1:decide (24 < a0.size)=false:=decide_eq_false (by omega)
  clear c2
  have HC3:=zm H
  clear H
  go_enter Try.func83,Try.ntmps83
  go_upto_region 3 with (fail)
  go_cut [15] (fun v15 wc=>∃(kq:Nat) (x15_2:Bool),v15=.bool x15_2∧Aside0 (mq_Name.j0 kq a0 x15_2=some r)∧Aside0 (kq≤k)∧Drawn0 w wc)
  case first=>
   have H:=HC3.out
   clear HC3
   by_cases c4:(a0.size:Int)=0
   ·rw[if_pos c4] at H
    have c4b0:((a0.size:Int)==0)=true:=beq_iff_eq.mpr c4
    have c4b1:((a0.size:Int) != 0)=false:=bne_eq_false_iff_eq.mpr c4
    clear c4
    (first|rw[c4b0]|(simp only[i64_w,i32_w];rw[c4b0])|(rw[c4b2];try simp only[Bool.not_true,Bool.not_false])|skip)
    have H':=zm H
    clear H
    go_wp2
    go_meet
    case rel=>exact⟨_,(true),(by first|rfl|(simp;done)|(simp[*];done)),H',⟨by first|omega|exact Nat.le_refl _⟩,by repeat(first|exact Drawn0.refl _|apply Drawn0.step)⟩
   ·rw[if_neg c4] at H
    have c4b0:((a0.size:Int)==0)=false:=beq_eq_false_iff_ne.mpr c4
    have c4b1:((a0.size:Int) != 0)=true:=bne_iff_ne.mpr c4
    (first|rw[c4b0]|(simp only[i64_w,i32_w];rw[c4b0])|(rw[c4b2];try simp only[Bool.not_true,Bool.not_false])|skip)
    by_cases c5:0 < (a0.size:Int)
    ·rw[if_pos c5] at H
     have c5b0:decide (0 < (a0.size:Int))=true:=decide_eq_true c5
     have c5b1:decide (0 < a0.size)=true:=decide_eq_true (by omega)
     clear c5
     replace H:=Option.bind_eq_some_iff.mp H
     obtain⟨t154,A70,H⟩:=H
     replace H:(mq_Name.j0 k a0 (!t154))=some r:=H
     have A7:=zm A70
     clear A70
     have H':=zm H
     clear H
     have p6:0≤(0:Int):=(by omega)
     have q6:0 < a0.size:=(by have:(0:Int) < (a0.size:Int):=of_decide_eq_true (by first|(with_reducible assumption)|assumption);omega)
     have hx6:∀ h:0 < a0.size,((a0[0]'h).toNat:Int)=bt a0 0:=bt_at a0 0
     clear p6
     have qi6:(0 < (a0.size:Int))=True:=eq_true (of_decide_eq_true (by first|(with_reducible assumption)|assumption))
     replace q6:=eq_true q6
     go_wp2_with (first|(go_at_call 118;(with_reducible refine(mq_letter.calls (bt a0 0) t154 _ A7.out).mono ?_);rintro e w' ⟨rfl,⟨nd,rfl⟩⟩))
     go_meet
     case rel=>exact⟨_,(!t154),(by first|rfl|(simp;done)|(simp[*];done)),H',⟨by first|omega|exact Nat.le_refl _⟩,by repeat(first|exact Drawn0.refl _|apply Drawn0.step)⟩
    ·rw[if_neg c5] at H
     exact absurd H (by simp)
  case rest=>
   clear HC3
   try clear c2
   try clear c2b0
   try clear c2b1
   try clear p2
   try clear c4
   try clear c4b0
   try clear c4b1
   try clear c4b2
   try clear c5
   try clear c5b0
   try clear c5b1
   try clear p6
   try clear q6
   try clear hx6
   try clear qi6
   try clear p6
   try clear q6
   obtain⟨kq,x15_2,rfl,HA,HJ2,⟨mc2,rfl⟩⟩:=hcut
   cases kq with
   | zero=>exact absurd HA.out (by simp[mq_Name.j0])
   | succ kj2=>
    have H:=HA.out
    clear HA
    simp only[mq_Name.j0] at H
    by_cases c8:x15_2=true
    ·subst c8
     have H1:(some 3)=some r:=by rw[if_pos rfl] at H;exact H
     clear H
     have H:=H1
     clear H1
     obtain rfl:=Option.some.inj H
     go_wp2
     go_ret
     exact⟨by first|rfl|(simp;done)|(simp[*];done),by repeat(first|exact Drawn0.refl _|apply Drawn0.step)⟩
    ·replace c8:=Bool.eq_false_iff.mpr c8
     subst c8
     have H1:(mq_Name.l0 kj2 a0 0)=some r:=by rw[if_neg (show ¬(false=true) by decide)] at H;exact H
     clear H
     have H:=H1
     clear H1
     have H':=zm H
     clear H
     go_wp2
     go_loopg [3] kj2 (fun kq v3 w'=>∃(x3_2:Int),v3=.int .i64 x3_2∧Aside0 (mq_Name.l0 kq a0 x3_2=some r)∧Aside0 (kq≤kj2)∧Drawn0 w w')
     case atStart=>exact⟨(0),(by first|rfl|(simp;done)|(simp[*];done)),H',⟨Nat.le_refl _⟩,by repeat(first|exact Drawn0.refl _|apply Drawn0.step)⟩
     case round=>
      clear H'
      try clear c2
      try clear c2b0
      try clear c2b1
      try clear p2
      try clear c4
      try clear c4b0
      try clear c4b1
      try clear c4b2
      try clear c5
      try clear c5b0
      try clear c5b1
      try clear p6
      try clear q6
      try clear hx6
      try clear qi6
      try clear c8
      try clear p2
      try clear p6
      try clear q6
      obtain⟨x3_2,rfl,HA,HK2,⟨m2,rfl⟩⟩:=hrel
      cases gk with
      | zero=>exact absurd HA.out (by simp[mq_Name.l0])
      | succ k2=>
       have H:=HA.out
       clear HA
       simp only[mq_Name.l0] at H
       by_cases c9:x3_2 < (a0.size:Int)
       ·rw[if_pos c9] at H
        have c9b0:decide (x3_2 < (a0.size:Int))=true:=decide_eq_true c9
        clear c9
        by_cases c10:0≤x3_2
        ·rw[if_pos c10] at H
         have c10b0:decide (0≤x3_2)=true:=decide_eq_true c10
         clear c10
         replace H:=Option.bind_eq_some_iff.mp H
         obtain⟨t155,A120,H⟩:=H
         replace H:(if t155=true then(mq_Name.l0 k2 a0 (wrap64 (x3_2+1))) else(if(bt a0 x3_2) < 48 then(some 3) else(if(bt a0 x3_2) > 57 then(some 3) else(mq_Name.l0 k2 a0 (wrap64 (x3_2+1))))))=some r:=H
         have A12:=zm A120
         clear A120
         by_cases c13:t155=true
         ·subst c13
          have H1:(mq_Name.l0 k2 a0 (wrap64 (x3_2+1)))=some r:=by rw[if_pos rfl] at H;exact H
          clear H
          have H:=H1
          clear H1
          have H':=zm H
          clear H
          have p11:0≤(x3_2:Int):=of_decide_eq_true (by first|(with_reducible assumption)|assumption)
          have q11:x3_2 < (a0.size:Int):=of_decide_eq_true (by first|(with_reducible assumption)|assumption)
          have hx11:=bt_at a0 x3_2
          replace p11:=eq_true p11
          replace q11:=eq_true q11
          go_wp2_with (first|((with_reducible refine gate_callee (f:=118) rfl ?_);refine goesL_ (some 25) rfl rfl Try.func118 (by kernel_rfl) rfl #[.int .u8 (bt a0 x3_2)] rfl (by(try simp only[List.map_toArray,List.map_cons,List.map_nil]);first|done|rfl|(simp only[List.length_drop,List.length_take];rfl)) ?_;(with_reducible refine(mq_letter.calls (bt a0 x3_2) true _ A12.out).mono ?_);rintro e w' ⟨rfl,⟨nd,rfl⟩⟩;refine⟨_,rfl,?_⟩))
          go_roundg k2
          case measure=>have:=HJ2.out;have:=HK2.out;omega
          case rel=>exact⟨(wrap64 (x3_2+1)),(by first|rfl|(simp;done)|(simp[*];done)),H',⟨by have:=HJ2.out;have:=HK2.out;omega⟩,by repeat(first|exact Drawn0.refl _|apply Drawn0.step)⟩
         ·replace c13:=Bool.eq_false_iff.mpr c13
          subst c13
          have H1:(if(bt a0 x3_2) < 48 then(some 3) else(if(bt a0 x3_2) > 57 then(some 3) else(mq_Name.l0 k2 a0 (wrap64 (x3_2+1)))))=some r:=by rw[if_neg (show ¬(false=true) by decide)] at H;exact H
          clear H
          have H:=H1
          clear H1
          by_cases c15:(bt a0 x3_2) < 48
          ·rw[if_pos c15] at H
           have c15b0:decide ((bt a0 x3_2) < 48)=true:=decide_eq_true c15
           clear c15
           obtain rfl:=Option.some.inj H
           have p11:0≤(x3_2:Int):=of_decide_eq_true (by first|(with_reducible assumption)|assumption)
           have q11:x3_2 < (a0.size:Int):=of_decide_eq_true (by first|(with_reducible assumption)|assumption)
           have hx11:=bt_at a0 x3_2
           replace p11:=eq_true p11
           replace q11:=eq_true q11
           go_wp2_with (first|((with_reducible refine gate_callee (f:=118) rfl ?_);refine goesL_ (some 25) rfl rfl Try.func118 (by kernel_rfl) rfl #[.int .u8 (bt a0 x3_2)] rfl (by(try simp only[List.map_toArray,List.map_cons,List.map_nil]);first|done|rfl|(simp only[List.length_drop,List.length_take];rfl)) ?_;(with_reducible refine(mq_letter.calls (bt a0 x3_2) false _ A12.out).mono ?_);rintro e w' ⟨rfl,⟨nd,rfl⟩⟩;refine⟨_,rfl,?_⟩;have p14:0≤(x3_2:Int):=of_decide_eq_true (by first|(with_reducible assumption)|assumption);have q14:x3_2 < (a0.size:Int):=of_decide_eq_true (by first|(with_reducible assumption)|assumption);have hx14:=bt_at a0 x3_2;replace p14:=eq_true p14;replace q14:=eq_true q14))
           go_ret
           exact⟨by first|rfl|(simp;done)|(simp[*];done),by repeat(first|exact Drawn0.refl _|apply Drawn0.step)⟩
          ·rw[if_neg c15] at H
           have c15b0:decide ((bt a0 x3_2) < 48)=false:=decide_eq_false c15
           clear c15
           by_cases c17:(bt a0 x3_2) > 57
           ·rw[if_pos c17] at H
            have c17b0:decide (57 < (bt a0 x3_2))=true:=decide_eq_true c17
            clear c17
            obtain rfl:=Option.some.inj H
            have p11:0≤(x3_2:Int):=of_decide_eq_true (by first|(with_reducible assumption)|assumption)
            have q11:x3_2 < (a0.size:Int):=of_decide_eq_true (by first|(with_reducible assumption)|assumption)
            have hx11:=bt_at a0 x3_2
            replace p11:=eq_true p11
            replace q11:=eq_true q11
            go_wp2_with (first|((with_reducible refine gate_callee (f:=118) rfl ?_);refine goesL_ (some 25) rfl rfl Try.func118 (by kernel_rfl) rfl #[.int .u8 (bt a0 x3_2)] rfl (by(try simp only[List.map_toArray,List.map_cons,List.map_nil]);first|done|rfl|(simp only[List.length_drop,List.length_take];rfl)) ?_;(with_reducible refine(mq_letter.calls (bt a0 x3_2) false _ A12.out).mono ?_);rintro e w' ⟨rfl,⟨nd,rfl⟩⟩;refine⟨_,rfl,?_⟩;have p14:0≤(x3_2:Int):=of_decide_eq_true (by first|(with_reducible assumption)|assumption);have q14:x3_2 < (a0.size:Int):=of_decide_eq_true (by first|(with_reducible assumption)|assumption);have hx14:=bt_at a0 x3_2;replace p14:=eq_true p14;replace q14:=eq_true q14;have p16:0≤(x3_2:Int):=of_decide_eq_true (by first|(with_reducible assumption)|assumption);have q16:x3_2 < (a0.size:Int):=of_decide_eq_true (by first|(with_reducible assumption)|assumption);have hx16:=bt_at a0 x3_2;replace p16:=eq_true p16;replace q16:=eq_true q16))
            go_ret
            exact⟨by first|rfl|(simp;done)|(simp[*];done),by repeat(first|exact Drawn0.refl _|apply Drawn0.step)⟩
           ·rw[if_neg c17] at H
            have c17b0:decide (57 < (bt a0 x3_2))=false:=decide_eq_false c17
            clear c17
            have H':=zm H
            clear H
            have p11:0≤(x3_2:Int):=of_decide_eq_true (by first|(with_reducible assumption)|assumption)
            have q11:x3_2 < (a0.size:Int):=of_decide_eq_true (by first|(with_reducible assumption)|assumption)
            have hx11:=bt_at a0 x3_2
            replace p11:=eq_true p11
            replace q11:=eq_true q11
            go_wp2_with (first|((with_reducible refine gate_callee (f:=118) rfl ?_);refine goesL_ (some 25) rfl rfl Try.func118 (by kernel_rfl) rfl #[.int .u8 (bt a0 x3_2)] rfl (by(try simp only[List.map_toArray,List.map_cons,List.map_nil]);first|done|rfl|(simp only[List.length_drop,List.length_take];rfl)) ?_;(with_reducible refine(mq_letter.calls (bt a0 x3_2) false _ A12.out).mono ?_);rintro e w' ⟨rfl,⟨nd,rfl⟩⟩;refine⟨_,rfl,?_⟩;have p14:0≤(x3_2:Int):=of_decide_eq_true (by first|(with_reducible assumption)|assumption);have q14:x3_2 < (a0.size:Int):=of_decide_eq_true (by first|(with_reducible assumption)|assumption);have hx14:=bt_at a0 x3_2;replace p14:=eq_true p14;replace q14:=eq_true q14;have p16:0≤(x3_2:Int):=of_decide_eq_true (by first|(with_reducible assumption)|assumption);have q16:x3_2 < (a0.size:Int):=of_decide_eq_true (by first|(with_reducible assumption)|assumption);have hx16:=bt_at a0 x3_2;replace p16:=eq_true p16;replace q16:=eq_true q16))
            go_roundg k2
            case measure=>have:=HJ2.out;have:=HK2.out;omega
            case rel=>exact⟨(wrap64 (x3_2+1)),(by first|rfl|(simp;done)|(simp[*];done)),H',⟨by have:=HJ2.out;have:=HK2.out;omega⟩,by repeat(first|exact Drawn0.refl _|apply Drawn0.step)⟩
        ·rw[if_neg c10] at H
         exact absurd H (by simp)
       ·rw[if_neg c9] at H
        have c9b0:decide (x3_2 < (a0.size:Int))=false:=decide_eq_false c9
        clear c9
        obtain rfl:=Option.some.inj H
        go_wp2
        go_ret
        exact⟨by first|rfl|(simp;done)|(simp[*];done),by repeat(first|exact Drawn0.refl _|apply Drawn0.step)⟩
end Go.Proofs.Ytkgdlbepjmgaiaa.Fea
namespace Go.Proofs.Ytkgdlbepjmgaiaa.Fea
open Go.RowKit YtkgdlbepjmgaiaaW.PrintWords YtkgdlbepjmgaiaaW.PrintLast YtkgdlbepjmgaiaaW.PrintMore
attribute [local go_sem] max2_int min2_int max_two min_two max_three min_three max_four min_four
attribute [local go_sem high] eqA25
mutual
def mr_Check.j0:Nat→Bool→ByteArray→Int→Int→Int→Int→Int→Int→Int→List (S104)→Option (Int)
  | 0,_,_,_,_,_,_,_,_,_,_=>none
  | k+1,x28,x157000,x157001,x157002,x157003,x157004,x157005,x157006,x157007,x157008=>if x28=true then(some 1) else(if x157001=4 then(mr_Check.j1 k (x157002 != 0) x157000 x157001 x157002 x157003 x157004 x157005 x157006 x157007 x157008) else(mr_Check.j1 k false x157000 x157001 x157002 x157003 x157004 x157005 x157006 x157007 x157008))
def mr_Check.j1:Nat→Bool→ByteArray→Int→Int→Int→Int→Int→Int→Int→List (S104)→Option (Int)
  | 0,_,_,_,_,_,_,_,_,_,_=>none
  | k+1,x36,x157000,x157001,x157002,x157003,x157004,x157005,x157006,x157007,x157008=>if x36=true then(some 3) else((mq_In.f x157003).bind fun t158=>(if t158=true then((mq_In.f x157004).bind fun t159=>(if t159=true then((mq_In.f x157005).bind fun t160=>(mr_Check.j2 k (!t160) x157000 x157001 x157002 x157003 x157004 x157005 x157006 x157007 x157008)) else(mr_Check.j2 k true x157000 x157001 x157002 x157003 x157004 x157005 x157006 x157007 x157008))) else(mr_Check.j2 k true x157000 x157001 x157002 x157003 x157004 x157005 x157006 x157007 x157008)))
def mr_Check.j2:Nat→Bool→ByteArray→Int→Int→Int→Int→Int→Int→Int→List (S104)→Option (Int)
  | 0,_,_,_,_,_,_,_,_,_,_=>none
  | k+1,x55,x157000,x157001,x157002,x157003,x157004,x157005,x157006,x157007,x157008=>if x55=true then(some 2) else(if x157001=0 then(if(!(x157006==0)||(!(x157007==0)))=true then(some 3) else(some 0)) else((mq_Check.f k x157006 x157007).bind fun t161=>(if t161=0 then(if x157006 < 1 then(some 2) else(some 0)) else(some t161))))
end
def mr_Check.f (k:Nat) (a0_0:ByteArray) (a0_1 a0_2 a0_3 a0_4 a0_5 a0_6 a0_7:Int) (l0_8:List (S104)):Option (Int):=(mq_Name.f k a0_0).bind fun t157=>(if t157=0 then(if a0_1 < 0 then(mr_Check.j0 k true a0_0 a0_1 a0_2 a0_3 a0_4 a0_5 a0_6 a0_7 l0_8) else(if a0_1≥5 then(mr_Check.j0 k true a0_0 a0_1 a0_2 a0_3 a0_4 a0_5 a0_6 a0_7 l0_8) else(if a0_2 < 0 then(mr_Check.j0 k true a0_0 a0_1 a0_2 a0_3 a0_4 a0_5 a0_6 a0_7 l0_8) else(mr_Check.j0 k (decide (a0_2≥3)) a0_0 a0_1 a0_2 a0_3 a0_4 a0_5 a0_6 a0_7 l0_8)))) else(some t157))
theorem mr_Check.mono_l:∀ k,(∀ y0 y1 y2 y3 y4 y5 y6 y7 y8 y9,LeO (mr_Check.j0 k y0 y1 y2 y3 y4 y5 y6 y7 y8 y9) (mr_Check.j0 (k+1) y0 y1 y2 y3 y4 y5 y6 y7 y8 y9))∧(∀ y0 y1 y2 y3 y4 y5 y6 y7 y8 y9,LeO (mr_Check.j1 k y0 y1 y2 y3 y4 y5 y6 y7 y8 y9) (mr_Check.j1 (k+1) y0 y1 y2 y3 y4 y5 y6 y7 y8 y9))∧(∀ y0 y1 y2 y3 y4 y5 y6 y7 y8 y9,LeO (mr_Check.j2 k y0 y1 y2 y3 y4 y5 y6 y7 y8 y9) (mr_Check.j2 (k+1) y0 y1 y2 y3 y4 y5 y6 y7 y8 y9))
 | 0=>⟨fun _ _ _ _ _ _ _ _ _ _ r h=>by simp[mr_Check.j0] at h,fun _ _ _ _ _ _ _ _ _ _ r h=>by simp[mr_Check.j1] at h,fun _ _ _ _ _ _ _ _ _ _ r h=>by simp[mr_Check.j2] at h⟩
 | k+1=>by
  obtain⟨ih0,ih1,ih2⟩:=mr_Check.mono_l k
  refine⟨?_,?_,?_⟩
  ·intro y0 y1 y2 y3 y4 y5 y6 y7 y8 y9
   unfold mr_Check.j0
   repeat' first
   | (with_reducible exact ih0 _ _ _ _ _ _ _ _ _ _)
   | (with_reducible exact ih1 _ _ _ _ _ _ _ _ _ _)
   | (with_reducible exact ih2 _ _ _ _ _ _ _ _ _ _)
   | (with_reducible exact mq_Check.mono _ _ _)
   | (with_reducible exact mq_Name.mono _ _)
   | (with_reducible exact LeO.refl _)
   | (with_reducible exact LeO.none _)
   | (with_reducible refine LeO.ite ?_ ?_)
   | (with_reducible refine LeO.bind ?_ (fun _=>?_))
   | exact ih0 _ _ _ _ _ _ _ _ _ _
   | exact ih1 _ _ _ _ _ _ _ _ _ _
   | exact ih2 _ _ _ _ _ _ _ _ _ _
   | exact mq_Check.mono _ _ _
   | exact mq_Name.mono _ _
   | exact LeO.none _
   | refine LeO.ite ?_ ?_
   | refine LeO.bind ?_ (fun _=>?_)
  ·intro y0 y1 y2 y3 y4 y5 y6 y7 y8 y9
   unfold mr_Check.j1
   repeat' first
   | (with_reducible exact ih0 _ _ _ _ _ _ _ _ _ _)
   | (with_reducible exact ih1 _ _ _ _ _ _ _ _ _ _)
   | (with_reducible exact ih2 _ _ _ _ _ _ _ _ _ _)
   | (with_reducible exact mq_Check.mono _ _ _)
   | (with_reducible exact mq_Name.mono _ _)
   | (with_reducible exact LeO.refl _)
   | (with_reducible exact LeO.none _)
   | (with_reducible refine LeO.ite ?_ ?_)
   | (with_reducible refine LeO.bind ?_ (fun _=>?_))
   | exact ih0 _ _ _ _ _ _ _ _ _ _
   | exact ih1 _ _ _ _ _ _ _ _ _ _
   | exact ih2 _ _ _ _ _ _ _ _ _ _
   | exact mq_Check.mono _ _ _
   | exact mq_Name.mono _ _
   | exact LeO.none _
   | refine LeO.ite ?_ ?_
   | refine LeO.bind ?_ (fun _=>?_)
  ·intro y0 y1 y2 y3 y4 y5 y6 y7 y8 y9
   unfold mr_Check.j2
   repeat' first
   | (with_reducible exact ih0 _ _ _ _ _ _ _ _ _ _)
   | (with_reducible exact ih1 _ _ _ _ _ _ _ _ _ _)
   | (with_reducible exact ih2 _ _ _ _ _ _ _ _ _ _)
   | (with_reducible exact mq_Check.mono _ _ _)
   | (with_reducible exact mq_Name.mono _ _)
   | (with_reducible exact LeO.refl _)
   | (with_reducible exact LeO.none _)
   | (with_reducible refine LeO.ite ?_ ?_)
   | (with_reducible refine LeO.bind ?_ (fun _=>?_))
   | exact ih0 _ _ _ _ _ _ _ _ _ _
   | exact ih1 _ _ _ _ _ _ _ _ _ _
   | exact ih2 _ _ _ _ _ _ _ _ _ _
   | exact mq_Check.mono _ _ _
   | exact mq_Name.mono _ _
   | exact LeO.none _
   | refine LeO.ite ?_ ?_
   | refine LeO.bind ?_ (fun _=>?_)
theorem mr_Check.mono:∀ a0 a1 a2 a3 a4 a5 a6 a7 a8 k,LeO (mr_Check.f k a0 a1 a2 a3 a4 a5 a6 a7 a8) (mr_Check.f (k+1) a0 a1 a2 a3 a4 a5 a6 a7 a8):=by
 intro a0 a1 a2 a3 a4 a5 a6 a7 a8 k
 obtain⟨ih0,ih1,ih2⟩:=mr_Check.mono_l k
 unfold mr_Check.f
 repeat' first
  | (with_reducible exact ih0 _ _ _ _ _ _ _ _ _ _)
  | (with_reducible exact ih1 _ _ _ _ _ _ _ _ _ _)
  | (with_reducible exact ih2 _ _ _ _ _ _ _ _ _ _)
  | (with_reducible exact mq_Check.mono _ _ _)
  | (with_reducible exact mq_Name.mono _ _)
  | (with_reducible exact LeO.refl _)
  | (with_reducible exact LeO.none _)
  | (with_reducible refine LeO.ite ?_ ?_)
  | (with_reducible refine LeO.bind ?_ (fun _=>?_))
  | exact ih0 _ _ _ _ _ _ _ _ _ _
  | exact ih1 _ _ _ _ _ _ _ _ _ _
  | exact ih2 _ _ _ _ _ _ _ _ _ _
  | exact mq_Check.mono _ _ _
  | exact mq_Name.mono _ _
  | exact LeO.none _
  | refine LeO.ite ?_ ?_
  | refine LeO.bind ?_ (fun _=>?_)
set_option maxHeartbeats 8000000 in
set_option maxRecDepth 100000 in
theorem mr_Check.calls (k:Nat) (a0_0:ByteArray) (a0_1 a0_2 a0_3 a0_4 a0_5 a0_6 a0_7:Int) (A0_8:Option Addr) (c0_8:Nat) (l0_8:List (S104)) (r:Int) (w:World) (hr0_8:Kd.C k104 w A0_8 l0_8.length l0_8) (hc0_8:l0_8.length≤c0_8) (h:mr_Check.f k a0_0 a0_1 a0_2 a0_3 a0_4 a0_5 a0_6 a0_7 l0_8=some r):
 Calls Try.prog 30 #[.agg #[.string a0_0,.int .i64 a0_1,.int .i64 a0_2,.int .i64 a0_3,.int .i64 a0_4,.int .i64 a0_5,.int .i64 a0_6,.int .i64 a0_7,.slice A0_8 l0_8.length c0_8]] w fun e w'=>e=.returned (.int .i64 r)∧Below w.heap.size w w':=by
 have hu28:=Try.underlying28
 have hu25:=Try.underlying25
 have HR0_8:=zm hr0_8
 have HC0_8:=zm hc0_8
 clear hr0_8 hc0_8
 have HB:=zm (Below.refl w.heap.size w)
 have H:((mq_Name.f k a0_0).bind fun t157=>(if t157=0 then(if a0_1 < 0 then(mr_Check.j0 k true a0_0 a0_1 a0_2 a0_3 a0_4 a0_5 a0_6 a0_7 l0_8) else(if a0_1≥5 then(mr_Check.j0 k true a0_0 a0_1 a0_2 a0_3 a0_4 a0_5 a0_6 a0_7 l0_8) else(if a0_2 < 0 then(mr_Check.j0 k true a0_0 a0_1 a0_2 a0_3 a0_4 a0_5 a0_6 a0_7 l0_8) else(mr_Check.j0 k (decide (a0_2≥3)) a0_0 a0_1 a0_2 a0_3 a0_4 a0_5 a0_6 a0_7 l0_8)))) else(some t157)))=some r:=h
 clear h
 replace H:=Option.bind_eq_some_iff.mp H
 obtain⟨t157,A20,H⟩:=H
 replace H:(if t157=0 then(if a0_1 < 0 then(mr_Check.j0 k true a0_0 a0_1 a0_2 a0_3 a0_4 a0_5 a0_6 a0_7 l0_8) else(if a0_1≥5 then(mr_Check.j0 k true a0_0 a0_1 a0_2 a0_3 a0_4 a0_5 a0_6 a0_7 l0_8) else(if a0_2 < 0 then(mr_Check.j0 k true a0_0 a0_1 a0_2 a0_3 a0_4 a0_5 a0_6 a0_7 l0_8) else(mr_Check.j0 k (decide (a0_2≥3)) a0_0 a0_1 a0_2 a0_3 a0_4 a0_5 a0_6 a0_7 l0_8)))) else(some t157))=some r:=H
 have A2:=zm A20
 clear A20
 by_cases c3:t157=0
 ·rw[if_pos c3] at H
  have c3b0:(t157==0)=true:=beq_iff_eq.mpr c3
  have c3b1:(t157 != 0)=false:=bne_eq_false_iff_eq.mpr c3
  clear c3
  have HC4:=zm H
  clear H
  go_enter Try.func30,Try.ntmps30
  go_upto_region 4 with (first|((with_reducible refine gate_dst (N:=1) rfl ?_);refine box_event ?hg (N:=1) ?hd (cs:=#[.string a0_0,.int .i64 a0_1,.int .i64 a0_2,.int .i64 a0_3,.int .i64 a0_4,.int .i64 a0_5,.int .i64 a0_6,.int .i64 a0_7,.slice A0_8 l0_8.length c0_8]) (t:=28) ?hr ?_;(case hd=>rfl);(case hg=>rfl);(case hr=>first|(go_simp;done)|(go_simp;rfl));intro gb156 hg w5 hbox hb;have n0_:=zm (below_step (by repeat(first|(with_reducible first|exact HB.out|apply zA|apply zD|apply zE)|exact HB.out)) hb);have n1_:=zm (hbox);have n2_:=zm ((by rw[hg];exact(below_size (by repeat(first|(with_reducible first|exact HB.out|apply zA|apply zD|apply zE)|exact HB.out))):w.heap.size≤gb156));have n3_:=zm ((by rw[hg];exact(below_size (by repeat(first|(with_reducible first|exact HB.out|apply zA|apply zD|apply zE)|exact HB.out))):w.heap.size≤gb156));clear HB;have HB:=n0_;have BK156:=n1_;have GW156:=n2_;have GE156:=n3_;clear n0_ n1_ n2_ n3_;clear hb hbox hg;have hcz6_0:=zc BK156.out 0 (.string a0_0) rfl;have hcz6_1:=zc BK156.out 1 (.int .i64 a0_1) rfl;have hcz6_2:=zc BK156.out 2 (.int .i64 a0_2) rfl;have hcz6_3:=zc BK156.out 3 (.int .i64 a0_3) rfl;have hcz6_4:=zc BK156.out 4 (.int .i64 a0_4) rfl;have hcz6_5:=zc BK156.out 5 (.int .i64 a0_5) rfl;have hcz6_6:=zc BK156.out 6 (.int .i64 a0_6) rfl;have hcz6_7:=zc BK156.out 7 (.int .i64 a0_7) rfl;have hcz6_8:=zc BK156.out 8 (.slice A0_8 l0_8.length c0_8) rfl;have hfz6_0:=zf BK156.out 0;have hfz6_1:=zf BK156.out 1;have hfz6_2:=zf BK156.out 2;have hfz6_3:=zf BK156.out 3;have hfz6_4:=zf BK156.out 4;have hfz6_5:=zf BK156.out 5;have hfz6_6:=zf BK156.out 6;have hfz6_7:=zf BK156.out 7;have hfz6_8:=zf BK156.out 8)|((with_reducible refine gate_callee (f:=83) rfl ?_);refine goesL_ (some 7) rfl rfl Try.func83 (by kernel_rfl) rfl #[.string a0_0] rfl (by(try simp only[List.map_toArray,List.map_cons,List.map_nil]);first|done|rfl|(simp only[List.length_drop,List.length_take];rfl)) ?_;(with_reducible refine(mq_Name.calls k a0_0 t157 _ A2.out).mono ?_);rintro e w' ⟨rfl,⟨nd,rfl⟩⟩;refine⟨_,rfl,?_⟩))
  (try simp only[Act.put,zx,zy,zz])
  go_cut [28] (fun v28 wc=>∃(kq:Nat) (x28_3:Bool),v28=.bool x28_3∧Aside0 (mr_Check.j0 kq x28_3 a0_0 a0_1 a0_2 a0_3 a0_4 a0_5 a0_6 a0_7 l0_8=some r)∧Aside0 (kq≤k)∧Aside0 (wc.heap[gb156]?=some (.cells #[.string a0_0,.int .i64 a0_1,.int .i64 a0_2,.int .i64 a0_3,.int .i64 a0_4,.int .i64 a0_5,.int .i64 a0_6,.int .i64 a0_7,(.slice A0_8 l0_8.length c0_8)] 28 (0,0)))∧Aside0 (Below w.heap.size w wc))
  case first=>
   have H:=HC4.out
   clear HC4
   by_cases c7:a0_1 < 0
   ·rw[if_pos c7] at H
    have c7b0:decide (a0_1 < 0)=true:=decide_eq_true c7
    clear c7
    (first|rw[c7b0]|(simp only[i64_w,i32_w];rw[c7b0])|(rw[c7b2];try simp only[Bool.not_true,Bool.not_false])|skip)
    have H':=zm H
    clear H
    have hcz8_0:=zc BK156.out 0 (.string a0_0) rfl
    have hcz8_1:=zc BK156.out 1 (.int .i64 a0_1) rfl
    have hcz8_2:=zc BK156.out 2 (.int .i64 a0_2) rfl
    have hcz8_3:=zc BK156.out 3 (.int .i64 a0_3) rfl
    have hcz8_4:=zc BK156.out 4 (.int .i64 a0_4) rfl
    have hcz8_5:=zc BK156.out 5 (.int .i64 a0_5) rfl
    have hcz8_6:=zc BK156.out 6 (.int .i64 a0_6) rfl
    have hcz8_7:=zc BK156.out 7 (.int .i64 a0_7) rfl
    have hcz8_8:=zc BK156.out 8 (.slice A0_8 l0_8.length c0_8) rfl
    have hfz8_0:=zf BK156.out 0
    have hfz8_1:=zf BK156.out 1
    have hfz8_2:=zf BK156.out 2
    have hfz8_3:=zf BK156.out 3
    have hfz8_4:=zf BK156.out 4
    have hfz8_5:=zf BK156.out 5
    have hfz8_6:=zf BK156.out 6
    have hfz8_7:=zf BK156.out 7
    have hfz8_8:=zf BK156.out 8
    go_wp2
    go_meet
    case rel=>exact⟨_,(true),(by first|rfl|(simp;done)|(simp[*];done)),H',⟨by first|omega|exact Nat.le_refl _⟩,⟨by(with_reducible repeat first|apply zd|apply ze|apply za);exact BK156.out⟩,⟨by repeat(first|(with_reducible first|exact HB.out|apply zA|apply zD|apply zE|refine zS ?_ GE156.out)|exact HB.out)⟩⟩
   ·rw[if_neg c7] at H
    have c7b0:decide (a0_1 < 0)=false:=decide_eq_false c7
    clear c7
    (first|rw[c7b0]|(simp only[i64_w,i32_w];rw[c7b0])|(rw[c7b2];try simp only[Bool.not_true,Bool.not_false])|skip)
    by_cases c9:a0_1≥5
    ·rw[if_pos c9] at H
     have c9b0:decide (5≤a0_1)=true:=decide_eq_true c9
     clear c9
     have H':=zm H
     clear H
     have hcz10_0:=zc BK156.out 0 (.string a0_0) rfl
     have hcz10_1:=zc BK156.out 1 (.int .i64 a0_1) rfl
     have hcz10_2:=zc BK156.out 2 (.int .i64 a0_2) rfl
     have hcz10_3:=zc BK156.out 3 (.int .i64 a0_3) rfl
     have hcz10_4:=zc BK156.out 4 (.int .i64 a0_4) rfl
     have hcz10_5:=zc BK156.out 5 (.int .i64 a0_5) rfl
     have hcz10_6:=zc BK156.out 6 (.int .i64 a0_6) rfl
     have hcz10_7:=zc BK156.out 7 (.int .i64 a0_7) rfl
     have hcz10_8:=zc BK156.out 8 (.slice A0_8 l0_8.length c0_8) rfl
     have hfz10_0:=zf BK156.out 0
     have hfz10_1:=zf BK156.out 1
     have hfz10_2:=zf BK156.out 2
     have hfz10_3:=zf BK156.out 3
     have hfz10_4:=zf BK156.out 4
     have hfz10_5:=zf BK156.out 5
     have hfz10_6:=zf BK156.out 6
     have hfz10_7:=zf BK156.out 7
     have hfz10_8:=zf BK156.out 8
     go_wp2
     go_meet
     case rel=>exact⟨_,(true),(by first|rfl|(simp;done)|(simp[*];done)),H',⟨by first|omega|exact Nat.le_refl _⟩,⟨by(with_reducible repeat first|apply zd|apply ze|apply za);exact BK156.out⟩,⟨by repeat(first|(with_reducible first|exact HB.out|apply zA|apply zD|apply zE|refine zS ?_ GE156.out)|exact HB.out)⟩⟩
    ·rw[if_neg c9] at H
     have c9b0:decide (5≤a0_1)=false:=decide_eq_false c9
     clear c9
     by_cases c11:a0_2 < 0
     ·rw[if_pos c11] at H
      have c11b0:decide (a0_2 < 0)=true:=decide_eq_true c11
      clear c11
      have H':=zm H
      clear H
      have hcz12_0:=zc BK156.out 0 (.string a0_0) rfl
      have hcz12_1:=zc BK156.out 1 (.int .i64 a0_1) rfl
      have hcz12_2:=zc BK156.out 2 (.int .i64 a0_2) rfl
      have hcz12_3:=zc BK156.out 3 (.int .i64 a0_3) rfl
      have hcz12_4:=zc BK156.out 4 (.int .i64 a0_4) rfl
      have hcz12_5:=zc BK156.out 5 (.int .i64 a0_5) rfl
      have hcz12_6:=zc BK156.out 6 (.int .i64 a0_6) rfl
      have hcz12_7:=zc BK156.out 7 (.int .i64 a0_7) rfl
      have hcz12_8:=zc BK156.out 8 (.slice A0_8 l0_8.length c0_8) rfl
      have hfz12_0:=zf BK156.out 0
      have hfz12_1:=zf BK156.out 1
      have hfz12_2:=zf BK156.out 2
      have hfz12_3:=zf BK156.out 3
      have hfz12_4:=zf BK156.out 4
      have hfz12_5:=zf BK156.out 5
      have hfz12_6:=zf BK156.out 6
      have hfz12_7:=zf BK156.out 7
      have hfz12_8:=zf BK156.out 8
      go_wp2
      go_meet
      case rel=>exact⟨_,(true),(by first|rfl|(simp;done)|(simp[*];done)),H',⟨by first|omega|exact Nat.le_refl _⟩,⟨by(with_reducible repeat first|apply zd|apply ze|apply za);exact BK156.out⟩,⟨by repeat(first|(with_reducible first|exact HB.out|apply zA|apply zD|apply zE|refine zS ?_ GE156.out)|exact HB.out)⟩⟩
     ·rw[if_neg c11] at H
      have c11b0:decide (a0_2 < 0)=false:=decide_eq_false c11
      clear c11
      have H':=zm H
      clear H
      have hcz13_0:=zc BK156.out 0 (.string a0_0) rfl
      have hcz13_1:=zc BK156.out 1 (.int .i64 a0_1) rfl
      have hcz13_2:=zc BK156.out 2 (.int .i64 a0_2) rfl
      have hcz13_3:=zc BK156.out 3 (.int .i64 a0_3) rfl
      have hcz13_4:=zc BK156.out 4 (.int .i64 a0_4) rfl
      have hcz13_5:=zc BK156.out 5 (.int .i64 a0_5) rfl
      have hcz13_6:=zc BK156.out 6 (.int .i64 a0_6) rfl
      have hcz13_7:=zc BK156.out 7 (.int .i64 a0_7) rfl
      have hcz13_8:=zc BK156.out 8 (.slice A0_8 l0_8.length c0_8) rfl
      have hfz13_0:=zf BK156.out 0
      have hfz13_1:=zf BK156.out 1
      have hfz13_2:=zf BK156.out 2
      have hfz13_3:=zf BK156.out 3
      have hfz13_4:=zf BK156.out 4
      have hfz13_5:=zf BK156.out 5
      have hfz13_6:=zf BK156.out 6
      have hfz13_7:=zf BK156.out 7
      have hfz13_8:=zf BK156.out 8
      go_wp2
      go_meet
      case rel=>exact⟨_,(decide (a0_2≥3)),(by first|rfl|(simp;done)|(simp[*];done)),H',⟨by first|omega|exact Nat.le_refl _⟩,⟨by(with_reducible repeat first|apply zd|apply ze|apply za);exact BK156.out⟩,⟨by repeat(first|(with_reducible first|exact HB.out|apply zA|apply zD|apply zE|refine zS ?_ GE156.out)|exact HB.out)⟩⟩
  case rest=>
   clear HC4
   try clear c1
   try clear p2
   try clear c3
   try clear c3b0
   try clear c3b1
   try clear c7
   try clear c7b0
   try clear c7b2
   try clear c8
   try clear c9
   try clear c9b0
   try clear c11
   try clear c11b0
   try clear hcz10_0
   try clear hcz10_1
   try clear hcz10_2
   try clear hcz10_3
   try clear hcz10_4
   try clear hcz10_5
   try clear hcz10_6
   try clear hcz10_7
   try clear hcz10_8
   try clear hcz12_0
   try clear hcz12_1
   try clear hcz12_2
   try clear hcz12_3
   try clear hcz12_4
   try clear hcz12_5
   try clear hcz12_6
   try clear hcz12_7
   try clear hcz12_8
   try clear hcz13_0
   try clear hcz13_1
   try clear hcz13_2
   try clear hcz13_3
   try clear hcz13_4
   try clear hcz13_5
   try clear hcz13_6
   try clear hcz13_7
   try clear hcz13_8
   try clear hcz6_0
   try clear hcz6_1
   try clear hcz6_2
   try clear hcz6_3
   try clear hcz6_4
   try clear hcz6_5
   try clear hcz6_6
   try clear hcz6_7
   try clear hcz6_8
   try clear hcz8_0
   try clear hcz8_1
   try clear hcz8_2
   try clear hcz8_3
   try clear hcz8_4
   try clear hcz8_5
   try clear hcz8_6
   try clear hcz8_7
   try clear hcz8_8
   try clear hfz10_0
   try clear hfz10_1
   try clear hfz10_2
   try clear hfz10_3
   try clear hfz10_4
   try clear hfz10_5
   try clear hfz10_6
   try clear hfz10_7
   try clear hfz10_8
   try clear hfz12_0
   try clear hfz12_1
   try clear hfz12_2
   try clear hfz12_3
   try clear hfz12_4
   try clear hfz12_5
   try clear hfz12_6
   try clear hfz12_7
   try clear hfz12_8
   try clear hfz13_0
   try clear hfz13_1
   try clear hfz13_2
   try clear hfz13_3
   try clear hfz13_4
   try clear hfz13_5
   try clear hfz13_6
   try clear hfz13_7
   try clear hfz13_8
   try clear hfz6_0
   try clear hfz6_1
   try clear hfz6_2
   try clear hfz6_3
   try clear hfz6_4
   try clear hfz6_5
   try clear hfz6_6
   try clear hfz6_7
   try clear hfz6_8
   try clear hfz8_0
   try clear hfz8_1
   try clear hfz8_2
   try clear hfz8_3
   try clear hfz8_4
   try clear hfz8_5
   try clear hfz8_6
   try clear hfz8_7
   try clear hfz8_8
   obtain⟨kq,x28_3,rfl,HA,HJ3,BK156,HB⟩:=hcut
   cases kq with
   | zero=>exact absurd HA.out (by simp[mr_Check.j0])
   | succ kj3=>
    have H:=HA.out
    clear HA
    simp only[mr_Check.j0] at H
    by_cases c14:x28_3=true
    ·subst c14
     have H1:(some 1)=some r:=by rw[if_pos rfl] at H;exact H
     clear H
     have H:=H1
     clear H1
     obtain rfl:=Option.some.inj H
     go_wp2
     go_ret
     exact⟨by first|rfl|(simp[errW_none,errW_some]<;>rfl)|(simp[*,errW_none,errW_some]<;>rfl),by repeat(first|(with_reducible first|exact HB.out|apply zA|apply zD|apply zE|refine zS ?_ GE156.out)|exact HB.out)⟩
    ·replace c14:=Bool.eq_false_iff.mpr c14
     subst c14
     have H1:(if a0_1=4 then(mr_Check.j1 kj3 (a0_2 != 0) a0_0 a0_1 a0_2 a0_3 a0_4 a0_5 a0_6 a0_7 l0_8) else(mr_Check.j1 kj3 false a0_0 a0_1 a0_2 a0_3 a0_4 a0_5 a0_6 a0_7 l0_8))=some r:=by rw[if_neg (show ¬(false=true) by decide)] at H;exact H
     clear H
     have H:=H1
     clear H1
     have HC15:=zm H
     clear H
     go_upto_region 6 with (fail)
     go_cut [36] (fun v36 wc=>∃(kq:Nat) (x36_14:Bool),v36=.bool x36_14∧Aside0 (mr_Check.j1 kq x36_14 a0_0 a0_1 a0_2 a0_3 a0_4 a0_5 a0_6 a0_7 l0_8=some r)∧Aside0 (kq≤kj3)∧Aside0 (wc.heap[gb156]?=some (.cells #[.string a0_0,.int .i64 a0_1,.int .i64 a0_2,.int .i64 a0_3,.int .i64 a0_4,.int .i64 a0_5,.int .i64 a0_6,.int .i64 a0_7,(.slice A0_8 l0_8.length c0_8)] 28 (0,0)))∧Aside0 (Below w.heap.size w wc))
     case first=>
      have H:=HC15.out
      clear HC15
      by_cases c16:a0_1=4
      ·rw[if_pos c16] at H
       have c16b0:(a0_1==4)=true:=beq_iff_eq.mpr c16
       have c16b1:(a0_1 != 4)=false:=bne_eq_false_iff_eq.mpr c16
       clear c16
       (first|rw[c16b0]|(simp only[i64_w,i32_w];rw[c16b0])|(rw[c16b2];try simp only[Bool.not_true,Bool.not_false])|skip)
       have H':=zm H
       clear H
       have hcz17_0:=zc BK156.out 0 (.string a0_0) rfl
       have hcz17_1:=zc BK156.out 1 (.int .i64 a0_1) rfl
       have hcz17_2:=zc BK156.out 2 (.int .i64 a0_2) rfl
       have hcz17_3:=zc BK156.out 3 (.int .i64 a0_3) rfl
       have hcz17_4:=zc BK156.out 4 (.int .i64 a0_4) rfl
       have hcz17_5:=zc BK156.out 5 (.int .i64 a0_5) rfl
       have hcz17_6:=zc BK156.out 6 (.int .i64 a0_6) rfl
       have hcz17_7:=zc BK156.out 7 (.int .i64 a0_7) rfl
       have hcz17_8:=zc BK156.out 8 (.slice A0_8 l0_8.length c0_8) rfl
       have hfz17_0:=zf BK156.out 0
       have hfz17_1:=zf BK156.out 1
       have hfz17_2:=zf BK156.out 2
       have hfz17_3:=zf BK156.out 3
       have hfz17_4:=zf BK156.out 4
       have hfz17_5:=zf BK156.out 5
       have hfz17_6:=zf BK156.out 6
       have hfz17_7:=zf BK156.out 7
       have hfz17_8:=zf BK156.out 8
       go_wp2
       go_meet
       case rel=>exact⟨_,((a0_2 != 0)),(by first|rfl|(simp;done)|(simp[*];done)),H',⟨by have:=HJ3.out;first|omega|exact Nat.le_refl _⟩,⟨by(with_reducible repeat first|apply zd|apply ze|apply za);exact BK156.out⟩,⟨by repeat(first|(with_reducible first|exact HB.out|apply zA|apply zD|apply zE|refine zS ?_ GE156.out)|exact HB.out)⟩⟩
      ·rw[if_neg c16] at H
       have c16b0:(a0_1==4)=false:=beq_eq_false_iff_ne.mpr c16
       have c16b1:(a0_1 != 4)=true:=bne_iff_ne.mpr c16
       (first|rw[c16b0]|(simp only[i64_w,i32_w];rw[c16b0])|(rw[c16b2];try simp only[Bool.not_true,Bool.not_false])|skip)
       have H':=zm H
       clear H
       have hcz18_0:=zc BK156.out 0 (.string a0_0) rfl
       have hcz18_1:=zc BK156.out 1 (.int .i64 a0_1) rfl
       have hcz18_2:=zc BK156.out 2 (.int .i64 a0_2) rfl
       have hcz18_3:=zc BK156.out 3 (.int .i64 a0_3) rfl
       have hcz18_4:=zc BK156.out 4 (.int .i64 a0_4) rfl
       have hcz18_5:=zc BK156.out 5 (.int .i64 a0_5) rfl
       have hcz18_6:=zc BK156.out 6 (.int .i64 a0_6) rfl
       have hcz18_7:=zc BK156.out 7 (.int .i64 a0_7) rfl
       have hcz18_8:=zc BK156.out 8 (.slice A0_8 l0_8.length c0_8) rfl
       have hfz18_0:=zf BK156.out 0
       have hfz18_1:=zf BK156.out 1
       have hfz18_2:=zf BK156.out 2
       have hfz18_3:=zf BK156.out 3
       have hfz18_4:=zf BK156.out 4
       have hfz18_5:=zf BK156.out 5
       have hfz18_6:=zf BK156.out 6
       have hfz18_7:=zf BK156.out 7
       have hfz18_8:=zf BK156.out 8
       go_wp2
       go_meet
       case rel=>exact⟨_,(false),(by first|rfl|(simp;done)|(simp[*];done)),H',⟨by have:=HJ3.out;first|omega|exact Nat.le_refl _⟩,⟨by(with_reducible repeat first|apply zd|apply ze|apply za);exact BK156.out⟩,⟨by repeat(first|(with_reducible first|exact HB.out|apply zA|apply zD|apply zE|refine zS ?_ GE156.out)|exact HB.out)⟩⟩
     case rest=>
      clear HC15
      try clear c1
      try clear p2
      try clear c3
      try clear c3b0
      try clear c3b1
      try clear c7
      try clear c7b0
      try clear c7b2
      try clear c8
      try clear c9
      try clear c9b0
      try clear c11
      try clear c11b0
      try clear c14
      try clear c16
      try clear c16b0
      try clear c16b1
      try clear c16b2
      try clear hcz10_0
      try clear hcz10_1
      try clear hcz10_2
      try clear hcz10_3
      try clear hcz10_4
      try clear hcz10_5
      try clear hcz10_6
      try clear hcz10_7
      try clear hcz10_8
      try clear hcz12_0
      try clear hcz12_1
      try clear hcz12_2
      try clear hcz12_3
      try clear hcz12_4
      try clear hcz12_5
      try clear hcz12_6
      try clear hcz12_7
      try clear hcz12_8
      try clear hcz13_0
      try clear hcz13_1
      try clear hcz13_2
      try clear hcz13_3
      try clear hcz13_4
      try clear hcz13_5
      try clear hcz13_6
      try clear hcz13_7
      try clear hcz13_8
      try clear hcz17_0
      try clear hcz17_1
      try clear hcz17_2
      try clear hcz17_3
      try clear hcz17_4
      try clear hcz17_5
      try clear hcz17_6
      try clear hcz17_7
      try clear hcz17_8
      try clear hcz18_0
      try clear hcz18_1
      try clear hcz18_2
      try clear hcz18_3
      try clear hcz18_4
      try clear hcz18_5
      try clear hcz18_6
      try clear hcz18_7
      try clear hcz18_8
      try clear hcz6_0
      try clear hcz6_1
      try clear hcz6_2
      try clear hcz6_3
      try clear hcz6_4
      try clear hcz6_5
      try clear hcz6_6
      try clear hcz6_7
      try clear hcz6_8
      try clear hcz8_0
      try clear hcz8_1
      try clear hcz8_2
      try clear hcz8_3
      try clear hcz8_4
      try clear hcz8_5
      try clear hcz8_6
      try clear hcz8_7
      try clear hcz8_8
      try clear hfz10_0
      try clear hfz10_1
      try clear hfz10_2
      try clear hfz10_3
      try clear hfz10_4
      try clear hfz10_5
      try clear hfz10_6
      try clear hfz10_7
      try clear hfz10_8
      try clear hfz12_0
      try clear hfz12_1
      try clear hfz12_2
      try clear hfz12_3
      try clear hfz12_4
      try clear hfz12_5
      try clear hfz12_6
      try clear hfz12_7
      try clear hfz12_8
      try clear hfz13_0
      try clear hfz13_1
      try clear hfz13_2
      try clear hfz13_3
      try clear hfz13_4
      try clear hfz13_5
      try clear hfz13_6
      try clear hfz13_7
      try clear hfz13_8
      try clear hfz17_0
      try clear hfz17_1
      try clear hfz17_2
      try clear hfz17_3
      try clear hfz17_4
      try clear hfz17_5
      try clear hfz17_6
      try clear hfz17_7
      try clear hfz17_8
      try clear hfz18_0
      try clear hfz18_1
      try clear hfz18_2
      try clear hfz18_3
      try clear hfz18_4
      try clear hfz18_5
      try clear hfz18_6
      try clear hfz18_7
      try clear hfz18_8
      try clear hfz6_0
      try clear hfz6_1
      try clear hfz6_2
      try clear hfz6_3
      try clear hfz6_4
      try clear hfz6_5
      try clear hfz6_6
      try clear hfz6_7
      try clear hfz6_8
      try clear hfz8_0
      try clear hfz8_1
      try clear hfz8_2
      try clear hfz8_3
      try clear hfz8_4
      try clear hfz8_5
      try clear hfz8_6
      try clear hfz8_7
      try clear hfz8_8
      try clear p2
      obtain⟨kq,x36_14,rfl,HA,HJ14,BK156,HB⟩:=hcut
      cases kq with
      | zero=>exact absurd HA.out (by simp[mr_Check.j1])
      | succ kj14=>
       have H:=HA.out
       clear HA
       simp only[mr_Check.j1] at H
       by_cases c19:x36_14=true
       ·subst c19
        have H1:(some 3)=some r:=by rw[if_pos rfl] at H;exact H
        clear H
        have H:=H1
        clear H1
        obtain rfl:=Option.some.inj H
        go_wp2
        go_ret
        exact⟨by first|rfl|(simp[errW_none,errW_some]<;>rfl)|(simp[*,errW_none,errW_some]<;>rfl),by repeat(first|(with_reducible first|exact HB.out|apply zA|apply zD|apply zE|refine zS ?_ GE156.out)|exact HB.out)⟩
       ·replace c19:=Bool.eq_false_iff.mpr c19
        subst c19
        have H1:((mq_In.f a0_3).bind fun t158=>(if t158=true then((mq_In.f a0_4).bind fun t159=>(if t159=true then((mq_In.f a0_5).bind fun t160=>(mr_Check.j2 kj14 (!t160) a0_0 a0_1 a0_2 a0_3 a0_4 a0_5 a0_6 a0_7 l0_8)) else(mr_Check.j2 kj14 true a0_0 a0_1 a0_2 a0_3 a0_4 a0_5 a0_6 a0_7 l0_8))) else(mr_Check.j2 kj14 true a0_0 a0_1 a0_2 a0_3 a0_4 a0_5 a0_6 a0_7 l0_8)))=some r:=by rw[if_neg (show ¬(false=true) by decide)] at H;exact H
        clear H
        have H:=H1
        clear H1
        have HC20:=zm H
        clear H
        go_upto_region 8 with (fail)
        go_cut [55] (fun v55 wc=>∃(kq:Nat) (x55_19:Bool),v55=.bool x55_19∧Aside0 (mr_Check.j2 kq x55_19 a0_0 a0_1 a0_2 a0_3 a0_4 a0_5 a0_6 a0_7 l0_8=some r)∧Aside0 (kq≤kj14)∧Aside0 (wc.heap[gb156]?=some (.cells #[.string a0_0,.int .i64 a0_1,.int .i64 a0_2,.int .i64 a0_3,.int .i64 a0_4,.int .i64 a0_5,.int .i64 a0_6,.int .i64 a0_7,(.slice A0_8 l0_8.length c0_8)] 28 (0,0)))∧Aside0 (Below w.heap.size w wc))
        case first=>
         have H:=HC20.out
         clear HC20
         replace H:=Option.bind_eq_some_iff.mp H
         obtain⟨t158,A210,H⟩:=H
         replace H:(if t158=true then((mq_In.f a0_4).bind fun t159=>(if t159=true then((mq_In.f a0_5).bind fun t160=>(mr_Check.j2 kj14 (!t160) a0_0 a0_1 a0_2 a0_3 a0_4 a0_5 a0_6 a0_7 l0_8)) else(mr_Check.j2 kj14 true a0_0 a0_1 a0_2 a0_3 a0_4 a0_5 a0_6 a0_7 l0_8))) else(mr_Check.j2 kj14 true a0_0 a0_1 a0_2 a0_3 a0_4 a0_5 a0_6 a0_7 l0_8))=some r:=H
         have A21:=zm A210
         clear A210
         by_cases c22:t158=true
         ·subst c22
          have H1:((mq_In.f a0_4).bind fun t159=>(if t159=true then((mq_In.f a0_5).bind fun t160=>(mr_Check.j2 kj14 (!t160) a0_0 a0_1 a0_2 a0_3 a0_4 a0_5 a0_6 a0_7 l0_8)) else(mr_Check.j2 kj14 true a0_0 a0_1 a0_2 a0_3 a0_4 a0_5 a0_6 a0_7 l0_8)))=some r:=by rw[if_pos rfl] at H;exact H
          clear H
          have H:=H1
          clear H1
          replace H:=Option.bind_eq_some_iff.mp H
          obtain⟨t159,A230,H⟩:=H
          replace H:(if t159=true then((mq_In.f a0_5).bind fun t160=>(mr_Check.j2 kj14 (!t160) a0_0 a0_1 a0_2 a0_3 a0_4 a0_5 a0_6 a0_7 l0_8)) else(mr_Check.j2 kj14 true a0_0 a0_1 a0_2 a0_3 a0_4 a0_5 a0_6 a0_7 l0_8))=some r:=H
          have A23:=zm A230
          clear A230
          by_cases c24:t159=true
          ·subst c24
           have H1:((mq_In.f a0_5).bind fun t160=>(mr_Check.j2 kj14 (!t160) a0_0 a0_1 a0_2 a0_3 a0_4 a0_5 a0_6 a0_7 l0_8))=some r:=by rw[if_pos rfl] at H;exact H
           clear H
           have H:=H1
           clear H1
           replace H:=Option.bind_eq_some_iff.mp H
           obtain⟨t160,A250,H⟩:=H
           replace H:(mr_Check.j2 kj14 (!t160) a0_0 a0_1 a0_2 a0_3 a0_4 a0_5 a0_6 a0_7 l0_8)=some r:=H
           have A25:=zm A250
           clear A250
           have H':=zm H
           clear H
           have hcz26_0:=zc BK156.out 0 (.string a0_0) rfl
           have hcz26_1:=zc BK156.out 1 (.int .i64 a0_1) rfl
           have hcz26_2:=zc BK156.out 2 (.int .i64 a0_2) rfl
           have hcz26_3:=zc BK156.out 3 (.int .i64 a0_3) rfl
           have hcz26_4:=zc BK156.out 4 (.int .i64 a0_4) rfl
           have hcz26_5:=zc BK156.out 5 (.int .i64 a0_5) rfl
           have hcz26_6:=zc BK156.out 6 (.int .i64 a0_6) rfl
           have hcz26_7:=zc BK156.out 7 (.int .i64 a0_7) rfl
           have hcz26_8:=zc BK156.out 8 (.slice A0_8 l0_8.length c0_8) rfl
           have hfz26_0:=zf BK156.out 0
           have hfz26_1:=zf BK156.out 1
           have hfz26_2:=zf BK156.out 2
           have hfz26_3:=zf BK156.out 3
           have hfz26_4:=zf BK156.out 4
           have hfz26_5:=zf BK156.out 5
           have hfz26_6:=zf BK156.out 6
           have hfz26_7:=zf BK156.out 7
           have hfz26_8:=zf BK156.out 8
           go_wp2_with (first|((with_reducible refine gate_callee (f:=66) rfl ?_);refine goesL_ (some 40) rfl rfl Try.func66 (by kernel_rfl) rfl #[.int .i64 a0_3] rfl (by(try simp only[List.map_toArray,List.map_cons,List.map_nil]);first|done|rfl|(simp only[List.length_drop,List.length_take];rfl)) ?_;(with_reducible refine(mq_In.calls a0_3 true _ A21.out).mono ?_);rintro e w' ⟨rfl,⟨nd,rfl⟩⟩;refine⟨_,rfl,?_⟩)|(go_at_call 66;(with_reducible refine(mq_In.calls a0_4 true _ A23.out).mono ?_);rintro e w' ⟨rfl,⟨nd,rfl⟩⟩)|(go_at_call 66;(with_reducible refine(mq_In.calls a0_5 t160 _ A25.out).mono ?_);rintro e w' ⟨rfl,⟨nd,rfl⟩⟩))
           go_meet
           case rel=>exact⟨_,(!t160),(by first|rfl|(simp;done)|(simp[*];done)),H',⟨by have:=HJ3.out;have:=HJ14.out;first|omega|exact Nat.le_refl _⟩,⟨by(with_reducible repeat first|apply zd|apply ze|apply za);exact BK156.out⟩,⟨by repeat(first|(with_reducible first|exact HB.out|apply zA|apply zD|apply zE|refine zS ?_ GE156.out)|exact HB.out)⟩⟩
          ·replace c24:=Bool.eq_false_iff.mpr c24
           subst c24
           have H1:(mr_Check.j2 kj14 true a0_0 a0_1 a0_2 a0_3 a0_4 a0_5 a0_6 a0_7 l0_8)=some r:=by rw[if_neg (show ¬(false=true) by decide)] at H;exact H
           clear H
           have H:=H1
           clear H1
           have H':=zm H
           clear H
           have hcz27_0:=zc BK156.out 0 (.string a0_0) rfl
           have hcz27_1:=zc BK156.out 1 (.int .i64 a0_1) rfl
           have hcz27_2:=zc BK156.out 2 (.int .i64 a0_2) rfl
           have hcz27_3:=zc BK156.out 3 (.int .i64 a0_3) rfl
           have hcz27_4:=zc BK156.out 4 (.int .i64 a0_4) rfl
           have hcz27_5:=zc BK156.out 5 (.int .i64 a0_5) rfl
           have hcz27_6:=zc BK156.out 6 (.int .i64 a0_6) rfl
           have hcz27_7:=zc BK156.out 7 (.int .i64 a0_7) rfl
           have hcz27_8:=zc BK156.out 8 (.slice A0_8 l0_8.length c0_8) rfl
           have hfz27_0:=zf BK156.out 0
           have hfz27_1:=zf BK156.out 1
           have hfz27_2:=zf BK156.out 2
           have hfz27_3:=zf BK156.out 3
           have hfz27_4:=zf BK156.out 4
           have hfz27_5:=zf BK156.out 5
           have hfz27_6:=zf BK156.out 6
           have hfz27_7:=zf BK156.out 7
           have hfz27_8:=zf BK156.out 8
           go_wp2_with (first|((with_reducible refine gate_callee (f:=66) rfl ?_);refine goesL_ (some 40) rfl rfl Try.func66 (by kernel_rfl) rfl #[.int .i64 a0_3] rfl (by(try simp only[List.map_toArray,List.map_cons,List.map_nil]);first|done|rfl|(simp only[List.length_drop,List.length_take];rfl)) ?_;(with_reducible refine(mq_In.calls a0_3 true _ A21.out).mono ?_);rintro e w' ⟨rfl,⟨nd,rfl⟩⟩;refine⟨_,rfl,?_⟩)|(go_at_call 66;(with_reducible refine(mq_In.calls a0_4 false _ A23.out).mono ?_);rintro e w' ⟨rfl,⟨nd,rfl⟩⟩))
           go_meet
           case rel=>exact⟨_,(true),(by first|rfl|(simp;done)|(simp[*];done)),H',⟨by have:=HJ3.out;have:=HJ14.out;first|omega|exact Nat.le_refl _⟩,⟨by(with_reducible repeat first|apply zd|apply ze|apply za);exact BK156.out⟩,⟨by repeat(first|(with_reducible first|exact HB.out|apply zA|apply zD|apply zE|refine zS ?_ GE156.out)|exact HB.out)⟩⟩
         ·replace c22:=Bool.eq_false_iff.mpr c22
          subst c22
          have H1:(mr_Check.j2 kj14 true a0_0 a0_1 a0_2 a0_3 a0_4 a0_5 a0_6 a0_7 l0_8)=some r:=by rw[if_neg (show ¬(false=true) by decide)] at H;exact H
          clear H
          have H:=H1
          clear H1
          have H':=zm H
          clear H
          have hcz28_0:=zc BK156.out 0 (.string a0_0) rfl
          have hcz28_1:=zc BK156.out 1 (.int .i64 a0_1) rfl
          have hcz28_2:=zc BK156.out 2 (.int .i64 a0_2) rfl
          have hcz28_3:=zc BK156.out 3 (.int .i64 a0_3) rfl
          have hcz28_4:=zc BK156.out 4 (.int .i64 a0_4) rfl
          have hcz28_5:=zc BK156.out 5 (.int .i64 a0_5) rfl
          have hcz28_6:=zc BK156.out 6 (.int .i64 a0_6) rfl
          have hcz28_7:=zc BK156.out 7 (.int .i64 a0_7) rfl
          have hcz28_8:=zc BK156.out 8 (.slice A0_8 l0_8.length c0_8) rfl
          have hfz28_0:=zf BK156.out 0
          have hfz28_1:=zf BK156.out 1
          have hfz28_2:=zf BK156.out 2
          have hfz28_3:=zf BK156.out 3
          have hfz28_4:=zf BK156.out 4
          have hfz28_5:=zf BK156.out 5
          have hfz28_6:=zf BK156.out 6
          have hfz28_7:=zf BK156.out 7
          have hfz28_8:=zf BK156.out 8
          go_wp2_with (first|((with_reducible refine gate_callee (f:=66) rfl ?_);refine goesL_ (some 40) rfl rfl Try.func66 (by kernel_rfl) rfl #[.int .i64 a0_3] rfl (by(try simp only[List.map_toArray,List.map_cons,List.map_nil]);first|done|rfl|(simp only[List.length_drop,List.length_take];rfl)) ?_;(with_reducible refine(mq_In.calls a0_3 false _ A21.out).mono ?_);rintro e w' ⟨rfl,⟨nd,rfl⟩⟩;refine⟨_,rfl,?_⟩))
          go_meet
          case rel=>exact⟨_,(true),(by first|rfl|(simp;done)|(simp[*];done)),H',⟨by have:=HJ3.out;have:=HJ14.out;first|omega|exact Nat.le_refl _⟩,⟨by(with_reducible repeat first|apply zd|apply ze|apply za);exact BK156.out⟩,⟨by repeat(first|(with_reducible first|exact HB.out|apply zA|apply zD|apply zE|refine zS ?_ GE156.out)|exact HB.out)⟩⟩
        case rest=>
         clear HC20
         try clear c1
         try clear c2
         try clear p2
         try clear c3
         try clear c3b0
         try clear c3b1
         try clear c6
         try clear c7
         try clear c7b0
         try clear c7b2
         try clear c8
         try clear c9
         try clear c9b0
         try clear c11
         try clear c11b0
         try clear c14
         try clear c16
         try clear c16b0
         try clear c16b1
         try clear c16b2
         try clear c19
         try clear c22
         try clear c24
         try clear hcz10_0
         try clear hcz10_1
         try clear hcz10_2
         try clear hcz10_3
         try clear hcz10_4
         try clear hcz10_5
         try clear hcz10_6
         try clear hcz10_7
         try clear hcz10_8
         try clear hcz12_0
         try clear hcz12_1
         try clear hcz12_2
         try clear hcz12_3
         try clear hcz12_4
         try clear hcz12_5
         try clear hcz12_6
         try clear hcz12_7
         try clear hcz12_8
         try clear hcz13_0
         try clear hcz13_1
         try clear hcz13_2
         try clear hcz13_3
         try clear hcz13_4
         try clear hcz13_5
         try clear hcz13_6
         try clear hcz13_7
         try clear hcz13_8
         try clear hcz17_0
         try clear hcz17_1
         try clear hcz17_2
         try clear hcz17_3
         try clear hcz17_4
         try clear hcz17_5
         try clear hcz17_6
         try clear hcz17_7
         try clear hcz17_8
         try clear hcz18_0
         try clear hcz18_1
         try clear hcz18_2
         try clear hcz18_3
         try clear hcz18_4
         try clear hcz18_5
         try clear hcz18_6
         try clear hcz18_7
         try clear hcz18_8
         try clear hcz26_0
         try clear hcz26_1
         try clear hcz26_2
         try clear hcz26_3
         try clear hcz26_4
         try clear hcz26_5
         try clear hcz26_6
         try clear hcz26_7
         try clear hcz26_8
         try clear hcz27_0
         try clear hcz27_1
         try clear hcz27_2
         try clear hcz27_3
         try clear hcz27_4
         try clear hcz27_5
         try clear hcz27_6
         try clear hcz27_7
         try clear hcz27_8
         try clear hcz28_0
         try clear hcz28_1
         try clear hcz28_2
         try clear hcz28_3
         try clear hcz28_4
         try clear hcz28_5
         try clear hcz28_6
         try clear hcz28_7
         try clear hcz28_8
         try clear hcz6_0
         try clear hcz6_1
         try clear hcz6_2
         try clear hcz6_3
         try clear hcz6_4
         try clear hcz6_5
         try clear hcz6_6
         try clear hcz6_7
         try clear hcz6_8
         try clear hcz8_0
         try clear hcz8_1
         try clear hcz8_2
         try clear hcz8_3
         try clear hcz8_4
         try clear hcz8_5
         try clear hcz8_6
         try clear hcz8_7
         try clear hcz8_8
         try clear hfz10_0
         try clear hfz10_1
         try clear hfz10_2
         try clear hfz10_3
         try clear hfz10_4
         try clear hfz10_5
         try clear hfz10_6
         try clear hfz10_7
         try clear hfz10_8
         try clear hfz12_0
         try clear hfz12_1
         try clear hfz12_2
         try clear hfz12_3
         try clear hfz12_4
         try clear hfz12_5
         try clear hfz12_6
         try clear hfz12_7
         try clear hfz12_8
         try clear hfz13_0
         try clear hfz13_1
         try clear hfz13_2
         try clear hfz13_3
         try clear hfz13_4
         try clear hfz13_5
         try clear hfz13_6
         try clear hfz13_7
         try clear hfz13_8
         try clear hfz17_0
         try clear hfz17_1
         try clear hfz17_2
         try clear hfz17_3
         try clear hfz17_4
         try clear hfz17_5
         try clear hfz17_6
         try clear hfz17_7
         try clear hfz17_8
         try clear hfz18_0
         try clear hfz18_1
         try clear hfz18_2
         try clear hfz18_3
         try clear hfz18_4
         try clear hfz18_5
         try clear hfz18_6
         try clear hfz18_7
         try clear hfz18_8
         try clear hfz26_0
         try clear hfz26_1
         try clear hfz26_2
         try clear hfz26_3
         try clear hfz26_4
         try clear hfz26_5
         try clear hfz26_6
         try clear hfz26_7
         try clear hfz26_8
         try clear hfz27_0
         try clear hfz27_1
         try clear hfz27_2
         try clear hfz27_3
         try clear hfz27_4
         try clear hfz27_5
         try clear hfz27_6
         try clear hfz27_7
         try clear hfz27_8
         try clear hfz28_0
         try clear hfz28_1
         try clear hfz28_2
         try clear hfz28_3
         try clear hfz28_4
         try clear hfz28_5
         try clear hfz28_6
         try clear hfz28_7
         try clear hfz28_8
         try clear hfz6_0
         try clear hfz6_1
         try clear hfz6_2
         try clear hfz6_3
         try clear hfz6_4
         try clear hfz6_5
         try clear hfz6_6
         try clear hfz6_7
         try clear hfz6_8
         try clear hfz8_0
         try clear hfz8_1
         try clear hfz8_2
         try clear hfz8_3
         try clear hfz8_4
         try clear hfz8_5
         try clear hfz8_6
         try clear hfz8_7
         try clear hfz8_8
         try clear p2
         obtain⟨kq,x55_19,rfl,HA,HJ19,BK156,HB⟩:=hcut
         cases kq with
         | zero=>exact absurd HA.out (by simp[mr_Check.j2])
         | succ kj19=>
          have H:=HA.out
          clear HA
          simp only[mr_Check.j2] at H
          by_cases c29:x55_19=true
          ·subst c29
           have H1:(some 2)=some r:=by rw[if_pos rfl] at H;exact H
           clear H
           have H:=H1
           clear H1
           obtain rfl:=Option.some.inj H
           go_wp2
           go_ret
           exact⟨by first|rfl|(simp[errW_none,errW_some]<;>rfl)|(simp[*,errW_none,errW_some]<;>rfl),by repeat(first|(with_reducible first|exact HB.out|apply zA|apply zD|apply zE|refine zS ?_ GE156.out)|exact HB.out)⟩
          ·replace c29:=Bool.eq_false_iff.mpr c29
           subst c29
           have H1:(if a0_1=0 then(if(!(a0_6==0)||(!(a0_7==0)))=true then(some 3) else(some 0)) else((mq_Check.f kj19 a0_6 a0_7).bind fun t161=>(if t161=0 then(if a0_6 < 1 then(some 2) else(some 0)) else(some t161))))=some r:=by rw[if_neg (show ¬(false=true) by decide)] at H;exact H
           clear H
           have H:=H1
           clear H1
           by_cases c30:a0_1=0
           ·rw[if_pos c30] at H
            have c30b0:(a0_1==0)=true:=beq_iff_eq.mpr c30
            have c30b1:(a0_1 != 0)=false:=bne_eq_false_iff_eq.mpr c30
            clear c30
            by_cases c31:(!(a0_6==0)||(!(a0_7==0)))=true
            ·rw[if_pos c31] at H
             have c31b0:(!(a0_6==0)||(!(a0_7==0)))=true:=c31
             clear c31
             obtain rfl:=Option.some.inj H
             have hcz32_0:=zc BK156.out 0 (.string a0_0) rfl
             have hcz32_1:=zc BK156.out 1 (.int .i64 a0_1) rfl
             have hcz32_2:=zc BK156.out 2 (.int .i64 a0_2) rfl
             have hcz32_3:=zc BK156.out 3 (.int .i64 a0_3) rfl
             have hcz32_4:=zc BK156.out 4 (.int .i64 a0_4) rfl
             have hcz32_5:=zc BK156.out 5 (.int .i64 a0_5) rfl
             have hcz32_6:=zc BK156.out 6 (.int .i64 a0_6) rfl
             have hcz32_7:=zc BK156.out 7 (.int .i64 a0_7) rfl
             have hcz32_8:=zc BK156.out 8 (.slice A0_8 l0_8.length c0_8) rfl
             have hfz32_0:=zf BK156.out 0
             have hfz32_1:=zf BK156.out 1
             have hfz32_2:=zf BK156.out 2
             have hfz32_3:=zf BK156.out 3
             have hfz32_4:=zf BK156.out 4
             have hfz32_5:=zf BK156.out 5
             have hfz32_6:=zf BK156.out 6
             have hfz32_7:=zf BK156.out 7
             have hfz32_8:=zf BK156.out 8
             go_wp2
             go_ret
             exact⟨by first|rfl|(simp[errW_none,errW_some]<;>rfl)|(simp[*,errW_none,errW_some]<;>rfl),by repeat(first|(with_reducible first|exact HB.out|apply zA|apply zD|apply zE|refine zS ?_ GE156.out)|exact HB.out)⟩
            ·rw[if_neg c31] at H
             have c31b0:(!(a0_6==0)||(!(a0_7==0)))=false:=by simpa using c31
             clear c31
             obtain rfl:=Option.some.inj H
             have hcz33_0:=zc BK156.out 0 (.string a0_0) rfl
             have hcz33_1:=zc BK156.out 1 (.int .i64 a0_1) rfl
             have hcz33_2:=zc BK156.out 2 (.int .i64 a0_2) rfl
             have hcz33_3:=zc BK156.out 3 (.int .i64 a0_3) rfl
             have hcz33_4:=zc BK156.out 4 (.int .i64 a0_4) rfl
             have hcz33_5:=zc BK156.out 5 (.int .i64 a0_5) rfl
             have hcz33_6:=zc BK156.out 6 (.int .i64 a0_6) rfl
             have hcz33_7:=zc BK156.out 7 (.int .i64 a0_7) rfl
             have hcz33_8:=zc BK156.out 8 (.slice A0_8 l0_8.length c0_8) rfl
             have hfz33_0:=zf BK156.out 0
             have hfz33_1:=zf BK156.out 1
             have hfz33_2:=zf BK156.out 2
             have hfz33_3:=zf BK156.out 3
             have hfz33_4:=zf BK156.out 4
             have hfz33_5:=zf BK156.out 5
             have hfz33_6:=zf BK156.out 6
             have hfz33_7:=zf BK156.out 7
             have hfz33_8:=zf BK156.out 8
             go_wp2
             go_ret
             exact⟨by first|rfl|(simp[errW_none,errW_some]<;>rfl)|(simp[*,errW_none,errW_some]<;>rfl),by repeat(first|(with_reducible first|exact HB.out|apply zA|apply zD|apply zE|refine zS ?_ GE156.out)|exact HB.out)⟩
           ·rw[if_neg c30] at H
            have c30b0:(a0_1==0)=false:=beq_eq_false_iff_ne.mpr c30
            have c30b1:(a0_1 != 0)=true:=bne_iff_ne.mpr c30
            replace H:=Option.bind_eq_some_iff.mp H
            obtain⟨t161,A340,H⟩:=H
            replace H:(if t161=0 then(if a0_6 < 1 then(some 2) else(some 0)) else(some t161))=some r:=H
            have A34:=zm A340
            clear A340
            by_cases c35:t161=0
            ·rw[if_pos c35] at H
             have c35b0:(t161==0)=true:=beq_iff_eq.mpr c35
             have c35b1:(t161 != 0)=false:=bne_eq_false_iff_eq.mpr c35
             clear c35
             by_cases c36:a0_6 < 1
             ·rw[if_pos c36] at H
              have c36b0:decide (a0_6 < 1)=true:=decide_eq_true c36
              clear c36
              obtain rfl:=Option.some.inj H
              have hcz37_0:=zc BK156.out 0 (.string a0_0) rfl
              have hcz37_1:=zc BK156.out 1 (.int .i64 a0_1) rfl
              have hcz37_2:=zc BK156.out 2 (.int .i64 a0_2) rfl
              have hcz37_3:=zc BK156.out 3 (.int .i64 a0_3) rfl
              have hcz37_4:=zc BK156.out 4 (.int .i64 a0_4) rfl
              have hcz37_5:=zc BK156.out 5 (.int .i64 a0_5) rfl
              have hcz37_6:=zc BK156.out 6 (.int .i64 a0_6) rfl
              have hcz37_7:=zc BK156.out 7 (.int .i64 a0_7) rfl
              have hcz37_8:=zc BK156.out 8 (.slice A0_8 l0_8.length c0_8) rfl
              have hfz37_0:=zf BK156.out 0
              have hfz37_1:=zf BK156.out 1
              have hfz37_2:=zf BK156.out 2
              have hfz37_3:=zf BK156.out 3
              have hfz37_4:=zf BK156.out 4
              have hfz37_5:=zf BK156.out 5
              have hfz37_6:=zf BK156.out 6
              have hfz37_7:=zf BK156.out 7
              have hfz37_8:=zf BK156.out 8
              go_wp2_with (first|((with_reducible refine gate_callee (f:=33) rfl ?_);refine goesL_ (some 65) rfl rfl Try.func33 (by kernel_rfl) rfl #[.agg #[.int .i64 a0_6,.int .i64 a0_7]] rfl (by(try simp only[List.map_toArray,List.map_cons,List.map_nil]);first|done|rfl|(simp only[List.length_drop,List.length_take];rfl)) ?_;(with_reducible refine(mq_Check.calls kj19 a0_6 a0_7 t161 _ A34.out).mono ?_);rintro e w38 ⟨rfl,hb⟩;refine⟨_,rfl,?_⟩;have n0_:=zm (zb (g:=gb156) (o:=.cells #[.string a0_0,.int .i64 a0_1,.int .i64 a0_2,.int .i64 a0_3,.int .i64 a0_4,.int .i64 a0_5,.int .i64 a0_6,.int .i64 a0_7,.slice A0_8 l0_8.length c0_8] 28 (0,0)) (by(with_reducible repeat first|apply zd|apply ze|apply za);exact BK156.out) hb);have n1_:=zm (below_step (by repeat(first|(with_reducible first|exact HB.out|apply zA|apply zD|apply zE|refine zS ?_ GE156.out)|exact HB.out)) hb);clear BK156 HB;have BK156:=n0_;have HB:=n1_;clear n0_ n1_;(try clear hb);(try clear hb2);(try clear hk);(try clear hi);have hcz39_0:=zc BK156.out 0 (.string a0_0) rfl;have hcz39_1:=zc BK156.out 1 (.int .i64 a0_1) rfl;have hcz39_2:=zc BK156.out 2 (.int .i64 a0_2) rfl;have hcz39_3:=zc BK156.out 3 (.int .i64 a0_3) rfl;have hcz39_4:=zc BK156.out 4 (.int .i64 a0_4) rfl;have hcz39_5:=zc BK156.out 5 (.int .i64 a0_5) rfl;have hcz39_6:=zc BK156.out 6 (.int .i64 a0_6) rfl;have hcz39_7:=zc BK156.out 7 (.int .i64 a0_7) rfl;have hcz39_8:=zc BK156.out 8 (.slice A0_8 l0_8.length c0_8) rfl;have hfz39_0:=zf BK156.out 0;have hfz39_1:=zf BK156.out 1;have hfz39_2:=zf BK156.out 2;have hfz39_3:=zf BK156.out 3;have hfz39_4:=zf BK156.out 4;have hfz39_5:=zf BK156.out 5;have hfz39_6:=zf BK156.out 6;have hfz39_7:=zf BK156.out 7;have hfz39_8:=zf BK156.out 8))
              go_ret
              exact⟨by first|rfl|(simp[errW_none,errW_some]<;>rfl)|(simp[*,errW_none,errW_some]<;>rfl),by repeat(first|(with_reducible first|exact HB.out|apply zA|apply zD|apply zE|refine zS ?_ GE156.out)|exact HB.out)⟩
             ·rw[if_neg c36] at H
              have c36b0:decide (a0_6 < 1)=false:=decide_eq_false c36
              clear c36
              obtain rfl:=Option.some.inj H
              have hcz40_0:=zc BK156.out 0 (.string a0_0) rfl
              have hcz40_1:=zc BK156.out 1 (.int .i64 a0_1) rfl
              have hcz40_2:=zc BK156.out 2 (.int .i64 a0_2) rfl
              have hcz40_3:=zc BK156.out 3 (.int .i64 a0_3) rfl
              have hcz40_4:=zc BK156.out 4 (.int .i64 a0_4) rfl
              have hcz40_5:=zc BK156.out 5 (.int .i64 a0_5) rfl
              have hcz40_6:=zc BK156.out 6 (.int .i64 a0_6) rfl
              have hcz40_7:=zc BK156.out 7 (.int .i64 a0_7) rfl
              have hcz40_8:=zc BK156.out 8 (.slice A0_8 l0_8.length c0_8) rfl
              have hfz40_0:=zf BK156.out 0
              have hfz40_1:=zf BK156.out 1
              have hfz40_2:=zf BK156.out 2
              have hfz40_3:=zf BK156.out 3
              have hfz40_4:=zf BK156.out 4
              have hfz40_5:=zf BK156.out 5
              have hfz40_6:=zf BK156.out 6
              have hfz40_7:=zf BK156.out 7
              have hfz40_8:=zf BK156.out 8
              go_wp2_with (first|((with_reducible refine gate_callee (f:=33) rfl ?_);refine goesL_ (some 65) rfl rfl Try.func33 (by kernel_rfl) rfl #[.agg #[.int .i64 a0_6,.int .i64 a0_7]] rfl (by(try simp only[List.map_toArray,List.map_cons,List.map_nil]);first|done|rfl|(simp only[List.length_drop,List.length_take];rfl)) ?_;(with_reducible refine(mq_Check.calls kj19 a0_6 a0_7 t161 _ A34.out).mono ?_);rintro e w41 ⟨rfl,hb⟩;refine⟨_,rfl,?_⟩;have n0_:=zm (zb (g:=gb156) (o:=.cells #[.string a0_0,.int .i64 a0_1,.int .i64 a0_2,.int .i64 a0_3,.int .i64 a0_4,.int .i64 a0_5,.int .i64 a0_6,.int .i64 a0_7,.slice A0_8 l0_8.length c0_8] 28 (0,0)) (by(with_reducible repeat first|apply zd|apply ze|apply za);exact BK156.out) hb);have n1_:=zm (below_step (by repeat(first|(with_reducible first|exact HB.out|apply zA|apply zD|apply zE|refine zS ?_ GE156.out)|exact HB.out)) hb);clear BK156 HB;have BK156:=n0_;have HB:=n1_;clear n0_ n1_;(try clear hb);(try clear hb2);(try clear hk);(try clear hi);have hcz42_0:=zc BK156.out 0 (.string a0_0) rfl;have hcz42_1:=zc BK156.out 1 (.int .i64 a0_1) rfl;have hcz42_2:=zc BK156.out 2 (.int .i64 a0_2) rfl;have hcz42_3:=zc BK156.out 3 (.int .i64 a0_3) rfl;have hcz42_4:=zc BK156.out 4 (.int .i64 a0_4) rfl;have hcz42_5:=zc BK156.out 5 (.int .i64 a0_5) rfl;have hcz42_6:=zc BK156.out 6 (.int .i64 a0_6) rfl;have hcz42_7:=zc BK156.out 7 (.int .i64 a0_7) rfl;have hcz42_8:=zc BK156.out 8 (.slice A0_8 l0_8.length c0_8) rfl;have hfz42_0:=zf BK156.out 0;have hfz42_1:=zf BK156.out 1;have hfz42_2:=zf BK156.out 2;have hfz42_3:=zf BK156.out 3;have hfz42_4:=zf BK156.out 4;have hfz42_5:=zf BK156.out 5;have hfz42_6:=zf BK156.out 6;have hfz42_7:=zf BK156.out 7;have hfz42_8:=zf BK156.out 8))
              go_ret
              exact⟨by first|rfl|(simp[errW_none,errW_some]<;>rfl)|(simp[*,errW_none,errW_some]<;>rfl),by repeat(first|(with_reducible first|exact HB.out|apply zA|apply zD|apply zE|refine zS ?_ GE156.out)|exact HB.out)⟩
            ·rw[if_neg c35] at H
             have c35b0:(t161==0)=false:=beq_eq_false_iff_ne.mpr c35
             have c35b1:(t161 != 0)=true:=bne_iff_ne.mpr c35
             obtain rfl:=Option.some.inj H
             have hcz43_0:=zc BK156.out 0 (.string a0_0) rfl
             have hcz43_1:=zc BK156.out 1 (.int .i64 a0_1) rfl
             have hcz43_2:=zc BK156.out 2 (.int .i64 a0_2) rfl
             have hcz43_3:=zc BK156.out 3 (.int .i64 a0_3) rfl
             have hcz43_4:=zc BK156.out 4 (.int .i64 a0_4) rfl
             have hcz43_5:=zc BK156.out 5 (.int .i64 a0_5) rfl
             have hcz43_6:=zc BK156.out 6 (.int .i64 a0_6) rfl
             have hcz43_7:=zc BK156.out 7 (.int .i64 a0_7) rfl
             have hcz43_8:=zc BK156.out 8 (.slice A0_8 l0_8.length c0_8) rfl
             have hfz43_0:=zf BK156.out 0
             have hfz43_1:=zf BK156.out 1
             have hfz43_2:=zf BK156.out 2
             have hfz43_3:=zf BK156.out 3
             have hfz43_4:=zf BK156.out 4
             have hfz43_5:=zf BK156.out 5
             have hfz43_6:=zf BK156.out 6
             have hfz43_7:=zf BK156.out 7
             have hfz43_8:=zf BK156.out 8
             go_wp2_with (first|((with_reducible refine gate_callee (f:=33) rfl ?_);refine goesL_ (some 65) rfl rfl Try.func33 (by kernel_rfl) rfl #[.agg #[.int .i64 a0_6,.int .i64 a0_7]] rfl (by(try simp only[List.map_toArray,List.map_cons,List.map_nil]);first|done|rfl|(simp only[List.length_drop,List.length_take];rfl)) ?_;(with_reducible refine(mq_Check.calls kj19 a0_6 a0_7 t161 _ A34.out).mono ?_);rintro e w44 ⟨rfl,hb⟩;refine⟨_,rfl,?_⟩;have n0_:=zm (zb (g:=gb156) (o:=.cells #[.string a0_0,.int .i64 a0_1,.int .i64 a0_2,.int .i64 a0_3,.int .i64 a0_4,.int .i64 a0_5,.int .i64 a0_6,.int .i64 a0_7,.slice A0_8 l0_8.length c0_8] 28 (0,0)) (by(with_reducible repeat first|apply zd|apply ze|apply za);exact BK156.out) hb);have n1_:=zm (below_step (by repeat(first|(with_reducible first|exact HB.out|apply zA|apply zD|apply zE|refine zS ?_ GE156.out)|exact HB.out)) hb);clear BK156 HB;have BK156:=n0_;have HB:=n1_;clear n0_ n1_;(try clear hb);(try clear hb2);(try clear hk);(try clear hi)))
             go_ret
             exact⟨by first|rfl|(simp[errW_none,errW_some]<;>rfl)|(simp[*,errW_none,errW_some]<;>rfl),by repeat(first|(with_reducible first|exact HB.out|apply zA|apply zD|apply zE|refine zS ?_ GE156.out)|exact HB.out)⟩
 ·rw[if_neg c3] at H
  have c3b0:(t157==0)=false:=beq_eq_false_iff_ne.mpr c3
  have c3b1:(t157 != 0)=true:=bne_iff_ne.mpr c3
  obtain rfl:=Option.some.inj H
  go_enter Try.func30,Try.ntmps30
  go_wp2_with (first|((with_reducible refine gate_dst (N:=1) rfl ?_);refine box_event ?hg (N:=1) ?hd (cs:=#[.string a0_0,.int .i64 a0_1,.int .i64 a0_2,.int .i64 a0_3,.int .i64 a0_4,.int .i64 a0_5,.int .i64 a0_6,.int .i64 a0_7,.slice A0_8 l0_8.length c0_8]) (t:=28) ?hr ?_;(case hd=>rfl);(case hg=>rfl);(case hr=>first|(go_simp;done)|(go_simp;rfl));intro gb156 hg w45 hbox hb;have n0_:=zm (below_step (by repeat(first|(with_reducible first|exact HB.out|apply zA|apply zD|apply zE)|exact HB.out)) hb);have n1_:=zm (hbox);have n2_:=zm ((by rw[hg];exact(below_size (by repeat(first|(with_reducible first|exact HB.out|apply zA|apply zD|apply zE)|exact HB.out))):w.heap.size≤gb156));have n3_:=zm ((by rw[hg];exact(below_size (by repeat(first|(with_reducible first|exact HB.out|apply zA|apply zD|apply zE)|exact HB.out))):w.heap.size≤gb156));clear HB;have HB:=n0_;have BK156:=n1_;have GW156:=n2_;have GE156:=n3_;clear n0_ n1_ n2_ n3_;clear hb hbox hg;have hcz46_0:=zc BK156.out 0 (.string a0_0) rfl;have hcz46_1:=zc BK156.out 1 (.int .i64 a0_1) rfl;have hcz46_2:=zc BK156.out 2 (.int .i64 a0_2) rfl;have hcz46_3:=zc BK156.out 3 (.int .i64 a0_3) rfl;have hcz46_4:=zc BK156.out 4 (.int .i64 a0_4) rfl;have hcz46_5:=zc BK156.out 5 (.int .i64 a0_5) rfl;have hcz46_6:=zc BK156.out 6 (.int .i64 a0_6) rfl;have hcz46_7:=zc BK156.out 7 (.int .i64 a0_7) rfl;have hcz46_8:=zc BK156.out 8 (.slice A0_8 l0_8.length c0_8) rfl;have hfz46_0:=zf BK156.out 0;have hfz46_1:=zf BK156.out 1;have hfz46_2:=zf BK156.out 2;have hfz46_3:=zf BK156.out 3;have hfz46_4:=zf BK156.out 4;have hfz46_5:=zf BK156.out 5;have hfz46_6:=zf BK156.out 6;have hfz46_7:=zf BK156.out 7;have hfz46_8:=zf BK156.out 8)|((with_reducible refine gate_callee (f:=83) rfl ?_);refine goesL_ (some 7) rfl rfl Try.func83 (by kernel_rfl) rfl #[.string a0_0] rfl (by(try simp only[List.map_toArray,List.map_cons,List.map_nil]);first|done|rfl|(simp only[List.length_drop,List.length_take];rfl)) ?_;(with_reducible refine(mq_Name.calls k a0_0 t157 _ A2.out).mono ?_);rintro e w' ⟨rfl,⟨nd,rfl⟩⟩;refine⟨_,rfl,?_⟩))
  go_ret
  exact⟨by first|rfl|(simp[errW_none,errW_some]<;>rfl)|(simp[*,errW_none,errW_some]<;>rfl),by repeat(first|(with_reducible first|exact HB.out|apply zA|apply zD|apply zE|refine zS ?_ GE156.out)|exact HB.out)⟩
end Go.Proofs.Ytkgdlbepjmgaiaa.Fea
