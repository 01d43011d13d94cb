/- Part 2 of the texts behind the last one of this claim. -/
import Derived.Test.YtkgdlbepjmgaiaaProg
import Derived.WalkLawsBesides
import Derived.Below
import Derived.Deep.Draws
import Derived.Deep.AppendLies
import Derived.Maps.AppendAt
import Derived.OwnWalk
import Derived.Laws.BytesArg
import Derived.Laws.MakeOwn
import Derived.Laws.OwnMore
import Derived.Deep.OwnRows
import Derived.Tactics
import Derived.Lib.ConvBytes
import Derived.Laws.Slices
import Derived.WalkKit
import Derived.KernelRfl
import Derived.RowKit3
import Derived.Deep.LoopGhost
import Derived.Deep.QuietTactic
import Derived.BigQuiet
import Derived.WideLaws
import Derived.Deep.DeepCutAuto
import Derived.Deep.CutBlock
import Derived.Deep.RegionHeld3
import Derived.Laws.Rows
import Derived.Lib.AppendStr
import Derived.ArgAppend
import Derived.Laws.IdiomCopy
import Derived.OrdersHeld
import Derived.Laws.BitsLemmas
import Derived.RowKit
import Derived.LoopTactic
import Derived.Outline
import Derived.IntWalk
import Derived.Test.YtkgdlbepjmgaiaaZCompares1
namespace Go.Proofs.Ytkgdlbepjmgaiaa.Fea
open Go.RowKit Go.Proofs.YtkgdlbepjmgaiaaW.PrintWords Go.Proofs.YtkgdlbepjmgaiaaW.PrintLast Go.Proofs.YtkgdlbepjmgaiaaW.PrintMore
attribute [local go_sem] max2_int min2_int max_two min_two max_three min_three max_four min_four
set_option linter.unusedVariables false
set_option linter.unusedSimpArgs false
def errW : Option Int → Value
  | none => .nilIface
  | some c => .iface 0 (.int .i64 c)
theorem errW_none : errW none = .nilIface := rfl
theorem errW_some (c : Int) : errW (some c) = .iface 0 (.int .i64 c) := rfl
theorem info28 : (Try.prog.info? 28).map (fun i => (i.zero, i.size, i.bytes)) = some (some (.agg #[(.string ⟨#[]⟩), (.int .i64 0), (.int .i64 0), (.int .i64 0), (.int .i64 0), (.int .i64 0), (.int .i64 0), (.int .i64 0), (.slice none 0 0)]), 9, 96) := by kernel_rfl
structure S106 where
  f0 : ByteArray
  f1 : Int
def z106 : S106 := ⟨(⟨#[]⟩ : ByteArray), (0 : Int)⟩
def k106 : Kd S106 := Kd.iso (Kd.pair Kd.string (Kd.int .i64)) (fun x : S106 => (x.f0, x.f1))
theorem k106_heap : Kd.Heap k106 := Kd.heap_iso _ (Kd.heap_pair Kd.heap_string (Kd.heap_int .i64))
theorem k106_open {w : World} {x : S106} {cs : List Value} (h : k106.K w x cs) : cs = [.string x.f0, .int .i64 x.f1] := by
 obtain ⟨_, _, rfl, rfl, rfl⟩ := h
 exact rfl
theorem k106_openM {w : World} {base : Nat} {ok : Nat → Prop} {x : S106} {cs : List Value} (h : k106.M w base ok x cs) : cs = [.string x.f0, .int .i64 x.f1] := by
 obtain ⟨_, _, rfl, rfl, rfl⟩ := h
 exact rfl
theorem k106_mk (w : World) (x : S106)  : k106.K w x [.string x.f0, .int .i64 x.f1] := ⟨[.string x.f0], [.int .i64 x.f1], rfl, rfl, rfl⟩
theorem k106_mkM (w : World) (base : Nat) (ok : Nat → Prop) (x : S106)  : k106.M w base ok x [.string x.f0, .int .i64 x.f1] := ⟨[.string x.f0], [.int .i64 x.f1], rfl, rfl, rfl⟩
theorem k106_mkF (W : World) (ok : Nat → Prop) (x : S106) : Kd.FK k106 W ok x [.string x.f0, .int .i64 x.f1] := fun W2 _ => k106_mk W2 x
def rd_T106 (xs : List S106) (i : Int) : S106 := xs.getD i.toNat z106
theorem at_T106 {w : World} {A : Option Addr} {n : Nat} {xs : List S106} (h : Kd.C k106 w A n xs) (i : Int) (h0 : 0 ≤ i) (h1 : i < n) : ∃ ad , A = some ad ∧ w.cell? (ad.add (i.toNat * 2)) = some (.string (rd_T106 xs i).f0) ∧ w.cell? ⟨(ad.add (i.toNat * 2)).block, (ad.add (i.toNat * 2)).off + 1, none⟩ = some (.int .i64 (rd_T106 xs i).f1) := by
 obtain ⟨ad, c, e, _, hK, hc0⟩ := Kd.C_get h z106 i h0 h1
 have hc : ∀ j u, c[j]? = some u → w.cell? (ad.add (i.toNat * 2 + j)) = some u := hc0
 obtain rfl := k106_open hK
 exact ⟨ad, e, hc 0 _ rfl, by rw [← add_field _ _ 1 (by omega)]; exact hc 1 _ rfl⟩
def rd_L4 (xs : List (List S106)) (i : Int) : (List S106) := xs.getD i.toNat ([] : List S106)
theorem at_L4 {w : World} {A : Option Addr} {n : Nat} {xs : List (List S106)} (h : Kd.C (Kd.slice 106 k106) w A n xs) (i : Int) (h0 : 0 ≤ i) (h1 : i < n) : ∃ ad A0 c0, A = some ad ∧ w.cell? (ad.add i.toNat) = some (.slice A0 (rd_L4 xs i).length c0) ∧ (rd_L4 xs i).length ≤ c0 ∧ k106.C w A0 (rd_L4 xs i).length (rd_L4 xs i) := by
 obtain ⟨ad, c, e, _, hK, hc0⟩ := Kd.C_get h ([] : List S106) i h0 h1
 have hc : ∀ j u, c[j]? = some u → w.cell? (ad.add (i.toNat * 1 + j)) = some u := hc0
 obtain ⟨A0, c0, rfl, l0, g0⟩ := hK
 exact ⟨ad, A0, c0, e, by have hq := hc 0 _ rfl; rwa [Nat.mul_one, Nat.add_zero] at hq, l0, g0⟩
structure S104 where
  f0 : Int
  f1 : Bool
  f2 : Int
  f3 : Int
  f4 : (List S106)
def z104 : S104 := ⟨(0 : Int), false, (0 : Int), (0 : Int), ([] : List S106)⟩
def k104 : Kd S104 := Kd.iso (Kd.pair (Kd.int .i64) (Kd.pair Kd.bool (Kd.pair (Kd.int .i64) (Kd.pair (Kd.int .i64) (Kd.slice 106 k106))))) (fun x : S104 => (x.f0, x.f1, x.f2, x.f3, x.f4))
theorem k104_heap : Kd.Heap k104 := Kd.heap_iso _ (Kd.heap_pair (Kd.heap_int .i64) (Kd.heap_pair Kd.heap_bool (Kd.heap_pair (Kd.heap_int .i64) (Kd.heap_pair (Kd.heap_int .i64) (Kd.heap_slice 106 k106_heap)))))
theorem k104_open {w : World} {x : S104} {cs : List Value} (h : k104.K w x cs) : ∃ A4 c4, cs = [.int .i64 x.f0, .bool x.f1, .int .i64 x.f2, .int .i64 x.f3, .slice A4 x.f4.length c4] ∧ x.f4.length ≤ c4 ∧ k106.C w A4 x.f4.length x.f4 := by
 obtain ⟨_, _, rfl, rfl, ⟨_, _, rfl, rfl, ⟨_, _, rfl, rfl, ⟨_, _, rfl, rfl, ⟨A4, c4, rfl, l4, g4⟩⟩⟩⟩⟩ := h
 exact ⟨A4, c4, rfl, l4, g4⟩
theorem k104_openM {w : World} {base : Nat} {ok : Nat → Prop} {x : S104} {cs : List Value} (h : k104.M w base ok x cs) : ∃ v4, cs = [.int .i64 x.f0, .bool x.f1, .int .i64 x.f2, .int .i64 x.f3, v4] ∧ k106.R 106 w base ok v4 x.f4 := by
 obtain ⟨_, _, rfl, rfl, ⟨_, _, rfl, rfl, ⟨_, _, rfl, rfl, ⟨_, _, rfl, rfl, ⟨v4, rfl, g4⟩⟩⟩⟩⟩ := h
 exact ⟨v4, rfl, g4⟩
theorem k104_mk (w : World) (x : S104) {A4 : Option Addr} {c4 : Nat} (l4 : x.f4.length ≤ c4) (g4 : k106.C w A4 x.f4.length x.f4) : k104.K w x [.int .i64 x.f0, .bool x.f1, .int .i64 x.f2, .int .i64 x.f3, .slice A4 x.f4.length c4] := ⟨[.int .i64 x.f0], [.bool x.f1, .int .i64 x.f2, .int .i64 x.f3, .slice A4 x.f4.length c4], rfl, rfl, ⟨[.bool x.f1], [.int .i64 x.f2, .int .i64 x.f3, .slice A4 x.f4.length c4], rfl, rfl, ⟨[.int .i64 x.f2], [.int .i64 x.f3, .slice A4 x.f4.length c4], rfl, rfl, ⟨[.int .i64 x.f3], [.slice A4 x.f4.length c4], rfl, rfl, ⟨A4, c4, rfl, l4, g4⟩⟩⟩⟩⟩
theorem k104_mkM (w : World) (base : Nat) (ok : Nat → Prop) (x : S104) {v4 : Value} (g4 : k106.R 106 w base ok v4 x.f4) : k104.M w base ok x [.int .i64 x.f0, .bool x.f1, .int .i64 x.f2, .int .i64 x.f3, v4] := ⟨[.int .i64 x.f0], [.bool x.f1, .int .i64 x.f2, .int .i64 x.f3, v4], rfl, rfl, ⟨[.bool x.f1], [.int .i64 x.f2, .int .i64 x.f3, v4], rfl, rfl, ⟨[.int .i64 x.f2], [.int .i64 x.f3, v4], rfl, rfl, ⟨[.int .i64 x.f3], [v4], rfl, rfl, ⟨v4, rfl, g4⟩⟩⟩⟩⟩
theorem k104_openF {W : World} {ok : Nat → Prop} {x : S104} {cs : List Value} (h : Kd.FK k104 W ok x cs) : ∃ A4 c4, cs = [.int .i64 x.f0, .bool x.f1, .int .i64 x.f2, .int .i64 x.f3, .slice A4 x.f4.length c4] ∧ x.f4.length ≤ c4 ∧ Kd.F k106 W ok A4 x.f4.length x.f4 := by
 obtain ⟨A4, c4, rfl, l4, _⟩ := k104_open (Kd.FK_now h)
 exact ⟨A4, c4, rfl, l4, (fun W' hW => by obtain ⟨A4_, c4_, he, l4_, g4_⟩ := k104_open (h W' hW); injection (Option.some.inj (show some (Value.slice A4 x.f4.length c4) = some (Value.slice A4_ x.f4.length c4_) from congrArg (fun l => l[4]?) he)) with ha_ _ _; rw [ha_]; exact g4_)⟩
theorem k104_mkF (W : World) (ok : Nat → Prop) (x : S104) {A4 : Option Addr} {c4 : Nat} (l4 : x.f4.length ≤ c4) (g4 : Kd.F k106 W ok A4 x.f4.length x.f4) : Kd.FK k104 W ok x [.int .i64 x.f0, .bool x.f1, .int .i64 x.f2, .int .i64 x.f3, .slice A4 x.f4.length c4] := fun W2 hW => k104_mk W2 x l4 (g4 W2 hW)
def rd_T104 (xs : List S104) (i : Int) : S104 := xs.getD i.toNat z104
theorem at_T104 {w : World} {A : Option Addr} {n : Nat} {xs : List S104} (h : Kd.C k104 w A n xs) (i : Int) (h0 : 0 ≤ i) (h1 : i < n) : ∃ ad A4 c4, A = some ad ∧ w.cell? (ad.add (i.toNat * 5)) = some (.int .i64 (rd_T104 xs i).f0) ∧ w.cell? ⟨(ad.add (i.toNat * 5)).block, (ad.add (i.toNat * 5)).off + 1, none⟩ = some (.bool (rd_T104 xs i).f1) ∧ w.cell? ⟨(ad.add (i.toNat * 5)).block, (ad.add (i.toNat * 5)).off + 2, none⟩ = some (.int .i64 (rd_T104 xs i).f2) ∧ w.cell? ⟨(ad.add (i.toNat * 5)).block, (ad.add (i.toNat * 5)).off + 3, none⟩ = some (.int .i64 (rd_T104 xs i).f3) ∧ w.cell? ⟨(ad.add (i.toNat * 5)).block, (ad.add (i.toNat * 5)).off + 4, none⟩ = some (.slice A4 (rd_T104 xs i).f4.length c4) ∧ (rd_T104 xs i).f4.length ≤ c4 ∧ k106.C w A4 (rd_T104 xs i).f4.length (rd_T104 xs i).f4 := by
 obtain ⟨ad, c, e, _, hK, hc0⟩ := Kd.C_get h z104 i h0 h1
 have hc : ∀ j u, c[j]? = some u → w.cell? (ad.add (i.toNat * 5 + j)) = some u := hc0
 obtain ⟨A4, c4, rfl, l4, g4⟩ := k104_open hK
 exact ⟨ad, A4, c4, e, hc 0 _ rfl, by rw [← add_field _ _ 1 (by omega)]; exact hc 1 _ rfl, by rw [← add_field _ _ 2 (by omega)]; exact hc 2 _ rfl, by rw [← add_field _ _ 3 (by omega)]; exact hc 3 _ rfl, by rw [← add_field _ _ 4 (by omega)]; exact hc 4 _ rfl, l4, g4⟩
structure S23 where
  f0 : Int
  f1 : Int
  f2 : Int
def z23 : S23 := ⟨(0 : Int), (0 : Int), (0 : Int)⟩
def k23 : Kd S23 := Kd.iso (Kd.pair (Kd.int .i64) (Kd.pair (Kd.int .i64) (Kd.int .i64))) (fun x : S23 => (x.f0, x.f1, x.f2))
theorem k23_heap : Kd.Heap k23 := Kd.heap_iso _ (Kd.heap_pair (Kd.heap_int .i64) (Kd.heap_pair (Kd.heap_int .i64) (Kd.heap_int .i64)))
theorem k23_open {w : World} {x : S23} {cs : List Value} (h : k23.K w x cs) : cs = [.int .i64 x.f0, .int .i64 x.f1, .int .i64 x.f2] := by
 obtain ⟨_, _, rfl, rfl, ⟨_, _, rfl, rfl, rfl⟩⟩ := h
 exact rfl
theorem k23_openM {w : World} {base : Nat} {ok : Nat → Prop} {x : S23} {cs : List Value} (h : k23.M w base ok x cs) : cs = [.int .i64 x.f0, .int .i64 x.f1, .int .i64 x.f2] := by
 obtain ⟨_, _, rfl, rfl, ⟨_, _, rfl, rfl, rfl⟩⟩ := h
 exact rfl
theorem k23_mk (w : World) (x : S23)  : k23.K w x [.int .i64 x.f0, .int .i64 x.f1, .int .i64 x.f2] := ⟨[.int .i64 x.f0], [.int .i64 x.f1, .int .i64 x.f2], rfl, rfl, ⟨[.int .i64 x.f1], [.int .i64 x.f2], rfl, rfl, rfl⟩⟩
theorem k23_mkM (w : World) (base : Nat) (ok : Nat → Prop) (x : S23)  : k23.M w base ok x [.int .i64 x.f0, .int .i64 x.f1, .int .i64 x.f2] := ⟨[.int .i64 x.f0], [.int .i64 x.f1, .int .i64 x.f2], rfl, rfl, ⟨[.int .i64 x.f1], [.int .i64 x.f2], rfl, rfl, rfl⟩⟩
theorem k23_mkF (W : World) (ok : Nat → Prop) (x : S23) : Kd.FK k23 W ok x [.int .i64 x.f0, .int .i64 x.f1, .int .i64 x.f2] := fun W2 _ => k23_mk W2 x
def rd_T23 (xs : List S23) (i : Int) : S23 := xs.getD i.toNat z23
theorem at_T23 {w : World} {A : Option Addr} {n : Nat} {xs : List S23} (h : Kd.C k23 w A n xs) (i : Int) (h0 : 0 ≤ i) (h1 : i < n) : ∃ ad , A = some ad ∧ w.cell? (ad.add (i.toNat * 3)) = some (.int .i64 (rd_T23 xs i).f0) ∧ w.cell? ⟨(ad.add (i.toNat * 3)).block, (ad.add (i.toNat * 3)).off + 1, none⟩ = some (.int .i64 (rd_T23 xs i).f1) ∧ w.cell? ⟨(ad.add (i.toNat * 3)).block, (ad.add (i.toNat * 3)).off + 2, none⟩ = some (.int .i64 (rd_T23 xs i).f2) := by
 obtain ⟨ad, c, e, _, hK, hc0⟩ := Kd.C_get h z23 i h0 h1
 have hc : ∀ j u, c[j]? = some u → w.cell? (ad.add (i.toNat * 3 + j)) = some u := hc0
 obtain rfl := k23_open hK
 exact ⟨ad, e, hc 0 _ rfl, by rw [← add_field _ _ 1 (by omega)]; exact hc 1 _ rfl, by rw [← add_field _ _ 2 (by omega)]; exact hc 2 _ rfl⟩
structure S25 where
  f0 : Int
  f1 : Int
def z25 : S25 := ⟨(0 : Int), (0 : Int)⟩
def k25 : Kd S25 := Kd.iso (Kd.pair (Kd.int .i64) (Kd.int .i64)) (fun x : S25 => (x.f0, x.f1))
theorem k25_heap : Kd.Heap k25 := Kd.heap_iso _ (Kd.heap_pair (Kd.heap_int .i64) (Kd.heap_int .i64))
theorem k25_open {w : World} {x : S25} {cs : List Value} (h : k25.K w x cs) : cs = [.int .i64 x.f0, .int .i64 x.f1] := by
 obtain ⟨_, _, rfl, rfl, rfl⟩ := h
 exact rfl
theorem k25_openM {w : World} {base : Nat} {ok : Nat → Prop} {x : S25} {cs : List Value} (h : k25.M w base ok x cs) : cs = [.int .i64 x.f0, .int .i64 x.f1] := by
 obtain ⟨_, _, rfl, rfl, rfl⟩ := h
 exact rfl
theorem k25_mk (w : World) (x : S25)  : k25.K w x [.int .i64 x.f0, .int .i64 x.f1] := ⟨[.int .i64 x.f0], [.int .i64 x.f1], rfl, rfl, rfl⟩
theorem k25_mkM (w : World) (base : Nat) (ok : Nat → Prop) (x : S25)  : k25.M w base ok x [.int .i64 x.f0, .int .i64 x.f1] := ⟨[.int .i64 x.f0], [.int .i64 x.f1], rfl, rfl, rfl⟩
theorem k25_mkF (W : World) (ok : Nat → Prop) (x : S25) : Kd.FK k25 W ok x [.int .i64 x.f0, .int .i64 x.f1] := fun W2 _ => k25_mk W2 x
def rd_T25 (xs : List S25) (i : Int) : S25 := xs.getD i.toNat z25
theorem at_T25 {w : World} {A : Option Addr} {n : Nat} {xs : List S25} (h : Kd.C k25 w A n xs) (i : Int) (h0 : 0 ≤ i) (h1 : i < n) : ∃ ad , A = some ad ∧ w.cell? (ad.add (i.toNat * 2)) = some (.int .i64 (rd_T25 xs i).f0) ∧ w.cell? ⟨(ad.add (i.toNat * 2)).block, (ad.add (i.toNat * 2)).off + 1, none⟩ = some (.int .i64 (rd_T25 xs i).f1) := by
 obtain ⟨ad, c, e, _, hK, hc0⟩ := Kd.C_get h z25 i h0 h1
 have hc : ∀ j u, c[j]? = some u → w.cell? (ad.add (i.toNat * 2 + j)) = some u := hc0
 obtain rfl := k25_open hK
 exact ⟨ad, e, hc 0 _ rfl, by rw [← add_field _ _ 1 (by omega)]; exact hc 1 _ rfl⟩
def rd_L8 (xs : List (List S104)) (i : Int) : (List S104) := xs.getD i.toNat ([] : List S104)
theorem at_L8 {w : World} {A : Option Addr} {n : Nat} {xs : List (List S104)} (h : Kd.C (Kd.slice 104 k104) w A n xs) (i : Int) (h0 : 0 ≤ i) (h1 : i < n) : ∃ ad A0 c0, A = some ad ∧ w.cell? (ad.add i.toNat) = some (.slice A0 (rd_L8 xs i).length c0) ∧ (rd_L8 xs i).length ≤ c0 ∧ k104.C w A0 (rd_L8 xs i).length (rd_L8 xs i) := by
 obtain ⟨ad, c, e, _, hK, hc0⟩ := Kd.C_get h ([] : List S104) i h0 h1
 have hc : ∀ j u, c[j]? = some u → w.cell? (ad.add (i.toNat * 1 + j)) = some u := hc0
 obtain ⟨A0, c0, rfl, l0, g0⟩ := hK
 exact ⟨ad, A0, c0, e, by have hq := hc 0 _ rfl; rwa [Nat.mul_one, Nat.add_zero] at hq, l0, g0⟩
structure S28 where
  f0 : ByteArray
  f1 : Int
  f2 : Int
  f3 : S23
  f4 : S25
  f5 : (List S104)
def z28 : S28 := ⟨(⟨#[]⟩ : ByteArray), (0 : Int), (0 : Int), z23, z25, ([] : List S104)⟩
def k28 : Kd S28 := Kd.iso (Kd.pair Kd.string (Kd.pair (Kd.int .i64) (Kd.pair (Kd.int .i64) (Kd.pair k23 (Kd.pair k25 (Kd.slice 104 k104)))))) (fun x : S28 => (x.f0, x.f1, x.f2, x.f3, x.f4, x.f5))
theorem k28_heap : Kd.Heap k28 := Kd.heap_iso _ (Kd.heap_pair Kd.heap_string (Kd.heap_pair (Kd.heap_int .i64) (Kd.heap_pair (Kd.heap_int .i64) (Kd.heap_pair k23_heap (Kd.heap_pair k25_heap (Kd.heap_slice 104 k104_heap))))))
theorem k28_open {w : World} {x : S28} {cs : List Value} (h : k28.K w x cs) : ∃ A8 c8, cs = [.string x.f0, .int .i64 x.f1, .int .i64 x.f2, .int .i64 x.f3.f0, .int .i64 x.f3.f1, .int .i64 x.f3.f2, .int .i64 x.f4.f0, .int .i64 x.f4.f1, .slice A8 x.f5.length c8] ∧ x.f5.length ≤ c8 ∧ k104.C w A8 x.f5.length x.f5 := by
 obtain ⟨_, _, rfl, rfl, ⟨_, _, rfl, rfl, ⟨_, _, rfl, rfl, ⟨_, _, rfl, s3, ⟨_, _, rfl, s6, ⟨A8, c8, rfl, l8, g8⟩⟩⟩⟩⟩⟩ := h
 obtain rfl := k23_open s3
 obtain rfl := k25_open s6
 exact ⟨A8, c8, rfl, l8, g8⟩
theorem k28_openM {w : World} {base : Nat} {ok : Nat → Prop} {x : S28} {cs : List Value} (h : k28.M w base ok x cs) : ∃ v8, cs = [.string x.f0, .int .i64 x.f1, .int .i64 x.f2, .int .i64 x.f3.f0, .int .i64 x.f3.f1, .int .i64 x.f3.f2, .int .i64 x.f4.f0, .int .i64 x.f4.f1, v8] ∧ k104.R 104 w base ok v8 x.f5 := by
 obtain ⟨_, _, rfl, rfl, ⟨_, _, rfl, rfl, ⟨_, _, rfl, rfl, ⟨_, _, rfl, s3, ⟨_, _, rfl, s6, ⟨v8, rfl, g8⟩⟩⟩⟩⟩⟩ := h
 obtain rfl := k23_openM s3
 obtain rfl := k25_openM s6
 exact ⟨v8, rfl, g8⟩
theorem k28_mk (w : World) (x : S28) {A8 : Option Addr} {c8 : Nat} (l8 : x.f5.length ≤ c8) (g8 : k104.C w A8 x.f5.length x.f5) : k28.K w x [.string x.f0, .int .i64 x.f1, .int .i64 x.f2, .int .i64 x.f3.f0, .int .i64 x.f3.f1, .int .i64 x.f3.f2, .int .i64 x.f4.f0, .int .i64 x.f4.f1, .slice A8 x.f5.length c8] := ⟨[.string x.f0], [.int .i64 x.f1, .int .i64 x.f2, .int .i64 x.f3.f0, .int .i64 x.f3.f1, .int .i64 x.f3.f2, .int .i64 x.f4.f0, .int .i64 x.f4.f1, .slice A8 x.f5.length c8], rfl, rfl, ⟨[.int .i64 x.f1], [.int .i64 x.f2, .int .i64 x.f3.f0, .int .i64 x.f3.f1, .int .i64 x.f3.f2, .int .i64 x.f4.f0, .int .i64 x.f4.f1, .slice A8 x.f5.length c8], rfl, rfl, ⟨[.int .i64 x.f2], [.int .i64 x.f3.f0, .int .i64 x.f3.f1, .int .i64 x.f3.f2, .int .i64 x.f4.f0, .int .i64 x.f4.f1, .slice A8 x.f5.length c8], rfl, rfl, ⟨[.int .i64 x.f3.f0, .int .i64 x.f3.f1, .int .i64 x.f3.f2], [.int .i64 x.f4.f0, .int .i64 x.f4.f1, .slice A8 x.f5.length c8], rfl, (k23_mk w x.f3 ), ⟨[.int .i64 x.f4.f0, .int .i64 x.f4.f1], [.slice A8 x.f5.length c8], rfl, (k25_mk w x.f4 ), ⟨A8, c8, rfl, l8, g8⟩⟩⟩⟩⟩⟩
theorem k28_mkM (w : World) (base : Nat) (ok : Nat → Prop) (x : S28) {v8 : Value} (g8 : k104.R 104 w base ok v8 x.f5) : k28.M w base ok x [.string x.f0, .int .i64 x.f1, .int .i64 x.f2, .int .i64 x.f3.f0, .int .i64 x.f3.f1, .int .i64 x.f3.f2, .int .i64 x.f4.f0, .int .i64 x.f4.f1, v8] := ⟨[.string x.f0], [.int .i64 x.f1, .int .i64 x.f2, .int .i64 x.f3.f0, .int .i64 x.f3.f1, .int .i64 x.f3.f2, .int .i64 x.f4.f0, .int .i64 x.f4.f1, v8], rfl, rfl, ⟨[.int .i64 x.f1], [.int .i64 x.f2, .int .i64 x.f3.f0, .int .i64 x.f3.f1, .int .i64 x.f3.f2, .int .i64 x.f4.f0, .int .i64 x.f4.f1, v8], rfl, rfl, ⟨[.int .i64 x.f2], [.int .i64 x.f3.f0, .int .i64 x.f3.f1, .int .i64 x.f3.f2, .int .i64 x.f4.f0, .int .i64 x.f4.f1, v8], rfl, rfl, ⟨[.int .i64 x.f3.f0, .int .i64 x.f3.f1, .int .i64 x.f3.f2], [.int .i64 x.f4.f0, .int .i64 x.f4.f1, v8], rfl, (k23_mkM w base ok x.f3 ), ⟨[.int .i64 x.f4.f0, .int .i64 x.f4.f1], [v8], rfl, (k25_mkM w base ok x.f4 ), ⟨v8, rfl, g8⟩⟩⟩⟩⟩⟩
theorem k28_openF {W : World} {ok : Nat → Prop} {x : S28} {cs : List Value} (h : Kd.FK k28 W ok x cs) : ∃ A8 c8, cs = [.string x.f0, .int .i64 x.f1, .int .i64 x.f2, .int .i64 x.f3.f0, .int .i64 x.f3.f1, .int .i64 x.f3.f2, .int .i64 x.f4.f0, .int .i64 x.f4.f1, .slice A8 x.f5.length c8] ∧ x.f5.length ≤ c8 ∧ Kd.F k104 W ok A8 x.f5.length x.f5 := by
 obtain ⟨A8, c8, rfl, l8, _⟩ := k28_open (Kd.FK_now h)
 exact ⟨A8, c8, rfl, l8, (fun W' hW => by obtain ⟨A8_, c8_, he, l8_, g8_⟩ := k28_open (h W' hW); injection (Option.some.inj (show some (Value.slice A8 x.f5.length c8) = some (Value.slice A8_ x.f5.length c8_) from congrArg (fun l => l[8]?) he)) with ha_ _ _; rw [ha_]; exact g8_)⟩
theorem k28_mkF (W : World) (ok : Nat → Prop) (x : S28) {A8 : Option Addr} {c8 : Nat} (l8 : x.f5.length ≤ c8) (g8 : Kd.F k104 W ok A8 x.f5.length x.f5) : Kd.FK k28 W ok x [.string x.f0, .int .i64 x.f1, .int .i64 x.f2, .int .i64 x.f3.f0, .int .i64 x.f3.f1, .int .i64 x.f3.f2, .int .i64 x.f4.f0, .int .i64 x.f4.f1, .slice A8 x.f5.length c8] := fun W2 hW => k28_mk W2 x l8 (g8 W2 hW)
def rd_T28 (xs : List S28) (i : Int) : S28 := xs.getD i.toNat z28
theorem at_T28 {w : World} {A : Option Addr} {n : Nat} {xs : List S28} (h : Kd.C k28 w A n xs) (i : Int) (h0 : 0 ≤ i) (h1 : i < n) : ∃ ad A8 c8, A = some ad ∧ w.cell? (ad.add (i.toNat * 9)) = some (.string (rd_T28 xs i).f0) ∧ w.cell? ⟨(ad.add (i.toNat * 9)).block, (ad.add (i.toNat * 9)).off + 1, none⟩ = some (.int .i64 (rd_T28 xs i).f1) ∧ w.cell? ⟨(ad.add (i.toNat * 9)).block, (ad.add (i.toNat * 9)).off + 2, none⟩ = some (.int .i64 (rd_T28 xs i).f2) ∧ w.cell? ⟨(ad.add (i.toNat * 9)).block, (ad.add (i.toNat * 9)).off + 3, none⟩ = some (.int .i64 (rd_T28 xs i).f3.f0) ∧ w.cell? ⟨(ad.add (i.toNat * 9)).block, (ad.add (i.toNat * 9)).off + 4, none⟩ = some (.int .i64 (rd_T28 xs i).f3.f1) ∧ w.cell? ⟨(ad.add (i.toNat * 9)).block, (ad.add (i.toNat * 9)).off + 5, none⟩ = some (.int .i64 (rd_T28 xs i).f3.f2) ∧ w.cell? ⟨(ad.add (i.toNat * 9)).block, (ad.add (i.toNat * 9)).off + 6, none⟩ = some (.int .i64 (rd_T28 xs i).f4.f0) ∧ w.cell? ⟨(ad.add (i.toNat * 9)).block, (ad.add (i.toNat * 9)).off + 7, none⟩ = some (.int .i64 (rd_T28 xs i).f4.f1) ∧ w.cell? ⟨(ad.add (i.toNat * 9)).block, (ad.add (i.toNat * 9)).off + 8, none⟩ = some (.slice A8 (rd_T28 xs i).f5.length c8) ∧ (rd_T28 xs i).f5.length ≤ c8 ∧ k104.C w A8 (rd_T28 xs i).f5.length (rd_T28 xs i).f5 := by
 obtain ⟨ad, c, e, _, hK, hc0⟩ := Kd.C_get h z28 i h0 h1
 have hc : ∀ j u, c[j]? = some u → w.cell? (ad.add (i.toNat * 9 + j)) = some u := hc0
 obtain ⟨A8, c8, rfl, l8, g8⟩ := k28_open hK
 exact ⟨ad, A8, c8, e, hc 0 _ rfl, by rw [← add_field _ _ 1 (by omega)]; exact hc 1 _ rfl, by rw [← add_field _ _ 2 (by omega)]; exact hc 2 _ rfl, by rw [← add_field _ _ 3 (by omega)]; exact hc 3 _ rfl, by rw [← add_field _ _ 4 (by omega)]; exact hc 4 _ rfl, by rw [← add_field _ _ 5 (by omega)]; exact hc 5 _ rfl, by rw [← add_field _ _ 6 (by omega)]; exact hc 6 _ rfl, by rw [← add_field _ _ 7 (by omega)]; exact hc 7 _ rfl, by rw [← add_field _ _ 8 (by omega)]; exact hc 8 _ rfl, l8, g8⟩
end Go.Proofs.Ytkgdlbepjmgaiaa.Fea
namespace Go.Proofs.Ytkgdlbepjmgaiaa.Fea
open Go.RowKit Go.Proofs.YtkgdlbepjmgaiaaW.PrintWords Go.Proofs.YtkgdlbepjmgaiaaW.PrintLast Go.Proofs.YtkgdlbepjmgaiaaW.PrintMore
theorem zc {w : World} {g : Nat} {cs : Array Value} {t : TypeId} (h : w.heap[g]? = some (.cells cs t)) (i : Nat) (v : Value) (hv : cs[i]? = some v) : w.cell? ⟨g, i, none⟩ = some v := (blk_cell h i).trans hv
theorem zl {w : World} {p : Addr} {v : Value} {g : Nat} (h : w.cell? p = some v) (hg : w.heap.size ≤ g) : p.block ≠ g := Nat.ne_of_lt (Nat.lt_of_lt_of_le (World.block_lt_of_cell? _ _ h) hg)
theorem zP {w : World} {g : Nat} {t : TypeId} {c0 c1 c2 c3 c4 c5 c6 c7 c8 : Value} (h : w.heap[g]? = some (.cells #[c0, c1, c2, c3, c4, c5, c6, c7, c8] t (0, 0))) (v0 v1 v2 v3 v4 v5 v6 v7 v8 : Value) : (((((((((w.setCell ⟨g, 0, none⟩ v0).setCell ⟨g, 1, none⟩ v1).setCell ⟨g, 2, none⟩ v2).setCell ⟨g, 3, none⟩ v3).setCell ⟨g, 4, none⟩ v4).setCell ⟨g, 5, none⟩ v5).setCell ⟨g, 6, none⟩ v6).setCell ⟨g, 7, none⟩ v7).setCell ⟨g, 8, none⟩ v8).heap[g]? = some (.cells #[v0, v1, v2, v3, v4, v5, v6, v7, v8] t (0, 0)) := by
  have h0 : (w.setCell ⟨g, 0, none⟩ v0).heap[g]? = some (.cells #[v0, c1, c2, c3, c4, c5, c6, c7, c8] t (0, 0)) := blk_put h 0 v0 rfl
  have h1 : ((w.setCell ⟨g, 0, none⟩ v0).setCell ⟨g, 1, none⟩ v1).heap[g]? = some (.cells #[v0, v1, c2, c3, c4, c5, c6, c7, c8] t (0, 0)) := blk_put h0 1 v1 rfl
  have h2 : (((w.setCell ⟨g, 0, none⟩ v0).setCell ⟨g, 1, none⟩ v1).setCell ⟨g, 2, none⟩ v2).heap[g]? = some (.cells #[v0, v1, v2, c3, c4, c5, c6, c7, c8] t (0, 0)) := blk_put h1 2 v2 rfl
  have h3 : ((((w.setCell ⟨g, 0, none⟩ v0).setCell ⟨g, 1, none⟩ v1).setCell ⟨g, 2, none⟩ v2).setCell ⟨g, 3, none⟩ v3).heap[g]? = some (.cells #[v0, v1, v2, v3, c4, c5, c6, c7, c8] t (0, 0)) := blk_put h2 3 v3 rfl
  have h4 : (((((w.setCell ⟨g, 0, none⟩ v0).setCell ⟨g, 1, none⟩ v1).setCell ⟨g, 2, none⟩ v2).setCell ⟨g, 3, none⟩ v3).setCell ⟨g, 4, none⟩ v4).heap[g]? = some (.cells #[v0, v1, v2, v3, v4, c5, c6, c7, c8] t (0, 0)) := blk_put h3 4 v4 rfl
  have h5 : ((((((w.setCell ⟨g, 0, none⟩ v0).setCell ⟨g, 1, none⟩ v1).setCell ⟨g, 2, none⟩ v2).setCell ⟨g, 3, none⟩ v3).setCell ⟨g, 4, none⟩ v4).setCell ⟨g, 5, none⟩ v5).heap[g]? = some (.cells #[v0, v1, v2, v3, v4, v5, c6, c7, c8] t (0, 0)) := blk_put h4 5 v5 rfl
  have h6 : (((((((w.setCell ⟨g, 0, none⟩ v0).setCell ⟨g, 1, none⟩ v1).setCell ⟨g, 2, none⟩ v2).setCell ⟨g, 3, none⟩ v3).setCell ⟨g, 4, none⟩ v4).setCell ⟨g, 5, none⟩ v5).setCell ⟨g, 6, none⟩ v6).heap[g]? = some (.cells #[v0, v1, v2, v3, v4, v5, v6, c7, c8] t (0, 0)) := blk_put h5 6 v6 rfl
  have h7 : ((((((((w.setCell ⟨g, 0, none⟩ v0).setCell ⟨g, 1, none⟩ v1).setCell ⟨g, 2, none⟩ v2).setCell ⟨g, 3, none⟩ v3).setCell ⟨g, 4, none⟩ v4).setCell ⟨g, 5, none⟩ v5).setCell ⟨g, 6, none⟩ v6).setCell ⟨g, 7, none⟩ v7).heap[g]? = some (.cells #[v0, v1, v2, v3, v4, v5, v6, v7, c8] t (0, 0)) := blk_put h6 7 v7 rfl
  have h8 : (((((((((w.setCell ⟨g, 0, none⟩ v0).setCell ⟨g, 1, none⟩ v1).setCell ⟨g, 2, none⟩ v2).setCell ⟨g, 3, none⟩ v3).setCell ⟨g, 4, none⟩ v4).setCell ⟨g, 5, none⟩ v5).setCell ⟨g, 6, none⟩ v6).setCell ⟨g, 7, none⟩ v7).setCell ⟨g, 8, none⟩ v8).heap[g]? = some (.cells #[v0, v1, v2, v3, v4, v5, v6, v7, v8] t (0, 0)) := blk_put h7 8 v8 rfl
  exact h8
theorem zF {w : World} {q g : Nat} {t : TypeId} {cs : Array Value} (h : w.heap[q]? = some (.cells cs t (0, 0))) (hn : q ≠ g) (v0 v1 v2 v3 v4 v5 v6 v7 v8 : Value) : (((((((((w.setCell ⟨g, 0, none⟩ v0).setCell ⟨g, 1, none⟩ v1).setCell ⟨g, 2, none⟩ v2).setCell ⟨g, 3, none⟩ v3).setCell ⟨g, 4, none⟩ v4).setCell ⟨g, 5, none⟩ v5).setCell ⟨g, 6, none⟩ v6).setCell ⟨g, 7, none⟩ v7).setCell ⟨g, 8, none⟩ v8).heap[q]? = some (.cells cs t (0, 0)) := by
  refine blk_far ?_ (p := ⟨g, 8, none⟩) hn v8
  refine blk_far ?_ (p := ⟨g, 7, none⟩) hn v7
  refine blk_far ?_ (p := ⟨g, 6, none⟩) hn v6
  refine blk_far ?_ (p := ⟨g, 5, none⟩) hn v5
  refine blk_far ?_ (p := ⟨g, 4, none⟩) hn v4
  refine blk_far ?_ (p := ⟨g, 3, none⟩) hn v3
  refine blk_far ?_ (p := ⟨g, 2, none⟩) hn v2
  refine blk_far ?_ (p := ⟨g, 1, none⟩) hn v1
  refine blk_far ?_ (p := ⟨g, 0, none⟩) hn v0
  exact h
theorem zV {α : Type} {d : Kd α} {e : TypeId} {w : World} {base : Nat} {ok : Nat → Prop} {v : Value} {xs : List α} (g : Nat) (h : Kd.V d e w base ok v xs) (hok : ∀ k, ok k → k ≠ g) (v0 v1 v2 v3 v4 v5 v6 v7 v8 : Value) : Kd.V d e (((((((((w.setCell ⟨g, 0, none⟩ v0).setCell ⟨g, 1, none⟩ v1).setCell ⟨g, 2, none⟩ v2).setCell ⟨g, 3, none⟩ v3).setCell ⟨g, 4, none⟩ v4).setCell ⟨g, 5, none⟩ v5).setCell ⟨g, 6, none⟩ v6).setCell ⟨g, 7, none⟩ v7).setCell ⟨g, 8, none⟩ v8) base ok v xs := by
  refine Kd.V_far (p := ⟨g, 8, none⟩) ?_ hok v8
  refine Kd.V_far (p := ⟨g, 7, none⟩) ?_ hok v7
  refine Kd.V_far (p := ⟨g, 6, none⟩) ?_ hok v6
  refine Kd.V_far (p := ⟨g, 5, none⟩) ?_ hok v5
  refine Kd.V_far (p := ⟨g, 4, none⟩) ?_ hok v4
  refine Kd.V_far (p := ⟨g, 3, none⟩) ?_ hok v3
  refine Kd.V_far (p := ⟨g, 2, none⟩) ?_ hok v2
  refine Kd.V_far (p := ⟨g, 1, none⟩) ?_ hok v1
  refine Kd.V_far (p := ⟨g, 0, none⟩) ?_ hok v0
  exact h
abbrev zf := @blk_frozen
abbrev zd := @blk_drewN
abbrev ze := @blk_drew
abbrev za := @blk_alloc
abbrev zb := @blk_below
abbrev zA := @below_alloc
abbrev zD := @pw_below_drewN
abbrev zE := @below_drew1
abbrev zS := @below_set
abbrev zm := @Aside0.mk
abbrev zx := @List.setIfInBounds_toArray
abbrev zy := @List.set_cons_zero
abbrev zz := @List.set_cons_succ
end Go.Proofs.Ytkgdlbepjmgaiaa.Fea
namespace Go.Proofs.Ytkgdlbepjmgaiaa.Fea
open Go.RowKit Go.Proofs.YtkgdlbepjmgaiaaW.PrintWords Go.Proofs.YtkgdlbepjmgaiaaW.PrintLast Go.Proofs.YtkgdlbepjmgaiaaW.PrintMore
attribute [local go_sem] max2_int min2_int max_two min_two max_three min_three max_four min_four
set_option linter.unusedVariables false
set_option linter.unusedSimpArgs false
theorem eqA23 (d : Nat) (w : World) (x0 y0 : Int) (x1 y1 : Int) (x2 y2 : Int) :
    (Op.equalIn (d + 2) 23 (.agg #[.int .i64 x0, .int .i64 x1, .int .i64 x2]) (.agg #[.int .i64 y0, .int .i64 y1, .int .i64 y2])).run Try.prog w = .ok (x0 == y0 && (x1 == y1 && (x2 == y2))) w := by
  refine eqA_of Try.underlying23 (by kernel_rfl) ?_
  refine eqf_cons (by rfl) (by go_simp; rfl) (by go_simp; rfl) (by go_simp) ?_
  refine eqf_cons (by rfl) (by go_simp; rfl) (by go_simp; rfl) (by go_simp) ?_
  exact eqf_last (by rfl) (by go_simp; rfl) (by go_simp; rfl) (by go_simp)
end Go.Proofs.Ytkgdlbepjmgaiaa.Fea
namespace Go.Proofs.Ytkgdlbepjmgaiaa.Fea
open Go.RowKit Go.Proofs.YtkgdlbepjmgaiaaW.PrintWords Go.Proofs.YtkgdlbepjmgaiaaW.PrintLast Go.Proofs.YtkgdlbepjmgaiaaW.PrintMore
attribute [local go_sem] max2_int min2_int max_two min_two max_three min_three max_four min_four
set_option linter.unusedVariables false
set_option linter.unusedSimpArgs false
theorem eqA25 (d : Nat) (w : World) (x0 y0 : Int) (x1 y1 : Int) :
    (Op.equalIn (d + 2) 25 (.agg #[.int .i64 x0, .int .i64 x1]) (.agg #[.int .i64 y0, .int .i64 y1])).run Try.prog w = .ok (x0 == y0 && (x1 == y1)) w := by
  refine eqA_of Try.underlying25 (by kernel_rfl) ?_
  refine eqf_cons (by rfl) (by go_simp; rfl) (by go_simp; rfl) (by go_simp) ?_
  exact eqf_last (by rfl) (by go_simp; rfl) (by go_simp; rfl) (by go_simp)
end Go.Proofs.Ytkgdlbepjmgaiaa.Fea
set_option linter.unusedVariables false
set_option linter.unusedSimpArgs false
namespace Go.Proofs.Ytkgdlbepjmgaiaa.Fea
open Go.RowKit Go.Proofs.YtkgdlbepjmgaiaaW.PrintWords Go.Proofs.YtkgdlbepjmgaiaaW.PrintLast Go.Proofs.YtkgdlbepjmgaiaaW.PrintMore
variable {P : Program} {ops : Array Oper} {Q : Exit → Act → World → Prop}
theorem gate_value {o : Oper} {rest : List Oper} {a : Act} {W : World} {t : Tmp} {ag : Array Operand} {ts : Array TypeId} (_ho : o.op = .call { callee := .value (.tmp t), args := ag, argTypes := ts }) (h : wpList P ops Q (o :: rest) a W) : wpList P ops Q (o :: rest) a W := h
theorem goesV_ {rest : List Oper} {oi : Oper} {a : Act} {w : World} (N : Option Tmp) (hd : oi.dst = N) (hg : oi.guard = none) {f : FuncId} {fn : Func} {t : Tmp} {ag : Array Operand} {ts : Array TypeId} (hf : P.funcs[f]? = some fn) (hname : (fn.name == "runtime.NumGoroutine") = false) (hb : fn.body.isSome = true) (args : Array Value)
    (hop : oi.op = .call { callee := .value (.tmp t), args := ag, argTypes := ts } ∧ a.eval (.tmp t) = .func (.func f) #[] #[]) (hargs : ag.map a.eval = args)
    (h : Calls P f args w fun e w' => ∃ v, e = .returned v ∧ wpList P ops Q rest (a.put N v) w') : wpList P ops Q (oi :: rest) a w := by
  refine wpList_plain hg fun K hK => ?_
  have he := enters_ hf hname hb args w
  have hrun : (execOp a.eval oi).run P w = .ok (.enter f args) w := by
    unfold execOp
    have h2 := hop.2
    simp [hop.1, h2, resolve, Deferred.ofValue, invoke, hargs, he]
  unfold Oper.wp
  rw [hrun, Oper.upon_enter]
  refine h.mono fun e w'' hh => ?_
  obtain ⟨v, rfl, hk⟩ := hh
  subst hd
  exact hK _ _ hk
end Go.Proofs.Ytkgdlbepjmgaiaa.Fea
namespace Go.Proofs.Ytkgdlbepjmgaiaa.Fea
open Go.RowKit Go.Proofs.YtkgdlbepjmgaiaaW.PrintWords Go.Proofs.YtkgdlbepjmgaiaaW.PrintLast Go.Proofs.YtkgdlbepjmgaiaaW.PrintMore
attribute [local go_sem] max2_int min2_int max_two min_two max_three min_three max_four min_four
set_option linter.unusedVariables false
set_option linter.unusedSimpArgs false
theorem eqA106 (d : Nat) (w : World) (x0 y0 : ByteArray) (x1 y1 : Int) :
    (Op.equalIn (d + 2) 106 (.agg #[.string x0, .int .i64 x1]) (.agg #[.string y0, .int .i64 y1])).run Try.prog w = .ok (x0.toList == y0.toList && (x1 == y1)) w := by
  refine eqA_of Try.underlying106 (by kernel_rfl) ?_
  refine eqf_cons (by rfl) (by go_simp; rfl) (by go_simp; rfl) (by go_simp) ?_
  exact eqf_last (by rfl) (by go_simp; rfl) (by go_simp; rfl) (by go_simp)
end Go.Proofs.Ytkgdlbepjmgaiaa.Fea
namespace Go.Proofs.Ytkgdlbepjmgaiaa.Fea
open Go.RowKit Go.Proofs.YtkgdlbepjmgaiaaW.PrintWords Go.Proofs.YtkgdlbepjmgaiaaW.PrintLast Go.Proofs.YtkgdlbepjmgaiaaW.PrintMore
attribute [local go_sem] max2_int min2_int max_two min_two max_three min_three max_four min_four
set_option linter.unusedVariables false
set_option linter.unusedSimpArgs false
attribute [local go_sem high] eqA106
def sameD.f (a0_0 : ByteArray) (a0_1 : Int) (a1_0 : ByteArray) (a1_1 : Int) : Option (Bool) := some (a0_0.toList == a1_0.toList && (a0_1 == a1_1))
set_option maxHeartbeats 8000000 in
set_option maxRecDepth 100000 in
theorem sameD.calls (a0_0 : ByteArray) (a0_1 : Int) (a1_0 : ByteArray) (a1_1 : Int) (r : Bool) (w : World) (h : sameD.f a0_0 a0_1 a1_0 a1_1 = some r) :
    Calls Try.prog 100 #[.agg #[.string a0_0, .int .i64 a0_1], .agg #[.string a1_0, .int .i64 a1_1]] w fun e w' => e = .returned (.bool r) ∧ Below w.heap.size w w' := by
  have hu106 := Try.underlying106
  have HB := Aside0.mk (Below.refl w.heap.size w)
  have H : (some (a0_0.toList == a1_0.toList && (a0_1 == a1_1))) = some r := h
  clear h
  obtain rfl := Option.some.inj H
  go_enter Try.func100, Try.ntmps100
  go_wp2_with (first | ((with_reducible refine gate_dst (N := 2) rfl ?_); refine box_event ?hg (N := 2) ?hd (cs := #[.string a0_0, .int .i64 a0_1]) (t := 106) ?hr ?_; (case hd => rfl); (case hg => rfl); (case hr => first | (go_simp; done) | (go_simp; rfl)); intro gb334 hg w3 hbox hb; have n0_ := Aside0.mk (below_step (by repeat (first | (with_reducible first | exact HB.out | apply below_alloc | apply pw_below_drewN | apply below_drew1) | exact HB.out)) hb); have n1_ := Aside0.mk (hbox); have n2_ := Aside0.mk ((by rw [hg]; exact (below_size (by repeat (first | (with_reducible first | exact HB.out | apply below_alloc | apply pw_below_drewN | apply below_drew1) | exact HB.out))) : w.heap.size ≤ gb334)); have n3_ := Aside0.mk ((by rw [hg]; exact (below_size (by repeat (first | (with_reducible first | exact HB.out | apply below_alloc | apply pw_below_drewN | apply below_drew1) | exact HB.out))) : w.heap.size ≤ gb334)); clear HB; have HB := n0_; have BK334 := n1_; have GW334 := n2_; have GE334 := n3_; clear n0_ n1_ n2_ n3_; clear hb hbox hg) | ((with_reducible refine gate_dst (N := 3) rfl ?_); refine box_event ?hg (N := 3) ?hd (cs := #[.string a1_0, .int .i64 a1_1]) (t := 106) ?hr ?_; (case hd => rfl); (case hg => rfl); (case hr => first | (go_simp; done) | (go_simp; rfl)); intro gb335 hg w4 hbox hb; have n0_ := Aside0.mk (blk_below (g := gb334) (o := .cells #[.string a0_0, .int .i64 a0_1] 106 (0, 0)) (by (with_reducible repeat (first | refine blk_drewN ?_ _ | refine blk_drew ?_ | refine blk_alloc ?_ _)); exact BK334.out) hb); have n1_ := Aside0.mk (below_step (by repeat (first | (with_reducible first | exact HB.out | apply below_alloc | apply pw_below_drewN | apply below_drew1 | refine below_set ?_ GE334.out) | exact HB.out)) hb); have n2_ := Aside0.mk (hbox); have n3_ := Aside0.mk ((by rw [hg]; exact (below_size (by repeat (first | (with_reducible first | exact HB.out | apply below_alloc | apply pw_below_drewN | apply below_drew1 | refine below_set ?_ GE334.out) | exact HB.out))) : w.heap.size ≤ gb335)); have n4_ := Aside0.mk ((by rw [hg]; exact (below_size (by repeat (first | (with_reducible first | exact HB.out | apply below_alloc | apply pw_below_drewN | apply below_drew1 | refine below_set ?_ GE334.out) | exact HB.out))) : w.heap.size ≤ gb335)); have n5_ := Aside0.mk ((by rw [hg]; exact Nat.ne_of_lt (blk_lt (g := gb334) (o := .cells #[.string a0_0, .int .i64 a0_1] 106 (0, 0)) (by (with_reducible repeat (first | refine blk_drewN ?_ _ | refine blk_drew ?_ | refine blk_alloc ?_ _)); exact BK334.out)) : gb334 ≠ gb335)); have n6_ := Aside0.mk ((by rw [hg]; exact Nat.ne_of_gt (blk_lt (g := gb334) (o := .cells #[.string a0_0, .int .i64 a0_1] 106 (0, 0)) (by (with_reducible repeat (first | refine blk_drewN ?_ _ | refine blk_drew ?_ | refine blk_alloc ?_ _)); exact BK334.out)) : gb335 ≠ gb334)); clear BK334; clear HB; have BK334 := n0_; have HB := n1_; have BK335 := n2_; have GW335 := n3_; have GE335 := n4_; have NB334_335 := n5_; have NB335_334 := n6_; clear n0_ n1_ n2_ n3_ n4_ n5_ n6_; clear hb hbox hg; have hnb5 := NB334_335.out; have hnc5 := NB335_334.out; have hcz6_0 : w4.cell? ⟨gb334, 0, none⟩ = some (.string a0_0) := (blk_cell BK334.out 0).trans rfl; have hcz6_1 : w4.cell? ⟨gb334, 1, none⟩ = some (.int .i64 a0_1) := (blk_cell BK334.out 1).trans rfl; have hfz6_0 := blk_frozen BK334.out 0; have hfz6_1 := blk_frozen BK334.out 1; have hcz7_0 : w4.cell? ⟨gb335, 0, none⟩ = some (.string a1_0) := (blk_cell BK335.out 0).trans rfl; have hcz7_1 : w4.cell? ⟨gb335, 1, none⟩ = some (.int .i64 a1_1) := (blk_cell BK335.out 1).trans rfl; have hfz7_0 := blk_frozen BK335.out 0; have hfz7_1 := blk_frozen BK335.out 1))
  go_ret
  exact ⟨by first | rfl | (simp [errW_none, errW_some] <;> rfl) | (simp [*, errW_none, errW_some] <;> rfl), by repeat (first | (with_reducible first | exact HB.out | apply below_alloc | apply pw_below_drewN | apply below_drew1 | refine below_set ?_ GE334.out | refine below_set ?_ GE335.out) | exact HB.out)⟩
end Go.Proofs.Ytkgdlbepjmgaiaa.Fea
namespace Go.Proofs.Ytkgdlbepjmgaiaa.Fea
open Go.RowKit Go.Proofs.YtkgdlbepjmgaiaaW.PrintWords Go.Proofs.YtkgdlbepjmgaiaaW.PrintLast Go.Proofs.YtkgdlbepjmgaiaaW.PrintMore
attribute [local go_sem] max2_int min2_int max_two min_two max_three min_three max_four min_four
set_option linter.unusedVariables false
set_option linter.unusedSimpArgs false
def eqfD.l0 : Nat → List (S106) → List (S106) → Int → Int → Option (Bool)
  | 0, _, _, _, _ => none
  | k + 1, x1, x15, x16, x17 => if x17 < x16 then (if 0 ≤ x17 then (if x17 < (x15.length : Int) then (if x17 < (x1.length : Int) then ((sameD.f ((rd_T106 x15 x17).f0) ((rd_T106 x15 x17).f1) ((rd_T106 x1 x17).f0) ((rd_T106 x1 x17).f1)).bind fun t340 => (if t340 = true then (eqfD.l0 k x1 x15 x16 (wrap64 (x17 + 1))) else (some false))) else (none)) else (none)) else (none)) else (some true)
def eqfD.f (k : Nat) (l0 : List (S106)) (l1 : List (S106)) : Option (Bool) := if (l0.length : Int) = (l1.length : Int) then (eqfD.l0 k l1 l0 (l0.length : Int) 0) else (some false)
theorem eqfD.mono_l : ∀ k, (∀ y0 y1 y2 y3, LeO (eqfD.l0 k y0 y1 y2 y3) (eqfD.l0 (k + 1) y0 y1 y2 y3))
 | 0 => fun _ _ _ _ r h => by simp [eqfD.l0] at h
 | k + 1 => by
  have ih0 := eqfD.mono_l k
  ·intro y0 y1 y2 y3
   unfold eqfD.l0
   repeat' first
   | (with_reducible exact ih0 _ _ _ _)
   | (with_reducible exact LeO.refl _)
   | (with_reducible exact LeO.none _)
   | (with_reducible refine LeO.ite ?_ ?_)
   | (with_reducible refine LeO.bind ?_ (fun _ => ?_))
   | exact ih0 _ _ _ _
   | exact LeO.none _
   | refine LeO.ite ?_ ?_
   | refine LeO.bind ?_ (fun _ => ?_)
theorem eqfD.mono : ∀ a0 a1 k, LeO (eqfD.f k a0 a1) (eqfD.f (k + 1) a0 a1) := by
 intro a0 a1 k
 have ih0 := eqfD.mono_l k
 unfold eqfD.f
 repeat' first
  | (with_reducible exact ih0 _ _ _ _)
  | (with_reducible exact LeO.refl _)
  | (with_reducible exact LeO.none _)
  | (with_reducible refine LeO.ite ?_ ?_)
  | (with_reducible refine LeO.bind ?_ (fun _ => ?_))
  | exact ih0 _ _ _ _
  | exact LeO.none _
  | refine LeO.ite ?_ ?_
  | refine LeO.bind ?_ (fun _ => ?_)
set_option maxHeartbeats 8000000 in
set_option maxRecDepth 100000 in
theorem eqfD.calls (k : Nat) (A0 : Option Addr) (c0 : Nat) (l0 : List (S106)) (A1 : Option Addr) (c1 : Nat) (l1 : List (S106)) (r : Bool) (w : World) (hr0 : Kd.C k106 w A0 l0.length l0) (hc0 : l0.length ≤ c0) (hr1 : Kd.C k106 w A1 l1.length l1) (hc1 : l1.length ≤ c1) (h : eqfD.f k l0 l1 = some r) :
 Calls Try.prog 128 #[.slice A0 l0.length c0, .slice A1 l1.length c1, .func (.func 100) #[] #[]] w fun e w' => e = .returned (.bool r) ∧ Below w.heap.size w w' := by
 have hu106 := Try.underlying106
 have HR0 := zm hr0
 have HC0 := zm hc0
 clear hr0 hc0
 have HR1 := zm hr1
 have HC1 := zm hc1
 clear hr1 hc1
 have HB := zm (Below.refl w.heap.size w)
 have H : (if (l0.length : Int) = (l1.length : Int) then (eqfD.l0 k l1 l0 (l0.length : Int) 0) else (some false)) = some r := h
 clear h
 by_cases c3 : (l0.length : Int) = (l1.length : Int)
 ·rw [if_pos c3] at H
  have c3b0 : ((l0.length : Int) == (l1.length : Int)) = true := beq_iff_eq.mpr c3
  have c3b1 : ((l0.length : Int) != (l1.length : Int)) = false := bne_eq_false_iff_eq.mpr c3
  have c3b2 : (l0.length == l1.length) = true := by first | simpa using c3 | (simp at c3 ⊢; omega)
  clear c3
  have H' := zm H
  clear H
  go_enter Try.func128, Try.ntmps128
  go_wp2
  go_loopg [17] k (fun kq v17 w' => ∃ (x17_1 : Int), v17 = .int .i64 x17_1 ∧ Aside0 (eqfD.l0 kq l1 l0 (l0.length : Int) x17_1 = some r) ∧ Aside0 (kq ≤ k) ∧ Aside0 (Below w.heap.size w w'))
  case atStart => exact ⟨(0), (by first | rfl | (simp; done) | (simp [*]; done)), H', ⟨Nat.le_refl _⟩, ⟨by repeat (first | (with_reducible first | exact HB.out | apply zA | apply zD | apply zE) | exact HB.out)⟩⟩
  case round =>
   clear H'
   try clear c1
   try clear p2
   try clear c3
   try clear c3b0
   try clear c3b1
   try clear c3b2
   obtain ⟨x17_1, rfl, HA, HK1, HB⟩ := hrel
   cases gk with
   | zero => exact absurd HA.out (by simp [eqfD.l0])
   | succ k1 =>
    have H := HA.out
    clear HA
    simp only [eqfD.l0] at H
    by_cases c4 : x17_1 < (l0.length : Int)
    ·rw [if_pos c4] at H
     have c4b0 : decide (x17_1 < (l0.length : Int)) = true := decide_eq_true c4
     clear c4
     by_cases c5 : 0 ≤ x17_1
     ·rw [if_pos c5] at H
      have c5b0 : decide (0 ≤ x17_1) = true := decide_eq_true c5
      clear c5
      by_cases c6 : x17_1 < (l0.length : Int)
      ·rw [if_pos c6] at H
       have c6b0 : decide (x17_1 < (l0.length : Int)) = true := decide_eq_true c6
       clear c6
       by_cases c7 : x17_1 < (l1.length : Int)
       ·rw [if_pos c7] at H
        have c7b0 : decide (x17_1 < (l1.length : Int)) = true := decide_eq_true c7
        clear c7
        replace H := Option.bind_eq_some_iff.mp H
        obtain ⟨t340, A80, H⟩ := H
        replace H : (if t340 = true then (eqfD.l0 k1 l1 l0 (l0.length : Int) (wrap64 (x17_1 + 1))) else (some false)) = some r := H
        have A8 := zm A80
        clear A80
        by_cases c9 : t340 = true
        ·subst c9
         have H1 : (eqfD.l0 k1 l1 l0 (l0.length : Int) (wrap64 (x17_1 + 1))) = some r := by rw [if_pos rfl] at H; exact H
         clear H
         have H := H1
         clear H1
         have H' := zm H
         clear H
         have p336 : 0 ≤ (x17_1 : Int) := of_decide_eq_true (by first | (with_reducible assumption) | assumption)
         have q336 : x17_1 < (l0.length : Int) := of_decide_eq_true (by first | (with_reducible assumption) | assumption)
         obtain ⟨ad336, e336, hx336_0, hx336_1⟩ := at_T106 HR0.out x17_1 p336 q336
         cases e336
         replace hx336_0 := (HB.out.cell (World.block_lt_of_cell? w _ hx336_0)).trans hx336_0
         replace hx336_1 := (HB.out.cell (World.block_lt_of_cell? w _ hx336_1)).trans hx336_1
         replace p336 := eq_true p336
         replace q336 := eq_true q336
         go_wp2_with (first | ((with_reducible refine gate_dst (N := 8) rfl ?_); refine box_event ?hg (N := 8) ?hd (cs := #[.string (⟨#[]⟩ : ByteArray), .int .i64 0]) (t := 106) ?hr ?_; (case hd => rfl); (case hg => rfl); (case hr => first | (go_simp; done) | (go_simp; rfl)); intro gb337 hg w10 hbox hb; have n0_ := zm (below_step (by repeat (first | (with_reducible first | exact HB.out | apply zA | apply zD | apply zE) | exact HB.out)) hb); have n1_ := zm (hbox); have n2_ := zm ((by rw [hg]; exact (below_size (by repeat (first | (with_reducible first | exact HB.out | apply zA | apply zD | apply zE) | exact HB.out))) : w.heap.size ≤ gb337)); have n3_ := zm ((by rw [hg]; exact (below_size (by repeat (first | (with_reducible first | exact HB.out | apply zA | apply zD | apply zE) | exact HB.out))) : w.heap.size ≤ gb337)); clear HB; have HB := n0_; have BK337 := n1_; have GW337 := n2_; have GE337 := n3_; clear n0_ n1_ n2_ n3_; clear hb hbox hg; have hcz11_0 := zc BK337.out 0 (.string (⟨#[]⟩ : ByteArray)) rfl; have hcz11_1 := zc BK337.out 1 (.int .i64 0) rfl; have hfz11_0 := zf BK337.out 0; have hfz11_1 := zf BK337.out 1; have p338 : 0 ≤ (x17_1 : Int) := of_decide_eq_true (by first | (with_reducible assumption) | assumption); have q338 : x17_1 < (l1.length : Int) := of_decide_eq_true (by first | (with_reducible assumption) | assumption); obtain ⟨ad338, e338, hx338_0, hx338_1⟩ := at_T106 HR1.out x17_1 p338 q338; cases e338; have hn338_0 : ad338.block ≠ gb337 := Nat.ne_of_lt (Nat.lt_of_lt_of_le (by have := World.block_lt_of_cell? _ _ hx338_0; first | rwa [add_block] at this | exact this) GW337.out); have hn338_1 : ad338.block ≠ gb337 := Nat.ne_of_lt (Nat.lt_of_lt_of_le (by have := World.block_lt_of_cell? _ _ hx338_0; first | rwa [add_block] at this | exact this) GW337.out); replace hx338_0 := (HB.out.cell (World.block_lt_of_cell? w _ hx338_0)).trans hx338_0; replace hx338_1 := (HB.out.cell (World.block_lt_of_cell? w _ hx338_1)).trans hx338_1; replace hx338_0 := (cell_far (p := ⟨gb337, 0, none⟩) (by first | (rw [add_block]; exact hn338_0) | (show (Addr.add _ _).block ≠ _; rw [add_block]; exact hn338_0) | exact hn338_0) (.string ((rd_T106 l0 x17_1).f0))).trans hx338_0; replace hx338_1 := (cell_far (p := ⟨gb337, 0, none⟩) (by first | (rw [add_block]; exact hn338_0) | (show (Addr.add _ _).block ≠ _; rw [add_block]; exact hn338_0) | exact hn338_0) (.string ((rd_T106 l0 x17_1).f0))).trans hx338_1; replace hx338_0 := (cell_far (p := ⟨gb337, 1, none⟩) (by first | (rw [add_block]; exact hn338_1) | (show (Addr.add _ _).block ≠ _; rw [add_block]; exact hn338_1) | exact hn338_1) (.int .i64 ((rd_T106 l0 x17_1).f1))).trans hx338_0; replace hx338_1 := (cell_far (p := ⟨gb337, 1, none⟩) (by first | (rw [add_block]; exact hn338_1) | (show (Addr.add _ _).block ≠ _; rw [add_block]; exact hn338_1) | exact hn338_1) (.int .i64 ((rd_T106 l0 x17_1).f1))).trans hx338_1; clear hn338_0 hn338_1; replace p338 := eq_true p338; replace q338 := eq_true q338) | ((with_reducible refine gate_dst (N := 9) rfl ?_); refine box_event ?hg (N := 9) ?hd (cs := #[.string (⟨#[]⟩ : ByteArray), .int .i64 0]) (t := 106) ?hr ?_; (case hd => rfl); (case hg => rfl); (case hr => first | (go_simp; done) | (go_simp; rfl)); intro gb339 hg w12 hbox hb; have n0_ := zm (zb (g := gb337) (o := .cells #[.string ((rd_T106 l0 x17_1).f0), .int .i64 ((rd_T106 l0 x17_1).f1)] 106 (0, 0)) (by (with_reducible repeat first | apply zd | apply ze | apply za); refine blk_put (cs := #[.string ((rd_T106 l0 x17_1).f0), .int .i64 0]) ?_ 1 _ rfl; (with_reducible repeat first | apply zd | apply ze | apply za); refine blk_put (cs := #[.string (⟨#[]⟩ : ByteArray), .int .i64 0]) ?_ 0 _ rfl; (with_reducible repeat first | apply zd | apply ze | apply za); exact BK337.out) hb); have n1_ := zm (below_step (by repeat (first | (with_reducible first | exact HB.out | apply zA | apply zD | apply zE | refine zS ?_ GE337.out) | exact HB.out)) hb); have n2_ := zm (hbox); have n3_ := zm ((by rw [hg]; exact (below_size (by repeat (first | (with_reducible first | exact HB.out | apply zA | apply zD | apply zE | refine zS ?_ GE337.out) | exact HB.out))) : w.heap.size ≤ gb339)); have n4_ := zm ((by rw [hg]; exact (below_size (by repeat (first | (with_reducible first | exact HB.out | apply zA | apply zD | apply zE | refine zS ?_ GE337.out) | exact HB.out))) : w.heap.size ≤ gb339)); have n5_ := zm ((by rw [hg]; exact Nat.ne_of_lt (blk_lt (g := gb337) (o := .cells #[.string ((rd_T106 l0 x17_1).f0), .int .i64 ((rd_T106 l0 x17_1).f1)] 106 (0, 0)) (by (with_reducible repeat first | apply zd | apply ze | apply za); refine blk_put (cs := #[.string ((rd_T106 l0 x17_1).f0), .int .i64 0]) ?_ 1 _ rfl; (with_reducible repeat first | apply zd | apply ze | apply za); refine blk_put (cs := #[.string (⟨#[]⟩ : ByteArray), .int .i64 0]) ?_ 0 _ rfl; (with_reducible repeat first | apply zd | apply ze | apply za); exact BK337.out)) : gb337 ≠ gb339)); have n6_ := zm ((by rw [hg]; exact Nat.ne_of_gt (blk_lt (g := gb337) (o := .cells #[.string ((rd_T106 l0 x17_1).f0), .int .i64 ((rd_T106 l0 x17_1).f1)] 106 (0, 0)) (by (with_reducible repeat first | apply zd | apply ze | apply za); refine blk_put (cs := #[.string ((rd_T106 l0 x17_1).f0), .int .i64 0]) ?_ 1 _ rfl; (with_reducible repeat first | apply zd | apply ze | apply za); refine blk_put (cs := #[.string (⟨#[]⟩ : ByteArray), .int .i64 0]) ?_ 0 _ rfl; (with_reducible repeat first | apply zd | apply ze | apply za); exact BK337.out)) : gb339 ≠ gb337)); clear BK337 HB; have BK337 := n0_; have HB := n1_; have BK339 := n2_; have GW339 := n3_; have GE339 := n4_; have NB337_339 := n5_; have NB339_337 := n6_; clear n0_ n1_ n2_ n3_ n4_ n5_ n6_; clear hb hbox hg; have hnb13 := NB339_337.out; have hnc13 := NB337_339.out; have hcz14_0 := zc BK339.out 0 (.string (⟨#[]⟩ : ByteArray)) rfl; have hcz14_1 := zc BK339.out 1 (.int .i64 0) rfl; have hfz14_0 := zf BK339.out 0; have hfz14_1 := zf BK339.out 1; have hcz15_0 := zc BK337.out 0 (.string ((rd_T106 l0 x17_1).f0)) rfl; have hcz15_1 := zc BK337.out 1 (.int .i64 ((rd_T106 l0 x17_1).f1)) rfl; have hfz15_0 := zf BK337.out 0; have hfz15_1 := zf BK337.out 1) | ((with_reducible refine gate_value (t := 26) rfl ?_); refine goesV_ (some 29) rfl rfl Try.func100 (by kernel_rfl) rfl #[.agg #[.string ((rd_T106 l0 x17_1).f0), .int .i64 ((rd_T106 l0 x17_1).f1)], .agg #[.string ((rd_T106 l1 x17_1).f0), .int .i64 ((rd_T106 l1 x17_1).f1)]] ⟨rfl, rfl⟩ (by (try simp only [List.map_toArray, List.map_cons, List.map_nil]); first | done | rfl | (simp only [List.length_drop, List.length_take]; rfl)) ?_; (with_reducible refine (sameD.calls ((rd_T106 l0 x17_1).f0) ((rd_T106 l0 x17_1).f1) ((rd_T106 l1 x17_1).f0) ((rd_T106 l1 x17_1).f1) true _ A8.out).mono ?_); rintro e w16 ⟨rfl, hb⟩; refine ⟨_, rfl, ?_⟩; have n0_ := zm (zb (g := gb337) (o := .cells #[.string ((rd_T106 l0 x17_1).f0), .int .i64 ((rd_T106 l0 x17_1).f1)] 106 (0, 0)) (by (with_reducible repeat first | apply zd | apply ze | apply za); refine blk_far ?_ NB337_339.out _; (with_reducible repeat first | apply zd | apply ze | apply za); refine blk_far ?_ NB337_339.out _; (with_reducible repeat first | apply zd | apply ze | apply za); exact BK337.out) hb); have n1_ := zm (zb (g := gb339) (o := .cells #[.string ((rd_T106 l1 x17_1).f0), .int .i64 ((rd_T106 l1 x17_1).f1)] 106 (0, 0)) (by (with_reducible repeat first | apply zd | apply ze | apply za); refine blk_put (cs := #[.string ((rd_T106 l1 x17_1).f0), .int .i64 0]) ?_ 1 _ rfl; (with_reducible repeat first | apply zd | apply ze | apply za); refine blk_put (cs := #[.string (⟨#[]⟩ : ByteArray), .int .i64 0]) ?_ 0 _ rfl; (with_reducible repeat first | apply zd | apply ze | apply za); exact BK339.out) hb); have n2_ := zm (below_step (by repeat (first | (with_reducible first | exact HB.out | apply zA | apply zD | apply zE | refine zS ?_ GE337.out | refine zS ?_ GE339.out) | exact HB.out)) hb); clear BK337 BK339 HB; have BK337 := n0_; have BK339 := n1_; have HB := n2_; clear n0_ n1_ n2_; (try clear hb); (try clear hb2); (try clear hk); (try clear hi)))
         go_roundg k1
         case measure => have := HK1.out; omega
         case rel => exact ⟨(wrap64 (x17_1 + 1)), (by first | rfl | (simp; done) | (simp [*]; done)), H', ⟨by have := HK1.out; omega⟩, ⟨by repeat (first | (with_reducible first | exact HB.out | apply zA | apply zD | apply zE | refine zS ?_ GE337.out | refine zS ?_ GE339.out) | exact HB.out)⟩⟩
        ·replace c9 := Bool.eq_false_iff.mpr c9
         subst c9
         have H1 : (some false) = some r := by rw [if_neg (show ¬ (false = true) by decide)] at H; exact H
         clear H
         have H := H1
         clear H1
         obtain rfl := Option.some.inj H
         have p336 : 0 ≤ (x17_1 : Int) := of_decide_eq_true (by first | (with_reducible assumption) | assumption)
         have q336 : x17_1 < (l0.length : Int) := of_decide_eq_true (by first | (with_reducible assumption) | assumption)
         obtain ⟨ad336, e336, hx336_0, hx336_1⟩ := at_T106 HR0.out x17_1 p336 q336
         cases e336
         replace hx336_0 := (HB.out.cell (World.block_lt_of_cell? w _ hx336_0)).trans hx336_0
         replace hx336_1 := (HB.out.cell (World.block_lt_of_cell? w _ hx336_1)).trans hx336_1
         replace p336 := eq_true p336
         replace q336 := eq_true q336
         go_wp2_with (first | ((with_reducible refine gate_dst (N := 8) rfl ?_); refine box_event ?hg (N := 8) ?hd (cs := #[.string (⟨#[]⟩ : ByteArray), .int .i64 0]) (t := 106) ?hr ?_; (case hd => rfl); (case hg => rfl); (case hr => first | (go_simp; done) | (go_simp; rfl)); intro gb337 hg w17 hbox hb; have n0_ := zm (below_step (by repeat (first | (with_reducible first | exact HB.out | apply zA | apply zD | apply zE) | exact HB.out)) hb); have n1_ := zm (hbox); have n2_ := zm ((by rw [hg]; exact (below_size (by repeat (first | (with_reducible first | exact HB.out | apply zA | apply zD | apply zE) | exact HB.out))) : w.heap.size ≤ gb337)); have n3_ := zm ((by rw [hg]; exact (below_size (by repeat (first | (with_reducible first | exact HB.out | apply zA | apply zD | apply zE) | exact HB.out))) : w.heap.size ≤ gb337)); clear HB; have HB := n0_; have BK337 := n1_; have GW337 := n2_; have GE337 := n3_; clear n0_ n1_ n2_ n3_; clear hb hbox hg; have hcz18_0 := zc BK337.out 0 (.string (⟨#[]⟩ : ByteArray)) rfl; have hcz18_1 := zc BK337.out 1 (.int .i64 0) rfl; have hfz18_0 := zf BK337.out 0; have hfz18_1 := zf BK337.out 1; have p338 : 0 ≤ (x17_1 : Int) := of_decide_eq_true (by first | (with_reducible assumption) | assumption); have q338 : x17_1 < (l1.length : Int) := of_decide_eq_true (by first | (with_reducible assumption) | assumption); obtain ⟨ad338, e338, hx338_0, hx338_1⟩ := at_T106 HR1.out x17_1 p338 q338; cases e338; have hn338_0 : ad338.block ≠ gb337 := Nat.ne_of_lt (Nat.lt_of_lt_of_le (by have := World.block_lt_of_cell? _ _ hx338_0; first | rwa [add_block] at this | exact this) GW337.out); have hn338_1 : ad338.block ≠ gb337 := Nat.ne_of_lt (Nat.lt_of_lt_of_le (by have := World.block_lt_of_cell? _ _ hx338_0; first | rwa [add_block] at this | exact this) GW337.out); replace hx338_0 := (HB.out.cell (World.block_lt_of_cell? w _ hx338_0)).trans hx338_0; replace hx338_1 := (HB.out.cell (World.block_lt_of_cell? w _ hx338_1)).trans hx338_1; replace hx338_0 := (cell_far (p := ⟨gb337, 0, none⟩) (by first | (rw [add_block]; exact hn338_0) | (show (Addr.add _ _).block ≠ _; rw [add_block]; exact hn338_0) | exact hn338_0) (.string ((rd_T106 l0 x17_1).f0))).trans hx338_0; replace hx338_1 := (cell_far (p := ⟨gb337, 0, none⟩) (by first | (rw [add_block]; exact hn338_0) | (show (Addr.add _ _).block ≠ _; rw [add_block]; exact hn338_0) | exact hn338_0) (.string ((rd_T106 l0 x17_1).f0))).trans hx338_1; replace hx338_0 := (cell_far (p := ⟨gb337, 1, none⟩) (by first | (rw [add_block]; exact hn338_1) | (show (Addr.add _ _).block ≠ _; rw [add_block]; exact hn338_1) | exact hn338_1) (.int .i64 ((rd_T106 l0 x17_1).f1))).trans hx338_0; replace hx338_1 := (cell_far (p := ⟨gb337, 1, none⟩) (by first | (rw [add_block]; exact hn338_1) | (show (Addr.add _ _).block ≠ _; rw [add_block]; exact hn338_1) | exact hn338_1) (.int .i64 ((rd_T106 l0 x17_1).f1))).trans hx338_1; clear hn338_0 hn338_1; replace p338 := eq_true p338; replace q338 := eq_true q338) | ((with_reducible refine gate_dst (N := 9) rfl ?_); refine box_event ?hg (N := 9) ?hd (cs := #[.string (⟨#[]⟩ : ByteArray), .int .i64 0]) (t := 106) ?hr ?_; (case hd => rfl); (case hg => rfl); (case hr => first | (go_simp; done) | (go_simp; rfl)); intro gb339 hg w19 hbox hb; have n0_ := zm (zb (g := gb337) (o := .cells #[.string ((rd_T106 l0 x17_1).f0), .int .i64 ((rd_T106 l0 x17_1).f1)] 106 (0, 0)) (by (with_reducible repeat first | apply zd | apply ze | apply za); refine blk_put (cs := #[.string ((rd_T106 l0 x17_1).f0), .int .i64 0]) ?_ 1 _ rfl; (with_reducible repeat first | apply zd | apply ze | apply za); refine blk_put (cs := #[.string (⟨#[]⟩ : ByteArray), .int .i64 0]) ?_ 0 _ rfl; (with_reducible repeat first | apply zd | apply ze | apply za); exact BK337.out) hb); have n1_ := zm (below_step (by repeat (first | (with_reducible first | exact HB.out | apply zA | apply zD | apply zE | refine zS ?_ GE337.out) | exact HB.out)) hb); have n2_ := zm (hbox); have n3_ := zm ((by rw [hg]; exact (below_size (by repeat (first | (with_reducible first | exact HB.out | apply zA | apply zD | apply zE | refine zS ?_ GE337.out) | exact HB.out))) : w.heap.size ≤ gb339)); have n4_ := zm ((by rw [hg]; exact (below_size (by repeat (first | (with_reducible first | exact HB.out | apply zA | apply zD | apply zE | refine zS ?_ GE337.out) | exact HB.out))) : w.heap.size ≤ gb339)); have n5_ := zm ((by rw [hg]; exact Nat.ne_of_lt (blk_lt (g := gb337) (o := .cells #[.string ((rd_T106 l0 x17_1).f0), .int .i64 ((rd_T106 l0 x17_1).f1)] 106 (0, 0)) (by (with_reducible repeat first | apply zd | apply ze | apply za); refine blk_put (cs := #[.string ((rd_T106 l0 x17_1).f0), .int .i64 0]) ?_ 1 _ rfl; (with_reducible repeat first | apply zd | apply ze | apply za); refine blk_put (cs := #[.string (⟨#[]⟩ : ByteArray), .int .i64 0]) ?_ 0 _ rfl; (with_reducible repeat first | apply zd | apply ze | apply za); exact BK337.out)) : gb337 ≠ gb339)); have n6_ := zm ((by rw [hg]; exact Nat.ne_of_gt (blk_lt (g := gb337) (o := .cells #[.string ((rd_T106 l0 x17_1).f0), .int .i64 ((rd_T106 l0 x17_1).f1)] 106 (0, 0)) (by (with_reducible repeat first | apply zd | apply ze | apply za); refine blk_put (cs := #[.string ((rd_T106 l0 x17_1).f0), .int .i64 0]) ?_ 1 _ rfl; (with_reducible repeat first | apply zd | apply ze | apply za); refine blk_put (cs := #[.string (⟨#[]⟩ : ByteArray), .int .i64 0]) ?_ 0 _ rfl; (with_reducible repeat first | apply zd | apply ze | apply za); exact BK337.out)) : gb339 ≠ gb337)); clear BK337 HB; have BK337 := n0_; have HB := n1_; have BK339 := n2_; have GW339 := n3_; have GE339 := n4_; have NB337_339 := n5_; have NB339_337 := n6_; clear n0_ n1_ n2_ n3_ n4_ n5_ n6_; clear hb hbox hg; have hnb20 := NB339_337.out; have hnc20 := NB337_339.out; have hcz21_0 := zc BK339.out 0 (.string (⟨#[]⟩ : ByteArray)) rfl; have hcz21_1 := zc BK339.out 1 (.int .i64 0) rfl; have hfz21_0 := zf BK339.out 0; have hfz21_1 := zf BK339.out 1; have hcz22_0 := zc BK337.out 0 (.string ((rd_T106 l0 x17_1).f0)) rfl; have hcz22_1 := zc BK337.out 1 (.int .i64 ((rd_T106 l0 x17_1).f1)) rfl; have hfz22_0 := zf BK337.out 0; have hfz22_1 := zf BK337.out 1) | ((with_reducible refine gate_value (t := 26) rfl ?_); refine goesV_ (some 29) rfl rfl Try.func100 (by kernel_rfl) rfl #[.agg #[.string ((rd_T106 l0 x17_1).f0), .int .i64 ((rd_T106 l0 x17_1).f1)], .agg #[.string ((rd_T106 l1 x17_1).f0), .int .i64 ((rd_T106 l1 x17_1).f1)]] ⟨rfl, rfl⟩ (by (try simp only [List.map_toArray, List.map_cons, List.map_nil]); first | done | rfl | (simp only [List.length_drop, List.length_take]; rfl)) ?_; (with_reducible refine (sameD.calls ((rd_T106 l0 x17_1).f0) ((rd_T106 l0 x17_1).f1) ((rd_T106 l1 x17_1).f0) ((rd_T106 l1 x17_1).f1) false _ A8.out).mono ?_); rintro e w23 ⟨rfl, hb⟩; refine ⟨_, rfl, ?_⟩; have n0_ := zm (zb (g := gb337) (o := .cells #[.string ((rd_T106 l0 x17_1).f0), .int .i64 ((rd_T106 l0 x17_1).f1)] 106 (0, 0)) (by (with_reducible repeat first | apply zd | apply ze | apply za); refine blk_far ?_ NB337_339.out _; (with_reducible repeat first | apply zd | apply ze | apply za); refine blk_far ?_ NB337_339.out _; (with_reducible repeat first | apply zd | apply ze | apply za); exact BK337.out) hb); have n1_ := zm (zb (g := gb339) (o := .cells #[.string ((rd_T106 l1 x17_1).f0), .int .i64 ((rd_T106 l1 x17_1).f1)] 106 (0, 0)) (by (with_reducible repeat first | apply zd | apply ze | apply za); refine blk_put (cs := #[.string ((rd_T106 l1 x17_1).f0), .int .i64 0]) ?_ 1 _ rfl; (with_reducible repeat first | apply zd | apply ze | apply za); refine blk_put (cs := #[.string (⟨#[]⟩ : ByteArray), .int .i64 0]) ?_ 0 _ rfl; (with_reducible repeat first | apply zd | apply ze | apply za); exact BK339.out) hb); have n2_ := zm (below_step (by repeat (first | (with_reducible first | exact HB.out | apply zA | apply zD | apply zE | refine zS ?_ GE337.out | refine zS ?_ GE339.out) | exact HB.out)) hb); clear BK337 BK339 HB; have BK337 := n0_; have BK339 := n1_; have HB := n2_; clear n0_ n1_ n2_; (try clear hb); (try clear hb2); (try clear hk); (try clear hi)))
         go_ret
         exact ⟨by first | rfl | (simp [errW_none, errW_some] <;> rfl) | (simp [*, errW_none, errW_some] <;> rfl), by repeat (first | (with_reducible first | exact HB.out | apply zA | apply zD | apply zE | refine zS ?_ GE337.out | refine zS ?_ GE339.out) | exact HB.out)⟩
       ·rw [if_neg c7] at H
        exact absurd H (by simp)
      ·rw [if_neg c6] at H
       exact absurd H (by simp)
     ·rw [if_neg c5] at H
      exact absurd H (by simp)
    ·rw [if_neg c4] at H
     have c4b0 : decide (x17_1 < (l0.length : Int)) = false := decide_eq_false c4
     clear c4
     obtain rfl := Option.some.inj H
     go_wp2
     go_ret
     exact ⟨by first | rfl | (simp [errW_none, errW_some] <;> rfl) | (simp [*, errW_none, errW_some] <;> rfl), by repeat (first | (with_reducible first | exact HB.out | apply zA | apply zD | apply zE) | exact HB.out)⟩
 ·rw [if_neg c3] at H
  have c3b0 : ((l0.length : Int) == (l1.length : Int)) = false := beq_eq_false_iff_ne.mpr c3
  have c3b1 : ((l0.length : Int) != (l1.length : Int)) = true := bne_iff_ne.mpr c3
  have c3b2 : (l0.length == l1.length) = false := by first | simpa using c3 | (simp at c3 ⊢; omega)
  obtain rfl := Option.some.inj H
  go_enter Try.func128, Try.ntmps128
  go_wp2
  go_ret
  exact ⟨by first | rfl | (simp [errW_none, errW_some] <;> rfl) | (simp [*, errW_none, errW_some] <;> rfl), by repeat (first | (with_reducible first | exact HB.out | apply zA | apply zD | apply zE) | exact HB.out)⟩
end Go.Proofs.Ytkgdlbepjmgaiaa.Fea
namespace Go.Proofs.Ytkgdlbepjmgaiaa.Fea
open Go.RowKit Go.Proofs.YtkgdlbepjmgaiaaW.PrintWords Go.Proofs.YtkgdlbepjmgaiaaW.PrintLast Go.Proofs.YtkgdlbepjmgaiaaW.PrintMore
attribute [local go_sem] max2_int min2_int max_two min_two max_three min_three max_four min_four
set_option linter.unusedVariables false
set_option linter.unusedSimpArgs false
def equalD.f (k : Nat) (l0 : List (S106)) (l1 : List (S106)) : Option (Bool) := (eqfD.f k l0 l1).bind fun t341 => (some t341)
theorem equalD.mono : ∀ a0 a1 k, LeO (equalD.f k a0 a1) (equalD.f (k + 1) a0 a1) := by
  intro a0 a1 k
  unfold equalD.f
  repeat' first
      | (with_reducible exact eqfD.mono _ _ _)
      | (with_reducible exact LeO.refl _)
      | (with_reducible exact LeO.none _)
      | (with_reducible refine LeO.ite ?_ ?_)
      | (with_reducible refine LeO.bind ?_ (fun _ => ?_))
      | exact eqfD.mono _ _ _
      | exact LeO.none _
      | refine LeO.ite ?_ ?_
      | refine LeO.bind ?_ (fun _ => ?_)
set_option maxHeartbeats 8000000 in
set_option maxRecDepth 100000 in
theorem equalD.calls (k : Nat) (A0 : Option Addr) (c0 : Nat) (l0 : List (S106)) (A1 : Option Addr) (c1 : Nat) (l1 : List (S106)) (r : Bool) (w : World) (hr0 : Kd.C k106 w A0 l0.length l0) (hc0 : l0.length ≤ c0) (hr1 : Kd.C k106 w A1 l1.length l1) (hc1 : l1.length ≤ c1) (h : equalD.f k l0 l1 = some r) :
    Calls Try.prog 99 #[.slice A0 l0.length c0, .slice A1 l1.length c1, .func (.func 100) #[] #[]] w fun e w' => e = .returned (.bool r) ∧ Below w.heap.size w w' := by
  have HR0 := Aside0.mk hr0
  have HC0 := Aside0.mk hc0
  clear hr0 hc0
  have HR1 := Aside0.mk hr1
  have HC1 := Aside0.mk hc1
  clear hr1 hc1
  have HB := Aside0.mk (Below.refl w.heap.size w)
  have H : ((eqfD.f k l0 l1).bind fun t341 => (some t341)) = some r := h
  clear h
  replace H := Option.bind_eq_some_iff.mp H
  obtain ⟨t341, A30, H⟩ := H
  replace H : (some t341) = some r := H
  have A3 := Aside0.mk A30
  clear A30
  obtain rfl := Option.some.inj H
  go_enter Try.func99, Try.ntmps99
  go_wp2_with (first | ((with_reducible refine gate_callee (f := 128) rfl ?_); refine goesL_ (some 10) rfl rfl Try.func128 (by kernel_rfl) rfl #[.slice A0 l0.length c0, .slice A1 l1.length c1, .func (.func 100) #[] #[]] rfl (by (try simp only [List.map_toArray, List.map_cons, List.map_nil]); first | done | rfl | (simp only [List.length_drop, List.length_take]; rfl)) ?_; (with_reducible refine (eqfD.calls k _ _ l0 _ _ l1 t341 _ ?side1 ?side2 ?side3 ?side4 A3.out).mono ?_); (case side1 => repeat (first | exact HR0.out | (with_reducible refine Kd.C_alloc ?_ _) | (with_reducible refine Kd.C_drewN ?_ _) | (with_reducible refine Kd.C_drew ?_))); (case side2 => exact HC0.out); (case side3 => repeat (first | exact HR1.out | (with_reducible refine Kd.C_alloc ?_ _) | (with_reducible refine Kd.C_drewN ?_ _) | (with_reducible refine Kd.C_drew ?_))); (case side4 => exact HC1.out); rintro e w4 ⟨rfl, hb⟩; refine ⟨_, rfl, ?_⟩; have n0_ := Aside0.mk (below_step (by repeat (first | (with_reducible first | exact HB.out | apply below_alloc | apply pw_below_drewN | apply below_drew1) | exact HB.out)) hb); clear HB; have HB := n0_; clear n0_; (try clear hb); (try clear hb2); (try clear hk); (try clear hi)))
  go_ret
  exact ⟨by first | rfl | (simp [errW_none, errW_some] <;> rfl) | (simp [*, errW_none, errW_some] <;> rfl), by repeat (first | (with_reducible first | exact HB.out | apply below_alloc | apply pw_below_drewN | apply below_drew1) | exact HB.out)⟩
end Go.Proofs.Ytkgdlbepjmgaiaa.Fea
namespace Go.Proofs.Ytkgdlbepjmgaiaa.Fea
open Go.RowKit Go.Proofs.YtkgdlbepjmgaiaaW.PrintWords Go.Proofs.YtkgdlbepjmgaiaaW.PrintLast Go.Proofs.YtkgdlbepjmgaiaaW.PrintMore
attribute [local go_sem] max2_int min2_int max_two min_two max_three min_three max_four min_four
set_option linter.unusedVariables false
set_option linter.unusedSimpArgs false
def sameF.f (k : Nat) (a0_0 : Int) (a0_1 : Bool) (a0_2 : Int) (a0_3 : Int) (l0_4 : List (S106)) (a1_0 : Int) (a1_1 : Bool) (a1_2 : Int) (a1_3 : Int) (l1_4 : List (S106)) : Option (Bool) := if a0_0 = a1_0 then (if (a0_1 == a1_1) = true then (if a0_2 = a1_2 then (if a0_3 = a1_3 then ((equalD.f k l0_4 l1_4).bind fun t344 => (some t344)) else (some false)) else (some false)) else (some false)) else (some false)
theorem sameF.mono : ∀ a0 a1 a2 a3 a4 a5 a6 a7 a8 a9 k, LeO (sameF.f k a0 a1 a2 a3 a4 a5 a6 a7 a8 a9) (sameF.f (k + 1) a0 a1 a2 a3 a4 a5 a6 a7 a8 a9) := by
 intro a0 a1 a2 a3 a4 a5 a6 a7 a8 a9 k
 unfold sameF.f
 repeat' first
  | (with_reducible exact equalD.mono _ _ _)
  | (with_reducible exact LeO.refl _)
  | (with_reducible exact LeO.none _)
  | (with_reducible refine LeO.ite ?_ ?_)
  | (with_reducible refine LeO.bind ?_ (fun _ => ?_))
  | exact equalD.mono _ _ _
  | exact LeO.none _
  | refine LeO.ite ?_ ?_
  | refine LeO.bind ?_ (fun _ => ?_)
set_option maxHeartbeats 8000000 in
set_option maxRecDepth 100000 in
theorem sameF.calls (k : Nat) (a0_0 : Int) (a0_1 : Bool) (a0_2 : Int) (a0_3 : Int) (A0_4 : Option Addr) (c0_4 : Nat) (l0_4 : List (S106)) (a1_0 : Int) (a1_1 : Bool) (a1_2 : Int) (a1_3 : Int) (A1_4 : Option Addr) (c1_4 : Nat) (l1_4 : List (S106)) (r : Bool) (w : World) (hr0_4 : Kd.C k106 w A0_4 l0_4.length l0_4) (hc0_4 : l0_4.length ≤ c0_4) (hr1_4 : Kd.C k106 w A1_4 l1_4.length l1_4) (hc1_4 : l1_4.length ≤ c1_4) (h : sameF.f k a0_0 a0_1 a0_2 a0_3 l0_4 a1_0 a1_1 a1_2 a1_3 l1_4 = some r) :
 Calls Try.prog 98 #[.agg #[.int .i64 a0_0, .bool a0_1, .int .i64 a0_2, .int .i64 a0_3, .slice A0_4 l0_4.length c0_4], .agg #[.int .i64 a1_0, .bool a1_1, .int .i64 a1_2, .int .i64 a1_3, .slice A1_4 l1_4.length c1_4]] w fun e w' => e = .returned (.bool r) ∧ Below w.heap.size w w' := by
 have hu104 := Try.underlying104
 have HR0_4 := zm hr0_4
 have HC0_4 := zm hc0_4
 clear hr0_4 hc0_4
 have HR1_4 := zm hr1_4
 have HC1_4 := zm hc1_4
 clear hr1_4 hc1_4
 have HB := zm (Below.refl w.heap.size w)
 have H : (if a0_0 = a1_0 then (if (a0_1 == a1_1) = true then (if a0_2 = a1_2 then (if a0_3 = a1_3 then ((equalD.f k l0_4 l1_4).bind fun t344 => (some t344)) else (some false)) else (some false)) else (some false)) else (some false)) = some r := h
 clear h
 by_cases c3 : a0_0 = a1_0
 ·rw [if_pos c3] at H
  have c3b0 : (a0_0 == a1_0) = true := beq_iff_eq.mpr c3
  have c3b1 : (a0_0 != a1_0) = false := bne_eq_false_iff_eq.mpr c3
  clear c3
  by_cases c4 : (a0_1 == a1_1) = true
  ·rw [if_pos c4] at H
   have c4b0 : (a0_1 == a1_1) = true := c4
   (try (have c4b1 : decide (a0_1 = a1_1) = true := by simpa using c4))
   (try (have c4b2 : (a0_1 == a1_1) = true := by simpa using c4))
   clear c4
   by_cases c5 : a0_2 = a1_2
   ·rw [if_pos c5] at H
    have c5b0 : (a0_2 == a1_2) = true := beq_iff_eq.mpr c5
    have c5b1 : (a0_2 != a1_2) = false := bne_eq_false_iff_eq.mpr c5
    clear c5
    by_cases c6 : a0_3 = a1_3
    ·rw [if_pos c6] at H
     have c6b0 : (a0_3 == a1_3) = true := beq_iff_eq.mpr c6
     have c6b1 : (a0_3 != a1_3) = false := bne_eq_false_iff_eq.mpr c6
     clear c6
     replace H := Option.bind_eq_some_iff.mp H
     obtain ⟨t344, A70, H⟩ := H
     replace H : (some t344) = some r := H
     have A7 := zm A70
     clear A70
     obtain rfl := Option.some.inj H
     go_enter Try.func98, Try.ntmps98
     go_wp2_with (first | ((with_reducible refine gate_dst (N := 2) rfl ?_); refine box_event ?hg (N := 2) ?hd (cs := #[.int .i64 a0_0, .bool a0_1, .int .i64 a0_2, .int .i64 a0_3, .slice A0_4 l0_4.length c0_4]) (t := 104) ?hr ?_; (case hd => rfl); (case hg => rfl); (case hr => first | (go_simp; done) | (go_simp; rfl)); intro gb342 hg w8 hbox hb; have n0_ := zm (below_step (by repeat (first | (with_reducible first | exact HB.out | apply zA | apply zD | apply zE) | exact HB.out)) hb); have n1_ := zm (hbox); have n2_ := zm ((by rw [hg]; exact (below_size (by repeat (first | (with_reducible first | exact HB.out | apply zA | apply zD | apply zE) | exact HB.out))) : w.heap.size ≤ gb342)); have n3_ := zm ((by rw [hg]; exact (below_size (by repeat (first | (with_reducible first | exact HB.out | apply zA | apply zD | apply zE) | exact HB.out))) : w.heap.size ≤ gb342)); clear HB; have HB := n0_; have BK342 := n1_; have GW342 := n2_; have GE342 := n3_; clear n0_ n1_ n2_ n3_; clear hb hbox hg) | ((with_reducible refine gate_dst (N := 3) rfl ?_); refine box_event ?hg (N := 3) ?hd (cs := #[.int .i64 a1_0, .bool a1_1, .int .i64 a1_2, .int .i64 a1_3, .slice A1_4 l1_4.length c1_4]) (t := 104) ?hr ?_; (case hd => rfl); (case hg => rfl); (case hr => first | (go_simp; done) | (go_simp; rfl)); intro gb343 hg w9 hbox hb; have n0_ := zm (zb (g := gb342) (o := .cells #[.int .i64 a0_0, .bool a0_1, .int .i64 a0_2, .int .i64 a0_3, .slice A0_4 l0_4.length c0_4] 104 (0, 0)) (by (with_reducible repeat first | apply zd | apply ze | apply za); exact BK342.out) hb); have n1_ := zm (below_step (by repeat (first | (with_reducible first | exact HB.out | apply zA | apply zD | apply zE | refine zS ?_ GE342.out) | exact HB.out)) hb); have n2_ := zm (hbox); have n3_ := zm ((by rw [hg]; exact (below_size (by repeat (first | (with_reducible first | exact HB.out | apply zA | apply zD | apply zE | refine zS ?_ GE342.out) | exact HB.out))) : w.heap.size ≤ gb343)); have n4_ := zm ((by rw [hg]; exact (below_size (by repeat (first | (with_reducible first | exact HB.out | apply zA | apply zD | apply zE | refine zS ?_ GE342.out) | exact HB.out))) : w.heap.size ≤ gb343)); have n5_ := zm ((by rw [hg]; exact Nat.ne_of_lt (blk_lt (g := gb342) (o := .cells #[.int .i64 a0_0, .bool a0_1, .int .i64 a0_2, .int .i64 a0_3, .slice A0_4 l0_4.length c0_4] 104 (0, 0)) (by (with_reducible repeat first | apply zd | apply ze | apply za); exact BK342.out)) : gb342 ≠ gb343)); have n6_ := zm ((by rw [hg]; exact Nat.ne_of_gt (blk_lt (g := gb342) (o := .cells #[.int .i64 a0_0, .bool a0_1, .int .i64 a0_2, .int .i64 a0_3, .slice A0_4 l0_4.length c0_4] 104 (0, 0)) (by (with_reducible repeat first | apply zd | apply ze | apply za); exact BK342.out)) : gb343 ≠ gb342)); clear BK342 HB; have BK342 := n0_; have HB := n1_; have BK343 := n2_; have GW343 := n3_; have GE343 := n4_; have NB342_343 := n5_; have NB343_342 := n6_; clear n0_ n1_ n2_ n3_ n4_ n5_ n6_; clear hb hbox hg; have hnb10 := NB342_343.out; have hnc10 := NB343_342.out; have hcz11_0 := zc BK342.out 0 (.int .i64 a0_0) rfl; have hcz11_1 := zc BK342.out 1 (.bool a0_1) rfl; have hcz11_2 := zc BK342.out 2 (.int .i64 a0_2) rfl; have hcz11_3 := zc BK342.out 3 (.int .i64 a0_3) rfl; have hcz11_4 := zc BK342.out 4 (.slice A0_4 l0_4.length c0_4) rfl; have hfz11_0 := zf BK342.out 0; have hfz11_1 := zf BK342.out 1; have hfz11_2 := zf BK342.out 2; have hfz11_3 := zf BK342.out 3; have hfz11_4 := zf BK342.out 4; have hcz12_0 := zc BK343.out 0 (.int .i64 a1_0) rfl; have hcz12_1 := zc BK343.out 1 (.bool a1_1) rfl; have hcz12_2 := zc BK343.out 2 (.int .i64 a1_2) rfl; have hcz12_3 := zc BK343.out 3 (.int .i64 a1_3) rfl; have hcz12_4 := zc BK343.out 4 (.slice A1_4 l1_4.length c1_4) rfl; have hfz12_0 := zf BK343.out 0; have hfz12_1 := zf BK343.out 1; have hfz12_2 := zf BK343.out 2; have hfz12_3 := zf BK343.out 3; have hfz12_4 := zf BK343.out 4) | (go_at_call 99; (with_reducible refine (equalD.calls k _ _ l0_4 _ _ l1_4 t344 _ ?side1 ?side2 ?side3 ?side4 A7.out).mono ?_); (case side1 => repeat (first | exact (Kd.C_below HR0_4.out HB.out) | (with_reducible refine Kd.C_alloc ?_ _) | (with_reducible refine Kd.C_drewN ?_ _) | (with_reducible refine Kd.C_drew ?_))); (case side2 => exact HC0_4.out); (case side3 => repeat (first | exact (Kd.C_below HR1_4.out HB.out) | (with_reducible refine Kd.C_alloc ?_ _) | (with_reducible refine Kd.C_drewN ?_ _) | (with_reducible refine Kd.C_drew ?_))); (case side4 => exact HC1_4.out); rintro e w13 ⟨rfl, hb⟩; have n0_ := zm (zb (g := gb342) (o := .cells #[.int .i64 a0_0, .bool a0_1, .int .i64 a0_2, .int .i64 a0_3, .slice A0_4 l0_4.length c0_4] 104 (0, 0)) (by (with_reducible repeat first | apply zd | apply ze | apply za); exact BK342.out) hb); have n1_ := zm (zb (g := gb343) (o := .cells #[.int .i64 a1_0, .bool a1_1, .int .i64 a1_2, .int .i64 a1_3, .slice A1_4 l1_4.length c1_4] 104 (0, 0)) (by (with_reducible repeat first | apply zd | apply ze | apply za); exact BK343.out) hb); have n2_ := zm (below_step (by repeat (first | (with_reducible first | exact HB.out | apply zA | apply zD | apply zE | refine zS ?_ GE342.out | refine zS ?_ GE343.out) | exact HB.out)) hb); clear BK342 BK343 HB; have BK342 := n0_; have BK343 := n1_; have HB := n2_; clear n0_ n1_ n2_; (try clear hb); (try clear hb2); (try clear hk); (try clear hi)))
     go_ret
     exact ⟨by first | rfl | (simp [errW_none, errW_some] <;> rfl) | (simp [*, errW_none, errW_some] <;> rfl), by repeat (first | (with_reducible first | exact HB.out | apply zA | apply zD | apply zE | refine zS ?_ GE342.out | refine zS ?_ GE343.out) | exact HB.out)⟩
    ·rw [if_neg c6] at H
     have c6b0 : (a0_3 == a1_3) = false := beq_eq_false_iff_ne.mpr c6
     have c6b1 : (a0_3 != a1_3) = true := bne_iff_ne.mpr c6
     obtain rfl := Option.some.inj H
     go_enter Try.func98, Try.ntmps98
     go_wp2_with (first | ((with_reducible refine gate_dst (N := 2) rfl ?_); refine box_event ?hg (N := 2) ?hd (cs := #[.int .i64 a0_0, .bool a0_1, .int .i64 a0_2, .int .i64 a0_3, .slice A0_4 l0_4.length c0_4]) (t := 104) ?hr ?_; (case hd => rfl); (case hg => rfl); (case hr => first | (go_simp; done) | (go_simp; rfl)); intro gb342 hg w14 hbox hb; have n0_ := zm (below_step (by repeat (first | (with_reducible first | exact HB.out | apply zA | apply zD | apply zE) | exact HB.out)) hb); have n1_ := zm (hbox); have n2_ := zm ((by rw [hg]; exact (below_size (by repeat (first | (with_reducible first | exact HB.out | apply zA | apply zD | apply zE) | exact HB.out))) : w.heap.size ≤ gb342)); have n3_ := zm ((by rw [hg]; exact (below_size (by repeat (first | (with_reducible first | exact HB.out | apply zA | apply zD | apply zE) | exact HB.out))) : w.heap.size ≤ gb342)); clear HB; have HB := n0_; have BK342 := n1_; have GW342 := n2_; have GE342 := n3_; clear n0_ n1_ n2_ n3_; clear hb hbox hg) | ((with_reducible refine gate_dst (N := 3) rfl ?_); refine box_event ?hg (N := 3) ?hd (cs := #[.int .i64 a1_0, .bool a1_1, .int .i64 a1_2, .int .i64 a1_3, .slice A1_4 l1_4.length c1_4]) (t := 104) ?hr ?_; (case hd => rfl); (case hg => rfl); (case hr => first | (go_simp; done) | (go_simp; rfl)); intro gb343 hg w15 hbox hb; have n0_ := zm (zb (g := gb342) (o := .cells #[.int .i64 a0_0, .bool a0_1, .int .i64 a0_2, .int .i64 a0_3, .slice A0_4 l0_4.length c0_4] 104 (0, 0)) (by (with_reducible repeat first | apply zd | apply ze | apply za); exact BK342.out) hb); have n1_ := zm (below_step (by repeat (first | (with_reducible first | exact HB.out | apply zA | apply zD | apply zE | refine zS ?_ GE342.out) | exact HB.out)) hb); have n2_ := zm (hbox); have n3_ := zm ((by rw [hg]; exact (below_size (by repeat (first | (with_reducible first | exact HB.out | apply zA | apply zD | apply zE | refine zS ?_ GE342.out) | exact HB.out))) : w.heap.size ≤ gb343)); have n4_ := zm ((by rw [hg]; exact (below_size (by repeat (first | (with_reducible first | exact HB.out | apply zA | apply zD | apply zE | refine zS ?_ GE342.out) | exact HB.out))) : w.heap.size ≤ gb343)); have n5_ := zm ((by rw [hg]; exact Nat.ne_of_lt (blk_lt (g := gb342) (o := .cells #[.int .i64 a0_0, .bool a0_1, .int .i64 a0_2, .int .i64 a0_3, .slice A0_4 l0_4.length c0_4] 104 (0, 0)) (by (with_reducible repeat first | apply zd | apply ze | apply za); exact BK342.out)) : gb342 ≠ gb343)); have n6_ := zm ((by rw [hg]; exact Nat.ne_of_gt (blk_lt (g := gb342) (o := .cells #[.int .i64 a0_0, .bool a0_1, .int .i64 a0_2, .int .i64 a0_3, .slice A0_4 l0_4.length c0_4] 104 (0, 0)) (by (with_reducible repeat first | apply zd | apply ze | apply za); exact BK342.out)) : gb343 ≠ gb342)); clear BK342 HB; have BK342 := n0_; have HB := n1_; have BK343 := n2_; have GW343 := n3_; have GE343 := n4_; have NB342_343 := n5_; have NB343_342 := n6_; clear n0_ n1_ n2_ n3_ n4_ n5_ n6_; clear hb hbox hg; have hnb16 := NB342_343.out; have hnc16 := NB343_342.out; have hcz17_0 := zc BK342.out 0 (.int .i64 a0_0) rfl; have hcz17_1 := zc BK342.out 1 (.bool a0_1) rfl; have hcz17_2 := zc BK342.out 2 (.int .i64 a0_2) rfl; have hcz17_3 := zc BK342.out 3 (.int .i64 a0_3) rfl; have hcz17_4 := zc BK342.out 4 (.slice A0_4 l0_4.length c0_4) rfl; have hfz17_0 := zf BK342.out 0; have hfz17_1 := zf BK342.out 1; have hfz17_2 := zf BK342.out 2; have hfz17_3 := zf BK342.out 3; have hfz17_4 := zf BK342.out 4; have hcz18_0 := zc BK343.out 0 (.int .i64 a1_0) rfl; have hcz18_1 := zc BK343.out 1 (.bool a1_1) rfl; have hcz18_2 := zc BK343.out 2 (.int .i64 a1_2) rfl; have hcz18_3 := zc BK343.out 3 (.int .i64 a1_3) rfl; have hcz18_4 := zc BK343.out 4 (.slice A1_4 l1_4.length c1_4) rfl; have hfz18_0 := zf BK343.out 0; have hfz18_1 := zf BK343.out 1; have hfz18_2 := zf BK343.out 2; have hfz18_3 := zf BK343.out 3; have hfz18_4 := zf BK343.out 4))
     go_ret
     exact ⟨by first | rfl | (simp [errW_none, errW_some] <;> rfl) | (simp [*, errW_none, errW_some] <;> rfl), by repeat (first | (with_reducible first | exact HB.out | apply zA | apply zD | apply zE | refine zS ?_ GE342.out | refine zS ?_ GE343.out) | exact HB.out)⟩
   ·rw [if_neg c5] at H
    have c5b0 : (a0_2 == a1_2) = false := beq_eq_false_iff_ne.mpr c5
    have c5b1 : (a0_2 != a1_2) = true := bne_iff_ne.mpr c5
    obtain rfl := Option.some.inj H
    go_enter Try.func98, Try.ntmps98
    go_wp2_with (first | ((with_reducible refine gate_dst (N := 2) rfl ?_); refine box_event ?hg (N := 2) ?hd (cs := #[.int .i64 a0_0, .bool a0_1, .int .i64 a0_2, .int .i64 a0_3, .slice A0_4 l0_4.length c0_4]) (t := 104) ?hr ?_; (case hd => rfl); (case hg => rfl); (case hr => first | (go_simp; done) | (go_simp; rfl)); intro gb342 hg w19 hbox hb; have n0_ := zm (below_step (by repeat (first | (with_reducible first | exact HB.out | apply zA | apply zD | apply zE) | exact HB.out)) hb); have n1_ := zm (hbox); have n2_ := zm ((by rw [hg]; exact (below_size (by repeat (first | (with_reducible first | exact HB.out | apply zA | apply zD | apply zE) | exact HB.out))) : w.heap.size ≤ gb342)); have n3_ := zm ((by rw [hg]; exact (below_size (by repeat (first | (with_reducible first | exact HB.out | apply zA | apply zD | apply zE) | exact HB.out))) : w.heap.size ≤ gb342)); clear HB; have HB := n0_; have BK342 := n1_; have GW342 := n2_; have GE342 := n3_; clear n0_ n1_ n2_ n3_; clear hb hbox hg) | ((with_reducible refine gate_dst (N := 3) rfl ?_); refine box_event ?hg (N := 3) ?hd (cs := #[.int .i64 a1_0, .bool a1_1, .int .i64 a1_2, .int .i64 a1_3, .slice A1_4 l1_4.length c1_4]) (t := 104) ?hr ?_; (case hd => rfl); (case hg => rfl); (case hr => first | (go_simp; done) | (go_simp; rfl)); intro gb343 hg w20 hbox hb; have n0_ := zm (zb (g := gb342) (o := .cells #[.int .i64 a0_0, .bool a0_1, .int .i64 a0_2, .int .i64 a0_3, .slice A0_4 l0_4.length c0_4] 104 (0, 0)) (by (with_reducible repeat first | apply zd | apply ze | apply za); exact BK342.out) hb); have n1_ := zm (below_step (by repeat (first | (with_reducible first | exact HB.out | apply zA | apply zD | apply zE | refine zS ?_ GE342.out) | exact HB.out)) hb); have n2_ := zm (hbox); have n3_ := zm ((by rw [hg]; exact (below_size (by repeat (first | (with_reducible first | exact HB.out | apply zA | apply zD | apply zE | refine zS ?_ GE342.out) | exact HB.out))) : w.heap.size ≤ gb343)); have n4_ := zm ((by rw [hg]; exact (below_size (by repeat (first | (with_reducible first | exact HB.out | apply zA | apply zD | apply zE | refine zS ?_ GE342.out) | exact HB.out))) : w.heap.size ≤ gb343)); have n5_ := zm ((by rw [hg]; exact Nat.ne_of_lt (blk_lt (g := gb342) (o := .cells #[.int .i64 a0_0, .bool a0_1, .int .i64 a0_2, .int .i64 a0_3, .slice A0_4 l0_4.length c0_4] 104 (0, 0)) (by (with_reducible repeat first | apply zd | apply ze | apply za); exact BK342.out)) : gb342 ≠ gb343)); have n6_ := zm ((by rw [hg]; exact Nat.ne_of_gt (blk_lt (g := gb342) (o := .cells #[.int .i64 a0_0, .bool a0_1, .int .i64 a0_2, .int .i64 a0_3, .slice A0_4 l0_4.length c0_4] 104 (0, 0)) (by (with_reducible repeat first | apply zd | apply ze | apply za); exact BK342.out)) : gb343 ≠ gb342)); clear BK342 HB; have BK342 := n0_; have HB := n1_; have BK343 := n2_; have GW343 := n3_; have GE343 := n4_; have NB342_343 := n5_; have NB343_342 := n6_; clear n0_ n1_ n2_ n3_ n4_ n5_ n6_; clear hb hbox hg; have hnb21 := NB342_343.out; have hnc21 := NB343_342.out; have hcz22_0 := zc BK342.out 0 (.int .i64 a0_0) rfl; have hcz22_1 := zc BK342.out 1 (.bool a0_1) rfl; have hcz22_2 := zc BK342.out 2 (.int .i64 a0_2) rfl; have hcz22_3 := zc BK342.out 3 (.int .i64 a0_3) rfl; have hcz22_4 := zc BK342.out 4 (.slice A0_4 l0_4.length c0_4) rfl; have hfz22_0 := zf BK342.out 0; have hfz22_1 := zf BK342.out 1; have hfz22_2 := zf BK342.out 2; have hfz22_3 := zf BK342.out 3; have hfz22_4 := zf BK342.out 4; have hcz23_0 := zc BK343.out 0 (.int .i64 a1_0) rfl; have hcz23_1 := zc BK343.out 1 (.bool a1_1) rfl; have hcz23_2 := zc BK343.out 2 (.int .i64 a1_2) rfl; have hcz23_3 := zc BK343.out 3 (.int .i64 a1_3) rfl; have hcz23_4 := zc BK343.out 4 (.slice A1_4 l1_4.length c1_4) rfl; have hfz23_0 := zf BK343.out 0; have hfz23_1 := zf BK343.out 1; have hfz23_2 := zf BK343.out 2; have hfz23_3 := zf BK343.out 3; have hfz23_4 := zf BK343.out 4))
    go_ret
    exact ⟨by first | rfl | (simp [errW_none, errW_some] <;> rfl) | (simp [*, errW_none, errW_some] <;> rfl), by repeat (first | (with_reducible first | exact HB.out | apply zA | apply zD | apply zE | refine zS ?_ GE342.out | refine zS ?_ GE343.out) | exact HB.out)⟩
  ·rw [if_neg c4] at H
   have c4b0 : (a0_1 == a1_1) = false := by simpa using c4
   (try (have c4b1 : decide (a0_1 = a1_1) = false := by simpa using c4))
   (try (have c4b2 : (a0_1 == a1_1) = false := by simpa using c4))
   (try (have c4b3 : ¬ (a0_1 = a1_1) := by simpa using c4))
   clear c4
   obtain rfl := Option.some.inj H
   go_enter Try.func98, Try.ntmps98
   go_wp2_with (first | ((with_reducible refine gate_dst (N := 2) rfl ?_); refine box_event ?hg (N := 2) ?hd (cs := #[.int .i64 a0_0, .bool a0_1, .int .i64 a0_2, .int .i64 a0_3, .slice A0_4 l0_4.length c0_4]) (t := 104) ?hr ?_; (case hd => rfl); (case hg => rfl); (case hr => first | (go_simp; done) | (go_simp; rfl)); intro gb342 hg w24 hbox hb; have n0_ := zm (below_step (by repeat (first | (with_reducible first | exact HB.out | apply zA | apply zD | apply zE) | exact HB.out)) hb); have n1_ := zm (hbox); have n2_ := zm ((by rw [hg]; exact (below_size (by repeat (first | (with_reducible first | exact HB.out | apply zA | apply zD | apply zE) | exact HB.out))) : w.heap.size ≤ gb342)); have n3_ := zm ((by rw [hg]; exact (below_size (by repeat (first | (with_reducible first | exact HB.out | apply zA | apply zD | apply zE) | exact HB.out))) : w.heap.size ≤ gb342)); clear HB; have HB := n0_; have BK342 := n1_; have GW342 := n2_; have GE342 := n3_; clear n0_ n1_ n2_ n3_; clear hb hbox hg) | ((with_reducible refine gate_dst (N := 3) rfl ?_); refine box_event ?hg (N := 3) ?hd (cs := #[.int .i64 a1_0, .bool a1_1, .int .i64 a1_2, .int .i64 a1_3, .slice A1_4 l1_4.length c1_4]) (t := 104) ?hr ?_; (case hd => rfl); (case hg => rfl); (case hr => first | (go_simp; done) | (go_simp; rfl)); intro gb343 hg w25 hbox hb; have n0_ := zm (zb (g := gb342) (o := .cells #[.int .i64 a0_0, .bool a0_1, .int .i64 a0_2, .int .i64 a0_3, .slice A0_4 l0_4.length c0_4] 104 (0, 0)) (by (with_reducible repeat first | apply zd | apply ze | apply za); exact BK342.out) hb); have n1_ := zm (below_step (by repeat (first | (with_reducible first | exact HB.out | apply zA | apply zD | apply zE | refine zS ?_ GE342.out) | exact HB.out)) hb); have n2_ := zm (hbox); have n3_ := zm ((by rw [hg]; exact (below_size (by repeat (first | (with_reducible first | exact HB.out | apply zA | apply zD | apply zE | refine zS ?_ GE342.out) | exact HB.out))) : w.heap.size ≤ gb343)); have n4_ := zm ((by rw [hg]; exact (below_size (by repeat (first | (with_reducible first | exact HB.out | apply zA | apply zD | apply zE | refine zS ?_ GE342.out) | exact HB.out))) : w.heap.size ≤ gb343)); have n5_ := zm ((by rw [hg]; exact Nat.ne_of_lt (blk_lt (g := gb342) (o := .cells #[.int .i64 a0_0, .bool a0_1, .int .i64 a0_2, .int .i64 a0_3, .slice A0_4 l0_4.length c0_4] 104 (0, 0)) (by (with_reducible repeat first | apply zd | apply ze | apply za); exact BK342.out)) : gb342 ≠ gb343)); have n6_ := zm ((by rw [hg]; exact Nat.ne_of_gt (blk_lt (g := gb342) (o := .cells #[.int .i64 a0_0, .bool a0_1, .int .i64 a0_2, .int .i64 a0_3, .slice A0_4 l0_4.length c0_4] 104 (0, 0)) (by (with_reducible repeat first | apply zd | apply ze | apply za); exact BK342.out)) : gb343 ≠ gb342)); clear BK342 HB; have BK342 := n0_; have HB := n1_; have BK343 := n2_; have GW343 := n3_; have GE343 := n4_; have NB342_343 := n5_; have NB343_342 := n6_; clear n0_ n1_ n2_ n3_ n4_ n5_ n6_; clear hb hbox hg; have hnb26 := NB342_343.out; have hnc26 := NB343_342.out; have hcz27_0 := zc BK342.out 0 (.int .i64 a0_0) rfl; have hcz27_1 := zc BK342.out 1 (.bool a0_1) rfl; have hcz27_2 := zc BK342.out 2 (.int .i64 a0_2) rfl; have hcz27_3 := zc BK342.out 3 (.int .i64 a0_3) rfl; have hcz27_4 := zc BK342.out 4 (.slice A0_4 l0_4.length c0_4) rfl; have hfz27_0 := zf BK342.out 0; have hfz27_1 := zf BK342.out 1; have hfz27_2 := zf BK342.out 2; have hfz27_3 := zf BK342.out 3; have hfz27_4 := zf BK342.out 4; have hcz28_0 := zc BK343.out 0 (.int .i64 a1_0) rfl; have hcz28_1 := zc BK343.out 1 (.bool a1_1) rfl; have hcz28_2 := zc BK343.out 2 (.int .i64 a1_2) rfl; have hcz28_3 := zc BK343.out 3 (.int .i64 a1_3) rfl; have hcz28_4 := zc BK343.out 4 (.slice A1_4 l1_4.length c1_4) rfl; have hfz28_0 := zf BK343.out 0; have hfz28_1 := zf BK343.out 1; have hfz28_2 := zf BK343.out 2; have hfz28_3 := zf BK343.out 3; have hfz28_4 := zf BK343.out 4))
   go_ret
   exact ⟨by first | rfl | (simp [errW_none, errW_some] <;> rfl) | (simp [*, errW_none, errW_some] <;> rfl), by repeat (first | (with_reducible first | exact HB.out | apply zA | apply zD | apply zE | refine zS ?_ GE342.out | refine zS ?_ GE343.out) | exact HB.out)⟩
 ·rw [if_neg c3] at H
  have c3b0 : (a0_0 == a1_0) = false := beq_eq_false_iff_ne.mpr c3
  have c3b1 : (a0_0 != a1_0) = true := bne_iff_ne.mpr c3
  obtain rfl := Option.some.inj H
  go_enter Try.func98, Try.ntmps98
  go_wp2_with (first | ((with_reducible refine gate_dst (N := 2) rfl ?_); refine box_event ?hg (N := 2) ?hd (cs := #[.int .i64 a0_0, .bool a0_1, .int .i64 a0_2, .int .i64 a0_3, .slice A0_4 l0_4.length c0_4]) (t := 104) ?hr ?_; (case hd => rfl); (case hg => rfl); (case hr => first | (go_simp; done) | (go_simp; rfl)); intro gb342 hg w29 hbox hb; have n0_ := zm (below_step (by repeat (first | (with_reducible first | exact HB.out | apply zA | apply zD | apply zE) | exact HB.out)) hb); have n1_ := zm (hbox); have n2_ := zm ((by rw [hg]; exact (below_size (by repeat (first | (with_reducible first | exact HB.out | apply zA | apply zD | apply zE) | exact HB.out))) : w.heap.size ≤ gb342)); have n3_ := zm ((by rw [hg]; exact (below_size (by repeat (first | (with_reducible first | exact HB.out | apply zA | apply zD | apply zE) | exact HB.out))) : w.heap.size ≤ gb342)); clear HB; have HB := n0_; have BK342 := n1_; have GW342 := n2_; have GE342 := n3_; clear n0_ n1_ n2_ n3_; clear hb hbox hg) | ((with_reducible refine gate_dst (N := 3) rfl ?_); refine box_event ?hg (N := 3) ?hd (cs := #[.int .i64 a1_0, .bool a1_1, .int .i64 a1_2, .int .i64 a1_3, .slice A1_4 l1_4.length c1_4]) (t := 104) ?hr ?_; (case hd => rfl); (case hg => rfl); (case hr => first | (go_simp; done) | (go_simp; rfl)); intro gb343 hg w30 hbox hb; have n0_ := zm (zb (g := gb342) (o := .cells #[.int .i64 a0_0, .bool a0_1, .int .i64 a0_2, .int .i64 a0_3, .slice A0_4 l0_4.length c0_4] 104 (0, 0)) (by (with_reducible repeat first | apply zd | apply ze | apply za); exact BK342.out) hb); have n1_ := zm (below_step (by repeat (first | (with_reducible first | exact HB.out | apply zA | apply zD | apply zE | refine zS ?_ GE342.out) | exact HB.out)) hb); have n2_ := zm (hbox); have n3_ := zm ((by rw [hg]; exact (below_size (by repeat (first | (with_reducible first | exact HB.out | apply zA | apply zD | apply zE | refine zS ?_ GE342.out) | exact HB.out))) : w.heap.size ≤ gb343)); have n4_ := zm ((by rw [hg]; exact (below_size (by repeat (first | (with_reducible first | exact HB.out | apply zA | apply zD | apply zE | refine zS ?_ GE342.out) | exact HB.out))) : w.heap.size ≤ gb343)); have n5_ := zm ((by rw [hg]; exact Nat.ne_of_lt (blk_lt (g := gb342) (o := .cells #[.int .i64 a0_0, .bool a0_1, .int .i64 a0_2, .int .i64 a0_3, .slice A0_4 l0_4.length c0_4] 104 (0, 0)) (by (with_reducible repeat first | apply zd | apply ze | apply za); exact BK342.out)) : gb342 ≠ gb343)); have n6_ := zm ((by rw [hg]; exact Nat.ne_of_gt (blk_lt (g := gb342) (o := .cells #[.int .i64 a0_0, .bool a0_1, .int .i64 a0_2, .int .i64 a0_3, .slice A0_4 l0_4.length c0_4] 104 (0, 0)) (by (with_reducible repeat first | apply zd | apply ze | apply za); exact BK342.out)) : gb343 ≠ gb342)); clear BK342 HB; have BK342 := n0_; have HB := n1_; have BK343 := n2_; have GW343 := n3_; have GE343 := n4_; have NB342_343 := n5_; have NB343_342 := n6_; clear n0_ n1_ n2_ n3_ n4_ n5_ n6_; clear hb hbox hg; have hnb31 := NB342_343.out; have hnc31 := NB343_342.out; have hcz32_0 := zc BK342.out 0 (.int .i64 a0_0) rfl; have hcz32_1 := zc BK342.out 1 (.bool a0_1) rfl; have hcz32_2 := zc BK342.out 2 (.int .i64 a0_2) rfl; have hcz32_3 := zc BK342.out 3 (.int .i64 a0_3) rfl; have hcz32_4 := zc BK342.out 4 (.slice A0_4 l0_4.length c0_4) rfl; have hfz32_0 := zf BK342.out 0; have hfz32_1 := zf BK342.out 1; have hfz32_2 := zf BK342.out 2; have hfz32_3 := zf BK342.out 3; have hfz32_4 := zf BK342.out 4; have hcz33_0 := zc BK343.out 0 (.int .i64 a1_0) rfl; have hcz33_1 := zc BK343.out 1 (.bool a1_1) rfl; have hcz33_2 := zc BK343.out 2 (.int .i64 a1_2) rfl; have hcz33_3 := zc BK343.out 3 (.int .i64 a1_3) rfl; have hcz33_4 := zc BK343.out 4 (.slice A1_4 l1_4.length c1_4) rfl; have hfz33_0 := zf BK343.out 0; have hfz33_1 := zf BK343.out 1; have hfz33_2 := zf BK343.out 2; have hfz33_3 := zf BK343.out 3; have hfz33_4 := zf BK343.out 4))
  go_ret
  exact ⟨by first | rfl | (simp [errW_none, errW_some] <;> rfl) | (simp [*, errW_none, errW_some] <;> rfl), by repeat (first | (with_reducible first | exact HB.out | apply zA | apply zD | apply zE | refine zS ?_ GE342.out | refine zS ?_ GE343.out) | exact HB.out)⟩
end Go.Proofs.Ytkgdlbepjmgaiaa.Fea
namespace Go.Proofs.Ytkgdlbepjmgaiaa.Fea
open Go.RowKit Go.Proofs.YtkgdlbepjmgaiaaW.PrintWords Go.Proofs.YtkgdlbepjmgaiaaW.PrintLast Go.Proofs.YtkgdlbepjmgaiaaW.PrintMore
attribute [local go_sem] max2_int min2_int max_two min_two max_three min_three max_four min_four
set_option linter.unusedVariables false
set_option linter.unusedSimpArgs false
def eqfF.l0 : Nat → List (S104) → List (S104) → Int → Int → Option (Bool)
  | 0, _, _, _, _ => none
  | k + 1, x1, x15, x16, x17 => if x17 < x16 then (if 0 ≤ x17 then (if x17 < (x15.length : Int) then (if x17 < (x1.length : Int) then ((sameF.f k ((rd_T104 x15 x17).f0) ((rd_T104 x15 x17).f1) ((rd_T104 x15 x17).f2) ((rd_T104 x15 x17).f3) ((rd_T104 x15 x17).f4) ((rd_T104 x1 x17).f0) ((rd_T104 x1 x17).f1) ((rd_T104 x1 x17).f2) ((rd_T104 x1 x17).f3) ((rd_T104 x1 x17).f4)).bind fun t349 => (if t349 = true then (eqfF.l0 k x1 x15 x16 (wrap64 (x17 + 1))) else (some false))) else (none)) else (none)) else (none)) else (some true)
def eqfF.f (k : Nat) (l0 : List (S104)) (l1 : List (S104)) : Option (Bool) := if (l0.length : Int) = (l1.length : Int) then (eqfF.l0 k l1 l0 (l0.length : Int) 0) else (some false)
theorem eqfF.mono_l : ∀ k, (∀ y0 y1 y2 y3, LeO (eqfF.l0 k y0 y1 y2 y3) (eqfF.l0 (k + 1) y0 y1 y2 y3))
 | 0 => fun _ _ _ _ r h => by simp [eqfF.l0] at h
 | k + 1 => by
  have ih0 := eqfF.mono_l k
  ·intro y0 y1 y2 y3
   unfold eqfF.l0
   repeat' first
   | (with_reducible exact ih0 _ _ _ _)
   | (with_reducible exact sameF.mono _ _ _ _ _ _ _ _ _ _ _)
   | (with_reducible exact LeO.refl _)
   | (with_reducible exact LeO.none _)
   | (with_reducible refine LeO.ite ?_ ?_)
   | (with_reducible refine LeO.bind ?_ (fun _ => ?_))
   | exact ih0 _ _ _ _
   | exact sameF.mono _ _ _ _ _ _ _ _ _ _ _
   | exact LeO.none _
   | refine LeO.ite ?_ ?_
   | refine LeO.bind ?_ (fun _ => ?_)
theorem eqfF.mono : ∀ a0 a1 k, LeO (eqfF.f k a0 a1) (eqfF.f (k + 1) a0 a1) := by
 intro a0 a1 k
 have ih0 := eqfF.mono_l k
 unfold eqfF.f
 repeat' first
  | (with_reducible exact ih0 _ _ _ _)
  | (with_reducible exact sameF.mono _ _ _ _ _ _ _ _ _ _ _)
  | (with_reducible exact LeO.refl _)
  | (with_reducible exact LeO.none _)
  | (with_reducible refine LeO.ite ?_ ?_)
  | (with_reducible refine LeO.bind ?_ (fun _ => ?_))
  | exact ih0 _ _ _ _
  | exact sameF.mono _ _ _ _ _ _ _ _ _ _ _
  | exact LeO.none _
  | refine LeO.ite ?_ ?_
  | refine LeO.bind ?_ (fun _ => ?_)
set_option maxHeartbeats 8000000 in
set_option maxRecDepth 100000 in
theorem eqfF.calls (k : Nat) (A0 : Option Addr) (c0 : Nat) (l0 : List (S104)) (A1 : Option Addr) (c1 : Nat) (l1 : List (S104)) (r : Bool) (w : World) (hr0 : Kd.C k104 w A0 l0.length l0) (hc0 : l0.length ≤ c0) (hr1 : Kd.C k104 w A1 l1.length l1) (hc1 : l1.length ≤ c1) (h : eqfF.f k l0 l1 = some r) :
 Calls Try.prog 127 #[.slice A0 l0.length c0, .slice A1 l1.length c1, .func (.func 98) #[] #[]] w fun e w' => e = .returned (.bool r) ∧ Below w.heap.size w w' := by
 have hu104 := Try.underlying104
 have HR0 := zm hr0
 have HC0 := zm hc0
 clear hr0 hc0
 have HR1 := zm hr1
 have HC1 := zm hc1
 clear hr1 hc1
 have HB := zm (Below.refl w.heap.size w)
 have H : (if (l0.length : Int) = (l1.length : Int) then (eqfF.l0 k l1 l0 (l0.length : Int) 0) else (some false)) = some r := h
 clear h
 by_cases c3 : (l0.length : Int) = (l1.length : Int)
 ·rw [if_pos c3] at H
  have c3b0 : ((l0.length : Int) == (l1.length : Int)) = true := beq_iff_eq.mpr c3
  have c3b1 : ((l0.length : Int) != (l1.length : Int)) = false := bne_eq_false_iff_eq.mpr c3
  have c3b2 : (l0.length == l1.length) = true := by first | simpa using c3 | (simp at c3 ⊢; omega)
  clear c3
  have H' := zm H
  clear H
  go_enter Try.func127, Try.ntmps127
  go_wp2
  go_loopg [17] k (fun kq v17 w' => ∃ (x17_1 : Int), v17 = .int .i64 x17_1 ∧ Aside0 (eqfF.l0 kq l1 l0 (l0.length : Int) x17_1 = some r) ∧ Aside0 (kq ≤ k) ∧ Aside0 (Below w.heap.size w w'))
  case atStart => exact ⟨(0), (by first | rfl | (simp; done) | (simp [*]; done)), H', ⟨Nat.le_refl _⟩, ⟨by repeat (first | (with_reducible first | exact HB.out | apply zA | apply zD | apply zE) | exact HB.out)⟩⟩
  case round =>
   clear H'
   try clear c1
   try clear p2
   try clear c3
   try clear c3b0
   try clear c3b1
   try clear c3b2
   obtain ⟨x17_1, rfl, HA, HK1, HB⟩ := hrel
   cases gk with
   | zero => exact absurd HA.out (by simp [eqfF.l0])
   | succ k1 =>
    have H := HA.out
    clear HA
    simp only [eqfF.l0] at H
    by_cases c4 : x17_1 < (l0.length : Int)
    ·rw [if_pos c4] at H
     have c4b0 : decide (x17_1 < (l0.length : Int)) = true := decide_eq_true c4
     clear c4
     by_cases c5 : 0 ≤ x17_1
     ·rw [if_pos c5] at H
      have c5b0 : decide (0 ≤ x17_1) = true := decide_eq_true c5
      clear c5
      by_cases c6 : x17_1 < (l0.length : Int)
      ·rw [if_pos c6] at H
       have c6b0 : decide (x17_1 < (l0.length : Int)) = true := decide_eq_true c6
       clear c6
       by_cases c7 : x17_1 < (l1.length : Int)
       ·rw [if_pos c7] at H
        have c7b0 : decide (x17_1 < (l1.length : Int)) = true := decide_eq_true c7
        clear c7
        replace H := Option.bind_eq_some_iff.mp H
        obtain ⟨t349, A80, H⟩ := H
        replace H : (if t349 = true then (eqfF.l0 k1 l1 l0 (l0.length : Int) (wrap64 (x17_1 + 1))) else (some false)) = some r := H
        have A8 := zm A80
        clear A80
        by_cases c9 : t349 = true
        ·subst c9
         have H1 : (eqfF.l0 k1 l1 l0 (l0.length : Int) (wrap64 (x17_1 + 1))) = some r := by rw [if_pos rfl] at H; exact H
         clear H
         have H := H1
         clear H1
         have H' := zm H
         clear H
         have p345 : 0 ≤ (x17_1 : Int) := of_decide_eq_true (by first | (with_reducible assumption) | assumption)
         have q345 : x17_1 < (l0.length : Int) := of_decide_eq_true (by first | (with_reducible assumption) | assumption)
         obtain ⟨ad345, A345_4, c345_4, e345, hx345_0, hx345_1, hx345_2, hx345_3, hx345_4, hl345_4, hi345_4⟩ := at_T104 HR0.out x17_1 p345 q345
         cases e345
         replace hx345_0 := (HB.out.cell (World.block_lt_of_cell? w _ hx345_0)).trans hx345_0
         replace hx345_1 := (HB.out.cell (World.block_lt_of_cell? w _ hx345_1)).trans hx345_1
         replace hx345_2 := (HB.out.cell (World.block_lt_of_cell? w _ hx345_2)).trans hx345_2
         replace hx345_3 := (HB.out.cell (World.block_lt_of_cell? w _ hx345_3)).trans hx345_3
         replace hx345_4 := (HB.out.cell (World.block_lt_of_cell? w _ hx345_4)).trans hx345_4
         have HR345_4 := zm hi345_4
         have HC345_4 := zm hl345_4
         clear hi345_4 hl345_4
         replace p345 := eq_true p345
         replace q345 := eq_true q345
         go_wp2_with (first | ((with_reducible refine gate_dst (N := 8) rfl ?_); refine box_event ?hg (N := 8) ?hd (cs := #[.int .i64 0, .bool false, .int .i64 0, .int .i64 0, .slice none 0 0]) (t := 104) ?hr ?_; (case hd => rfl); (case hg => rfl); (case hr => first | (go_simp; done) | (go_simp; rfl)); intro gb346 hg w10 hbox hb; have n0_ := zm (below_step (by repeat (first | (with_reducible first | exact HB.out | apply zA | apply zD | apply zE) | exact HB.out)) hb); have n1_ := zm (hbox); have n2_ := zm ((by rw [hg]; exact (below_size (by repeat (first | (with_reducible first | exact HB.out | apply zA | apply zD | apply zE) | exact HB.out))) : w.heap.size ≤ gb346)); have n3_ := zm ((by rw [hg]; exact (below_size (by repeat (first | (with_reducible first | exact HB.out | apply zA | apply zD | apply zE) | exact HB.out))) : w.heap.size ≤ gb346)); clear HB; have HB := n0_; have BK346 := n1_; have GW346 := n2_; have GE346 := n3_; clear n0_ n1_ n2_ n3_; clear hb hbox hg; have hcz11_0 := zc BK346.out 0 (.int .i64 0) rfl; have hcz11_1 := zc BK346.out 1 (.bool false) rfl; have hcz11_2 := zc BK346.out 2 (.int .i64 0) rfl; have hcz11_3 := zc BK346.out 3 (.int .i64 0) rfl; have hcz11_4 := zc BK346.out 4 (.slice none 0 0) rfl; have hfz11_0 := zf BK346.out 0; have hfz11_1 := zf BK346.out 1; have hfz11_2 := zf BK346.out 2; have hfz11_3 := zf BK346.out 3; have hfz11_4 := zf BK346.out 4; have p347 : 0 ≤ (x17_1 : Int) := of_decide_eq_true (by first | (with_reducible assumption) | assumption); have q347 : x17_1 < (l1.length : Int) := of_decide_eq_true (by first | (with_reducible assumption) | assumption); obtain ⟨ad347, A347_4, c347_4, e347, hx347_0, hx347_1, hx347_2, hx347_3, hx347_4, hl347_4, hi347_4⟩ := at_T104 HR1.out x17_1 p347 q347; cases e347; have hn347_0 : ad347.block ≠ gb346 := Nat.ne_of_lt (Nat.lt_of_lt_of_le (by have := World.block_lt_of_cell? _ _ hx347_0; first | rwa [add_block] at this | exact this) GW346.out); have hn347_1 : ad347.block ≠ gb346 := Nat.ne_of_lt (Nat.lt_of_lt_of_le (by have := World.block_lt_of_cell? _ _ hx347_0; first | rwa [add_block] at this | exact this) GW346.out); have hn347_2 : ad347.block ≠ gb346 := Nat.ne_of_lt (Nat.lt_of_lt_of_le (by have := World.block_lt_of_cell? _ _ hx347_0; first | rwa [add_block] at this | exact this) GW346.out); have hn347_3 : ad347.block ≠ gb346 := Nat.ne_of_lt (Nat.lt_of_lt_of_le (by have := World.block_lt_of_cell? _ _ hx347_0; first | rwa [add_block] at this | exact this) GW346.out); have hn347_4 : ad347.block ≠ gb346 := Nat.ne_of_lt (Nat.lt_of_lt_of_le (by have := World.block_lt_of_cell? _ _ hx347_0; first | rwa [add_block] at this | exact this) GW346.out); replace hx347_0 := (HB.out.cell (World.block_lt_of_cell? w _ hx347_0)).trans hx347_0; replace hx347_1 := (HB.out.cell (World.block_lt_of_cell? w _ hx347_1)).trans hx347_1; replace hx347_2 := (HB.out.cell (World.block_lt_of_cell? w _ hx347_2)).trans hx347_2; replace hx347_3 := (HB.out.cell (World.block_lt_of_cell? w _ hx347_3)).trans hx347_3; replace hx347_4 := (HB.out.cell (World.block_lt_of_cell? w _ hx347_4)).trans hx347_4; have HR347_4 := zm hi347_4; have HC347_4 := zm hl347_4; clear hi347_4 hl347_4; replace hx347_0 := (cell_far (p := ⟨gb346, 0, none⟩) (by first | (rw [add_block]; exact hn347_0) | (show (Addr.add _ _).block ≠ _; rw [add_block]; exact hn347_0) | exact hn347_0) (.int .i64 ((rd_T104 l0 x17_1).f0))).trans hx347_0; replace hx347_1 := (cell_far (p := ⟨gb346, 0, none⟩) (by first | (rw [add_block]; exact hn347_0) | (show (Addr.add _ _).block ≠ _; rw [add_block]; exact hn347_0) | exact hn347_0) (.int .i64 ((rd_T104 l0 x17_1).f0))).trans hx347_1; replace hx347_2 := (cell_far (p := ⟨gb346, 0, none⟩) (by first | (rw [add_block]; exact hn347_0) | (show (Addr.add _ _).block ≠ _; rw [add_block]; exact hn347_0) | exact hn347_0) (.int .i64 ((rd_T104 l0 x17_1).f0))).trans hx347_2; replace hx347_3 := (cell_far (p := ⟨gb346, 0, none⟩) (by first | (rw [add_block]; exact hn347_0) | (show (Addr.add _ _).block ≠ _; rw [add_block]; exact hn347_0) | exact hn347_0) (.int .i64 ((rd_T104 l0 x17_1).f0))).trans hx347_3; replace hx347_4 := (cell_far (p := ⟨gb346, 0, none⟩) (by first | (rw [add_block]; exact hn347_0) | (show (Addr.add _ _).block ≠ _; rw [add_block]; exact hn347_0) | exact hn347_0) (.int .i64 ((rd_T104 l0 x17_1).f0))).trans hx347_4; replace hx347_0 := (cell_far (p := ⟨gb346, 1, none⟩) (by first | (rw [add_block]; exact hn347_1) | (show (Addr.add _ _).block ≠ _; rw [add_block]; exact hn347_1) | exact hn347_1) (.bool ((rd_T104 l0 x17_1).f1))).trans hx347_0; replace hx347_1 := (cell_far (p := ⟨gb346, 1, none⟩) (by first | (rw [add_block]; exact hn347_1) | (show (Addr.add _ _).block ≠ _; rw [add_block]; exact hn347_1) | exact hn347_1) (.bool ((rd_T104 l0 x17_1).f1))).trans hx347_1; replace hx347_2 := (cell_far (p := ⟨gb346, 1, none⟩) (by first | (rw [add_block]; exact hn347_1) | (show (Addr.add _ _).block ≠ _; rw [add_block]; exact hn347_1) | exact hn347_1) (.bool ((rd_T104 l0 x17_1).f1))).trans hx347_2; replace hx347_3 := (cell_far (p := ⟨gb346, 1, none⟩) (by first | (rw [add_block]; exact hn347_1) | (show (Addr.add _ _).block ≠ _; rw [add_block]; exact hn347_1) | exact hn347_1) (.bool ((rd_T104 l0 x17_1).f1))).trans hx347_3; replace hx347_4 := (cell_far (p := ⟨gb346, 1, none⟩) (by first | (rw [add_block]; exact hn347_1) | (show (Addr.add _ _).block ≠ _; rw [add_block]; exact hn347_1) | exact hn347_1) (.bool ((rd_T104 l0 x17_1).f1))).trans hx347_4; replace hx347_0 := (cell_far (p := ⟨gb346, 2, none⟩) (by first | (rw [add_block]; exact hn347_2) | (show (Addr.add _ _).block ≠ _; rw [add_block]; exact hn347_2) | exact hn347_2) (.int .i64 ((rd_T104 l0 x17_1).f2))).trans hx347_0; replace hx347_1 := (cell_far (p := ⟨gb346, 2, none⟩) (by first | (rw [add_block]; exact hn347_2) | (show (Addr.add _ _).block ≠ _; rw [add_block]; exact hn347_2) | exact hn347_2) (.int .i64 ((rd_T104 l0 x17_1).f2))).trans hx347_1; replace hx347_2 := (cell_far (p := ⟨gb346, 2, none⟩) (by first | (rw [add_block]; exact hn347_2) | (show (Addr.add _ _).block ≠ _; rw [add_block]; exact hn347_2) | exact hn347_2) (.int .i64 ((rd_T104 l0 x17_1).f2))).trans hx347_2; replace hx347_3 := (cell_far (p := ⟨gb346, 2, none⟩) (by first | (rw [add_block]; exact hn347_2) | (show (Addr.add _ _).block ≠ _; rw [add_block]; exact hn347_2) | exact hn347_2) (.int .i64 ((rd_T104 l0 x17_1).f2))).trans hx347_3; replace hx347_4 := (cell_far (p := ⟨gb346, 2, none⟩) (by first | (rw [add_block]; exact hn347_2) | (show (Addr.add _ _).block ≠ _; rw [add_block]; exact hn347_2) | exact hn347_2) (.int .i64 ((rd_T104 l0 x17_1).f2))).trans hx347_4; replace hx347_0 := (cell_far (p := ⟨gb346, 3, none⟩) (by first | (rw [add_block]; exact hn347_3) | (show (Addr.add _ _).block ≠ _; rw [add_block]; exact hn347_3) | exact hn347_3) (.int .i64 ((rd_T104 l0 x17_1).f3))).trans hx347_0; replace hx347_1 := (cell_far (p := ⟨gb346, 3, none⟩) (by first | (rw [add_block]; exact hn347_3) | (show (Addr.add _ _).block ≠ _; rw [add_block]; exact hn347_3) | exact hn347_3) (.int .i64 ((rd_T104 l0 x17_1).f3))).trans hx347_1; replace hx347_2 := (cell_far (p := ⟨gb346, 3, none⟩) (by first | (rw [add_block]; exact hn347_3) | (show (Addr.add _ _).block ≠ _; rw [add_block]; exact hn347_3) | exact hn347_3) (.int .i64 ((rd_T104 l0 x17_1).f3))).trans hx347_2; replace hx347_3 := (cell_far (p := ⟨gb346, 3, none⟩) (by first | (rw [add_block]; exact hn347_3) | (show (Addr.add _ _).block ≠ _; rw [add_block]; exact hn347_3) | exact hn347_3) (.int .i64 ((rd_T104 l0 x17_1).f3))).trans hx347_3; replace hx347_4 := (cell_far (p := ⟨gb346, 3, none⟩) (by first | (rw [add_block]; exact hn347_3) | (show (Addr.add _ _).block ≠ _; rw [add_block]; exact hn347_3) | exact hn347_3) (.int .i64 ((rd_T104 l0 x17_1).f3))).trans hx347_4; replace hx347_0 := (cell_far (p := ⟨gb346, 4, none⟩) (by first | (rw [add_block]; exact hn347_4) | (show (Addr.add _ _).block ≠ _; rw [add_block]; exact hn347_4) | exact hn347_4) (.slice A345_4 ((rd_T104 l0 x17_1).f4).length c345_4)).trans hx347_0; replace hx347_1 := (cell_far (p := ⟨gb346, 4, none⟩) (by first | (rw [add_block]; exact hn347_4) | (show (Addr.add _ _).block ≠ _; rw [add_block]; exact hn347_4) | exact hn347_4) (.slice A345_4 ((rd_T104 l0 x17_1).f4).length c345_4)).trans hx347_1; replace hx347_2 := (cell_far (p := ⟨gb346, 4, none⟩) (by first | (rw [add_block]; exact hn347_4) | (show (Addr.add _ _).block ≠ _; rw [add_block]; exact hn347_4) | exact hn347_4) (.slice A345_4 ((rd_T104 l0 x17_1).f4).length c345_4)).trans hx347_2; replace hx347_3 := (cell_far (p := ⟨gb346, 4, none⟩) (by first | (rw [add_block]; exact hn347_4) | (show (Addr.add _ _).block ≠ _; rw [add_block]; exact hn347_4) | exact hn347_4) (.slice A345_4 ((rd_T104 l0 x17_1).f4).length c345_4)).trans hx347_3; replace hx347_4 := (cell_far (p := ⟨gb346, 4, none⟩) (by first | (rw [add_block]; exact hn347_4) | (show (Addr.add _ _).block ≠ _; rw [add_block]; exact hn347_4) | exact hn347_4) (.slice A345_4 ((rd_T104 l0 x17_1).f4).length c345_4)).trans hx347_4; clear hn347_0 hn347_1 hn347_2 hn347_3 hn347_4; replace p347 := eq_true p347; replace q347 := eq_true q347) | ((with_reducible refine gate_dst (N := 9) rfl ?_); refine box_event ?hg (N := 9) ?hd (cs := #[.int .i64 0, .bool false, .int .i64 0, .int .i64 0, .slice none 0 0]) (t := 104) ?hr ?_; (case hd => rfl); (case hg => rfl); (case hr => first | (go_simp; done) | (go_simp; rfl)); intro gb348 hg w12 hbox hb; have n0_ := zm (zb (g := gb346) (o := .cells #[.int .i64 ((rd_T104 l0 x17_1).f0), .bool ((rd_T104 l0 x17_1).f1), .int .i64 ((rd_T104 l0 x17_1).f2), .int .i64 ((rd_T104 l0 x17_1).f3), .slice A345_4 ((rd_T104 l0 x17_1).f4).length c345_4] 104 (0, 0)) (by (with_reducible repeat first | apply zd | apply ze | apply za); refine blk_put (cs := #[.int .i64 ((rd_T104 l0 x17_1).f0), .bool ((rd_T104 l0 x17_1).f1), .int .i64 ((rd_T104 l0 x17_1).f2), .int .i64 ((rd_T104 l0 x17_1).f3), .slice none 0 0]) ?_ 4 _ rfl; (with_reducible repeat first | apply zd | apply ze | apply za); refine blk_put (cs := #[.int .i64 ((rd_T104 l0 x17_1).f0), .bool ((rd_T104 l0 x17_1).f1), .int .i64 ((rd_T104 l0 x17_1).f2), .int .i64 0, .slice none 0 0]) ?_ 3 _ rfl; (with_reducible repeat first | apply zd | apply ze | apply za); refine blk_put (cs := #[.int .i64 ((rd_T104 l0 x17_1).f0), .bool ((rd_T104 l0 x17_1).f1), .int .i64 0, .int .i64 0, .slice none 0 0]) ?_ 2 _ rfl; (with_reducible repeat first | apply zd | apply ze | apply za); refine blk_put (cs := #[.int .i64 ((rd_T104 l0 x17_1).f0), .bool false, .int .i64 0, .int .i64 0, .slice none 0 0]) ?_ 1 _ rfl; (with_reducible repeat first | apply zd | apply ze | apply za); refine blk_put (cs := #[.int .i64 0, .bool false, .int .i64 0, .int .i64 0, .slice none 0 0]) ?_ 0 _ rfl; (with_reducible repeat first | apply zd | apply ze | apply za); exact BK346.out) hb); have n1_ := zm (below_step (by repeat (first | (with_reducible first | exact HB.out | apply zA | apply zD | apply zE | refine zS ?_ GE346.out) | exact HB.out)) hb); have n2_ := zm (hbox); have n3_ := zm ((by rw [hg]; exact (below_size (by repeat (first | (with_reducible first | exact HB.out | apply zA | apply zD | apply zE | refine zS ?_ GE346.out) | exact HB.out))) : w.heap.size ≤ gb348)); have n4_ := zm ((by rw [hg]; exact (below_size (by repeat (first | (with_reducible first | exact HB.out | apply zA | apply zD | apply zE | refine zS ?_ GE346.out) | exact HB.out))) : w.heap.size ≤ gb348)); have n5_ := zm ((by rw [hg]; exact Nat.ne_of_lt (blk_lt (g := gb346) (o := .cells #[.int .i64 ((rd_T104 l0 x17_1).f0), .bool ((rd_T104 l0 x17_1).f1), .int .i64 ((rd_T104 l0 x17_1).f2), .int .i64 ((rd_T104 l0 x17_1).f3), .slice A345_4 ((rd_T104 l0 x17_1).f4).length c345_4] 104 (0, 0)) (by (with_reducible repeat first | apply zd | apply ze | apply za); refine blk_put (cs := #[.int .i64 ((rd_T104 l0 x17_1).f0), .bool ((rd_T104 l0 x17_1).f1), .int .i64 ((rd_T104 l0 x17_1).f2), .int .i64 ((rd_T104 l0 x17_1).f3), .slice none 0 0]) ?_ 4 _ rfl; (with_reducible repeat first | apply zd | apply ze | apply za); refine blk_put (cs := #[.int .i64 ((rd_T104 l0 x17_1).f0), .bool ((rd_T104 l0 x17_1).f1), .int .i64 ((rd_T104 l0 x17_1).f2), .int .i64 0, .slice none 0 0]) ?_ 3 _ rfl; (with_reducible repeat first | apply zd | apply ze | apply za); refine blk_put (cs := #[.int .i64 ((rd_T104 l0 x17_1).f0), .bool ((rd_T104 l0 x17_1).f1), .int .i64 0, .int .i64 0, .slice none 0 0]) ?_ 2 _ rfl; (with_reducible repeat first | apply zd | apply ze | apply za); refine blk_put (cs := #[.int .i64 ((rd_T104 l0 x17_1).f0), .bool false, .int .i64 0, .int .i64 0, .slice none 0 0]) ?_ 1 _ rfl; (with_reducible repeat first | apply zd | apply ze | apply za); refine blk_put (cs := #[.int .i64 0, .bool false, .int .i64 0, .int .i64 0, .slice none 0 0]) ?_ 0 _ rfl; (with_reducible repeat first | apply zd | apply ze | apply za); exact BK346.out)) : gb346 ≠ gb348)); have n6_ := zm ((by rw [hg]; exact Nat.ne_of_gt (blk_lt (g := gb346) (o := .cells #[.int .i64 ((rd_T104 l0 x17_1).f0), .bool ((rd_T104 l0 x17_1).f1), .int .i64 ((rd_T104 l0 x17_1).f2), .int .i64 ((rd_T104 l0 x17_1).f3), .slice A345_4 ((rd_T104 l0 x17_1).f4).length c345_4] 104 (0, 0)) (by (with_reducible repeat first | apply zd | apply ze | apply za); refine blk_put (cs := #[.int .i64 ((rd_T104 l0 x17_1).f0), .bool ((rd_T104 l0 x17_1).f1), .int .i64 ((rd_T104 l0 x17_1).f2), .int .i64 ((rd_T104 l0 x17_1).f3), .slice none 0 0]) ?_ 4 _ rfl; (with_reducible repeat first | apply zd | apply ze | apply za); refine blk_put (cs := #[.int .i64 ((rd_T104 l0 x17_1).f0), .bool ((rd_T104 l0 x17_1).f1), .int .i64 ((rd_T104 l0 x17_1).f2), .int .i64 0, .slice none 0 0]) ?_ 3 _ rfl; (with_reducible repeat first | apply zd | apply ze | apply za); refine blk_put (cs := #[.int .i64 ((rd_T104 l0 x17_1).f0), .bool ((rd_T104 l0 x17_1).f1), .int .i64 0, .int .i64 0, .slice none 0 0]) ?_ 2 _ rfl; (with_reducible repeat first | apply zd | apply ze | apply za); refine blk_put (cs := #[.int .i64 ((rd_T104 l0 x17_1).f0), .bool false, .int .i64 0, .int .i64 0, .slice none 0 0]) ?_ 1 _ rfl; (with_reducible repeat first | apply zd | apply ze | apply za); refine blk_put (cs := #[.int .i64 0, .bool false, .int .i64 0, .int .i64 0, .slice none 0 0]) ?_ 0 _ rfl; (with_reducible repeat first | apply zd | apply ze | apply za); exact BK346.out)) : gb348 ≠ gb346)); clear BK346 HB; have BK346 := n0_; have HB := n1_; have BK348 := n2_; have GW348 := n3_; have GE348 := n4_; have NB346_348 := n5_; have NB348_346 := n6_; clear n0_ n1_ n2_ n3_ n4_ n5_ n6_; clear hb hbox hg; have hnb13 := NB348_346.out; have hnc13 := NB346_348.out; have hcz14_0 := zc BK348.out 0 (.int .i64 0) rfl; have hcz14_1 := zc BK348.out 1 (.bool false) rfl; have hcz14_2 := zc BK348.out 2 (.int .i64 0) rfl; have hcz14_3 := zc BK348.out 3 (.int .i64 0) rfl; have hcz14_4 := zc BK348.out 4 (.slice none 0 0) rfl; have hfz14_0 := zf BK348.out 0; have hfz14_1 := zf BK348.out 1; have hfz14_2 := zf BK348.out 2; have hfz14_3 := zf BK348.out 3; have hfz14_4 := zf BK348.out 4; have hcz15_0 := zc BK346.out 0 (.int .i64 ((rd_T104 l0 x17_1).f0)) rfl; have hcz15_1 := zc BK346.out 1 (.bool ((rd_T104 l0 x17_1).f1)) rfl; have hcz15_2 := zc BK346.out 2 (.int .i64 ((rd_T104 l0 x17_1).f2)) rfl; have hcz15_3 := zc BK346.out 3 (.int .i64 ((rd_T104 l0 x17_1).f3)) rfl; have hcz15_4 := zc BK346.out 4 (.slice A345_4 ((rd_T104 l0 x17_1).f4).length c345_4) rfl; have hfz15_0 := zf BK346.out 0; have hfz15_1 := zf BK346.out 1; have hfz15_2 := zf BK346.out 2; have hfz15_3 := zf BK346.out 3; have hfz15_4 := zf BK346.out 4) | ((with_reducible refine gate_value (t := 26) rfl ?_); refine goesV_ (some 29) rfl rfl Try.func98 (by kernel_rfl) rfl #[.agg #[.int .i64 ((rd_T104 l0 x17_1).f0), .bool ((rd_T104 l0 x17_1).f1), .int .i64 ((rd_T104 l0 x17_1).f2), .int .i64 ((rd_T104 l0 x17_1).f3), .slice A345_4 ((rd_T104 l0 x17_1).f4).length c345_4], .agg #[.int .i64 ((rd_T104 l1 x17_1).f0), .bool ((rd_T104 l1 x17_1).f1), .int .i64 ((rd_T104 l1 x17_1).f2), .int .i64 ((rd_T104 l1 x17_1).f3), .slice A347_4 ((rd_T104 l1 x17_1).f4).length c347_4]] ⟨rfl, rfl⟩ (by (try simp only [List.map_toArray, List.map_cons, List.map_nil]); first | done | rfl | (simp only [List.length_drop, List.length_take]; rfl)) ?_; (with_reducible refine (sameF.calls k1 ((rd_T104 l0 x17_1).f0) ((rd_T104 l0 x17_1).f1) ((rd_T104 l0 x17_1).f2) ((rd_T104 l0 x17_1).f3) _ _ ((rd_T104 l0 x17_1).f4) ((rd_T104 l1 x17_1).f0) ((rd_T104 l1 x17_1).f1) ((rd_T104 l1 x17_1).f2) ((rd_T104 l1 x17_1).f3) _ _ ((rd_T104 l1 x17_1).f4) true _ ?side1 ?side2 ?side3 ?side4 A8.out).mono ?_); (case side1 => exact Kd.C_below HR345_4.out (by repeat (first | (with_reducible first | exact HB.out | apply zA | apply zD | apply zE | refine zS ?_ GE346.out | refine zS ?_ GE348.out) | exact HB.out))); (case side2 => exact HC345_4.out); (case side3 => exact Kd.C_below HR347_4.out (by repeat (first | (with_reducible first | exact HB.out | apply zA | apply zD | apply zE | refine zS ?_ GE346.out | refine zS ?_ GE348.out) | exact HB.out))); (case side4 => exact HC347_4.out); rintro e w16 ⟨rfl, hb⟩; refine ⟨_, rfl, ?_⟩; have n0_ := zm (zb (g := gb346) (o := .cells #[.int .i64 ((rd_T104 l0 x17_1).f0), .bool ((rd_T104 l0 x17_1).f1), .int .i64 ((rd_T104 l0 x17_1).f2), .int .i64 ((rd_T104 l0 x17_1).f3), .slice A345_4 ((rd_T104 l0 x17_1).f4).length c345_4] 104 (0, 0)) (by (with_reducible repeat first | apply zd | apply ze | apply za); refine blk_far ?_ NB346_348.out _; (with_reducible repeat first | apply zd | apply ze | apply za); refine blk_far ?_ NB346_348.out _; (with_reducible repeat first | apply zd | apply ze | apply za); refine blk_far ?_ NB346_348.out _; (with_reducible repeat first | apply zd | apply ze | apply za); refine blk_far ?_ NB346_348.out _; (with_reducible repeat first | apply zd | apply ze | apply za); refine blk_far ?_ NB346_348.out _; (with_reducible repeat first | apply zd | apply ze | apply za); exact BK346.out) hb); have n1_ := zm (zb (g := gb348) (o := .cells #[.int .i64 ((rd_T104 l1 x17_1).f0), .bool ((rd_T104 l1 x17_1).f1), .int .i64 ((rd_T104 l1 x17_1).f2), .int .i64 ((rd_T104 l1 x17_1).f3), .slice A347_4 ((rd_T104 l1 x17_1).f4).length c347_4] 104 (0, 0)) (by (with_reducible repeat first | apply zd | apply ze | apply za); refine blk_put (cs := #[.int .i64 ((rd_T104 l1 x17_1).f0), .bool ((rd_T104 l1 x17_1).f1), .int .i64 ((rd_T104 l1 x17_1).f2), .int .i64 ((rd_T104 l1 x17_1).f3), .slice none 0 0]) ?_ 4 _ rfl; (with_reducible repeat first | apply zd | apply ze | apply za); refine blk_put (cs := #[.int .i64 ((rd_T104 l1 x17_1).f0), .bool ((rd_T104 l1 x17_1).f1), .int .i64 ((rd_T104 l1 x17_1).f2), .int .i64 0, .slice none 0 0]) ?_ 3 _ rfl; (with_reducible repeat first | apply zd | apply ze | apply za); refine blk_put (cs := #[.int .i64 ((rd_T104 l1 x17_1).f0), .bool ((rd_T104 l1 x17_1).f1), .int .i64 0, .int .i64 0, .slice none 0 0]) ?_ 2 _ rfl; (with_reducible repeat first | apply zd | apply ze | apply za); refine blk_put (cs := #[.int .i64 ((rd_T104 l1 x17_1).f0), .bool false, .int .i64 0, .int .i64 0, .slice none 0 0]) ?_ 1 _ rfl; (with_reducible repeat first | apply zd | apply ze | apply za); refine blk_put (cs := #[.int .i64 0, .bool false, .int .i64 0, .int .i64 0, .slice none 0 0]) ?_ 0 _ rfl; (with_reducible repeat first | apply zd | apply ze | apply za); exact BK348.out) hb); have n2_ := zm (below_step (by repeat (first | (with_reducible first | exact HB.out | apply zA | apply zD | apply zE | refine zS ?_ GE346.out | refine zS ?_ GE348.out) | exact HB.out)) hb); clear BK346 BK348 HB; have BK346 := n0_; have BK348 := n1_; have HB := n2_; clear n0_ n1_ n2_; (try clear hb); (try clear hb2); (try clear hk); (try clear hi)))
         go_roundg k1
         case measure => have := HK1.out; omega
         case rel => exact ⟨(wrap64 (x17_1 + 1)), (by first | rfl | (simp; done) | (simp [*]; done)), H', ⟨by have := HK1.out; omega⟩, ⟨by repeat (first | (with_reducible first | exact HB.out | apply zA | apply zD | apply zE | refine zS ?_ GE346.out | refine zS ?_ GE348.out) | exact HB.out)⟩⟩
        ·replace c9 := Bool.eq_false_iff.mpr c9
         subst c9
         have H1 : (some false) = some r := by rw [if_neg (show ¬ (false = true) by decide)] at H; exact H
         clear H
         have H := H1
         clear H1
         obtain rfl := Option.some.inj H
         have p345 : 0 ≤ (x17_1 : Int) := of_decide_eq_true (by first | (with_reducible assumption) | assumption)
         have q345 : x17_1 < (l0.length : Int) := of_decide_eq_true (by first | (with_reducible assumption) | assumption)
         obtain ⟨ad345, A345_4, c345_4, e345, hx345_0, hx345_1, hx345_2, hx345_3, hx345_4, hl345_4, hi345_4⟩ := at_T104 HR0.out x17_1 p345 q345
         cases e345
         replace hx345_0 := (HB.out.cell (World.block_lt_of_cell? w _ hx345_0)).trans hx345_0
         replace hx345_1 := (HB.out.cell (World.block_lt_of_cell? w _ hx345_1)).trans hx345_1
         replace hx345_2 := (HB.out.cell (World.block_lt_of_cell? w _ hx345_2)).trans hx345_2
         replace hx345_3 := (HB.out.cell (World.block_lt_of_cell? w _ hx345_3)).trans hx345_3
         replace hx345_4 := (HB.out.cell (World.block_lt_of_cell? w _ hx345_4)).trans hx345_4
         have HR345_4 := zm hi345_4
         have HC345_4 := zm hl345_4
         clear hi345_4 hl345_4
         replace p345 := eq_true p345
         replace q345 := eq_true q345
         go_wp2_with (first | ((with_reducible refine gate_dst (N := 8) rfl ?_); refine box_event ?hg (N := 8) ?hd (cs := #[.int .i64 0, .bool false, .int .i64 0, .int .i64 0, .slice none 0 0]) (t := 104) ?hr ?_; (case hd => rfl); (case hg => rfl); (case hr => first | (go_simp; done) | (go_simp; rfl)); intro gb346 hg w17 hbox hb; have n0_ := zm (below_step (by repeat (first | (with_reducible first | exact HB.out | apply zA | apply zD | apply zE) | exact HB.out)) hb); have n1_ := zm (hbox); have n2_ := zm ((by rw [hg]; exact (below_size (by repeat (first | (with_reducible first | exact HB.out | apply zA | apply zD | apply zE) | exact HB.out))) : w.heap.size ≤ gb346)); have n3_ := zm ((by rw [hg]; exact (below_size (by repeat (first | (with_reducible first | exact HB.out | apply zA | apply zD | apply zE) | exact HB.out))) : w.heap.size ≤ gb346)); clear HB; have HB := n0_; have BK346 := n1_; have GW346 := n2_; have GE346 := n3_; clear n0_ n1_ n2_ n3_; clear hb hbox hg; have hcz18_0 := zc BK346.out 0 (.int .i64 0) rfl; have hcz18_1 := zc BK346.out 1 (.bool false) rfl; have hcz18_2 := zc BK346.out 2 (.int .i64 0) rfl; have hcz18_3 := zc BK346.out 3 (.int .i64 0) rfl; have hcz18_4 := zc BK346.out 4 (.slice none 0 0) rfl; have hfz18_0 := zf BK346.out 0; have hfz18_1 := zf BK346.out 1; have hfz18_2 := zf BK346.out 2; have hfz18_3 := zf BK346.out 3; have hfz18_4 := zf BK346.out 4; have p347 : 0 ≤ (x17_1 : Int) := of_decide_eq_true (by first | (with_reducible assumption) | assumption); have q347 : x17_1 < (l1.length : Int) := of_decide_eq_true (by first | (with_reducible assumption) | assumption); obtain ⟨ad347, A347_4, c347_4, e347, hx347_0, hx347_1, hx347_2, hx347_3, hx347_4, hl347_4, hi347_4⟩ := at_T104 HR1.out x17_1 p347 q347; cases e347; have hn347_0 : ad347.block ≠ gb346 := Nat.ne_of_lt (Nat.lt_of_lt_of_le (by have := World.block_lt_of_cell? _ _ hx347_0; first | rwa [add_block] at this | exact this) GW346.out); have hn347_1 : ad347.block ≠ gb346 := Nat.ne_of_lt (Nat.lt_of_lt_of_le (by have := World.block_lt_of_cell? _ _ hx347_0; first | rwa [add_block] at this | exact this) GW346.out); have hn347_2 : ad347.block ≠ gb346 := Nat.ne_of_lt (Nat.lt_of_lt_of_le (by have := World.block_lt_of_cell? _ _ hx347_0; first | rwa [add_block] at this | exact this) GW346.out); have hn347_3 : ad347.block ≠ gb346 := Nat.ne_of_lt (Nat.lt_of_lt_of_le (by have := World.block_lt_of_cell? _ _ hx347_0; first | rwa [add_block] at this | exact this) GW346.out); have hn347_4 : ad347.block ≠ gb346 := Nat.ne_of_lt (Nat.lt_of_lt_of_le (by have := World.block_lt_of_cell? _ _ hx347_0; first | rwa [add_block] at this | exact this) GW346.out); replace hx347_0 := (HB.out.cell (World.block_lt_of_cell? w _ hx347_0)).trans hx347_0; replace hx347_1 := (HB.out.cell (World.block_lt_of_cell? w _ hx347_1)).trans hx347_1; replace hx347_2 := (HB.out.cell (World.block_lt_of_cell? w _ hx347_2)).trans hx347_2; replace hx347_3 := (HB.out.cell (World.block_lt_of_cell? w _ hx347_3)).trans hx347_3; replace hx347_4 := (HB.out.cell (World.block_lt_of_cell? w _ hx347_4)).trans hx347_4; have HR347_4 := zm hi347_4; have HC347_4 := zm hl347_4; clear hi347_4 hl347_4; replace hx347_0 := (cell_far (p := ⟨gb346, 0, none⟩) (by first | (rw [add_block]; exact hn347_0) | (show (Addr.add _ _).block ≠ _; rw [add_block]; exact hn347_0) | exact hn347_0) (.int .i64 ((rd_T104 l0 x17_1).f0))).trans hx347_0; replace hx347_1 := (cell_far (p := ⟨gb346, 0, none⟩) (by first | (rw [add_block]; exact hn347_0) | (show (Addr.add _ _).block ≠ _; rw [add_block]; exact hn347_0) | exact hn347_0) (.int .i64 ((rd_T104 l0 x17_1).f0))).trans hx347_1; replace hx347_2 := (cell_far (p := ⟨gb346, 0, none⟩) (by first | (rw [add_block]; exact hn347_0) | (show (Addr.add _ _).block ≠ _; rw [add_block]; exact hn347_0) | exact hn347_0) (.int .i64 ((rd_T104 l0 x17_1).f0))).trans hx347_2; replace hx347_3 := (cell_far (p := ⟨gb346, 0, none⟩) (by first | (rw [add_block]; exact hn347_0) | (show (Addr.add _ _).block ≠ _; rw [add_block]; exact hn347_0) | exact hn347_0) (.int .i64 ((rd_T104 l0 x17_1).f0))).trans hx347_3; replace hx347_4 := (cell_far (p := ⟨gb346, 0, none⟩) (by first | (rw [add_block]; exact hn347_0) | (show (Addr.add _ _).block ≠ _; rw [add_block]; exact hn347_0) | exact hn347_0) (.int .i64 ((rd_T104 l0 x17_1).f0))).trans hx347_4; replace hx347_0 := (cell_far (p := ⟨gb346, 1, none⟩) (by first | (rw [add_block]; exact hn347_1) | (show (Addr.add _ _).block ≠ _; rw [add_block]; exact hn347_1) | exact hn347_1) (.bool ((rd_T104 l0 x17_1).f1))).trans hx347_0; replace hx347_1 := (cell_far (p := ⟨gb346, 1, none⟩) (by first | (rw [add_block]; exact hn347_1) | (show (Addr.add _ _).block ≠ _; rw [add_block]; exact hn347_1) | exact hn347_1) (.bool ((rd_T104 l0 x17_1).f1))).trans hx347_1; replace hx347_2 := (cell_far (p := ⟨gb346, 1, none⟩) (by first | (rw [add_block]; exact hn347_1) | (show (Addr.add _ _).block ≠ _; rw [add_block]; exact hn347_1) | exact hn347_1) (.bool ((rd_T104 l0 x17_1).f1))).trans hx347_2; replace hx347_3 := (cell_far (p := ⟨gb346, 1, none⟩) (by first | (rw [add_block]; exact hn347_1) | (show (Addr.add _ _).block ≠ _; rw [add_block]; exact hn347_1) | exact hn347_1) (.bool ((rd_T104 l0 x17_1).f1))).trans hx347_3; replace hx347_4 := (cell_far (p := ⟨gb346, 1, none⟩) (by first | (rw [add_block]; exact hn347_1) | (show (Addr.add _ _).block ≠ _; rw [add_block]; exact hn347_1) | exact hn347_1) (.bool ((rd_T104 l0 x17_1).f1))).trans hx347_4; replace hx347_0 := (cell_far (p := ⟨gb346, 2, none⟩) (by first | (rw [add_block]; exact hn347_2) | (show (Addr.add _ _).block ≠ _; rw [add_block]; exact hn347_2) | exact hn347_2) (.int .i64 ((rd_T104 l0 x17_1).f2))).trans hx347_0; replace hx347_1 := (cell_far (p := ⟨gb346, 2, none⟩) (by first | (rw [add_block]; exact hn347_2) | (show (Addr.add _ _).block ≠ _; rw [add_block]; exact hn347_2) | exact hn347_2) (.int .i64 ((rd_T104 l0 x17_1).f2))).trans hx347_1; replace hx347_2 := (cell_far (p := ⟨gb346, 2, none⟩) (by first | (rw [add_block]; exact hn347_2) | (show (Addr.add _ _).block ≠ _; rw [add_block]; exact hn347_2) | exact hn347_2) (.int .i64 ((rd_T104 l0 x17_1).f2))).trans hx347_2; replace hx347_3 := (cell_far (p := ⟨gb346, 2, none⟩) (by first | (rw [add_block]; exact hn347_2) | (show (Addr.add _ _).block ≠ _; rw [add_block]; exact hn347_2) | exact hn347_2) (.int .i64 ((rd_T104 l0 x17_1).f2))).trans hx347_3; replace hx347_4 := (cell_far (p := ⟨gb346, 2, none⟩) (by first | (rw [add_block]; exact hn347_2) | (show (Addr.add _ _).block ≠ _; rw [add_block]; exact hn347_2) | exact hn347_2) (.int .i64 ((rd_T104 l0 x17_1).f2))).trans hx347_4; replace hx347_0 := (cell_far (p := ⟨gb346, 3, none⟩) (by first | (rw [add_block]; exact hn347_3) | (show (Addr.add _ _).block ≠ _; rw [add_block]; exact hn347_3) | exact hn347_3) (.int .i64 ((rd_T104 l0 x17_1).f3))).trans hx347_0; replace hx347_1 := (cell_far (p := ⟨gb346, 3, none⟩) (by first | (rw [add_block]; exact hn347_3) | (show (Addr.add _ _).block ≠ _; rw [add_block]; exact hn347_3) | exact hn347_3) (.int .i64 ((rd_T104 l0 x17_1).f3))).trans hx347_1; replace hx347_2 := (cell_far (p := ⟨gb346, 3, none⟩) (by first | (rw [add_block]; exact hn347_3) | (show (Addr.add _ _).block ≠ _; rw [add_block]; exact hn347_3) | exact hn347_3) (.int .i64 ((rd_T104 l0 x17_1).f3))).trans hx347_2; replace hx347_3 := (cell_far (p := ⟨gb346, 3, none⟩) (by first | (rw [add_block]; exact hn347_3) | (show (Addr.add _ _).block ≠ _; rw [add_block]; exact hn347_3) | exact hn347_3) (.int .i64 ((rd_T104 l0 x17_1).f3))).trans hx347_3; replace hx347_4 := (cell_far (p := ⟨gb346, 3, none⟩) (by first | (rw [add_block]; exact hn347_3) | (show (Addr.add _ _).block ≠ _; rw [add_block]; exact hn347_3) | exact hn347_3) (.int .i64 ((rd_T104 l0 x17_1).f3))).trans hx347_4; replace hx347_0 := (cell_far (p := ⟨gb346, 4, none⟩) (by first | (rw [add_block]; exact hn347_4) | (show (Addr.add _ _).block ≠ _; rw [add_block]; exact hn347_4) | exact hn347_4) (.slice A345_4 ((rd_T104 l0 x17_1).f4).length c345_4)).trans hx347_0; replace hx347_1 := (cell_far (p := ⟨gb346, 4, none⟩) (by first | (rw [add_block]; exact hn347_4) | (show (Addr.add _ _).block ≠ _; rw [add_block]; exact hn347_4) | exact hn347_4) (.slice A345_4 ((rd_T104 l0 x17_1).f4).length c345_4)).trans hx347_1; replace hx347_2 := (cell_far (p := ⟨gb346, 4, none⟩) (by first | (rw [add_block]; exact hn347_4) | (show (Addr.add _ _).block ≠ _; rw [add_block]; exact hn347_4) | exact hn347_4) (.slice A345_4 ((rd_T104 l0 x17_1).f4).length c345_4)).trans hx347_2; replace hx347_3 := (cell_far (p := ⟨gb346, 4, none⟩) (by first | (rw [add_block]; exact hn347_4) | (show (Addr.add _ _).block ≠ _; rw [add_block]; exact hn347_4) | exact hn347_4) (.slice A345_4 ((rd_T104 l0 x17_1).f4).length c345_4)).trans hx347_3; replace hx347_4 := (cell_far (p := ⟨gb346, 4, none⟩) (by first | (rw [add_block]; exact hn347_4) | (show (Addr.add _ _).block ≠ _; rw [add_block]; exact hn347_4) | exact hn347_4) (.slice A345_4 ((rd_T104 l0 x17_1).f4).length c345_4)).trans hx347_4; clear hn347_0 hn347_1 hn347_2 hn347_3 hn347_4; replace p347 := eq_true p347; replace q347 := eq_true q347) | ((with_reducible refine gate_dst (N := 9) rfl ?_); refine box_event ?hg (N := 9) ?hd (cs := #[.int .i64 0, .bool false, .int .i64 0, .int .i64 0, .slice none 0 0]) (t := 104) ?hr ?_; (case hd => rfl); (case hg => rfl); (case hr => first | (go_simp; done) | (go_simp; rfl)); intro gb348 hg w19 hbox hb; have n0_ := zm (zb (g := gb346) (o := .cells #[.int .i64 ((rd_T104 l0 x17_1).f0), .bool ((rd_T104 l0 x17_1).f1), .int .i64 ((rd_T104 l0 x17_1).f2), .int .i64 ((rd_T104 l0 x17_1).f3), .slice A345_4 ((rd_T104 l0 x17_1).f4).length c345_4] 104 (0, 0)) (by (with_reducible repeat first | apply zd | apply ze | apply za); refine blk_put (cs := #[.int .i64 ((rd_T104 l0 x17_1).f0), .bool ((rd_T104 l0 x17_1).f1), .int .i64 ((rd_T104 l0 x17_1).f2), .int .i64 ((rd_T104 l0 x17_1).f3), .slice none 0 0]) ?_ 4 _ rfl; (with_reducible repeat first | apply zd | apply ze | apply za); refine blk_put (cs := #[.int .i64 ((rd_T104 l0 x17_1).f0), .bool ((rd_T104 l0 x17_1).f1), .int .i64 ((rd_T104 l0 x17_1).f2), .int .i64 0, .slice none 0 0]) ?_ 3 _ rfl; (with_reducible repeat first | apply zd | apply ze | apply za); refine blk_put (cs := #[.int .i64 ((rd_T104 l0 x17_1).f0), .bool ((rd_T104 l0 x17_1).f1), .int .i64 0, .int .i64 0, .slice none 0 0]) ?_ 2 _ rfl; (with_reducible repeat first | apply zd | apply ze | apply za); refine blk_put (cs := #[.int .i64 ((rd_T104 l0 x17_1).f0), .bool false, .int .i64 0, .int .i64 0, .slice none 0 0]) ?_ 1 _ rfl; (with_reducible repeat first | apply zd | apply ze | apply za); refine blk_put (cs := #[.int .i64 0, .bool false, .int .i64 0, .int .i64 0, .slice none 0 0]) ?_ 0 _ rfl; (with_reducible repeat first | apply zd | apply ze | apply za); exact BK346.out) hb); have n1_ := zm (below_step (by repeat (first | (with_reducible first | exact HB.out | apply zA | apply zD | apply zE | refine zS ?_ GE346.out) | exact HB.out)) hb); have n2_ := zm (hbox); have n3_ := zm ((by rw [hg]; exact (below_size (by repeat (first | (with_reducible first | exact HB.out | apply zA | apply zD | apply zE | refine zS ?_ GE346.out) | exact HB.out))) : w.heap.size ≤ gb348)); have n4_ := zm ((by rw [hg]; exact (below_size (by repeat (first | (with_reducible first | exact HB.out | apply zA | apply zD | apply zE | refine zS ?_ GE346.out) | exact HB.out))) : w.heap.size ≤ gb348)); have n5_ := zm ((by rw [hg]; exact Nat.ne_of_lt (blk_lt (g := gb346) (o := .cells #[.int .i64 ((rd_T104 l0 x17_1).f0), .bool ((rd_T104 l0 x17_1).f1), .int .i64 ((rd_T104 l0 x17_1).f2), .int .i64 ((rd_T104 l0 x17_1).f3), .slice A345_4 ((rd_T104 l0 x17_1).f4).length c345_4] 104 (0, 0)) (by (with_reducible repeat first | apply zd | apply ze | apply za); refine blk_put (cs := #[.int .i64 ((rd_T104 l0 x17_1).f0), .bool ((rd_T104 l0 x17_1).f1), .int .i64 ((rd_T104 l0 x17_1).f2), .int .i64 ((rd_T104 l0 x17_1).f3), .slice none 0 0]) ?_ 4 _ rfl; (with_reducible repeat first | apply zd | apply ze | apply za); refine blk_put (cs := #[.int .i64 ((rd_T104 l0 x17_1).f0), .bool ((rd_T104 l0 x17_1).f1), .int .i64 ((rd_T104 l0 x17_1).f2), .int .i64 0, .slice none 0 0]) ?_ 3 _ rfl; (with_reducible repeat first | apply zd | apply ze | apply za); refine blk_put (cs := #[.int .i64 ((rd_T104 l0 x17_1).f0), .bool ((rd_T104 l0 x17_1).f1), .int .i64 0, .int .i64 0, .slice none 0 0]) ?_ 2 _ rfl; (with_reducible repeat first | apply zd | apply ze | apply za); refine blk_put (cs := #[.int .i64 ((rd_T104 l0 x17_1).f0), .bool false, .int .i64 0, .int .i64 0, .slice none 0 0]) ?_ 1 _ rfl; (with_reducible repeat first | apply zd | apply ze | apply za); refine blk_put (cs := #[.int .i64 0, .bool false, .int .i64 0, .int .i64 0, .slice none 0 0]) ?_ 0 _ rfl; (with_reducible repeat first | apply zd | apply ze | apply za); exact BK346.out)) : gb346 ≠ gb348)); have n6_ := zm ((by rw [hg]; exact Nat.ne_of_gt (blk_lt (g := gb346) (o := .cells #[.int .i64 ((rd_T104 l0 x17_1).f0), .bool ((rd_T104 l0 x17_1).f1), .int .i64 ((rd_T104 l0 x17_1).f2), .int .i64 ((rd_T104 l0 x17_1).f3), .slice A345_4 ((rd_T104 l0 x17_1).f4).length c345_4] 104 (0, 0)) (by (with_reducible repeat first | apply zd | apply ze | apply za); refine blk_put (cs := #[.int .i64 ((rd_T104 l0 x17_1).f0), .bool ((rd_T104 l0 x17_1).f1), .int .i64 ((rd_T104 l0 x17_1).f2), .int .i64 ((rd_T104 l0 x17_1).f3), .slice none 0 0]) ?_ 4 _ rfl; (with_reducible repeat first | apply zd | apply ze | apply za); refine blk_put (cs := #[.int .i64 ((rd_T104 l0 x17_1).f0), .bool ((rd_T104 l0 x17_1).f1), .int .i64 ((rd_T104 l0 x17_1).f2), .int .i64 0, .slice none 0 0]) ?_ 3 _ rfl; (with_reducible repeat first | apply zd | apply ze | apply za); refine blk_put (cs := #[.int .i64 ((rd_T104 l0 x17_1).f0), .bool ((rd_T104 l0 x17_1).f1), .int .i64 0, .int .i64 0, .slice none 0 0]) ?_ 2 _ rfl; (with_reducible repeat first | apply zd | apply ze | apply za); refine blk_put (cs := #[.int .i64 ((rd_T104 l0 x17_1).f0), .bool false, .int .i64 0, .int .i64 0, .slice none 0 0]) ?_ 1 _ rfl; (with_reducible repeat first | apply zd | apply ze | apply za); refine blk_put (cs := #[.int .i64 0, .bool false, .int .i64 0, .int .i64 0, .slice none 0 0]) ?_ 0 _ rfl; (with_reducible repeat first | apply zd | apply ze | apply za); exact BK346.out)) : gb348 ≠ gb346)); clear BK346 HB; have BK346 := n0_; have HB := n1_; have BK348 := n2_; have GW348 := n3_; have GE348 := n4_; have NB346_348 := n5_; have NB348_346 := n6_; clear n0_ n1_ n2_ n3_ n4_ n5_ n6_; clear hb hbox hg; have hnb20 := NB348_346.out; have hnc20 := NB346_348.out; have hcz21_0 := zc BK348.out 0 (.int .i64 0) rfl; have hcz21_1 := zc BK348.out 1 (.bool false) rfl; have hcz21_2 := zc BK348.out 2 (.int .i64 0) rfl; have hcz21_3 := zc BK348.out 3 (.int .i64 0) rfl; have hcz21_4 := zc BK348.out 4 (.slice none 0 0) rfl; have hfz21_0 := zf BK348.out 0; have hfz21_1 := zf BK348.out 1; have hfz21_2 := zf BK348.out 2; have hfz21_3 := zf BK348.out 3; have hfz21_4 := zf BK348.out 4; have hcz22_0 := zc BK346.out 0 (.int .i64 ((rd_T104 l0 x17_1).f0)) rfl; have hcz22_1 := zc BK346.out 1 (.bool ((rd_T104 l0 x17_1).f1)) rfl; have hcz22_2 := zc BK346.out 2 (.int .i64 ((rd_T104 l0 x17_1).f2)) rfl; have hcz22_3 := zc BK346.out 3 (.int .i64 ((rd_T104 l0 x17_1).f3)) rfl; have hcz22_4 := zc BK346.out 4 (.slice A345_4 ((rd_T104 l0 x17_1).f4).length c345_4) rfl; have hfz22_0 := zf BK346.out 0; have hfz22_1 := zf BK346.out 1; have hfz22_2 := zf BK346.out 2; have hfz22_3 := zf BK346.out 3; have hfz22_4 := zf BK346.out 4) | ((with_reducible refine gate_value (t := 26) rfl ?_); refine goesV_ (some 29) rfl rfl Try.func98 (by kernel_rfl) rfl #[.agg #[.int .i64 ((rd_T104 l0 x17_1).f0), .bool ((rd_T104 l0 x17_1).f1), .int .i64 ((rd_T104 l0 x17_1).f2), .int .i64 ((rd_T104 l0 x17_1).f3), .slice A345_4 ((rd_T104 l0 x17_1).f4).length c345_4], .agg #[.int .i64 ((rd_T104 l1 x17_1).f0), .bool ((rd_T104 l1 x17_1).f1), .int .i64 ((rd_T104 l1 x17_1).f2), .int .i64 ((rd_T104 l1 x17_1).f3), .slice A347_4 ((rd_T104 l1 x17_1).f4).length c347_4]] ⟨rfl, rfl⟩ (by (try simp only [List.map_toArray, List.map_cons, List.map_nil]); first | done | rfl | (simp only [List.length_drop, List.length_take]; rfl)) ?_; (with_reducible refine (sameF.calls k1 ((rd_T104 l0 x17_1).f0) ((rd_T104 l0 x17_1).f1) ((rd_T104 l0 x17_1).f2) ((rd_T104 l0 x17_1).f3) _ _ ((rd_T104 l0 x17_1).f4) ((rd_T104 l1 x17_1).f0) ((rd_T104 l1 x17_1).f1) ((rd_T104 l1 x17_1).f2) ((rd_T104 l1 x17_1).f3) _ _ ((rd_T104 l1 x17_1).f4) false _ ?side1 ?side2 ?side3 ?side4 A8.out).mono ?_); (case side1 => exact Kd.C_below HR345_4.out (by repeat (first | (with_reducible first | exact HB.out | apply zA | apply zD | apply zE | refine zS ?_ GE346.out | refine zS ?_ GE348.out) | exact HB.out))); (case side2 => exact HC345_4.out); (case side3 => exact Kd.C_below HR347_4.out (by repeat (first | (with_reducible first | exact HB.out | apply zA | apply zD | apply zE | refine zS ?_ GE346.out | refine zS ?_ GE348.out) | exact HB.out))); (case side4 => exact HC347_4.out); rintro e w23 ⟨rfl, hb⟩; refine ⟨_, rfl, ?_⟩; have n0_ := zm (zb (g := gb346) (o := .cells #[.int .i64 ((rd_T104 l0 x17_1).f0), .bool ((rd_T104 l0 x17_1).f1), .int .i64 ((rd_T104 l0 x17_1).f2), .int .i64 ((rd_T104 l0 x17_1).f3), .slice A345_4 ((rd_T104 l0 x17_1).f4).length c345_4] 104 (0, 0)) (by (with_reducible repeat first | apply zd | apply ze | apply za); refine blk_far ?_ NB346_348.out _; (with_reducible repeat first | apply zd | apply ze | apply za); refine blk_far ?_ NB346_348.out _; (with_reducible repeat first | apply zd | apply ze | apply za); refine blk_far ?_ NB346_348.out _; (with_reducible repeat first | apply zd | apply ze | apply za); refine blk_far ?_ NB346_348.out _; (with_reducible repeat first | apply zd | apply ze | apply za); refine blk_far ?_ NB346_348.out _; (with_reducible repeat first | apply zd | apply ze | apply za); exact BK346.out) hb); have n1_ := zm (zb (g := gb348) (o := .cells #[.int .i64 ((rd_T104 l1 x17_1).f0), .bool ((rd_T104 l1 x17_1).f1), .int .i64 ((rd_T104 l1 x17_1).f2), .int .i64 ((rd_T104 l1 x17_1).f3), .slice A347_4 ((rd_T104 l1 x17_1).f4).length c347_4] 104 (0, 0)) (by (with_reducible repeat first | apply zd | apply ze | apply za); refine blk_put (cs := #[.int .i64 ((rd_T104 l1 x17_1).f0), .bool ((rd_T104 l1 x17_1).f1), .int .i64 ((rd_T104 l1 x17_1).f2), .int .i64 ((rd_T104 l1 x17_1).f3), .slice none 0 0]) ?_ 4 _ rfl; (with_reducible repeat first | apply zd | apply ze | apply za); refine blk_put (cs := #[.int .i64 ((rd_T104 l1 x17_1).f0), .bool ((rd_T104 l1 x17_1).f1), .int .i64 ((rd_T104 l1 x17_1).f2), .int .i64 0, .slice none 0 0]) ?_ 3 _ rfl; (with_reducible repeat first | apply zd | apply ze | apply za); refine blk_put (cs := #[.int .i64 ((rd_T104 l1 x17_1).f0), .bool ((rd_T104 l1 x17_1).f1), .int .i64 0, .int .i64 0, .slice none 0 0]) ?_ 2 _ rfl; (with_reducible repeat first | apply zd | apply ze | apply za); refine blk_put (cs := #[.int .i64 ((rd_T104 l1 x17_1).f0), .bool false, .int .i64 0, .int .i64 0, .slice none 0 0]) ?_ 1 _ rfl; (with_reducible repeat first | apply zd | apply ze | apply za); refine blk_put (cs := #[.int .i64 0, .bool false, .int .i64 0, .int .i64 0, .slice none 0 0]) ?_ 0 _ rfl; (with_reducible repeat first | apply zd | apply ze | apply za); exact BK348.out) hb); have n2_ := zm (below_step (by repeat (first | (with_reducible first | exact HB.out | apply zA | apply zD | apply zE | refine zS ?_ GE346.out | refine zS ?_ GE348.out) | exact HB.out)) hb); clear BK346 BK348 HB; have BK346 := n0_; have BK348 := n1_; have HB := n2_; clear n0_ n1_ n2_; (try clear hb); (try clear hb2); (try clear hk); (try clear hi)))
         go_ret
         exact ⟨by first | rfl | (simp [errW_none, errW_some] <;> rfl) | (simp [*, errW_none, errW_some] <;> rfl), by repeat (first | (with_reducible first | exact HB.out | apply zA | apply zD | apply zE | refine zS ?_ GE346.out | refine zS ?_ GE348.out) | exact HB.out)⟩
       ·rw [if_neg c7] at H
        exact absurd H (by simp)
      ·rw [if_neg c6] at H
       exact absurd H (by simp)
     ·rw [if_neg c5] at H
      exact absurd H (by simp)
    ·rw [if_neg c4] at H
     have c4b0 : decide (x17_1 < (l0.length : Int)) = false := decide_eq_false c4
     clear c4
     obtain rfl := Option.some.inj H
     go_wp2
     go_ret
     exact ⟨by first | rfl | (simp [errW_none, errW_some] <;> rfl) | (simp [*, errW_none, errW_some] <;> rfl), by repeat (first | (with_reducible first | exact HB.out | apply zA | apply zD | apply zE) | exact HB.out)⟩
 ·rw [if_neg c3] at H
  have c3b0 : ((l0.length : Int) == (l1.length : Int)) = false := beq_eq_false_iff_ne.mpr c3
  have c3b1 : ((l0.length : Int) != (l1.length : Int)) = true := bne_iff_ne.mpr c3
  have c3b2 : (l0.length == l1.length) = false := by first | simpa using c3 | (simp at c3 ⊢; omega)
  obtain rfl := Option.some.inj H
  go_enter Try.func127, Try.ntmps127
  go_wp2
  go_ret
  exact ⟨by first | rfl | (simp [errW_none, errW_some] <;> rfl) | (simp [*, errW_none, errW_some] <;> rfl), by repeat (first | (with_reducible first | exact HB.out | apply zA | apply zD | apply zE) | exact HB.out)⟩
end Go.Proofs.Ytkgdlbepjmgaiaa.Fea
namespace Go.Proofs.Ytkgdlbepjmgaiaa.Fea
open Go.RowKit Go.Proofs.YtkgdlbepjmgaiaaW.PrintWords Go.Proofs.YtkgdlbepjmgaiaaW.PrintLast Go.Proofs.YtkgdlbepjmgaiaaW.PrintMore
attribute [local go_sem] max2_int min2_int max_two min_two max_three min_three max_four min_four
set_option linter.unusedVariables false
set_option linter.unusedSimpArgs false
def equalF.f (k : Nat) (l0 : List (S104)) (l1 : List (S104)) : Option (Bool) := (eqfF.f k l0 l1).bind fun t350 => (some t350)
theorem equalF.mono : ∀ a0 a1 k, LeO (equalF.f k a0 a1) (equalF.f (k + 1) a0 a1) := by
  intro a0 a1 k
  unfold equalF.f
  repeat' first
      | (with_reducible exact eqfF.mono _ _ _)
      | (with_reducible exact LeO.refl _)
      | (with_reducible exact LeO.none _)
      | (with_reducible refine LeO.ite ?_ ?_)
      | (with_reducible refine LeO.bind ?_ (fun _ => ?_))
      | exact eqfF.mono _ _ _
      | exact LeO.none _
      | refine LeO.ite ?_ ?_
      | refine LeO.bind ?_ (fun _ => ?_)
set_option maxHeartbeats 8000000 in
set_option maxRecDepth 100000 in
theorem equalF.calls (k : Nat) (A0 : Option Addr) (c0 : Nat) (l0 : List (S104)) (A1 : Option Addr) (c1 : Nat) (l1 : List (S104)) (r : Bool) (w : World) (hr0 : Kd.C k104 w A0 l0.length l0) (hc0 : l0.length ≤ c0) (hr1 : Kd.C k104 w A1 l1.length l1) (hc1 : l1.length ≤ c1) (h : equalF.f k l0 l1 = some r) :
    Calls Try.prog 97 #[.slice A0 l0.length c0, .slice A1 l1.length c1, .func (.func 98) #[] #[]] w fun e w' => e = .returned (.bool r) ∧ Below w.heap.size w w' := by
  have HR0 := Aside0.mk hr0
  have HC0 := Aside0.mk hc0
  clear hr0 hc0
  have HR1 := Aside0.mk hr1
  have HC1 := Aside0.mk hc1
  clear hr1 hc1
  have HB := Aside0.mk (Below.refl w.heap.size w)
  have H : ((eqfF.f k l0 l1).bind fun t350 => (some t350)) = some r := h
  clear h
  replace H := Option.bind_eq_some_iff.mp H
  obtain ⟨t350, A30, H⟩ := H
  replace H : (some t350) = some r := H
  have A3 := Aside0.mk A30
  clear A30
  obtain rfl := Option.some.inj H
  go_enter Try.func97, Try.ntmps97
  go_wp2_with (first | ((with_reducible refine gate_callee (f := 127) rfl ?_); refine goesL_ (some 10) rfl rfl Try.func127 (by kernel_rfl) rfl #[.slice A0 l0.length c0, .slice A1 l1.length c1, .func (.func 98) #[] #[]] rfl (by (try simp only [List.map_toArray, List.map_cons, List.map_nil]); first | done | rfl | (simp only [List.length_drop, List.length_take]; rfl)) ?_; (with_reducible refine (eqfF.calls k _ _ l0 _ _ l1 t350 _ ?side1 ?side2 ?side3 ?side4 A3.out).mono ?_); (case side1 => repeat (first | exact HR0.out | (with_reducible refine Kd.C_alloc ?_ _) | (with_reducible refine Kd.C_drewN ?_ _) | (with_reducible refine Kd.C_drew ?_))); (case side2 => exact HC0.out); (case side3 => repeat (first | exact HR1.out | (with_reducible refine Kd.C_alloc ?_ _) | (with_reducible refine Kd.C_drewN ?_ _) | (with_reducible refine Kd.C_drew ?_))); (case side4 => exact HC1.out); rintro e w4 ⟨rfl, hb⟩; refine ⟨_, rfl, ?_⟩; have n0_ := Aside0.mk (below_step (by repeat (first | (with_reducible first | exact HB.out | apply below_alloc | apply pw_below_drewN | apply below_drew1) | exact HB.out)) hb); clear HB; have HB := n0_; clear n0_; (try clear hb); (try clear hb2); (try clear hk); (try clear hi)))
  go_ret
  exact ⟨by first | rfl | (simp [errW_none, errW_some] <;> rfl) | (simp [*, errW_none, errW_some] <;> rfl), by repeat (first | (with_reducible first | exact HB.out | apply below_alloc | apply pw_below_drewN | apply below_drew1) | exact HB.out)⟩
end Go.Proofs.Ytkgdlbepjmgaiaa.Fea
namespace Go.Proofs.Ytkgdlbepjmgaiaa.Fea
open Go.RowKit Go.Proofs.YtkgdlbepjmgaiaaW.PrintWords Go.Proofs.YtkgdlbepjmgaiaaW.PrintLast Go.Proofs.YtkgdlbepjmgaiaaW.PrintMore
attribute [local go_sem] max2_int min2_int max_two min_two max_three min_three max_four min_four
set_option linter.unusedVariables false
set_option linter.unusedSimpArgs false
attribute [local go_sem high] eqA23 eqA25
def feature_Same.f (k : Nat) (a0_0 : ByteArray) (a0_1 : Int) (a0_2 : Int) (a0_3 : Int) (a0_4 : Int) (a0_5 : Int) (a0_6 : Int) (a0_7 : Int) (l0_8 : List (S104)) (a1_0 : ByteArray) (a1_1 : Int) (a1_2 : Int) (a1_3 : Int) (a1_4 : Int) (a1_5 : Int) (a1_6 : Int) (a1_7 : Int) (l1_8 : List (S104)) : Option (Bool) := if a0_0.toList = a1_0.toList then (if a0_1 = a1_1 then (if a0_2 = a1_2 then (if (a0_3 == a1_3 && (a0_4 == a1_4 && (a0_5 == a1_5))) = true then (if (a0_6 == a1_6 && (a0_7 == a1_7)) = true then ((equalF.f k l0_8 l1_8).bind fun t353 => (some t353)) else (some false)) else (some false)) else (some false)) else (some false)) else (some false)
theorem feature_Same.mono : ∀ a0 a1 a2 a3 a4 a5 a6 a7 a8 a9 a10 a11 a12 a13 a14 a15 a16 a17 k, LeO (feature_Same.f k a0 a1 a2 a3 a4 a5 a6 a7 a8 a9 a10 a11 a12 a13 a14 a15 a16 a17) (feature_Same.f (k + 1) a0 a1 a2 a3 a4 a5 a6 a7 a8 a9 a10 a11 a12 a13 a14 a15 a16 a17) := by
 intro a0 a1 a2 a3 a4 a5 a6 a7 a8 a9 a10 a11 a12 a13 a14 a15 a16 a17 k
 unfold feature_Same.f
 repeat' first
  | (with_reducible exact equalF.mono _ _ _)
  | (with_reducible exact LeO.refl _)
  | (with_reducible exact LeO.none _)
  | (with_reducible refine LeO.ite ?_ ?_)
  | (with_reducible refine LeO.bind ?_ (fun _ => ?_))
  | exact equalF.mono _ _ _
  | exact LeO.none _
  | refine LeO.ite ?_ ?_
  | refine LeO.bind ?_ (fun _ => ?_)
set_option maxHeartbeats 8000000 in
set_option maxRecDepth 100000 in
theorem feature_Same.calls (k : Nat) (a0_0 : ByteArray) (a0_1 : Int) (a0_2 : Int) (a0_3 : Int) (a0_4 : Int) (a0_5 : Int) (a0_6 : Int) (a0_7 : Int) (A0_8 : Option Addr) (c0_8 : Nat) (l0_8 : List (S104)) (a1_0 : ByteArray) (a1_1 : Int) (a1_2 : Int) (a1_3 : Int) (a1_4 : Int) (a1_5 : Int) (a1_6 : Int) (a1_7 : Int) (A1_8 : Option Addr) (c1_8 : Nat) (l1_8 : List (S104)) (r : Bool) (w : World) (hr0_8 : Kd.C k104 w A0_8 l0_8.length l0_8) (hc0_8 : l0_8.length ≤ c0_8) (hr1_8 : Kd.C k104 w A1_8 l1_8.length l1_8) (hc1_8 : l1_8.length ≤ c1_8) (h : feature_Same.f k a0_0 a0_1 a0_2 a0_3 a0_4 a0_5 a0_6 a0_7 l0_8 a1_0 a1_1 a1_2 a1_3 a1_4 a1_5 a1_6 a1_7 l1_8 = some r) :
 Calls Try.prog 48 #[.agg #[.string a0_0, .int .i64 a0_1, .int .i64 a0_2, .int .i64 a0_3, .int .i64 a0_4, .int .i64 a0_5, .int .i64 a0_6, .int .i64 a0_7, .slice A0_8 l0_8.length c0_8], .agg #[.string a1_0, .int .i64 a1_1, .int .i64 a1_2, .int .i64 a1_3, .int .i64 a1_4, .int .i64 a1_5, .int .i64 a1_6, .int .i64 a1_7, .slice A1_8 l1_8.length c1_8]] w fun e w' => e = .returned (.bool r) ∧ Below w.heap.size w w' := by
 have hu28 := Try.underlying28
 have hu23 := Try.underlying23
 have hu25 := Try.underlying25
 have HR0_8 := zm hr0_8
 have HC0_8 := zm hc0_8
 clear hr0_8 hc0_8
 have HR1_8 := zm hr1_8
 have HC1_8 := zm hc1_8
 clear hr1_8 hc1_8
 have HB := zm (Below.refl w.heap.size w)
 have H : (if a0_0.toList = a1_0.toList then (if a0_1 = a1_1 then (if a0_2 = a1_2 then (if (a0_3 == a1_3 && (a0_4 == a1_4 && (a0_5 == a1_5))) = true then (if (a0_6 == a1_6 && (a0_7 == a1_7)) = true then ((equalF.f k l0_8 l1_8).bind fun t353 => (some t353)) else (some false)) else (some false)) else (some false)) else (some false)) else (some false)) = some r := h
 clear h
 by_cases c3 : a0_0.toList = a1_0.toList
 ·rw [if_pos c3] at H
  have c3b0 : (a0_0.toList == a1_0.toList) = true := beq_iff_eq.mpr c3
  have c3b1 : (a0_0.toList != a1_0.toList) = false := bne_eq_false_iff_eq.mpr c3
  clear c3
  by_cases c4 : a0_1 = a1_1
  ·rw [if_pos c4] at H
   have c4b0 : (a0_1 == a1_1) = true := beq_iff_eq.mpr c4
   have c4b1 : (a0_1 != a1_1) = false := bne_eq_false_iff_eq.mpr c4
   clear c4
   by_cases c5 : a0_2 = a1_2
   ·rw [if_pos c5] at H
    have c5b0 : (a0_2 == a1_2) = true := beq_iff_eq.mpr c5
    have c5b1 : (a0_2 != a1_2) = false := bne_eq_false_iff_eq.mpr c5
    clear c5
    by_cases c6 : (a0_3 == a1_3 && (a0_4 == a1_4 && (a0_5 == a1_5))) = true
    ·rw [if_pos c6] at H
     have c6b0 : (a0_3 == a1_3 && (a0_4 == a1_4 && (a0_5 == a1_5))) = true := c6
     (try (have c6b1 : decide (a0_3 = a1_3 && (a0_4 == a1_4 && (a0_5 == a1_5))) = true := by simpa using c6))
     (try (have c6b2 : (a0_3 == a1_3 && (a0_4 == a1_4 && (a0_5 == a1_5))) = true := by simpa using c6))
     clear c6
     by_cases c7 : (a0_6 == a1_6 && (a0_7 == a1_7)) = true
     ·rw [if_pos c7] at H
      have c7b0 : (a0_6 == a1_6 && (a0_7 == a1_7)) = true := c7
      (try (have c7b1 : decide (a0_6 = a1_6 && (a0_7 == a1_7)) = true := by simpa using c7))
      (try (have c7b2 : (a0_6 == a1_6 && (a0_7 == a1_7)) = true := by simpa using c7))
      clear c7
      replace H := Option.bind_eq_some_iff.mp H
      obtain ⟨t353, A80, H⟩ := H
      replace H : (some t353) = some r := H
      have A8 := zm A80
      clear A80
      obtain rfl := Option.some.inj H
      go_enter Try.func48, Try.ntmps48
      go_wp2_with (first | ((with_reducible refine gate_dst (N := 2) rfl ?_); refine box_event ?hg (N := 2) ?hd (cs := #[.string a0_0, .int .i64 a0_1, .int .i64 a0_2, .int .i64 a0_3, .int .i64 a0_4, .int .i64 a0_5, .int .i64 a0_6, .int .i64 a0_7, .slice A0_8 l0_8.length c0_8]) (t := 28) ?hr ?_; (case hd => rfl); (case hg => rfl); (case hr => first | (go_simp; done) | (go_simp; rfl)); intro gb351 hg w9 hbox hb; have n0_ := zm (below_step (by repeat (first | (with_reducible first | exact HB.out | apply zA | apply zD | apply zE) | exact HB.out)) hb); have n1_ := zm (hbox); have n2_ := zm ((by rw [hg]; exact (below_size (by repeat (first | (with_reducible first | exact HB.out | apply zA | apply zD | apply zE) | exact HB.out))) : w.heap.size ≤ gb351)); have n3_ := zm ((by rw [hg]; exact (below_size (by repeat (first | (with_reducible first | exact HB.out | apply zA | apply zD | apply zE) | exact HB.out))) : w.heap.size ≤ gb351)); clear HB; have HB := n0_; have BK351 := n1_; have GW351 := n2_; have GE351 := n3_; clear n0_ n1_ n2_ n3_; clear hb hbox hg) | ((with_reducible refine gate_dst (N := 3) rfl ?_); refine box_event ?hg (N := 3) ?hd (cs := #[.string a1_0, .int .i64 a1_1, .int .i64 a1_2, .int .i64 a1_3, .int .i64 a1_4, .int .i64 a1_5, .int .i64 a1_6, .int .i64 a1_7, .slice A1_8 l1_8.length c1_8]) (t := 28) ?hr ?_; (case hd => rfl); (case hg => rfl); (case hr => first | (go_simp; done) | (go_simp; rfl)); intro gb352 hg w10 hbox hb; have n0_ := zm (zb (g := gb351) (o := .cells #[.string a0_0, .int .i64 a0_1, .int .i64 a0_2, .int .i64 a0_3, .int .i64 a0_4, .int .i64 a0_5, .int .i64 a0_6, .int .i64 a0_7, .slice A0_8 l0_8.length c0_8] 28 (0, 0)) (by (with_reducible repeat first | apply zd | apply ze | apply za); exact BK351.out) hb); have n1_ := zm (below_step (by repeat (first | (with_reducible first | exact HB.out | apply zA | apply zD | apply zE | refine zS ?_ GE351.out) | exact HB.out)) hb); have n2_ := zm (hbox); have n3_ := zm ((by rw [hg]; exact (below_size (by repeat (first | (with_reducible first | exact HB.out | apply zA | apply zD | apply zE | refine zS ?_ GE351.out) | exact HB.out))) : w.heap.size ≤ gb352)); have n4_ := zm ((by rw [hg]; exact (below_size (by repeat (first | (with_reducible first | exact HB.out | apply zA | apply zD | apply zE | refine zS ?_ GE351.out) | exact HB.out))) : w.heap.size ≤ gb352)); have n5_ := zm ((by rw [hg]; exact Nat.ne_of_lt (blk_lt (g := gb351) (o := .cells #[.string a0_0, .int .i64 a0_1, .int .i64 a0_2, .int .i64 a0_3, .int .i64 a0_4, .int .i64 a0_5, .int .i64 a0_6, .int .i64 a0_7, .slice A0_8 l0_8.length c0_8] 28 (0, 0)) (by (with_reducible repeat first | apply zd | apply ze | apply za); exact BK351.out)) : gb351 ≠ gb352)); have n6_ := zm ((by rw [hg]; exact Nat.ne_of_gt (blk_lt (g := gb351) (o := .cells #[.string a0_0, .int .i64 a0_1, .int .i64 a0_2, .int .i64 a0_3, .int .i64 a0_4, .int .i64 a0_5, .int .i64 a0_6, .int .i64 a0_7, .slice A0_8 l0_8.length c0_8] 28 (0, 0)) (by (with_reducible repeat first | apply zd | apply ze | apply za); exact BK351.out)) : gb352 ≠ gb351)); clear BK351 HB; have BK351 := n0_; have HB := n1_; have BK352 := n2_; have GW352 := n3_; have GE352 := n4_; have NB351_352 := n5_; have NB352_351 := n6_; clear n0_ n1_ n2_ n3_ n4_ n5_ n6_; clear hb hbox hg; have hnb11 := NB351_352.out; have hnc11 := NB352_351.out; have hcz12_0 := zc BK351.out 0 (.string a0_0) rfl; have hcz12_1 := zc BK351.out 1 (.int .i64 a0_1) rfl; have hcz12_2 := zc BK351.out 2 (.int .i64 a0_2) rfl; have hcz12_3 := zc BK351.out 3 (.int .i64 a0_3) rfl; have hcz12_4 := zc BK351.out 4 (.int .i64 a0_4) rfl; have hcz12_5 := zc BK351.out 5 (.int .i64 a0_5) rfl; have hcz12_6 := zc BK351.out 6 (.int .i64 a0_6) rfl; have hcz12_7 := zc BK351.out 7 (.int .i64 a0_7) rfl; have hcz12_8 := zc BK351.out 8 (.slice A0_8 l0_8.length c0_8) rfl; have hfz12_0 := zf BK351.out 0; have hfz12_1 := zf BK351.out 1; have hfz12_2 := zf BK351.out 2; have hfz12_3 := zf BK351.out 3; have hfz12_4 := zf BK351.out 4; have hfz12_5 := zf BK351.out 5; have hfz12_6 := zf BK351.out 6; have hfz12_7 := zf BK351.out 7; have hfz12_8 := zf BK351.out 8; have hcz13_0 := zc BK352.out 0 (.string a1_0) rfl; have hcz13_1 := zc BK352.out 1 (.int .i64 a1_1) rfl; have hcz13_2 := zc BK352.out 2 (.int .i64 a1_2) rfl; have hcz13_3 := zc BK352.out 3 (.int .i64 a1_3) rfl; have hcz13_4 := zc BK352.out 4 (.int .i64 a1_4) rfl; have hcz13_5 := zc BK352.out 5 (.int .i64 a1_5) rfl; have hcz13_6 := zc BK352.out 6 (.int .i64 a1_6) rfl; have hcz13_7 := zc BK352.out 7 (.int .i64 a1_7) rfl; have hcz13_8 := zc BK352.out 8 (.slice A1_8 l1_8.length c1_8) rfl; have hfz13_0 := zf BK352.out 0; have hfz13_1 := zf BK352.out 1; have hfz13_2 := zf BK352.out 2; have hfz13_3 := zf BK352.out 3; have hfz13_4 := zf BK352.out 4; have hfz13_5 := zf BK352.out 5; have hfz13_6 := zf BK352.out 6; have hfz13_7 := zf BK352.out 7; have hfz13_8 := zf BK352.out 8) | (go_at_call 97; (with_reducible refine (equalF.calls k _ _ l0_8 _ _ l1_8 t353 _ ?side1 ?side2 ?side3 ?side4 A8.out).mono ?_); (case side1 => repeat (first | exact (Kd.C_below HR0_8.out HB.out) | (with_reducible refine Kd.C_alloc ?_ _) | (with_reducible refine Kd.C_drewN ?_ _) | (with_reducible refine Kd.C_drew ?_))); (case side2 => exact HC0_8.out); (case side3 => repeat (first | exact (Kd.C_below HR1_8.out HB.out) | (with_reducible refine Kd.C_alloc ?_ _) | (with_reducible refine Kd.C_drewN ?_ _) | (with_reducible refine Kd.C_drew ?_))); (case side4 => exact HC1_8.out); rintro e w14 ⟨rfl, hb⟩; have n0_ := zm (zb (g := gb351) (o := .cells #[.string a0_0, .int .i64 a0_1, .int .i64 a0_2, .int .i64 a0_3, .int .i64 a0_4, .int .i64 a0_5, .int .i64 a0_6, .int .i64 a0_7, .slice A0_8 l0_8.length c0_8] 28 (0, 0)) (by (with_reducible repeat first | apply zd | apply ze | apply za); exact BK351.out) hb); have n1_ := zm (zb (g := gb352) (o := .cells #[.string a1_0, .int .i64 a1_1, .int .i64 a1_2, .int .i64 a1_3, .int .i64 a1_4, .int .i64 a1_5, .int .i64 a1_6, .int .i64 a1_7, .slice A1_8 l1_8.length c1_8] 28 (0, 0)) (by (with_reducible repeat first | apply zd | apply ze | apply za); exact BK352.out) hb); have n2_ := zm (below_step (by repeat (first | (with_reducible first | exact HB.out | apply zA | apply zD | apply zE | refine zS ?_ GE351.out | refine zS ?_ GE352.out) | exact HB.out)) hb); clear BK351 BK352 HB; have BK351 := n0_; have BK352 := n1_; have HB := n2_; clear n0_ n1_ n2_; (try clear hb); (try clear hb2); (try clear hk); (try clear hi)))
      go_ret
      exact ⟨by first | rfl | (simp [errW_none, errW_some] <;> rfl) | (simp [*, errW_none, errW_some] <;> rfl), by repeat (first | (with_reducible first | exact HB.out | apply zA | apply zD | apply zE | refine zS ?_ GE351.out | refine zS ?_ GE352.out) | exact HB.out)⟩
     ·rw [if_neg c7] at H
      have c7b0 : (a0_6 == a1_6 && (a0_7 == a1_7)) = false := by simpa using c7
      (try (have c7b1 : decide (a0_6 = a1_6 && (a0_7 == a1_7)) = false := by simpa using c7))
      (try (have c7b2 : (a0_6 == a1_6 && (a0_7 == a1_7)) = false := by simpa using c7))
      (try (have c7b3 : ¬ (a0_6 = a1_6 && (a0_7 == a1_7)) := by simpa using c7))
      clear c7
      obtain rfl := Option.some.inj H
      go_enter Try.func48, Try.ntmps48
      go_wp2_with (first | ((with_reducible refine gate_dst (N := 2) rfl ?_); refine box_event ?hg (N := 2) ?hd (cs := #[.string a0_0, .int .i64 a0_1, .int .i64 a0_2, .int .i64 a0_3, .int .i64 a0_4, .int .i64 a0_5, .int .i64 a0_6, .int .i64 a0_7, .slice A0_8 l0_8.length c0_8]) (t := 28) ?hr ?_; (case hd => rfl); (case hg => rfl); (case hr => first | (go_simp; done) | (go_simp; rfl)); intro gb351 hg w15 hbox hb; have n0_ := zm (below_step (by repeat (first | (with_reducible first | exact HB.out | apply zA | apply zD | apply zE) | exact HB.out)) hb); have n1_ := zm (hbox); have n2_ := zm ((by rw [hg]; exact (below_size (by repeat (first | (with_reducible first | exact HB.out | apply zA | apply zD | apply zE) | exact HB.out))) : w.heap.size ≤ gb351)); have n3_ := zm ((by rw [hg]; exact (below_size (by repeat (first | (with_reducible first | exact HB.out | apply zA | apply zD | apply zE) | exact HB.out))) : w.heap.size ≤ gb351)); clear HB; have HB := n0_; have BK351 := n1_; have GW351 := n2_; have GE351 := n3_; clear n0_ n1_ n2_ n3_; clear hb hbox hg) | ((with_reducible refine gate_dst (N := 3) rfl ?_); refine box_event ?hg (N := 3) ?hd (cs := #[.string a1_0, .int .i64 a1_1, .int .i64 a1_2, .int .i64 a1_3, .int .i64 a1_4, .int .i64 a1_5, .int .i64 a1_6, .int .i64 a1_7, .slice A1_8 l1_8.length c1_8]) (t := 28) ?hr ?_; (case hd => rfl); (case hg => rfl); (case hr => first | (go_simp; done) | (go_simp; rfl)); intro gb352 hg w16 hbox hb; have n0_ := zm (zb (g := gb351) (o := .cells #[.string a0_0, .int .i64 a0_1, .int .i64 a0_2, .int .i64 a0_3, .int .i64 a0_4, .int .i64 a0_5, .int .i64 a0_6, .int .i64 a0_7, .slice A0_8 l0_8.length c0_8] 28 (0, 0)) (by (with_reducible repeat first | apply zd | apply ze | apply za); exact BK351.out) hb); have n1_ := zm (below_step (by repeat (first | (with_reducible first | exact HB.out | apply zA | apply zD | apply zE | refine zS ?_ GE351.out) | exact HB.out)) hb); have n2_ := zm (hbox); have n3_ := zm ((by rw [hg]; exact (below_size (by repeat (first | (with_reducible first | exact HB.out | apply zA | apply zD | apply zE | refine zS ?_ GE351.out) | exact HB.out))) : w.heap.size ≤ gb352)); have n4_ := zm ((by rw [hg]; exact (below_size (by repeat (first | (with_reducible first | exact HB.out | apply zA | apply zD | apply zE | refine zS ?_ GE351.out) | exact HB.out))) : w.heap.size ≤ gb352)); have n5_ := zm ((by rw [hg]; exact Nat.ne_of_lt (blk_lt (g := gb351) (o := .cells #[.string a0_0, .int .i64 a0_1, .int .i64 a0_2, .int .i64 a0_3, .int .i64 a0_4, .int .i64 a0_5, .int .i64 a0_6, .int .i64 a0_7, .slice A0_8 l0_8.length c0_8] 28 (0, 0)) (by (with_reducible repeat first | apply zd | apply ze | apply za); exact BK351.out)) : gb351 ≠ gb352)); have n6_ := zm ((by rw [hg]; exact Nat.ne_of_gt (blk_lt (g := gb351) (o := .cells #[.string a0_0, .int .i64 a0_1, .int .i64 a0_2, .int .i64 a0_3, .int .i64 a0_4, .int .i64 a0_5, .int .i64 a0_6, .int .i64 a0_7, .slice A0_8 l0_8.length c0_8] 28 (0, 0)) (by (with_reducible repeat first | apply zd | apply ze | apply za); exact BK351.out)) : gb352 ≠ gb351)); clear BK351 HB; have BK351 := n0_; have HB := n1_; have BK352 := n2_; have GW352 := n3_; have GE352 := n4_; have NB351_352 := n5_; have NB352_351 := n6_; clear n0_ n1_ n2_ n3_ n4_ n5_ n6_; clear hb hbox hg; have hnb17 := NB351_352.out; have hnc17 := NB352_351.out; have hcz18_0 := zc BK351.out 0 (.string a0_0) rfl; have hcz18_1 := zc BK351.out 1 (.int .i64 a0_1) rfl; have hcz18_2 := zc BK351.out 2 (.int .i64 a0_2) rfl; have hcz18_3 := zc BK351.out 3 (.int .i64 a0_3) rfl; have hcz18_4 := zc BK351.out 4 (.int .i64 a0_4) rfl; have hcz18_5 := zc BK351.out 5 (.int .i64 a0_5) rfl; have hcz18_6 := zc BK351.out 6 (.int .i64 a0_6) rfl; have hcz18_7 := zc BK351.out 7 (.int .i64 a0_7) rfl; have hcz18_8 := zc BK351.out 8 (.slice A0_8 l0_8.length c0_8) rfl; have hfz18_0 := zf BK351.out 0; have hfz18_1 := zf BK351.out 1; have hfz18_2 := zf BK351.out 2; have hfz18_3 := zf BK351.out 3; have hfz18_4 := zf BK351.out 4; have hfz18_5 := zf BK351.out 5; have hfz18_6 := zf BK351.out 6; have hfz18_7 := zf BK351.out 7; have hfz18_8 := zf BK351.out 8; have hcz19_0 := zc BK352.out 0 (.string a1_0) rfl; have hcz19_1 := zc BK352.out 1 (.int .i64 a1_1) rfl; have hcz19_2 := zc BK352.out 2 (.int .i64 a1_2) rfl; have hcz19_3 := zc BK352.out 3 (.int .i64 a1_3) rfl; have hcz19_4 := zc BK352.out 4 (.int .i64 a1_4) rfl; have hcz19_5 := zc BK352.out 5 (.int .i64 a1_5) rfl; have hcz19_6 := zc BK352.out 6 (.int .i64 a1_6) rfl; have hcz19_7 := zc BK352.out 7 (.int .i64 a1_7) rfl; have hcz19_8 := zc BK352.out 8 (.slice A1_8 l1_8.length c1_8) rfl; have hfz19_0 := zf BK352.out 0; have hfz19_1 := zf BK352.out 1; have hfz19_2 := zf BK352.out 2; have hfz19_3 := zf BK352.out 3; have hfz19_4 := zf BK352.out 4; have hfz19_5 := zf BK352.out 5; have hfz19_6 := zf BK352.out 6; have hfz19_7 := zf BK352.out 7; have hfz19_8 := zf BK352.out 8))
      go_ret
      exact ⟨by first | rfl | (simp [errW_none, errW_some] <;> rfl) | (simp [*, errW_none, errW_some] <;> rfl), by repeat (first | (with_reducible first | exact HB.out | apply zA | apply zD | apply zE | refine zS ?_ GE351.out | refine zS ?_ GE352.out) | exact HB.out)⟩
    ·rw [if_neg c6] at H
     have c6b0 : (a0_3 == a1_3 && (a0_4 == a1_4 && (a0_5 == a1_5))) = false := by simpa using c6
     (try (have c6b1 : decide (a0_3 = a1_3 && (a0_4 == a1_4 && (a0_5 == a1_5))) = false := by simpa using c6))
     (try (have c6b2 : (a0_3 == a1_3 && (a0_4 == a1_4 && (a0_5 == a1_5))) = false := by simpa using c6))
     (try (have c6b3 : ¬ (a0_3 = a1_3 && (a0_4 == a1_4 && (a0_5 == a1_5))) := by simpa using c6))
     clear c6
     obtain rfl := Option.some.inj H
     go_enter Try.func48, Try.ntmps48
     go_wp2_with (first | ((with_reducible refine gate_dst (N := 2) rfl ?_); refine box_event ?hg (N := 2) ?hd (cs := #[.string a0_0, .int .i64 a0_1, .int .i64 a0_2, .int .i64 a0_3, .int .i64 a0_4, .int .i64 a0_5, .int .i64 a0_6, .int .i64 a0_7, .slice A0_8 l0_8.length c0_8]) (t := 28) ?hr ?_; (case hd => rfl); (case hg => rfl); (case hr => first | (go_simp; done) | (go_simp; rfl)); intro gb351 hg w20 hbox hb; have n0_ := zm (below_step (by repeat (first | (with_reducible first | exact HB.out | apply zA | apply zD | apply zE) | exact HB.out)) hb); have n1_ := zm (hbox); have n2_ := zm ((by rw [hg]; exact (below_size (by repeat (first | (with_reducible first | exact HB.out | apply zA | apply zD | apply zE) | exact HB.out))) : w.heap.size ≤ gb351)); have n3_ := zm ((by rw [hg]; exact (below_size (by repeat (first | (with_reducible first | exact HB.out | apply zA | apply zD | apply zE) | exact HB.out))) : w.heap.size ≤ gb351)); clear HB; have HB := n0_; have BK351 := n1_; have GW351 := n2_; have GE351 := n3_; clear n0_ n1_ n2_ n3_; clear hb hbox hg) | ((with_reducible refine gate_dst (N := 3) rfl ?_); refine box_event ?hg (N := 3) ?hd (cs := #[.string a1_0, .int .i64 a1_1, .int .i64 a1_2, .int .i64 a1_3, .int .i64 a1_4, .int .i64 a1_5, .int .i64 a1_6, .int .i64 a1_7, .slice A1_8 l1_8.length c1_8]) (t := 28) ?hr ?_; (case hd => rfl); (case hg => rfl); (case hr => first | (go_simp; done) | (go_simp; rfl)); intro gb352 hg w21 hbox hb; have n0_ := zm (zb (g := gb351) (o := .cells #[.string a0_0, .int .i64 a0_1, .int .i64 a0_2, .int .i64 a0_3, .int .i64 a0_4, .int .i64 a0_5, .int .i64 a0_6, .int .i64 a0_7, .slice A0_8 l0_8.length c0_8] 28 (0, 0)) (by (with_reducible repeat first | apply zd | apply ze | apply za); exact BK351.out) hb); have n1_ := zm (below_step (by repeat (first | (with_reducible first | exact HB.out | apply zA | apply zD | apply zE | refine zS ?_ GE351.out) | exact HB.out)) hb); have n2_ := zm (hbox); have n3_ := zm ((by rw [hg]; exact (below_size (by repeat (first | (with_reducible first | exact HB.out | apply zA | apply zD | apply zE | refine zS ?_ GE351.out) | exact HB.out))) : w.heap.size ≤ gb352)); have n4_ := zm ((by rw [hg]; exact (below_size (by repeat (first | (with_reducible first | exact HB.out | apply zA | apply zD | apply zE | refine zS ?_ GE351.out) | exact HB.out))) : w.heap.size ≤ gb352)); have n5_ := zm ((by rw [hg]; exact Nat.ne_of_lt (blk_lt (g := gb351) (o := .cells #[.string a0_0, .int .i64 a0_1, .int .i64 a0_2, .int .i64 a0_3, .int .i64 a0_4, .int .i64 a0_5, .int .i64 a0_6, .int .i64 a0_7, .slice A0_8 l0_8.length c0_8] 28 (0, 0)) (by (with_reducible repeat first | apply zd | apply ze | apply za); exact BK351.out)) : gb351 ≠ gb352)); have n6_ := zm ((by rw [hg]; exact Nat.ne_of_gt (blk_lt (g := gb351) (o := .cells #[.string a0_0, .int .i64 a0_1, .int .i64 a0_2, .int .i64 a0_3, .int .i64 a0_4, .int .i64 a0_5, .int .i64 a0_6, .int .i64 a0_7, .slice A0_8 l0_8.length c0_8] 28 (0, 0)) (by (with_reducible repeat first | apply zd | apply ze | apply za); exact BK351.out)) : gb352 ≠ gb351)); clear BK351 HB; have BK351 := n0_; have HB := n1_; have BK352 := n2_; have GW352 := n3_; have GE352 := n4_; have NB351_352 := n5_; have NB352_351 := n6_; clear n0_ n1_ n2_ n3_ n4_ n5_ n6_; clear hb hbox hg; have hnb22 := NB351_352.out; have hnc22 := NB352_351.out; have hcz23_0 := zc BK351.out 0 (.string a0_0) rfl; have hcz23_1 := zc BK351.out 1 (.int .i64 a0_1) rfl; have hcz23_2 := zc BK351.out 2 (.int .i64 a0_2) rfl; have hcz23_3 := zc BK351.out 3 (.int .i64 a0_3) rfl; have hcz23_4 := zc BK351.out 4 (.int .i64 a0_4) rfl; have hcz23_5 := zc BK351.out 5 (.int .i64 a0_5) rfl; have hcz23_6 := zc BK351.out 6 (.int .i64 a0_6) rfl; have hcz23_7 := zc BK351.out 7 (.int .i64 a0_7) rfl; have hcz23_8 := zc BK351.out 8 (.slice A0_8 l0_8.length c0_8) rfl; have hfz23_0 := zf BK351.out 0; have hfz23_1 := zf BK351.out 1; have hfz23_2 := zf BK351.out 2; have hfz23_3 := zf BK351.out 3; have hfz23_4 := zf BK351.out 4; have hfz23_5 := zf BK351.out 5; have hfz23_6 := zf BK351.out 6; have hfz23_7 := zf BK351.out 7; have hfz23_8 := zf BK351.out 8; have hcz24_0 := zc BK352.out 0 (.string a1_0) rfl; have hcz24_1 := zc BK352.out 1 (.int .i64 a1_1) rfl; have hcz24_2 := zc BK352.out 2 (.int .i64 a1_2) rfl; have hcz24_3 := zc BK352.out 3 (.int .i64 a1_3) rfl; have hcz24_4 := zc BK352.out 4 (.int .i64 a1_4) rfl; have hcz24_5 := zc BK352.out 5 (.int .i64 a1_5) rfl; have hcz24_6 := zc BK352.out 6 (.int .i64 a1_6) rfl; have hcz24_7 := zc BK352.out 7 (.int .i64 a1_7) rfl; have hcz24_8 := zc BK352.out 8 (.slice A1_8 l1_8.length c1_8) rfl; have hfz24_0 := zf BK352.out 0; have hfz24_1 := zf BK352.out 1; have hfz24_2 := zf BK352.out 2; have hfz24_3 := zf BK352.out 3; have hfz24_4 := zf BK352.out 4; have hfz24_5 := zf BK352.out 5; have hfz24_6 := zf BK352.out 6; have hfz24_7 := zf BK352.out 7; have hfz24_8 := zf BK352.out 8))
     go_ret
     exact ⟨by first | rfl | (simp [errW_none, errW_some] <;> rfl) | (simp [*, errW_none, errW_some] <;> rfl), by repeat (first | (with_reducible first | exact HB.out | apply zA | apply zD | apply zE | refine zS ?_ GE351.out | refine zS ?_ GE352.out) | exact HB.out)⟩
   ·rw [if_neg c5] at H
    have c5b0 : (a0_2 == a1_2) = false := beq_eq_false_iff_ne.mpr c5
    have c5b1 : (a0_2 != a1_2) = true := bne_iff_ne.mpr c5
    obtain rfl := Option.some.inj H
    go_enter Try.func48, Try.ntmps48
    go_wp2_with (first | ((with_reducible refine gate_dst (N := 2) rfl ?_); refine box_event ?hg (N := 2) ?hd (cs := #[.string a0_0, .int .i64 a0_1, .int .i64 a0_2, .int .i64 a0_3, .int .i64 a0_4, .int .i64 a0_5, .int .i64 a0_6, .int .i64 a0_7, .slice A0_8 l0_8.length c0_8]) (t := 28) ?hr ?_; (case hd => rfl); (case hg => rfl); (case hr => first | (go_simp; done) | (go_simp; rfl)); intro gb351 hg w25 hbox hb; have n0_ := zm (below_step (by repeat (first | (with_reducible first | exact HB.out | apply zA | apply zD | apply zE) | exact HB.out)) hb); have n1_ := zm (hbox); have n2_ := zm ((by rw [hg]; exact (below_size (by repeat (first | (with_reducible first | exact HB.out | apply zA | apply zD | apply zE) | exact HB.out))) : w.heap.size ≤ gb351)); have n3_ := zm ((by rw [hg]; exact (below_size (by repeat (first | (with_reducible first | exact HB.out | apply zA | apply zD | apply zE) | exact HB.out))) : w.heap.size ≤ gb351)); clear HB; have HB := n0_; have BK351 := n1_; have GW351 := n2_; have GE351 := n3_; clear n0_ n1_ n2_ n3_; clear hb hbox hg) | ((with_reducible refine gate_dst (N := 3) rfl ?_); refine box_event ?hg (N := 3) ?hd (cs := #[.string a1_0, .int .i64 a1_1, .int .i64 a1_2, .int .i64 a1_3, .int .i64 a1_4, .int .i64 a1_5, .int .i64 a1_6, .int .i64 a1_7, .slice A1_8 l1_8.length c1_8]) (t := 28) ?hr ?_; (case hd => rfl); (case hg => rfl); (case hr => first | (go_simp; done) | (go_simp; rfl)); intro gb352 hg w26 hbox hb; have n0_ := zm (zb (g := gb351) (o := .cells #[.string a0_0, .int .i64 a0_1, .int .i64 a0_2, .int .i64 a0_3, .int .i64 a0_4, .int .i64 a0_5, .int .i64 a0_6, .int .i64 a0_7, .slice A0_8 l0_8.length c0_8] 28 (0, 0)) (by (with_reducible repeat first | apply zd | apply ze | apply za); exact BK351.out) hb); have n1_ := zm (below_step (by repeat (first | (with_reducible first | exact HB.out | apply zA | apply zD | apply zE | refine zS ?_ GE351.out) | exact HB.out)) hb); have n2_ := zm (hbox); have n3_ := zm ((by rw [hg]; exact (below_size (by repeat (first | (with_reducible first | exact HB.out | apply zA | apply zD | apply zE | refine zS ?_ GE351.out) | exact HB.out))) : w.heap.size ≤ gb352)); have n4_ := zm ((by rw [hg]; exact (below_size (by repeat (first | (with_reducible first | exact HB.out | apply zA | apply zD | apply zE | refine zS ?_ GE351.out) | exact HB.out))) : w.heap.size ≤ gb352)); have n5_ := zm ((by rw [hg]; exact Nat.ne_of_lt (blk_lt (g := gb351) (o := .cells #[.string a0_0, .int .i64 a0_1, .int .i64 a0_2, .int .i64 a0_3, .int .i64 a0_4, .int .i64 a0_5, .int .i64 a0_6, .int .i64 a0_7, .slice A0_8 l0_8.length c0_8] 28 (0, 0)) (by (with_reducible repeat first | apply zd | apply ze | apply za); exact BK351.out)) : gb351 ≠ gb352)); have n6_ := zm ((by rw [hg]; exact Nat.ne_of_gt (blk_lt (g := gb351) (o := .cells #[.string a0_0, .int .i64 a0_1, .int .i64 a0_2, .int .i64 a0_3, .int .i64 a0_4, .int .i64 a0_5, .int .i64 a0_6, .int .i64 a0_7, .slice A0_8 l0_8.length c0_8] 28 (0, 0)) (by (with_reducible repeat first | apply zd | apply ze | apply za); exact BK351.out)) : gb352 ≠ gb351)); clear BK351 HB; have BK351 := n0_; have HB := n1_; have BK352 := n2_; have GW352 := n3_; have GE352 := n4_; have NB351_352 := n5_; have NB352_351 := n6_; clear n0_ n1_ n2_ n3_ n4_ n5_ n6_; clear hb hbox hg; have hnb27 := NB351_352.out; have hnc27 := NB352_351.out; have hcz28_0 := zc BK351.out 0 (.string a0_0) rfl; have hcz28_1 := zc BK351.out 1 (.int .i64 a0_1) rfl; have hcz28_2 := zc BK351.out 2 (.int .i64 a0_2) rfl; have hcz28_3 := zc BK351.out 3 (.int .i64 a0_3) rfl; have hcz28_4 := zc BK351.out 4 (.int .i64 a0_4) rfl; have hcz28_5 := zc BK351.out 5 (.int .i64 a0_5) rfl; have hcz28_6 := zc BK351.out 6 (.int .i64 a0_6) rfl; have hcz28_7 := zc BK351.out 7 (.int .i64 a0_7) rfl; have hcz28_8 := zc BK351.out 8 (.slice A0_8 l0_8.length c0_8) rfl; have hfz28_0 := zf BK351.out 0; have hfz28_1 := zf BK351.out 1; have hfz28_2 := zf BK351.out 2; have hfz28_3 := zf BK351.out 3; have hfz28_4 := zf BK351.out 4; have hfz28_5 := zf BK351.out 5; have hfz28_6 := zf BK351.out 6; have hfz28_7 := zf BK351.out 7; have hfz28_8 := zf BK351.out 8; have hcz29_0 := zc BK352.out 0 (.string a1_0) rfl; have hcz29_1 := zc BK352.out 1 (.int .i64 a1_1) rfl; have hcz29_2 := zc BK352.out 2 (.int .i64 a1_2) rfl; have hcz29_3 := zc BK352.out 3 (.int .i64 a1_3) rfl; have hcz29_4 := zc BK352.out 4 (.int .i64 a1_4) rfl; have hcz29_5 := zc BK352.out 5 (.int .i64 a1_5) rfl; have hcz29_6 := zc BK352.out 6 (.int .i64 a1_6) rfl; have hcz29_7 := zc BK352.out 7 (.int .i64 a1_7) rfl; have hcz29_8 := zc BK352.out 8 (.slice A1_8 l1_8.length c1_8) rfl; have hfz29_0 := zf BK352.out 0; have hfz29_1 := zf BK352.out 1; have hfz29_2 := zf BK352.out 2; have hfz29_3 := zf BK352.out 3; have hfz29_4 := zf BK352.out 4; have hfz29_5 := zf BK352.out 5; have hfz29_6 := zf BK352.out 6; have hfz29_7 := zf BK352.out 7; have hfz29_8 := zf BK352.out 8))
    go_ret
    exact ⟨by first | rfl | (simp [errW_none, errW_some] <;> rfl) | (simp [*, errW_none, errW_some] <;> rfl), by repeat (first | (with_reducible first | exact HB.out | apply zA | apply zD | apply zE | refine zS ?_ GE351.out | refine zS ?_ GE352.out) | exact HB.out)⟩
  ·rw [if_neg c4] at H
   have c4b0 : (a0_1 == a1_1) = false := beq_eq_false_iff_ne.mpr c4
   have c4b1 : (a0_1 != a1_1) = true := bne_iff_ne.mpr c4
   obtain rfl := Option.some.inj H
   go_enter Try.func48, Try.ntmps48
   go_wp2_with (first | ((with_reducible refine gate_dst (N := 2) rfl ?_); refine box_event ?hg (N := 2) ?hd (cs := #[.string a0_0, .int .i64 a0_1, .int .i64 a0_2, .int .i64 a0_3, .int .i64 a0_4, .int .i64 a0_5, .int .i64 a0_6, .int .i64 a0_7, .slice A0_8 l0_8.length c0_8]) (t := 28) ?hr ?_; (case hd => rfl); (case hg => rfl); (case hr => first | (go_simp; done) | (go_simp; rfl)); intro gb351 hg w30 hbox hb; have n0_ := zm (below_step (by repeat (first | (with_reducible first | exact HB.out | apply zA | apply zD | apply zE) | exact HB.out)) hb); have n1_ := zm (hbox); have n2_ := zm ((by rw [hg]; exact (below_size (by repeat (first | (with_reducible first | exact HB.out | apply zA | apply zD | apply zE) | exact HB.out))) : w.heap.size ≤ gb351)); have n3_ := zm ((by rw [hg]; exact (below_size (by repeat (first | (with_reducible first | exact HB.out | apply zA | apply zD | apply zE) | exact HB.out))) : w.heap.size ≤ gb351)); clear HB; have HB := n0_; have BK351 := n1_; have GW351 := n2_; have GE351 := n3_; clear n0_ n1_ n2_ n3_; clear hb hbox hg) | ((with_reducible refine gate_dst (N := 3) rfl ?_); refine box_event ?hg (N := 3) ?hd (cs := #[.string a1_0, .int .i64 a1_1, .int .i64 a1_2, .int .i64 a1_3, .int .i64 a1_4, .int .i64 a1_5, .int .i64 a1_6, .int .i64 a1_7, .slice A1_8 l1_8.length c1_8]) (t := 28) ?hr ?_; (case hd => rfl); (case hg => rfl); (case hr => first | (go_simp; done) | (go_simp; rfl)); intro gb352 hg w31 hbox hb; have n0_ := zm (zb (g := gb351) (o := .cells #[.string a0_0, .int .i64 a0_1, .int .i64 a0_2, .int .i64 a0_3, .int .i64 a0_4, .int .i64 a0_5, .int .i64 a0_6, .int .i64 a0_7, .slice A0_8 l0_8.length c0_8] 28 (0, 0)) (by (with_reducible repeat first | apply zd | apply ze | apply za); exact BK351.out) hb); have n1_ := zm (below_step (by repeat (first | (with_reducible first | exact HB.out | apply zA | apply zD | apply zE | refine zS ?_ GE351.out) | exact HB.out)) hb); have n2_ := zm (hbox); have n3_ := zm ((by rw [hg]; exact (below_size (by repeat (first | (with_reducible first | exact HB.out | apply zA | apply zD | apply zE | refine zS ?_ GE351.out) | exact HB.out))) : w.heap.size ≤ gb352)); have n4_ := zm ((by rw [hg]; exact (below_size (by repeat (first | (with_reducible first | exact HB.out | apply zA | apply zD | apply zE | refine zS ?_ GE351.out) | exact HB.out))) : w.heap.size ≤ gb352)); have n5_ := zm ((by rw [hg]; exact Nat.ne_of_lt (blk_lt (g := gb351) (o := .cells #[.string a0_0, .int .i64 a0_1, .int .i64 a0_2, .int .i64 a0_3, .int .i64 a0_4, .int .i64 a0_5, .int .i64 a0_6, .int .i64 a0_7, .slice A0_8 l0_8.length c0_8] 28 (0, 0)) (by (with_reducible repeat first | apply zd | apply ze | apply za); exact BK351.out)) : gb351 ≠ gb352)); have n6_ := zm ((by rw [hg]; exact Nat.ne_of_gt (blk_lt (g := gb351) (o := .cells #[.string a0_0, .int .i64 a0_1, .int .i64 a0_2, .int .i64 a0_3, .int .i64 a0_4, .int .i64 a0_5, .int .i64 a0_6, .int .i64 a0_7, .slice A0_8 l0_8.length c0_8] 28 (0, 0)) (by (with_reducible repeat first | apply zd | apply ze | apply za); exact BK351.out)) : gb352 ≠ gb351)); clear BK351 HB; have BK351 := n0_; have HB := n1_; have BK352 := n2_; have GW352 := n3_; have GE352 := n4_; have NB351_352 := n5_; have NB352_351 := n6_; clear n0_ n1_ n2_ n3_ n4_ n5_ n6_; clear hb hbox hg; have hnb32 := NB351_352.out; have hnc32 := NB352_351.out; have hcz33_0 := zc BK351.out 0 (.string a0_0) rfl; have hcz33_1 := zc BK351.out 1 (.int .i64 a0_1) rfl; have hcz33_2 := zc BK351.out 2 (.int .i64 a0_2) rfl; have hcz33_3 := zc BK351.out 3 (.int .i64 a0_3) rfl; have hcz33_4 := zc BK351.out 4 (.int .i64 a0_4) rfl; have hcz33_5 := zc BK351.out 5 (.int .i64 a0_5) rfl; have hcz33_6 := zc BK351.out 6 (.int .i64 a0_6) rfl; have hcz33_7 := zc BK351.out 7 (.int .i64 a0_7) rfl; have hcz33_8 := zc BK351.out 8 (.slice A0_8 l0_8.length c0_8) rfl; have hfz33_0 := zf BK351.out 0; have hfz33_1 := zf BK351.out 1; have hfz33_2 := zf BK351.out 2; have hfz33_3 := zf BK351.out 3; have hfz33_4 := zf BK351.out 4; have hfz33_5 := zf BK351.out 5; have hfz33_6 := zf BK351.out 6; have hfz33_7 := zf BK351.out 7; have hfz33_8 := zf BK351.out 8; have hcz34_0 := zc BK352.out 0 (.string a1_0) rfl; have hcz34_1 := zc BK352.out 1 (.int .i64 a1_1) rfl; have hcz34_2 := zc BK352.out 2 (.int .i64 a1_2) rfl; have hcz34_3 := zc BK352.out 3 (.int .i64 a1_3) rfl; have hcz34_4 := zc BK352.out 4 (.int .i64 a1_4) rfl; have hcz34_5 := zc BK352.out 5 (.int .i64 a1_5) rfl; have hcz34_6 := zc BK352.out 6 (.int .i64 a1_6) rfl; have hcz34_7 := zc BK352.out 7 (.int .i64 a1_7) rfl; have hcz34_8 := zc BK352.out 8 (.slice A1_8 l1_8.length c1_8) rfl; have hfz34_0 := zf BK352.out 0; have hfz34_1 := zf BK352.out 1; have hfz34_2 := zf BK352.out 2; have hfz34_3 := zf BK352.out 3; have hfz34_4 := zf BK352.out 4; have hfz34_5 := zf BK352.out 5; have hfz34_6 := zf BK352.out 6; have hfz34_7 := zf BK352.out 7; have hfz34_8 := zf BK352.out 8))
   go_ret
   exact ⟨by first | rfl | (simp [errW_none, errW_some] <;> rfl) | (simp [*, errW_none, errW_some] <;> rfl), by repeat (first | (with_reducible first | exact HB.out | apply zA | apply zD | apply zE | refine zS ?_ GE351.out | refine zS ?_ GE352.out) | exact HB.out)⟩
 ·rw [if_neg c3] at H
  have c3b0 : (a0_0.toList == a1_0.toList) = false := beq_eq_false_iff_ne.mpr c3
  have c3b1 : (a0_0.toList != a1_0.toList) = true := bne_iff_ne.mpr c3
  obtain rfl := Option.some.inj H
  go_enter Try.func48, Try.ntmps48
  go_wp2_with (first | ((with_reducible refine gate_dst (N := 2) rfl ?_); refine box_event ?hg (N := 2) ?hd (cs := #[.string a0_0, .int .i64 a0_1, .int .i64 a0_2, .int .i64 a0_3, .int .i64 a0_4, .int .i64 a0_5, .int .i64 a0_6, .int .i64 a0_7, .slice A0_8 l0_8.length c0_8]) (t := 28) ?hr ?_; (case hd => rfl); (case hg => rfl); (case hr => first | (go_simp; done) | (go_simp; rfl)); intro gb351 hg w35 hbox hb; have n0_ := zm (below_step (by repeat (first | (with_reducible first | exact HB.out | apply zA | apply zD | apply zE) | exact HB.out)) hb); have n1_ := zm (hbox); have n2_ := zm ((by rw [hg]; exact (below_size (by repeat (first | (with_reducible first | exact HB.out | apply zA | apply zD | apply zE) | exact HB.out))) : w.heap.size ≤ gb351)); have n3_ := zm ((by rw [hg]; exact (below_size (by repeat (first | (with_reducible first | exact HB.out | apply zA | apply zD | apply zE) | exact HB.out))) : w.heap.size ≤ gb351)); clear HB; have HB := n0_; have BK351 := n1_; have GW351 := n2_; have GE351 := n3_; clear n0_ n1_ n2_ n3_; clear hb hbox hg) | ((with_reducible refine gate_dst (N := 3) rfl ?_); refine box_event ?hg (N := 3) ?hd (cs := #[.string a1_0, .int .i64 a1_1, .int .i64 a1_2, .int .i64 a1_3, .int .i64 a1_4, .int .i64 a1_5, .int .i64 a1_6, .int .i64 a1_7, .slice A1_8 l1_8.length c1_8]) (t := 28) ?hr ?_; (case hd => rfl); (case hg => rfl); (case hr => first | (go_simp; done) | (go_simp; rfl)); intro gb352 hg w36 hbox hb; have n0_ := zm (zb (g := gb351) (o := .cells #[.string a0_0, .int .i64 a0_1, .int .i64 a0_2, .int .i64 a0_3, .int .i64 a0_4, .int .i64 a0_5, .int .i64 a0_6, .int .i64 a0_7, .slice A0_8 l0_8.length c0_8] 28 (0, 0)) (by (with_reducible repeat first | apply zd | apply ze | apply za); exact BK351.out) hb); have n1_ := zm (below_step (by repeat (first | (with_reducible first | exact HB.out | apply zA | apply zD | apply zE | refine zS ?_ GE351.out) | exact HB.out)) hb); have n2_ := zm (hbox); have n3_ := zm ((by rw [hg]; exact (below_size (by repeat (first | (with_reducible first | exact HB.out | apply zA | apply zD | apply zE | refine zS ?_ GE351.out) | exact HB.out))) : w.heap.size ≤ gb352)); have n4_ := zm ((by rw [hg]; exact (below_size (by repeat (first | (with_reducible first | exact HB.out | apply zA | apply zD | apply zE | refine zS ?_ GE351.out) | exact HB.out))) : w.heap.size ≤ gb352)); have n5_ := zm ((by rw [hg]; exact Nat.ne_of_lt (blk_lt (g := gb351) (o := .cells #[.string a0_0, .int .i64 a0_1, .int .i64 a0_2, .int .i64 a0_3, .int .i64 a0_4, .int .i64 a0_5, .int .i64 a0_6, .int .i64 a0_7, .slice A0_8 l0_8.length c0_8] 28 (0, 0)) (by (with_reducible repeat first | apply zd | apply ze | apply za); exact BK351.out)) : gb351 ≠ gb352)); have n6_ := zm ((by rw [hg]; exact Nat.ne_of_gt (blk_lt (g := gb351) (o := .cells #[.string a0_0, .int .i64 a0_1, .int .i64 a0_2, .int .i64 a0_3, .int .i64 a0_4, .int .i64 a0_5, .int .i64 a0_6, .int .i64 a0_7, .slice A0_8 l0_8.length c0_8] 28 (0, 0)) (by (with_reducible repeat first | apply zd | apply ze | apply za); exact BK351.out)) : gb352 ≠ gb351)); clear BK351 HB; have BK351 := n0_; have HB := n1_; have BK352 := n2_; have GW352 := n3_; have GE352 := n4_; have NB351_352 := n5_; have NB352_351 := n6_; clear n0_ n1_ n2_ n3_ n4_ n5_ n6_; clear hb hbox hg; have hnb37 := NB351_352.out; have hnc37 := NB352_351.out; have hcz38_0 := zc BK351.out 0 (.string a0_0) rfl; have hcz38_1 := zc BK351.out 1 (.int .i64 a0_1) rfl; have hcz38_2 := zc BK351.out 2 (.int .i64 a0_2) rfl; have hcz38_3 := zc BK351.out 3 (.int .i64 a0_3) rfl; have hcz38_4 := zc BK351.out 4 (.int .i64 a0_4) rfl; have hcz38_5 := zc BK351.out 5 (.int .i64 a0_5) rfl; have hcz38_6 := zc BK351.out 6 (.int .i64 a0_6) rfl; have hcz38_7 := zc BK351.out 7 (.int .i64 a0_7) rfl; have hcz38_8 := zc BK351.out 8 (.slice A0_8 l0_8.length c0_8) rfl; have hfz38_0 := zf BK351.out 0; have hfz38_1 := zf BK351.out 1; have hfz38_2 := zf BK351.out 2; have hfz38_3 := zf BK351.out 3; have hfz38_4 := zf BK351.out 4; have hfz38_5 := zf BK351.out 5; have hfz38_6 := zf BK351.out 6; have hfz38_7 := zf BK351.out 7; have hfz38_8 := zf BK351.out 8; have hcz39_0 := zc BK352.out 0 (.string a1_0) rfl; have hcz39_1 := zc BK352.out 1 (.int .i64 a1_1) rfl; have hcz39_2 := zc BK352.out 2 (.int .i64 a1_2) rfl; have hcz39_3 := zc BK352.out 3 (.int .i64 a1_3) rfl; have hcz39_4 := zc BK352.out 4 (.int .i64 a1_4) rfl; have hcz39_5 := zc BK352.out 5 (.int .i64 a1_5) rfl; have hcz39_6 := zc BK352.out 6 (.int .i64 a1_6) rfl; have hcz39_7 := zc BK352.out 7 (.int .i64 a1_7) rfl; have hcz39_8 := zc BK352.out 8 (.slice A1_8 l1_8.length c1_8) rfl; have hfz39_0 := zf BK352.out 0; have hfz39_1 := zf BK352.out 1; have hfz39_2 := zf BK352.out 2; have hfz39_3 := zf BK352.out 3; have hfz39_4 := zf BK352.out 4; have hfz39_5 := zf BK352.out 5; have hfz39_6 := zf BK352.out 6; have hfz39_7 := zf BK352.out 7; have hfz39_8 := zf BK352.out 8))
  go_ret
  exact ⟨by first | rfl | (simp [errW_none, errW_some] <;> rfl) | (simp [*, errW_none, errW_some] <;> rfl), by repeat (first | (with_reducible first | exact HB.out | apply zA | apply zD | apply zE | refine zS ?_ GE351.out | refine zS ?_ GE352.out) | exact HB.out)⟩
end Go.Proofs.Ytkgdlbepjmgaiaa.Fea
namespace Go.Proofs.Ytkgdlbepjmgaiaa.Hand
open Go.RowKit Go.Proofs.YtkgdlbepjmgaiaaW.PrintWords
def letB (c : Int) : Bool := (decide (65 ≤ c) && decide (c ≤ 90)) || (decide (97 ≤ c) && decide (c ≤ 122))
def digB (c : Int) : Bool := decide (48 ≤ c) && decide (c ≤ 57)
theorem letter_calls (c : Int) (w : World) : Calls Try.prog 115 #[.int .u8 c] w fun e w' => e = .returned (.bool (letB c)) ∧ w = w' := by
  by_cases h1 : 65 ≤ c <;> by_cases h2 : c ≤ 90 <;> by_cases h3 : 97 ≤ c <;> by_cases h4 : c ≤ 122
  all_goals try (exfalso; omega)
  all_goals
    have hr : ∀ b, (b = letB c) → Ending.returned (.bool b) = .returned (.bool (letB c)) := fun b h => by rw [h]
    have hl : letB c = ((decide (65 ≤ c) && decide (c ≤ 90)) || (decide (97 ≤ c) && decide (c ≤ 122))) := rfl
    have HL := Aside0.mk hl
    clear hl
    have HR := Aside0.mk hr
    clear hr
    go_enter Try.func115, Try.ntmps115
    go_wp2
    go_ret
    exact ⟨HR.out _ (by rw [HL.out]; simp [h1, h2, h3, h4]), rfl⟩
theorem digit_calls (c : Int) (w : World) : Calls Try.prog 116 #[.int .u8 c] w fun e w' => e = .returned (.bool (digB c)) ∧ w = w' := by
  by_cases h1 : 48 ≤ c <;> by_cases h2 : c ≤ 57
  all_goals
    have hr : ∀ b, (b = digB c) → Ending.returned (.bool b) = .returned (.bool (digB c)) := fun b h => by rw [h]
    have hl : digB c = (decide (48 ≤ c) && decide (c ≤ 57)) := rfl
    have HL := Aside0.mk hl
    clear hl
    have HR := Aside0.mk hr
    clear hr
    go_enter Try.func116, Try.ntmps116
    go_wp2
    go_ret
    exact ⟨HR.out _ (by rw [HL.out]; simp [h1, h2]), rfl⟩
def nmOk (c : Int) : Bool := letB c || digB c
def nmGo (s : ByteArray) : Nat → Bool
  | 0 => true
  | n + 1 => nmGo s n && nmOk (bt s n)
def nmV (s : ByteArray) : Int := if 24 < (s.size : Int) then 17 else if (s.size : Int) = 0 then 3 else if letB (bt s 0) = false then 3 else if nmGo s s.size = true then 0 else 3
theorem nmGo_step (s : ByteArray) (k : Nat) (h : nmGo s k = true) : nmGo s (k + 1) = nmOk (bt s k) := by
  simp [nmGo, h]
theorem nmGo_false (s : ByteArray) (k n : Nat) (hk : nmGo s k = false) (h : k ≤ n) : nmGo s n = false := by
  induction h with
  | refl => exact hk
  | step _ ih => simp [nmGo, ih]
theorem ret_i {a b : Int} (h : a = b) : Ending.returned (.int .i64 a) = .returned (.int .i64 b) := by rw [h]
set_option maxHeartbeats 1000000 in
theorem name_calls (s : ByteArray) (w : World) : Calls Try.prog 80 #[.string s] w fun e w' => e = .returned (.int .i64 (nmV s)) ∧ Below w.heap.size w w' := by
  by_cases h1 : 24 < (s.size : Int)
  · have hv : nmV s = 17 := by unfold nmV; rw [if_pos h1]
    have HV := Aside0.mk hv
    clear hv
    go_enter Try.func80, Try.ntmps80
    go_wp2
    go_ret
    exact ⟨ret_i HV.out.symm, Below.refl _ _⟩
  · by_cases h2 : (s.size : Int) = 0
    · have hv : nmV s = 3 := by unfold nmV; rw [if_neg h1, if_pos h2]
      have HV := Aside0.mk hv
      clear hv
      have hz : s.toList = [] := by
        have : s.data.toList.length = 0 := by rw [data_length]; omega
        rw [ByteArray.toList_eq]
        exact List.eq_nil_of_length_eq_zero this
      have hz1 : (s.toList.isEmpty) = true := by rw [hz]; rfl
      have hz2 : (s.toList == ([] : List UInt8)) = true := by rw [hz]; rfl
      clear hz h2
      go_enter Try.func80, Try.ntmps80
      go_wp2
      go_ret
      exact ⟨ret_i HV.out.symm, Below.refl _ _⟩
    · have hpos : 0 < s.size := by omega
      have hne : (s.toList.isEmpty) = false := by
        rw [List.isEmpty_eq_false_iff]
        intro h
        have : s.data.toList.length = 0 := by rw [← ByteArray.toList_eq, h]; rfl
        rw [data_length] at this; omega
      have hne2 : (s.toList == ([] : List UInt8)) = false := by
        rw [beq_eq_false_iff_ne]; exact List.isEmpty_eq_false_iff.1 hne
      have hb0 : ∀ h : 0 < s.size, ((s[0]'h).toNat : Int) = bt s 0 := fun h => bt_at s 0 h
      by_cases h3 : letB (bt s 0) = false
      · have hv : nmV s = 3 := by unfold nmV; rw [if_neg h1, if_neg h2, if_pos h3]
        have HV := Aside0.mk hv
        clear hv
        go_enter Try.func80, Try.ntmps80
        go_wp2_with (go_at_call 115; refine (letter_calls _ _).mono ?_; rintro e w' ⟨rfl, rfl⟩)
        go_ret
        exact ⟨ret_i HV.out.symm, Below.refl _ _⟩
      · replace h3 : letB (bt s 0) = true := by cases h : letB (bt s 0) <;> simp_all
        have hv : nmV s = if nmGo s s.size = true then 0 else 3 := by unfold nmV; rw [if_neg h1, if_neg h2, if_neg (by rw [h3]; decide)]
        have HV := Aside0.mk hv
        clear hv h2
        have h1' : s.size ≤ 24 := by omega
        have kb := fun W => print_bytes (P := Try.prog) 9 146 5 Try.underlying9 Try.underlying146 Try.underlying5 s W
        have HB : Below w.heap.size w (Lib.bytesWorld w 5 s) := bytes_below (Below.refl _ _) (Nat.le_refl _) 5 s
        have HC : Aside0 (∀ k : Nat, k < s.size → (Lib.bytesWorld w 5 s).cell? ⟨w.heap.size, k, none⟩ = some (.int .u8 (bt s k))) := ⟨fun k hk => by
          rw [Lib.bytesWorld_cell w 5 s k hk]
          have h' : k < s.data.toList.length := by rw [data_length]; exact hk
          rw [← bt_at s k (by simpa using hk)]
          simp [List.getD_eq_getElem?_getD, List.getElem?_eq_getElem h']
          rfl⟩
        go_enter Try.func80, Try.ntmps80
        go_wp2_with (go_at_call 115; refine (letter_calls _ _).mono ?_; rintro e w' ⟨rfl, rfl⟩)
        have HBB := Aside0.mk HB
        clear HB kb h3 hb0 hne hne2
        generalize Lib.bytesWorld w 5 s = W at *
        go_loop [4, 19] (fun _ i => ∃ k : Nat, k ≤ s.size ∧ i = .int .i64 k ∧ Aside0 (nmGo s k = true)) (fun _ i => s.size - (intOf i).toNat)
        case atStart => exact ⟨0, Nat.zero_le _, rfl, ⟨rfl⟩⟩
        case round =>
          obtain ⟨k, hk, rfl, hg⟩ := hrel
          by_cases hlt : k < s.size
          · have hc := HC.out k hlt
            cases hL : letB (bt s k)
            · cases hD : digB (bt s k)
              · have hf : nmGo s s.size = false := nmGo_false s (k + 1) s.size (by rw [nmGo_step s k hg.out]; simp [nmOk, hL, hD]) hlt
                have HF := Aside0.mk hf
                clear hf
                go_wp2_with (first | (go_at_call 115; refine (letter_calls _ _).mono ?_; rintro e w' ⟨rfl, rfl⟩) | (go_at_call 116; refine (digit_calls _ _).mono ?_; rintro e w' ⟨rfl, rfl⟩))
                go_ret
                exact ⟨ret_i (by rw [HV.out, HF.out]; rfl), HBB.out⟩
              · have hf : nmGo s (k + 1) = true := by rw [nmGo_step s k hg.out]; simp [nmOk, hD]
                have HF := Aside0.mk hf
                clear hf
                go_wp2_with (first | (go_at_call 115; refine (letter_calls _ _).mono ?_; rintro e w' ⟨rfl, rfl⟩) | (go_at_call 116; refine (digit_calls _ _).mono ?_; rintro e w' ⟨rfl, rfl⟩))
                go_round
                case rel => exact ⟨k + 1, hlt, by go_num, HF⟩
                case measure => simp [intOf]; omega
            · have hf : nmGo s (k + 1) = true := by rw [nmGo_step s k hg.out]; simp [nmOk, hL]
              have HF := Aside0.mk hf
              clear hf
              go_wp2_with (first | (go_at_call 115; refine (letter_calls _ _).mono ?_; rintro e w' ⟨rfl, rfl⟩) | (go_at_call 116; refine (digit_calls _ _).mono ?_; rintro e w' ⟨rfl, rfl⟩))
              go_round
              case rel => exact ⟨k + 1, hlt, by go_num, HF⟩
              case measure => simp [intOf]; omega
          · obtain rfl : k = s.size := by omega
            go_wp2
            go_ret
            exact ⟨ret_i (by rw [HV.out, hg.out]; rfl), HBB.out⟩
end Go.Proofs.Ytkgdlbepjmgaiaa.Hand
namespace Go.Proofs.Ytkgdlbepjmgaiaa.Fea
open Go.RowKit Go.Proofs.YtkgdlbepjmgaiaaW.PrintWords Go.Proofs.YtkgdlbepjmgaiaaW.PrintLast Go.Proofs.YtkgdlbepjmgaiaaW.PrintMore
attribute [local go_sem] max2_int min2_int max_two min_two max_three min_three max_four min_four
set_option linter.unusedVariables false
set_option linter.unusedSimpArgs false
def dimension_Name.f (a0 : ByteArray) : Option Int := some (Hand.nmV a0)
theorem dimension_Name.calls (a0 : ByteArray) (r : Int) (w : World) (h : dimension_Name.f a0 = some r) :
    Calls Try.prog 80 #[.string a0] w fun e w' => e = .returned (.int .i64 r) ∧ Below w.heap.size w w' := by
  obtain rfl := Option.some.inj h
  exact Hand.name_calls a0 w
end Go.Proofs.Ytkgdlbepjmgaiaa.Fea
namespace Go.Proofs.Ytkgdlbepjmgaiaa.Fea
open Go.RowKit Go.Proofs.YtkgdlbepjmgaiaaW.PrintWords Go.Proofs.YtkgdlbepjmgaiaaW.PrintLast Go.Proofs.YtkgdlbepjmgaiaaW.PrintMore
attribute [local go_sem] max2_int min2_int max_two min_two max_three min_three max_four min_four
set_option linter.unusedVariables false
set_option linter.unusedSimpArgs false
def feature_in.f (a0 : Int) : Option (Bool) := if a0 ≥ (-100000) then (some (decide (a0 ≤ 100000))) else (some false)
set_option maxHeartbeats 8000000 in
set_option maxRecDepth 100000 in
theorem feature_in.calls (a0 : Int) (r : Bool) (w : World) (h : feature_in.f a0 = some r) :
    Calls Try.prog 71 #[.int .i64 a0] w fun e w' => e = .returned (.bool r) ∧ Drawn0 w w' := by
  have H : (if a0 ≥ (-100000) then (some (decide (a0 ≤ 100000))) else (some false)) = some r := h
  clear h
  by_cases c2 : a0 ≥ (-100000)
  · rw [if_pos c2] at H
    have c2b0 : decide ((-100000) ≤ a0) = true := decide_eq_true c2
    clear c2
    obtain rfl := Option.some.inj H
    go_enter Try.func71, Try.ntmps71
    go_wp2
    go_ret
    exact ⟨by first | rfl | (simp; done) | (simp [*]; done), by repeat (first | exact Drawn0.refl _ | apply Drawn0.step)⟩
  · rw [if_neg c2] at H
    have c2b0 : decide ((-100000) ≤ a0) = false := decide_eq_false c2
    clear c2
    obtain rfl := Option.some.inj H
    go_enter Try.func71, Try.ntmps71
    go_wp2
    go_ret
    exact ⟨by first | rfl | (simp; done) | (simp [*]; done), by repeat (first | exact Drawn0.refl _ | apply Drawn0.step)⟩
end Go.Proofs.Ytkgdlbepjmgaiaa.Fea
namespace Go.Proofs.Ytkgdlbepjmgaiaa.Fea
open Go.RowKit Go.Proofs.YtkgdlbepjmgaiaaW.PrintWords Go.Proofs.YtkgdlbepjmgaiaaW.PrintLast Go.Proofs.YtkgdlbepjmgaiaaW.PrintMore
attribute [local go_sem] max2_int min2_int max_two min_two max_three min_three max_four min_four
set_option linter.unusedVariables false
set_option linter.unusedSimpArgs false
def feature_ranged.f (a0_0 : Int) (a0_1 : Int) (a0_2 : Int) : Option (Bool) := (feature_in.f a0_0).bind fun t107 => (if t107 = true then ((feature_in.f a0_1).bind fun t108 => (if t108 = true then ((feature_in.f a0_2).bind fun t109 => (some t109)) else (some false))) else (some false))
set_option maxHeartbeats 8000000 in
set_option maxRecDepth 100000 in
theorem feature_ranged.calls (a0_0 : Int) (a0_1 : Int) (a0_2 : Int) (r : Bool) (w : World) (h : feature_ranged.f a0_0 a0_1 a0_2 = some r) :
 Calls Try.prog 81 #[.agg #[.int .i64 a0_0, .int .i64 a0_1, .int .i64 a0_2]] w fun e w' => e = .returned (.bool r) ∧ Below w.heap.size w w' := by
 have hu23 := Try.underlying23
 have HB := zm (Below.refl w.heap.size w)
 have H : ((feature_in.f a0_0).bind fun t107 => (if t107 = true then ((feature_in.f a0_1).bind fun t108 => (if t108 = true then ((feature_in.f a0_2).bind fun t109 => (some t109)) else (some false))) else (some false))) = some r := h
 clear h
 replace H := Option.bind_eq_some_iff.mp H
 obtain ⟨t107, A20, H⟩ := H
 replace H : (if t107 = true then ((feature_in.f a0_1).bind fun t108 => (if t108 = true then ((feature_in.f a0_2).bind fun t109 => (some t109)) else (some false))) else (some false)) = some r := H
 have A2 := zm A20
 clear A20
 by_cases c3 : t107 = true
 ·subst c3
  have H1 : ((feature_in.f a0_1).bind fun t108 => (if t108 = true then ((feature_in.f a0_2).bind fun t109 => (some t109)) else (some false))) = some r := by rw [if_pos rfl] at H; exact H
  clear H
  have H := H1
  clear H1
  replace H := Option.bind_eq_some_iff.mp H
  obtain ⟨t108, A40, H⟩ := H
  replace H : (if t108 = true then ((feature_in.f a0_2).bind fun t109 => (some t109)) else (some false)) = some r := H
  have A4 := zm A40
  clear A40
  by_cases c5 : t108 = true
  ·subst c5
   have H1 : ((feature_in.f a0_2).bind fun t109 => (some t109)) = some r := by rw [if_pos rfl] at H; exact H
   clear H
   have H := H1
   clear H1
   replace H := Option.bind_eq_some_iff.mp H
   obtain ⟨t109, A60, H⟩ := H
   replace H : (some t109) = some r := H
   have A6 := zm A60
   clear A60
   obtain rfl := Option.some.inj H
   go_enter Try.func81, Try.ntmps81
   go_wp2_with (first | ((with_reducible refine gate_dst (N := 1) rfl ?_); refine box_event ?hg (N := 1) ?hd (cs := #[.int .i64 a0_0, .int .i64 a0_1, .int .i64 a0_2]) (t := 23) ?hr ?_; (case hd => rfl); (case hg => rfl); (case hr => first | (go_simp; done) | (go_simp; rfl)); intro gb106 hg w7 hbox hb; have n0_ := zm (below_step (by repeat (first | (with_reducible first | exact HB.out | apply zA | apply zD | apply zE) | exact HB.out)) hb); have n1_ := zm (hbox); have n2_ := zm ((by rw [hg]; exact (below_size (by repeat (first | (with_reducible first | exact HB.out | apply zA | apply zD | apply zE) | exact HB.out))) : w.heap.size ≤ gb106)); have n3_ := zm ((by rw [hg]; exact (below_size (by repeat (first | (with_reducible first | exact HB.out | apply zA | apply zD | apply zE) | exact HB.out))) : w.heap.size ≤ gb106)); clear HB; have HB := n0_; have BK106 := n1_; have GW106 := n2_; have GE106 := n3_; clear n0_ n1_ n2_ n3_; clear hb hbox hg; have hcz8_0 := zc BK106.out 0 (.int .i64 a0_0) rfl; have hcz8_1 := zc BK106.out 1 (.int .i64 a0_1) rfl; have hcz8_2 := zc BK106.out 2 (.int .i64 a0_2) rfl; have hfz8_0 := zf BK106.out 0; have hfz8_1 := zf BK106.out 1; have hfz8_2 := zf BK106.out 2) | ((with_reducible refine gate_callee (f := 71) rfl ?_); refine goesL_ (some 5) rfl rfl Try.func71 (by kernel_rfl) rfl #[.int .i64 a0_0] rfl (by (try simp only [List.map_toArray, List.map_cons, List.map_nil]); first | done | rfl | (simp only [List.length_drop, List.length_take]; rfl)) ?_; (with_reducible refine (feature_in.calls a0_0 true _ A2.out).mono ?_); rintro e w' ⟨rfl, ⟨nd, rfl⟩⟩; refine ⟨_, rfl, ?_⟩) | (go_at_call 71; (with_reducible refine (feature_in.calls a0_1 true _ A4.out).mono ?_); rintro e w' ⟨rfl, ⟨nd, rfl⟩⟩) | (go_at_call 71; (with_reducible refine (feature_in.calls a0_2 t109 _ A6.out).mono ?_); rintro e w' ⟨rfl, ⟨nd, rfl⟩⟩))
   go_ret
   exact ⟨by first | rfl | (simp [errW_none, errW_some] <;> rfl) | (simp [*, errW_none, errW_some] <;> rfl), by repeat (first | (with_reducible first | exact HB.out | apply zA | apply zD | apply zE | refine zS ?_ GE106.out) | exact HB.out)⟩
  ·replace c5 := Bool.eq_false_iff.mpr c5
   subst c5
   have H1 : (some false) = some r := by rw [if_neg (show ¬ (false = true) by decide)] at H; exact H
   clear H
   have H := H1
   clear H1
   obtain rfl := Option.some.inj H
   go_enter Try.func81, Try.ntmps81
   go_wp2_with (first | ((with_reducible refine gate_dst (N := 1) rfl ?_); refine box_event ?hg (N := 1) ?hd (cs := #[.int .i64 a0_0, .int .i64 a0_1, .int .i64 a0_2]) (t := 23) ?hr ?_; (case hd => rfl); (case hg => rfl); (case hr => first | (go_simp; done) | (go_simp; rfl)); intro gb106 hg w9 hbox hb; have n0_ := zm (below_step (by repeat (first | (with_reducible first | exact HB.out | apply zA | apply zD | apply zE) | exact HB.out)) hb); have n1_ := zm (hbox); have n2_ := zm ((by rw [hg]; exact (below_size (by repeat (first | (with_reducible first | exact HB.out | apply zA | apply zD | apply zE) | exact HB.out))) : w.heap.size ≤ gb106)); have n3_ := zm ((by rw [hg]; exact (below_size (by repeat (first | (with_reducible first | exact HB.out | apply zA | apply zD | apply zE) | exact HB.out))) : w.heap.size ≤ gb106)); clear HB; have HB := n0_; have BK106 := n1_; have GW106 := n2_; have GE106 := n3_; clear n0_ n1_ n2_ n3_; clear hb hbox hg; have hcz10_0 := zc BK106.out 0 (.int .i64 a0_0) rfl; have hcz10_1 := zc BK106.out 1 (.int .i64 a0_1) rfl; have hcz10_2 := zc BK106.out 2 (.int .i64 a0_2) rfl; have hfz10_0 := zf BK106.out 0; have hfz10_1 := zf BK106.out 1; have hfz10_2 := zf BK106.out 2) | ((with_reducible refine gate_callee (f := 71) rfl ?_); refine goesL_ (some 5) rfl rfl Try.func71 (by kernel_rfl) rfl #[.int .i64 a0_0] rfl (by (try simp only [List.map_toArray, List.map_cons, List.map_nil]); first | done | rfl | (simp only [List.length_drop, List.length_take]; rfl)) ?_; (with_reducible refine (feature_in.calls a0_0 true _ A2.out).mono ?_); rintro e w' ⟨rfl, ⟨nd, rfl⟩⟩; refine ⟨_, rfl, ?_⟩) | (go_at_call 71; (with_reducible refine (feature_in.calls a0_1 false _ A4.out).mono ?_); rintro e w' ⟨rfl, ⟨nd, rfl⟩⟩))
   go_ret
   exact ⟨by first | rfl | (simp [errW_none, errW_some] <;> rfl) | (simp [*, errW_none, errW_some] <;> rfl), by repeat (first | (with_reducible first | exact HB.out | apply zA | apply zD | apply zE | refine zS ?_ GE106.out) | exact HB.out)⟩
 ·replace c3 := Bool.eq_false_iff.mpr c3
  subst c3
  have H1 : (some false) = some r := by rw [if_neg (show ¬ (false = true) by decide)] at H; exact H
  clear H
  have H := H1
  clear H1
  obtain rfl := Option.some.inj H
  go_enter Try.func81, Try.ntmps81
  go_wp2_with (first | ((with_reducible refine gate_dst (N := 1) rfl ?_); refine box_event ?hg (N := 1) ?hd (cs := #[.int .i64 a0_0, .int .i64 a0_1, .int .i64 a0_2]) (t := 23) ?hr ?_; (case hd => rfl); (case hg => rfl); (case hr => first | (go_simp; done) | (go_simp; rfl)); intro gb106 hg w11 hbox hb; have n0_ := zm (below_step (by repeat (first | (with_reducible first | exact HB.out | apply zA | apply zD | apply zE) | exact HB.out)) hb); have n1_ := zm (hbox); have n2_ := zm ((by rw [hg]; exact (below_size (by repeat (first | (with_reducible first | exact HB.out | apply zA | apply zD | apply zE) | exact HB.out))) : w.heap.size ≤ gb106)); have n3_ := zm ((by rw [hg]; exact (below_size (by repeat (first | (with_reducible first | exact HB.out | apply zA | apply zD | apply zE) | exact HB.out))) : w.heap.size ≤ gb106)); clear HB; have HB := n0_; have BK106 := n1_; have GW106 := n2_; have GE106 := n3_; clear n0_ n1_ n2_ n3_; clear hb hbox hg; have hcz12_0 := zc BK106.out 0 (.int .i64 a0_0) rfl; have hcz12_1 := zc BK106.out 1 (.int .i64 a0_1) rfl; have hcz12_2 := zc BK106.out 2 (.int .i64 a0_2) rfl; have hfz12_0 := zf BK106.out 0; have hfz12_1 := zf BK106.out 1; have hfz12_2 := zf BK106.out 2) | ((with_reducible refine gate_callee (f := 71) rfl ?_); refine goesL_ (some 5) rfl rfl Try.func71 (by kernel_rfl) rfl #[.int .i64 a0_0] rfl (by (try simp only [List.map_toArray, List.map_cons, List.map_nil]); first | done | rfl | (simp only [List.length_drop, List.length_take]; rfl)) ?_; (with_reducible refine (feature_in.calls a0_0 false _ A2.out).mono ?_); rintro e w' ⟨rfl, ⟨nd, rfl⟩⟩; refine ⟨_, rfl, ?_⟩))
  go_ret
  exact ⟨by first | rfl | (simp [errW_none, errW_some] <;> rfl) | (simp [*, errW_none, errW_some] <;> rfl), by repeat (first | (with_reducible first | exact HB.out | apply zA | apply zD | apply zE | refine zS ?_ GE106.out) | exact HB.out)⟩
end Go.Proofs.Ytkgdlbepjmgaiaa.Fea
namespace Go.Proofs.Ytkgdlbepjmgaiaa.Fea
open Go.RowKit Go.Proofs.YtkgdlbepjmgaiaaW.PrintWords Go.Proofs.YtkgdlbepjmgaiaaW.PrintLast Go.Proofs.YtkgdlbepjmgaiaaW.PrintMore
attribute [local go_sem] max2_int min2_int max_two min_two max_three min_three max_four min_four
set_option linter.unusedVariables false
set_option linter.unusedSimpArgs false
def dimension_ranged.f (a0 : Int) : Option (Bool) := if a0 ≥ (-100000) then (some (decide (a0 ≤ 100000))) else (some false)
set_option maxHeartbeats 8000000 in
set_option maxRecDepth 100000 in
theorem dimension_ranged.calls (a0 : Int) (r : Bool) (w : World) (h : dimension_ranged.f a0 = some r) :
    Calls Try.prog 117 #[.int .i64 a0] w fun e w' => e = .returned (.bool r) ∧ Drawn0 w w' := by
  have H : (if a0 ≥ (-100000) then (some (decide (a0 ≤ 100000))) else (some false)) = some r := h
  clear h
  by_cases c2 : a0 ≥ (-100000)
  · rw [if_pos c2] at H
    have c2b0 : decide ((-100000) ≤ a0) = true := decide_eq_true c2
    clear c2
    obtain rfl := Option.some.inj H
    go_enter Try.func117, Try.ntmps117
    go_wp2
    go_ret
    exact ⟨by first | rfl | (simp; done) | (simp [*]; done), by repeat (first | exact Drawn0.refl _ | apply Drawn0.step)⟩
  · rw [if_neg c2] at H
    have c2b0 : decide ((-100000) ≤ a0) = false := decide_eq_false c2
    clear c2
    obtain rfl := Option.some.inj H
    go_enter Try.func117, Try.ntmps117
    go_wp2
    go_ret
    exact ⟨by first | rfl | (simp; done) | (simp [*]; done), by repeat (first | exact Drawn0.refl _ | apply Drawn0.step)⟩
end Go.Proofs.Ytkgdlbepjmgaiaa.Fea
namespace Go.Proofs.Ytkgdlbepjmgaiaa.Fea
open Go.RowKit Go.Proofs.YtkgdlbepjmgaiaaW.PrintWords Go.Proofs.YtkgdlbepjmgaiaaW.PrintLast Go.Proofs.YtkgdlbepjmgaiaaW.PrintMore
attribute [local go_sem] max2_int min2_int max_two min_two max_three min_three max_four min_four
set_option linter.unusedVariables false
set_option linter.unusedSimpArgs false
def dimension_Check.j0 : Nat → Bool → Int → Int → Option (Int)
  | 0, _, _, _ => none
  | k + 1, x3, x111000, x111001 => if x3 = true then (some 2) else (if x111000 > x111001 then (some 9) else (some 0))
def dimension_Check.f (k : Nat) (a0_0 : Int) (a0_1 : Int) : Option (Int) := (dimension_ranged.f a0_0).bind fun t111 => (if t111 = true then ((dimension_ranged.f a0_1).bind fun t112 => (dimension_Check.j0 k (!t112) a0_0 a0_1)) else (dimension_Check.j0 k true a0_0 a0_1))
theorem dimension_Check.mono_l : ∀ k, (∀ y0 y1 y2, LeO (dimension_Check.j0 k y0 y1 y2) (dimension_Check.j0 (k + 1) y0 y1 y2))
 | 0 => fun _ _ _ r h => by simp [dimension_Check.j0] at h
 | k + 1 => by
  have ih0 := dimension_Check.mono_l k
  ·intro y0 y1 y2
   unfold dimension_Check.j0
   repeat' first
   | (with_reducible exact ih0 _ _ _)
   | (with_reducible exact LeO.refl _)
   | (with_reducible exact LeO.none _)
   | (with_reducible refine LeO.ite ?_ ?_)
   | (with_reducible refine LeO.bind ?_ (fun _ => ?_))
   | exact ih0 _ _ _
   | exact LeO.none _
   | refine LeO.ite ?_ ?_
   | refine LeO.bind ?_ (fun _ => ?_)
theorem dimension_Check.mono : ∀ a0 a1 k, LeO (dimension_Check.f k a0 a1) (dimension_Check.f (k + 1) a0 a1) := by
 intro a0 a1 k
 have ih0 := dimension_Check.mono_l k
 unfold dimension_Check.f
 repeat' first
  | (with_reducible exact ih0 _ _ _)
  | (with_reducible exact LeO.refl _)
  | (with_reducible exact LeO.none _)
  | (with_reducible refine LeO.ite ?_ ?_)
  | (with_reducible refine LeO.bind ?_ (fun _ => ?_))
  | exact ih0 _ _ _
  | exact LeO.none _
  | refine LeO.ite ?_ ?_
  | refine LeO.bind ?_ (fun _ => ?_)
set_option maxHeartbeats 8000000 in
set_option maxRecDepth 100000 in
theorem dimension_Check.calls (k : Nat) (a0_0 : Int) (a0_1 : Int) (r : Int) (w : World) (h : dimension_Check.f k a0_0 a0_1 = some r) :
 Calls Try.prog 82 #[.agg #[.int .i64 a0_0, .int .i64 a0_1]] w fun e w' => e = .returned (.int .i64 r) ∧ Below w.heap.size w w' := by
 have hu25 := Try.underlying25
 have HB := zm (Below.refl w.heap.size w)
 have H : ((dimension_ranged.f a0_0).bind fun t111 => (if t111 = true then ((dimension_ranged.f a0_1).bind fun t112 => (dimension_Check.j0 k (!t112) a0_0 a0_1)) else (dimension_Check.j0 k true a0_0 a0_1))) = some r := h
 clear h
 have HC2 := zm H
 clear H
 go_enter Try.func82, Try.ntmps82
 go_upto_region 1 with (first | ((with_reducible refine gate_dst (N := 1) rfl ?_); refine box_event ?hg (N := 1) ?hd (cs := #[.int .i64 a0_0, .int .i64 a0_1]) (t := 25) ?hr ?_; (case hd => rfl); (case hg => rfl); (case hr => first | (go_simp; done) | (go_simp; rfl)); intro gb110 hg w3 hbox hb; have n0_ := zm (below_step (by repeat (first | (with_reducible first | exact HB.out | apply zA | apply zD | apply zE) | exact HB.out)) hb); have n1_ := zm (hbox); have n2_ := zm ((by rw [hg]; exact (below_size (by repeat (first | (with_reducible first | exact HB.out | apply zA | apply zD | apply zE) | exact HB.out))) : w.heap.size ≤ gb110)); have n3_ := zm ((by rw [hg]; exact (below_size (by repeat (first | (with_reducible first | exact HB.out | apply zA | apply zD | apply zE) | exact HB.out))) : w.heap.size ≤ gb110)); clear HB; have HB := n0_; have BK110 := n1_; have GW110 := n2_; have GE110 := n3_; clear n0_ n1_ n2_ n3_; clear hb hbox hg))
 (try simp only [Act.put, zx, zy, zz])
 go_cut [3] (fun v3 wc => ∃ (kq : Nat) (x3_1 : Bool), v3 = .bool x3_1 ∧ Aside0 (dimension_Check.j0 kq x3_1 a0_0 a0_1 = some r) ∧ Aside0 (kq ≤ k) ∧ Aside0 (wc.heap[gb110]? = some (.cells #[.int .i64 a0_0, .int .i64 a0_1] 25 (0, 0))) ∧ Aside0 (Below w.heap.size w wc))
 case first =>
  have H := HC2.out
  clear HC2
  replace H := Option.bind_eq_some_iff.mp H
  obtain ⟨t111, A40, H⟩ := H
  replace H : (if t111 = true then ((dimension_ranged.f a0_1).bind fun t112 => (dimension_Check.j0 k (!t112) a0_0 a0_1)) else (dimension_Check.j0 k true a0_0 a0_1)) = some r := H
  have A4 := zm A40
  clear A40
  by_cases c5 : t111 = true
  ·subst c5
   have H1 : ((dimension_ranged.f a0_1).bind fun t112 => (dimension_Check.j0 k (!t112) a0_0 a0_1)) = some r := by rw [if_pos rfl] at H; exact H
   clear H
   have H := H1
   clear H1
   replace H := Option.bind_eq_some_iff.mp H
   obtain ⟨t112, A60, H⟩ := H
   replace H : (dimension_Check.j0 k (!t112) a0_0 a0_1) = some r := H
   have A6 := zm A60
   clear A60
   have H' := zm H
   clear H
   have hcz7_0 := zc BK110.out 0 (.int .i64 a0_0) rfl
   have hcz7_1 := zc BK110.out 1 (.int .i64 a0_1) rfl
   have hfz7_0 := zf BK110.out 0
   have hfz7_1 := zf BK110.out 1
   go_wp2_with (first | ((with_reducible refine gate_callee (f := 117) rfl ?_); refine goesL_ (some 6) rfl rfl Try.func117 (by kernel_rfl) rfl #[.int .i64 a0_0] rfl (by (try simp only [List.map_toArray, List.map_cons, List.map_nil]); first | done | rfl | (simp only [List.length_drop, List.length_take]; rfl)) ?_; (with_reducible refine (dimension_ranged.calls a0_0 true _ A4.out).mono ?_); rintro e w' ⟨rfl, ⟨nd, rfl⟩⟩; refine ⟨_, rfl, ?_⟩) | (go_at_call 117; (with_reducible refine (dimension_ranged.calls a0_1 t112 _ A6.out).mono ?_); rintro e w' ⟨rfl, ⟨nd, rfl⟩⟩))
   go_meet
   case rel => exact ⟨_, (!t112), (by first | rfl | (simp; done) | (simp [*]; done)), H', ⟨by first | omega | exact Nat.le_refl _⟩, ⟨by (with_reducible repeat first | apply zd | apply ze | apply za); exact BK110.out⟩, ⟨by repeat (first | (with_reducible first | exact HB.out | apply zA | apply zD | apply zE | refine zS ?_ GE110.out) | exact HB.out)⟩⟩
  ·replace c5 := Bool.eq_false_iff.mpr c5
   subst c5
   have H1 : (dimension_Check.j0 k true a0_0 a0_1) = some r := by rw [if_neg (show ¬ (false = true) by decide)] at H; exact H
   clear H
   have H := H1
   clear H1
   have H' := zm H
   clear H
   have hcz8_0 := zc BK110.out 0 (.int .i64 a0_0) rfl
   have hcz8_1 := zc BK110.out 1 (.int .i64 a0_1) rfl
   have hfz8_0 := zf BK110.out 0
   have hfz8_1 := zf BK110.out 1
   go_wp2_with (first | ((with_reducible refine gate_callee (f := 117) rfl ?_); refine goesL_ (some 6) rfl rfl Try.func117 (by kernel_rfl) rfl #[.int .i64 a0_0] rfl (by (try simp only [List.map_toArray, List.map_cons, List.map_nil]); first | done | rfl | (simp only [List.length_drop, List.length_take]; rfl)) ?_; (with_reducible refine (dimension_ranged.calls a0_0 false _ A4.out).mono ?_); rintro e w' ⟨rfl, ⟨nd, rfl⟩⟩; refine ⟨_, rfl, ?_⟩))
   go_meet
   case rel => exact ⟨_, (true), (by first | rfl | (simp; done) | (simp [*]; done)), H', ⟨by first | omega | exact Nat.le_refl _⟩, ⟨by (with_reducible repeat first | apply zd | apply ze | apply za); exact BK110.out⟩, ⟨by repeat (first | (with_reducible first | exact HB.out | apply zA | apply zD | apply zE | refine zS ?_ GE110.out) | exact HB.out)⟩⟩
 case rest =>
  clear HC2
  try clear c1
  try clear p2
  try clear c5
  try clear c8
  try clear hcz7_0
  try clear hcz7_1
  try clear hcz8_0
  try clear hcz8_1
  try clear hfz7_0
  try clear hfz7_1
  try clear hfz8_0
  try clear hfz8_1
  obtain ⟨kq, x3_1, rfl, HA, HJ1, BK110, HB⟩ := hcut
  cases kq with
  | zero => exact absurd HA.out (by simp [dimension_Check.j0])
  | succ kj1 =>
   have H := HA.out
   clear HA
   simp only [dimension_Check.j0] at H
   by_cases c9 : x3_1 = true
   ·subst c9
    have H1 : (some 2) = some r := by rw [if_pos rfl] at H; exact H
    clear H
    have H := H1
    clear H1
    obtain rfl := Option.some.inj H
    go_wp2
    go_ret
    exact ⟨by first | rfl | (simp [errW_none, errW_some] <;> rfl) | (simp [*, errW_none, errW_some] <;> rfl), by repeat (first | (with_reducible first | exact HB.out | apply zA | apply zD | apply zE | refine zS ?_ GE110.out) | exact HB.out)⟩
   ·replace c9 := Bool.eq_false_iff.mpr c9
    subst c9
    have H1 : (if a0_0 > a0_1 then (some 9) else (some 0)) = some r := by rw [if_neg (show ¬ (false = true) by decide)] at H; exact H
    clear H
    have H := H1
    clear H1
    by_cases c10 : a0_0 > a0_1
    ·rw [if_pos c10] at H
     have c10b0 : decide (a0_1 < a0_0) = true := decide_eq_true c10
     clear c10
     obtain rfl := Option.some.inj H
     have hcz11_0 := zc BK110.out 0 (.int .i64 a0_0) rfl
     have hcz11_1 := zc BK110.out 1 (.int .i64 a0_1) rfl
     have hfz11_0 := zf BK110.out 0
     have hfz11_1 := zf BK110.out 1
     go_wp2
     go_ret
     exact ⟨by first | rfl | (simp [errW_none, errW_some] <;> rfl) | (simp [*, errW_none, errW_some] <;> rfl), by repeat (first | (with_reducible first | exact HB.out | apply zA | apply zD | apply zE | refine zS ?_ GE110.out) | exact HB.out)⟩
    ·rw [if_neg c10] at H
     have c10b0 : decide (a0_1 < a0_0) = false := decide_eq_false c10
     clear c10
     obtain rfl := Option.some.inj H
     have hcz12_0 := zc BK110.out 0 (.int .i64 a0_0) rfl
     have hcz12_1 := zc BK110.out 1 (.int .i64 a0_1) rfl
     have hfz12_0 := zf BK110.out 0
     have hfz12_1 := zf BK110.out 1
     go_wp2
     go_ret
     exact ⟨by first | rfl | (simp [errW_none, errW_some] <;> rfl) | (simp [*, errW_none, errW_some] <;> rfl), by repeat (first | (with_reducible first | exact HB.out | apply zA | apply zD | apply zE | refine zS ?_ GE110.out) | exact HB.out)⟩
end Go.Proofs.Ytkgdlbepjmgaiaa.Fea
namespace Go.Proofs.Ytkgdlbepjmgaiaa.Fea
open Go.RowKit Go.Proofs.YtkgdlbepjmgaiaaW.PrintWords Go.Proofs.YtkgdlbepjmgaiaaW.PrintLast Go.Proofs.YtkgdlbepjmgaiaaW.PrintMore
attribute [local go_sem] max2_int min2_int max_two min_two max_three min_three max_four min_four
set_option linter.unusedVariables false
set_option linter.unusedSimpArgs false
attribute [local go_sem high] eqA25
mutual
def feature_Check.j0 : Nat → Bool → ByteArray → Int → Int → Int → Int → Int → Int → Int → List (S104) → Option (Int)
  | 0, _, _, _, _, _, _, _, _, _, _ => none
  | k + 1, x11, x114000, x114001, x114002, x114003, x114004, x114005, x114006, x114007, x114008 => if x11 = true then (some 1) else (if x114001 = 4 then (feature_Check.j1 k (x114002 != 0) x114000 x114001 x114002 x114003 x114004 x114005 x114006 x114007 x114008) else (feature_Check.j1 k false x114000 x114001 x114002 x114003 x114004 x114005 x114006 x114007 x114008))
def feature_Check.j1 : Nat → Bool → ByteArray → Int → Int → Int → Int → Int → Int → Int → List (S104) → Option (Int)
  | 0, _, _, _, _, _, _, _, _, _, _ => none
  | k + 1, x30, x114000, x114001, x114002, x114003, x114004, x114005, x114006, x114007, x114008 => if x30 = true then (some 3) else ((feature_ranged.f x114003 x114004 x114005).bind fun t115 => (if t115 = true then (if x114001 = 0 then (feature_Check.j2 k (!(x114006 == 0) || (!(x114007 == 0))) x114000 x114001 x114002 x114003 x114004 x114005 x114006 x114007 x114008) else (feature_Check.j2 k false x114000 x114001 x114002 x114003 x114004 x114005 x114006 x114007 x114008)) else (some 2)))
def feature_Check.j2 : Nat → Bool → ByteArray → Int → Int → Int → Int → Int → Int → Int → List (S104) → Option (Int)
  | 0, _, _, _, _, _, _, _, _, _, _ => none
  | k + 1, x44, x114000, x114001, x114002, x114003, x114004, x114005, x114006, x114007, x114008 => if x44 = true then (some 3) else (if x114001 = 0 then (some 0) else ((dimension_Check.f k x114006 x114007).bind fun t116 => (if t116 = 0 then (if x114006 < 1 then (some 2) else (some 0)) else (some t116))))
end
def feature_Check.f (k : Nat) (a0_0 : ByteArray) (a0_1 : Int) (a0_2 : Int) (a0_3 : Int) (a0_4 : Int) (a0_5 : Int) (a0_6 : Int) (a0_7 : Int) (l0_8 : List (S104)) : Option (Int) := (dimension_Name.f a0_0).bind fun t114 => (if t114 = 0 then (if a0_1 < 0 then (feature_Check.j0 k true a0_0 a0_1 a0_2 a0_3 a0_4 a0_5 a0_6 a0_7 l0_8) else (if a0_1 ≥ 5 then (feature_Check.j0 k true a0_0 a0_1 a0_2 a0_3 a0_4 a0_5 a0_6 a0_7 l0_8) else (if a0_2 < 0 then (feature_Check.j0 k true a0_0 a0_1 a0_2 a0_3 a0_4 a0_5 a0_6 a0_7 l0_8) else (feature_Check.j0 k (decide (a0_2 ≥ 3)) a0_0 a0_1 a0_2 a0_3 a0_4 a0_5 a0_6 a0_7 l0_8)))) else (some t114))
theorem feature_Check.mono_l : ∀ k, (∀ y0 y1 y2 y3 y4 y5 y6 y7 y8 y9, LeO (feature_Check.j0 k y0 y1 y2 y3 y4 y5 y6 y7 y8 y9) (feature_Check.j0 (k + 1) y0 y1 y2 y3 y4 y5 y6 y7 y8 y9)) ∧ (∀ y0 y1 y2 y3 y4 y5 y6 y7 y8 y9, LeO (feature_Check.j1 k y0 y1 y2 y3 y4 y5 y6 y7 y8 y9) (feature_Check.j1 (k + 1) y0 y1 y2 y3 y4 y5 y6 y7 y8 y9)) ∧ (∀ y0 y1 y2 y3 y4 y5 y6 y7 y8 y9, LeO (feature_Check.j2 k y0 y1 y2 y3 y4 y5 y6 y7 y8 y9) (feature_Check.j2 (k + 1) y0 y1 y2 y3 y4 y5 y6 y7 y8 y9))
 | 0 => ⟨fun _ _ _ _ _ _ _ _ _ _ r h => by simp [feature_Check.j0] at h, fun _ _ _ _ _ _ _ _ _ _ r h => by simp [feature_Check.j1] at h, fun _ _ _ _ _ _ _ _ _ _ r h => by simp [feature_Check.j2] at h⟩
 | k + 1 => by
  obtain ⟨ih0, ih1, ih2⟩ := feature_Check.mono_l k
  refine ⟨?_, ?_, ?_⟩
  ·intro y0 y1 y2 y3 y4 y5 y6 y7 y8 y9
   unfold feature_Check.j0
   repeat' first
   | (with_reducible exact ih0 _ _ _ _ _ _ _ _ _ _)
   | (with_reducible exact ih1 _ _ _ _ _ _ _ _ _ _)
   | (with_reducible exact ih2 _ _ _ _ _ _ _ _ _ _)
   | (with_reducible exact dimension_Check.mono _ _ _)
   | (with_reducible exact LeO.refl _)
   | (with_reducible exact LeO.none _)
   | (with_reducible refine LeO.ite ?_ ?_)
   | (with_reducible refine LeO.bind ?_ (fun _ => ?_))
   | exact ih0 _ _ _ _ _ _ _ _ _ _
   | exact ih1 _ _ _ _ _ _ _ _ _ _
   | exact ih2 _ _ _ _ _ _ _ _ _ _
   | exact dimension_Check.mono _ _ _
   | exact LeO.none _
   | refine LeO.ite ?_ ?_
   | refine LeO.bind ?_ (fun _ => ?_)
  ·intro y0 y1 y2 y3 y4 y5 y6 y7 y8 y9
   unfold feature_Check.j1
   repeat' first
   | (with_reducible exact ih0 _ _ _ _ _ _ _ _ _ _)
   | (with_reducible exact ih1 _ _ _ _ _ _ _ _ _ _)
   | (with_reducible exact ih2 _ _ _ _ _ _ _ _ _ _)
   | (with_reducible exact dimension_Check.mono _ _ _)
   | (with_reducible exact LeO.refl _)
   | (with_reducible exact LeO.none _)
   | (with_reducible refine LeO.ite ?_ ?_)
   | (with_reducible refine LeO.bind ?_ (fun _ => ?_))
   | exact ih0 _ _ _ _ _ _ _ _ _ _
   | exact ih1 _ _ _ _ _ _ _ _ _ _
   | exact ih2 _ _ _ _ _ _ _ _ _ _
   | exact dimension_Check.mono _ _ _
   | exact LeO.none _
   | refine LeO.ite ?_ ?_
   | refine LeO.bind ?_ (fun _ => ?_)
  ·intro y0 y1 y2 y3 y4 y5 y6 y7 y8 y9
   unfold feature_Check.j2
   repeat' first
   | (with_reducible exact ih0 _ _ _ _ _ _ _ _ _ _)
   | (with_reducible exact ih1 _ _ _ _ _ _ _ _ _ _)
   | (with_reducible exact ih2 _ _ _ _ _ _ _ _ _ _)
   | (with_reducible exact dimension_Check.mono _ _ _)
   | (with_reducible exact LeO.refl _)
   | (with_reducible exact LeO.none _)
   | (with_reducible refine LeO.ite ?_ ?_)
   | (with_reducible refine LeO.bind ?_ (fun _ => ?_))
   | exact ih0 _ _ _ _ _ _ _ _ _ _
   | exact ih1 _ _ _ _ _ _ _ _ _ _
   | exact ih2 _ _ _ _ _ _ _ _ _ _
   | exact dimension_Check.mono _ _ _
   | exact LeO.none _
   | refine LeO.ite ?_ ?_
   | refine LeO.bind ?_ (fun _ => ?_)
theorem feature_Check.mono : ∀ a0 a1 a2 a3 a4 a5 a6 a7 a8 k, LeO (feature_Check.f k a0 a1 a2 a3 a4 a5 a6 a7 a8) (feature_Check.f (k + 1) a0 a1 a2 a3 a4 a5 a6 a7 a8) := by
 intro a0 a1 a2 a3 a4 a5 a6 a7 a8 k
 obtain ⟨ih0, ih1, ih2⟩ := feature_Check.mono_l k
 unfold feature_Check.f
 repeat' first
  | (with_reducible exact ih0 _ _ _ _ _ _ _ _ _ _)
  | (with_reducible exact ih1 _ _ _ _ _ _ _ _ _ _)
  | (with_reducible exact ih2 _ _ _ _ _ _ _ _ _ _)
  | (with_reducible exact dimension_Check.mono _ _ _)
  | (with_reducible exact LeO.refl _)
  | (with_reducible exact LeO.none _)
  | (with_reducible refine LeO.ite ?_ ?_)
  | (with_reducible refine LeO.bind ?_ (fun _ => ?_))
  | exact ih0 _ _ _ _ _ _ _ _ _ _
  | exact ih1 _ _ _ _ _ _ _ _ _ _
  | exact ih2 _ _ _ _ _ _ _ _ _ _
  | exact dimension_Check.mono _ _ _
  | exact LeO.none _
  | refine LeO.ite ?_ ?_
  | refine LeO.bind ?_ (fun _ => ?_)
set_option maxHeartbeats 8000000 in
set_option maxRecDepth 100000 in
theorem feature_Check.calls (k : Nat) (a0_0 : ByteArray) (a0_1 : Int) (a0_2 : Int) (a0_3 : Int) (a0_4 : Int) (a0_5 : Int) (a0_6 : Int) (a0_7 : Int) (A0_8 : Option Addr) (c0_8 : Nat) (l0_8 : List (S104)) (r : Int) (w : World) (hr0_8 : Kd.C k104 w A0_8 l0_8.length l0_8) (hc0_8 : l0_8.length ≤ c0_8) (h : feature_Check.f k a0_0 a0_1 a0_2 a0_3 a0_4 a0_5 a0_6 a0_7 l0_8 = some r) :
 Calls Try.prog 29 #[.agg #[.string a0_0, .int .i64 a0_1, .int .i64 a0_2, .int .i64 a0_3, .int .i64 a0_4, .int .i64 a0_5, .int .i64 a0_6, .int .i64 a0_7, .slice A0_8 l0_8.length c0_8]] w fun e w' => e = .returned (.int .i64 r) ∧ Below w.heap.size w w' := by
 have hu28 := Try.underlying28
 have hu23 := Try.underlying23
 have hu25 := Try.underlying25
 have HR0_8 := zm hr0_8
 have HC0_8 := zm hc0_8
 clear hr0_8 hc0_8
 have HB := zm (Below.refl w.heap.size w)
 have H : ((dimension_Name.f a0_0).bind fun t114 => (if t114 = 0 then (if a0_1 < 0 then (feature_Check.j0 k true a0_0 a0_1 a0_2 a0_3 a0_4 a0_5 a0_6 a0_7 l0_8) else (if a0_1 ≥ 5 then (feature_Check.j0 k true a0_0 a0_1 a0_2 a0_3 a0_4 a0_5 a0_6 a0_7 l0_8) else (if a0_2 < 0 then (feature_Check.j0 k true a0_0 a0_1 a0_2 a0_3 a0_4 a0_5 a0_6 a0_7 l0_8) else (feature_Check.j0 k (decide (a0_2 ≥ 3)) a0_0 a0_1 a0_2 a0_3 a0_4 a0_5 a0_6 a0_7 l0_8)))) else (some t114))) = some r := h
 clear h
 replace H := Option.bind_eq_some_iff.mp H
 obtain ⟨t114, A20, H⟩ := H
 replace H : (if t114 = 0 then (if a0_1 < 0 then (feature_Check.j0 k true a0_0 a0_1 a0_2 a0_3 a0_4 a0_5 a0_6 a0_7 l0_8) else (if a0_1 ≥ 5 then (feature_Check.j0 k true a0_0 a0_1 a0_2 a0_3 a0_4 a0_5 a0_6 a0_7 l0_8) else (if a0_2 < 0 then (feature_Check.j0 k true a0_0 a0_1 a0_2 a0_3 a0_4 a0_5 a0_6 a0_7 l0_8) else (feature_Check.j0 k (decide (a0_2 ≥ 3)) a0_0 a0_1 a0_2 a0_3 a0_4 a0_5 a0_6 a0_7 l0_8)))) else (some t114)) = some r := H
 have A2 := zm A20
 clear A20
 by_cases c3 : t114 = 0
 ·rw [if_pos c3] at H
  have c3b0 : (t114 == 0) = true := beq_iff_eq.mpr c3
  have c3b1 : (t114 != 0) = false := bne_eq_false_iff_eq.mpr c3
  clear c3
  have HC4 := zm H
  clear H
  go_enter Try.func29, Try.ntmps29
  go_upto_region 4 with (first | ((with_reducible refine gate_dst (N := 1) rfl ?_); refine box_event ?hg (N := 1) ?hd (cs := #[.string a0_0, .int .i64 a0_1, .int .i64 a0_2, .int .i64 a0_3, .int .i64 a0_4, .int .i64 a0_5, .int .i64 a0_6, .int .i64 a0_7, .slice A0_8 l0_8.length c0_8]) (t := 28) ?hr ?_; (case hd => rfl); (case hg => rfl); (case hr => first | (go_simp; done) | (go_simp; rfl)); intro gb113 hg w5 hbox hb; have n0_ := zm (below_step (by repeat (first | (with_reducible first | exact HB.out | apply zA | apply zD | apply zE) | exact HB.out)) hb); have n1_ := zm (hbox); have n2_ := zm ((by rw [hg]; exact (below_size (by repeat (first | (with_reducible first | exact HB.out | apply zA | apply zD | apply zE) | exact HB.out))) : w.heap.size ≤ gb113)); have n3_ := zm ((by rw [hg]; exact (below_size (by repeat (first | (with_reducible first | exact HB.out | apply zA | apply zD | apply zE) | exact HB.out))) : w.heap.size ≤ gb113)); clear HB; have HB := n0_; have BK113 := n1_; have GW113 := n2_; have GE113 := n3_; clear n0_ n1_ n2_ n3_; clear hb hbox hg; have hcz6_0 := zc BK113.out 0 (.string a0_0) rfl; have hcz6_1 := zc BK113.out 1 (.int .i64 a0_1) rfl; have hcz6_2 := zc BK113.out 2 (.int .i64 a0_2) rfl; have hcz6_3 := zc BK113.out 3 (.int .i64 a0_3) rfl; have hcz6_4 := zc BK113.out 4 (.int .i64 a0_4) rfl; have hcz6_5 := zc BK113.out 5 (.int .i64 a0_5) rfl; have hcz6_6 := zc BK113.out 6 (.int .i64 a0_6) rfl; have hcz6_7 := zc BK113.out 7 (.int .i64 a0_7) rfl; have hcz6_8 := zc BK113.out 8 (.slice A0_8 l0_8.length c0_8) rfl; have hfz6_0 := zf BK113.out 0; have hfz6_1 := zf BK113.out 1; have hfz6_2 := zf BK113.out 2; have hfz6_3 := zf BK113.out 3; have hfz6_4 := zf BK113.out 4; have hfz6_5 := zf BK113.out 5; have hfz6_6 := zf BK113.out 6; have hfz6_7 := zf BK113.out 7; have hfz6_8 := zf BK113.out 8) | ((with_reducible refine gate_callee (f := 80) rfl ?_); refine goesL_ (some 7) rfl rfl Try.func80 (by kernel_rfl) rfl #[.string a0_0] rfl (by (try simp only [List.map_toArray, List.map_cons, List.map_nil]); first | done | rfl | (simp only [List.length_drop, List.length_take]; rfl)) ?_; (with_reducible refine (dimension_Name.calls a0_0 t114 _ A2.out).mono ?_); rintro e w7 ⟨rfl, hb⟩; refine ⟨_, rfl, ?_⟩; have n0_ := zm (zb (g := gb113) (o := .cells #[.string a0_0, .int .i64 a0_1, .int .i64 a0_2, .int .i64 a0_3, .int .i64 a0_4, .int .i64 a0_5, .int .i64 a0_6, .int .i64 a0_7, .slice A0_8 l0_8.length c0_8] 28 (0, 0)) (by (with_reducible repeat first | apply zd | apply ze | apply za); exact BK113.out) hb); have n1_ := zm (below_step (by repeat (first | (with_reducible first | exact HB.out | apply zA | apply zD | apply zE | refine zS ?_ GE113.out) | exact HB.out)) hb); clear BK113 HB; have BK113 := n0_; have HB := n1_; clear n0_ n1_; (try clear hb); (try clear hb2); (try clear hk); (try clear hi)))
  (try simp only [Act.put, zx, zy, zz])
  go_cut [11] (fun v11 wc => ∃ (kq : Nat) (x11_3 : Bool), v11 = .bool x11_3 ∧ Aside0 (feature_Check.j0 kq x11_3 a0_0 a0_1 a0_2 a0_3 a0_4 a0_5 a0_6 a0_7 l0_8 = some r) ∧ Aside0 (kq ≤ k) ∧ Aside0 (wc.heap[gb113]? = some (.cells #[.string a0_0, .int .i64 a0_1, .int .i64 a0_2, .int .i64 a0_3, .int .i64 a0_4, .int .i64 a0_5, .int .i64 a0_6, .int .i64 a0_7, (.slice A0_8 l0_8.length c0_8)] 28 (0, 0))) ∧ Aside0 (Below w.heap.size w wc))
  case first =>
   have H := HC4.out
   clear HC4
   by_cases c8 : a0_1 < 0
   ·rw [if_pos c8] at H
    have c8b0 : decide (a0_1 < 0) = true := decide_eq_true c8
    clear c8
    (first | rw [c8b0] | (simp only [i64_w, i32_w]; rw [c8b0]) | (rw [c8b2]; try simp only [Bool.not_true, Bool.not_false]) | skip)
    have H' := zm H
    clear H
    have hcz9_0 := zc BK113.out 0 (.string a0_0) rfl
    have hcz9_1 := zc BK113.out 1 (.int .i64 a0_1) rfl
    have hcz9_2 := zc BK113.out 2 (.int .i64 a0_2) rfl
    have hcz9_3 := zc BK113.out 3 (.int .i64 a0_3) rfl
    have hcz9_4 := zc BK113.out 4 (.int .i64 a0_4) rfl
    have hcz9_5 := zc BK113.out 5 (.int .i64 a0_5) rfl
    have hcz9_6 := zc BK113.out 6 (.int .i64 a0_6) rfl
    have hcz9_7 := zc BK113.out 7 (.int .i64 a0_7) rfl
    have hcz9_8 := zc BK113.out 8 (.slice A0_8 l0_8.length c0_8) rfl
    have hfz9_0 := zf BK113.out 0
    have hfz9_1 := zf BK113.out 1
    have hfz9_2 := zf BK113.out 2
    have hfz9_3 := zf BK113.out 3
    have hfz9_4 := zf BK113.out 4
    have hfz9_5 := zf BK113.out 5
    have hfz9_6 := zf BK113.out 6
    have hfz9_7 := zf BK113.out 7
    have hfz9_8 := zf BK113.out 8
    go_wp2
    go_meet
    case rel => exact ⟨_, (true), (by first | rfl | (simp; done) | (simp [*]; done)), H', ⟨by first | omega | exact Nat.le_refl _⟩, ⟨by (with_reducible repeat first | apply zd | apply ze | apply za); exact BK113.out⟩, ⟨by repeat (first | (with_reducible first | exact HB.out | apply zA | apply zD | apply zE | refine zS ?_ GE113.out) | exact HB.out)⟩⟩
   ·rw [if_neg c8] at H
    have c8b0 : decide (a0_1 < 0) = false := decide_eq_false c8
    clear c8
    (first | rw [c8b0] | (simp only [i64_w, i32_w]; rw [c8b0]) | (rw [c8b2]; try simp only [Bool.not_true, Bool.not_false]) | skip)
    by_cases c10 : a0_1 ≥ 5
    ·rw [if_pos c10] at H
     have c10b0 : decide (5 ≤ a0_1) = true := decide_eq_true c10
     clear c10
     have H' := zm H
     clear H
     have hcz11_0 := zc BK113.out 0 (.string a0_0) rfl
     have hcz11_1 := zc BK113.out 1 (.int .i64 a0_1) rfl
     have hcz11_2 := zc BK113.out 2 (.int .i64 a0_2) rfl
     have hcz11_3 := zc BK113.out 3 (.int .i64 a0_3) rfl
     have hcz11_4 := zc BK113.out 4 (.int .i64 a0_4) rfl
     have hcz11_5 := zc BK113.out 5 (.int .i64 a0_5) rfl
     have hcz11_6 := zc BK113.out 6 (.int .i64 a0_6) rfl
     have hcz11_7 := zc BK113.out 7 (.int .i64 a0_7) rfl
     have hcz11_8 := zc BK113.out 8 (.slice A0_8 l0_8.length c0_8) rfl
     have hfz11_0 := zf BK113.out 0
     have hfz11_1 := zf BK113.out 1
     have hfz11_2 := zf BK113.out 2
     have hfz11_3 := zf BK113.out 3
     have hfz11_4 := zf BK113.out 4
     have hfz11_5 := zf BK113.out 5
     have hfz11_6 := zf BK113.out 6
     have hfz11_7 := zf BK113.out 7
     have hfz11_8 := zf BK113.out 8
     go_wp2
     go_meet
     case rel => exact ⟨_, (true), (by first | rfl | (simp; done) | (simp [*]; done)), H', ⟨by first | omega | exact Nat.le_refl _⟩, ⟨by (with_reducible repeat first | apply zd | apply ze | apply za); exact BK113.out⟩, ⟨by repeat (first | (with_reducible first | exact HB.out | apply zA | apply zD | apply zE | refine zS ?_ GE113.out) | exact HB.out)⟩⟩
    ·rw [if_neg c10] at H
     have c10b0 : decide (5 ≤ a0_1) = false := decide_eq_false c10
     clear c10
     by_cases c12 : a0_2 < 0
     ·rw [if_pos c12] at H
      have c12b0 : decide (a0_2 < 0) = true := decide_eq_true c12
      clear c12
      have H' := zm H
      clear H
      have hcz13_0 := zc BK113.out 0 (.string a0_0) rfl
      have hcz13_1 := zc BK113.out 1 (.int .i64 a0_1) rfl
      have hcz13_2 := zc BK113.out 2 (.int .i64 a0_2) rfl
      have hcz13_3 := zc BK113.out 3 (.int .i64 a0_3) rfl
      have hcz13_4 := zc BK113.out 4 (.int .i64 a0_4) rfl
      have hcz13_5 := zc BK113.out 5 (.int .i64 a0_5) rfl
      have hcz13_6 := zc BK113.out 6 (.int .i64 a0_6) rfl
      have hcz13_7 := zc BK113.out 7 (.int .i64 a0_7) rfl
      have hcz13_8 := zc BK113.out 8 (.slice A0_8 l0_8.length c0_8) rfl
      have hfz13_0 := zf BK113.out 0
      have hfz13_1 := zf BK113.out 1
      have hfz13_2 := zf BK113.out 2
      have hfz13_3 := zf BK113.out 3
      have hfz13_4 := zf BK113.out 4
      have hfz13_5 := zf BK113.out 5
      have hfz13_6 := zf BK113.out 6
      have hfz13_7 := zf BK113.out 7
      have hfz13_8 := zf BK113.out 8
      go_wp2
      go_meet
      case rel => exact ⟨_, (true), (by first | rfl | (simp; done) | (simp [*]; done)), H', ⟨by first | omega | exact Nat.le_refl _⟩, ⟨by (with_reducible repeat first | apply zd | apply ze | apply za); exact BK113.out⟩, ⟨by repeat (first | (with_reducible first | exact HB.out | apply zA | apply zD | apply zE | refine zS ?_ GE113.out) | exact HB.out)⟩⟩
     ·rw [if_neg c12] at H
      have c12b0 : decide (a0_2 < 0) = false := decide_eq_false c12
      clear c12
      have H' := zm H
      clear H
      have hcz14_0 := zc BK113.out 0 (.string a0_0) rfl
      have hcz14_1 := zc BK113.out 1 (.int .i64 a0_1) rfl
      have hcz14_2 := zc BK113.out 2 (.int .i64 a0_2) rfl
      have hcz14_3 := zc BK113.out 3 (.int .i64 a0_3) rfl
      have hcz14_4 := zc BK113.out 4 (.int .i64 a0_4) rfl
      have hcz14_5 := zc BK113.out 5 (.int .i64 a0_5) rfl
      have hcz14_6 := zc BK113.out 6 (.int .i64 a0_6) rfl
      have hcz14_7 := zc BK113.out 7 (.int .i64 a0_7) rfl
      have hcz14_8 := zc BK113.out 8 (.slice A0_8 l0_8.length c0_8) rfl
      have hfz14_0 := zf BK113.out 0
      have hfz14_1 := zf BK113.out 1
      have hfz14_2 := zf BK113.out 2
      have hfz14_3 := zf BK113.out 3
      have hfz14_4 := zf BK113.out 4
      have hfz14_5 := zf BK113.out 5
      have hfz14_6 := zf BK113.out 6
      have hfz14_7 := zf BK113.out 7
      have hfz14_8 := zf BK113.out 8
      go_wp2
      go_meet
      case rel => exact ⟨_, (decide (a0_2 ≥ 3)), (by first | rfl | (simp; done) | (simp [*]; done)), H', ⟨by first | omega | exact Nat.le_refl _⟩, ⟨by (with_reducible repeat first | apply zd | apply ze | apply za); exact BK113.out⟩, ⟨by repeat (first | (with_reducible first | exact HB.out | apply zA | apply zD | apply zE | refine zS ?_ GE113.out) | exact HB.out)⟩⟩
  case rest =>
   clear HC4
   try clear c1
   try clear c2
   try clear p2
   try clear c3
   try clear c3b0
   try clear c3b1
   try clear c8
   try clear c8b0
   try clear c8b2
   try clear c10
   try clear c10b0
   try clear c12
   try clear c12b0
   try clear hcz11_0
   try clear hcz11_1
   try clear hcz11_2
   try clear hcz11_3
   try clear hcz11_4
   try clear hcz11_5
   try clear hcz11_6
   try clear hcz11_7
   try clear hcz11_8
   try clear hcz13_0
   try clear hcz13_1
   try clear hcz13_2
   try clear hcz13_3
   try clear hcz13_4
   try clear hcz13_5
   try clear hcz13_6
   try clear hcz13_7
   try clear hcz13_8
   try clear hcz14_0
   try clear hcz14_1
   try clear hcz14_2
   try clear hcz14_3
   try clear hcz14_4
   try clear hcz14_5
   try clear hcz14_6
   try clear hcz14_7
   try clear hcz14_8
   try clear hcz6_0
   try clear hcz6_1
   try clear hcz6_2
   try clear hcz6_3
   try clear hcz6_4
   try clear hcz6_5
   try clear hcz6_6
   try clear hcz6_7
   try clear hcz6_8
   try clear hcz9_0
   try clear hcz9_1
   try clear hcz9_2
   try clear hcz9_3
   try clear hcz9_4
   try clear hcz9_5
   try clear hcz9_6
   try clear hcz9_7
   try clear hcz9_8
   try clear hfz11_0
   try clear hfz11_1
   try clear hfz11_2
   try clear hfz11_3
   try clear hfz11_4
   try clear hfz11_5
   try clear hfz11_6
   try clear hfz11_7
   try clear hfz11_8
   try clear hfz13_0
   try clear hfz13_1
   try clear hfz13_2
   try clear hfz13_3
   try clear hfz13_4
   try clear hfz13_5
   try clear hfz13_6
   try clear hfz13_7
   try clear hfz13_8
   try clear hfz14_0
   try clear hfz14_1
   try clear hfz14_2
   try clear hfz14_3
   try clear hfz14_4
   try clear hfz14_5
   try clear hfz14_6
   try clear hfz14_7
   try clear hfz14_8
   try clear hfz6_0
   try clear hfz6_1
   try clear hfz6_2
   try clear hfz6_3
   try clear hfz6_4
   try clear hfz6_5
   try clear hfz6_6
   try clear hfz6_7
   try clear hfz6_8
   try clear hfz9_0
   try clear hfz9_1
   try clear hfz9_2
   try clear hfz9_3
   try clear hfz9_4
   try clear hfz9_5
   try clear hfz9_6
   try clear hfz9_7
   try clear hfz9_8
   obtain ⟨kq, x11_3, rfl, HA, HJ3, BK113, HB⟩ := hcut
   cases kq with
   | zero => exact absurd HA.out (by simp [feature_Check.j0])
   | succ kj3 =>
    have H := HA.out
    clear HA
    simp only [feature_Check.j0] at H
    by_cases c15 : x11_3 = true
    ·subst c15
     have H1 : (some 1) = some r := by rw [if_pos rfl] at H; exact H
     clear H
     have H := H1
     clear H1
     obtain rfl := Option.some.inj H
     go_wp2
     go_ret
     exact ⟨by first | rfl | (simp [errW_none, errW_some] <;> rfl) | (simp [*, errW_none, errW_some] <;> rfl), by repeat (first | (with_reducible first | exact HB.out | apply zA | apply zD | apply zE | refine zS ?_ GE113.out) | exact HB.out)⟩
    ·replace c15 := Bool.eq_false_iff.mpr c15
     subst c15
     have H1 : (if a0_1 = 4 then (feature_Check.j1 kj3 (a0_2 != 0) a0_0 a0_1 a0_2 a0_3 a0_4 a0_5 a0_6 a0_7 l0_8) else (feature_Check.j1 kj3 false a0_0 a0_1 a0_2 a0_3 a0_4 a0_5 a0_6 a0_7 l0_8)) = some r := by rw [if_neg (show ¬ (false = true) by decide)] at H; exact H
     clear H
     have H := H1
     clear H1
     have HC16 := zm H
     clear H
     go_upto_region 6 with (fail)
     go_cut [30] (fun v30 wc => ∃ (kq : Nat) (x30_15 : Bool), v30 = .bool x30_15 ∧ Aside0 (feature_Check.j1 kq x30_15 a0_0 a0_1 a0_2 a0_3 a0_4 a0_5 a0_6 a0_7 l0_8 = some r) ∧ Aside0 (kq ≤ kj3) ∧ Aside0 (wc.heap[gb113]? = some (.cells #[.string a0_0, .int .i64 a0_1, .int .i64 a0_2, .int .i64 a0_3, .int .i64 a0_4, .int .i64 a0_5, .int .i64 a0_6, .int .i64 a0_7, (.slice A0_8 l0_8.length c0_8)] 28 (0, 0))) ∧ Aside0 (Below w.heap.size w wc))
     case first =>
      have H := HC16.out
      clear HC16
      by_cases c17 : a0_1 = 4
      ·rw [if_pos c17] at H
       have c17b0 : (a0_1 == 4) = true := beq_iff_eq.mpr c17
       have c17b1 : (a0_1 != 4) = false := bne_eq_false_iff_eq.mpr c17
       clear c17
       (first | rw [c17b0] | (simp only [i64_w, i32_w]; rw [c17b0]) | (rw [c17b2]; try simp only [Bool.not_true, Bool.not_false]) | skip)
       have H' := zm H
       clear H
       have hcz18_0 := zc BK113.out 0 (.string a0_0) rfl
       have hcz18_1 := zc BK113.out 1 (.int .i64 a0_1) rfl
       have hcz18_2 := zc BK113.out 2 (.int .i64 a0_2) rfl
       have hcz18_3 := zc BK113.out 3 (.int .i64 a0_3) rfl
       have hcz18_4 := zc BK113.out 4 (.int .i64 a0_4) rfl
       have hcz18_5 := zc BK113.out 5 (.int .i64 a0_5) rfl
       have hcz18_6 := zc BK113.out 6 (.int .i64 a0_6) rfl
       have hcz18_7 := zc BK113.out 7 (.int .i64 a0_7) rfl
       have hcz18_8 := zc BK113.out 8 (.slice A0_8 l0_8.length c0_8) rfl
       have hfz18_0 := zf BK113.out 0
       have hfz18_1 := zf BK113.out 1
       have hfz18_2 := zf BK113.out 2
       have hfz18_3 := zf BK113.out 3
       have hfz18_4 := zf BK113.out 4
       have hfz18_5 := zf BK113.out 5
       have hfz18_6 := zf BK113.out 6
       have hfz18_7 := zf BK113.out 7
       have hfz18_8 := zf BK113.out 8
       go_wp2
       go_meet
       case rel => exact ⟨_, ((a0_2 != 0)), (by first | rfl | (simp; done) | (simp [*]; done)), H', ⟨by have := HJ3.out; first | omega | exact Nat.le_refl _⟩, ⟨by (with_reducible repeat first | apply zd | apply ze | apply za); exact BK113.out⟩, ⟨by repeat (first | (with_reducible first | exact HB.out | apply zA | apply zD | apply zE | refine zS ?_ GE113.out) | exact HB.out)⟩⟩
      ·rw [if_neg c17] at H
       have c17b0 : (a0_1 == 4) = false := beq_eq_false_iff_ne.mpr c17
       have c17b1 : (a0_1 != 4) = true := bne_iff_ne.mpr c17
       (first | rw [c17b0] | (simp only [i64_w, i32_w]; rw [c17b0]) | (rw [c17b2]; try simp only [Bool.not_true, Bool.not_false]) | skip)
       have H' := zm H
       clear H
       have hcz19_0 := zc BK113.out 0 (.string a0_0) rfl
       have hcz19_1 := zc BK113.out 1 (.int .i64 a0_1) rfl
       have hcz19_2 := zc BK113.out 2 (.int .i64 a0_2) rfl
       have hcz19_3 := zc BK113.out 3 (.int .i64 a0_3) rfl
       have hcz19_4 := zc BK113.out 4 (.int .i64 a0_4) rfl
       have hcz19_5 := zc BK113.out 5 (.int .i64 a0_5) rfl
       have hcz19_6 := zc BK113.out 6 (.int .i64 a0_6) rfl
       have hcz19_7 := zc BK113.out 7 (.int .i64 a0_7) rfl
       have hcz19_8 := zc BK113.out 8 (.slice A0_8 l0_8.length c0_8) rfl
       have hfz19_0 := zf BK113.out 0
       have hfz19_1 := zf BK113.out 1
       have hfz19_2 := zf BK113.out 2
       have hfz19_3 := zf BK113.out 3
       have hfz19_4 := zf BK113.out 4
       have hfz19_5 := zf BK113.out 5
       have hfz19_6 := zf BK113.out 6
       have hfz19_7 := zf BK113.out 7
       have hfz19_8 := zf BK113.out 8
       go_wp2
       go_meet
       case rel => exact ⟨_, (false), (by first | rfl | (simp; done) | (simp [*]; done)), H', ⟨by have := HJ3.out; first | omega | exact Nat.le_refl _⟩, ⟨by (with_reducible repeat first | apply zd | apply ze | apply za); exact BK113.out⟩, ⟨by repeat (first | (with_reducible first | exact HB.out | apply zA | apply zD | apply zE | refine zS ?_ GE113.out) | exact HB.out)⟩⟩
     case rest =>
      clear HC16
      try clear c1
      try clear c2
      try clear p2
      try clear c3
      try clear c3b0
      try clear c3b1
      try clear c8
      try clear c8b0
      try clear c8b2
      try clear c10
      try clear c10b0
      try clear c12
      try clear c12b0
      try clear c15
      try clear c17
      try clear c17b0
      try clear c17b1
      try clear c17b2
      try clear hcz11_0
      try clear hcz11_1
      try clear hcz11_2
      try clear hcz11_3
      try clear hcz11_4
      try clear hcz11_5
      try clear hcz11_6
      try clear hcz11_7
      try clear hcz11_8
      try clear hcz13_0
      try clear hcz13_1
      try clear hcz13_2
      try clear hcz13_3
      try clear hcz13_4
      try clear hcz13_5
      try clear hcz13_6
      try clear hcz13_7
      try clear hcz13_8
      try clear hcz14_0
      try clear hcz14_1
      try clear hcz14_2
      try clear hcz14_3
      try clear hcz14_4
      try clear hcz14_5
      try clear hcz14_6
      try clear hcz14_7
      try clear hcz14_8
      try clear hcz18_0
      try clear hcz18_1
      try clear hcz18_2
      try clear hcz18_3
      try clear hcz18_4
      try clear hcz18_5
      try clear hcz18_6
      try clear hcz18_7
      try clear hcz18_8
      try clear hcz19_0
      try clear hcz19_1
      try clear hcz19_2
      try clear hcz19_3
      try clear hcz19_4
      try clear hcz19_5
      try clear hcz19_6
      try clear hcz19_7
      try clear hcz19_8
      try clear hcz6_0
      try clear hcz6_1
      try clear hcz6_2
      try clear hcz6_3
      try clear hcz6_4
      try clear hcz6_5
      try clear hcz6_6
      try clear hcz6_7
      try clear hcz6_8
      try clear hcz9_0
      try clear hcz9_1
      try clear hcz9_2
      try clear hcz9_3
      try clear hcz9_4
      try clear hcz9_5
      try clear hcz9_6
      try clear hcz9_7
      try clear hcz9_8
      try clear hfz11_0
      try clear hfz11_1
      try clear hfz11_2
      try clear hfz11_3
      try clear hfz11_4
      try clear hfz11_5
      try clear hfz11_6
      try clear hfz11_7
      try clear hfz11_8
      try clear hfz13_0
      try clear hfz13_1
      try clear hfz13_2
      try clear hfz13_3
      try clear hfz13_4
      try clear hfz13_5
      try clear hfz13_6
      try clear hfz13_7
      try clear hfz13_8
      try clear hfz14_0
      try clear hfz14_1
      try clear hfz14_2
      try clear hfz14_3
      try clear hfz14_4
      try clear hfz14_5
      try clear hfz14_6
      try clear hfz14_7
      try clear hfz14_8
      try clear hfz18_0
      try clear hfz18_1
      try clear hfz18_2
      try clear hfz18_3
      try clear hfz18_4
      try clear hfz18_5
      try clear hfz18_6
      try clear hfz18_7
      try clear hfz18_8
      try clear hfz19_0
      try clear hfz19_1
      try clear hfz19_2
      try clear hfz19_3
      try clear hfz19_4
      try clear hfz19_5
      try clear hfz19_6
      try clear hfz19_7
      try clear hfz19_8
      try clear hfz6_0
      try clear hfz6_1
      try clear hfz6_2
      try clear hfz6_3
      try clear hfz6_4
      try clear hfz6_5
      try clear hfz6_6
      try clear hfz6_7
      try clear hfz6_8
      try clear hfz9_0
      try clear hfz9_1
      try clear hfz9_2
      try clear hfz9_3
      try clear hfz9_4
      try clear hfz9_5
      try clear hfz9_6
      try clear hfz9_7
      try clear hfz9_8
      try clear p2
      obtain ⟨kq, x30_15, rfl, HA, HJ15, BK113, HB⟩ := hcut
      cases kq with
      | zero => exact absurd HA.out (by simp [feature_Check.j1])
      | succ kj15 =>
       have H := HA.out
       clear HA
       simp only [feature_Check.j1] at H
       by_cases c20 : x30_15 = true
       ·subst c20
        have H1 : (some 3) = some r := by rw [if_pos rfl] at H; exact H
        clear H
        have H := H1
        clear H1
        obtain rfl := Option.some.inj H
        go_wp2
        go_ret
        exact ⟨by first | rfl | (simp [errW_none, errW_some] <;> rfl) | (simp [*, errW_none, errW_some] <;> rfl), by repeat (first | (with_reducible first | exact HB.out | apply zA | apply zD | apply zE | refine zS ?_ GE113.out) | exact HB.out)⟩
       ·replace c20 := Bool.eq_false_iff.mpr c20
        subst c20
        have H1 : ((feature_ranged.f a0_3 a0_4 a0_5).bind fun t115 => (if t115 = true then (if a0_1 = 0 then (feature_Check.j2 kj15 (!(a0_6 == 0) || (!(a0_7 == 0))) a0_0 a0_1 a0_2 a0_3 a0_4 a0_5 a0_6 a0_7 l0_8) else (feature_Check.j2 kj15 false a0_0 a0_1 a0_2 a0_3 a0_4 a0_5 a0_6 a0_7 l0_8)) else (some 2))) = some r := by rw [if_neg (show ¬ (false = true) by decide)] at H; exact H
        clear H
        have H := H1
        clear H1
        replace H := Option.bind_eq_some_iff.mp H
        obtain ⟨t115, A210, H⟩ := H
        replace H : (if t115 = true then (if a0_1 = 0 then (feature_Check.j2 kj15 (!(a0_6 == 0) || (!(a0_7 == 0))) a0_0 a0_1 a0_2 a0_3 a0_4 a0_5 a0_6 a0_7 l0_8) else (feature_Check.j2 kj15 false a0_0 a0_1 a0_2 a0_3 a0_4 a0_5 a0_6 a0_7 l0_8)) else (some 2)) = some r := H
        have A21 := zm A210
        clear A210
        by_cases c22 : t115 = true
        ·subst c22
         have H1 : (if a0_1 = 0 then (feature_Check.j2 kj15 (!(a0_6 == 0) || (!(a0_7 == 0))) a0_0 a0_1 a0_2 a0_3 a0_4 a0_5 a0_6 a0_7 l0_8) else (feature_Check.j2 kj15 false a0_0 a0_1 a0_2 a0_3 a0_4 a0_5 a0_6 a0_7 l0_8)) = some r := by rw [if_pos rfl] at H; exact H
         clear H
         have H := H1
         clear H1
         have HC23 := zm H
         clear H
         have hcz24_0 := zc BK113.out 0 (.string a0_0) rfl
         have hcz24_1 := zc BK113.out 1 (.int .i64 a0_1) rfl
         have hcz24_2 := zc BK113.out 2 (.int .i64 a0_2) rfl
         have hcz24_3 := zc BK113.out 3 (.int .i64 a0_3) rfl
         have hcz24_4 := zc BK113.out 4 (.int .i64 a0_4) rfl
         have hcz24_5 := zc BK113.out 5 (.int .i64 a0_5) rfl
         have hcz24_6 := zc BK113.out 6 (.int .i64 a0_6) rfl
         have hcz24_7 := zc BK113.out 7 (.int .i64 a0_7) rfl
         have hcz24_8 := zc BK113.out 8 (.slice A0_8 l0_8.length c0_8) rfl
         have hfz24_0 := zf BK113.out 0
         have hfz24_1 := zf BK113.out 1
         have hfz24_2 := zf BK113.out 2
         have hfz24_3 := zf BK113.out 3
         have hfz24_4 := zf BK113.out 4
         have hfz24_5 := zf BK113.out 5
         have hfz24_6 := zf BK113.out 6
         have hfz24_7 := zf BK113.out 7
         have hfz24_8 := zf BK113.out 8
         go_upto_region 10 with (first | ((with_reducible refine gate_callee (f := 81) rfl ?_); refine goesL_ (some 42) rfl rfl Try.func81 (by kernel_rfl) rfl #[.agg #[.int .i64 a0_3, .int .i64 a0_4, .int .i64 a0_5]] rfl (by (try simp only [List.map_toArray, List.map_cons, List.map_nil]); first | done | rfl | (simp only [List.length_drop, List.length_take]; rfl)) ?_; (with_reducible refine (feature_ranged.calls a0_3 a0_4 a0_5 true _ A21.out).mono ?_); rintro e w25 ⟨rfl, hb⟩; refine ⟨_, rfl, ?_⟩; have n0_ := zm (zb (g := gb113) (o := .cells #[.string a0_0, .int .i64 a0_1, .int .i64 a0_2, .int .i64 a0_3, .int .i64 a0_4, .int .i64 a0_5, .int .i64 a0_6, .int .i64 a0_7, .slice A0_8 l0_8.length c0_8] 28 (0, 0)) (by (with_reducible repeat first | apply zd | apply ze | apply za); exact BK113.out) hb); have n1_ := zm (below_step (by repeat (first | (with_reducible first | exact HB.out | apply zA | apply zD | apply zE | refine zS ?_ GE113.out) | exact HB.out)) hb); clear BK113 HB; have BK113 := n0_; have HB := n1_; clear n0_ n1_; (try clear hb); (try clear hb2); (try clear hk); (try clear hi)))
         (try simp only [Act.put, zx, zy, zz])
         go_cut [44] (fun v44 wc => ∃ (kq : Nat) (x44_22 : Bool), v44 = .bool x44_22 ∧ Aside0 (feature_Check.j2 kq x44_22 a0_0 a0_1 a0_2 a0_3 a0_4 a0_5 a0_6 a0_7 l0_8 = some r) ∧ Aside0 (kq ≤ kj15) ∧ Aside0 (wc.heap[gb113]? = some (.cells #[.string a0_0, .int .i64 a0_1, .int .i64 a0_2, .int .i64 a0_3, .int .i64 a0_4, .int .i64 a0_5, .int .i64 a0_6, .int .i64 a0_7, (.slice A0_8 l0_8.length c0_8)] 28 (0, 0))) ∧ Aside0 (Below w.heap.size w wc))
         case first =>
          have H := HC23.out
          clear HC23
          by_cases c26 : a0_1 = 0
          ·rw [if_pos c26] at H
           have c26b0 : (a0_1 == 0) = true := beq_iff_eq.mpr c26
           have c26b1 : (a0_1 != 0) = false := bne_eq_false_iff_eq.mpr c26
           clear c26
           (first | rw [c26b0] | (simp only [i64_w, i32_w]; rw [c26b0]) | (rw [c26b2]; try simp only [Bool.not_true, Bool.not_false]) | skip)
           have H' := zm H
           clear H
           have hcz27_0 := zc BK113.out 0 (.string a0_0) rfl
           have hcz27_1 := zc BK113.out 1 (.int .i64 a0_1) rfl
           have hcz27_2 := zc BK113.out 2 (.int .i64 a0_2) rfl
           have hcz27_3 := zc BK113.out 3 (.int .i64 a0_3) rfl
           have hcz27_4 := zc BK113.out 4 (.int .i64 a0_4) rfl
           have hcz27_5 := zc BK113.out 5 (.int .i64 a0_5) rfl
           have hcz27_6 := zc BK113.out 6 (.int .i64 a0_6) rfl
           have hcz27_7 := zc BK113.out 7 (.int .i64 a0_7) rfl
           have hcz27_8 := zc BK113.out 8 (.slice A0_8 l0_8.length c0_8) rfl
           have hfz27_0 := zf BK113.out 0
           have hfz27_1 := zf BK113.out 1
           have hfz27_2 := zf BK113.out 2
           have hfz27_3 := zf BK113.out 3
           have hfz27_4 := zf BK113.out 4
           have hfz27_5 := zf BK113.out 5
           have hfz27_6 := zf BK113.out 6
           have hfz27_7 := zf BK113.out 7
           have hfz27_8 := zf BK113.out 8
           go_wp2
           go_meet
           case rel => exact ⟨_, ((!(a0_6 == 0) || (!(a0_7 == 0)))), (by first | rfl | (simp; done) | (simp [*]; done)), H', ⟨by have := HJ3.out; have := HJ15.out; first | omega | exact Nat.le_refl _⟩, ⟨by (with_reducible repeat first | apply zd | apply ze | apply za); exact BK113.out⟩, ⟨by repeat (first | (with_reducible first | exact HB.out | apply zA | apply zD | apply zE | refine zS ?_ GE113.out) | exact HB.out)⟩⟩
          ·rw [if_neg c26] at H
           have c26b0 : (a0_1 == 0) = false := beq_eq_false_iff_ne.mpr c26
           have c26b1 : (a0_1 != 0) = true := bne_iff_ne.mpr c26
           (first | rw [c26b0] | (simp only [i64_w, i32_w]; rw [c26b0]) | (rw [c26b2]; try simp only [Bool.not_true, Bool.not_false]) | skip)
           have H' := zm H
           clear H
           have hcz28_0 := zc BK113.out 0 (.string a0_0) rfl
           have hcz28_1 := zc BK113.out 1 (.int .i64 a0_1) rfl
           have hcz28_2 := zc BK113.out 2 (.int .i64 a0_2) rfl
           have hcz28_3 := zc BK113.out 3 (.int .i64 a0_3) rfl
           have hcz28_4 := zc BK113.out 4 (.int .i64 a0_4) rfl
           have hcz28_5 := zc BK113.out 5 (.int .i64 a0_5) rfl
           have hcz28_6 := zc BK113.out 6 (.int .i64 a0_6) rfl
           have hcz28_7 := zc BK113.out 7 (.int .i64 a0_7) rfl
           have hcz28_8 := zc BK113.out 8 (.slice A0_8 l0_8.length c0_8) rfl
           have hfz28_0 := zf BK113.out 0
           have hfz28_1 := zf BK113.out 1
           have hfz28_2 := zf BK113.out 2
           have hfz28_3 := zf BK113.out 3
           have hfz28_4 := zf BK113.out 4
           have hfz28_5 := zf BK113.out 5
           have hfz28_6 := zf BK113.out 6
           have hfz28_7 := zf BK113.out 7
           have hfz28_8 := zf BK113.out 8
           go_wp2
           go_meet
           case rel => exact ⟨_, (false), (by first | rfl | (simp; done) | (simp [*]; done)), H', ⟨by have := HJ3.out; have := HJ15.out; first | omega | exact Nat.le_refl _⟩, ⟨by (with_reducible repeat first | apply zd | apply ze | apply za); exact BK113.out⟩, ⟨by repeat (first | (with_reducible first | exact HB.out | apply zA | apply zD | apply zE | refine zS ?_ GE113.out) | exact HB.out)⟩⟩
         case rest =>
          clear HC23
          try clear c1
          try clear c2
          try clear p2
          try clear c3
          try clear c3b0
          try clear c3b1
          try clear c8
          try clear c8b0
          try clear c8b2
          try clear c10
          try clear c10b0
          try clear c12
          try clear c12b0
          try clear c15
          try clear c17
          try clear c17b0
          try clear c17b1
          try clear c17b2
          try clear c20
          try clear c22
          try clear c26
          try clear c26b0
          try clear c26b1
          try clear c26b2
          try clear hcz11_0
          try clear hcz11_1
          try clear hcz11_2
          try clear hcz11_3
          try clear hcz11_4
          try clear hcz11_5
          try clear hcz11_6
          try clear hcz11_7
          try clear hcz11_8
          try clear hcz13_0
          try clear hcz13_1
          try clear hcz13_2
          try clear hcz13_3
          try clear hcz13_4
          try clear hcz13_5
          try clear hcz13_6
          try clear hcz13_7
          try clear hcz13_8
          try clear hcz14_0
          try clear hcz14_1
          try clear hcz14_2
          try clear hcz14_3
          try clear hcz14_4
          try clear hcz14_5
          try clear hcz14_6
          try clear hcz14_7
          try clear hcz14_8
          try clear hcz18_0
          try clear hcz18_1
          try clear hcz18_2
          try clear hcz18_3
          try clear hcz18_4
          try clear hcz18_5
          try clear hcz18_6
          try clear hcz18_7
          try clear hcz18_8
          try clear hcz19_0
          try clear hcz19_1
          try clear hcz19_2
          try clear hcz19_3
          try clear hcz19_4
          try clear hcz19_5
          try clear hcz19_6
          try clear hcz19_7
          try clear hcz19_8
          try clear hcz24_0
          try clear hcz24_1
          try clear hcz24_2
          try clear hcz24_3
          try clear hcz24_4
          try clear hcz24_5
          try clear hcz24_6
          try clear hcz24_7
          try clear hcz24_8
          try clear hcz27_0
          try clear hcz27_1
          try clear hcz27_2
          try clear hcz27_3
          try clear hcz27_4
          try clear hcz27_5
          try clear hcz27_6
          try clear hcz27_7
          try clear hcz27_8
          try clear hcz28_0
          try clear hcz28_1
          try clear hcz28_2
          try clear hcz28_3
          try clear hcz28_4
          try clear hcz28_5
          try clear hcz28_6
          try clear hcz28_7
          try clear hcz28_8
          try clear hcz6_0
          try clear hcz6_1
          try clear hcz6_2
          try clear hcz6_3
          try clear hcz6_4
          try clear hcz6_5
          try clear hcz6_6
          try clear hcz6_7
          try clear hcz6_8
          try clear hcz9_0
          try clear hcz9_1
          try clear hcz9_2
          try clear hcz9_3
          try clear hcz9_4
          try clear hcz9_5
          try clear hcz9_6
          try clear hcz9_7
          try clear hcz9_8
          try clear hfz11_0
          try clear hfz11_1
          try clear hfz11_2
          try clear hfz11_3
          try clear hfz11_4
          try clear hfz11_5
          try clear hfz11_6
          try clear hfz11_7
          try clear hfz11_8
          try clear hfz13_0
          try clear hfz13_1
          try clear hfz13_2
          try clear hfz13_3
          try clear hfz13_4
          try clear hfz13_5
          try clear hfz13_6
          try clear hfz13_7
          try clear hfz13_8
          try clear hfz14_0
          try clear hfz14_1
          try clear hfz14_2
          try clear hfz14_3
          try clear hfz14_4
          try clear hfz14_5
          try clear hfz14_6
          try clear hfz14_7
          try clear hfz14_8
          try clear hfz18_0
          try clear hfz18_1
          try clear hfz18_2
          try clear hfz18_3
          try clear hfz18_4
          try clear hfz18_5
          try clear hfz18_6
          try clear hfz18_7
          try clear hfz18_8
          try clear hfz19_0
          try clear hfz19_1
          try clear hfz19_2
          try clear hfz19_3
          try clear hfz19_4
          try clear hfz19_5
          try clear hfz19_6
          try clear hfz19_7
          try clear hfz19_8
          try clear hfz24_0
          try clear hfz24_1
          try clear hfz24_2
          try clear hfz24_3
          try clear hfz24_4
          try clear hfz24_5
          try clear hfz24_6
          try clear hfz24_7
          try clear hfz24_8
          try clear hfz27_0
          try clear hfz27_1
          try clear hfz27_2
          try clear hfz27_3
          try clear hfz27_4
          try clear hfz27_5
          try clear hfz27_6
          try clear hfz27_7
          try clear hfz27_8
          try clear hfz28_0
          try clear hfz28_1
          try clear hfz28_2
          try clear hfz28_3
          try clear hfz28_4
          try clear hfz28_5
          try clear hfz28_6
          try clear hfz28_7
          try clear hfz28_8
          try clear hfz6_0
          try clear hfz6_1
          try clear hfz6_2
          try clear hfz6_3
          try clear hfz6_4
          try clear hfz6_5
          try clear hfz6_6
          try clear hfz6_7
          try clear hfz6_8
          try clear hfz9_0
          try clear hfz9_1
          try clear hfz9_2
          try clear hfz9_3
          try clear hfz9_4
          try clear hfz9_5
          try clear hfz9_6
          try clear hfz9_7
          try clear hfz9_8
          try clear p2
          obtain ⟨kq, x44_22, rfl, HA, HJ22, BK113, HB⟩ := hcut
          cases kq with
          | zero => exact absurd HA.out (by simp [feature_Check.j2])
          | succ kj22 =>
           have H := HA.out
           clear HA
           simp only [feature_Check.j2] at H
           by_cases c29 : x44_22 = true
           ·subst c29
            have H1 : (some 3) = some r := by rw [if_pos rfl] at H; exact H
            clear H
            have H := H1
            clear H1
            obtain rfl := Option.some.inj H
            go_wp2
            go_ret
            exact ⟨by first | rfl | (simp [errW_none, errW_some] <;> rfl) | (simp [*, errW_none, errW_some] <;> rfl), by repeat (first | (with_reducible first | exact HB.out | apply zA | apply zD | apply zE | refine zS ?_ GE113.out) | exact HB.out)⟩
           ·replace c29 := Bool.eq_false_iff.mpr c29
            subst c29
            have H1 : (if a0_1 = 0 then (some 0) else ((dimension_Check.f kj22 a0_6 a0_7).bind fun t116 => (if t116 = 0 then (if a0_6 < 1 then (some 2) else (some 0)) else (some t116)))) = some r := by rw [if_neg (show ¬ (false = true) by decide)] at H; exact H
            clear H
            have H := H1
            clear H1
            by_cases c30 : a0_1 = 0
            ·rw [if_pos c30] at H
             have c30b0 : (a0_1 == 0) = true := beq_iff_eq.mpr c30
             have c30b1 : (a0_1 != 0) = false := bne_eq_false_iff_eq.mpr c30
             clear c30
             obtain rfl := Option.some.inj H
             have hcz31_0 := zc BK113.out 0 (.string a0_0) rfl
             have hcz31_1 := zc BK113.out 1 (.int .i64 a0_1) rfl
             have hcz31_2 := zc BK113.out 2 (.int .i64 a0_2) rfl
             have hcz31_3 := zc BK113.out 3 (.int .i64 a0_3) rfl
             have hcz31_4 := zc BK113.out 4 (.int .i64 a0_4) rfl
             have hcz31_5 := zc BK113.out 5 (.int .i64 a0_5) rfl
             have hcz31_6 := zc BK113.out 6 (.int .i64 a0_6) rfl
             have hcz31_7 := zc BK113.out 7 (.int .i64 a0_7) rfl
             have hcz31_8 := zc BK113.out 8 (.slice A0_8 l0_8.length c0_8) rfl
             have hfz31_0 := zf BK113.out 0
             have hfz31_1 := zf BK113.out 1
             have hfz31_2 := zf BK113.out 2
             have hfz31_3 := zf BK113.out 3
             have hfz31_4 := zf BK113.out 4
             have hfz31_5 := zf BK113.out 5
             have hfz31_6 := zf BK113.out 6
             have hfz31_7 := zf BK113.out 7
             have hfz31_8 := zf BK113.out 8
             go_wp2
             go_ret
             exact ⟨by first | rfl | (simp [errW_none, errW_some] <;> rfl) | (simp [*, errW_none, errW_some] <;> rfl), by repeat (first | (with_reducible first | exact HB.out | apply zA | apply zD | apply zE | refine zS ?_ GE113.out) | exact HB.out)⟩
            ·rw [if_neg c30] at H
             have c30b0 : (a0_1 == 0) = false := beq_eq_false_iff_ne.mpr c30
             have c30b1 : (a0_1 != 0) = true := bne_iff_ne.mpr c30
             replace H := Option.bind_eq_some_iff.mp H
             obtain ⟨t116, A320, H⟩ := H
             replace H : (if t116 = 0 then (if a0_6 < 1 then (some 2) else (some 0)) else (some t116)) = some r := H
             have A32 := zm A320
             clear A320
             by_cases c33 : t116 = 0
             ·rw [if_pos c33] at H
              have c33b0 : (t116 == 0) = true := beq_iff_eq.mpr c33
              have c33b1 : (t116 != 0) = false := bne_eq_false_iff_eq.mpr c33
              clear c33
              by_cases c34 : a0_6 < 1
              ·rw [if_pos c34] at H
               have c34b0 : decide (a0_6 < 1) = true := decide_eq_true c34
               clear c34
               obtain rfl := Option.some.inj H
               have hcz35_0 := zc BK113.out 0 (.string a0_0) rfl
               have hcz35_1 := zc BK113.out 1 (.int .i64 a0_1) rfl
               have hcz35_2 := zc BK113.out 2 (.int .i64 a0_2) rfl
               have hcz35_3 := zc BK113.out 3 (.int .i64 a0_3) rfl
               have hcz35_4 := zc BK113.out 4 (.int .i64 a0_4) rfl
               have hcz35_5 := zc BK113.out 5 (.int .i64 a0_5) rfl
               have hcz35_6 := zc BK113.out 6 (.int .i64 a0_6) rfl
               have hcz35_7 := zc BK113.out 7 (.int .i64 a0_7) rfl
               have hcz35_8 := zc BK113.out 8 (.slice A0_8 l0_8.length c0_8) rfl
               have hfz35_0 := zf BK113.out 0
               have hfz35_1 := zf BK113.out 1
               have hfz35_2 := zf BK113.out 2
               have hfz35_3 := zf BK113.out 3
               have hfz35_4 := zf BK113.out 4
               have hfz35_5 := zf BK113.out 5
               have hfz35_6 := zf BK113.out 6
               have hfz35_7 := zf BK113.out 7
               have hfz35_8 := zf BK113.out 8
               go_wp2_with (first | ((with_reducible refine gate_callee (f := 82) rfl ?_); refine goesL_ (some 60) rfl rfl Try.func82 (by kernel_rfl) rfl #[.agg #[.int .i64 a0_6, .int .i64 a0_7]] rfl (by (try simp only [List.map_toArray, List.map_cons, List.map_nil]); first | done | rfl | (simp only [List.length_drop, List.length_take]; rfl)) ?_; (with_reducible refine (dimension_Check.calls kj22 a0_6 a0_7 t116 _ A32.out).mono ?_); rintro e w36 ⟨rfl, hb⟩; refine ⟨_, rfl, ?_⟩; have n0_ := zm (zb (g := gb113) (o := .cells #[.string a0_0, .int .i64 a0_1, .int .i64 a0_2, .int .i64 a0_3, .int .i64 a0_4, .int .i64 a0_5, .int .i64 a0_6, .int .i64 a0_7, .slice A0_8 l0_8.length c0_8] 28 (0, 0)) (by (with_reducible repeat first | apply zd | apply ze | apply za); exact BK113.out) hb); have n1_ := zm (below_step (by repeat (first | (with_reducible first | exact HB.out | apply zA | apply zD | apply zE | refine zS ?_ GE113.out) | exact HB.out)) hb); clear BK113 HB; have BK113 := n0_; have HB := n1_; clear n0_ n1_; (try clear hb); (try clear hb2); (try clear hk); (try clear hi); have hcz37_0 := zc BK113.out 0 (.string a0_0) rfl; have hcz37_1 := zc BK113.out 1 (.int .i64 a0_1) rfl; have hcz37_2 := zc BK113.out 2 (.int .i64 a0_2) rfl; have hcz37_3 := zc BK113.out 3 (.int .i64 a0_3) rfl; have hcz37_4 := zc BK113.out 4 (.int .i64 a0_4) rfl; have hcz37_5 := zc BK113.out 5 (.int .i64 a0_5) rfl; have hcz37_6 := zc BK113.out 6 (.int .i64 a0_6) rfl; have hcz37_7 := zc BK113.out 7 (.int .i64 a0_7) rfl; have hcz37_8 := zc BK113.out 8 (.slice A0_8 l0_8.length c0_8) rfl; have hfz37_0 := zf BK113.out 0; have hfz37_1 := zf BK113.out 1; have hfz37_2 := zf BK113.out 2; have hfz37_3 := zf BK113.out 3; have hfz37_4 := zf BK113.out 4; have hfz37_5 := zf BK113.out 5; have hfz37_6 := zf BK113.out 6; have hfz37_7 := zf BK113.out 7; have hfz37_8 := zf BK113.out 8))
               go_ret
               exact ⟨by first | rfl | (simp [errW_none, errW_some] <;> rfl) | (simp [*, errW_none, errW_some] <;> rfl), by repeat (first | (with_reducible first | exact HB.out | apply zA | apply zD | apply zE | refine zS ?_ GE113.out) | exact HB.out)⟩
              ·rw [if_neg c34] at H
               have c34b0 : decide (a0_6 < 1) = false := decide_eq_false c34
               clear c34
               obtain rfl := Option.some.inj H
               have hcz38_0 := zc BK113.out 0 (.string a0_0) rfl
               have hcz38_1 := zc BK113.out 1 (.int .i64 a0_1) rfl
               have hcz38_2 := zc BK113.out 2 (.int .i64 a0_2) rfl
               have hcz38_3 := zc BK113.out 3 (.int .i64 a0_3) rfl
               have hcz38_4 := zc BK113.out 4 (.int .i64 a0_4) rfl
               have hcz38_5 := zc BK113.out 5 (.int .i64 a0_5) rfl
               have hcz38_6 := zc BK113.out 6 (.int .i64 a0_6) rfl
               have hcz38_7 := zc BK113.out 7 (.int .i64 a0_7) rfl
               have hcz38_8 := zc BK113.out 8 (.slice A0_8 l0_8.length c0_8) rfl
               have hfz38_0 := zf BK113.out 0
               have hfz38_1 := zf BK113.out 1
               have hfz38_2 := zf BK113.out 2
               have hfz38_3 := zf BK113.out 3
               have hfz38_4 := zf BK113.out 4
               have hfz38_5 := zf BK113.out 5
               have hfz38_6 := zf BK113.out 6
               have hfz38_7 := zf BK113.out 7
               have hfz38_8 := zf BK113.out 8
               go_wp2_with (first | ((with_reducible refine gate_callee (f := 82) rfl ?_); refine goesL_ (some 60) rfl rfl Try.func82 (by kernel_rfl) rfl #[.agg #[.int .i64 a0_6, .int .i64 a0_7]] rfl (by (try simp only [List.map_toArray, List.map_cons, List.map_nil]); first | done | rfl | (simp only [List.length_drop, List.length_take]; rfl)) ?_; (with_reducible refine (dimension_Check.calls kj22 a0_6 a0_7 t116 _ A32.out).mono ?_); rintro e w39 ⟨rfl, hb⟩; refine ⟨_, rfl, ?_⟩; have n0_ := zm (zb (g := gb113) (o := .cells #[.string a0_0, .int .i64 a0_1, .int .i64 a0_2, .int .i64 a0_3, .int .i64 a0_4, .int .i64 a0_5, .int .i64 a0_6, .int .i64 a0_7, .slice A0_8 l0_8.length c0_8] 28 (0, 0)) (by (with_reducible repeat first | apply zd | apply ze | apply za); exact BK113.out) hb); have n1_ := zm (below_step (by repeat (first | (with_reducible first | exact HB.out | apply zA | apply zD | apply zE | refine zS ?_ GE113.out) | exact HB.out)) hb); clear BK113 HB; have BK113 := n0_; have HB := n1_; clear n0_ n1_; (try clear hb); (try clear hb2); (try clear hk); (try clear hi); have hcz40_0 := zc BK113.out 0 (.string a0_0) rfl; have hcz40_1 := zc BK113.out 1 (.int .i64 a0_1) rfl; have hcz40_2 := zc BK113.out 2 (.int .i64 a0_2) rfl; have hcz40_3 := zc BK113.out 3 (.int .i64 a0_3) rfl; have hcz40_4 := zc BK113.out 4 (.int .i64 a0_4) rfl; have hcz40_5 := zc BK113.out 5 (.int .i64 a0_5) rfl; have hcz40_6 := zc BK113.out 6 (.int .i64 a0_6) rfl; have hcz40_7 := zc BK113.out 7 (.int .i64 a0_7) rfl; have hcz40_8 := zc BK113.out 8 (.slice A0_8 l0_8.length c0_8) rfl; have hfz40_0 := zf BK113.out 0; have hfz40_1 := zf BK113.out 1; have hfz40_2 := zf BK113.out 2; have hfz40_3 := zf BK113.out 3; have hfz40_4 := zf BK113.out 4; have hfz40_5 := zf BK113.out 5; have hfz40_6 := zf BK113.out 6; have hfz40_7 := zf BK113.out 7; have hfz40_8 := zf BK113.out 8))
               go_ret
               exact ⟨by first | rfl | (simp [errW_none, errW_some] <;> rfl) | (simp [*, errW_none, errW_some] <;> rfl), by repeat (first | (with_reducible first | exact HB.out | apply zA | apply zD | apply zE | refine zS ?_ GE113.out) | exact HB.out)⟩
             ·rw [if_neg c33] at H
              have c33b0 : (t116 == 0) = false := beq_eq_false_iff_ne.mpr c33
              have c33b1 : (t116 != 0) = true := bne_iff_ne.mpr c33
              obtain rfl := Option.some.inj H
              have hcz41_0 := zc BK113.out 0 (.string a0_0) rfl
              have hcz41_1 := zc BK113.out 1 (.int .i64 a0_1) rfl
              have hcz41_2 := zc BK113.out 2 (.int .i64 a0_2) rfl
              have hcz41_3 := zc BK113.out 3 (.int .i64 a0_3) rfl
              have hcz41_4 := zc BK113.out 4 (.int .i64 a0_4) rfl
              have hcz41_5 := zc BK113.out 5 (.int .i64 a0_5) rfl
              have hcz41_6 := zc BK113.out 6 (.int .i64 a0_6) rfl
              have hcz41_7 := zc BK113.out 7 (.int .i64 a0_7) rfl
              have hcz41_8 := zc BK113.out 8 (.slice A0_8 l0_8.length c0_8) rfl
              have hfz41_0 := zf BK113.out 0
              have hfz41_1 := zf BK113.out 1
              have hfz41_2 := zf BK113.out 2
              have hfz41_3 := zf BK113.out 3
              have hfz41_4 := zf BK113.out 4
              have hfz41_5 := zf BK113.out 5
              have hfz41_6 := zf BK113.out 6
              have hfz41_7 := zf BK113.out 7
              have hfz41_8 := zf BK113.out 8
              go_wp2_with (first | ((with_reducible refine gate_callee (f := 82) rfl ?_); refine goesL_ (some 60) rfl rfl Try.func82 (by kernel_rfl) rfl #[.agg #[.int .i64 a0_6, .int .i64 a0_7]] rfl (by (try simp only [List.map_toArray, List.map_cons, List.map_nil]); first | done | rfl | (simp only [List.length_drop, List.length_take]; rfl)) ?_; (with_reducible refine (dimension_Check.calls kj22 a0_6 a0_7 t116 _ A32.out).mono ?_); rintro e w42 ⟨rfl, hb⟩; refine ⟨_, rfl, ?_⟩; have n0_ := zm (zb (g := gb113) (o := .cells #[.string a0_0, .int .i64 a0_1, .int .i64 a0_2, .int .i64 a0_3, .int .i64 a0_4, .int .i64 a0_5, .int .i64 a0_6, .int .i64 a0_7, .slice A0_8 l0_8.length c0_8] 28 (0, 0)) (by (with_reducible repeat first | apply zd | apply ze | apply za); exact BK113.out) hb); have n1_ := zm (below_step (by repeat (first | (with_reducible first | exact HB.out | apply zA | apply zD | apply zE | refine zS ?_ GE113.out) | exact HB.out)) hb); clear BK113 HB; have BK113 := n0_; have HB := n1_; clear n0_ n1_; (try clear hb); (try clear hb2); (try clear hk); (try clear hi)))
              go_ret
              exact ⟨by first | rfl | (simp [errW_none, errW_some] <;> rfl) | (simp [*, errW_none, errW_some] <;> rfl), by repeat (first | (with_reducible first | exact HB.out | apply zA | apply zD | apply zE | refine zS ?_ GE113.out) | exact HB.out)⟩
        ·replace c22 := Bool.eq_false_iff.mpr c22
         subst c22
         have H1 : (some 2) = some r := by rw [if_neg (show ¬ (false = true) by decide)] at H; exact H
         clear H
         have H := H1
         clear H1
         obtain rfl := Option.some.inj H
         have hcz43_0 := zc BK113.out 0 (.string a0_0) rfl
         have hcz43_1 := zc BK113.out 1 (.int .i64 a0_1) rfl
         have hcz43_2 := zc BK113.out 2 (.int .i64 a0_2) rfl
         have hcz43_3 := zc BK113.out 3 (.int .i64 a0_3) rfl
         have hcz43_4 := zc BK113.out 4 (.int .i64 a0_4) rfl
         have hcz43_5 := zc BK113.out 5 (.int .i64 a0_5) rfl
         have hcz43_6 := zc BK113.out 6 (.int .i64 a0_6) rfl
         have hcz43_7 := zc BK113.out 7 (.int .i64 a0_7) rfl
         have hcz43_8 := zc BK113.out 8 (.slice A0_8 l0_8.length c0_8) rfl
         have hfz43_0 := zf BK113.out 0
         have hfz43_1 := zf BK113.out 1
         have hfz43_2 := zf BK113.out 2
         have hfz43_3 := zf BK113.out 3
         have hfz43_4 := zf BK113.out 4
         have hfz43_5 := zf BK113.out 5
         have hfz43_6 := zf BK113.out 6
         have hfz43_7 := zf BK113.out 7
         have hfz43_8 := zf BK113.out 8
         go_wp2_with (first | ((with_reducible refine gate_callee (f := 81) rfl ?_); refine goesL_ (some 42) rfl rfl Try.func81 (by kernel_rfl) rfl #[.agg #[.int .i64 a0_3, .int .i64 a0_4, .int .i64 a0_5]] rfl (by (try simp only [List.map_toArray, List.map_cons, List.map_nil]); first | done | rfl | (simp only [List.length_drop, List.length_take]; rfl)) ?_; (with_reducible refine (feature_ranged.calls a0_3 a0_4 a0_5 false _ A21.out).mono ?_); rintro e w44 ⟨rfl, hb⟩; refine ⟨_, rfl, ?_⟩; have n0_ := zm (zb (g := gb113) (o := .cells #[.string a0_0, .int .i64 a0_1, .int .i64 a0_2, .int .i64 a0_3, .int .i64 a0_4, .int .i64 a0_5, .int .i64 a0_6, .int .i64 a0_7, .slice A0_8 l0_8.length c0_8] 28 (0, 0)) (by (with_reducible repeat first | apply zd | apply ze | apply za); exact BK113.out) hb); have n1_ := zm (below_step (by repeat (first | (with_reducible first | exact HB.out | apply zA | apply zD | apply zE | refine zS ?_ GE113.out) | exact HB.out)) hb); clear BK113 HB; have BK113 := n0_; have HB := n1_; clear n0_ n1_; (try clear hb); (try clear hb2); (try clear hk); (try clear hi)))
         go_ret
         exact ⟨by first | rfl | (simp [errW_none, errW_some] <;> rfl) | (simp [*, errW_none, errW_some] <;> rfl), by repeat (first | (with_reducible first | exact HB.out | apply zA | apply zD | apply zE | refine zS ?_ GE113.out) | exact HB.out)⟩
 ·rw [if_neg c3] at H
  have c3b0 : (t114 == 0) = false := beq_eq_false_iff_ne.mpr c3
  have c3b1 : (t114 != 0) = true := bne_iff_ne.mpr c3
  obtain rfl := Option.some.inj H
  go_enter Try.func29, Try.ntmps29
  go_wp2_with (first | ((with_reducible refine gate_dst (N := 1) rfl ?_); refine box_event ?hg (N := 1) ?hd (cs := #[.string a0_0, .int .i64 a0_1, .int .i64 a0_2, .int .i64 a0_3, .int .i64 a0_4, .int .i64 a0_5, .int .i64 a0_6, .int .i64 a0_7, .slice A0_8 l0_8.length c0_8]) (t := 28) ?hr ?_; (case hd => rfl); (case hg => rfl); (case hr => first | (go_simp; done) | (go_simp; rfl)); intro gb113 hg w45 hbox hb; have n0_ := zm (below_step (by repeat (first | (with_reducible first | exact HB.out | apply zA | apply zD | apply zE) | exact HB.out)) hb); have n1_ := zm (hbox); have n2_ := zm ((by rw [hg]; exact (below_size (by repeat (first | (with_reducible first | exact HB.out | apply zA | apply zD | apply zE) | exact HB.out))) : w.heap.size ≤ gb113)); have n3_ := zm ((by rw [hg]; exact (below_size (by repeat (first | (with_reducible first | exact HB.out | apply zA | apply zD | apply zE) | exact HB.out))) : w.heap.size ≤ gb113)); clear HB; have HB := n0_; have BK113 := n1_; have GW113 := n2_; have GE113 := n3_; clear n0_ n1_ n2_ n3_; clear hb hbox hg; have hcz46_0 := zc BK113.out 0 (.string a0_0) rfl; have hcz46_1 := zc BK113.out 1 (.int .i64 a0_1) rfl; have hcz46_2 := zc BK113.out 2 (.int .i64 a0_2) rfl; have hcz46_3 := zc BK113.out 3 (.int .i64 a0_3) rfl; have hcz46_4 := zc BK113.out 4 (.int .i64 a0_4) rfl; have hcz46_5 := zc BK113.out 5 (.int .i64 a0_5) rfl; have hcz46_6 := zc BK113.out 6 (.int .i64 a0_6) rfl; have hcz46_7 := zc BK113.out 7 (.int .i64 a0_7) rfl; have hcz46_8 := zc BK113.out 8 (.slice A0_8 l0_8.length c0_8) rfl; have hfz46_0 := zf BK113.out 0; have hfz46_1 := zf BK113.out 1; have hfz46_2 := zf BK113.out 2; have hfz46_3 := zf BK113.out 3; have hfz46_4 := zf BK113.out 4; have hfz46_5 := zf BK113.out 5; have hfz46_6 := zf BK113.out 6; have hfz46_7 := zf BK113.out 7; have hfz46_8 := zf BK113.out 8) | ((with_reducible refine gate_callee (f := 80) rfl ?_); refine goesL_ (some 7) rfl rfl Try.func80 (by kernel_rfl) rfl #[.string a0_0] rfl (by (try simp only [List.map_toArray, List.map_cons, List.map_nil]); first | done | rfl | (simp only [List.length_drop, List.length_take]; rfl)) ?_; (with_reducible refine (dimension_Name.calls a0_0 t114 _ A2.out).mono ?_); rintro e w47 ⟨rfl, hb⟩; refine ⟨_, rfl, ?_⟩; have n0_ := zm (zb (g := gb113) (o := .cells #[.string a0_0, .int .i64 a0_1, .int .i64 a0_2, .int .i64 a0_3, .int .i64 a0_4, .int .i64 a0_5, .int .i64 a0_6, .int .i64 a0_7, .slice A0_8 l0_8.length c0_8] 28 (0, 0)) (by (with_reducible repeat first | apply zd | apply ze | apply za); exact BK113.out) hb); have n1_ := zm (below_step (by repeat (first | (with_reducible first | exact HB.out | apply zA | apply zD | apply zE | refine zS ?_ GE113.out) | exact HB.out)) hb); clear BK113 HB; have BK113 := n0_; have HB := n1_; clear n0_ n1_; (try clear hb); (try clear hb2); (try clear hk); (try clear hi)))
  go_ret
  exact ⟨by first | rfl | (simp [errW_none, errW_some] <;> rfl) | (simp [*, errW_none, errW_some] <;> rfl), by repeat (first | (with_reducible first | exact HB.out | apply zA | apply zD | apply zE | refine zS ?_ GE113.out) | exact HB.out)⟩
end Go.Proofs.Ytkgdlbepjmgaiaa.Fea
