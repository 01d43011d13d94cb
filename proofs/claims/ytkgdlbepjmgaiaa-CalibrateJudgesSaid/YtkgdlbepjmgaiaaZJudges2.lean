/- Part 2 of the texts behind the last one of this claim. -/
import Derived.Test.YtkgdlbepjmgaiaaProg
import Derived.WalkLawsBesides
import Derived.Below
import Derived.Deep.Draws
import Derived.Deep.AppendLies
import Derived.Maps.AppendAt
import Derived.OwnWalk
import Derived.Laws.BytesArg
import Derived.Laws.MakeOwn
import Derived.Laws.OwnMore
import Derived.Deep.OwnRows
import Derived.Tactics
import Derived.Lib.ConvBytes
import Derived.Laws.Slices
import Derived.WalkKit
import Derived.KernelRfl
import Derived.RowKit3
import Derived.Deep.LoopGhost
import Derived.Deep.QuietTactic
import Derived.BigQuiet
import Derived.WideLaws
import Derived.Deep.DeepCutAuto
import Derived.Deep.CutBlock
import Derived.Deep.RegionHeld3
import Derived.Laws.Rows
import Derived.Lib.AppendStr
import Derived.ArgAppend
import Derived.Laws.IdiomCopy
import Derived.OrdersHeld
import Derived.Laws.BitsLemmas
import Derived.RowKit
import Derived.LoopTactic
import Derived.Shelf.Abstract
import Derived.Outline
import Derived.IntWalk
import Derived.RangeFuncFrom
import Derived.RangeFuncBox
import Derived.RangeFuncLeaves
import Derived.RangeFuncCalls
import Derived.OwnWalkIn
import Derived.TacticsInMore
import Derived.LoopNIn
import Derived.LoopIn
import Derived.Sort.LoopGhostIn
import Derived.RegionIn
import Derived.BigRegionIn
import Derived.Test.YtkgdlbepjmgaiaaZJudges1
namespace Go.Proofs.Ytkgdlbepjmgaiaa.Cal
open Go.RowKit Go.Proofs.YtkgdlbepjmgaiaaW.PrintWords Go.Proofs.YtkgdlbepjmgaiaaW.PrintLast Go.Proofs.YtkgdlbepjmgaiaaW.PrintMore
attribute [local go_sem] max2_int min2_int max_two min_two max_three min_three max_four min_four
set_option linter.unusedVariables false
set_option linter.unusedSimpArgs false
def errW : Option Int → Value
  | none => .nilIface
  | some c => .iface 0 (.int .i64 c)
theorem errW_none : errW none = .nilIface := rfl
theorem errW_some (c : Int) : errW (some c) = .iface 0 (.int .i64 c) := rfl
theorem info3 : (Try.prog.info? 3).map (fun i => (i.zero, i.size, i.bytes)) = some (some (.int .i64 0), 1, 8) := by kernel_rfl
theorem info9 : (Try.prog.info? 9).map (fun i => (i.zero, i.size, i.bytes)) = some (some (.string ⟨#[]⟩), 1, 16) := by kernel_rfl
theorem info68 : (Try.prog.info? 68).map (fun i => (i.zero, i.size, i.bytes)) = some (some (.agg #[(.string ⟨#[]⟩), (.string ⟨#[]⟩), (.int .i64 0), (.int .i64 0), (.int .i64 0), (.int .i64 0)]), 6, 64) := by kernel_rfl
theorem info121 : (Try.prog.info? 121).map (fun i => (i.zero, i.size, i.bytes)) = some (some (.agg #[(.string ⟨#[]⟩), (.string ⟨#[]⟩), (.int .i64 0), (.int .i64 0), (.int .i64 0), (.int .i64 0)]), 6, 64) := by kernel_rfl
structure S68 where
  f0 : ByteArray
  f1 : ByteArray
  f2 : Int
  f3 : Int
  f4 : Int
  f5 : Int
def z68 : S68 := ⟨(⟨#[]⟩ : ByteArray), (⟨#[]⟩ : ByteArray), (0 : Int), (0 : Int), (0 : Int), (0 : Int)⟩
def k68 : Kd S68 := Kd.iso (Kd.pair Kd.string (Kd.pair Kd.string (Kd.pair (Kd.int .i64) (Kd.pair (Kd.int .i64) (Kd.pair (Kd.int .i64) (Kd.int .i64)))))) (fun x : S68 => (x.f0, x.f1, x.f2, x.f3, x.f4, x.f5))
theorem k68_open {w : World} {x : S68} {cs : List Value} (h : k68.K w x cs) : cs = [.string x.f0, .string x.f1, .int .i64 x.f2, .int .i64 x.f3, .int .i64 x.f4, .int .i64 x.f5] := by
  obtain ⟨_, _, rfl, rfl, ⟨_, _, rfl, rfl, ⟨_, _, rfl, rfl, ⟨_, _, rfl, rfl, ⟨_, _, rfl, rfl, rfl⟩⟩⟩⟩⟩ := h
  exact rfl
theorem k68_openM {w : World} {base : Nat} {ok : Nat → Prop} {x : S68} {cs : List Value} (h : k68.M w base ok x cs) : cs = [.string x.f0, .string x.f1, .int .i64 x.f2, .int .i64 x.f3, .int .i64 x.f4, .int .i64 x.f5] := by
  obtain ⟨_, _, rfl, rfl, ⟨_, _, rfl, rfl, ⟨_, _, rfl, rfl, ⟨_, _, rfl, rfl, ⟨_, _, rfl, rfl, rfl⟩⟩⟩⟩⟩ := h
  exact rfl
theorem k68_mk (w : World) (x : S68)  : k68.K w x [.string x.f0, .string x.f1, .int .i64 x.f2, .int .i64 x.f3, .int .i64 x.f4, .int .i64 x.f5] := ⟨[.string x.f0], [.string x.f1, .int .i64 x.f2, .int .i64 x.f3, .int .i64 x.f4, .int .i64 x.f5], rfl, rfl, ⟨[.string x.f1], [.int .i64 x.f2, .int .i64 x.f3, .int .i64 x.f4, .int .i64 x.f5], rfl, rfl, ⟨[.int .i64 x.f2], [.int .i64 x.f3, .int .i64 x.f4, .int .i64 x.f5], rfl, rfl, ⟨[.int .i64 x.f3], [.int .i64 x.f4, .int .i64 x.f5], rfl, rfl, ⟨[.int .i64 x.f4], [.int .i64 x.f5], rfl, rfl, rfl⟩⟩⟩⟩⟩
theorem k68_mkM (w : World) (base : Nat) (ok : Nat → Prop) (x : S68)  : k68.M w base ok x [.string x.f0, .string x.f1, .int .i64 x.f2, .int .i64 x.f3, .int .i64 x.f4, .int .i64 x.f5] := ⟨[.string x.f0], [.string x.f1, .int .i64 x.f2, .int .i64 x.f3, .int .i64 x.f4, .int .i64 x.f5], rfl, rfl, ⟨[.string x.f1], [.int .i64 x.f2, .int .i64 x.f3, .int .i64 x.f4, .int .i64 x.f5], rfl, rfl, ⟨[.int .i64 x.f2], [.int .i64 x.f3, .int .i64 x.f4, .int .i64 x.f5], rfl, rfl, ⟨[.int .i64 x.f3], [.int .i64 x.f4, .int .i64 x.f5], rfl, rfl, ⟨[.int .i64 x.f4], [.int .i64 x.f5], rfl, rfl, rfl⟩⟩⟩⟩⟩
def rd_T68 (xs : List S68) (i : Int) : S68 := xs.getD i.toNat z68
theorem at_T68 {w : World} {A : Option Addr} {n : Nat} {xs : List S68} (h : Kd.C k68 w A n xs) (i : Int) (h0 : 0 ≤ i) (h1 : i < n) : ∃ ad , A = some ad ∧ w.cell? (ad.add (i.toNat * 6)) = some (.string (rd_T68 xs i).f0) ∧ w.cell? ⟨(ad.add (i.toNat * 6)).block, (ad.add (i.toNat * 6)).off + 1, none⟩ = some (.string (rd_T68 xs i).f1) ∧ w.cell? ⟨(ad.add (i.toNat * 6)).block, (ad.add (i.toNat * 6)).off + 2, none⟩ = some (.int .i64 (rd_T68 xs i).f2) ∧ w.cell? ⟨(ad.add (i.toNat * 6)).block, (ad.add (i.toNat * 6)).off + 3, none⟩ = some (.int .i64 (rd_T68 xs i).f3) ∧ w.cell? ⟨(ad.add (i.toNat * 6)).block, (ad.add (i.toNat * 6)).off + 4, none⟩ = some (.int .i64 (rd_T68 xs i).f4) ∧ w.cell? ⟨(ad.add (i.toNat * 6)).block, (ad.add (i.toNat * 6)).off + 5, none⟩ = some (.int .i64 (rd_T68 xs i).f5) := by
  obtain ⟨ad, c, e, _, hK, hc0⟩ := Kd.C_get h z68 i h0 h1
  have hc : ∀ j u, c[j]? = some u → w.cell? (ad.add (i.toNat * 6 + j)) = some u := hc0
  obtain rfl := k68_open hK
  exact ⟨ad, e, hc 0 _ rfl, by rw [← add_field _ _ 1 (by omega)]; exact hc 1 _ rfl, by rw [← add_field _ _ 2 (by omega)]; exact hc 2 _ rfl, by rw [← add_field _ _ 3 (by omega)]; exact hc 3 _ rfl, by rw [← add_field _ _ 4 (by omega)]; exact hc 4 _ rfl, by rw [← add_field _ _ 5 (by omega)]; exact hc 5 _ rfl⟩
structure S121 where
  f0 : ByteArray
  f1 : ByteArray
  f2 : Int
  f3 : Int
  f4 : Int
  f5 : Int
def z121 : S121 := ⟨(⟨#[]⟩ : ByteArray), (⟨#[]⟩ : ByteArray), (0 : Int), (0 : Int), (0 : Int), (0 : Int)⟩
def k121 : Kd S121 := Kd.iso (Kd.pair Kd.string (Kd.pair Kd.string (Kd.pair (Kd.int .i64) (Kd.pair (Kd.int .i64) (Kd.pair (Kd.int .i64) (Kd.int .i64)))))) (fun x : S121 => (x.f0, x.f1, x.f2, x.f3, x.f4, x.f5))
theorem k121_open {w : World} {x : S121} {cs : List Value} (h : k121.K w x cs) : cs = [.string x.f0, .string x.f1, .int .i64 x.f2, .int .i64 x.f3, .int .i64 x.f4, .int .i64 x.f5] := by
  obtain ⟨_, _, rfl, rfl, ⟨_, _, rfl, rfl, ⟨_, _, rfl, rfl, ⟨_, _, rfl, rfl, ⟨_, _, rfl, rfl, rfl⟩⟩⟩⟩⟩ := h
  exact rfl
theorem k121_openM {w : World} {base : Nat} {ok : Nat → Prop} {x : S121} {cs : List Value} (h : k121.M w base ok x cs) : cs = [.string x.f0, .string x.f1, .int .i64 x.f2, .int .i64 x.f3, .int .i64 x.f4, .int .i64 x.f5] := by
  obtain ⟨_, _, rfl, rfl, ⟨_, _, rfl, rfl, ⟨_, _, rfl, rfl, ⟨_, _, rfl, rfl, ⟨_, _, rfl, rfl, rfl⟩⟩⟩⟩⟩ := h
  exact rfl
theorem k121_mk (w : World) (x : S121)  : k121.K w x [.string x.f0, .string x.f1, .int .i64 x.f2, .int .i64 x.f3, .int .i64 x.f4, .int .i64 x.f5] := ⟨[.string x.f0], [.string x.f1, .int .i64 x.f2, .int .i64 x.f3, .int .i64 x.f4, .int .i64 x.f5], rfl, rfl, ⟨[.string x.f1], [.int .i64 x.f2, .int .i64 x.f3, .int .i64 x.f4, .int .i64 x.f5], rfl, rfl, ⟨[.int .i64 x.f2], [.int .i64 x.f3, .int .i64 x.f4, .int .i64 x.f5], rfl, rfl, ⟨[.int .i64 x.f3], [.int .i64 x.f4, .int .i64 x.f5], rfl, rfl, ⟨[.int .i64 x.f4], [.int .i64 x.f5], rfl, rfl, rfl⟩⟩⟩⟩⟩
theorem k121_mkM (w : World) (base : Nat) (ok : Nat → Prop) (x : S121)  : k121.M w base ok x [.string x.f0, .string x.f1, .int .i64 x.f2, .int .i64 x.f3, .int .i64 x.f4, .int .i64 x.f5] := ⟨[.string x.f0], [.string x.f1, .int .i64 x.f2, .int .i64 x.f3, .int .i64 x.f4, .int .i64 x.f5], rfl, rfl, ⟨[.string x.f1], [.int .i64 x.f2, .int .i64 x.f3, .int .i64 x.f4, .int .i64 x.f5], rfl, rfl, ⟨[.int .i64 x.f2], [.int .i64 x.f3, .int .i64 x.f4, .int .i64 x.f5], rfl, rfl, ⟨[.int .i64 x.f3], [.int .i64 x.f4, .int .i64 x.f5], rfl, rfl, ⟨[.int .i64 x.f4], [.int .i64 x.f5], rfl, rfl, rfl⟩⟩⟩⟩⟩
def rd_T121 (xs : List S121) (i : Int) : S121 := xs.getD i.toNat z121
theorem at_T121 {w : World} {A : Option Addr} {n : Nat} {xs : List S121} (h : Kd.C k121 w A n xs) (i : Int) (h0 : 0 ≤ i) (h1 : i < n) : ∃ ad , A = some ad ∧ w.cell? (ad.add (i.toNat * 6)) = some (.string (rd_T121 xs i).f0) ∧ w.cell? ⟨(ad.add (i.toNat * 6)).block, (ad.add (i.toNat * 6)).off + 1, none⟩ = some (.string (rd_T121 xs i).f1) ∧ w.cell? ⟨(ad.add (i.toNat * 6)).block, (ad.add (i.toNat * 6)).off + 2, none⟩ = some (.int .i64 (rd_T121 xs i).f2) ∧ w.cell? ⟨(ad.add (i.toNat * 6)).block, (ad.add (i.toNat * 6)).off + 3, none⟩ = some (.int .i64 (rd_T121 xs i).f3) ∧ w.cell? ⟨(ad.add (i.toNat * 6)).block, (ad.add (i.toNat * 6)).off + 4, none⟩ = some (.int .i64 (rd_T121 xs i).f4) ∧ w.cell? ⟨(ad.add (i.toNat * 6)).block, (ad.add (i.toNat * 6)).off + 5, none⟩ = some (.int .i64 (rd_T121 xs i).f5) := by
  obtain ⟨ad, c, e, _, hK, hc0⟩ := Kd.C_get h z121 i h0 h1
  have hc : ∀ j u, c[j]? = some u → w.cell? (ad.add (i.toNat * 6 + j)) = some u := hc0
  obtain rfl := k121_open hK
  exact ⟨ad, e, hc 0 _ rfl, by rw [← add_field _ _ 1 (by omega)]; exact hc 1 _ rfl, by rw [← add_field _ _ 2 (by omega)]; exact hc 2 _ rfl, by rw [← add_field _ _ 3 (by omega)]; exact hc 3 _ rfl, by rw [← add_field _ _ 4 (by omega)]; exact hc 4 _ rfl, by rw [← add_field _ _ 5 (by omega)]; exact hc 5 _ rfl⟩
def rd_L4 (xs : List (List S68)) (i : Int) : (List S68) := xs.getD i.toNat ([] : List S68)
theorem at_L4 {w : World} {A : Option Addr} {n : Nat} {xs : List (List S68)} (h : Kd.C (Kd.slice 68 k68) w A n xs) (i : Int) (h0 : 0 ≤ i) (h1 : i < n) : ∃ ad A0 c0, A = some ad ∧ w.cell? (ad.add i.toNat) = some (.slice A0 (rd_L4 xs i).length c0) ∧ (rd_L4 xs i).length ≤ c0 ∧ k68.C w A0 (rd_L4 xs i).length (rd_L4 xs i) := by
  obtain ⟨ad, c, e, _, hK, hc0⟩ := Kd.C_get h ([] : List S68) i h0 h1
  have hc : ∀ j u, c[j]? = some u → w.cell? (ad.add (i.toNat * 1 + j)) = some u := hc0
  obtain ⟨A0, c0, rfl, l0, g0⟩ := hK
  exact ⟨ad, A0, c0, e, by have hq := hc 0 _ rfl; rwa [Nat.mul_one, Nat.add_zero] at hq, l0, g0⟩
def rd_L5 (xs : List (List Int)) (i : Int) : (List Int) := xs.getD i.toNat ([] : List Int)
theorem at_L5 {w : World} {A : Option Addr} {n : Nat} {xs : List (List Int)} (h : Kd.C (Kd.slice 3 (Kd.int .i64)) w A n xs) (i : Int) (h0 : 0 ≤ i) (h1 : i < n) : ∃ ad A0 c0, A = some ad ∧ w.cell? (ad.add i.toNat) = some (.slice A0 (rd_L5 xs i).length c0) ∧ (rd_L5 xs i).length ≤ c0 ∧ (Kd.int .i64).C w A0 (rd_L5 xs i).length (rd_L5 xs i) := by
  obtain ⟨ad, c, e, _, hK, hc0⟩ := Kd.C_get h ([] : List Int) i h0 h1
  have hc : ∀ j u, c[j]? = some u → w.cell? (ad.add (i.toNat * 1 + j)) = some u := hc0
  obtain ⟨A0, c0, rfl, l0, g0⟩ := hK
  exact ⟨ad, A0, c0, e, by have hq := hc 0 _ rfl; rwa [Nat.mul_one, Nat.add_zero] at hq, l0, g0⟩
def rd_L6 (xs : List (List ByteArray)) (i : Int) : (List ByteArray) := xs.getD i.toNat ([] : List ByteArray)
theorem at_L6 {w : World} {A : Option Addr} {n : Nat} {xs : List (List ByteArray)} (h : Kd.C (Kd.slice 9 Kd.string) w A n xs) (i : Int) (h0 : 0 ≤ i) (h1 : i < n) : ∃ ad A0 c0, A = some ad ∧ w.cell? (ad.add i.toNat) = some (.slice A0 (rd_L6 xs i).length c0) ∧ (rd_L6 xs i).length ≤ c0 ∧ Kd.string.C w A0 (rd_L6 xs i).length (rd_L6 xs i) := by
  obtain ⟨ad, c, e, _, hK, hc0⟩ := Kd.C_get h ([] : List ByteArray) i h0 h1
  have hc : ∀ j u, c[j]? = some u → w.cell? (ad.add (i.toNat * 1 + j)) = some u := hc0
  obtain ⟨A0, c0, rfl, l0, g0⟩ := hK
  exact ⟨ad, A0, c0, e, by have hq := hc 0 _ rfl; rwa [Nat.mul_one, Nat.add_zero] at hq, l0, g0⟩
end Go.Proofs.Ytkgdlbepjmgaiaa.Cal
set_option linter.unusedVariables false
set_option linter.unusedSimpArgs false
namespace Go.Proofs.Ytkgdlbepjmgaiaa.Cal
open Go.RowKit Go.Proofs.YtkgdlbepjmgaiaaW.PrintWords Go.Proofs.YtkgdlbepjmgaiaaW.PrintLast Go.Proofs.YtkgdlbepjmgaiaaW.PrintMore
def p1 (name : ByteArray) (r : S68) : Bool := !(Op.bytesLess r.f0.toList name.toList)
def p2 (name : ByteArray) (on : Int) (r : S68) : Bool := (!(Op.bytesLess r.f0.toList name.toList || r.f0.toList == name.toList)) || (r.f0.toList == name.toList && decide (on < r.f4))
set_option maxHeartbeats 1000000 in
theorem valid1_calls (b3 b4 : Nat) (A0 : Option Addr) (c0 : Nat) (l : List S68) (name : ByteArray) (i : Nat) (W : World) (hi : i < l.length)
    (h3 : W.cell? ⟨b3, 0, none⟩ = some (.slice A0 l.length c0)) (h4 : W.cell? ⟨b4, 0, none⟩ = some (.string name)) (hC : Kd.C k68 W A0 l.length l) :
    Calls Try.prog 120 (#[.int .i64 i] ++ #[.pointer (some ⟨b3, 0, none⟩), .pointer (some ⟨b4, 0, none⟩)]) W fun e w' => e = .returned (.bool (p1 name (rd_T68 l i))) ∧ ∃ q, w' = W.drewN q := by
  have hu68 := Try.underlying68
  obtain ⟨ad, rfl, hx0, hx1, hx2, hx3, hx4, hx5⟩ := at_T68 hC i (by omega) (by omega)
  clear hC
  have hi' : (i : Int) < (l.length : Int) := by omega
  have hv : p1 name (rd_T68 l i) = !(Op.bytesLess (rd_T68 l i).f0.toList name.toList) := rfl
  have HV := Aside0.mk hv
  clear hv hi
  rw [Int.toNat_natCast] at hx0 hx1 hx2 hx3 hx4 hx5
  generalize rd_T68 l i = r at *
  go_enter Try.func120, Try.ntmps120
  go_wp2
  go_quiet (fail)
  go_wp2
  go_ret
  exact ⟨by rw [HV.out]; rfl, _, rfl⟩
set_option maxHeartbeats 2000000 in
theorem valid2_calls (b3 b4 b5 : Nat) (A0 : Option Addr) (c0 : Nat) (l : List S68) (name : ByteArray) (on : Int) (i : Nat) (W : World) (hi : i < l.length)
    (h3 : W.cell? ⟨b3, 0, none⟩ = some (.slice A0 l.length c0)) (h4 : W.cell? ⟨b4, 0, none⟩ = some (.string name)) (h5 : W.cell? ⟨b5, 0, none⟩ = some (.int .i64 on)) (hC : Kd.C k68 W A0 l.length l) :
    Calls Try.prog 121 (#[.int .i64 i] ++ #[.pointer (some ⟨b3, 0, none⟩), .pointer (some ⟨b4, 0, none⟩), .pointer (some ⟨b5, 0, none⟩)]) W fun e w' => e = .returned (.bool (p2 name on (rd_T68 l i))) ∧ ∃ q, w' = W.drewN q := by
  have hu68 := Try.underlying68
  obtain ⟨ad, rfl, hx0, hx1, hx2, hx3, hx4, hx5⟩ := at_T68 hC i (by omega) (by omega)
  clear hC
  have hi' : (i : Int) < (l.length : Int) := by omega
  have hv : p2 name on (rd_T68 l i) = ((!(Op.bytesLess (rd_T68 l i).f0.toList name.toList || (rd_T68 l i).f0.toList == name.toList)) || ((rd_T68 l i).f0.toList == name.toList && decide (on < (rd_T68 l i).f4))) := rfl
  have HV := Aside0.mk hv
  clear hv hi
  rw [Int.toNat_natCast] at hx0 hx1 hx2 hx3 hx4 hx5
  generalize rd_T68 l i = r at *
  cases e1 : Op.bytesLess r.f0.toList name.toList <;> cases e2 : (r.f0.toList == name.toList) <;> by_cases e3 : on < r.f4
  all_goals
    go_enter Try.func121, Try.ntmps121
    go_wp2
    go_quiet (fail)
    go_wp2
    go_ret
    exact ⟨by rw [HV.out, e1, e2]; simp [e3], _, rfl⟩
def cntF (p : Nat → Bool) : Nat → Nat
  | 0 => 0
  | n + 1 => cntF p n + if p n then 0 else 1
theorem cntF_at (p : Nat → Bool) (c n : Nat) (hc : c ≤ n) (h1 : ∀ t, t < c → p t = false) (h2 : ∀ t, c ≤ t → t < n → p t = true) : cntF p n = c := by
  induction n with
  | zero => simp only [cntF]; omega
  | succ n ih =>
    simp only [cntF]
    rcases Nat.lt_or_ge n c with h | h
    · have e : c = n + 1 := by omega
      have hn := h1 n h
      have : cntF p n = n := by
        clear ih h2 hc
        subst e
        have : ∀ m, m ≤ n → cntF p m = m := by
          intro m
          induction m with
          | zero => intro _; rfl
          | succ m ihm => intro hm; simp only [cntF]; rw [ihm (by omega), h1 m (by omega)]; simp
        exact this n (Nat.le_refl _)
      rw [this, hn, e]; simp
    · rw [ih h (fun t a b => h2 t a (by omega)), h2 n h (by omega)]; simp
set_option maxHeartbeats 4000000 in
set_option maxRecDepth 100000 in
theorem search_calls (g : Nat) (cb : Array Value) (n : Nat) (p : Nat → Bool) (w : World) (eg : ∀ args w, (callFunc g args).run Try.prog w = .ok (.enter g args) w) (hsz : n < 4611686018427387904)
    (hf : ∀ (m : Nat) (i : Nat), i < n → Calls Try.prog g (#[.int .i64 i] ++ cb) (w.drewN m) fun e w' => e = .returned (.bool (p i)) ∧ ∃ q, w' = (w.drewN m).drewN q)
    (hmono : ∀ a b, a ≤ b → b < n → p a = true → p b = true) :
    Calls Try.prog 119 #[.int .i64 n, .func (.func g) #[] cb] w fun e w' => e = .returned (.int .i64 (cntF p n : Nat)) ∧ ∃ q, w' = w.drewN q := by
  have HF := Aside0.mk hf
  have M := Aside0.mk hmono
  clear hf hmono
  generalize hcnt : cntF p n = cnt
  have CN := Aside0.mk hcnt
  clear hcnt
  go_enter Try.func119, Try.ntmps119
  go_wp2
  go_loopg [5, 6] n (fun kx s5 s6 wr => ∃ (lo hi q : Nat), s5 = .int .i64 lo ∧ s6 = .int .i64 hi ∧ lo ≤ hi ∧ hi ≤ n ∧ hi - lo ≤ kx ∧ wr = w.drewN q ∧
    Aside0 ((∀ t, t < lo → p t = false) ∧ (∀ t, hi ≤ t → t < n → p t = true)))
  case atStart => exact ⟨0, n, 0, rfl, rfl, Nat.zero_le _, Nat.le_refl _, by omega, rfl, ⟨fun t ht => absurd ht (Nat.not_lt_zero _), fun t h1 h2 => by omega⟩⟩
  case round =>
    obtain ⟨lo, hi, q, rfl, rfl, hlh, hin, hg, rfl, I⟩ := hrel
    by_cases hlt : lo < hi
    · have hc := HF.out q ((lo + hi) / 2) (by omega)
      rw [show (((lo + hi) / 2 : Nat) : Int) = ((lo : Int) + (hi : Int)) / 2 by omega] at hc
      cases hp : p ((lo + hi) / 2) <;> rw [hp] at hc
      · have HP := Aside0.mk hp
        clear hp
        go_wp2_with (go_at_fn g; refine hc.mono ?_; rintro e w' ⟨rfl, nq, rfl⟩)
        go_roundg (hi - ((lo + hi) / 2 + 1))
        case measure => omega
        case rel =>
          have I2 : Aside0 ((∀ t, t < (lo + hi) / 2 + 1 → p t = false) ∧ (∀ t, hi ≤ t → t < n → p t = true)) := ⟨fun t ht => (by
            cases h : p t with
            | false => rfl
            | true => have := M.out t ((lo + hi) / 2) (by omega) (by omega) h; rw [HP.out] at this; cases this), I.out.2⟩
          exact ⟨(lo + hi) / 2 + 1, hi, q + nq, by rw [show ((lo : Int) + (hi : Int)) / 2 + 1 = (((lo + hi) / 2 + 1 : Nat) : Int) by omega], rfl, by omega, hin, Nat.le_refl _, rfl, I2⟩
      · have HP := Aside0.mk hp
        clear hp
        go_wp2_with (go_at_fn g; refine hc.mono ?_; rintro e w' ⟨rfl, nq, rfl⟩)
        go_roundg ((lo + hi) / 2 - lo)
        case measure => omega
        case rel =>
          have I2 : Aside0 ((∀ t, t < lo → p t = false) ∧ (∀ t, (lo + hi) / 2 ≤ t → t < n → p t = true)) := ⟨I.out.1, fun t ht htn => M.out ((lo + hi) / 2) t ht htn HP.out⟩
          exact ⟨lo, (lo + hi) / 2, q + nq, rfl, by rw [show ((lo : Int) + (hi : Int)) / 2 = (((lo + hi) / 2 : Nat) : Int) by omega], by omega, by omega, Nat.le_refl _, rfl, I2⟩
    · obtain rfl : hi = lo := by omega
      have ecnt : cnt = hi := by rw [← CN.out]; exact cntF_at p hi n hin I.out.1 I.out.2
      subst ecnt
      go_wp2
      go_ret
      exact ⟨rfl, q, rfl⟩
def monoB (p : S68 → Bool) : List S68 → Bool
  | [] => true
  | x :: t => (!(p x) || t.all p) && monoB p t
theorem monoB_at (p : S68 → Bool) (l : List S68) (h : monoB p l = true) : ∀ a b : Nat, a ≤ b → b < l.length → p (rd_T68 l a) = true → p (rd_T68 l b) = true := by
  induction l with
  | nil => intro a b _ hb; simp at hb
  | cons x t ih =>
    intro a b hab hb ha
    simp only [monoB, Bool.and_eq_true] at h
    cases b with
    | zero => obtain rfl : a = 0 := by omega
              exact ha
    | succ b =>
      have hb' : b < t.length := by simp at hb; omega
      cases a with
      | zero =>
        have hx : p x = true := by simpa [rd_T68] using ha
        have h1 := h.1
        rw [hx] at h1
        simp only [Bool.not_true, Bool.false_or, List.all_eq_true] at h1
        have : rd_T68 (x :: t) ((b + 1 : Nat) : Int) = t[b] := by simp [rd_T68, List.getD_eq_getElem?_getD, hb']
        rw [this]
        exact h1 _ (List.getElem_mem hb')
      | succ a =>
        have e : ∀ k : Nat, rd_T68 (x :: t) ((k + 1 : Nat) : Int) = rd_T68 t (k : Int) := by intro k; simp [rd_T68, List.getD_eq_getElem?_getD]
        rw [e] at ha ⊢
        exact ih h.2 a b (by omega) hb' ha
def validAt (l : List S68) (name : ByteArray) (on : Int) (c1 c2 : Nat) : Int × Int :=
  if c1 = l.length then (0, 6) else if (rd_T68 l c1).f0.toList ≠ name.toList then (0, 6) else if (c2 : Int) - 1 < c1 then (0, 14) else if (rd_T68 l ((c2 : Int) - 1)).f5 < on then (0, 14) else ((c2 : Int) - 1, 0)
def c1Of (l : List S68) (name : ByteArray) : Nat := cntF (fun i => p1 name (rd_T68 l i)) l.length
def c2Of (l : List S68) (name : ByteArray) (on : Int) : Nat := cntF (fun i => p2 name on (rd_T68 l i)) l.length
def validF (l : List S68) (name : ByteArray) (on : Int) : Option (Int × Int) :=
  if l.length < 4611686018427387904 then if monoB (p1 name) l = true then if monoB (p2 name on) l = true then some (validAt l name on (c1Of l name) (c2Of l name on)) else none else none else none
theorem cntF_le (p : Nat → Bool) (n : Nat) : cntF p n ≤ n := by
  induction n with
  | zero => simp [cntF]
  | succ n ih => simp only [cntF]; split <;> omega
theorem eg120 : ∀ args w, (callFunc 120 args).run Try.prog w = .ok (.enter 120 args) w := enters_of Try.func120 (by kernel_rfl) rfl
theorem eg121 : ∀ args w, (callFunc 121 args).run Try.prog w = .ok (.enter 121 args) w := enters_of Try.func121 (by kernel_rfl) rfl
end Go.Proofs.Ytkgdlbepjmgaiaa.Cal
set_option linter.unusedVariables false
set_option linter.unusedSimpArgs false
namespace Go.Proofs.Ytkgdlbepjmgaiaa.Cal
open Go.RowKit
theorem bl_irr : ∀ x : List UInt8, Op.bytesLess x x = false
  | [] => rfl
  | a :: x => by
    rw [Op.bytesLess, bl_irr x]
    simp
theorem bl_tri : ∀ x y : List UInt8, Op.bytesLess x y = true ∨ x = y ∨ Op.bytesLess y x = true
  | [], [] => .inr (.inl rfl)
  | [], _ :: _ => .inl rfl
  | _ :: _, [] => .inr (.inr rfl)
  | a :: x, b :: y => by
    simp only [Op.bytesLess, Bool.or_eq_true, decide_eq_true_eq, Bool.and_eq_true, beq_iff_eq]
    rcases bl_tri x y with h | h | h
    · rcases Nat.lt_trichotomy a.toNat b.toNat with g | g | g
      · exact .inl (.inl g)
      · exact .inl (.inr ⟨UInt8.toNat_inj.1 g, h⟩)
      · exact .inr (.inr (.inl g))
    · rcases Nat.lt_trichotomy a.toNat b.toNat with g | g | g
      · exact .inl (.inl g)
      · exact .inr (.inl (by rw [h, UInt8.toNat_inj.1 g]))
      · exact .inr (.inr (.inl g))
    · rcases Nat.lt_trichotomy a.toNat b.toNat with g | g | g
      · exact .inl (.inl g)
      · exact .inr (.inr (.inr ⟨(UInt8.toNat_inj.1 g).symm, h⟩))
      · exact .inr (.inr (.inl g))
theorem bl_trans : ∀ x y z : List UInt8, Op.bytesLess x y = true → Op.bytesLess y z = true → Op.bytesLess x z = true
  | [], _, [], _, h => by
    cases h2 : (‹List UInt8›) <;> rw [h2] at h <;> simp [Op.bytesLess] at h
  | [], _, _ :: _, _, _ => rfl
  | _ :: _, [], _, h, _ => by simp [Op.bytesLess] at h
  | _ :: _, _ :: _, [], _, h => by simp [Op.bytesLess] at h
  | a :: x, b :: y, c :: z, h, k => by
    simp only [Op.bytesLess, Bool.or_eq_true, decide_eq_true_eq, Bool.and_eq_true, beq_iff_eq] at h k ⊢
    rcases h with h | ⟨rfl, h⟩
    · rcases k with k | ⟨rfl, k⟩
      · exact .inl (UInt8.lt_trans h k)
      · exact .inl h
    · rcases k with k | ⟨rfl, k⟩
      · exact .inl k
      · exact .inr ⟨rfl, bl_trans x y z h k⟩
theorem bl_asym {x y : List UInt8} (h : Op.bytesLess x y = true) : Op.bytesLess y x = false := by
  cases k : Op.bytesLess y x with
  | false => rfl
  | true => exact absurd (bl_trans _ _ _ h k) (by rw [bl_irr]; decide)
theorem bl_ne {x y : List UInt8} (h : Op.bytesLess x y = true) : x ≠ y := by
  rintro rfl
  rw [bl_irr] at h
  cases h
theorem bl_le_lt {x y z : List UInt8} (h : Op.bytesLess y x = false) (k : Op.bytesLess y z = true) : Op.bytesLess x z = true := by
  rcases bl_tri x y with g | rfl | g
  · exact bl_trans _ _ _ g k
  · exact k
  · rw [h] at g; cases g
theorem bl_lt_le {x y z : List UInt8} (h : Op.bytesLess x y = true) (k : Op.bytesLess z y = false) : Op.bytesLess x z = true := by
  rcases bl_tri y z with g | rfl | g
  · exact bl_trans _ _ _ h g
  · exact h
  · rw [k] at g; cases g
abbrev tl (s : ByteArray) : List UInt8 := s.data.toList
def Bef (x y : S68) : Prop := Op.bytesLess (tl x.f0) (tl y.f0) = true ∨ (tl x.f0 = tl y.f0 ∧ x.f5 < y.f4)
def Ord (l : List S68) : Prop := (∀ i : Nat, i < l.length → (rd_T68 l i).f4 ≤ (rd_T68 l i).f5) ∧ ∀ i j : Nat, i < j → j < l.length → Bef (rd_T68 l i) (rd_T68 l j)
theorem Bef.trans {x y z : S68} (h : Bef x y) (k : Bef y z) (hy : y.f4 ≤ y.f5) : Bef x z := by
  unfold Bef at *
  rcases h with h | ⟨h, h'⟩
  · rcases k with k | ⟨k, k'⟩
    · exact .inl (bl_trans _ _ _ h k)
    · exact .inl (k ▸ h)
  · rcases k with k | ⟨k, k'⟩
    · exact .inl (h ▸ k)
    · exact .inr ⟨h.trans k, by omega⟩
theorem Ord.of {l : List S68} (h : ∀ i : Nat, i < l.length → (rd_T68 l i).f4 ≤ (rd_T68 l i).f5) (k : ∀ i : Nat, i + 1 < l.length → Bef (rd_T68 l i) (rd_T68 l (i + 1 : Nat))) : Ord l := by
  refine ⟨h, fun i j hij hj => ?_⟩
  induction j with
  | zero => omega
  | succ j ih =>
    rcases Nat.lt_or_ge i j with g | g
    · exact (ih g (by omega)).trans (k j hj) (h j (by omega))
    · obtain rfl : i = j := by omega
      exact k i hj
theorem monoB_of (p : S68 → Bool) (l : List S68) (h : ∀ a b : Nat, a < b → b < l.length → p (rd_T68 l a) = true → p (rd_T68 l b) = true) : monoB p l = true := by
  induction l with
  | nil => rfl
  | cons x t ih =>
    have e : ∀ k : Nat, rd_T68 (x :: t) ((k + 1 : Nat) : Int) = rd_T68 t (k : Int) := by intro k; simp [rd_T68, List.getD_eq_getElem?_getD]
    have e0 : rd_T68 (x :: t) ((0 : Nat) : Int) = x := by simp [rd_T68]
    simp only [monoB, Bool.and_eq_true, Bool.or_eq_true, List.all_eq_true, Bool.not_eq_true']
    constructor
    · cases hx : p x with
      | false => exact .inl rfl
      | true =>
        right
        intro y hy
        obtain ⟨k, hk, rfl⟩ := List.mem_iff_getElem.1 hy
        have := h 0 (k + 1) (by omega) (by simp; omega) (by rw [e0]; exact hx)
        rw [e] at this
        rw [show t[k] = rd_T68 t (k : Int) by simp [rd_T68, List.getD_eq_getElem?_getD, hk]]
        exact this
    · refine ih (fun a b hab hb ha => ?_)
      have := h (a + 1) (b + 1) (by omega) (by simp; omega) (by rw [e]; exact ha)
      rw [e] at this
      exact this
theorem cntF_spec (p : Nat → Bool) (n : Nat) (h : ∀ a b, a < b → b < n → p a = true → p b = true) : (∀ t, t < cntF p n → p t = false) ∧ (∀ t, cntF p n ≤ t → t < n → p t = true) := by
  induction n with
  | zero => exact ⟨fun t ht => absurd ht (Nat.not_lt_zero _), fun t _ ht => absurd ht (Nat.not_lt_zero _)⟩
  | succ n ih =>
    obtain ⟨i1, i2⟩ := ih (fun a b hab hb => h a b hab (by omega))
    have hle := cntF_le p n
    simp only [cntF]
    cases hp : p n with
    | true =>
      simp only [if_true, Nat.add_zero]
      refine ⟨i1, fun t ht htn => ?_⟩
      rcases Nat.lt_or_ge t n with g | g
      · exact i2 t ht g
      · obtain rfl : t = n := by omega
        exact hp
    | false =>
      have all : ∀ t, t < n → p t = false := by
        intro t ht
        cases g : p t with
        | false => rfl
        | true => have := h t n ht (by omega) g; rw [hp] at this; cases this
      have e : cntF p n = n := by
        rcases Nat.lt_or_ge (cntF p n) n with g | g
        · have := i2 _ (Nat.le_refl _) g; rw [all _ g] at this; cases this
        · omega
      simp only [Bool.false_eq_true, if_false, e]
      refine ⟨fun t ht => ?_, fun t ht htn => by omega⟩
      rcases Nat.lt_or_ge t n with g | g
      · exact all t g
      · obtain rfl : t = n := by omega
        exact hp
def Fits (x : S68) (nm : ByteArray) (on : Int) : Prop := tl x.f0 = tl nm ∧ x.f4 ≤ on ∧ on ≤ x.f5
def plG (l : List S68) (nm : ByteArray) (on : Int) : Int → Nat → Nat → Int × Int
  | e, _, 0 => (0, e)
  | e, i, n + 1 => if tl (rd_T68 l i).f0 = tl nm then (if (rd_T68 l i).f4 ≤ on then (if on ≤ (rd_T68 l i).f5 then ((i : Int), 0) else plG l nm on 14 (i + 1) n) else plG l nm on 14 (i + 1) n) else plG l nm on e (i + 1) n
def placeV (l : List S68) (nm : ByteArray) (on : Int) : Int × Int := plG l nm on 6 0 l.length
theorem plG_at {l : List S68} {nm : ByteArray} {on : Int} (j : Nat) : ∀ (n i : Nat) (e : Int), i ≤ j → j < i + n → Fits (rd_T68 l j) nm on → (∀ t : Nat, i ≤ t → t < j → ¬ Fits (rd_T68 l t) nm on) → plG l nm on e i n = ((j : Int), 0) := by
  intro n
  induction n with
  | zero => intro i e h1 h2; omega
  | succ n ih =>
    intro i e h1 h2 hf hn
    simp only [plG]
    rcases Nat.lt_or_ge i j with g | g
    · have hi := hn i (Nat.le_refl _) g
      have hr := fun e => ih (i + 1) e (by omega) (by omega) hf (fun t a b => hn t (by omega) b)
      by_cases c1 : tl (rd_T68 l i).f0 = tl nm
      · by_cases c2 : (rd_T68 l i).f4 ≤ on
        · by_cases c3 : on ≤ (rd_T68 l i).f5
          · exact absurd ⟨c1, c2, c3⟩ hi
          · rw [if_pos c1, if_pos c2, if_neg c3]; exact hr _
        · rw [if_pos c1, if_neg c2]; exact hr _
      · rw [if_neg c1]; exact hr _
    · obtain rfl : i = j := by omega
      rw [if_pos hf.1, if_pos hf.2.1, if_pos hf.2.2]
theorem plG_none {l : List S68} {nm : ByteArray} {on : Int} : ∀ (n i : Nat) (e : Int), (∀ t : Nat, i ≤ t → t < i + n → tl (rd_T68 l t).f0 ≠ tl nm) → plG l nm on e i n = (0, e) := by
  intro n
  induction n with
  | zero => intro i e _; rfl
  | succ n ih =>
    intro i e h
    rw [plG, if_neg (h i (Nat.le_refl _) (by omega))]
    exact ih (i + 1) e (fun t a b => h t (by omega) (by omega))
theorem plG_unfit {l : List S68} {nm : ByteArray} {on : Int} : ∀ (n i : Nat) (e : Int), (∀ t : Nat, i ≤ t → t < i + n → ¬ Fits (rd_T68 l t) nm on) → (e = 14 ∨ ∃ t : Nat, i ≤ t ∧ t < i + n ∧ tl (rd_T68 l t).f0 = tl nm) → plG l nm on e i n = (0, 14) := by
  intro n
  induction n with
  | zero =>
    intro i e h hs
    rcases hs with rfl | ⟨t, h1, h2, _⟩
    · rfl
    · omega
  | succ n ih =>
    intro i e h hs
    have hi := h i (Nat.le_refl _) (by omega)
    have hr := ih (i + 1) 14 (fun t a b => h t (by omega) (by omega)) (.inl rfl)
    rw [plG]
    by_cases c1 : tl (rd_T68 l i).f0 = tl nm
    · rw [if_pos c1]
      by_cases c2 : (rd_T68 l i).f4 ≤ on
      · by_cases c3 : on ≤ (rd_T68 l i).f5
        · exact absurd ⟨c1, c2, c3⟩ hi
        · rw [if_pos c2, if_neg c3]; exact hr
      · rw [if_neg c2]; exact hr
    · rw [if_neg c1]
      refine ih (i + 1) e (fun t a b => h t (by omega) (by omega)) ?_
      rcases hs with h | ⟨t, h1, h2, h3⟩
      · exact .inl h
      · refine .inr ⟨t, ?_, by omega, h3⟩
        rcases Nat.lt_or_ge i t with g | g
        · omega
        · obtain rfl : t = i := by omega
          exact absurd h3 c1
theorem placeV_ok {l : List S68} {nm : ByteArray} {on : Int} {r : Int × Int} (h : placeV l nm on = r) : (∃ j : Nat, j < l.length ∧ r = ((j : Int), 0) ∧ Fits (rd_T68 l j) nm on) ∨ (r.1 = 0 ∧ (r.2 = 6 ∨ r.2 = 14) ∧ ∀ t : Nat, t < l.length → ¬ Fits (rd_T68 l t) nm on) := by
  have key : ∀ (n i : Nat) (e : Int), (e = 6 ∨ e = 14) → (∃ j : Nat, j < i + n ∧ plG l nm on e i n = ((j : Int), 0) ∧ Fits (rd_T68 l j) nm on) ∨ ((plG l nm on e i n).1 = 0 ∧ ((plG l nm on e i n).2 = 6 ∨ (plG l nm on e i n).2 = 14) ∧ ∀ t : Nat, i ≤ t → t < i + n → ¬ Fits (rd_T68 l t) nm on) := by
    intro n
    induction n with
    | zero => intro i e he; exact .inr ⟨rfl, he, fun t a b => by omega⟩
    | succ n ih =>
      intro i e he
      have go : ∀ e', (e' = 6 ∨ e' = 14) → ¬ Fits (rd_T68 l i) nm on → plG l nm on e i (n + 1) = plG l nm on e' (i + 1) n → (∃ j : Nat, j < i + (n + 1) ∧ plG l nm on e i (n + 1) = ((j : Int), 0) ∧ Fits (rd_T68 l j) nm on) ∨ ((plG l nm on e i (n + 1)).1 = 0 ∧ ((plG l nm on e i (n + 1)).2 = 6 ∨ (plG l nm on e i (n + 1)).2 = 14) ∧ ∀ t : Nat, i ≤ t → t < i + (n + 1) → ¬ Fits (rd_T68 l t) nm on) := by
        intro e' he' hi h
        rw [h]
        rcases ih (i + 1) e' he' with ⟨j, hj, h1, h2⟩ | ⟨h1, h2, h3⟩
        · exact .inl ⟨j, by omega, h1, h2⟩
        · refine .inr ⟨h1, h2, fun t a b => ?_⟩
          rcases Nat.lt_or_ge i t with g | g
          · exact h3 t (by omega) (by omega)
          · obtain rfl : t = i := by omega
            exact hi
      by_cases c1 : tl (rd_T68 l i).f0 = tl nm
      · by_cases c2 : (rd_T68 l i).f4 ≤ on
        · by_cases c3 : on ≤ (rd_T68 l i).f5
          · exact .inl ⟨i, by omega, by rw [plG, if_pos c1, if_pos c2, if_pos c3], c1, c2, c3⟩
          · exact go 14 (.inr rfl) (fun h => c3 h.2.2) (by rw [plG, if_pos c1, if_pos c2, if_neg c3])
        · exact go 14 (.inr rfl) (fun h => c2 h.2.1) (by rw [plG, if_pos c1, if_neg c2])
      · exact go e he (fun h => c1 h.1) (by rw [plG, if_neg c1])
  subst h
  rcases key l.length 0 6 (.inl rfl) with ⟨j, hj, h1, h2⟩ | ⟨h1, h2, h3⟩
  · exact .inl ⟨j, by omega, h1, h2⟩
  · exact .inr ⟨h1, h2, fun t ht => h3 t (Nat.zero_le _) (by omega)⟩
theorem Ord.one {l : List S68} (h : Ord l) {nm : ByteArray} {on : Int} {i j : Nat} (hi : i < l.length) (hj : j < l.length) (fi : Fits (rd_T68 l i) nm on) (fj : Fits (rd_T68 l j) nm on) : i = j := by
  have key : ∀ i j : Nat, i < j → j < l.length → Fits (rd_T68 l i) nm on → Fits (rd_T68 l j) nm on → False := by
    intro i j hij hj fi fj
    rcases h.2 i j hij hj with g | ⟨_, g⟩
    · exact bl_ne g (fi.1.trans fj.1.symm)
    · have := fi.2.2; have := fj.2.1; omega
  rcases Nat.lt_trichotomy i j with g | g | g
  · exact (key i j g hj fi fj).elim
  · exact g
  · exact (key j i g hi fj fi).elim
theorem placeV_fits {l : List S68} (h : Ord l) {nm : ByteArray} {on : Int} {j : Nat} (hj : j < l.length) (fj : Fits (rd_T68 l j) nm on) : placeV l nm on = ((j : Int), 0) := by
  rcases placeV_ok (l := l) (nm := nm) (on := on) rfl with ⟨i, hi, h1, h2⟩ | ⟨_, _, h3⟩
  · rw [h1, h.one hi hj h2 fj]
  · exact absurd fj (h3 j hj)
theorem validF_place {l : List S68} (h : Ord l) (hl : l.length ≤ 256) (nm : ByteArray) (on : Int) : validF l nm on = some (placeV l nm on) := by
  have q1 : ∀ r : S68, p1 nm r = !(Op.bytesLess (tl r.f0) (tl nm)) := by intro r; simp only [p1, ByteArray.toList_eq]
  have q2 : ∀ r : S68, p2 nm on r = ((!(Op.bytesLess (tl r.f0) (tl nm) || tl r.f0 == tl nm)) || (tl r.f0 == tl nm && decide (on < r.f4))) := by intro r; simp only [p2, ByteArray.toList_eq]
  have m1 : ∀ a b : Nat, a < b → b < l.length → p1 nm (rd_T68 l a) = true → p1 nm (rd_T68 l b) = true := by
    intro a b hab hb ha
    rw [q1] at ha ⊢
    simp only [Bool.not_eq_true'] at ha ⊢
    rcases h.2 a b hab hb with g | ⟨g, _⟩
    · cases k : Op.bytesLess (tl (rd_T68 l b).f0) (tl nm) with
      | false => rfl
      | true => rw [bl_trans _ _ _ g k] at ha; cases ha
    · rw [← g]; exact ha
  have m2 : ∀ a b : Nat, a < b → b < l.length → p2 nm on (rd_T68 l a) = true → p2 nm on (rd_T68 l b) = true := by
    intro a b hab hb ha
    rw [q2] at ha ⊢
    simp only [Bool.or_eq_true, Bool.not_eq_true', Bool.or_eq_false_iff, beq_eq_false_iff_ne, Bool.and_eq_true, beq_iff_eq, decide_eq_true_eq] at ha ⊢
    rcases h.2 a b hab hb with g | ⟨g, g'⟩
    · left
      rcases ha with ⟨ha, hb⟩ | ⟨ha, hb⟩
      · have lt : Op.bytesLess (tl nm) (tl (rd_T68 l a).f0) = true := by
          rcases bl_tri (tl nm) (tl (rd_T68 l a).f0) with k | k | k
          · exact k
          · exact absurd k.symm hb
          · rw [ha] at k; cases k
        have := bl_trans _ _ _ lt g
        exact ⟨bl_asym this, (bl_ne this).symm⟩
      · rw [ha] at g
        exact ⟨bl_asym g, (bl_ne g).symm⟩
    · have hw := h.1 a (by omega)
      rw [← g]
      rcases ha with ha | ⟨ha, hb⟩
      · exact .inl ha
      · exact .inr ⟨ha, by omega⟩
  have s1 := cntF_spec (fun i => p1 nm (rd_T68 l i)) l.length m1
  have s2 := cntF_spec (fun i => p2 nm on (rd_T68 l i)) l.length m2
  unfold validF
  rw [if_pos (by omega), if_pos (monoB_of _ l m1), if_pos (monoB_of _ l m2)]
  congr 1
  have e1 : cntF (fun i => p1 nm (rd_T68 l i)) l.length = c1Of l nm := rfl
  have e2 : cntF (fun i => p2 nm on (rd_T68 l i)) l.length = c2Of l nm on := rfl
  have b1 : c1Of l nm ≤ l.length := cntF_le _ _
  have b2 : c2Of l nm on ≤ l.length := cntF_le _ _
  rw [e1] at s1
  rw [e2] at s2
  generalize c1Of l nm = c1 at *
  generalize c2Of l nm on = c2 at *
  obtain ⟨s1a, s1b⟩ := s1
  obtain ⟨s2a, s2b⟩ := s2
  have lo : ∀ t : Nat, t < c1 → tl (rd_T68 l t).f0 ≠ tl nm := by
    intro t ht
    have := s1a t ht
    simp only [q1, Bool.not_eq_false'] at this
    exact bl_ne this
  have hi : ∀ t : Nat, c2 ≤ t → t < l.length → ¬ Fits (rd_T68 l t) nm on := by
    intro t ht htl hf
    have := s2b t ht htl
    simp only [q2, hf.1, bl_irr, Bool.false_or, beq_self_eq_true, Bool.not_true, Bool.true_and, decide_eq_true_eq] at this
    have := hf.2.1
    omega
  unfold validAt
  simp only [ByteArray.toList_eq]
  by_cases g1 : c1 = l.length
  · rw [if_pos g1]
    exact (plG_none _ _ _ (fun t a b => lo t (by omega))).symm
  · rw [if_neg g1]
    by_cases g2 : tl (rd_T68 l c1).f0 = tl nm
    · rw [if_neg (fun k => k g2)]
      by_cases g3 : (c2 : Int) - 1 < c1
      · rw [if_pos g3]
        refine (plG_unfit _ _ _ (fun t a b hf => ?_) (.inr ⟨c1, Nat.zero_le _, by omega, g2⟩)).symm
        rcases Nat.lt_or_ge t c1 with g | g
        · exact lo t g hf.1
        · exact hi t (by omega) (by omega) hf
      · rw [if_neg g3]
        obtain ⟨j, rfl⟩ : ∃ j, c2 = j + 1 := ⟨c2 - 1, by omega⟩
        rw [show (((j + 1 : Nat) : Int) - 1) = (j : Int) by omega]
        have hj : j < l.length := by omega
        have nj : tl (rd_T68 l j).f0 = tl nm := by
          have h1 := s1b j (by omega) hj
          have h2 := s2a j (by omega)
          simp only [q1, Bool.not_eq_true'] at h1
          simp only [q2, h1, Bool.false_or, Bool.or_eq_false_iff, Bool.not_eq_false', beq_iff_eq] at h2
          exact h2.1
        have fj : (rd_T68 l j).f4 ≤ on := by
          have h2 := s2a j (by omega)
          simp only [q2, nj, bl_irr, Bool.false_or, beq_self_eq_true, Bool.not_true, Bool.true_and, decide_eq_false_iff_not] at h2
          omega
        have before : ∀ t : Nat, t < j → ¬ Fits (rd_T68 l t) nm on := by
          intro t ht hf
          rcases h.2 t j ht hj with g | ⟨_, g⟩
          · exact bl_ne g (hf.1.trans nj.symm)
          · have := hf.2.2; omega
        by_cases g4 : (rd_T68 l j).f5 < on
        · rw [if_pos g4]
          refine (plG_unfit _ _ _ (fun t a b hf => ?_) (.inr ⟨c1, Nat.zero_le _, by omega, g2⟩)).symm
          rcases Nat.lt_trichotomy t j with g | g | g
          · exact before t g hf
          · subst g; have := hf.2.2; omega
          · exact hi t (by omega) (by omega) hf
        · rw [if_neg g4]
          exact (plG_at j _ _ _ (Nat.zero_le _) (by omega) ⟨nj, fj, by omega⟩ (fun t a b => before t b)).symm
    · rw [if_pos g2]
      refine (plG_none _ _ _ (fun t a b => ?_)).symm
      rcases Nat.lt_trichotomy t c1 with g | g | g
      · exact lo t g
      · subst g; exact g2
      · have h1 := s1b c1 (Nat.le_refl _) (by omega)
        simp only [q1, Bool.not_eq_true'] at h1
        have lt : Op.bytesLess (tl nm) (tl (rd_T68 l c1).f0) = true := by
          rcases bl_tri (tl nm) (tl (rd_T68 l c1).f0) with k | k | k
          · exact k
          · exact absurd k.symm g2
          · rw [h1] at k; cases k
        rcases h.2 c1 t g (by omega) with k | ⟨k, _⟩
        · exact (bl_ne (bl_trans _ _ _ lt k)).symm
        · rw [← k]; exact g2
end Go.Proofs.Ytkgdlbepjmgaiaa.Cal
namespace Go.Proofs.Ytkgdlbepjmgaiaa.Cal
open Go.RowKit Go.Proofs.YtkgdlbepjmgaiaaW.PrintWords Go.Proofs.YtkgdlbepjmgaiaaW.PrintLast Go.Proofs.YtkgdlbepjmgaiaaW.PrintMore
attribute [local go_sem] max2_int min2_int max_two min_two max_three min_three max_four min_four
set_option linter.unusedVariables false
set_option linter.unusedSimpArgs false
def metrolablaw52_own.l0 : Nat → List (S121) → List (S68) → Int → Int → Option ((List (S121)))
  | 0, _, _, _, _ => none
  | k + 1, x3, x6, x7, x8 => if x8 < x7 then (if 0 ≤ x8 then (if x8 < (x6.length : Int) then (if x3.length < 2199023255552 then (metrolablaw52_own.l0 k (x3 ++ [(⟨(rd_T68 x6 x8).f0, (rd_T68 x6 x8).f1, (rd_T68 x6 x8).f2, (rd_T68 x6 x8).f3, (rd_T68 x6 x8).f4, (rd_T68 x6 x8).f5⟩ : S121)]) x6 x7 (wrap64 (x8 + 1))) else (none)) else (none)) else (none)) else (some x3)
def metrolablaw52_own.f (k : Nat) (l0 : List (S68)) : Option ((List (S121))) := metrolablaw52_own.l0 k ([] : List (S121)) l0 (l0.length : Int) 0
theorem metrolablaw52_own.mono_l : ∀ k, (∀ y0 y1 y2 y3, LeO (metrolablaw52_own.l0 k y0 y1 y2 y3) (metrolablaw52_own.l0 (k + 1) y0 y1 y2 y3))
  | 0 => fun _ _ _ _ r h => by simp [metrolablaw52_own.l0] at h
  | k + 1 => by
    have ih0 := metrolablaw52_own.mono_l k
    · intro y0 y1 y2 y3
      unfold metrolablaw52_own.l0
      repeat' first
      | (with_reducible exact ih0 _ _ _ _)
      | (with_reducible exact LeO.refl _)
      | (with_reducible exact LeO.none _)
      | (with_reducible refine LeO.ite ?_ ?_)
      | (with_reducible refine LeO.bind ?_ (fun _ => ?_))
      | exact ih0 _ _ _ _
      | exact LeO.none _
      | refine LeO.ite ?_ ?_
      | refine LeO.bind ?_ (fun _ => ?_)
theorem metrolablaw52_own.mono : ∀ a0 k, LeO (metrolablaw52_own.f k a0) (metrolablaw52_own.f (k + 1) a0) := by
  intro a0 k
  have ih0 := metrolablaw52_own.mono_l k
  unfold metrolablaw52_own.f
  repeat' first
      | (with_reducible exact ih0 _ _ _ _)
      | (with_reducible exact LeO.refl _)
      | (with_reducible exact LeO.none _)
      | (with_reducible refine LeO.ite ?_ ?_)
      | (with_reducible refine LeO.bind ?_ (fun _ => ?_))
      | exact ih0 _ _ _ _
      | exact LeO.none _
      | refine LeO.ite ?_ ?_
      | refine LeO.bind ?_ (fun _ => ?_)
set_option maxHeartbeats 8000000 in
set_option maxRecDepth 100000 in
theorem metrolablaw52_own.calls (k : Nat) (A0 : Option Addr) (c0 : Nat) (l0 : List (S68)) (r : List (S121)) (w : World) (hr0 : Kd.C k68 w A0 l0.length l0) (hc0 : l0.length ≤ c0) (h : metrolablaw52_own.f k l0 = some r) :
    Calls Try.prog 37 #[.slice A0 l0.length c0] w fun e w' => ∃ v0_ : Value, e = .returned (v0_) ∧ Kd.R k121 121 w' w.heap.size (fun _ => True) v0_ r ∧ Below w.heap.size w w' := by
  have hu68 := Try.underlying68
  have HR0 := Aside0.mk hr0
  have HC0 := Aside0.mk hc0
  clear hr0 hc0
  have HB := Aside0.mk (Below.refl w.heap.size w)
  have H : (metrolablaw52_own.l0 k ([] : List (S121)) l0 (l0.length : Int) 0) = some r := h
  clear h
  have H' := Aside0.mk H
  clear H
  go_enter Try.func37, Try.ntmps37
  go_wp2
  go_loopg [3, 8] k (fun kq v3 v8 w' => ∃ (x3_1 : List (S121)) (x8_1 : Int), v8 = .int .i64 x8_1 ∧ Aside0 (metrolablaw52_own.l0 kq x3_1 l0 (l0.length : Int) x8_1 = some r) ∧ Aside0 (kq ≤ k) ∧ Aside0 (Kd.R k121 121 w' w.heap.size (fun _ => True) v3 x3_1) ∧ Aside0 (Below w.heap.size w w'))
  case atStart => exact ⟨(([] : List (S121))), (0), (by first | rfl | (simp; done) | (simp [*]; done)), H', ⟨Nat.le_refl _⟩, ⟨by first | exact Kd.R_nil _ _ _ _ _ | exact Kd.N_nil _ _ _ _ _ | exact Kd.V_nil _ _ _ _ _ | exact Kd.Q_nil _ _ _ _ _ | exact Kd.S_nil _ _ _ _ _⟩, ⟨by repeat (first | (with_reducible first | exact HB.out | apply below_alloc | apply pw_below_drewN | apply below_drew1) | exact HB.out)⟩⟩
  case round =>
    clear H'
    obtain ⟨x3_1, x8_1, rfl, HA, HK1, HO_3, HB⟩ := hrel
    cases gk with
    | zero => exact absurd HA.out (by simp [metrolablaw52_own.l0])
    | succ k1 =>
      have H := HA.out
      clear HA
      simp only [metrolablaw52_own.l0] at H
      by_cases c2 : x8_1 < (l0.length : Int)
      · rw [if_pos c2] at H
        have c2b0 : decide (x8_1 < (l0.length : Int)) = true := decide_eq_true c2
        clear c2
        by_cases c3 : 0 ≤ x8_1
        · rw [if_pos c3] at H
          have c3b0 : decide (0 ≤ x8_1) = true := decide_eq_true c3
          clear c3
          by_cases c4 : x8_1 < (l0.length : Int)
          · rw [if_pos c4] at H
            have c4b0 : decide (x8_1 < (l0.length : Int)) = true := decide_eq_true c4
            clear c4
            by_cases c5 : x3_1.length < 2199023255552
            · rw [if_pos c5] at H
              have LMc5 := Aside0.mk c5
              clear c5
              obtain ⟨y103, hy103⟩ : ∃ y_ : List (S121), y_ = (x3_1 ++ [(⟨(rd_T68 l0 x8_1).f0, (rd_T68 l0 x8_1).f1, (rd_T68 l0 x8_1).f2, (rd_T68 l0 x8_1).f3, (rd_T68 l0 x8_1).f4, (rd_T68 l0 x8_1).f5⟩ : S121)]) := ⟨_, rfl⟩
              replace H : (metrolablaw52_own.l0 k1 y103 l0 (l0.length : Int) (wrap64 (x8_1 + 1))) = some r := by first | (rw [hy103]; with_reducible exact H) | (have H2_ := (Option.bind_some _ _).symm.trans H; rw [hy103]; with_reducible exact H2_) | (have H2_ := (Option.bind_some _ _).symm.trans H; with_reducible exact H2_) | with_reducible exact H | (rw [hy103]; exact H) | exact H
              have Ny103 := Aside0.mk hy103
              clear hy103
              have H' := Aside0.mk H
              clear H
              have p101 : 0 ≤ (x8_1 : Int) := of_decide_eq_true (by first | (with_reducible assumption) | assumption)
              have q101 : x8_1 < (l0.length : Int) := of_decide_eq_true (by first | (with_reducible assumption) | assumption)
              obtain ⟨ad101, e101, hx101_0, hx101_1, hx101_2, hx101_3, hx101_4, hx101_5⟩ := at_T68 HR0.out x8_1 p101 q101
              cases e101
              replace hx101_0 := (HB.out.cell (World.block_lt_of_cell? w _ hx101_0)).trans hx101_0
              replace hx101_1 := (HB.out.cell (World.block_lt_of_cell? w _ hx101_1)).trans hx101_1
              replace hx101_2 := (HB.out.cell (World.block_lt_of_cell? w _ hx101_2)).trans hx101_2
              replace hx101_3 := (HB.out.cell (World.block_lt_of_cell? w _ hx101_3)).trans hx101_3
              replace hx101_4 := (HB.out.cell (World.block_lt_of_cell? w _ hx101_4)).trans hx101_4
              replace hx101_5 := (HB.out.cell (World.block_lt_of_cell? w _ hx101_5)).trans hx101_5
              replace p101 := eq_true p101
              replace q101 := eq_true q101
              go_wp2_with (first | ((with_reducible refine gate_dst (N := 5) rfl ?_); refine box_event ?hg (N := 5) ?hd (cs := #[.string (⟨#[]⟩ : ByteArray), .string (⟨#[]⟩ : ByteArray), .int .i64 0, .int .i64 0, .int .i64 0, .int .i64 0]) (t := 68) ?hr ?_; (case hd => rfl); (case hg => rfl); (case hr => first | (go_simp; done) | (go_simp; rfl)); intro gb102 hg w6 hbox hb; have n0_ := Aside0.mk (Kd.R_below (by (with_reducible repeat (first | apply Kd.R_alloc | apply Kd.R_drewN | apply Kd.R_drew)); exact HO_3.out) hb); have n1_ := Aside0.mk (below_step (by repeat (first | (with_reducible first | exact HB.out | apply below_alloc | apply pw_below_drewN | apply below_drew1) | exact HB.out)) hb); have n2_ := Aside0.mk (hbox); have n3_ := Aside0.mk ((by rw [hg]; exact (below_size (by repeat (first | (with_reducible first | exact HB.out | apply below_alloc | apply pw_below_drewN | apply below_drew1) | exact HB.out))) : w.heap.size ≤ gb102)); have n4_ := Aside0.mk ((by rw [hg]; exact (below_size (by repeat (first | (with_reducible first | exact HB.out | apply below_alloc | apply pw_below_drewN | apply below_drew1) | exact HB.out))) : w.heap.size ≤ gb102)); clear HO_3; clear HB; have HO_3 := n0_; have HB := n1_; have BK102 := n2_; have GW102 := n3_; have GE102 := n4_; clear n0_ n1_ n2_ n3_ n4_; clear hb hbox hg; have hcz7_0 : w6.cell? ⟨gb102, 0, none⟩ = some (.string (⟨#[]⟩ : ByteArray)) := (blk_cell BK102.out 0).trans rfl; have hcz7_1 : w6.cell? ⟨gb102, 1, none⟩ = some (.string (⟨#[]⟩ : ByteArray)) := (blk_cell BK102.out 1).trans rfl; have hcz7_2 : w6.cell? ⟨gb102, 2, none⟩ = some (.int .i64 0) := (blk_cell BK102.out 2).trans rfl; have hcz7_3 : w6.cell? ⟨gb102, 3, none⟩ = some (.int .i64 0) := (blk_cell BK102.out 3).trans rfl; have hcz7_4 : w6.cell? ⟨gb102, 4, none⟩ = some (.int .i64 0) := (blk_cell BK102.out 4).trans rfl; have hcz7_5 : w6.cell? ⟨gb102, 5, none⟩ = some (.int .i64 0) := (blk_cell BK102.out 5).trans rfl; have hfz7_0 := blk_frozen BK102.out 0; have hfz7_1 := blk_frozen BK102.out 1; have hfz7_2 := blk_frozen BK102.out 2; have hfz7_3 := blk_frozen BK102.out 3; have hfz7_4 := blk_frozen BK102.out 4; have hfz7_5 := blk_frozen BK102.out 5) | ((with_reducible refine gate_builtin (b := .append) (xs := #[.tmp 12, .tmp 14]) rfl ?_); at_builtin; refine Kd.R_append k121 (w0 := w) w.heap.size rfl (.tmp 12) (.tmp 14) 57 121 (.agg #[(.string ⟨#[]⟩), (.string ⟨#[]⟩), (.int .i64 0), (.int .i64 0), (.int .i64 0), (.int .i64 0)]) 64 rfl Try.underlying57 info121 rfl (by decide) (by omega) u3 x3_1 (⟨(rd_T68 l0 x8_1).f0, (rd_T68 l0 x8_1).f1, (rd_T68 l0 x8_1).f2, (rd_T68 l0 x8_1).f3, (rd_T68 l0 x8_1).f4, (rd_T68 l0 x8_1).f5⟩ : S121) [.string ((rd_T68 l0 x8_1).f0), .string ((rd_T68 l0 x8_1).f1), .int .i64 ((rd_T68 l0 x8_1).f2), .int .i64 ((rd_T68 l0 x8_1).f3), .int .i64 ((rd_T68 l0 x8_1).f4), .int .i64 ((rd_T68 l0 x8_1).f5)] (fun _ => True) (fun _ => False) rfl (by first | (go_simp; done) | (go_simp; rfl)) ?aP (fun _ hk => hk.elim) ?aF ?aO ?aB ?aS ?aL ?_; (case aP => exact k121_mkM _ _ _ (⟨(rd_T68 l0 x8_1).f0, (rd_T68 l0 x8_1).f1, (rd_T68 l0 x8_1).f2, (rd_T68 l0 x8_1).f3, (rd_T68 l0 x8_1).f4, (rd_T68 l0 x8_1).f5⟩ : S121)); (case aB => exact (by repeat (first | (with_reducible first | exact HB.out | apply below_alloc | apply pw_below_drewN | apply below_drew1 | refine below_set ?_ GE102.out) | exact HB.out))); (case aF => exact (fun _ _ => trivial)); (case aO => exact (by (with_reducible repeat (first | apply Kd.R_alloc | apply Kd.R_drewN | apply Kd.R_drew)); exact Kd.R_mono (Kd.R_far (p := ⟨gb102, 5, none⟩) (Kd.R_far (p := ⟨gb102, 4, none⟩) (Kd.R_far (p := ⟨gb102, 3, none⟩) (Kd.R_far (p := ⟨gb102, 2, none⟩) (Kd.R_far (p := ⟨gb102, 1, none⟩) (Kd.R_far (p := ⟨gb102, 0, none⟩) (Kd.R_types HO_3.out BK102.out (by decide)) (fun _ hk => hk.2) (.string ((rd_T68 l0 x8_1).f0))) (fun _ hk => hk.2) (.string ((rd_T68 l0 x8_1).f1))) (fun _ hk => hk.2) (.int .i64 ((rd_T68 l0 x8_1).f2))) (fun _ hk => hk.2) (.int .i64 ((rd_T68 l0 x8_1).f3))) (fun _ hk => hk.2) (.int .i64 ((rd_T68 l0 x8_1).f4))) (fun _ hk => hk.2) (.int .i64 ((rd_T68 l0 x8_1).f5))) (fun _ hk => trivial))); (case aS => exact (below_size (by repeat (first | (with_reducible first | exact HB.out | apply below_alloc | apply pw_below_drewN | apply below_drew1 | refine below_set ?_ GE102.out) | exact HB.out)))); (case aL => have := LMc5.out; omega); intro v104 w8 ho hb hg hat; rw [← Ny103.out] at ho; have n0_ := Aside0.mk (blk_grown (g := gb102) (o := .cells #[.string ((rd_T68 l0 x8_1).f0), .string ((rd_T68 l0 x8_1).f1), .int .i64 ((rd_T68 l0 x8_1).f2), .int .i64 ((rd_T68 l0 x8_1).f3), .int .i64 ((rd_T68 l0 x8_1).f4), .int .i64 ((rd_T68 l0 x8_1).f5)] 68 (0, 0)) (by (with_reducible repeat (first | refine blk_drewN ?_ _ | refine blk_drew ?_ | refine blk_alloc ?_ _)); refine blk_put (cs := #[.string ((rd_T68 l0 x8_1).f0), .string ((rd_T68 l0 x8_1).f1), .int .i64 ((rd_T68 l0 x8_1).f2), .int .i64 ((rd_T68 l0 x8_1).f3), .int .i64 ((rd_T68 l0 x8_1).f4), .int .i64 0]) ?_ 5 _ rfl; (with_reducible repeat (first | refine blk_drewN ?_ _ | refine blk_drew ?_ | refine blk_alloc ?_ _)); refine blk_put (cs := #[.string ((rd_T68 l0 x8_1).f0), .string ((rd_T68 l0 x8_1).f1), .int .i64 ((rd_T68 l0 x8_1).f2), .int .i64 ((rd_T68 l0 x8_1).f3), .int .i64 0, .int .i64 0]) ?_ 4 _ rfl; (with_reducible repeat (first | refine blk_drewN ?_ _ | refine blk_drew ?_ | refine blk_alloc ?_ _)); refine blk_put (cs := #[.string ((rd_T68 l0 x8_1).f0), .string ((rd_T68 l0 x8_1).f1), .int .i64 ((rd_T68 l0 x8_1).f2), .int .i64 0, .int .i64 0, .int .i64 0]) ?_ 3 _ rfl; (with_reducible repeat (first | refine blk_drewN ?_ _ | refine blk_drew ?_ | refine blk_alloc ?_ _)); refine blk_put (cs := #[.string ((rd_T68 l0 x8_1).f0), .string ((rd_T68 l0 x8_1).f1), .int .i64 0, .int .i64 0, .int .i64 0, .int .i64 0]) ?_ 2 _ rfl; (with_reducible repeat (first | refine blk_drewN ?_ _ | refine blk_drew ?_ | refine blk_alloc ?_ _)); refine blk_put (cs := #[.string ((rd_T68 l0 x8_1).f0), .string (⟨#[]⟩ : ByteArray), .int .i64 0, .int .i64 0, .int .i64 0, .int .i64 0]) ?_ 1 _ rfl; (with_reducible repeat (first | refine blk_drewN ?_ _ | refine blk_drew ?_ | refine blk_alloc ?_ _)); refine blk_put (cs := #[.string (⟨#[]⟩ : ByteArray), .string (⟨#[]⟩ : ByteArray), .int .i64 0, .int .i64 0, .int .i64 0, .int .i64 0]) ?_ 0 _ rfl; (with_reducible repeat (first | refine blk_drewN ?_ _ | refine blk_drew ?_ | refine blk_alloc ?_ _)); exact BK102.out) hg (Kd.R_ne HO_3.out BK102.out (by decide))); have n1_ := Aside0.mk (hb); have n2_ := Aside0.mk (ho); clear BK102; clear HB; clear HO_3; have BK102 := n0_; have HB := n1_; have HO105 := n2_; clear n0_ n1_ n2_; clear ho hb hg hat))
              go_roundg k1
              case measure => have := HK1.out; omega
              case rel => exact ⟨(y103), (wrap64 (x8_1 + 1)), (by first | rfl | (simp; done) | (simp [*]; done)), H', ⟨by have := HK1.out; omega⟩, ⟨by (with_reducible repeat (first | apply Kd.R_alloc | apply Kd.R_drewN | apply Kd.R_drew)); exact HO105.out⟩, ⟨by repeat (first | (with_reducible first | exact HB.out | apply below_alloc | apply pw_below_drewN | apply below_drew1 | refine below_set ?_ GE102.out) | exact HB.out)⟩⟩
            · rw [if_neg c5] at H
              exact absurd H (by simp)
          · rw [if_neg c4] at H
            exact absurd H (by simp)
        · rw [if_neg c3] at H
          exact absurd H (by simp)
      · rw [if_neg c2] at H
        have c2b0 : decide (x8_1 < (l0.length : Int)) = false := decide_eq_false c2
        clear c2
        obtain rfl := Option.some.inj H
        go_wp2
        go_ret
        exact ⟨_, by first | rfl | (simp [errW_none, errW_some] <;> rfl) | (simp [*, errW_none, errW_some] <;> rfl), by (with_reducible repeat (first | apply Kd.R_alloc | apply Kd.R_drewN | apply Kd.R_drew)); exact HO_3.out, by repeat (first | (with_reducible first | exact HB.out | apply below_alloc | apply pw_below_drewN | apply below_drew1) | exact HB.out)⟩
end Go.Proofs.Ytkgdlbepjmgaiaa.Cal
namespace Go.Proofs.Ytkgdlbepjmgaiaa.Cal
open Go.RowKit Go.Proofs.YtkgdlbepjmgaiaaW.PrintWords Go.Proofs.YtkgdlbepjmgaiaaW.PrintLast Go.Proofs.YtkgdlbepjmgaiaaW.PrintMore
attribute [local go_sem] max2_int min2_int max_two min_two max_three min_three max_four min_four
set_option linter.unusedVariables false
set_option linter.unusedSimpArgs false
mutual
def metrolabref52_Few.j0 : Nat → List (S121) → Bool → Option (Bool)
  | 0, _, _ => none
  | k + 1, x0, x16 => if x16 = true then (some false) else (metrolabref52_Few.l0 k x0 0)
def metrolabref52_Few.l0 : Nat → List (S121) → Int → Option (Bool)
  | 0, _, _ => none
  | k + 1, x0, x3 => if x3 < (x0.length : Int) then (if 0 ≤ x3 then (if (((rd_T121 x0 x3).f0).size : Int) > 60 then (some false) else (if (((rd_T121 x0 x3).f1).size : Int) > 60 then (some false) else (metrolabref52_Few.l0 k x0 (wrap64 (x3 + 1))))) else (none)) else (some true)
end
def metrolabref52_Few.f (k : Nat) (l0 : List (S121)) : Option (Bool) := if (l0.length : Int) > 12 then (if (l0.length : Int) ≤ 256 then (metrolabref52_Few.j0 k l0 true) else (metrolabref52_Few.j0 k l0 (decide ((l0.length : Int) > 512)))) else (metrolabref52_Few.j0 k l0 (decide ((l0.length : Int) > 512)))
theorem metrolabref52_Few.mono_l : ∀ k, (∀ y0 y1, LeO (metrolabref52_Few.j0 k y0 y1) (metrolabref52_Few.j0 (k + 1) y0 y1)) ∧ (∀ y0 y1, LeO (metrolabref52_Few.l0 k y0 y1) (metrolabref52_Few.l0 (k + 1) y0 y1))
  | 0 => ⟨fun _ _ r h => by simp [metrolabref52_Few.j0] at h, fun _ _ r h => by simp [metrolabref52_Few.l0] at h⟩
  | k + 1 => by
    obtain ⟨ih0, ih1⟩ := metrolabref52_Few.mono_l k
    refine ⟨?_, ?_⟩
    · intro y0 y1
      unfold metrolabref52_Few.j0
      repeat' first
      | (with_reducible exact ih0 _ _)
      | (with_reducible exact ih1 _ _)
      | (with_reducible exact LeO.refl _)
      | (with_reducible exact LeO.none _)
      | (with_reducible refine LeO.ite ?_ ?_)
      | (with_reducible refine LeO.bind ?_ (fun _ => ?_))
      | exact ih0 _ _
      | exact ih1 _ _
      | exact LeO.none _
      | refine LeO.ite ?_ ?_
      | refine LeO.bind ?_ (fun _ => ?_)
    · intro y0 y1
      unfold metrolabref52_Few.l0
      repeat' first
      | (with_reducible exact ih0 _ _)
      | (with_reducible exact ih1 _ _)
      | (with_reducible exact LeO.refl _)
      | (with_reducible exact LeO.none _)
      | (with_reducible refine LeO.ite ?_ ?_)
      | (with_reducible refine LeO.bind ?_ (fun _ => ?_))
      | exact ih0 _ _
      | exact ih1 _ _
      | exact LeO.none _
      | refine LeO.ite ?_ ?_
      | refine LeO.bind ?_ (fun _ => ?_)
theorem metrolabref52_Few.mono : ∀ a0 k, LeO (metrolabref52_Few.f k a0) (metrolabref52_Few.f (k + 1) a0) := by
  intro a0 k
  obtain ⟨ih0, ih1⟩ := metrolabref52_Few.mono_l k
  unfold metrolabref52_Few.f
  repeat' first
      | (with_reducible exact ih0 _ _)
      | (with_reducible exact ih1 _ _)
      | (with_reducible exact LeO.refl _)
      | (with_reducible exact LeO.none _)
      | (with_reducible refine LeO.ite ?_ ?_)
      | (with_reducible refine LeO.bind ?_ (fun _ => ?_))
      | exact ih0 _ _
      | exact ih1 _ _
      | exact LeO.none _
      | refine LeO.ite ?_ ?_
      | refine LeO.bind ?_ (fun _ => ?_)
set_option maxHeartbeats 8000000 in
set_option maxRecDepth 100000 in
theorem metrolabref52_Few.calls (k : Nat) (A0 : Option Addr) (c0 : Nat) (l0 : List (S121)) (r : Bool) (w : World) (hr0 : Kd.C k121 w A0 l0.length l0) (hc0 : l0.length ≤ c0) (h : metrolabref52_Few.f k l0 = some r) :
    Calls Try.prog 84 #[.slice A0 l0.length c0] w fun e w' => e = .returned (.bool r) ∧ Drawn0 w w' := by
  have HR0 := Aside0.mk hr0
  have HC0 := Aside0.mk hc0
  clear hr0 hc0
  have H : (if (l0.length : Int) > 12 then (if (l0.length : Int) ≤ 256 then (metrolabref52_Few.j0 k l0 true) else (metrolabref52_Few.j0 k l0 (decide ((l0.length : Int) > 512)))) else (metrolabref52_Few.j0 k l0 (decide ((l0.length : Int) > 512)))) = some r := h
  clear h
  have HC2 := Aside0.mk H
  clear H
  go_enter Try.func84, Try.ntmps84
  go_upto_region 1 with (fail)
  go_cut [16] (fun v16 wc => ∃ (kq : Nat) (x16_1 : Bool), v16 = .bool x16_1 ∧ Aside0 (metrolabref52_Few.j0 kq l0 x16_1 = some r) ∧ Aside0 (kq ≤ k) ∧ Drawn0 w wc)
  case first =>
    have H := HC2.out
    clear HC2
    by_cases c3 : (l0.length : Int) > 12
    · rw [if_pos c3] at H
      have c3b0 : decide (12 < (l0.length : Int)) = true := decide_eq_true c3
      have c3b1 : decide (12 < l0.length) = true := decide_eq_true (by omega)
      clear c3
      (first | rw [c3b0] | (simp only [i64_w, i32_w]; rw [c3b0]) | (rw [c3b2]; try simp only [Bool.not_true, Bool.not_false]) | skip)
      by_cases c4 : (l0.length : Int) ≤ 256
      · rw [if_pos c4] at H
        have c4b0 : decide ((l0.length : Int) ≤ 256) = true := decide_eq_true c4
        have c4b1 : decide (l0.length ≤ 256) = true := decide_eq_true (by omega)
        clear c4
        have H' := Aside0.mk H
        clear H
        go_wp2
        go_meet
        case rel => exact ⟨_, (true), (by first | rfl | (simp; done) | (simp [*]; done)), H', ⟨by first | omega | exact Nat.le_refl _⟩, by repeat (first | exact Drawn0.refl _ | apply Drawn0.step)⟩
      · rw [if_neg c4] at H
        have c4b0 : decide ((l0.length : Int) ≤ 256) = false := decide_eq_false c4
        have c4b1 : decide (l0.length ≤ 256) = false := decide_eq_false (by omega)
        clear c4
        have H' := Aside0.mk H
        clear H
        go_wp2
        go_meet
        case rel => exact ⟨_, (decide ((l0.length : Int) > 512)), (by first | rfl | (simp; done) | (simp [*]; done)), H', ⟨by first | omega | exact Nat.le_refl _⟩, by repeat (first | exact Drawn0.refl _ | apply Drawn0.step)⟩
    · rw [if_neg c3] at H
      have c3b0 : decide (12 < (l0.length : Int)) = false := decide_eq_false c3
      have c3b1 : decide (12 < l0.length) = false := decide_eq_false (by omega)
      clear c3
      (first | rw [c3b0] | (simp only [i64_w, i32_w]; rw [c3b0]) | (rw [c3b2]; try simp only [Bool.not_true, Bool.not_false]) | skip)
      have H' := Aside0.mk H
      clear H
      go_wp2
      go_meet
      case rel => exact ⟨_, (decide ((l0.length : Int) > 512)), (by first | rfl | (simp; done) | (simp [*]; done)), H', ⟨by first | omega | exact Nat.le_refl _⟩, by repeat (first | exact Drawn0.refl _ | apply Drawn0.step)⟩
  case rest =>
    clear HC2
    try clear p2
    try clear c3
    try clear c3b0
    try clear c3b1
    try clear c3b2
    try clear c4
    try clear c4b0
    try clear c4b1
    obtain ⟨kq, x16_1, rfl, HA, HJ1, ⟨mc1, rfl⟩⟩ := hcut
    cases kq with
    | zero => exact absurd HA.out (by simp [metrolabref52_Few.j0])
    | succ kj1 =>
      have H := HA.out
      clear HA
      simp only [metrolabref52_Few.j0] at H
      by_cases c5 : x16_1 = true
      · subst c5
        have H1 : (some false) = some r := by rw [if_pos rfl] at H; exact H
        clear H
        have H := H1
        clear H1
        obtain rfl := Option.some.inj H
        go_wp2
        go_ret
        exact ⟨by first | rfl | (simp; done) | (simp [*]; done), by repeat (first | exact Drawn0.refl _ | apply Drawn0.step)⟩
      · replace c5 := Bool.eq_false_iff.mpr c5
        subst c5
        have H1 : (metrolabref52_Few.l0 kj1 l0 0) = some r := by rw [if_neg (show ¬ (false = true) by decide)] at H; exact H
        clear H
        have H := H1
        clear H1
        have H' := Aside0.mk H
        clear H
        go_wp2
        go_loopg [3] kj1 (fun kq v3 w' => ∃ (x3_2 : Int), v3 = .int .i64 x3_2 ∧ Aside0 (metrolabref52_Few.l0 kq l0 x3_2 = some r) ∧ Aside0 (kq ≤ kj1) ∧ Drawn0 w w')
        case atStart => exact ⟨(0), (by first | rfl | (simp; done) | (simp [*]; done)), H', ⟨Nat.le_refl _⟩, by repeat (first | exact Drawn0.refl _ | apply Drawn0.step)⟩
        case round =>
          clear H'
          try clear c1
          try clear p2
          try clear c3
          try clear c3b0
          try clear c3b1
          try clear c3b2
          try clear c4
          try clear c4b0
          try clear c4b1
          try clear c5
          try clear p2
          obtain ⟨x3_2, rfl, HA, HK2, ⟨m2, rfl⟩⟩ := hrel
          cases gk with
          | zero => exact absurd HA.out (by simp [metrolabref52_Few.l0])
          | succ k2 =>
            have H := HA.out
            clear HA
            simp only [metrolabref52_Few.l0] at H
            by_cases c6 : x3_2 < (l0.length : Int)
            · rw [if_pos c6] at H
              have c6b0 : decide (x3_2 < (l0.length : Int)) = true := decide_eq_true c6
              clear c6
              by_cases c7 : 0 ≤ x3_2
              · rw [if_pos c7] at H
                have c7b0 : decide (0 ≤ x3_2) = true := decide_eq_true c7
                clear c7
                by_cases c8 : (((rd_T121 l0 x3_2).f0).size : Int) > 60
                · rw [if_pos c8] at H
                  have c8b0 : decide (60 < (((rd_T121 l0 x3_2).f0).size : Int)) = true := decide_eq_true c8
                  have c8b1 : decide (60 < ((rd_T121 l0 x3_2).f0).size) = true := decide_eq_true (by omega)
                  clear c8
                  obtain rfl := Option.some.inj H
                  have p106 : 0 ≤ (x3_2 : Int) := of_decide_eq_true (by first | (with_reducible assumption) | assumption)
                  have q106 : x3_2 < (l0.length : Int) := of_decide_eq_true (by first | (with_reducible assumption) | assumption)
                  obtain ⟨ad106, e106, hx106_0, hx106_1, hx106_2, hx106_3, hx106_4, hx106_5⟩ := at_T121 HR0.out x3_2 p106 q106
                  cases e106
                  replace p106 := eq_true p106
                  replace q106 := eq_true q106
                  go_wp2
                  go_ret
                  exact ⟨by first | rfl | (simp; done) | (simp [*]; done), by repeat (first | exact Drawn0.refl _ | apply Drawn0.step)⟩
                · rw [if_neg c8] at H
                  have c8b0 : decide (60 < (((rd_T121 l0 x3_2).f0).size : Int)) = false := decide_eq_false c8
                  have c8b1 : decide (60 < ((rd_T121 l0 x3_2).f0).size) = false := decide_eq_false (by omega)
                  clear c8
                  by_cases c9 : (((rd_T121 l0 x3_2).f1).size : Int) > 60
                  · rw [if_pos c9] at H
                    have c9b0 : decide (60 < (((rd_T121 l0 x3_2).f1).size : Int)) = true := decide_eq_true c9
                    have c9b1 : decide (60 < ((rd_T121 l0 x3_2).f1).size) = true := decide_eq_true (by omega)
                    clear c9
                    obtain rfl := Option.some.inj H
                    have p106 : 0 ≤ (x3_2 : Int) := of_decide_eq_true (by first | (with_reducible assumption) | assumption)
                    have q106 : x3_2 < (l0.length : Int) := of_decide_eq_true (by first | (with_reducible assumption) | assumption)
                    obtain ⟨ad106, e106, hx106_0, hx106_1, hx106_2, hx106_3, hx106_4, hx106_5⟩ := at_T121 HR0.out x3_2 p106 q106
                    cases e106
                    replace p106 := eq_true p106
                    replace q106 := eq_true q106
                    have p107 : 0 ≤ (x3_2 : Int) := of_decide_eq_true (by first | (with_reducible assumption) | assumption)
                    have q107 : x3_2 < (l0.length : Int) := of_decide_eq_true (by first | (with_reducible assumption) | assumption)
                    obtain ⟨ad107, e107, hx107_0, hx107_1, hx107_2, hx107_3, hx107_4, hx107_5⟩ := at_T121 HR0.out x3_2 p107 q107
                    obtain rfl : ad106 = ad107 := (by injection e107)
                    replace p107 := eq_true p107
                    replace q107 := eq_true q107
                    go_wp2
                    go_ret
                    exact ⟨by first | rfl | (simp; done) | (simp [*]; done), by repeat (first | exact Drawn0.refl _ | apply Drawn0.step)⟩
                  · rw [if_neg c9] at H
                    have c9b0 : decide (60 < (((rd_T121 l0 x3_2).f1).size : Int)) = false := decide_eq_false c9
                    have c9b1 : decide (60 < ((rd_T121 l0 x3_2).f1).size) = false := decide_eq_false (by omega)
                    clear c9
                    have H' := Aside0.mk H
                    clear H
                    have p106 : 0 ≤ (x3_2 : Int) := of_decide_eq_true (by first | (with_reducible assumption) | assumption)
                    have q106 : x3_2 < (l0.length : Int) := of_decide_eq_true (by first | (with_reducible assumption) | assumption)
                    obtain ⟨ad106, e106, hx106_0, hx106_1, hx106_2, hx106_3, hx106_4, hx106_5⟩ := at_T121 HR0.out x3_2 p106 q106
                    cases e106
                    replace p106 := eq_true p106
                    replace q106 := eq_true q106
                    have p107 : 0 ≤ (x3_2 : Int) := of_decide_eq_true (by first | (with_reducible assumption) | assumption)
                    have q107 : x3_2 < (l0.length : Int) := of_decide_eq_true (by first | (with_reducible assumption) | assumption)
                    obtain ⟨ad107, e107, hx107_0, hx107_1, hx107_2, hx107_3, hx107_4, hx107_5⟩ := at_T121 HR0.out x3_2 p107 q107
                    obtain rfl : ad106 = ad107 := (by injection e107)
                    replace p107 := eq_true p107
                    replace q107 := eq_true q107
                    go_wp2
                    go_roundg k2
                    case measure => have := HJ1.out; have := HK2.out; omega
                    case rel => exact ⟨(wrap64 (x3_2 + 1)), (by first | rfl | (simp; done) | (simp [*]; done)), H', ⟨by have := HJ1.out; have := HK2.out; omega⟩, by repeat (first | exact Drawn0.refl _ | apply Drawn0.step)⟩
              · rw [if_neg c7] at H
                exact absurd H (by simp)
            · rw [if_neg c6] at H
              have c6b0 : decide (x3_2 < (l0.length : Int)) = false := decide_eq_false c6
              clear c6
              obtain rfl := Option.some.inj H
              go_wp2
              go_ret
              exact ⟨by first | rfl | (simp; done) | (simp [*]; done), by repeat (first | exact Drawn0.refl _ | apply Drawn0.step)⟩
end Go.Proofs.Ytkgdlbepjmgaiaa.Cal
namespace Go.Proofs.Ytkgdlbepjmgaiaa.Cal
open Go.RowKit Go.Proofs.YtkgdlbepjmgaiaaW.PrintWords Go.Proofs.YtkgdlbepjmgaiaaW.PrintLast Go.Proofs.YtkgdlbepjmgaiaaW.PrintMore
attribute [local go_sem] max2_int min2_int max_two min_two max_three min_three max_four min_four
set_option linter.unusedVariables false
set_option linter.unusedSimpArgs false
def metrolablaw52_few.f (k : Nat) (l0 : List (S68)) (a1 : ByteArray) : Option (Bool) := (metrolablaw52_own.f k l0).bind fun t108 => ((metrolabref52_Few.f k t108).bind fun t111 => (if t111 = true then (some (decide ((a1.size : Int) ≤ 60))) else (some false)))
theorem metrolablaw52_few.mono : ∀ a0 a1 k, LeO (metrolablaw52_few.f k a0 a1) (metrolablaw52_few.f (k + 1) a0 a1) := by
  intro a0 a1 k
  unfold metrolablaw52_few.f
  repeat' first
      | (with_reducible exact metrolablaw52_own.mono _ _)
      | (with_reducible exact metrolabref52_Few.mono _ _)
      | (with_reducible exact LeO.refl _)
      | (with_reducible exact LeO.none _)
      | (with_reducible refine LeO.ite ?_ ?_)
      | (with_reducible refine LeO.bind ?_ (fun _ => ?_))
      | exact metrolablaw52_own.mono _ _
      | exact metrolabref52_Few.mono _ _
      | exact LeO.none _
      | refine LeO.ite ?_ ?_
      | refine LeO.bind ?_ (fun _ => ?_)
set_option maxHeartbeats 8000000 in
set_option maxRecDepth 100000 in
theorem metrolablaw52_few.calls (k : Nat) (A0 : Option Addr) (c0 : Nat) (l0 : List (S68)) (a1 : ByteArray) (r : Bool) (w : World) (hr0 : Kd.C k68 w A0 l0.length l0) (hc0 : l0.length ≤ c0) (h : metrolablaw52_few.f k l0 a1 = some r) :
    Calls Try.prog 32 #[.slice A0 l0.length c0, .string a1] w fun e w' => e = .returned (.bool r) ∧ Below w.heap.size w w' := by
  have HR0 := Aside0.mk hr0
  have HC0 := Aside0.mk hc0
  clear hr0 hc0
  have HB := Aside0.mk (Below.refl w.heap.size w)
  have H : ((metrolablaw52_own.f k l0).bind fun t108 => ((metrolabref52_Few.f k t108).bind fun t111 => (if t111 = true then (some (decide ((a1.size : Int) ≤ 60))) else (some false)))) = some r := h
  clear h
  replace H := Option.bind_eq_some_iff.mp H
  obtain ⟨t108, A30, H⟩ := H
  replace H : ((metrolabref52_Few.f k t108).bind fun t111 => (if t111 = true then (some (decide ((a1.size : Int) ≤ 60))) else (some false))) = some r := H
  have A3 := Aside0.mk A30
  clear A30
  replace H := Option.bind_eq_some_iff.mp H
  obtain ⟨t111, A40, H⟩ := H
  replace H : (if t111 = true then (some (decide ((a1.size : Int) ≤ 60))) else (some false)) = some r := H
  have A4 := Aside0.mk A40
  clear A40
  by_cases c5 : t111 = true
  · subst c5
    have H1 : (some (decide ((a1.size : Int) ≤ 60))) = some r := by rw [if_pos rfl] at H; exact H
    clear H
    have H := H1
    clear H1
    obtain rfl := Option.some.inj H
    go_enter Try.func32, Try.ntmps32
    go_wp2_with (first | ((with_reducible refine gate_callee (f := 37) rfl ?_); refine goesL_ (some 6) rfl rfl Try.func37 (by kernel_rfl) rfl #[.slice A0 l0.length c0] rfl (by (try simp only [List.map_toArray, List.map_cons, List.map_nil]); first | done | rfl | (simp only [List.length_drop, List.length_take]; rfl)) ?_; (with_reducible refine (metrolablaw52_own.calls k _ _ l0 t108 _ ?side1 ?side2 A3.out).mono ?_); (case side1 => repeat (first | exact HR0.out | (with_reducible refine Kd.C_alloc ?_ _) | (with_reducible refine Kd.C_drewN ?_ _) | (with_reducible refine Kd.C_drew ?_))); (case side2 => exact HC0.out); rintro e w6 ⟨v109, rfl, ho0, hb⟩; refine ⟨_, rfl, ?_⟩; have n0_ := Aside0.mk (Kd.R_lower ho0 (below_size (by repeat (first | (with_reducible first | exact HB.out | apply below_alloc | apply pw_below_drewN | apply below_drew1) | exact HB.out)))); have n1_ := Aside0.mk (below_step (by repeat (first | (with_reducible first | exact HB.out | apply below_alloc | apply pw_below_drewN | apply below_drew1) | exact HB.out)) hb); clear HB; have HO110 := n0_; have HB := n1_; clear n0_ n1_; (try clear hb); (try clear hb2); (try clear hk); (try clear hi); (try clear ho0); obtain ⟨Ao7, co7, eo7⟩ := Kd.R_slice HO110.out; subst eo7) | ((with_reducible refine gate_callee (f := 84) rfl ?_); refine goesL_ (some 7) rfl rfl Try.func84 (by kernel_rfl) rfl #[.slice Ao7 t108.length co7] rfl (by (try simp only [List.map_toArray, List.map_cons, List.map_nil]); first | done | rfl | (simp only [List.length_drop, List.length_take]; rfl)) ?_; (with_reducible refine (metrolabref52_Few.calls k _ _ t108 true _ ?side1 ?side2 A4.out).mono ?_); (case side1 => repeat (first | exact (Kd.R_reads' HO110.out).2.2 | (with_reducible refine Kd.C_alloc ?_ _) | (with_reducible refine Kd.C_drewN ?_ _) | (with_reducible refine Kd.C_drew ?_))); (case side2 => exact (Kd.R_reads' HO110.out).2.1); rintro e w' ⟨rfl, ⟨nd, rfl⟩⟩; refine ⟨_, rfl, ?_⟩))
    go_ret
    exact ⟨by first | rfl | (simp [errW_none, errW_some] <;> rfl) | (simp [*, errW_none, errW_some] <;> rfl), by repeat (first | (with_reducible first | exact HB.out | apply below_alloc | apply pw_below_drewN | apply below_drew1) | exact HB.out)⟩
  · replace c5 := Bool.eq_false_iff.mpr c5
    subst c5
    have H1 : (some false) = some r := by rw [if_neg (show ¬ (false = true) by decide)] at H; exact H
    clear H
    have H := H1
    clear H1
    obtain rfl := Option.some.inj H
    go_enter Try.func32, Try.ntmps32
    go_wp2_with (first | ((with_reducible refine gate_callee (f := 37) rfl ?_); refine goesL_ (some 6) rfl rfl Try.func37 (by kernel_rfl) rfl #[.slice A0 l0.length c0] rfl (by (try simp only [List.map_toArray, List.map_cons, List.map_nil]); first | done | rfl | (simp only [List.length_drop, List.length_take]; rfl)) ?_; (with_reducible refine (metrolablaw52_own.calls k _ _ l0 t108 _ ?side1 ?side2 A3.out).mono ?_); (case side1 => repeat (first | exact HR0.out | (with_reducible refine Kd.C_alloc ?_ _) | (with_reducible refine Kd.C_drewN ?_ _) | (with_reducible refine Kd.C_drew ?_))); (case side2 => exact HC0.out); rintro e w8 ⟨v109, rfl, ho0, hb⟩; refine ⟨_, rfl, ?_⟩; have n0_ := Aside0.mk (Kd.R_lower ho0 (below_size (by repeat (first | (with_reducible first | exact HB.out | apply below_alloc | apply pw_below_drewN | apply below_drew1) | exact HB.out)))); have n1_ := Aside0.mk (below_step (by repeat (first | (with_reducible first | exact HB.out | apply below_alloc | apply pw_below_drewN | apply below_drew1) | exact HB.out)) hb); clear HB; have HO110 := n0_; have HB := n1_; clear n0_ n1_; (try clear hb); (try clear hb2); (try clear hk); (try clear hi); (try clear ho0); obtain ⟨Ao9, co9, eo9⟩ := Kd.R_slice HO110.out; subst eo9) | ((with_reducible refine gate_callee (f := 84) rfl ?_); refine goesL_ (some 7) rfl rfl Try.func84 (by kernel_rfl) rfl #[.slice Ao9 t108.length co9] rfl (by (try simp only [List.map_toArray, List.map_cons, List.map_nil]); first | done | rfl | (simp only [List.length_drop, List.length_take]; rfl)) ?_; (with_reducible refine (metrolabref52_Few.calls k _ _ t108 false _ ?side1 ?side2 A4.out).mono ?_); (case side1 => repeat (first | exact (Kd.R_reads' HO110.out).2.2 | (with_reducible refine Kd.C_alloc ?_ _) | (with_reducible refine Kd.C_drewN ?_ _) | (with_reducible refine Kd.C_drew ?_))); (case side2 => exact (Kd.R_reads' HO110.out).2.1); rintro e w' ⟨rfl, ⟨nd, rfl⟩⟩; refine ⟨_, rfl, ?_⟩))
    go_ret
    exact ⟨by first | rfl | (simp [errW_none, errW_some] <;> rfl) | (simp [*, errW_none, errW_some] <;> rfl), by repeat (first | (with_reducible first | exact HB.out | apply below_alloc | apply pw_below_drewN | apply below_drew1) | exact HB.out)⟩
end Go.Proofs.Ytkgdlbepjmgaiaa.Cal
namespace Go.Proofs.Ytkgdlbepjmgaiaa.Hand
open Go.RowKit Go.Proofs.YtkgdlbepjmgaiaaW.PrintWords
def letB (c : Int) : Bool := (decide (65 ≤ c) && decide (c ≤ 90)) || (decide (97 ≤ c) && decide (c ≤ 122))
def digB (c : Int) : Bool := decide (48 ≤ c) && decide (c ≤ 57)
theorem letter_calls (c : Int) (w : World) : Calls Try.prog 115 #[.int .u8 c] w fun e w' => e = .returned (.bool (letB c)) ∧ w = w' := by
  by_cases h1 : 65 ≤ c <;> by_cases h2 : c ≤ 90 <;> by_cases h3 : 97 ≤ c <;> by_cases h4 : c ≤ 122
  all_goals try (exfalso; omega)
  all_goals
    have hr : ∀ b, (b = letB c) → Ending.returned (.bool b) = .returned (.bool (letB c)) := fun b h => by rw [h]
    have hl : letB c = ((decide (65 ≤ c) && decide (c ≤ 90)) || (decide (97 ≤ c) && decide (c ≤ 122))) := rfl
    have HL := Aside0.mk hl
    clear hl
    have HR := Aside0.mk hr
    clear hr
    go_enter Try.func115, Try.ntmps115
    go_wp2
    go_ret
    exact ⟨HR.out _ (by rw [HL.out]; simp [h1, h2, h3, h4]), rfl⟩
theorem digit_calls (c : Int) (w : World) : Calls Try.prog 116 #[.int .u8 c] w fun e w' => e = .returned (.bool (digB c)) ∧ w = w' := by
  by_cases h1 : 48 ≤ c <;> by_cases h2 : c ≤ 57
  all_goals
    have hr : ∀ b, (b = digB c) → Ending.returned (.bool b) = .returned (.bool (digB c)) := fun b h => by rw [h]
    have hl : digB c = (decide (48 ≤ c) && decide (c ≤ 57)) := rfl
    have HL := Aside0.mk hl
    clear hl
    have HR := Aside0.mk hr
    clear hr
    go_enter Try.func116, Try.ntmps116
    go_wp2
    go_ret
    exact ⟨HR.out _ (by rw [HL.out]; simp [h1, h2]), rfl⟩
def nmOk (c : Int) : Bool := letB c || digB c
def nmGo (s : ByteArray) : Nat → Bool
  | 0 => true
  | n + 1 => nmGo s n && nmOk (bt s n)
def nmV (s : ByteArray) : Int := if 24 < (s.size : Int) then 17 else if (s.size : Int) = 0 then 3 else if letB (bt s 0) = false then 3 else if nmGo s s.size = true then 0 else 3
theorem nmGo_step (s : ByteArray) (k : Nat) (h : nmGo s k = true) : nmGo s (k + 1) = nmOk (bt s k) := by
  simp [nmGo, h]
theorem nmGo_false (s : ByteArray) (k n : Nat) (hk : nmGo s k = false) (h : k ≤ n) : nmGo s n = false := by
  induction h with
  | refl => exact hk
  | step _ ih => simp [nmGo, ih]
theorem ret_i {a b : Int} (h : a = b) : Ending.returned (.int .i64 a) = .returned (.int .i64 b) := by rw [h]
set_option maxHeartbeats 1000000 in
theorem name_calls (s : ByteArray) (w : World) : Calls Try.prog 80 #[.string s] w fun e w' => e = .returned (.int .i64 (nmV s)) ∧ Below w.heap.size w w' := by
  by_cases h1 : 24 < (s.size : Int)
  · have hv : nmV s = 17 := by unfold nmV; rw [if_pos h1]
    have HV := Aside0.mk hv
    clear hv
    go_enter Try.func80, Try.ntmps80
    go_wp2
    go_ret
    exact ⟨ret_i HV.out.symm, Below.refl _ _⟩
  · by_cases h2 : (s.size : Int) = 0
    · have hv : nmV s = 3 := by unfold nmV; rw [if_neg h1, if_pos h2]
      have HV := Aside0.mk hv
      clear hv
      have hz : s.toList = [] := by
        have : s.data.toList.length = 0 := by rw [data_length]; omega
        rw [ByteArray.toList_eq]
        exact List.eq_nil_of_length_eq_zero this
      have hz1 : (s.toList.isEmpty) = true := by rw [hz]; rfl
      have hz2 : (s.toList == ([] : List UInt8)) = true := by rw [hz]; rfl
      clear hz h2
      go_enter Try.func80, Try.ntmps80
      go_wp2
      go_ret
      exact ⟨ret_i HV.out.symm, Below.refl _ _⟩
    · have hpos : 0 < s.size := by omega
      have hne : (s.toList.isEmpty) = false := by
        rw [List.isEmpty_eq_false_iff]
        intro h
        have : s.data.toList.length = 0 := by rw [← ByteArray.toList_eq, h]; rfl
        rw [data_length] at this; omega
      have hne2 : (s.toList == ([] : List UInt8)) = false := by
        rw [beq_eq_false_iff_ne]; exact List.isEmpty_eq_false_iff.1 hne
      have hb0 : ∀ h : 0 < s.size, ((s[0]'h).toNat : Int) = bt s 0 := fun h => bt_at s 0 h
      by_cases h3 : letB (bt s 0) = false
      · have hv : nmV s = 3 := by unfold nmV; rw [if_neg h1, if_neg h2, if_pos h3]
        have HV := Aside0.mk hv
        clear hv
        go_enter Try.func80, Try.ntmps80
        go_wp2_with (go_at_call 115; refine (letter_calls _ _).mono ?_; rintro e w' ⟨rfl, rfl⟩)
        go_ret
        exact ⟨ret_i HV.out.symm, Below.refl _ _⟩
      · replace h3 : letB (bt s 0) = true := by cases h : letB (bt s 0) <;> simp_all
        have hv : nmV s = if nmGo s s.size = true then 0 else 3 := by unfold nmV; rw [if_neg h1, if_neg h2, if_neg (by rw [h3]; decide)]
        have HV := Aside0.mk hv
        clear hv h2
        have h1' : s.size ≤ 24 := by omega
        have kb := fun W => print_bytes (P := Try.prog) 9 146 5 Try.underlying9 Try.underlying146 Try.underlying5 s W
        have HB : Below w.heap.size w (Lib.bytesWorld w 5 s) := bytes_below (Below.refl _ _) (Nat.le_refl _) 5 s
        have HC : Aside0 (∀ k : Nat, k < s.size → (Lib.bytesWorld w 5 s).cell? ⟨w.heap.size, k, none⟩ = some (.int .u8 (bt s k))) := ⟨fun k hk => by
          rw [Lib.bytesWorld_cell w 5 s k hk]
          have h' : k < s.data.toList.length := by rw [data_length]; exact hk
          rw [← bt_at s k (by simpa using hk)]
          simp [List.getD_eq_getElem?_getD, List.getElem?_eq_getElem h']
          rfl⟩
        go_enter Try.func80, Try.ntmps80
        go_wp2_with (go_at_call 115; refine (letter_calls _ _).mono ?_; rintro e w' ⟨rfl, rfl⟩)
        have HBB := Aside0.mk HB
        clear HB kb h3 hb0 hne hne2
        generalize Lib.bytesWorld w 5 s = W at *
        go_loop [4, 19] (fun _ i => ∃ k : Nat, k ≤ s.size ∧ i = .int .i64 k ∧ Aside0 (nmGo s k = true)) (fun _ i => s.size - (intOf i).toNat)
        case atStart => exact ⟨0, Nat.zero_le _, rfl, ⟨rfl⟩⟩
        case round =>
          obtain ⟨k, hk, rfl, hg⟩ := hrel
          by_cases hlt : k < s.size
          · have hc := HC.out k hlt
            cases hL : letB (bt s k)
            · cases hD : digB (bt s k)
              · have hf : nmGo s s.size = false := nmGo_false s (k + 1) s.size (by rw [nmGo_step s k hg.out]; simp [nmOk, hL, hD]) hlt
                have HF := Aside0.mk hf
                clear hf
                go_wp2_with (first | (go_at_call 115; refine (letter_calls _ _).mono ?_; rintro e w' ⟨rfl, rfl⟩) | (go_at_call 116; refine (digit_calls _ _).mono ?_; rintro e w' ⟨rfl, rfl⟩))
                go_ret
                exact ⟨ret_i (by rw [HV.out, HF.out]; rfl), HBB.out⟩
              · have hf : nmGo s (k + 1) = true := by rw [nmGo_step s k hg.out]; simp [nmOk, hD]
                have HF := Aside0.mk hf
                clear hf
                go_wp2_with (first | (go_at_call 115; refine (letter_calls _ _).mono ?_; rintro e w' ⟨rfl, rfl⟩) | (go_at_call 116; refine (digit_calls _ _).mono ?_; rintro e w' ⟨rfl, rfl⟩))
                go_round
                case rel => exact ⟨k + 1, hlt, by go_num, HF⟩
                case measure => simp [intOf]; omega
            · have hf : nmGo s (k + 1) = true := by rw [nmGo_step s k hg.out]; simp [nmOk, hL]
              have HF := Aside0.mk hf
              clear hf
              go_wp2_with (first | (go_at_call 115; refine (letter_calls _ _).mono ?_; rintro e w' ⟨rfl, rfl⟩) | (go_at_call 116; refine (digit_calls _ _).mono ?_; rintro e w' ⟨rfl, rfl⟩))
              go_round
              case rel => exact ⟨k + 1, hlt, by go_num, HF⟩
              case measure => simp [intOf]; omega
          · obtain rfl : k = s.size := by omega
            go_wp2
            go_ret
            exact ⟨ret_i (by rw [HV.out, hg.out]; rfl), HBB.out⟩
end Go.Proofs.Ytkgdlbepjmgaiaa.Hand
namespace Go.Proofs.Ytkgdlbepjmgaiaa.Cal
open Go.RowKit Go.Proofs.YtkgdlbepjmgaiaaW.PrintWords Go.Proofs.YtkgdlbepjmgaiaaW.PrintLast Go.Proofs.YtkgdlbepjmgaiaaW.PrintMore
attribute [local go_sem] max2_int min2_int max_two min_two max_three min_three max_four min_four
set_option linter.unusedVariables false
set_option linter.unusedSimpArgs false
def dimension_Name.f (a0 : ByteArray) : Option Int := some (Hand.nmV a0)
theorem dimension_Name.calls (a0 : ByteArray) (r : Int) (w : World) (h : dimension_Name.f a0 = some r) :
    Calls Try.prog 80 #[.string a0] w fun e w' => e = .returned (.int .i64 r) ∧ Below w.heap.size w w' := by
  obtain rfl := Option.some.inj h
  exact Hand.name_calls a0 w
end Go.Proofs.Ytkgdlbepjmgaiaa.Cal
namespace Go.Proofs.Ytkgdlbepjmgaiaa.Cal
open Go.RowKit Go.Proofs.YtkgdlbepjmgaiaaW.PrintWords Go.Proofs.YtkgdlbepjmgaiaaW.PrintLast Go.Proofs.YtkgdlbepjmgaiaaW.PrintMore
attribute [local go_sem] max2_int min2_int max_two min_two max_three min_three max_four min_four
set_option linter.unusedVariables false
set_option linter.unusedSimpArgs false
def calibrate_ranged.f (a0 : Int) (a1 : Int) (a2 : Int) : Option (Bool) := if a0 ≥ a1 then (some (decide (a0 ≤ a2))) else (some false)
set_option maxHeartbeats 8000000 in
set_option maxRecDepth 100000 in
theorem calibrate_ranged.calls (a0 : Int) (a1 : Int) (a2 : Int) (r : Bool) (w : World) (h : calibrate_ranged.f a0 a1 a2 = some r) :
    Calls Try.prog 112 #[.int .i64 a0, .int .i64 a1, .int .i64 a2] w fun e w' => e = .returned (.bool r) ∧ Drawn0 w w' := by
  have H : (if a0 ≥ a1 then (some (decide (a0 ≤ a2))) else (some false)) = some r := h
  clear h
  by_cases c4 : a0 ≥ a1
  · rw [if_pos c4] at H
    have c4b0 : decide (a1 ≤ a0) = true := decide_eq_true c4
    clear c4
    obtain rfl := Option.some.inj H
    go_enter Try.func112, Try.ntmps112
    go_wp2
    go_ret
    exact ⟨by first | rfl | (simp; done) | (simp [*]; done), by repeat (first | exact Drawn0.refl _ | apply Drawn0.step)⟩
  · rw [if_neg c4] at H
    have c4b0 : decide (a1 ≤ a0) = false := decide_eq_false c4
    clear c4
    obtain rfl := Option.some.inj H
    go_enter Try.func112, Try.ntmps112
    go_wp2
    go_ret
    exact ⟨by first | rfl | (simp; done) | (simp [*]; done), by repeat (first | exact Drawn0.refl _ | apply Drawn0.step)⟩
end Go.Proofs.Ytkgdlbepjmgaiaa.Cal
namespace Go.Proofs.Ytkgdlbepjmgaiaa.Cal
open Go.RowKit Go.Proofs.YtkgdlbepjmgaiaaW.PrintWords Go.Proofs.YtkgdlbepjmgaiaaW.PrintLast Go.Proofs.YtkgdlbepjmgaiaaW.PrintMore
attribute [local go_sem] max2_int min2_int max_two min_two max_three min_three max_four min_four
set_option linter.unusedVariables false
set_option linter.unusedSimpArgs false
def calibrate_day.f (a0 : Int) : Option (Int) := (calibrate_ranged.f a0 0 1048576).bind fun t115 => (if t115 = true then (some 0) else (some 2))
set_option maxHeartbeats 8000000 in
set_option maxRecDepth 100000 in
theorem calibrate_day.calls (a0 : Int) (r : Int) (w : World) (h : calibrate_day.f a0 = some r) :
    Calls Try.prog 87 #[.int .i64 a0] w fun e w' => e = .returned (.int .i64 r) ∧ Drawn0 w w' := by
  have H : ((calibrate_ranged.f a0 0 1048576).bind fun t115 => (if t115 = true then (some 0) else (some 2))) = some r := h
  clear h
  replace H := Option.bind_eq_some_iff.mp H
  obtain ⟨t115, A20, H⟩ := H
  replace H : (if t115 = true then (some 0) else (some 2)) = some r := H
  have A2 := Aside0.mk A20
  clear A20
  by_cases c3 : t115 = true
  · subst c3
    have H1 : (some 0) = some r := by rw [if_pos rfl] at H; exact H
    clear H
    have H := H1
    clear H1
    obtain rfl := Option.some.inj H
    go_enter Try.func87, Try.ntmps87
    go_wp2_with (first | ((with_reducible refine gate_callee (f := 112) rfl ?_); refine goesL_ (some 4) rfl rfl Try.func112 (by kernel_rfl) rfl #[.int .i64 a0, .int .i64 0, .int .i64 1048576] rfl (by (try simp only [List.map_toArray, List.map_cons, List.map_nil]); first | done | rfl | (simp only [List.length_drop, List.length_take]; rfl)) ?_; (with_reducible refine (calibrate_ranged.calls a0 0 1048576 true _ A2.out).mono ?_); rintro e w' ⟨rfl, ⟨nd, rfl⟩⟩; refine ⟨_, rfl, ?_⟩))
    go_ret
    exact ⟨by first | rfl | (simp; done) | (simp [*]; done), by repeat (first | exact Drawn0.refl _ | apply Drawn0.step)⟩
  · replace c3 := Bool.eq_false_iff.mpr c3
    subst c3
    have H1 : (some 2) = some r := by rw [if_neg (show ¬ (false = true) by decide)] at H; exact H
    clear H
    have H := H1
    clear H1
    obtain rfl := Option.some.inj H
    go_enter Try.func87, Try.ntmps87
    go_wp2_with (first | ((with_reducible refine gate_callee (f := 112) rfl ?_); refine goesL_ (some 4) rfl rfl Try.func112 (by kernel_rfl) rfl #[.int .i64 a0, .int .i64 0, .int .i64 1048576] rfl (by (try simp only [List.map_toArray, List.map_cons, List.map_nil]); first | done | rfl | (simp only [List.length_drop, List.length_take]; rfl)) ?_; (with_reducible refine (calibrate_ranged.calls a0 0 1048576 false _ A2.out).mono ?_); rintro e w' ⟨rfl, ⟨nd, rfl⟩⟩; refine ⟨_, rfl, ?_⟩))
    go_ret
    exact ⟨by first | rfl | (simp; done) | (simp [*]; done), by repeat (first | exact Drawn0.refl _ | apply Drawn0.step)⟩
end Go.Proofs.Ytkgdlbepjmgaiaa.Cal
namespace Go.Proofs.Ytkgdlbepjmgaiaa.Cal
open Go.RowKit Go.Proofs.YtkgdlbepjmgaiaaW.PrintWords Go.Proofs.YtkgdlbepjmgaiaaW.PrintLast Go.Proofs.YtkgdlbepjmgaiaaW.PrintMore
attribute [local go_sem] max2_int min2_int max_two min_two max_three min_three max_four min_four
set_option linter.unusedVariables false
set_option linter.unusedSimpArgs false
mutual
def calibrate_check.j0 : Nat → ByteArray → ByteArray → Int → Int → Int → Int → Option (Int)
  | 0, _, _, _, _, _, _ => none
  | k + 1, x117000, x117001, x117002, x117003, x117004, x117005 => if x117001.toList = x117000.toList then (some 7) else ((calibrate_ranged.f x117002 (-100000) 100000).bind fun t119 => (if t119 = true then ((calibrate_ranged.f x117003 0 100000).bind fun t120 => (if t120 = true then ((calibrate_day.f x117004).bind fun t121 => (if t121 = 0 then ((calibrate_day.f x117005).bind fun t122 => (calibrate_check.j1 k (t122 != 0) x117000 x117001 x117002 x117003 x117004 x117005)) else (calibrate_check.j1 k true x117000 x117001 x117002 x117003 x117004 x117005))) else (calibrate_check.j1 k true x117000 x117001 x117002 x117003 x117004 x117005))) else (calibrate_check.j1 k true x117000 x117001 x117002 x117003 x117004 x117005)))
def calibrate_check.j1 : Nat → Bool → ByteArray → ByteArray → Int → Int → Int → Int → Option (Int)
  | 0, _, _, _, _, _, _, _ => none
  | k + 1, x26, x117000, x117001, x117002, x117003, x117004, x117005 => if x26 = true then (some 2) else (if x117005 < x117004 then (some 9) else (some 0))
end
def calibrate_check.f (k : Nat) (a0_0 : ByteArray) (a0_1 : ByteArray) (a0_2 : Int) (a0_3 : Int) (a0_4 : Int) (a0_5 : Int) : Option (Int) := (dimension_Name.f a0_0).bind fun t117 => (if t117 = 0 then (if a0_1.toList = ([] : List UInt8) then (calibrate_check.j0 k a0_0 a0_1 a0_2 a0_3 a0_4 a0_5) else ((dimension_Name.f a0_1).bind fun t118 => (if t118 = 0 then (calibrate_check.j0 k a0_0 a0_1 a0_2 a0_3 a0_4 a0_5) else (some t118)))) else (some t117))
theorem calibrate_check.mono_l : ∀ k, (∀ y0 y1 y2 y3 y4 y5, LeO (calibrate_check.j0 k y0 y1 y2 y3 y4 y5) (calibrate_check.j0 (k + 1) y0 y1 y2 y3 y4 y5)) ∧ (∀ y0 y1 y2 y3 y4 y5 y6, LeO (calibrate_check.j1 k y0 y1 y2 y3 y4 y5 y6) (calibrate_check.j1 (k + 1) y0 y1 y2 y3 y4 y5 y6))
  | 0 => ⟨fun _ _ _ _ _ _ r h => by simp [calibrate_check.j0] at h, fun _ _ _ _ _ _ _ r h => by simp [calibrate_check.j1] at h⟩
  | k + 1 => by
    obtain ⟨ih0, ih1⟩ := calibrate_check.mono_l k
    refine ⟨?_, ?_⟩
    · intro y0 y1 y2 y3 y4 y5
      unfold calibrate_check.j0
      repeat' first
      | (with_reducible exact ih0 _ _ _ _ _ _)
      | (with_reducible exact ih1 _ _ _ _ _ _ _)
      | (with_reducible exact LeO.refl _)
      | (with_reducible exact LeO.none _)
      | (with_reducible refine LeO.ite ?_ ?_)
      | (with_reducible refine LeO.bind ?_ (fun _ => ?_))
      | exact ih0 _ _ _ _ _ _
      | exact ih1 _ _ _ _ _ _ _
      | exact LeO.none _
      | refine LeO.ite ?_ ?_
      | refine LeO.bind ?_ (fun _ => ?_)
    · intro y0 y1 y2 y3 y4 y5 y6
      unfold calibrate_check.j1
      repeat' first
      | (with_reducible exact ih0 _ _ _ _ _ _)
      | (with_reducible exact ih1 _ _ _ _ _ _ _)
      | (with_reducible exact LeO.refl _)
      | (with_reducible exact LeO.none _)
      | (with_reducible refine LeO.ite ?_ ?_)
      | (with_reducible refine LeO.bind ?_ (fun _ => ?_))
      | exact ih0 _ _ _ _ _ _
      | exact ih1 _ _ _ _ _ _ _
      | exact LeO.none _
      | refine LeO.ite ?_ ?_
      | refine LeO.bind ?_ (fun _ => ?_)
theorem calibrate_check.mono : ∀ a0 a1 a2 a3 a4 a5 k, LeO (calibrate_check.f k a0 a1 a2 a3 a4 a5) (calibrate_check.f (k + 1) a0 a1 a2 a3 a4 a5) := by
  intro a0 a1 a2 a3 a4 a5 k
  obtain ⟨ih0, ih1⟩ := calibrate_check.mono_l k
  unfold calibrate_check.f
  repeat' first
      | (with_reducible exact ih0 _ _ _ _ _ _)
      | (with_reducible exact ih1 _ _ _ _ _ _ _)
      | (with_reducible exact LeO.refl _)
      | (with_reducible exact LeO.none _)
      | (with_reducible refine LeO.ite ?_ ?_)
      | (with_reducible refine LeO.bind ?_ (fun _ => ?_))
      | exact ih0 _ _ _ _ _ _
      | exact ih1 _ _ _ _ _ _ _
      | exact LeO.none _
      | refine LeO.ite ?_ ?_
      | refine LeO.bind ?_ (fun _ => ?_)
set_option maxHeartbeats 8000000 in
set_option maxRecDepth 100000 in
theorem calibrate_check.calls (k : Nat) (a0_0 : ByteArray) (a0_1 : ByteArray) (a0_2 : Int) (a0_3 : Int) (a0_4 : Int) (a0_5 : Int) (r : Int) (w : World) (h : calibrate_check.f k a0_0 a0_1 a0_2 a0_3 a0_4 a0_5 = some r) :
    Calls Try.prog 110 #[.agg #[.string a0_0, .string a0_1, .int .i64 a0_2, .int .i64 a0_3, .int .i64 a0_4, .int .i64 a0_5]] w fun e w' => e = .returned (.int .i64 r) ∧ Below w.heap.size w w' := by
  have hu68 := Try.underlying68
  have HB := Aside0.mk (Below.refl w.heap.size w)
  have H : ((dimension_Name.f a0_0).bind fun t117 => (if t117 = 0 then (if a0_1.toList = ([] : List UInt8) then (calibrate_check.j0 k a0_0 a0_1 a0_2 a0_3 a0_4 a0_5) else ((dimension_Name.f a0_1).bind fun t118 => (if t118 = 0 then (calibrate_check.j0 k a0_0 a0_1 a0_2 a0_3 a0_4 a0_5) else (some t118)))) else (some t117))) = some r := h
  clear h
  replace H := Option.bind_eq_some_iff.mp H
  obtain ⟨t117, A20, H⟩ := H
  replace H : (if t117 = 0 then (if a0_1.toList = ([] : List UInt8) then (calibrate_check.j0 k a0_0 a0_1 a0_2 a0_3 a0_4 a0_5) else ((dimension_Name.f a0_1).bind fun t118 => (if t118 = 0 then (calibrate_check.j0 k a0_0 a0_1 a0_2 a0_3 a0_4 a0_5) else (some t118)))) else (some t117)) = some r := H
  have A2 := Aside0.mk A20
  clear A20
  by_cases c3 : t117 = 0
  · rw [if_pos c3] at H
    have c3b0 : (t117 == 0) = true := beq_iff_eq.mpr c3
    have c3b1 : (t117 != 0) = false := bne_eq_false_iff_eq.mpr c3
    clear c3
    have HC4 := Aside0.mk H
    clear H
    go_enter Try.func110, Try.ntmps110
    go_upto_if 13 with (first | ((with_reducible refine gate_dst (N := 1) rfl ?_); refine box_event ?hg (N := 1) ?hd (cs := #[.string a0_0, .string a0_1, .int .i64 a0_2, .int .i64 a0_3, .int .i64 a0_4, .int .i64 a0_5]) (t := 68) ?hr ?_; (case hd => rfl); (case hg => rfl); (case hr => first | (go_simp; done) | (go_simp; rfl)); intro gb116 hg w5 hbox hb; have n0_ := Aside0.mk (below_step (by repeat (first | (with_reducible first | exact HB.out | apply below_alloc | apply pw_below_drewN | apply below_drew1) | exact HB.out)) hb); have n1_ := Aside0.mk (hbox); have n2_ := Aside0.mk ((by rw [hg]; exact (below_size (by repeat (first | (with_reducible first | exact HB.out | apply below_alloc | apply pw_below_drewN | apply below_drew1) | exact HB.out))) : w.heap.size ≤ gb116)); have n3_ := Aside0.mk ((by rw [hg]; exact (below_size (by repeat (first | (with_reducible first | exact HB.out | apply below_alloc | apply pw_below_drewN | apply below_drew1) | exact HB.out))) : w.heap.size ≤ gb116)); clear HB; have HB := n0_; have BK116 := n1_; have GW116 := n2_; have GE116 := n3_; clear n0_ n1_ n2_ n3_; clear hb hbox hg; have hcz6_0 : w5.cell? ⟨gb116, 0, none⟩ = some (.string a0_0) := (blk_cell BK116.out 0).trans rfl; have hcz6_1 : w5.cell? ⟨gb116, 1, none⟩ = some (.string a0_1) := (blk_cell BK116.out 1).trans rfl; have hcz6_2 : w5.cell? ⟨gb116, 2, none⟩ = some (.int .i64 a0_2) := (blk_cell BK116.out 2).trans rfl; have hcz6_3 : w5.cell? ⟨gb116, 3, none⟩ = some (.int .i64 a0_3) := (blk_cell BK116.out 3).trans rfl; have hcz6_4 : w5.cell? ⟨gb116, 4, none⟩ = some (.int .i64 a0_4) := (blk_cell BK116.out 4).trans rfl; have hcz6_5 : w5.cell? ⟨gb116, 5, none⟩ = some (.int .i64 a0_5) := (blk_cell BK116.out 5).trans rfl; have hfz6_0 := blk_frozen BK116.out 0; have hfz6_1 := blk_frozen BK116.out 1; have hfz6_2 := blk_frozen BK116.out 2; have hfz6_3 := blk_frozen BK116.out 3; have hfz6_4 := blk_frozen BK116.out 4; have hfz6_5 := blk_frozen BK116.out 5) | ((with_reducible refine gate_callee (f := 80) rfl ?_); refine goesL_ (some 7) rfl rfl Try.func80 (by kernel_rfl) rfl #[.string a0_0] rfl (by (try simp only [List.map_toArray, List.map_cons, List.map_nil]); first | done | rfl | (simp only [List.length_drop, List.length_take]; rfl)) ?_; (with_reducible refine (dimension_Name.calls a0_0 t117 _ A2.out).mono ?_); rintro e w7 ⟨rfl, hb⟩; refine ⟨_, rfl, ?_⟩; have n0_ := Aside0.mk (blk_below (g := gb116) (o := .cells #[.string a0_0, .string a0_1, .int .i64 a0_2, .int .i64 a0_3, .int .i64 a0_4, .int .i64 a0_5] 68 (0, 0)) (by (with_reducible repeat (first | refine blk_drewN ?_ _ | refine blk_drew ?_ | refine blk_alloc ?_ _)); exact BK116.out) hb); have n1_ := Aside0.mk (below_step (by repeat (first | (with_reducible first | exact HB.out | apply below_alloc | apply pw_below_drewN | apply below_drew1 | refine below_set ?_ GE116.out) | exact HB.out)) hb); clear BK116; clear HB; have BK116 := n0_; have HB := n1_; clear n0_ n1_; (try clear hb); (try clear hb2); (try clear hk); (try clear hi); have hcz8_0 : w7.cell? ⟨gb116, 0, none⟩ = some (.string a0_0) := (blk_cell BK116.out 0).trans rfl; have hcz8_1 : w7.cell? ⟨gb116, 1, none⟩ = some (.string a0_1) := (blk_cell BK116.out 1).trans rfl; have hcz8_2 : w7.cell? ⟨gb116, 2, none⟩ = some (.int .i64 a0_2) := (blk_cell BK116.out 2).trans rfl; have hcz8_3 : w7.cell? ⟨gb116, 3, none⟩ = some (.int .i64 a0_3) := (blk_cell BK116.out 3).trans rfl; have hcz8_4 : w7.cell? ⟨gb116, 4, none⟩ = some (.int .i64 a0_4) := (blk_cell BK116.out 4).trans rfl; have hcz8_5 : w7.cell? ⟨gb116, 5, none⟩ = some (.int .i64 a0_5) := (blk_cell BK116.out 5).trans rfl; have hfz8_0 := blk_frozen BK116.out 0; have hfz8_1 := blk_frozen BK116.out 1; have hfz8_2 := blk_frozen BK116.out 2; have hfz8_3 := blk_frozen BK116.out 3; have hfz8_4 := blk_frozen BK116.out 4; have hfz8_5 := blk_frozen BK116.out 5))
    (try simp only [Act.put, List.setIfInBounds_toArray, List.set_cons_zero, List.set_cons_succ])
    go_cut [] (fun wc => ∃ (kq : Nat), Aside0 (calibrate_check.j0 kq a0_0 a0_1 a0_2 a0_3 a0_4 a0_5 = some r) ∧ Aside0 (kq ≤ k) ∧ Aside0 (wc.heap[gb116]? = some (.cells #[.string a0_0, .string a0_1, .int .i64 a0_2, .int .i64 a0_3, .int .i64 a0_4, .int .i64 a0_5] 68 (0, 0))) ∧ Aside0 (Below w.heap.size w wc))
    case first =>
      have H := HC4.out
      clear HC4
      by_cases c9 : a0_1.toList = ([] : List UInt8)
      · rw [if_pos c9] at H
        have c9b0 : (a0_1.toList == ([] : List UInt8)) = true := beq_iff_eq.mpr c9
        have c9b1 : (a0_1.toList != ([] : List UInt8)) = false := bne_eq_false_iff_eq.mpr c9
        have c9b2 : a0_1.toList.isEmpty = true := by rw [List.isEmpty_iff]; exact c9
        clear c9
        (first | rw [c9b0] | (simp only [i64_w, i32_w]; rw [c9b0]) | (rw [c9b2]; try simp only [Bool.not_true, Bool.not_false]) | skip)
        have H' := Aside0.mk H
        clear H
        go_wp2
        go_meet
        case rel => exact ⟨_, H', ⟨by first | omega | exact Nat.le_refl _⟩, ⟨by (with_reducible repeat (first | refine blk_drewN ?_ _ | refine blk_drew ?_ | refine blk_alloc ?_ _)); exact BK116.out⟩, ⟨by repeat (first | (with_reducible first | exact HB.out | apply below_alloc | apply pw_below_drewN | apply below_drew1 | refine below_set ?_ GE116.out) | exact HB.out)⟩⟩
      · rw [if_neg c9] at H
        have c9b0 : (a0_1.toList == ([] : List UInt8)) = false := beq_eq_false_iff_ne.mpr c9
        have c9b1 : (a0_1.toList != ([] : List UInt8)) = true := bne_iff_ne.mpr c9
        have c9b2 : a0_1.toList.isEmpty = false := by rw [List.isEmpty_eq_false_iff]; exact c9
        (first | rw [c9b0] | (simp only [i64_w, i32_w]; rw [c9b0]) | (rw [c9b2]; try simp only [Bool.not_true, Bool.not_false]) | skip)
        replace H := Option.bind_eq_some_iff.mp H
        obtain ⟨t118, A100, H⟩ := H
        replace H : (if t118 = 0 then (calibrate_check.j0 k a0_0 a0_1 a0_2 a0_3 a0_4 a0_5) else (some t118)) = some r := H
        have A10 := Aside0.mk A100
        clear A100
        by_cases c11 : t118 = 0
        · rw [if_pos c11] at H
          have c11b0 : (t118 == 0) = true := beq_iff_eq.mpr c11
          have c11b1 : (t118 != 0) = false := bne_eq_false_iff_eq.mpr c11
          clear c11
          have H' := Aside0.mk H
          clear H
          have hcz12_0 : w7.cell? ⟨gb116, 0, none⟩ = some (.string a0_0) := (blk_cell BK116.out 0).trans rfl
          have hcz12_1 : w7.cell? ⟨gb116, 1, none⟩ = some (.string a0_1) := (blk_cell BK116.out 1).trans rfl
          have hcz12_2 : w7.cell? ⟨gb116, 2, none⟩ = some (.int .i64 a0_2) := (blk_cell BK116.out 2).trans rfl
          have hcz12_3 : w7.cell? ⟨gb116, 3, none⟩ = some (.int .i64 a0_3) := (blk_cell BK116.out 3).trans rfl
          have hcz12_4 : w7.cell? ⟨gb116, 4, none⟩ = some (.int .i64 a0_4) := (blk_cell BK116.out 4).trans rfl
          have hcz12_5 : w7.cell? ⟨gb116, 5, none⟩ = some (.int .i64 a0_5) := (blk_cell BK116.out 5).trans rfl
          have hfz12_0 := blk_frozen BK116.out 0
          have hfz12_1 := blk_frozen BK116.out 1
          have hfz12_2 := blk_frozen BK116.out 2
          have hfz12_3 := blk_frozen BK116.out 3
          have hfz12_4 := blk_frozen BK116.out 4
          have hfz12_5 := blk_frozen BK116.out 5
          go_wp2_with (first | ((with_reducible refine gate_callee (f := 80) rfl ?_); refine goesL_ (some 16) rfl rfl Try.func80 (by kernel_rfl) rfl #[.string a0_1] rfl (by (try simp only [List.map_toArray, List.map_cons, List.map_nil]); first | done | rfl | (simp only [List.length_drop, List.length_take]; rfl)) ?_; (with_reducible refine (dimension_Name.calls a0_1 t118 _ A10.out).mono ?_); rintro e w13 ⟨rfl, hb⟩; refine ⟨_, rfl, ?_⟩; have n0_ := Aside0.mk (blk_below (g := gb116) (o := .cells #[.string a0_0, .string a0_1, .int .i64 a0_2, .int .i64 a0_3, .int .i64 a0_4, .int .i64 a0_5] 68 (0, 0)) (by (with_reducible repeat (first | refine blk_drewN ?_ _ | refine blk_drew ?_ | refine blk_alloc ?_ _)); exact BK116.out) hb); have n1_ := Aside0.mk (below_step (by repeat (first | (with_reducible first | exact HB.out | apply below_alloc | apply pw_below_drewN | apply below_drew1 | refine below_set ?_ GE116.out) | exact HB.out)) hb); clear BK116; clear HB; have BK116 := n0_; have HB := n1_; clear n0_ n1_; (try clear hb); (try clear hb2); (try clear hk); (try clear hi)))
          go_meet
          case rel => exact ⟨_, H', ⟨by first | omega | exact Nat.le_refl _⟩, ⟨by (with_reducible repeat (first | refine blk_drewN ?_ _ | refine blk_drew ?_ | refine blk_alloc ?_ _)); exact BK116.out⟩, ⟨by repeat (first | (with_reducible first | exact HB.out | apply below_alloc | apply pw_below_drewN | apply below_drew1 | refine below_set ?_ GE116.out) | exact HB.out)⟩⟩
        · rw [if_neg c11] at H
          have c11b0 : (t118 == 0) = false := beq_eq_false_iff_ne.mpr c11
          have c11b1 : (t118 != 0) = true := bne_iff_ne.mpr c11
          obtain rfl := Option.some.inj H
          have hcz14_0 : w7.cell? ⟨gb116, 0, none⟩ = some (.string a0_0) := (blk_cell BK116.out 0).trans rfl
          have hcz14_1 : w7.cell? ⟨gb116, 1, none⟩ = some (.string a0_1) := (blk_cell BK116.out 1).trans rfl
          have hcz14_2 : w7.cell? ⟨gb116, 2, none⟩ = some (.int .i64 a0_2) := (blk_cell BK116.out 2).trans rfl
          have hcz14_3 : w7.cell? ⟨gb116, 3, none⟩ = some (.int .i64 a0_3) := (blk_cell BK116.out 3).trans rfl
          have hcz14_4 : w7.cell? ⟨gb116, 4, none⟩ = some (.int .i64 a0_4) := (blk_cell BK116.out 4).trans rfl
          have hcz14_5 : w7.cell? ⟨gb116, 5, none⟩ = some (.int .i64 a0_5) := (blk_cell BK116.out 5).trans rfl
          have hfz14_0 := blk_frozen BK116.out 0
          have hfz14_1 := blk_frozen BK116.out 1
          have hfz14_2 := blk_frozen BK116.out 2
          have hfz14_3 := blk_frozen BK116.out 3
          have hfz14_4 := blk_frozen BK116.out 4
          have hfz14_5 := blk_frozen BK116.out 5
          go_wp2_with (first | ((with_reducible refine gate_callee (f := 80) rfl ?_); refine goesL_ (some 16) rfl rfl Try.func80 (by kernel_rfl) rfl #[.string a0_1] rfl (by (try simp only [List.map_toArray, List.map_cons, List.map_nil]); first | done | rfl | (simp only [List.length_drop, List.length_take]; rfl)) ?_; (with_reducible refine (dimension_Name.calls a0_1 t118 _ A10.out).mono ?_); rintro e w15 ⟨rfl, hb⟩; refine ⟨_, rfl, ?_⟩; have n0_ := Aside0.mk (blk_below (g := gb116) (o := .cells #[.string a0_0, .string a0_1, .int .i64 a0_2, .int .i64 a0_3, .int .i64 a0_4, .int .i64 a0_5] 68 (0, 0)) (by (with_reducible repeat (first | refine blk_drewN ?_ _ | refine blk_drew ?_ | refine blk_alloc ?_ _)); exact BK116.out) hb); have n1_ := Aside0.mk (below_step (by repeat (first | (with_reducible first | exact HB.out | apply below_alloc | apply pw_below_drewN | apply below_drew1 | refine below_set ?_ GE116.out) | exact HB.out)) hb); clear BK116; clear HB; have BK116 := n0_; have HB := n1_; clear n0_ n1_; (try clear hb); (try clear hb2); (try clear hk); (try clear hi)))
          go_ret
          exact ⟨by first | rfl | (simp [errW_none, errW_some] <;> rfl) | (simp [*, errW_none, errW_some] <;> rfl), by repeat (first | (with_reducible first | exact HB.out | apply below_alloc | apply pw_below_drewN | apply below_drew1 | refine below_set ?_ GE116.out) | exact HB.out)⟩
    case rest =>
      clear HC4
      try clear c1
      try clear p2
      try clear c3
      try clear c3b0
      try clear c3b1
      try clear c8
      try clear c9
      try clear c9b0
      try clear c9b1
      try clear c9b2
      try clear c11
      try clear c11b0
      try clear c11b1
      try clear hcz12_0
      try clear hcz12_1
      try clear hcz12_2
      try clear hcz12_3
      try clear hcz12_4
      try clear hcz12_5
      try clear hcz14_0
      try clear hcz14_1
      try clear hcz14_2
      try clear hcz14_3
      try clear hcz14_4
      try clear hcz14_5
      try clear hcz6_0
      try clear hcz6_1
      try clear hcz6_2
      try clear hcz6_3
      try clear hcz6_4
      try clear hcz6_5
      try clear hcz8_0
      try clear hcz8_1
      try clear hcz8_2
      try clear hcz8_3
      try clear hcz8_4
      try clear hcz8_5
      try clear hfz12_0
      try clear hfz12_1
      try clear hfz12_2
      try clear hfz12_3
      try clear hfz12_4
      try clear hfz12_5
      try clear hfz14_0
      try clear hfz14_1
      try clear hfz14_2
      try clear hfz14_3
      try clear hfz14_4
      try clear hfz14_5
      try clear hfz6_0
      try clear hfz6_1
      try clear hfz6_2
      try clear hfz6_3
      try clear hfz6_4
      try clear hfz6_5
      try clear hfz8_0
      try clear hfz8_1
      try clear hfz8_2
      try clear hfz8_3
      try clear hfz8_4
      try clear hfz8_5
      obtain ⟨kq, HA, HJ3, BK116, HB⟩ := hcut
      cases kq with
      | zero => exact absurd HA.out (by simp [calibrate_check.j0])
      | succ kj3 =>
        have H := HA.out
        clear HA
        simp only [calibrate_check.j0] at H
        by_cases c16 : a0_1.toList = a0_0.toList
        · rw [if_pos c16] at H
          have c16b0 : (a0_1.toList == a0_0.toList) = true := beq_iff_eq.mpr c16
          have c16b1 : (a0_1.toList != a0_0.toList) = false := bne_eq_false_iff_eq.mpr c16
          clear c16
          obtain rfl := Option.some.inj H
          have hcz17_0 : wc.cell? ⟨gb116, 0, none⟩ = some (.string a0_0) := (blk_cell BK116.out 0).trans rfl
          have hcz17_1 : wc.cell? ⟨gb116, 1, none⟩ = some (.string a0_1) := (blk_cell BK116.out 1).trans rfl
          have hcz17_2 : wc.cell? ⟨gb116, 2, none⟩ = some (.int .i64 a0_2) := (blk_cell BK116.out 2).trans rfl
          have hcz17_3 : wc.cell? ⟨gb116, 3, none⟩ = some (.int .i64 a0_3) := (blk_cell BK116.out 3).trans rfl
          have hcz17_4 : wc.cell? ⟨gb116, 4, none⟩ = some (.int .i64 a0_4) := (blk_cell BK116.out 4).trans rfl
          have hcz17_5 : wc.cell? ⟨gb116, 5, none⟩ = some (.int .i64 a0_5) := (blk_cell BK116.out 5).trans rfl
          have hfz17_0 := blk_frozen BK116.out 0
          have hfz17_1 := blk_frozen BK116.out 1
          have hfz17_2 := blk_frozen BK116.out 2
          have hfz17_3 := blk_frozen BK116.out 3
          have hfz17_4 := blk_frozen BK116.out 4
          have hfz17_5 := blk_frozen BK116.out 5
          go_wp2
          go_ret
          exact ⟨by first | rfl | (simp [errW_none, errW_some] <;> rfl) | (simp [*, errW_none, errW_some] <;> rfl), by repeat (first | (with_reducible first | exact HB.out | apply below_alloc | apply pw_below_drewN | apply below_drew1 | refine below_set ?_ GE116.out) | exact HB.out)⟩
        · rw [if_neg c16] at H
          have c16b0 : (a0_1.toList == a0_0.toList) = false := beq_eq_false_iff_ne.mpr c16
          have c16b1 : (a0_1.toList != a0_0.toList) = true := bne_iff_ne.mpr c16
          have HC18 := Aside0.mk H
          clear H
          have hcz19_0 : wc.cell? ⟨gb116, 0, none⟩ = some (.string a0_0) := (blk_cell BK116.out 0).trans rfl
          have hcz19_1 : wc.cell? ⟨gb116, 1, none⟩ = some (.string a0_1) := (blk_cell BK116.out 1).trans rfl
          have hcz19_2 : wc.cell? ⟨gb116, 2, none⟩ = some (.int .i64 a0_2) := (blk_cell BK116.out 2).trans rfl
          have hcz19_3 : wc.cell? ⟨gb116, 3, none⟩ = some (.int .i64 a0_3) := (blk_cell BK116.out 3).trans rfl
          have hcz19_4 : wc.cell? ⟨gb116, 4, none⟩ = some (.int .i64 a0_4) := (blk_cell BK116.out 4).trans rfl
          have hcz19_5 : wc.cell? ⟨gb116, 5, none⟩ = some (.int .i64 a0_5) := (blk_cell BK116.out 5).trans rfl
          have hfz19_0 := blk_frozen BK116.out 0
          have hfz19_1 := blk_frozen BK116.out 1
          have hfz19_2 := blk_frozen BK116.out 2
          have hfz19_3 := blk_frozen BK116.out 3
          have hfz19_4 := blk_frozen BK116.out 4
          have hfz19_5 := blk_frozen BK116.out 5
          go_upto_region 10 with (fail)
          go_cut [26] (fun v26 wc => ∃ (kq : Nat) (x26_17 : Bool), v26 = .bool x26_17 ∧ Aside0 (calibrate_check.j1 kq x26_17 a0_0 a0_1 a0_2 a0_3 a0_4 a0_5 = some r) ∧ Aside0 (kq ≤ kj3) ∧ Aside0 (wc.heap[gb116]? = some (.cells #[.string a0_0, .string a0_1, .int .i64 a0_2, .int .i64 a0_3, .int .i64 a0_4, .int .i64 a0_5] 68 (0, 0))) ∧ Aside0 (Below w.heap.size w wc))
          case first =>
            have H := HC18.out
            clear HC18
            replace H := Option.bind_eq_some_iff.mp H
            obtain ⟨t119, A200, H⟩ := H
            replace H : (if t119 = true then ((calibrate_ranged.f a0_3 0 100000).bind fun t120 => (if t120 = true then ((calibrate_day.f a0_4).bind fun t121 => (if t121 = 0 then ((calibrate_day.f a0_5).bind fun t122 => (calibrate_check.j1 kj3 (t122 != 0) a0_0 a0_1 a0_2 a0_3 a0_4 a0_5)) else (calibrate_check.j1 kj3 true a0_0 a0_1 a0_2 a0_3 a0_4 a0_5))) else (calibrate_check.j1 kj3 true a0_0 a0_1 a0_2 a0_3 a0_4 a0_5))) else (calibrate_check.j1 kj3 true a0_0 a0_1 a0_2 a0_3 a0_4 a0_5)) = some r := H
            have A20 := Aside0.mk A200
            clear A200
            by_cases c21 : t119 = true
            · subst c21
              have H1 : ((calibrate_ranged.f a0_3 0 100000).bind fun t120 => (if t120 = true then ((calibrate_day.f a0_4).bind fun t121 => (if t121 = 0 then ((calibrate_day.f a0_5).bind fun t122 => (calibrate_check.j1 kj3 (t122 != 0) a0_0 a0_1 a0_2 a0_3 a0_4 a0_5)) else (calibrate_check.j1 kj3 true a0_0 a0_1 a0_2 a0_3 a0_4 a0_5))) else (calibrate_check.j1 kj3 true a0_0 a0_1 a0_2 a0_3 a0_4 a0_5))) = some r := by rw [if_pos rfl] at H; exact H
              clear H
              have H := H1
              clear H1
              replace H := Option.bind_eq_some_iff.mp H
              obtain ⟨t120, A220, H⟩ := H
              replace H : (if t120 = true then ((calibrate_day.f a0_4).bind fun t121 => (if t121 = 0 then ((calibrate_day.f a0_5).bind fun t122 => (calibrate_check.j1 kj3 (t122 != 0) a0_0 a0_1 a0_2 a0_3 a0_4 a0_5)) else (calibrate_check.j1 kj3 true a0_0 a0_1 a0_2 a0_3 a0_4 a0_5))) else (calibrate_check.j1 kj3 true a0_0 a0_1 a0_2 a0_3 a0_4 a0_5)) = some r := H
              have A22 := Aside0.mk A220
              clear A220
              by_cases c23 : t120 = true
              · subst c23
                have H1 : ((calibrate_day.f a0_4).bind fun t121 => (if t121 = 0 then ((calibrate_day.f a0_5).bind fun t122 => (calibrate_check.j1 kj3 (t122 != 0) a0_0 a0_1 a0_2 a0_3 a0_4 a0_5)) else (calibrate_check.j1 kj3 true a0_0 a0_1 a0_2 a0_3 a0_4 a0_5))) = some r := by rw [if_pos rfl] at H; exact H
                clear H
                have H := H1
                clear H1
                replace H := Option.bind_eq_some_iff.mp H
                obtain ⟨t121, A240, H⟩ := H
                replace H : (if t121 = 0 then ((calibrate_day.f a0_5).bind fun t122 => (calibrate_check.j1 kj3 (t122 != 0) a0_0 a0_1 a0_2 a0_3 a0_4 a0_5)) else (calibrate_check.j1 kj3 true a0_0 a0_1 a0_2 a0_3 a0_4 a0_5)) = some r := H
                have A24 := Aside0.mk A240
                clear A240
                by_cases c25 : t121 = 0
                · rw [if_pos c25] at H
                  have c25b0 : (t121 == 0) = true := beq_iff_eq.mpr c25
                  have c25b1 : (t121 != 0) = false := bne_eq_false_iff_eq.mpr c25
                  clear c25
                  (first | rw [c25b0] | (simp only [i64_w, i32_w]; rw [c25b0]) | (rw [c25b2]; try simp only [Bool.not_true, Bool.not_false]) | skip)
                  replace H := Option.bind_eq_some_iff.mp H
                  obtain ⟨t122, A260, H⟩ := H
                  replace H : (calibrate_check.j1 kj3 (t122 != 0) a0_0 a0_1 a0_2 a0_3 a0_4 a0_5) = some r := H
                  have A26 := Aside0.mk A260
                  clear A260
                  have H' := Aside0.mk H
                  clear H
                  have hcz27_0 : wc.cell? ⟨gb116, 0, none⟩ = some (.string a0_0) := (blk_cell BK116.out 0).trans rfl
                  have hcz27_1 : wc.cell? ⟨gb116, 1, none⟩ = some (.string a0_1) := (blk_cell BK116.out 1).trans rfl
                  have hcz27_2 : wc.cell? ⟨gb116, 2, none⟩ = some (.int .i64 a0_2) := (blk_cell BK116.out 2).trans rfl
                  have hcz27_3 : wc.cell? ⟨gb116, 3, none⟩ = some (.int .i64 a0_3) := (blk_cell BK116.out 3).trans rfl
                  have hcz27_4 : wc.cell? ⟨gb116, 4, none⟩ = some (.int .i64 a0_4) := (blk_cell BK116.out 4).trans rfl
                  have hcz27_5 : wc.cell? ⟨gb116, 5, none⟩ = some (.int .i64 a0_5) := (blk_cell BK116.out 5).trans rfl
                  have hfz27_0 := blk_frozen BK116.out 0
                  have hfz27_1 := blk_frozen BK116.out 1
                  have hfz27_2 := blk_frozen BK116.out 2
                  have hfz27_3 := blk_frozen BK116.out 3
                  have hfz27_4 := blk_frozen BK116.out 4
                  have hfz27_5 := blk_frozen BK116.out 5
                  go_wp2_with (first | ((with_reducible refine gate_callee (f := 112) rfl ?_); refine goesL_ (some 29) rfl rfl Try.func112 (by kernel_rfl) rfl #[.int .i64 a0_2, .int .i64 (-100000), .int .i64 100000] rfl (by (try simp only [List.map_toArray, List.map_cons, List.map_nil]); first | done | rfl | (simp only [List.length_drop, List.length_take]; rfl)) ?_; (with_reducible refine (calibrate_ranged.calls a0_2 (-100000) 100000 true _ A20.out).mono ?_); rintro e w' ⟨rfl, ⟨nd, rfl⟩⟩; refine ⟨_, rfl, ?_⟩) | (go_at_call 112; (with_reducible refine (calibrate_ranged.calls a0_3 0 100000 true _ A22.out).mono ?_); rintro e w' ⟨rfl, ⟨nd, rfl⟩⟩) | (go_at_call 87; (with_reducible refine (calibrate_day.calls a0_4 t121 _ A24.out).mono ?_); rintro e w' ⟨rfl, ⟨nd, rfl⟩⟩) | (go_at_call 87; (with_reducible refine (calibrate_day.calls a0_5 t122 _ A26.out).mono ?_); rintro e w' ⟨rfl, ⟨nd, rfl⟩⟩))
                  go_meet
                  case rel => exact ⟨_, ((t122 != 0)), (by first | rfl | (simp; done) | (simp [*]; done)), H', ⟨by have := HJ3.out; first | omega | exact Nat.le_refl _⟩, ⟨by (with_reducible repeat (first | refine blk_drewN ?_ _ | refine blk_drew ?_ | refine blk_alloc ?_ _)); exact BK116.out⟩, ⟨by repeat (first | (with_reducible first | exact HB.out | apply below_alloc | apply pw_below_drewN | apply below_drew1 | refine below_set ?_ GE116.out) | exact HB.out)⟩⟩
                · rw [if_neg c25] at H
                  have c25b0 : (t121 == 0) = false := beq_eq_false_iff_ne.mpr c25
                  have c25b1 : (t121 != 0) = true := bne_iff_ne.mpr c25
                  (first | rw [c25b0] | (simp only [i64_w, i32_w]; rw [c25b0]) | (rw [c25b2]; try simp only [Bool.not_true, Bool.not_false]) | skip)
                  have H' := Aside0.mk H
                  clear H
                  have hcz28_0 : wc.cell? ⟨gb116, 0, none⟩ = some (.string a0_0) := (blk_cell BK116.out 0).trans rfl
                  have hcz28_1 : wc.cell? ⟨gb116, 1, none⟩ = some (.string a0_1) := (blk_cell BK116.out 1).trans rfl
                  have hcz28_2 : wc.cell? ⟨gb116, 2, none⟩ = some (.int .i64 a0_2) := (blk_cell BK116.out 2).trans rfl
                  have hcz28_3 : wc.cell? ⟨gb116, 3, none⟩ = some (.int .i64 a0_3) := (blk_cell BK116.out 3).trans rfl
                  have hcz28_4 : wc.cell? ⟨gb116, 4, none⟩ = some (.int .i64 a0_4) := (blk_cell BK116.out 4).trans rfl
                  have hcz28_5 : wc.cell? ⟨gb116, 5, none⟩ = some (.int .i64 a0_5) := (blk_cell BK116.out 5).trans rfl
                  have hfz28_0 := blk_frozen BK116.out 0
                  have hfz28_1 := blk_frozen BK116.out 1
                  have hfz28_2 := blk_frozen BK116.out 2
                  have hfz28_3 := blk_frozen BK116.out 3
                  have hfz28_4 := blk_frozen BK116.out 4
                  have hfz28_5 := blk_frozen BK116.out 5
                  go_wp2_with (first | ((with_reducible refine gate_callee (f := 112) rfl ?_); refine goesL_ (some 29) rfl rfl Try.func112 (by kernel_rfl) rfl #[.int .i64 a0_2, .int .i64 (-100000), .int .i64 100000] rfl (by (try simp only [List.map_toArray, List.map_cons, List.map_nil]); first | done | rfl | (simp only [List.length_drop, List.length_take]; rfl)) ?_; (with_reducible refine (calibrate_ranged.calls a0_2 (-100000) 100000 true _ A20.out).mono ?_); rintro e w' ⟨rfl, ⟨nd, rfl⟩⟩; refine ⟨_, rfl, ?_⟩) | (go_at_call 112; (with_reducible refine (calibrate_ranged.calls a0_3 0 100000 true _ A22.out).mono ?_); rintro e w' ⟨rfl, ⟨nd, rfl⟩⟩) | (go_at_call 87; (with_reducible refine (calibrate_day.calls a0_4 t121 _ A24.out).mono ?_); rintro e w' ⟨rfl, ⟨nd, rfl⟩⟩))
                  go_meet
                  case rel => exact ⟨_, (true), (by first | rfl | (simp; done) | (simp [*]; done)), H', ⟨by have := HJ3.out; first | omega | exact Nat.le_refl _⟩, ⟨by (with_reducible repeat (first | refine blk_drewN ?_ _ | refine blk_drew ?_ | refine blk_alloc ?_ _)); exact BK116.out⟩, ⟨by repeat (first | (with_reducible first | exact HB.out | apply below_alloc | apply pw_below_drewN | apply below_drew1 | refine below_set ?_ GE116.out) | exact HB.out)⟩⟩
              · replace c23 := Bool.eq_false_iff.mpr c23
                subst c23
                have H1 : (calibrate_check.j1 kj3 true a0_0 a0_1 a0_2 a0_3 a0_4 a0_5) = some r := by rw [if_neg (show ¬ (false = true) by decide)] at H; exact H
                clear H
                have H := H1
                clear H1
                have H' := Aside0.mk H
                clear H
                have hcz29_0 : wc.cell? ⟨gb116, 0, none⟩ = some (.string a0_0) := (blk_cell BK116.out 0).trans rfl
                have hcz29_1 : wc.cell? ⟨gb116, 1, none⟩ = some (.string a0_1) := (blk_cell BK116.out 1).trans rfl
                have hcz29_2 : wc.cell? ⟨gb116, 2, none⟩ = some (.int .i64 a0_2) := (blk_cell BK116.out 2).trans rfl
                have hcz29_3 : wc.cell? ⟨gb116, 3, none⟩ = some (.int .i64 a0_3) := (blk_cell BK116.out 3).trans rfl
                have hcz29_4 : wc.cell? ⟨gb116, 4, none⟩ = some (.int .i64 a0_4) := (blk_cell BK116.out 4).trans rfl
                have hcz29_5 : wc.cell? ⟨gb116, 5, none⟩ = some (.int .i64 a0_5) := (blk_cell BK116.out 5).trans rfl
                have hfz29_0 := blk_frozen BK116.out 0
                have hfz29_1 := blk_frozen BK116.out 1
                have hfz29_2 := blk_frozen BK116.out 2
                have hfz29_3 := blk_frozen BK116.out 3
                have hfz29_4 := blk_frozen BK116.out 4
                have hfz29_5 := blk_frozen BK116.out 5
                go_wp2_with (first | ((with_reducible refine gate_callee (f := 112) rfl ?_); refine goesL_ (some 29) rfl rfl Try.func112 (by kernel_rfl) rfl #[.int .i64 a0_2, .int .i64 (-100000), .int .i64 100000] rfl (by (try simp only [List.map_toArray, List.map_cons, List.map_nil]); first | done | rfl | (simp only [List.length_drop, List.length_take]; rfl)) ?_; (with_reducible refine (calibrate_ranged.calls a0_2 (-100000) 100000 true _ A20.out).mono ?_); rintro e w' ⟨rfl, ⟨nd, rfl⟩⟩; refine ⟨_, rfl, ?_⟩) | (go_at_call 112; (with_reducible refine (calibrate_ranged.calls a0_3 0 100000 false _ A22.out).mono ?_); rintro e w' ⟨rfl, ⟨nd, rfl⟩⟩))
                go_meet
                case rel => exact ⟨_, (true), (by first | rfl | (simp; done) | (simp [*]; done)), H', ⟨by have := HJ3.out; first | omega | exact Nat.le_refl _⟩, ⟨by (with_reducible repeat (first | refine blk_drewN ?_ _ | refine blk_drew ?_ | refine blk_alloc ?_ _)); exact BK116.out⟩, ⟨by repeat (first | (with_reducible first | exact HB.out | apply below_alloc | apply pw_below_drewN | apply below_drew1 | refine below_set ?_ GE116.out) | exact HB.out)⟩⟩
            · replace c21 := Bool.eq_false_iff.mpr c21
              subst c21
              have H1 : (calibrate_check.j1 kj3 true a0_0 a0_1 a0_2 a0_3 a0_4 a0_5) = some r := by rw [if_neg (show ¬ (false = true) by decide)] at H; exact H
              clear H
              have H := H1
              clear H1
              have H' := Aside0.mk H
              clear H
              have hcz30_0 : wc.cell? ⟨gb116, 0, none⟩ = some (.string a0_0) := (blk_cell BK116.out 0).trans rfl
              have hcz30_1 : wc.cell? ⟨gb116, 1, none⟩ = some (.string a0_1) := (blk_cell BK116.out 1).trans rfl
              have hcz30_2 : wc.cell? ⟨gb116, 2, none⟩ = some (.int .i64 a0_2) := (blk_cell BK116.out 2).trans rfl
              have hcz30_3 : wc.cell? ⟨gb116, 3, none⟩ = some (.int .i64 a0_3) := (blk_cell BK116.out 3).trans rfl
              have hcz30_4 : wc.cell? ⟨gb116, 4, none⟩ = some (.int .i64 a0_4) := (blk_cell BK116.out 4).trans rfl
              have hcz30_5 : wc.cell? ⟨gb116, 5, none⟩ = some (.int .i64 a0_5) := (blk_cell BK116.out 5).trans rfl
              have hfz30_0 := blk_frozen BK116.out 0
              have hfz30_1 := blk_frozen BK116.out 1
              have hfz30_2 := blk_frozen BK116.out 2
              have hfz30_3 := blk_frozen BK116.out 3
              have hfz30_4 := blk_frozen BK116.out 4
              have hfz30_5 := blk_frozen BK116.out 5
              go_wp2_with (first | ((with_reducible refine gate_callee (f := 112) rfl ?_); refine goesL_ (some 29) rfl rfl Try.func112 (by kernel_rfl) rfl #[.int .i64 a0_2, .int .i64 (-100000), .int .i64 100000] rfl (by (try simp only [List.map_toArray, List.map_cons, List.map_nil]); first | done | rfl | (simp only [List.length_drop, List.length_take]; rfl)) ?_; (with_reducible refine (calibrate_ranged.calls a0_2 (-100000) 100000 false _ A20.out).mono ?_); rintro e w' ⟨rfl, ⟨nd, rfl⟩⟩; refine ⟨_, rfl, ?_⟩))
              go_meet
              case rel => exact ⟨_, (true), (by first | rfl | (simp; done) | (simp [*]; done)), H', ⟨by have := HJ3.out; first | omega | exact Nat.le_refl _⟩, ⟨by (with_reducible repeat (first | refine blk_drewN ?_ _ | refine blk_drew ?_ | refine blk_alloc ?_ _)); exact BK116.out⟩, ⟨by repeat (first | (with_reducible first | exact HB.out | apply below_alloc | apply pw_below_drewN | apply below_drew1 | refine below_set ?_ GE116.out) | exact HB.out)⟩⟩
          case rest =>
            clear HC18
            try clear c1
            try clear c2
            try clear p2
            try clear c3
            try clear c3b0
            try clear c3b1
            try clear c8
            try clear c9
            try clear c9b0
            try clear c9b1
            try clear c9b2
            try clear c11
            try clear c11b0
            try clear c11b1
            try clear c16
            try clear c16b0
            try clear c16b1
            try clear c21
            try clear c23
            try clear c25
            try clear c25b0
            try clear c25b1
            try clear c25b2
            try clear hcz12_0
            try clear hcz12_1
            try clear hcz12_2
            try clear hcz12_3
            try clear hcz12_4
            try clear hcz12_5
            try clear hcz14_0
            try clear hcz14_1
            try clear hcz14_2
            try clear hcz14_3
            try clear hcz14_4
            try clear hcz14_5
            try clear hcz17_0
            try clear hcz17_1
            try clear hcz17_2
            try clear hcz17_3
            try clear hcz17_4
            try clear hcz17_5
            try clear hcz19_0
            try clear hcz19_1
            try clear hcz19_2
            try clear hcz19_3
            try clear hcz19_4
            try clear hcz19_5
            try clear hcz27_0
            try clear hcz27_1
            try clear hcz27_2
            try clear hcz27_3
            try clear hcz27_4
            try clear hcz27_5
            try clear hcz28_0
            try clear hcz28_1
            try clear hcz28_2
            try clear hcz28_3
            try clear hcz28_4
            try clear hcz28_5
            try clear hcz29_0
            try clear hcz29_1
            try clear hcz29_2
            try clear hcz29_3
            try clear hcz29_4
            try clear hcz29_5
            try clear hcz30_0
            try clear hcz30_1
            try clear hcz30_2
            try clear hcz30_3
            try clear hcz30_4
            try clear hcz30_5
            try clear hcz6_0
            try clear hcz6_1
            try clear hcz6_2
            try clear hcz6_3
            try clear hcz6_4
            try clear hcz6_5
            try clear hcz8_0
            try clear hcz8_1
            try clear hcz8_2
            try clear hcz8_3
            try clear hcz8_4
            try clear hcz8_5
            try clear hfz12_0
            try clear hfz12_1
            try clear hfz12_2
            try clear hfz12_3
            try clear hfz12_4
            try clear hfz12_5
            try clear hfz14_0
            try clear hfz14_1
            try clear hfz14_2
            try clear hfz14_3
            try clear hfz14_4
            try clear hfz14_5
            try clear hfz17_0
            try clear hfz17_1
            try clear hfz17_2
            try clear hfz17_3
            try clear hfz17_4
            try clear hfz17_5
            try clear hfz19_0
            try clear hfz19_1
            try clear hfz19_2
            try clear hfz19_3
            try clear hfz19_4
            try clear hfz19_5
            try clear hfz27_0
            try clear hfz27_1
            try clear hfz27_2
            try clear hfz27_3
            try clear hfz27_4
            try clear hfz27_5
            try clear hfz28_0
            try clear hfz28_1
            try clear hfz28_2
            try clear hfz28_3
            try clear hfz28_4
            try clear hfz28_5
            try clear hfz29_0
            try clear hfz29_1
            try clear hfz29_2
            try clear hfz29_3
            try clear hfz29_4
            try clear hfz29_5
            try clear hfz30_0
            try clear hfz30_1
            try clear hfz30_2
            try clear hfz30_3
            try clear hfz30_4
            try clear hfz30_5
            try clear hfz6_0
            try clear hfz6_1
            try clear hfz6_2
            try clear hfz6_3
            try clear hfz6_4
            try clear hfz6_5
            try clear hfz8_0
            try clear hfz8_1
            try clear hfz8_2
            try clear hfz8_3
            try clear hfz8_4
            try clear hfz8_5
            try clear p2
            obtain ⟨kq, x26_17, rfl, HA, HJ17, BK116, HB⟩ := hcut
            cases kq with
            | zero => exact absurd HA.out (by simp [calibrate_check.j1])
            | succ kj17 =>
              have H := HA.out
              clear HA
              simp only [calibrate_check.j1] at H
              by_cases c31 : x26_17 = true
              · subst c31
                have H1 : (some 2) = some r := by rw [if_pos rfl] at H; exact H
                clear H
                have H := H1
                clear H1
                obtain rfl := Option.some.inj H
                go_wp2
                go_ret
                exact ⟨by first | rfl | (simp [errW_none, errW_some] <;> rfl) | (simp [*, errW_none, errW_some] <;> rfl), by repeat (first | (with_reducible first | exact HB.out | apply below_alloc | apply pw_below_drewN | apply below_drew1 | refine below_set ?_ GE116.out) | exact HB.out)⟩
              · replace c31 := Bool.eq_false_iff.mpr c31
                subst c31
                have H1 : (if a0_5 < a0_4 then (some 9) else (some 0)) = some r := by rw [if_neg (show ¬ (false = true) by decide)] at H; exact H
                clear H
                have H := H1
                clear H1
                by_cases c32 : a0_5 < a0_4
                · rw [if_pos c32] at H
                  have c32b0 : decide (a0_5 < a0_4) = true := decide_eq_true c32
                  clear c32
                  obtain rfl := Option.some.inj H
                  have hcz33_0 : wc.cell? ⟨gb116, 0, none⟩ = some (.string a0_0) := (blk_cell BK116.out 0).trans rfl
                  have hcz33_1 : wc.cell? ⟨gb116, 1, none⟩ = some (.string a0_1) := (blk_cell BK116.out 1).trans rfl
                  have hcz33_2 : wc.cell? ⟨gb116, 2, none⟩ = some (.int .i64 a0_2) := (blk_cell BK116.out 2).trans rfl
                  have hcz33_3 : wc.cell? ⟨gb116, 3, none⟩ = some (.int .i64 a0_3) := (blk_cell BK116.out 3).trans rfl
                  have hcz33_4 : wc.cell? ⟨gb116, 4, none⟩ = some (.int .i64 a0_4) := (blk_cell BK116.out 4).trans rfl
                  have hcz33_5 : wc.cell? ⟨gb116, 5, none⟩ = some (.int .i64 a0_5) := (blk_cell BK116.out 5).trans rfl
                  have hfz33_0 := blk_frozen BK116.out 0
                  have hfz33_1 := blk_frozen BK116.out 1
                  have hfz33_2 := blk_frozen BK116.out 2
                  have hfz33_3 := blk_frozen BK116.out 3
                  have hfz33_4 := blk_frozen BK116.out 4
                  have hfz33_5 := blk_frozen BK116.out 5
                  go_wp2
                  go_ret
                  exact ⟨by first | rfl | (simp [errW_none, errW_some] <;> rfl) | (simp [*, errW_none, errW_some] <;> rfl), by repeat (first | (with_reducible first | exact HB.out | apply below_alloc | apply pw_below_drewN | apply below_drew1 | refine below_set ?_ GE116.out) | exact HB.out)⟩
                · rw [if_neg c32] at H
                  have c32b0 : decide (a0_5 < a0_4) = false := decide_eq_false c32
                  clear c32
                  obtain rfl := Option.some.inj H
                  have hcz34_0 : wc.cell? ⟨gb116, 0, none⟩ = some (.string a0_0) := (blk_cell BK116.out 0).trans rfl
                  have hcz34_1 : wc.cell? ⟨gb116, 1, none⟩ = some (.string a0_1) := (blk_cell BK116.out 1).trans rfl
                  have hcz34_2 : wc.cell? ⟨gb116, 2, none⟩ = some (.int .i64 a0_2) := (blk_cell BK116.out 2).trans rfl
                  have hcz34_3 : wc.cell? ⟨gb116, 3, none⟩ = some (.int .i64 a0_3) := (blk_cell BK116.out 3).trans rfl
                  have hcz34_4 : wc.cell? ⟨gb116, 4, none⟩ = some (.int .i64 a0_4) := (blk_cell BK116.out 4).trans rfl
                  have hcz34_5 : wc.cell? ⟨gb116, 5, none⟩ = some (.int .i64 a0_5) := (blk_cell BK116.out 5).trans rfl
                  have hfz34_0 := blk_frozen BK116.out 0
                  have hfz34_1 := blk_frozen BK116.out 1
                  have hfz34_2 := blk_frozen BK116.out 2
                  have hfz34_3 := blk_frozen BK116.out 3
                  have hfz34_4 := blk_frozen BK116.out 4
                  have hfz34_5 := blk_frozen BK116.out 5
                  go_wp2
                  go_ret
                  exact ⟨by first | rfl | (simp [errW_none, errW_some] <;> rfl) | (simp [*, errW_none, errW_some] <;> rfl), by repeat (first | (with_reducible first | exact HB.out | apply below_alloc | apply pw_below_drewN | apply below_drew1 | refine below_set ?_ GE116.out) | exact HB.out)⟩
  · rw [if_neg c3] at H
    have c3b0 : (t117 == 0) = false := beq_eq_false_iff_ne.mpr c3
    have c3b1 : (t117 != 0) = true := bne_iff_ne.mpr c3
    obtain rfl := Option.some.inj H
    go_enter Try.func110, Try.ntmps110
    go_wp2_with (first | ((with_reducible refine gate_dst (N := 1) rfl ?_); refine box_event ?hg (N := 1) ?hd (cs := #[.string a0_0, .string a0_1, .int .i64 a0_2, .int .i64 a0_3, .int .i64 a0_4, .int .i64 a0_5]) (t := 68) ?hr ?_; (case hd => rfl); (case hg => rfl); (case hr => first | (go_simp; done) | (go_simp; rfl)); intro gb116 hg w35 hbox hb; have n0_ := Aside0.mk (below_step (by repeat (first | (with_reducible first | exact HB.out | apply below_alloc | apply pw_below_drewN | apply below_drew1) | exact HB.out)) hb); have n1_ := Aside0.mk (hbox); have n2_ := Aside0.mk ((by rw [hg]; exact (below_size (by repeat (first | (with_reducible first | exact HB.out | apply below_alloc | apply pw_below_drewN | apply below_drew1) | exact HB.out))) : w.heap.size ≤ gb116)); have n3_ := Aside0.mk ((by rw [hg]; exact (below_size (by repeat (first | (with_reducible first | exact HB.out | apply below_alloc | apply pw_below_drewN | apply below_drew1) | exact HB.out))) : w.heap.size ≤ gb116)); clear HB; have HB := n0_; have BK116 := n1_; have GW116 := n2_; have GE116 := n3_; clear n0_ n1_ n2_ n3_; clear hb hbox hg; have hcz36_0 : w35.cell? ⟨gb116, 0, none⟩ = some (.string a0_0) := (blk_cell BK116.out 0).trans rfl; have hcz36_1 : w35.cell? ⟨gb116, 1, none⟩ = some (.string a0_1) := (blk_cell BK116.out 1).trans rfl; have hcz36_2 : w35.cell? ⟨gb116, 2, none⟩ = some (.int .i64 a0_2) := (blk_cell BK116.out 2).trans rfl; have hcz36_3 : w35.cell? ⟨gb116, 3, none⟩ = some (.int .i64 a0_3) := (blk_cell BK116.out 3).trans rfl; have hcz36_4 : w35.cell? ⟨gb116, 4, none⟩ = some (.int .i64 a0_4) := (blk_cell BK116.out 4).trans rfl; have hcz36_5 : w35.cell? ⟨gb116, 5, none⟩ = some (.int .i64 a0_5) := (blk_cell BK116.out 5).trans rfl; have hfz36_0 := blk_frozen BK116.out 0; have hfz36_1 := blk_frozen BK116.out 1; have hfz36_2 := blk_frozen BK116.out 2; have hfz36_3 := blk_frozen BK116.out 3; have hfz36_4 := blk_frozen BK116.out 4; have hfz36_5 := blk_frozen BK116.out 5) | ((with_reducible refine gate_callee (f := 80) rfl ?_); refine goesL_ (some 7) rfl rfl Try.func80 (by kernel_rfl) rfl #[.string a0_0] rfl (by (try simp only [List.map_toArray, List.map_cons, List.map_nil]); first | done | rfl | (simp only [List.length_drop, List.length_take]; rfl)) ?_; (with_reducible refine (dimension_Name.calls a0_0 t117 _ A2.out).mono ?_); rintro e w37 ⟨rfl, hb⟩; refine ⟨_, rfl, ?_⟩; have n0_ := Aside0.mk (blk_below (g := gb116) (o := .cells #[.string a0_0, .string a0_1, .int .i64 a0_2, .int .i64 a0_3, .int .i64 a0_4, .int .i64 a0_5] 68 (0, 0)) (by (with_reducible repeat (first | refine blk_drewN ?_ _ | refine blk_drew ?_ | refine blk_alloc ?_ _)); exact BK116.out) hb); have n1_ := Aside0.mk (below_step (by repeat (first | (with_reducible first | exact HB.out | apply below_alloc | apply pw_below_drewN | apply below_drew1 | refine below_set ?_ GE116.out) | exact HB.out)) hb); clear BK116; clear HB; have BK116 := n0_; have HB := n1_; clear n0_ n1_; (try clear hb); (try clear hb2); (try clear hk); (try clear hi)))
    go_ret
    exact ⟨by first | rfl | (simp [errW_none, errW_some] <;> rfl) | (simp [*, errW_none, errW_some] <;> rfl), by repeat (first | (with_reducible first | exact HB.out | apply below_alloc | apply pw_below_drewN | apply below_drew1 | refine below_set ?_ GE116.out) | exact HB.out)⟩
end Go.Proofs.Ytkgdlbepjmgaiaa.Cal
namespace Go.Proofs.Ytkgdlbepjmgaiaa.Cal
open Go.RowKit Go.Proofs.YtkgdlbepjmgaiaaW.PrintWords Go.Proofs.YtkgdlbepjmgaiaaW.PrintLast Go.Proofs.YtkgdlbepjmgaiaaW.PrintMore
attribute [local go_sem] max2_int min2_int max_two min_two max_three min_three max_four min_four
set_option linter.unusedVariables false
set_option linter.unusedSimpArgs false
def calibrate_Check.l0 : Nat → List (S68) → List (S68) → Int → Int → Option (Int)
  | 0, _, _, _, _ => none
  | k + 1, x0, x10, x11, x12 => if x12 < x11 then (if 0 ≤ x12 then (if x12 < (x10.length : Int) then ((calibrate_check.f k ((rd_T68 x10 x12).f0) ((rd_T68 x10 x12).f1) ((rd_T68 x10 x12).f2) ((rd_T68 x10 x12).f3) ((rd_T68 x10 x12).f4) ((rd_T68 x10 x12).f5)).bind fun t125 => (if t125 = 0 then (if x12 = 0 then (calibrate_Check.l0 k x0 x10 x11 (wrap64 (x12 + 1))) else (if 0 ≤ (wrap64 (x12 - 1)) then (if (wrap64 (x12 - 1)) < (x0.length : Int) then (if (Op.bytesLess (((rd_T68 x10 x12).f0).toList) (((rd_T68 x0 (wrap64 (x12 - 1))).f0).toList)) = true then (some 9) else (if ((rd_T68 x10 x12).f0).toList = ((rd_T68 x0 (wrap64 (x12 - 1))).f0).toList then (if ((rd_T68 x10 x12).f4) ≤ ((rd_T68 x0 (wrap64 (x12 - 1))).f5) then (some 9) else (calibrate_Check.l0 k x0 x10 x11 (wrap64 (x12 + 1)))) else (calibrate_Check.l0 k x0 x10 x11 (wrap64 (x12 + 1))))) else (none)) else (none))) else (some t125))) else (none)) else (none)) else (some 0)
def calibrate_Check.f (k : Nat) (l0 : List (S68)) : Option (Int) := if (l0.length : Int) > 256 then (some 5) else (calibrate_Check.l0 k l0 l0 (l0.length : Int) 0)
theorem calibrate_Check.mono_l : ∀ k, (∀ y0 y1 y2 y3, LeO (calibrate_Check.l0 k y0 y1 y2 y3) (calibrate_Check.l0 (k + 1) y0 y1 y2 y3))
  | 0 => fun _ _ _ _ r h => by simp [calibrate_Check.l0] at h
  | k + 1 => by
    have ih0 := calibrate_Check.mono_l k
    · intro y0 y1 y2 y3
      unfold calibrate_Check.l0
      repeat' first
      | (with_reducible exact ih0 _ _ _ _)
      | (with_reducible exact calibrate_check.mono _ _ _ _ _ _ _)
      | (with_reducible exact LeO.refl _)
      | (with_reducible exact LeO.none _)
      | (with_reducible refine LeO.ite ?_ ?_)
      | (with_reducible refine LeO.bind ?_ (fun _ => ?_))
      | exact ih0 _ _ _ _
      | exact calibrate_check.mono _ _ _ _ _ _ _
      | exact LeO.none _
      | refine LeO.ite ?_ ?_
      | refine LeO.bind ?_ (fun _ => ?_)
theorem calibrate_Check.mono : ∀ a0 k, LeO (calibrate_Check.f k a0) (calibrate_Check.f (k + 1) a0) := by
  intro a0 k
  have ih0 := calibrate_Check.mono_l k
  unfold calibrate_Check.f
  repeat' first
      | (with_reducible exact ih0 _ _ _ _)
      | (with_reducible exact calibrate_check.mono _ _ _ _ _ _ _)
      | (with_reducible exact LeO.refl _)
      | (with_reducible exact LeO.none _)
      | (with_reducible refine LeO.ite ?_ ?_)
      | (with_reducible refine LeO.bind ?_ (fun _ => ?_))
      | exact ih0 _ _ _ _
      | exact calibrate_check.mono _ _ _ _ _ _ _
      | exact LeO.none _
      | refine LeO.ite ?_ ?_
      | refine LeO.bind ?_ (fun _ => ?_)
set_option maxHeartbeats 8000000 in
set_option maxRecDepth 100000 in
theorem calibrate_Check.calls (k : Nat) (A0 : Option Addr) (c0 : Nat) (l0 : List (S68)) (r : Int) (w : World) (hr0 : Kd.C k68 w A0 l0.length l0) (hc0 : l0.length ≤ c0) (h : calibrate_Check.f k l0 = some r) :
    Calls Try.prog 56 #[.slice A0 l0.length c0] w fun e w' => e = .returned (.int .i64 r) ∧ Below w.heap.size w w' := by
  have hu68 := Try.underlying68
  have HR0 := Aside0.mk hr0
  have HC0 := Aside0.mk hc0
  clear hr0 hc0
  have HB := Aside0.mk (Below.refl w.heap.size w)
  have H : (if (l0.length : Int) > 256 then (some 5) else (calibrate_Check.l0 k l0 l0 (l0.length : Int) 0)) = some r := h
  clear h
  by_cases c2 : (l0.length : Int) > 256
  · rw [if_pos c2] at H
    have c2b0 : decide (256 < (l0.length : Int)) = true := decide_eq_true c2
    have c2b1 : decide (256 < l0.length) = true := decide_eq_true (by omega)
    clear c2
    obtain rfl := Option.some.inj H
    go_enter Try.func56, Try.ntmps56
    go_wp2
    go_ret
    exact ⟨by first | rfl | (simp [errW_none, errW_some] <;> rfl) | (simp [*, errW_none, errW_some] <;> rfl), by repeat (first | (with_reducible first | exact HB.out | apply below_alloc | apply pw_below_drewN | apply below_drew1) | exact HB.out)⟩
  · rw [if_neg c2] at H
    have c2b0 : decide (256 < (l0.length : Int)) = false := decide_eq_false c2
    have c2b1 : decide (256 < l0.length) = false := decide_eq_false (by omega)
    clear c2
    have H' := Aside0.mk H
    clear H
    go_enter Try.func56, Try.ntmps56
    go_wp2
    go_loopg [12] k (fun kq v12 w' => ∃ (x12_1 : Int), v12 = .int .i64 x12_1 ∧ Aside0 (calibrate_Check.l0 kq l0 l0 (l0.length : Int) x12_1 = some r) ∧ Aside0 (kq ≤ k) ∧ Aside0 (Below w.heap.size w w'))
    case atStart => exact ⟨(0), (by first | rfl | (simp; done) | (simp [*]; done)), H', ⟨Nat.le_refl _⟩, ⟨by repeat (first | (with_reducible first | exact HB.out | apply below_alloc | apply pw_below_drewN | apply below_drew1) | exact HB.out)⟩⟩
    case round =>
      clear H'
      try clear c2
      try clear c2b0
      try clear c2b1
      try clear p2
      obtain ⟨x12_1, rfl, HA, HK1, HB⟩ := hrel
      cases gk with
      | zero => exact absurd HA.out (by simp [calibrate_Check.l0])
      | succ k1 =>
        have H := HA.out
        clear HA
        simp only [calibrate_Check.l0] at H
        by_cases c3 : x12_1 < (l0.length : Int)
        · rw [if_pos c3] at H
          have c3b0 : decide (x12_1 < (l0.length : Int)) = true := decide_eq_true c3
          clear c3
          by_cases c4 : 0 ≤ x12_1
          · rw [if_pos c4] at H
            have c4b0 : decide (0 ≤ x12_1) = true := decide_eq_true c4
            clear c4
            by_cases c5 : x12_1 < (l0.length : Int)
            · rw [if_pos c5] at H
              have c5b0 : decide (x12_1 < (l0.length : Int)) = true := decide_eq_true c5
              clear c5
              replace H := Option.bind_eq_some_iff.mp H
              obtain ⟨t125, A60, H⟩ := H
              replace H : (if t125 = 0 then (if x12_1 = 0 then (calibrate_Check.l0 k1 l0 l0 (l0.length : Int) (wrap64 (x12_1 + 1))) else (if 0 ≤ (wrap64 (x12_1 - 1)) then (if (wrap64 (x12_1 - 1)) < (l0.length : Int) then (if (Op.bytesLess (((rd_T68 l0 x12_1).f0).toList) (((rd_T68 l0 (wrap64 (x12_1 - 1))).f0).toList)) = true then (some 9) else (if ((rd_T68 l0 x12_1).f0).toList = ((rd_T68 l0 (wrap64 (x12_1 - 1))).f0).toList then (if ((rd_T68 l0 x12_1).f4) ≤ ((rd_T68 l0 (wrap64 (x12_1 - 1))).f5) then (some 9) else (calibrate_Check.l0 k1 l0 l0 (l0.length : Int) (wrap64 (x12_1 + 1)))) else (calibrate_Check.l0 k1 l0 l0 (l0.length : Int) (wrap64 (x12_1 + 1))))) else (none)) else (none))) else (some t125)) = some r := H
              have A6 := Aside0.mk A60
              clear A60
              by_cases c7 : t125 = 0
              · rw [if_pos c7] at H
                have c7b0 : (t125 == 0) = true := beq_iff_eq.mpr c7
                have c7b1 : (t125 != 0) = false := bne_eq_false_iff_eq.mpr c7
                clear c7
                by_cases c8 : x12_1 = 0
                · rw [if_pos c8] at H
                  have c8b0 : (x12_1 == 0) = true := beq_iff_eq.mpr c8
                  have c8b1 : (x12_1 != 0) = false := bne_eq_false_iff_eq.mpr c8
                  clear c8
                  have H' := Aside0.mk H
                  clear H
                  have p123 : 0 ≤ (x12_1 : Int) := of_decide_eq_true (by first | (with_reducible assumption) | assumption)
                  have q123 : x12_1 < (l0.length : Int) := of_decide_eq_true (by first | (with_reducible assumption) | assumption)
                  obtain ⟨ad123, e123, hx123_0, hx123_1, hx123_2, hx123_3, hx123_4, hx123_5⟩ := at_T68 HR0.out x12_1 p123 q123
                  cases e123
                  replace hx123_0 := (HB.out.cell (World.block_lt_of_cell? w _ hx123_0)).trans hx123_0
                  replace hx123_1 := (HB.out.cell (World.block_lt_of_cell? w _ hx123_1)).trans hx123_1
                  replace hx123_2 := (HB.out.cell (World.block_lt_of_cell? w _ hx123_2)).trans hx123_2
                  replace hx123_3 := (HB.out.cell (World.block_lt_of_cell? w _ hx123_3)).trans hx123_3
                  replace hx123_4 := (HB.out.cell (World.block_lt_of_cell? w _ hx123_4)).trans hx123_4
                  replace hx123_5 := (HB.out.cell (World.block_lt_of_cell? w _ hx123_5)).trans hx123_5
                  replace p123 := eq_true p123
                  replace q123 := eq_true q123
                  go_wp2_with (first | ((with_reducible refine gate_dst (N := 4) rfl ?_); refine box_event ?hg (N := 4) ?hd (cs := #[.string (⟨#[]⟩ : ByteArray), .string (⟨#[]⟩ : ByteArray), .int .i64 0, .int .i64 0, .int .i64 0, .int .i64 0]) (t := 68) ?hr ?_; (case hd => rfl); (case hg => rfl); (case hr => first | (go_simp; done) | (go_simp; rfl)); intro gb124 hg w9 hbox hb; have n0_ := Aside0.mk (below_step (by repeat (first | (with_reducible first | exact HB.out | apply below_alloc | apply pw_below_drewN | apply below_drew1) | exact HB.out)) hb); have n1_ := Aside0.mk (hbox); have n2_ := Aside0.mk ((by rw [hg]; exact (below_size (by repeat (first | (with_reducible first | exact HB.out | apply below_alloc | apply pw_below_drewN | apply below_drew1) | exact HB.out))) : w.heap.size ≤ gb124)); have n3_ := Aside0.mk ((by rw [hg]; exact (below_size (by repeat (first | (with_reducible first | exact HB.out | apply below_alloc | apply pw_below_drewN | apply below_drew1) | exact HB.out))) : w.heap.size ≤ gb124)); clear HB; have HB := n0_; have BK124 := n1_; have GW124 := n2_; have GE124 := n3_; clear n0_ n1_ n2_ n3_; clear hb hbox hg; have hcz10_0 : w9.cell? ⟨gb124, 0, none⟩ = some (.string (⟨#[]⟩ : ByteArray)) := (blk_cell BK124.out 0).trans rfl; have hcz10_1 : w9.cell? ⟨gb124, 1, none⟩ = some (.string (⟨#[]⟩ : ByteArray)) := (blk_cell BK124.out 1).trans rfl; have hcz10_2 : w9.cell? ⟨gb124, 2, none⟩ = some (.int .i64 0) := (blk_cell BK124.out 2).trans rfl; have hcz10_3 : w9.cell? ⟨gb124, 3, none⟩ = some (.int .i64 0) := (blk_cell BK124.out 3).trans rfl; have hcz10_4 : w9.cell? ⟨gb124, 4, none⟩ = some (.int .i64 0) := (blk_cell BK124.out 4).trans rfl; have hcz10_5 : w9.cell? ⟨gb124, 5, none⟩ = some (.int .i64 0) := (blk_cell BK124.out 5).trans rfl; have hfz10_0 := blk_frozen BK124.out 0; have hfz10_1 := blk_frozen BK124.out 1; have hfz10_2 := blk_frozen BK124.out 2; have hfz10_3 := blk_frozen BK124.out 3; have hfz10_4 := blk_frozen BK124.out 4; have hfz10_5 := blk_frozen BK124.out 5) | ((with_reducible refine gate_callee (f := 110) rfl ?_); refine goesL_ (some 18) rfl rfl Try.func110 (by kernel_rfl) rfl #[.agg #[.string ((rd_T68 l0 x12_1).f0), .string ((rd_T68 l0 x12_1).f1), .int .i64 ((rd_T68 l0 x12_1).f2), .int .i64 ((rd_T68 l0 x12_1).f3), .int .i64 ((rd_T68 l0 x12_1).f4), .int .i64 ((rd_T68 l0 x12_1).f5)]] rfl (by (try simp only [List.map_toArray, List.map_cons, List.map_nil]); first | done | rfl | (simp only [List.length_drop, List.length_take]; rfl)) ?_; (with_reducible refine (calibrate_check.calls k1 ((rd_T68 l0 x12_1).f0) ((rd_T68 l0 x12_1).f1) ((rd_T68 l0 x12_1).f2) ((rd_T68 l0 x12_1).f3) ((rd_T68 l0 x12_1).f4) ((rd_T68 l0 x12_1).f5) t125 _ A6.out).mono ?_); rintro e w11 ⟨rfl, hb⟩; refine ⟨_, rfl, ?_⟩; have n0_ := Aside0.mk (blk_below (g := gb124) (o := .cells #[.string ((rd_T68 l0 x12_1).f0), .string ((rd_T68 l0 x12_1).f1), .int .i64 ((rd_T68 l0 x12_1).f2), .int .i64 ((rd_T68 l0 x12_1).f3), .int .i64 ((rd_T68 l0 x12_1).f4), .int .i64 ((rd_T68 l0 x12_1).f5)] 68 (0, 0)) (by (with_reducible repeat (first | refine blk_drewN ?_ _ | refine blk_drew ?_ | refine blk_alloc ?_ _)); refine blk_put (cs := #[.string ((rd_T68 l0 x12_1).f0), .string ((rd_T68 l0 x12_1).f1), .int .i64 ((rd_T68 l0 x12_1).f2), .int .i64 ((rd_T68 l0 x12_1).f3), .int .i64 ((rd_T68 l0 x12_1).f4), .int .i64 0]) ?_ 5 _ rfl; (with_reducible repeat (first | refine blk_drewN ?_ _ | refine blk_drew ?_ | refine blk_alloc ?_ _)); refine blk_put (cs := #[.string ((rd_T68 l0 x12_1).f0), .string ((rd_T68 l0 x12_1).f1), .int .i64 ((rd_T68 l0 x12_1).f2), .int .i64 ((rd_T68 l0 x12_1).f3), .int .i64 0, .int .i64 0]) ?_ 4 _ rfl; (with_reducible repeat (first | refine blk_drewN ?_ _ | refine blk_drew ?_ | refine blk_alloc ?_ _)); refine blk_put (cs := #[.string ((rd_T68 l0 x12_1).f0), .string ((rd_T68 l0 x12_1).f1), .int .i64 ((rd_T68 l0 x12_1).f2), .int .i64 0, .int .i64 0, .int .i64 0]) ?_ 3 _ rfl; (with_reducible repeat (first | refine blk_drewN ?_ _ | refine blk_drew ?_ | refine blk_alloc ?_ _)); refine blk_put (cs := #[.string ((rd_T68 l0 x12_1).f0), .string ((rd_T68 l0 x12_1).f1), .int .i64 0, .int .i64 0, .int .i64 0, .int .i64 0]) ?_ 2 _ rfl; (with_reducible repeat (first | refine blk_drewN ?_ _ | refine blk_drew ?_ | refine blk_alloc ?_ _)); refine blk_put (cs := #[.string ((rd_T68 l0 x12_1).f0), .string (⟨#[]⟩ : ByteArray), .int .i64 0, .int .i64 0, .int .i64 0, .int .i64 0]) ?_ 1 _ rfl; (with_reducible repeat (first | refine blk_drewN ?_ _ | refine blk_drew ?_ | refine blk_alloc ?_ _)); refine blk_put (cs := #[.string (⟨#[]⟩ : ByteArray), .string (⟨#[]⟩ : ByteArray), .int .i64 0, .int .i64 0, .int .i64 0, .int .i64 0]) ?_ 0 _ rfl; (with_reducible repeat (first | refine blk_drewN ?_ _ | refine blk_drew ?_ | refine blk_alloc ?_ _)); exact BK124.out) hb); have n1_ := Aside0.mk (below_step (by repeat (first | (with_reducible first | exact HB.out | apply below_alloc | apply pw_below_drewN | apply below_drew1 | refine below_set ?_ GE124.out) | exact HB.out)) hb); clear BK124; clear HB; have BK124 := n0_; have HB := n1_; clear n0_ n1_; (try clear hb); (try clear hb2); (try clear hk); (try clear hi)))
                  go_roundg k1
                  case measure => have := HK1.out; omega
                  case rel => exact ⟨(wrap64 (x12_1 + 1)), (by first | rfl | (simp; done) | (simp [*]; done)), H', ⟨by have := HK1.out; omega⟩, ⟨by repeat (first | (with_reducible first | exact HB.out | apply below_alloc | apply pw_below_drewN | apply below_drew1 | refine below_set ?_ GE124.out) | exact HB.out)⟩⟩
                · rw [if_neg c8] at H
                  have c8b0 : (x12_1 == 0) = false := beq_eq_false_iff_ne.mpr c8
                  have c8b1 : (x12_1 != 0) = true := bne_iff_ne.mpr c8
                  obtain ⟨ji12, hji12⟩ : ∃ j_ : Int, (wrap64 (x12_1 - 1)) = j_ := ⟨_, rfl⟩
                  replace H : (if 0 ≤ (ji12) then (if (ji12) < (l0.length : Int) then (if (Op.bytesLess (((rd_T68 l0 x12_1).f0).toList) (((rd_T68 l0 (ji12)).f0).toList)) = true then (some 9) else (if ((rd_T68 l0 x12_1).f0).toList = ((rd_T68 l0 (ji12)).f0).toList then (if ((rd_T68 l0 x12_1).f4) ≤ ((rd_T68 l0 (ji12)).f5) then (some 9) else (calibrate_Check.l0 k1 l0 l0 (l0.length : Int) (wrap64 (x12_1 + 1)))) else (calibrate_Check.l0 k1 l0 l0 (l0.length : Int) (wrap64 (x12_1 + 1))))) else (none)) else (none)) = some r := by first | (rw [hji12] at H; exact H) | (simp only [hji12] at H ⊢; exact H)
                  (try rw [hji12] at A6)
                  have hji12w : (IntKind.i64.wrap (x12_1 - 1)) = ji12 := (i64_w _).trans hji12
                  by_cases c13 : 0 ≤ (ji12)
                  · rw [if_pos c13] at H
                    have c13b0 : decide (0 ≤ (ji12)) = true := decide_eq_true c13
                    clear c13
                    by_cases c14 : (ji12) < (l0.length : Int)
                    · rw [if_pos c14] at H
                      have c14b0 : decide ((ji12) < (l0.length : Int)) = true := decide_eq_true c14
                      clear c14
                      by_cases c15 : (Op.bytesLess (((rd_T68 l0 x12_1).f0).toList) (((rd_T68 l0 (ji12)).f0).toList)) = true
                      · rw [if_pos c15] at H
                        have c15b0 : (Op.bytesLess (((rd_T68 l0 x12_1).f0).toList) (((rd_T68 l0 (ji12)).f0).toList)) = true := c15
                        clear c15
                        obtain rfl := Option.some.inj H
                        have p123 : 0 ≤ (x12_1 : Int) := of_decide_eq_true (by first | (with_reducible assumption) | assumption)
                        have q123 : x12_1 < (l0.length : Int) := of_decide_eq_true (by first | (with_reducible assumption) | assumption)
                        obtain ⟨ad123, e123, hx123_0, hx123_1, hx123_2, hx123_3, hx123_4, hx123_5⟩ := at_T68 HR0.out x12_1 p123 q123
                        cases e123
                        replace hx123_0 := (HB.out.cell (World.block_lt_of_cell? w _ hx123_0)).trans hx123_0
                        replace hx123_1 := (HB.out.cell (World.block_lt_of_cell? w _ hx123_1)).trans hx123_1
                        replace hx123_2 := (HB.out.cell (World.block_lt_of_cell? w _ hx123_2)).trans hx123_2
                        replace hx123_3 := (HB.out.cell (World.block_lt_of_cell? w _ hx123_3)).trans hx123_3
                        replace hx123_4 := (HB.out.cell (World.block_lt_of_cell? w _ hx123_4)).trans hx123_4
                        replace hx123_5 := (HB.out.cell (World.block_lt_of_cell? w _ hx123_5)).trans hx123_5
                        replace p123 := eq_true p123
                        replace q123 := eq_true q123
                        go_wp2_with (first | ((with_reducible refine gate_dst (N := 4) rfl ?_); refine box_event ?hg (N := 4) ?hd (cs := #[.string (⟨#[]⟩ : ByteArray), .string (⟨#[]⟩ : ByteArray), .int .i64 0, .int .i64 0, .int .i64 0, .int .i64 0]) (t := 68) ?hr ?_; (case hd => rfl); (case hg => rfl); (case hr => first | (go_simp; done) | (go_simp; rfl)); intro gb124 hg w16 hbox hb; have n0_ := Aside0.mk (below_step (by repeat (first | (with_reducible first | exact HB.out | apply below_alloc | apply pw_below_drewN | apply below_drew1) | exact HB.out)) hb); have n1_ := Aside0.mk (hbox); have n2_ := Aside0.mk ((by rw [hg]; exact (below_size (by repeat (first | (with_reducible first | exact HB.out | apply below_alloc | apply pw_below_drewN | apply below_drew1) | exact HB.out))) : w.heap.size ≤ gb124)); have n3_ := Aside0.mk ((by rw [hg]; exact (below_size (by repeat (first | (with_reducible first | exact HB.out | apply below_alloc | apply pw_below_drewN | apply below_drew1) | exact HB.out))) : w.heap.size ≤ gb124)); clear HB; have HB := n0_; have BK124 := n1_; have GW124 := n2_; have GE124 := n3_; clear n0_ n1_ n2_ n3_; clear hb hbox hg; have hcz17_0 : w16.cell? ⟨gb124, 0, none⟩ = some (.string (⟨#[]⟩ : ByteArray)) := (blk_cell BK124.out 0).trans rfl; have hcz17_1 : w16.cell? ⟨gb124, 1, none⟩ = some (.string (⟨#[]⟩ : ByteArray)) := (blk_cell BK124.out 1).trans rfl; have hcz17_2 : w16.cell? ⟨gb124, 2, none⟩ = some (.int .i64 0) := (blk_cell BK124.out 2).trans rfl; have hcz17_3 : w16.cell? ⟨gb124, 3, none⟩ = some (.int .i64 0) := (blk_cell BK124.out 3).trans rfl; have hcz17_4 : w16.cell? ⟨gb124, 4, none⟩ = some (.int .i64 0) := (blk_cell BK124.out 4).trans rfl; have hcz17_5 : w16.cell? ⟨gb124, 5, none⟩ = some (.int .i64 0) := (blk_cell BK124.out 5).trans rfl; have hfz17_0 := blk_frozen BK124.out 0; have hfz17_1 := blk_frozen BK124.out 1; have hfz17_2 := blk_frozen BK124.out 2; have hfz17_3 := blk_frozen BK124.out 3; have hfz17_4 := blk_frozen BK124.out 4; have hfz17_5 := blk_frozen BK124.out 5) | ((with_reducible refine gate_callee (f := 110) rfl ?_); refine goesL_ (some 18) rfl rfl Try.func110 (by kernel_rfl) rfl #[.agg #[.string ((rd_T68 l0 x12_1).f0), .string ((rd_T68 l0 x12_1).f1), .int .i64 ((rd_T68 l0 x12_1).f2), .int .i64 ((rd_T68 l0 x12_1).f3), .int .i64 ((rd_T68 l0 x12_1).f4), .int .i64 ((rd_T68 l0 x12_1).f5)]] rfl (by (try simp only [List.map_toArray, List.map_cons, List.map_nil]); first | done | rfl | (simp only [List.length_drop, List.length_take]; rfl)) ?_; (with_reducible refine (calibrate_check.calls k1 ((rd_T68 l0 x12_1).f0) ((rd_T68 l0 x12_1).f1) ((rd_T68 l0 x12_1).f2) ((rd_T68 l0 x12_1).f3) ((rd_T68 l0 x12_1).f4) ((rd_T68 l0 x12_1).f5) t125 _ A6.out).mono ?_); rintro e w18 ⟨rfl, hb⟩; refine ⟨_, rfl, ?_⟩; have n0_ := Aside0.mk (blk_below (g := gb124) (o := .cells #[.string ((rd_T68 l0 x12_1).f0), .string ((rd_T68 l0 x12_1).f1), .int .i64 ((rd_T68 l0 x12_1).f2), .int .i64 ((rd_T68 l0 x12_1).f3), .int .i64 ((rd_T68 l0 x12_1).f4), .int .i64 ((rd_T68 l0 x12_1).f5)] 68 (0, 0)) (by (with_reducible repeat (first | refine blk_drewN ?_ _ | refine blk_drew ?_ | refine blk_alloc ?_ _)); refine blk_put (cs := #[.string ((rd_T68 l0 x12_1).f0), .string ((rd_T68 l0 x12_1).f1), .int .i64 ((rd_T68 l0 x12_1).f2), .int .i64 ((rd_T68 l0 x12_1).f3), .int .i64 ((rd_T68 l0 x12_1).f4), .int .i64 0]) ?_ 5 _ rfl; (with_reducible repeat (first | refine blk_drewN ?_ _ | refine blk_drew ?_ | refine blk_alloc ?_ _)); refine blk_put (cs := #[.string ((rd_T68 l0 x12_1).f0), .string ((rd_T68 l0 x12_1).f1), .int .i64 ((rd_T68 l0 x12_1).f2), .int .i64 ((rd_T68 l0 x12_1).f3), .int .i64 0, .int .i64 0]) ?_ 4 _ rfl; (with_reducible repeat (first | refine blk_drewN ?_ _ | refine blk_drew ?_ | refine blk_alloc ?_ _)); refine blk_put (cs := #[.string ((rd_T68 l0 x12_1).f0), .string ((rd_T68 l0 x12_1).f1), .int .i64 ((rd_T68 l0 x12_1).f2), .int .i64 0, .int .i64 0, .int .i64 0]) ?_ 3 _ rfl; (with_reducible repeat (first | refine blk_drewN ?_ _ | refine blk_drew ?_ | refine blk_alloc ?_ _)); refine blk_put (cs := #[.string ((rd_T68 l0 x12_1).f0), .string ((rd_T68 l0 x12_1).f1), .int .i64 0, .int .i64 0, .int .i64 0, .int .i64 0]) ?_ 2 _ rfl; (with_reducible repeat (first | refine blk_drewN ?_ _ | refine blk_drew ?_ | refine blk_alloc ?_ _)); refine blk_put (cs := #[.string ((rd_T68 l0 x12_1).f0), .string (⟨#[]⟩ : ByteArray), .int .i64 0, .int .i64 0, .int .i64 0, .int .i64 0]) ?_ 1 _ rfl; (with_reducible repeat (first | refine blk_drewN ?_ _ | refine blk_drew ?_ | refine blk_alloc ?_ _)); refine blk_put (cs := #[.string (⟨#[]⟩ : ByteArray), .string (⟨#[]⟩ : ByteArray), .int .i64 0, .int .i64 0, .int .i64 0, .int .i64 0]) ?_ 0 _ rfl; (with_reducible repeat (first | refine blk_drewN ?_ _ | refine blk_drew ?_ | refine blk_alloc ?_ _)); exact BK124.out) hb); have n1_ := Aside0.mk (below_step (by repeat (first | (with_reducible first | exact HB.out | apply below_alloc | apply pw_below_drewN | apply below_drew1 | refine below_set ?_ GE124.out) | exact HB.out)) hb); clear BK124; clear HB; have BK124 := n0_; have HB := n1_; clear n0_ n1_; (try clear hb); (try clear hb2); (try clear hk); (try clear hi); have p126 : 0 ≤ ((ji12) : Int) := of_decide_eq_true (by first | (with_reducible assumption) | assumption); have q126 : (ji12) < (l0.length : Int) := of_decide_eq_true (by first | (with_reducible assumption) | assumption); obtain ⟨ad126, e126, hx126_0, hx126_1, hx126_2, hx126_3, hx126_4, hx126_5⟩ := at_T68 HR0.out (ji12) p126 q126; obtain rfl : ad123 = ad126 := (by injection e126); replace hx126_0 := (HB.out.cell (World.block_lt_of_cell? w _ hx126_0)).trans hx126_0; replace hx126_1 := (HB.out.cell (World.block_lt_of_cell? w _ hx126_1)).trans hx126_1; replace hx126_2 := (HB.out.cell (World.block_lt_of_cell? w _ hx126_2)).trans hx126_2; replace hx126_3 := (HB.out.cell (World.block_lt_of_cell? w _ hx126_3)).trans hx126_3; replace hx126_4 := (HB.out.cell (World.block_lt_of_cell? w _ hx126_4)).trans hx126_4; replace hx126_5 := (HB.out.cell (World.block_lt_of_cell? w _ hx126_5)).trans hx126_5; replace p126 := eq_true p126; replace q126 := eq_true q126) | ((with_reducible refine gate_dst (N := 6) rfl ?_); refine box_event ?hg (N := 6) ?hd (cs := #[.string (⟨#[]⟩ : ByteArray), .string (⟨#[]⟩ : ByteArray), .int .i64 0, .int .i64 0, .int .i64 0, .int .i64 0]) (t := 68) ?hr ?_; (case hd => rfl); (case hg => rfl); (case hr => first | (go_simp; done) | (go_simp; rfl)); intro gb127 hg w19 hbox hb; have n0_ := Aside0.mk (blk_below (g := gb124) (o := .cells #[.string ((rd_T68 l0 x12_1).f0), .string ((rd_T68 l0 x12_1).f1), .int .i64 ((rd_T68 l0 x12_1).f2), .int .i64 ((rd_T68 l0 x12_1).f3), .int .i64 ((rd_T68 l0 x12_1).f4), .int .i64 ((rd_T68 l0 x12_1).f5)] 68 (0, 0)) (by (with_reducible repeat (first | refine blk_drewN ?_ _ | refine blk_drew ?_ | refine blk_alloc ?_ _)); exact BK124.out) hb); have n1_ := Aside0.mk (below_step (by repeat (first | (with_reducible first | exact HB.out | apply below_alloc | apply pw_below_drewN | apply below_drew1 | refine below_set ?_ GE124.out) | exact HB.out)) hb); have n2_ := Aside0.mk (hbox); have n3_ := Aside0.mk ((by rw [hg]; exact (below_size (by repeat (first | (with_reducible first | exact HB.out | apply below_alloc | apply pw_below_drewN | apply below_drew1 | refine below_set ?_ GE124.out) | exact HB.out))) : w.heap.size ≤ gb127)); have n4_ := Aside0.mk ((by rw [hg]; exact (below_size (by repeat (first | (with_reducible first | exact HB.out | apply below_alloc | apply pw_below_drewN | apply below_drew1 | refine below_set ?_ GE124.out) | exact HB.out))) : w.heap.size ≤ gb127)); have n5_ := Aside0.mk ((by rw [hg]; exact Nat.ne_of_lt (blk_lt (g := gb124) (o := .cells #[.string ((rd_T68 l0 x12_1).f0), .string ((rd_T68 l0 x12_1).f1), .int .i64 ((rd_T68 l0 x12_1).f2), .int .i64 ((rd_T68 l0 x12_1).f3), .int .i64 ((rd_T68 l0 x12_1).f4), .int .i64 ((rd_T68 l0 x12_1).f5)] 68 (0, 0)) (by (with_reducible repeat (first | refine blk_drewN ?_ _ | refine blk_drew ?_ | refine blk_alloc ?_ _)); exact BK124.out)) : gb124 ≠ gb127)); have n6_ := Aside0.mk ((by rw [hg]; exact Nat.ne_of_gt (blk_lt (g := gb124) (o := .cells #[.string ((rd_T68 l0 x12_1).f0), .string ((rd_T68 l0 x12_1).f1), .int .i64 ((rd_T68 l0 x12_1).f2), .int .i64 ((rd_T68 l0 x12_1).f3), .int .i64 ((rd_T68 l0 x12_1).f4), .int .i64 ((rd_T68 l0 x12_1).f5)] 68 (0, 0)) (by (with_reducible repeat (first | refine blk_drewN ?_ _ | refine blk_drew ?_ | refine blk_alloc ?_ _)); exact BK124.out)) : gb127 ≠ gb124)); clear BK124; clear HB; have BK124 := n0_; have HB := n1_; have BK127 := n2_; have GW127 := n3_; have GE127 := n4_; have NB124_127 := n5_; have NB127_124 := n6_; clear n0_ n1_ n2_ n3_ n4_ n5_ n6_; clear hb hbox hg; have hnb20 := NB127_124.out; have hnc20 := NB124_127.out; have hcz21_0 : w19.cell? ⟨gb127, 0, none⟩ = some (.string (⟨#[]⟩ : ByteArray)) := (blk_cell BK127.out 0).trans rfl; have hcz21_1 : w19.cell? ⟨gb127, 1, none⟩ = some (.string (⟨#[]⟩ : ByteArray)) := (blk_cell BK127.out 1).trans rfl; have hcz21_2 : w19.cell? ⟨gb127, 2, none⟩ = some (.int .i64 0) := (blk_cell BK127.out 2).trans rfl; have hcz21_3 : w19.cell? ⟨gb127, 3, none⟩ = some (.int .i64 0) := (blk_cell BK127.out 3).trans rfl; have hcz21_4 : w19.cell? ⟨gb127, 4, none⟩ = some (.int .i64 0) := (blk_cell BK127.out 4).trans rfl; have hcz21_5 : w19.cell? ⟨gb127, 5, none⟩ = some (.int .i64 0) := (blk_cell BK127.out 5).trans rfl; have hfz21_0 := blk_frozen BK127.out 0; have hfz21_1 := blk_frozen BK127.out 1; have hfz21_2 := blk_frozen BK127.out 2; have hfz21_3 := blk_frozen BK127.out 3; have hfz21_4 := blk_frozen BK127.out 4; have hfz21_5 := blk_frozen BK127.out 5; have hcz22_0 : w19.cell? ⟨gb124, 0, none⟩ = some (.string ((rd_T68 l0 x12_1).f0)) := (blk_cell BK124.out 0).trans rfl; have hcz22_1 : w19.cell? ⟨gb124, 1, none⟩ = some (.string ((rd_T68 l0 x12_1).f1)) := (blk_cell BK124.out 1).trans rfl; have hcz22_2 : w19.cell? ⟨gb124, 2, none⟩ = some (.int .i64 ((rd_T68 l0 x12_1).f2)) := (blk_cell BK124.out 2).trans rfl; have hcz22_3 : w19.cell? ⟨gb124, 3, none⟩ = some (.int .i64 ((rd_T68 l0 x12_1).f3)) := (blk_cell BK124.out 3).trans rfl; have hcz22_4 : w19.cell? ⟨gb124, 4, none⟩ = some (.int .i64 ((rd_T68 l0 x12_1).f4)) := (blk_cell BK124.out 4).trans rfl; have hcz22_5 : w19.cell? ⟨gb124, 5, none⟩ = some (.int .i64 ((rd_T68 l0 x12_1).f5)) := (blk_cell BK124.out 5).trans rfl; have hfz22_0 := blk_frozen BK124.out 0; have hfz22_1 := blk_frozen BK124.out 1; have hfz22_2 := blk_frozen BK124.out 2; have hfz22_3 := blk_frozen BK124.out 3; have hfz22_4 := blk_frozen BK124.out 4; have hfz22_5 := blk_frozen BK124.out 5))
                        go_ret
                        exact ⟨by first | rfl | (simp [errW_none, errW_some] <;> rfl) | (simp only [← hji12]; first | rfl | (simp [errW_none, errW_some] <;> rfl)) | (simp [*, errW_none, errW_some] <;> rfl), by repeat (first | (with_reducible first | exact HB.out | apply below_alloc | apply pw_below_drewN | apply below_drew1 | refine below_set ?_ GE124.out | refine below_set ?_ GE127.out) | exact HB.out)⟩
                      · rw [if_neg c15] at H
                        have c15b0 : (Op.bytesLess (((rd_T68 l0 x12_1).f0).toList) (((rd_T68 l0 (ji12)).f0).toList)) = false := by simpa using c15
                        clear c15
                        by_cases c23 : ((rd_T68 l0 x12_1).f0).toList = ((rd_T68 l0 (ji12)).f0).toList
                        · rw [if_pos c23] at H
                          have c23b0 : (((rd_T68 l0 x12_1).f0).toList == ((rd_T68 l0 (ji12)).f0).toList) = true := beq_iff_eq.mpr c23
                          have c23b1 : (((rd_T68 l0 x12_1).f0).toList != ((rd_T68 l0 (ji12)).f0).toList) = false := bne_eq_false_iff_eq.mpr c23
                          clear c23
                          by_cases c24 : ((rd_T68 l0 x12_1).f4) ≤ ((rd_T68 l0 (ji12)).f5)
                          · rw [if_pos c24] at H
                            have c24b0 : decide (((rd_T68 l0 x12_1).f4) ≤ ((rd_T68 l0 (ji12)).f5)) = true := decide_eq_true c24
                            clear c24
                            obtain rfl := Option.some.inj H
                            have p123 : 0 ≤ (x12_1 : Int) := of_decide_eq_true (by first | (with_reducible assumption) | assumption)
                            have q123 : x12_1 < (l0.length : Int) := of_decide_eq_true (by first | (with_reducible assumption) | assumption)
                            obtain ⟨ad123, e123, hx123_0, hx123_1, hx123_2, hx123_3, hx123_4, hx123_5⟩ := at_T68 HR0.out x12_1 p123 q123
                            cases e123
                            replace hx123_0 := (HB.out.cell (World.block_lt_of_cell? w _ hx123_0)).trans hx123_0
                            replace hx123_1 := (HB.out.cell (World.block_lt_of_cell? w _ hx123_1)).trans hx123_1
                            replace hx123_2 := (HB.out.cell (World.block_lt_of_cell? w _ hx123_2)).trans hx123_2
                            replace hx123_3 := (HB.out.cell (World.block_lt_of_cell? w _ hx123_3)).trans hx123_3
                            replace hx123_4 := (HB.out.cell (World.block_lt_of_cell? w _ hx123_4)).trans hx123_4
                            replace hx123_5 := (HB.out.cell (World.block_lt_of_cell? w _ hx123_5)).trans hx123_5
                            replace p123 := eq_true p123
                            replace q123 := eq_true q123
                            go_wp2_with (first | ((with_reducible refine gate_dst (N := 4) rfl ?_); refine box_event ?hg (N := 4) ?hd (cs := #[.string (⟨#[]⟩ : ByteArray), .string (⟨#[]⟩ : ByteArray), .int .i64 0, .int .i64 0, .int .i64 0, .int .i64 0]) (t := 68) ?hr ?_; (case hd => rfl); (case hg => rfl); (case hr => first | (go_simp; done) | (go_simp; rfl)); intro gb124 hg w25 hbox hb; have n0_ := Aside0.mk (below_step (by repeat (first | (with_reducible first | exact HB.out | apply below_alloc | apply pw_below_drewN | apply below_drew1) | exact HB.out)) hb); have n1_ := Aside0.mk (hbox); have n2_ := Aside0.mk ((by rw [hg]; exact (below_size (by repeat (first | (with_reducible first | exact HB.out | apply below_alloc | apply pw_below_drewN | apply below_drew1) | exact HB.out))) : w.heap.size ≤ gb124)); have n3_ := Aside0.mk ((by rw [hg]; exact (below_size (by repeat (first | (with_reducible first | exact HB.out | apply below_alloc | apply pw_below_drewN | apply below_drew1) | exact HB.out))) : w.heap.size ≤ gb124)); clear HB; have HB := n0_; have BK124 := n1_; have GW124 := n2_; have GE124 := n3_; clear n0_ n1_ n2_ n3_; clear hb hbox hg; have hcz26_0 : w25.cell? ⟨gb124, 0, none⟩ = some (.string (⟨#[]⟩ : ByteArray)) := (blk_cell BK124.out 0).trans rfl; have hcz26_1 : w25.cell? ⟨gb124, 1, none⟩ = some (.string (⟨#[]⟩ : ByteArray)) := (blk_cell BK124.out 1).trans rfl; have hcz26_2 : w25.cell? ⟨gb124, 2, none⟩ = some (.int .i64 0) := (blk_cell BK124.out 2).trans rfl; have hcz26_3 : w25.cell? ⟨gb124, 3, none⟩ = some (.int .i64 0) := (blk_cell BK124.out 3).trans rfl; have hcz26_4 : w25.cell? ⟨gb124, 4, none⟩ = some (.int .i64 0) := (blk_cell BK124.out 4).trans rfl; have hcz26_5 : w25.cell? ⟨gb124, 5, none⟩ = some (.int .i64 0) := (blk_cell BK124.out 5).trans rfl; have hfz26_0 := blk_frozen BK124.out 0; have hfz26_1 := blk_frozen BK124.out 1; have hfz26_2 := blk_frozen BK124.out 2; have hfz26_3 := blk_frozen BK124.out 3; have hfz26_4 := blk_frozen BK124.out 4; have hfz26_5 := blk_frozen BK124.out 5) | ((with_reducible refine gate_callee (f := 110) rfl ?_); refine goesL_ (some 18) rfl rfl Try.func110 (by kernel_rfl) rfl #[.agg #[.string ((rd_T68 l0 x12_1).f0), .string ((rd_T68 l0 x12_1).f1), .int .i64 ((rd_T68 l0 x12_1).f2), .int .i64 ((rd_T68 l0 x12_1).f3), .int .i64 ((rd_T68 l0 x12_1).f4), .int .i64 ((rd_T68 l0 x12_1).f5)]] rfl (by (try simp only [List.map_toArray, List.map_cons, List.map_nil]); first | done | rfl | (simp only [List.length_drop, List.length_take]; rfl)) ?_; (with_reducible refine (calibrate_check.calls k1 ((rd_T68 l0 x12_1).f0) ((rd_T68 l0 x12_1).f1) ((rd_T68 l0 x12_1).f2) ((rd_T68 l0 x12_1).f3) ((rd_T68 l0 x12_1).f4) ((rd_T68 l0 x12_1).f5) t125 _ A6.out).mono ?_); rintro e w27 ⟨rfl, hb⟩; refine ⟨_, rfl, ?_⟩; have n0_ := Aside0.mk (blk_below (g := gb124) (o := .cells #[.string ((rd_T68 l0 x12_1).f0), .string ((rd_T68 l0 x12_1).f1), .int .i64 ((rd_T68 l0 x12_1).f2), .int .i64 ((rd_T68 l0 x12_1).f3), .int .i64 ((rd_T68 l0 x12_1).f4), .int .i64 ((rd_T68 l0 x12_1).f5)] 68 (0, 0)) (by (with_reducible repeat (first | refine blk_drewN ?_ _ | refine blk_drew ?_ | refine blk_alloc ?_ _)); refine blk_put (cs := #[.string ((rd_T68 l0 x12_1).f0), .string ((rd_T68 l0 x12_1).f1), .int .i64 ((rd_T68 l0 x12_1).f2), .int .i64 ((rd_T68 l0 x12_1).f3), .int .i64 ((rd_T68 l0 x12_1).f4), .int .i64 0]) ?_ 5 _ rfl; (with_reducible repeat (first | refine blk_drewN ?_ _ | refine blk_drew ?_ | refine blk_alloc ?_ _)); refine blk_put (cs := #[.string ((rd_T68 l0 x12_1).f0), .string ((rd_T68 l0 x12_1).f1), .int .i64 ((rd_T68 l0 x12_1).f2), .int .i64 ((rd_T68 l0 x12_1).f3), .int .i64 0, .int .i64 0]) ?_ 4 _ rfl; (with_reducible repeat (first | refine blk_drewN ?_ _ | refine blk_drew ?_ | refine blk_alloc ?_ _)); refine blk_put (cs := #[.string ((rd_T68 l0 x12_1).f0), .string ((rd_T68 l0 x12_1).f1), .int .i64 ((rd_T68 l0 x12_1).f2), .int .i64 0, .int .i64 0, .int .i64 0]) ?_ 3 _ rfl; (with_reducible repeat (first | refine blk_drewN ?_ _ | refine blk_drew ?_ | refine blk_alloc ?_ _)); refine blk_put (cs := #[.string ((rd_T68 l0 x12_1).f0), .string ((rd_T68 l0 x12_1).f1), .int .i64 0, .int .i64 0, .int .i64 0, .int .i64 0]) ?_ 2 _ rfl; (with_reducible repeat (first | refine blk_drewN ?_ _ | refine blk_drew ?_ | refine blk_alloc ?_ _)); refine blk_put (cs := #[.string ((rd_T68 l0 x12_1).f0), .string (⟨#[]⟩ : ByteArray), .int .i64 0, .int .i64 0, .int .i64 0, .int .i64 0]) ?_ 1 _ rfl; (with_reducible repeat (first | refine blk_drewN ?_ _ | refine blk_drew ?_ | refine blk_alloc ?_ _)); refine blk_put (cs := #[.string (⟨#[]⟩ : ByteArray), .string (⟨#[]⟩ : ByteArray), .int .i64 0, .int .i64 0, .int .i64 0, .int .i64 0]) ?_ 0 _ rfl; (with_reducible repeat (first | refine blk_drewN ?_ _ | refine blk_drew ?_ | refine blk_alloc ?_ _)); exact BK124.out) hb); have n1_ := Aside0.mk (below_step (by repeat (first | (with_reducible first | exact HB.out | apply below_alloc | apply pw_below_drewN | apply below_drew1 | refine below_set ?_ GE124.out) | exact HB.out)) hb); clear BK124; clear HB; have BK124 := n0_; have HB := n1_; clear n0_ n1_; (try clear hb); (try clear hb2); (try clear hk); (try clear hi); have p126 : 0 ≤ ((ji12) : Int) := of_decide_eq_true (by first | (with_reducible assumption) | assumption); have q126 : (ji12) < (l0.length : Int) := of_decide_eq_true (by first | (with_reducible assumption) | assumption); obtain ⟨ad126, e126, hx126_0, hx126_1, hx126_2, hx126_3, hx126_4, hx126_5⟩ := at_T68 HR0.out (ji12) p126 q126; obtain rfl : ad123 = ad126 := (by injection e126); replace hx126_0 := (HB.out.cell (World.block_lt_of_cell? w _ hx126_0)).trans hx126_0; replace hx126_1 := (HB.out.cell (World.block_lt_of_cell? w _ hx126_1)).trans hx126_1; replace hx126_2 := (HB.out.cell (World.block_lt_of_cell? w _ hx126_2)).trans hx126_2; replace hx126_3 := (HB.out.cell (World.block_lt_of_cell? w _ hx126_3)).trans hx126_3; replace hx126_4 := (HB.out.cell (World.block_lt_of_cell? w _ hx126_4)).trans hx126_4; replace hx126_5 := (HB.out.cell (World.block_lt_of_cell? w _ hx126_5)).trans hx126_5; replace p126 := eq_true p126; replace q126 := eq_true q126) | ((with_reducible refine gate_dst (N := 6) rfl ?_); refine box_event ?hg (N := 6) ?hd (cs := #[.string (⟨#[]⟩ : ByteArray), .string (⟨#[]⟩ : ByteArray), .int .i64 0, .int .i64 0, .int .i64 0, .int .i64 0]) (t := 68) ?hr ?_; (case hd => rfl); (case hg => rfl); (case hr => first | (go_simp; done) | (go_simp; rfl)); intro gb127 hg w28 hbox hb; have n0_ := Aside0.mk (blk_below (g := gb124) (o := .cells #[.string ((rd_T68 l0 x12_1).f0), .string ((rd_T68 l0 x12_1).f1), .int .i64 ((rd_T68 l0 x12_1).f2), .int .i64 ((rd_T68 l0 x12_1).f3), .int .i64 ((rd_T68 l0 x12_1).f4), .int .i64 ((rd_T68 l0 x12_1).f5)] 68 (0, 0)) (by (with_reducible repeat (first | refine blk_drewN ?_ _ | refine blk_drew ?_ | refine blk_alloc ?_ _)); exact BK124.out) hb); have n1_ := Aside0.mk (below_step (by repeat (first | (with_reducible first | exact HB.out | apply below_alloc | apply pw_below_drewN | apply below_drew1 | refine below_set ?_ GE124.out) | exact HB.out)) hb); have n2_ := Aside0.mk (hbox); have n3_ := Aside0.mk ((by rw [hg]; exact (below_size (by repeat (first | (with_reducible first | exact HB.out | apply below_alloc | apply pw_below_drewN | apply below_drew1 | refine below_set ?_ GE124.out) | exact HB.out))) : w.heap.size ≤ gb127)); have n4_ := Aside0.mk ((by rw [hg]; exact (below_size (by repeat (first | (with_reducible first | exact HB.out | apply below_alloc | apply pw_below_drewN | apply below_drew1 | refine below_set ?_ GE124.out) | exact HB.out))) : w.heap.size ≤ gb127)); have n5_ := Aside0.mk ((by rw [hg]; exact Nat.ne_of_lt (blk_lt (g := gb124) (o := .cells #[.string ((rd_T68 l0 x12_1).f0), .string ((rd_T68 l0 x12_1).f1), .int .i64 ((rd_T68 l0 x12_1).f2), .int .i64 ((rd_T68 l0 x12_1).f3), .int .i64 ((rd_T68 l0 x12_1).f4), .int .i64 ((rd_T68 l0 x12_1).f5)] 68 (0, 0)) (by (with_reducible repeat (first | refine blk_drewN ?_ _ | refine blk_drew ?_ | refine blk_alloc ?_ _)); exact BK124.out)) : gb124 ≠ gb127)); have n6_ := Aside0.mk ((by rw [hg]; exact Nat.ne_of_gt (blk_lt (g := gb124) (o := .cells #[.string ((rd_T68 l0 x12_1).f0), .string ((rd_T68 l0 x12_1).f1), .int .i64 ((rd_T68 l0 x12_1).f2), .int .i64 ((rd_T68 l0 x12_1).f3), .int .i64 ((rd_T68 l0 x12_1).f4), .int .i64 ((rd_T68 l0 x12_1).f5)] 68 (0, 0)) (by (with_reducible repeat (first | refine blk_drewN ?_ _ | refine blk_drew ?_ | refine blk_alloc ?_ _)); exact BK124.out)) : gb127 ≠ gb124)); clear BK124; clear HB; have BK124 := n0_; have HB := n1_; have BK127 := n2_; have GW127 := n3_; have GE127 := n4_; have NB124_127 := n5_; have NB127_124 := n6_; clear n0_ n1_ n2_ n3_ n4_ n5_ n6_; clear hb hbox hg; have hnb29 := NB127_124.out; have hnc29 := NB124_127.out; have hcz30_0 : w28.cell? ⟨gb127, 0, none⟩ = some (.string (⟨#[]⟩ : ByteArray)) := (blk_cell BK127.out 0).trans rfl; have hcz30_1 : w28.cell? ⟨gb127, 1, none⟩ = some (.string (⟨#[]⟩ : ByteArray)) := (blk_cell BK127.out 1).trans rfl; have hcz30_2 : w28.cell? ⟨gb127, 2, none⟩ = some (.int .i64 0) := (blk_cell BK127.out 2).trans rfl; have hcz30_3 : w28.cell? ⟨gb127, 3, none⟩ = some (.int .i64 0) := (blk_cell BK127.out 3).trans rfl; have hcz30_4 : w28.cell? ⟨gb127, 4, none⟩ = some (.int .i64 0) := (blk_cell BK127.out 4).trans rfl; have hcz30_5 : w28.cell? ⟨gb127, 5, none⟩ = some (.int .i64 0) := (blk_cell BK127.out 5).trans rfl; have hfz30_0 := blk_frozen BK127.out 0; have hfz30_1 := blk_frozen BK127.out 1; have hfz30_2 := blk_frozen BK127.out 2; have hfz30_3 := blk_frozen BK127.out 3; have hfz30_4 := blk_frozen BK127.out 4; have hfz30_5 := blk_frozen BK127.out 5; have hcz31_0 : w28.cell? ⟨gb124, 0, none⟩ = some (.string ((rd_T68 l0 x12_1).f0)) := (blk_cell BK124.out 0).trans rfl; have hcz31_1 : w28.cell? ⟨gb124, 1, none⟩ = some (.string ((rd_T68 l0 x12_1).f1)) := (blk_cell BK124.out 1).trans rfl; have hcz31_2 : w28.cell? ⟨gb124, 2, none⟩ = some (.int .i64 ((rd_T68 l0 x12_1).f2)) := (blk_cell BK124.out 2).trans rfl; have hcz31_3 : w28.cell? ⟨gb124, 3, none⟩ = some (.int .i64 ((rd_T68 l0 x12_1).f3)) := (blk_cell BK124.out 3).trans rfl; have hcz31_4 : w28.cell? ⟨gb124, 4, none⟩ = some (.int .i64 ((rd_T68 l0 x12_1).f4)) := (blk_cell BK124.out 4).trans rfl; have hcz31_5 : w28.cell? ⟨gb124, 5, none⟩ = some (.int .i64 ((rd_T68 l0 x12_1).f5)) := (blk_cell BK124.out 5).trans rfl; have hfz31_0 := blk_frozen BK124.out 0; have hfz31_1 := blk_frozen BK124.out 1; have hfz31_2 := blk_frozen BK124.out 2; have hfz31_3 := blk_frozen BK124.out 3; have hfz31_4 := blk_frozen BK124.out 4; have hfz31_5 := blk_frozen BK124.out 5))
                            go_ret
                            exact ⟨by first | rfl | (simp [errW_none, errW_some] <;> rfl) | (simp only [← hji12]; first | rfl | (simp [errW_none, errW_some] <;> rfl)) | (simp [*, errW_none, errW_some] <;> rfl), by repeat (first | (with_reducible first | exact HB.out | apply below_alloc | apply pw_below_drewN | apply below_drew1 | refine below_set ?_ GE124.out | refine below_set ?_ GE127.out) | exact HB.out)⟩
                          · rw [if_neg c24] at H
                            have c24b0 : decide (((rd_T68 l0 x12_1).f4) ≤ ((rd_T68 l0 (ji12)).f5)) = false := decide_eq_false c24
                            clear c24
                            have H' := Aside0.mk H
                            clear H
                            have p123 : 0 ≤ (x12_1 : Int) := of_decide_eq_true (by first | (with_reducible assumption) | assumption)
                            have q123 : x12_1 < (l0.length : Int) := of_decide_eq_true (by first | (with_reducible assumption) | assumption)
                            obtain ⟨ad123, e123, hx123_0, hx123_1, hx123_2, hx123_3, hx123_4, hx123_5⟩ := at_T68 HR0.out x12_1 p123 q123
                            cases e123
                            replace hx123_0 := (HB.out.cell (World.block_lt_of_cell? w _ hx123_0)).trans hx123_0
                            replace hx123_1 := (HB.out.cell (World.block_lt_of_cell? w _ hx123_1)).trans hx123_1
                            replace hx123_2 := (HB.out.cell (World.block_lt_of_cell? w _ hx123_2)).trans hx123_2
                            replace hx123_3 := (HB.out.cell (World.block_lt_of_cell? w _ hx123_3)).trans hx123_3
                            replace hx123_4 := (HB.out.cell (World.block_lt_of_cell? w _ hx123_4)).trans hx123_4
                            replace hx123_5 := (HB.out.cell (World.block_lt_of_cell? w _ hx123_5)).trans hx123_5
                            replace p123 := eq_true p123
                            replace q123 := eq_true q123
                            go_wp2_with (first | ((with_reducible refine gate_dst (N := 4) rfl ?_); refine box_event ?hg (N := 4) ?hd (cs := #[.string (⟨#[]⟩ : ByteArray), .string (⟨#[]⟩ : ByteArray), .int .i64 0, .int .i64 0, .int .i64 0, .int .i64 0]) (t := 68) ?hr ?_; (case hd => rfl); (case hg => rfl); (case hr => first | (go_simp; done) | (go_simp; rfl)); intro gb124 hg w32 hbox hb; have n0_ := Aside0.mk (below_step (by repeat (first | (with_reducible first | exact HB.out | apply below_alloc | apply pw_below_drewN | apply below_drew1) | exact HB.out)) hb); have n1_ := Aside0.mk (hbox); have n2_ := Aside0.mk ((by rw [hg]; exact (below_size (by repeat (first | (with_reducible first | exact HB.out | apply below_alloc | apply pw_below_drewN | apply below_drew1) | exact HB.out))) : w.heap.size ≤ gb124)); have n3_ := Aside0.mk ((by rw [hg]; exact (below_size (by repeat (first | (with_reducible first | exact HB.out | apply below_alloc | apply pw_below_drewN | apply below_drew1) | exact HB.out))) : w.heap.size ≤ gb124)); clear HB; have HB := n0_; have BK124 := n1_; have GW124 := n2_; have GE124 := n3_; clear n0_ n1_ n2_ n3_; clear hb hbox hg; have hcz33_0 : w32.cell? ⟨gb124, 0, none⟩ = some (.string (⟨#[]⟩ : ByteArray)) := (blk_cell BK124.out 0).trans rfl; have hcz33_1 : w32.cell? ⟨gb124, 1, none⟩ = some (.string (⟨#[]⟩ : ByteArray)) := (blk_cell BK124.out 1).trans rfl; have hcz33_2 : w32.cell? ⟨gb124, 2, none⟩ = some (.int .i64 0) := (blk_cell BK124.out 2).trans rfl; have hcz33_3 : w32.cell? ⟨gb124, 3, none⟩ = some (.int .i64 0) := (blk_cell BK124.out 3).trans rfl; have hcz33_4 : w32.cell? ⟨gb124, 4, none⟩ = some (.int .i64 0) := (blk_cell BK124.out 4).trans rfl; have hcz33_5 : w32.cell? ⟨gb124, 5, none⟩ = some (.int .i64 0) := (blk_cell BK124.out 5).trans rfl; have hfz33_0 := blk_frozen BK124.out 0; have hfz33_1 := blk_frozen BK124.out 1; have hfz33_2 := blk_frozen BK124.out 2; have hfz33_3 := blk_frozen BK124.out 3; have hfz33_4 := blk_frozen BK124.out 4; have hfz33_5 := blk_frozen BK124.out 5) | ((with_reducible refine gate_callee (f := 110) rfl ?_); refine goesL_ (some 18) rfl rfl Try.func110 (by kernel_rfl) rfl #[.agg #[.string ((rd_T68 l0 x12_1).f0), .string ((rd_T68 l0 x12_1).f1), .int .i64 ((rd_T68 l0 x12_1).f2), .int .i64 ((rd_T68 l0 x12_1).f3), .int .i64 ((rd_T68 l0 x12_1).f4), .int .i64 ((rd_T68 l0 x12_1).f5)]] rfl (by (try simp only [List.map_toArray, List.map_cons, List.map_nil]); first | done | rfl | (simp only [List.length_drop, List.length_take]; rfl)) ?_; (with_reducible refine (calibrate_check.calls k1 ((rd_T68 l0 x12_1).f0) ((rd_T68 l0 x12_1).f1) ((rd_T68 l0 x12_1).f2) ((rd_T68 l0 x12_1).f3) ((rd_T68 l0 x12_1).f4) ((rd_T68 l0 x12_1).f5) t125 _ A6.out).mono ?_); rintro e w34 ⟨rfl, hb⟩; refine ⟨_, rfl, ?_⟩; have n0_ := Aside0.mk (blk_below (g := gb124) (o := .cells #[.string ((rd_T68 l0 x12_1).f0), .string ((rd_T68 l0 x12_1).f1), .int .i64 ((rd_T68 l0 x12_1).f2), .int .i64 ((rd_T68 l0 x12_1).f3), .int .i64 ((rd_T68 l0 x12_1).f4), .int .i64 ((rd_T68 l0 x12_1).f5)] 68 (0, 0)) (by (with_reducible repeat (first | refine blk_drewN ?_ _ | refine blk_drew ?_ | refine blk_alloc ?_ _)); refine blk_put (cs := #[.string ((rd_T68 l0 x12_1).f0), .string ((rd_T68 l0 x12_1).f1), .int .i64 ((rd_T68 l0 x12_1).f2), .int .i64 ((rd_T68 l0 x12_1).f3), .int .i64 ((rd_T68 l0 x12_1).f4), .int .i64 0]) ?_ 5 _ rfl; (with_reducible repeat (first | refine blk_drewN ?_ _ | refine blk_drew ?_ | refine blk_alloc ?_ _)); refine blk_put (cs := #[.string ((rd_T68 l0 x12_1).f0), .string ((rd_T68 l0 x12_1).f1), .int .i64 ((rd_T68 l0 x12_1).f2), .int .i64 ((rd_T68 l0 x12_1).f3), .int .i64 0, .int .i64 0]) ?_ 4 _ rfl; (with_reducible repeat (first | refine blk_drewN ?_ _ | refine blk_drew ?_ | refine blk_alloc ?_ _)); refine blk_put (cs := #[.string ((rd_T68 l0 x12_1).f0), .string ((rd_T68 l0 x12_1).f1), .int .i64 ((rd_T68 l0 x12_1).f2), .int .i64 0, .int .i64 0, .int .i64 0]) ?_ 3 _ rfl; (with_reducible repeat (first | refine blk_drewN ?_ _ | refine blk_drew ?_ | refine blk_alloc ?_ _)); refine blk_put (cs := #[.string ((rd_T68 l0 x12_1).f0), .string ((rd_T68 l0 x12_1).f1), .int .i64 0, .int .i64 0, .int .i64 0, .int .i64 0]) ?_ 2 _ rfl; (with_reducible repeat (first | refine blk_drewN ?_ _ | refine blk_drew ?_ | refine blk_alloc ?_ _)); refine blk_put (cs := #[.string ((rd_T68 l0 x12_1).f0), .string (⟨#[]⟩ : ByteArray), .int .i64 0, .int .i64 0, .int .i64 0, .int .i64 0]) ?_ 1 _ rfl; (with_reducible repeat (first | refine blk_drewN ?_ _ | refine blk_drew ?_ | refine blk_alloc ?_ _)); refine blk_put (cs := #[.string (⟨#[]⟩ : ByteArray), .string (⟨#[]⟩ : ByteArray), .int .i64 0, .int .i64 0, .int .i64 0, .int .i64 0]) ?_ 0 _ rfl; (with_reducible repeat (first | refine blk_drewN ?_ _ | refine blk_drew ?_ | refine blk_alloc ?_ _)); exact BK124.out) hb); have n1_ := Aside0.mk (below_step (by repeat (first | (with_reducible first | exact HB.out | apply below_alloc | apply pw_below_drewN | apply below_drew1 | refine below_set ?_ GE124.out) | exact HB.out)) hb); clear BK124; clear HB; have BK124 := n0_; have HB := n1_; clear n0_ n1_; (try clear hb); (try clear hb2); (try clear hk); (try clear hi); have p126 : 0 ≤ ((ji12) : Int) := of_decide_eq_true (by first | (with_reducible assumption) | assumption); have q126 : (ji12) < (l0.length : Int) := of_decide_eq_true (by first | (with_reducible assumption) | assumption); obtain ⟨ad126, e126, hx126_0, hx126_1, hx126_2, hx126_3, hx126_4, hx126_5⟩ := at_T68 HR0.out (ji12) p126 q126; obtain rfl : ad123 = ad126 := (by injection e126); replace hx126_0 := (HB.out.cell (World.block_lt_of_cell? w _ hx126_0)).trans hx126_0; replace hx126_1 := (HB.out.cell (World.block_lt_of_cell? w _ hx126_1)).trans hx126_1; replace hx126_2 := (HB.out.cell (World.block_lt_of_cell? w _ hx126_2)).trans hx126_2; replace hx126_3 := (HB.out.cell (World.block_lt_of_cell? w _ hx126_3)).trans hx126_3; replace hx126_4 := (HB.out.cell (World.block_lt_of_cell? w _ hx126_4)).trans hx126_4; replace hx126_5 := (HB.out.cell (World.block_lt_of_cell? w _ hx126_5)).trans hx126_5; replace p126 := eq_true p126; replace q126 := eq_true q126) | ((with_reducible refine gate_dst (N := 6) rfl ?_); refine box_event ?hg (N := 6) ?hd (cs := #[.string (⟨#[]⟩ : ByteArray), .string (⟨#[]⟩ : ByteArray), .int .i64 0, .int .i64 0, .int .i64 0, .int .i64 0]) (t := 68) ?hr ?_; (case hd => rfl); (case hg => rfl); (case hr => first | (go_simp; done) | (go_simp; rfl)); intro gb127 hg w35 hbox hb; have n0_ := Aside0.mk (blk_below (g := gb124) (o := .cells #[.string ((rd_T68 l0 x12_1).f0), .string ((rd_T68 l0 x12_1).f1), .int .i64 ((rd_T68 l0 x12_1).f2), .int .i64 ((rd_T68 l0 x12_1).f3), .int .i64 ((rd_T68 l0 x12_1).f4), .int .i64 ((rd_T68 l0 x12_1).f5)] 68 (0, 0)) (by (with_reducible repeat (first | refine blk_drewN ?_ _ | refine blk_drew ?_ | refine blk_alloc ?_ _)); exact BK124.out) hb); have n1_ := Aside0.mk (below_step (by repeat (first | (with_reducible first | exact HB.out | apply below_alloc | apply pw_below_drewN | apply below_drew1 | refine below_set ?_ GE124.out) | exact HB.out)) hb); have n2_ := Aside0.mk (hbox); have n3_ := Aside0.mk ((by rw [hg]; exact (below_size (by repeat (first | (with_reducible first | exact HB.out | apply below_alloc | apply pw_below_drewN | apply below_drew1 | refine below_set ?_ GE124.out) | exact HB.out))) : w.heap.size ≤ gb127)); have n4_ := Aside0.mk ((by rw [hg]; exact (below_size (by repeat (first | (with_reducible first | exact HB.out | apply below_alloc | apply pw_below_drewN | apply below_drew1 | refine below_set ?_ GE124.out) | exact HB.out))) : w.heap.size ≤ gb127)); have n5_ := Aside0.mk ((by rw [hg]; exact Nat.ne_of_lt (blk_lt (g := gb124) (o := .cells #[.string ((rd_T68 l0 x12_1).f0), .string ((rd_T68 l0 x12_1).f1), .int .i64 ((rd_T68 l0 x12_1).f2), .int .i64 ((rd_T68 l0 x12_1).f3), .int .i64 ((rd_T68 l0 x12_1).f4), .int .i64 ((rd_T68 l0 x12_1).f5)] 68 (0, 0)) (by (with_reducible repeat (first | refine blk_drewN ?_ _ | refine blk_drew ?_ | refine blk_alloc ?_ _)); exact BK124.out)) : gb124 ≠ gb127)); have n6_ := Aside0.mk ((by rw [hg]; exact Nat.ne_of_gt (blk_lt (g := gb124) (o := .cells #[.string ((rd_T68 l0 x12_1).f0), .string ((rd_T68 l0 x12_1).f1), .int .i64 ((rd_T68 l0 x12_1).f2), .int .i64 ((rd_T68 l0 x12_1).f3), .int .i64 ((rd_T68 l0 x12_1).f4), .int .i64 ((rd_T68 l0 x12_1).f5)] 68 (0, 0)) (by (with_reducible repeat (first | refine blk_drewN ?_ _ | refine blk_drew ?_ | refine blk_alloc ?_ _)); exact BK124.out)) : gb127 ≠ gb124)); clear BK124; clear HB; have BK124 := n0_; have HB := n1_; have BK127 := n2_; have GW127 := n3_; have GE127 := n4_; have NB124_127 := n5_; have NB127_124 := n6_; clear n0_ n1_ n2_ n3_ n4_ n5_ n6_; clear hb hbox hg; have hnb36 := NB127_124.out; have hnc36 := NB124_127.out; have hcz37_0 : w35.cell? ⟨gb127, 0, none⟩ = some (.string (⟨#[]⟩ : ByteArray)) := (blk_cell BK127.out 0).trans rfl; have hcz37_1 : w35.cell? ⟨gb127, 1, none⟩ = some (.string (⟨#[]⟩ : ByteArray)) := (blk_cell BK127.out 1).trans rfl; have hcz37_2 : w35.cell? ⟨gb127, 2, none⟩ = some (.int .i64 0) := (blk_cell BK127.out 2).trans rfl; have hcz37_3 : w35.cell? ⟨gb127, 3, none⟩ = some (.int .i64 0) := (blk_cell BK127.out 3).trans rfl; have hcz37_4 : w35.cell? ⟨gb127, 4, none⟩ = some (.int .i64 0) := (blk_cell BK127.out 4).trans rfl; have hcz37_5 : w35.cell? ⟨gb127, 5, none⟩ = some (.int .i64 0) := (blk_cell BK127.out 5).trans rfl; have hfz37_0 := blk_frozen BK127.out 0; have hfz37_1 := blk_frozen BK127.out 1; have hfz37_2 := blk_frozen BK127.out 2; have hfz37_3 := blk_frozen BK127.out 3; have hfz37_4 := blk_frozen BK127.out 4; have hfz37_5 := blk_frozen BK127.out 5; have hcz38_0 : w35.cell? ⟨gb124, 0, none⟩ = some (.string ((rd_T68 l0 x12_1).f0)) := (blk_cell BK124.out 0).trans rfl; have hcz38_1 : w35.cell? ⟨gb124, 1, none⟩ = some (.string ((rd_T68 l0 x12_1).f1)) := (blk_cell BK124.out 1).trans rfl; have hcz38_2 : w35.cell? ⟨gb124, 2, none⟩ = some (.int .i64 ((rd_T68 l0 x12_1).f2)) := (blk_cell BK124.out 2).trans rfl; have hcz38_3 : w35.cell? ⟨gb124, 3, none⟩ = some (.int .i64 ((rd_T68 l0 x12_1).f3)) := (blk_cell BK124.out 3).trans rfl; have hcz38_4 : w35.cell? ⟨gb124, 4, none⟩ = some (.int .i64 ((rd_T68 l0 x12_1).f4)) := (blk_cell BK124.out 4).trans rfl; have hcz38_5 : w35.cell? ⟨gb124, 5, none⟩ = some (.int .i64 ((rd_T68 l0 x12_1).f5)) := (blk_cell BK124.out 5).trans rfl; have hfz38_0 := blk_frozen BK124.out 0; have hfz38_1 := blk_frozen BK124.out 1; have hfz38_2 := blk_frozen BK124.out 2; have hfz38_3 := blk_frozen BK124.out 3; have hfz38_4 := blk_frozen BK124.out 4; have hfz38_5 := blk_frozen BK124.out 5))
                            go_roundg k1
                            case measure => have := HK1.out; omega
                            case rel => exact ⟨(wrap64 (x12_1 + 1)), (by first | rfl | (simp; done) | (simp [*]; done)), H', ⟨by have := HK1.out; omega⟩, ⟨by repeat (first | (with_reducible first | exact HB.out | apply below_alloc | apply pw_below_drewN | apply below_drew1 | refine below_set ?_ GE124.out | refine below_set ?_ GE127.out) | exact HB.out)⟩⟩
                        · rw [if_neg c23] at H
                          have c23b0 : (((rd_T68 l0 x12_1).f0).toList == ((rd_T68 l0 (ji12)).f0).toList) = false := beq_eq_false_iff_ne.mpr c23
                          have c23b1 : (((rd_T68 l0 x12_1).f0).toList != ((rd_T68 l0 (ji12)).f0).toList) = true := bne_iff_ne.mpr c23
                          have H' := Aside0.mk H
                          clear H
                          have p123 : 0 ≤ (x12_1 : Int) := of_decide_eq_true (by first | (with_reducible assumption) | assumption)
                          have q123 : x12_1 < (l0.length : Int) := of_decide_eq_true (by first | (with_reducible assumption) | assumption)
                          obtain ⟨ad123, e123, hx123_0, hx123_1, hx123_2, hx123_3, hx123_4, hx123_5⟩ := at_T68 HR0.out x12_1 p123 q123
                          cases e123
                          replace hx123_0 := (HB.out.cell (World.block_lt_of_cell? w _ hx123_0)).trans hx123_0
                          replace hx123_1 := (HB.out.cell (World.block_lt_of_cell? w _ hx123_1)).trans hx123_1
                          replace hx123_2 := (HB.out.cell (World.block_lt_of_cell? w _ hx123_2)).trans hx123_2
                          replace hx123_3 := (HB.out.cell (World.block_lt_of_cell? w _ hx123_3)).trans hx123_3
                          replace hx123_4 := (HB.out.cell (World.block_lt_of_cell? w _ hx123_4)).trans hx123_4
                          replace hx123_5 := (HB.out.cell (World.block_lt_of_cell? w _ hx123_5)).trans hx123_5
                          replace p123 := eq_true p123
                          replace q123 := eq_true q123
                          go_wp2_with (first | ((with_reducible refine gate_dst (N := 4) rfl ?_); refine box_event ?hg (N := 4) ?hd (cs := #[.string (⟨#[]⟩ : ByteArray), .string (⟨#[]⟩ : ByteArray), .int .i64 0, .int .i64 0, .int .i64 0, .int .i64 0]) (t := 68) ?hr ?_; (case hd => rfl); (case hg => rfl); (case hr => first | (go_simp; done) | (go_simp; rfl)); intro gb124 hg w39 hbox hb; have n0_ := Aside0.mk (below_step (by repeat (first | (with_reducible first | exact HB.out | apply below_alloc | apply pw_below_drewN | apply below_drew1) | exact HB.out)) hb); have n1_ := Aside0.mk (hbox); have n2_ := Aside0.mk ((by rw [hg]; exact (below_size (by repeat (first | (with_reducible first | exact HB.out | apply below_alloc | apply pw_below_drewN | apply below_drew1) | exact HB.out))) : w.heap.size ≤ gb124)); have n3_ := Aside0.mk ((by rw [hg]; exact (below_size (by repeat (first | (with_reducible first | exact HB.out | apply below_alloc | apply pw_below_drewN | apply below_drew1) | exact HB.out))) : w.heap.size ≤ gb124)); clear HB; have HB := n0_; have BK124 := n1_; have GW124 := n2_; have GE124 := n3_; clear n0_ n1_ n2_ n3_; clear hb hbox hg; have hcz40_0 : w39.cell? ⟨gb124, 0, none⟩ = some (.string (⟨#[]⟩ : ByteArray)) := (blk_cell BK124.out 0).trans rfl; have hcz40_1 : w39.cell? ⟨gb124, 1, none⟩ = some (.string (⟨#[]⟩ : ByteArray)) := (blk_cell BK124.out 1).trans rfl; have hcz40_2 : w39.cell? ⟨gb124, 2, none⟩ = some (.int .i64 0) := (blk_cell BK124.out 2).trans rfl; have hcz40_3 : w39.cell? ⟨gb124, 3, none⟩ = some (.int .i64 0) := (blk_cell BK124.out 3).trans rfl; have hcz40_4 : w39.cell? ⟨gb124, 4, none⟩ = some (.int .i64 0) := (blk_cell BK124.out 4).trans rfl; have hcz40_5 : w39.cell? ⟨gb124, 5, none⟩ = some (.int .i64 0) := (blk_cell BK124.out 5).trans rfl; have hfz40_0 := blk_frozen BK124.out 0; have hfz40_1 := blk_frozen BK124.out 1; have hfz40_2 := blk_frozen BK124.out 2; have hfz40_3 := blk_frozen BK124.out 3; have hfz40_4 := blk_frozen BK124.out 4; have hfz40_5 := blk_frozen BK124.out 5) | ((with_reducible refine gate_callee (f := 110) rfl ?_); refine goesL_ (some 18) rfl rfl Try.func110 (by kernel_rfl) rfl #[.agg #[.string ((rd_T68 l0 x12_1).f0), .string ((rd_T68 l0 x12_1).f1), .int .i64 ((rd_T68 l0 x12_1).f2), .int .i64 ((rd_T68 l0 x12_1).f3), .int .i64 ((rd_T68 l0 x12_1).f4), .int .i64 ((rd_T68 l0 x12_1).f5)]] rfl (by (try simp only [List.map_toArray, List.map_cons, List.map_nil]); first | done | rfl | (simp only [List.length_drop, List.length_take]; rfl)) ?_; (with_reducible refine (calibrate_check.calls k1 ((rd_T68 l0 x12_1).f0) ((rd_T68 l0 x12_1).f1) ((rd_T68 l0 x12_1).f2) ((rd_T68 l0 x12_1).f3) ((rd_T68 l0 x12_1).f4) ((rd_T68 l0 x12_1).f5) t125 _ A6.out).mono ?_); rintro e w41 ⟨rfl, hb⟩; refine ⟨_, rfl, ?_⟩; have n0_ := Aside0.mk (blk_below (g := gb124) (o := .cells #[.string ((rd_T68 l0 x12_1).f0), .string ((rd_T68 l0 x12_1).f1), .int .i64 ((rd_T68 l0 x12_1).f2), .int .i64 ((rd_T68 l0 x12_1).f3), .int .i64 ((rd_T68 l0 x12_1).f4), .int .i64 ((rd_T68 l0 x12_1).f5)] 68 (0, 0)) (by (with_reducible repeat (first | refine blk_drewN ?_ _ | refine blk_drew ?_ | refine blk_alloc ?_ _)); refine blk_put (cs := #[.string ((rd_T68 l0 x12_1).f0), .string ((rd_T68 l0 x12_1).f1), .int .i64 ((rd_T68 l0 x12_1).f2), .int .i64 ((rd_T68 l0 x12_1).f3), .int .i64 ((rd_T68 l0 x12_1).f4), .int .i64 0]) ?_ 5 _ rfl; (with_reducible repeat (first | refine blk_drewN ?_ _ | refine blk_drew ?_ | refine blk_alloc ?_ _)); refine blk_put (cs := #[.string ((rd_T68 l0 x12_1).f0), .string ((rd_T68 l0 x12_1).f1), .int .i64 ((rd_T68 l0 x12_1).f2), .int .i64 ((rd_T68 l0 x12_1).f3), .int .i64 0, .int .i64 0]) ?_ 4 _ rfl; (with_reducible repeat (first | refine blk_drewN ?_ _ | refine blk_drew ?_ | refine blk_alloc ?_ _)); refine blk_put (cs := #[.string ((rd_T68 l0 x12_1).f0), .string ((rd_T68 l0 x12_1).f1), .int .i64 ((rd_T68 l0 x12_1).f2), .int .i64 0, .int .i64 0, .int .i64 0]) ?_ 3 _ rfl; (with_reducible repeat (first | refine blk_drewN ?_ _ | refine blk_drew ?_ | refine blk_alloc ?_ _)); refine blk_put (cs := #[.string ((rd_T68 l0 x12_1).f0), .string ((rd_T68 l0 x12_1).f1), .int .i64 0, .int .i64 0, .int .i64 0, .int .i64 0]) ?_ 2 _ rfl; (with_reducible repeat (first | refine blk_drewN ?_ _ | refine blk_drew ?_ | refine blk_alloc ?_ _)); refine blk_put (cs := #[.string ((rd_T68 l0 x12_1).f0), .string (⟨#[]⟩ : ByteArray), .int .i64 0, .int .i64 0, .int .i64 0, .int .i64 0]) ?_ 1 _ rfl; (with_reducible repeat (first | refine blk_drewN ?_ _ | refine blk_drew ?_ | refine blk_alloc ?_ _)); refine blk_put (cs := #[.string (⟨#[]⟩ : ByteArray), .string (⟨#[]⟩ : ByteArray), .int .i64 0, .int .i64 0, .int .i64 0, .int .i64 0]) ?_ 0 _ rfl; (with_reducible repeat (first | refine blk_drewN ?_ _ | refine blk_drew ?_ | refine blk_alloc ?_ _)); exact BK124.out) hb); have n1_ := Aside0.mk (below_step (by repeat (first | (with_reducible first | exact HB.out | apply below_alloc | apply pw_below_drewN | apply below_drew1 | refine below_set ?_ GE124.out) | exact HB.out)) hb); clear BK124; clear HB; have BK124 := n0_; have HB := n1_; clear n0_ n1_; (try clear hb); (try clear hb2); (try clear hk); (try clear hi); have p126 : 0 ≤ ((ji12) : Int) := of_decide_eq_true (by first | (with_reducible assumption) | assumption); have q126 : (ji12) < (l0.length : Int) := of_decide_eq_true (by first | (with_reducible assumption) | assumption); obtain ⟨ad126, e126, hx126_0, hx126_1, hx126_2, hx126_3, hx126_4, hx126_5⟩ := at_T68 HR0.out (ji12) p126 q126; obtain rfl : ad123 = ad126 := (by injection e126); replace hx126_0 := (HB.out.cell (World.block_lt_of_cell? w _ hx126_0)).trans hx126_0; replace hx126_1 := (HB.out.cell (World.block_lt_of_cell? w _ hx126_1)).trans hx126_1; replace hx126_2 := (HB.out.cell (World.block_lt_of_cell? w _ hx126_2)).trans hx126_2; replace hx126_3 := (HB.out.cell (World.block_lt_of_cell? w _ hx126_3)).trans hx126_3; replace hx126_4 := (HB.out.cell (World.block_lt_of_cell? w _ hx126_4)).trans hx126_4; replace hx126_5 := (HB.out.cell (World.block_lt_of_cell? w _ hx126_5)).trans hx126_5; replace p126 := eq_true p126; replace q126 := eq_true q126) | ((with_reducible refine gate_dst (N := 6) rfl ?_); refine box_event ?hg (N := 6) ?hd (cs := #[.string (⟨#[]⟩ : ByteArray), .string (⟨#[]⟩ : ByteArray), .int .i64 0, .int .i64 0, .int .i64 0, .int .i64 0]) (t := 68) ?hr ?_; (case hd => rfl); (case hg => rfl); (case hr => first | (go_simp; done) | (go_simp; rfl)); intro gb127 hg w42 hbox hb; have n0_ := Aside0.mk (blk_below (g := gb124) (o := .cells #[.string ((rd_T68 l0 x12_1).f0), .string ((rd_T68 l0 x12_1).f1), .int .i64 ((rd_T68 l0 x12_1).f2), .int .i64 ((rd_T68 l0 x12_1).f3), .int .i64 ((rd_T68 l0 x12_1).f4), .int .i64 ((rd_T68 l0 x12_1).f5)] 68 (0, 0)) (by (with_reducible repeat (first | refine blk_drewN ?_ _ | refine blk_drew ?_ | refine blk_alloc ?_ _)); exact BK124.out) hb); have n1_ := Aside0.mk (below_step (by repeat (first | (with_reducible first | exact HB.out | apply below_alloc | apply pw_below_drewN | apply below_drew1 | refine below_set ?_ GE124.out) | exact HB.out)) hb); have n2_ := Aside0.mk (hbox); have n3_ := Aside0.mk ((by rw [hg]; exact (below_size (by repeat (first | (with_reducible first | exact HB.out | apply below_alloc | apply pw_below_drewN | apply below_drew1 | refine below_set ?_ GE124.out) | exact HB.out))) : w.heap.size ≤ gb127)); have n4_ := Aside0.mk ((by rw [hg]; exact (below_size (by repeat (first | (with_reducible first | exact HB.out | apply below_alloc | apply pw_below_drewN | apply below_drew1 | refine below_set ?_ GE124.out) | exact HB.out))) : w.heap.size ≤ gb127)); have n5_ := Aside0.mk ((by rw [hg]; exact Nat.ne_of_lt (blk_lt (g := gb124) (o := .cells #[.string ((rd_T68 l0 x12_1).f0), .string ((rd_T68 l0 x12_1).f1), .int .i64 ((rd_T68 l0 x12_1).f2), .int .i64 ((rd_T68 l0 x12_1).f3), .int .i64 ((rd_T68 l0 x12_1).f4), .int .i64 ((rd_T68 l0 x12_1).f5)] 68 (0, 0)) (by (with_reducible repeat (first | refine blk_drewN ?_ _ | refine blk_drew ?_ | refine blk_alloc ?_ _)); exact BK124.out)) : gb124 ≠ gb127)); have n6_ := Aside0.mk ((by rw [hg]; exact Nat.ne_of_gt (blk_lt (g := gb124) (o := .cells #[.string ((rd_T68 l0 x12_1).f0), .string ((rd_T68 l0 x12_1).f1), .int .i64 ((rd_T68 l0 x12_1).f2), .int .i64 ((rd_T68 l0 x12_1).f3), .int .i64 ((rd_T68 l0 x12_1).f4), .int .i64 ((rd_T68 l0 x12_1).f5)] 68 (0, 0)) (by (with_reducible repeat (first | refine blk_drewN ?_ _ | refine blk_drew ?_ | refine blk_alloc ?_ _)); exact BK124.out)) : gb127 ≠ gb124)); clear BK124; clear HB; have BK124 := n0_; have HB := n1_; have BK127 := n2_; have GW127 := n3_; have GE127 := n4_; have NB124_127 := n5_; have NB127_124 := n6_; clear n0_ n1_ n2_ n3_ n4_ n5_ n6_; clear hb hbox hg; have hnb43 := NB127_124.out; have hnc43 := NB124_127.out; have hcz44_0 : w42.cell? ⟨gb127, 0, none⟩ = some (.string (⟨#[]⟩ : ByteArray)) := (blk_cell BK127.out 0).trans rfl; have hcz44_1 : w42.cell? ⟨gb127, 1, none⟩ = some (.string (⟨#[]⟩ : ByteArray)) := (blk_cell BK127.out 1).trans rfl; have hcz44_2 : w42.cell? ⟨gb127, 2, none⟩ = some (.int .i64 0) := (blk_cell BK127.out 2).trans rfl; have hcz44_3 : w42.cell? ⟨gb127, 3, none⟩ = some (.int .i64 0) := (blk_cell BK127.out 3).trans rfl; have hcz44_4 : w42.cell? ⟨gb127, 4, none⟩ = some (.int .i64 0) := (blk_cell BK127.out 4).trans rfl; have hcz44_5 : w42.cell? ⟨gb127, 5, none⟩ = some (.int .i64 0) := (blk_cell BK127.out 5).trans rfl; have hfz44_0 := blk_frozen BK127.out 0; have hfz44_1 := blk_frozen BK127.out 1; have hfz44_2 := blk_frozen BK127.out 2; have hfz44_3 := blk_frozen BK127.out 3; have hfz44_4 := blk_frozen BK127.out 4; have hfz44_5 := blk_frozen BK127.out 5; have hcz45_0 : w42.cell? ⟨gb124, 0, none⟩ = some (.string ((rd_T68 l0 x12_1).f0)) := (blk_cell BK124.out 0).trans rfl; have hcz45_1 : w42.cell? ⟨gb124, 1, none⟩ = some (.string ((rd_T68 l0 x12_1).f1)) := (blk_cell BK124.out 1).trans rfl; have hcz45_2 : w42.cell? ⟨gb124, 2, none⟩ = some (.int .i64 ((rd_T68 l0 x12_1).f2)) := (blk_cell BK124.out 2).trans rfl; have hcz45_3 : w42.cell? ⟨gb124, 3, none⟩ = some (.int .i64 ((rd_T68 l0 x12_1).f3)) := (blk_cell BK124.out 3).trans rfl; have hcz45_4 : w42.cell? ⟨gb124, 4, none⟩ = some (.int .i64 ((rd_T68 l0 x12_1).f4)) := (blk_cell BK124.out 4).trans rfl; have hcz45_5 : w42.cell? ⟨gb124, 5, none⟩ = some (.int .i64 ((rd_T68 l0 x12_1).f5)) := (blk_cell BK124.out 5).trans rfl; have hfz45_0 := blk_frozen BK124.out 0; have hfz45_1 := blk_frozen BK124.out 1; have hfz45_2 := blk_frozen BK124.out 2; have hfz45_3 := blk_frozen BK124.out 3; have hfz45_4 := blk_frozen BK124.out 4; have hfz45_5 := blk_frozen BK124.out 5))
                          go_roundg k1
                          case measure => have := HK1.out; omega
                          case rel => exact ⟨(wrap64 (x12_1 + 1)), (by first | rfl | (simp; done) | (simp [*]; done)), H', ⟨by have := HK1.out; omega⟩, ⟨by repeat (first | (with_reducible first | exact HB.out | apply below_alloc | apply pw_below_drewN | apply below_drew1 | refine below_set ?_ GE124.out | refine below_set ?_ GE127.out) | exact HB.out)⟩⟩
                    · rw [if_neg c14] at H
                      exact absurd H (by simp)
                  · rw [if_neg c13] at H
                    exact absurd H (by simp)
              · rw [if_neg c7] at H
                have c7b0 : (t125 == 0) = false := beq_eq_false_iff_ne.mpr c7
                have c7b1 : (t125 != 0) = true := bne_iff_ne.mpr c7
                obtain rfl := Option.some.inj H
                have p123 : 0 ≤ (x12_1 : Int) := of_decide_eq_true (by first | (with_reducible assumption) | assumption)
                have q123 : x12_1 < (l0.length : Int) := of_decide_eq_true (by first | (with_reducible assumption) | assumption)
                obtain ⟨ad123, e123, hx123_0, hx123_1, hx123_2, hx123_3, hx123_4, hx123_5⟩ := at_T68 HR0.out x12_1 p123 q123
                cases e123
                replace hx123_0 := (HB.out.cell (World.block_lt_of_cell? w _ hx123_0)).trans hx123_0
                replace hx123_1 := (HB.out.cell (World.block_lt_of_cell? w _ hx123_1)).trans hx123_1
                replace hx123_2 := (HB.out.cell (World.block_lt_of_cell? w _ hx123_2)).trans hx123_2
                replace hx123_3 := (HB.out.cell (World.block_lt_of_cell? w _ hx123_3)).trans hx123_3
                replace hx123_4 := (HB.out.cell (World.block_lt_of_cell? w _ hx123_4)).trans hx123_4
                replace hx123_5 := (HB.out.cell (World.block_lt_of_cell? w _ hx123_5)).trans hx123_5
                replace p123 := eq_true p123
                replace q123 := eq_true q123
                go_wp2_with (first | ((with_reducible refine gate_dst (N := 4) rfl ?_); refine box_event ?hg (N := 4) ?hd (cs := #[.string (⟨#[]⟩ : ByteArray), .string (⟨#[]⟩ : ByteArray), .int .i64 0, .int .i64 0, .int .i64 0, .int .i64 0]) (t := 68) ?hr ?_; (case hd => rfl); (case hg => rfl); (case hr => first | (go_simp; done) | (go_simp; rfl)); intro gb124 hg w46 hbox hb; have n0_ := Aside0.mk (below_step (by repeat (first | (with_reducible first | exact HB.out | apply below_alloc | apply pw_below_drewN | apply below_drew1) | exact HB.out)) hb); have n1_ := Aside0.mk (hbox); have n2_ := Aside0.mk ((by rw [hg]; exact (below_size (by repeat (first | (with_reducible first | exact HB.out | apply below_alloc | apply pw_below_drewN | apply below_drew1) | exact HB.out))) : w.heap.size ≤ gb124)); have n3_ := Aside0.mk ((by rw [hg]; exact (below_size (by repeat (first | (with_reducible first | exact HB.out | apply below_alloc | apply pw_below_drewN | apply below_drew1) | exact HB.out))) : w.heap.size ≤ gb124)); clear HB; have HB := n0_; have BK124 := n1_; have GW124 := n2_; have GE124 := n3_; clear n0_ n1_ n2_ n3_; clear hb hbox hg; have hcz47_0 : w46.cell? ⟨gb124, 0, none⟩ = some (.string (⟨#[]⟩ : ByteArray)) := (blk_cell BK124.out 0).trans rfl; have hcz47_1 : w46.cell? ⟨gb124, 1, none⟩ = some (.string (⟨#[]⟩ : ByteArray)) := (blk_cell BK124.out 1).trans rfl; have hcz47_2 : w46.cell? ⟨gb124, 2, none⟩ = some (.int .i64 0) := (blk_cell BK124.out 2).trans rfl; have hcz47_3 : w46.cell? ⟨gb124, 3, none⟩ = some (.int .i64 0) := (blk_cell BK124.out 3).trans rfl; have hcz47_4 : w46.cell? ⟨gb124, 4, none⟩ = some (.int .i64 0) := (blk_cell BK124.out 4).trans rfl; have hcz47_5 : w46.cell? ⟨gb124, 5, none⟩ = some (.int .i64 0) := (blk_cell BK124.out 5).trans rfl; have hfz47_0 := blk_frozen BK124.out 0; have hfz47_1 := blk_frozen BK124.out 1; have hfz47_2 := blk_frozen BK124.out 2; have hfz47_3 := blk_frozen BK124.out 3; have hfz47_4 := blk_frozen BK124.out 4; have hfz47_5 := blk_frozen BK124.out 5) | ((with_reducible refine gate_callee (f := 110) rfl ?_); refine goesL_ (some 18) rfl rfl Try.func110 (by kernel_rfl) rfl #[.agg #[.string ((rd_T68 l0 x12_1).f0), .string ((rd_T68 l0 x12_1).f1), .int .i64 ((rd_T68 l0 x12_1).f2), .int .i64 ((rd_T68 l0 x12_1).f3), .int .i64 ((rd_T68 l0 x12_1).f4), .int .i64 ((rd_T68 l0 x12_1).f5)]] rfl (by (try simp only [List.map_toArray, List.map_cons, List.map_nil]); first | done | rfl | (simp only [List.length_drop, List.length_take]; rfl)) ?_; (with_reducible refine (calibrate_check.calls k1 ((rd_T68 l0 x12_1).f0) ((rd_T68 l0 x12_1).f1) ((rd_T68 l0 x12_1).f2) ((rd_T68 l0 x12_1).f3) ((rd_T68 l0 x12_1).f4) ((rd_T68 l0 x12_1).f5) t125 _ A6.out).mono ?_); rintro e w48 ⟨rfl, hb⟩; refine ⟨_, rfl, ?_⟩; have n0_ := Aside0.mk (blk_below (g := gb124) (o := .cells #[.string ((rd_T68 l0 x12_1).f0), .string ((rd_T68 l0 x12_1).f1), .int .i64 ((rd_T68 l0 x12_1).f2), .int .i64 ((rd_T68 l0 x12_1).f3), .int .i64 ((rd_T68 l0 x12_1).f4), .int .i64 ((rd_T68 l0 x12_1).f5)] 68 (0, 0)) (by (with_reducible repeat (first | refine blk_drewN ?_ _ | refine blk_drew ?_ | refine blk_alloc ?_ _)); refine blk_put (cs := #[.string ((rd_T68 l0 x12_1).f0), .string ((rd_T68 l0 x12_1).f1), .int .i64 ((rd_T68 l0 x12_1).f2), .int .i64 ((rd_T68 l0 x12_1).f3), .int .i64 ((rd_T68 l0 x12_1).f4), .int .i64 0]) ?_ 5 _ rfl; (with_reducible repeat (first | refine blk_drewN ?_ _ | refine blk_drew ?_ | refine blk_alloc ?_ _)); refine blk_put (cs := #[.string ((rd_T68 l0 x12_1).f0), .string ((rd_T68 l0 x12_1).f1), .int .i64 ((rd_T68 l0 x12_1).f2), .int .i64 ((rd_T68 l0 x12_1).f3), .int .i64 0, .int .i64 0]) ?_ 4 _ rfl; (with_reducible repeat (first | refine blk_drewN ?_ _ | refine blk_drew ?_ | refine blk_alloc ?_ _)); refine blk_put (cs := #[.string ((rd_T68 l0 x12_1).f0), .string ((rd_T68 l0 x12_1).f1), .int .i64 ((rd_T68 l0 x12_1).f2), .int .i64 0, .int .i64 0, .int .i64 0]) ?_ 3 _ rfl; (with_reducible repeat (first | refine blk_drewN ?_ _ | refine blk_drew ?_ | refine blk_alloc ?_ _)); refine blk_put (cs := #[.string ((rd_T68 l0 x12_1).f0), .string ((rd_T68 l0 x12_1).f1), .int .i64 0, .int .i64 0, .int .i64 0, .int .i64 0]) ?_ 2 _ rfl; (with_reducible repeat (first | refine blk_drewN ?_ _ | refine blk_drew ?_ | refine blk_alloc ?_ _)); refine blk_put (cs := #[.string ((rd_T68 l0 x12_1).f0), .string (⟨#[]⟩ : ByteArray), .int .i64 0, .int .i64 0, .int .i64 0, .int .i64 0]) ?_ 1 _ rfl; (with_reducible repeat (first | refine blk_drewN ?_ _ | refine blk_drew ?_ | refine blk_alloc ?_ _)); refine blk_put (cs := #[.string (⟨#[]⟩ : ByteArray), .string (⟨#[]⟩ : ByteArray), .int .i64 0, .int .i64 0, .int .i64 0, .int .i64 0]) ?_ 0 _ rfl; (with_reducible repeat (first | refine blk_drewN ?_ _ | refine blk_drew ?_ | refine blk_alloc ?_ _)); exact BK124.out) hb); have n1_ := Aside0.mk (below_step (by repeat (first | (with_reducible first | exact HB.out | apply below_alloc | apply pw_below_drewN | apply below_drew1 | refine below_set ?_ GE124.out) | exact HB.out)) hb); clear BK124; clear HB; have BK124 := n0_; have HB := n1_; clear n0_ n1_; (try clear hb); (try clear hb2); (try clear hk); (try clear hi)))
                go_ret
                exact ⟨by first | rfl | (simp [errW_none, errW_some] <;> rfl) | (simp [*, errW_none, errW_some] <;> rfl), by repeat (first | (with_reducible first | exact HB.out | apply below_alloc | apply pw_below_drewN | apply below_drew1 | refine below_set ?_ GE124.out) | exact HB.out)⟩
            · rw [if_neg c5] at H
              exact absurd H (by simp)
          · rw [if_neg c4] at H
            exact absurd H (by simp)
        · rw [if_neg c3] at H
          have c3b0 : decide (x12_1 < (l0.length : Int)) = false := decide_eq_false c3
          clear c3
          obtain rfl := Option.some.inj H
          go_wp2
          go_ret
          exact ⟨by first | rfl | (simp [errW_none, errW_some] <;> rfl) | (simp [*, errW_none, errW_some] <;> rfl), by repeat (first | (with_reducible first | exact HB.out | apply below_alloc | apply pw_below_drewN | apply below_drew1) | exact HB.out)⟩
end Go.Proofs.Ytkgdlbepjmgaiaa.Cal
set_option linter.unusedVariables false
set_option linter.unusedSimpArgs false
namespace Go.Proofs.Ytkgdlbepjmgaiaa.Cal
open Go.RowKit Go.Proofs.YtkgdlbepjmgaiaaW.PrintWords Go.Proofs.YtkgdlbepjmgaiaaW.PrintLast Go.Proofs.YtkgdlbepjmgaiaaW.PrintMore
theorem Ev.ite2 {α : Type} {c : Prop} [Decidable c] {f g : Nat → Option α} {a b : α} (h : Ev f a) (k : Ev g b) : Ev (fun n => if c then f n else g n) (if c then a else b) := by
  by_cases hc : c
  · simp only [if_pos hc]; exact h
  · simp only [if_neg hc]; exact k
theorem Ev.ite {α : Type} {c : Prop} [Decidable c] {f g : Nat → Option α} {a : α} (h : c → Ev f a) (k : ¬ c → Ev g a) : Ev (fun n => if c then f n else g n) a := by
  by_cases hc : c
  · simp only [if_pos hc]; exact h hc
  · simp only [if_neg hc]; exact k hc
theorem Ev.t {α : Type} {c : Prop} [Decidable c] {f g : Nat → Option α} {a : α} (hc : c) (h : Ev f a) : Ev (fun n => if c then f n else g n) a := by
  simp only [if_pos hc]; exact h
theorem Ev.e {α : Type} {c : Prop} [Decidable c] {f g : Nat → Option α} {a : α} (hc : ¬ c) (h : Ev g a) : Ev (fun n => if c then f n else g n) a := by
  simp only [if_neg hc]; exact h
theorem Ev.some_eq {α : Type} {a b : α} (h : a = b) : Ev (fun _ => some a) b := h ▸ Ev.now _
theorem Ev.uniq {α : Type} {g : Nat → Option α} {a b : α} (h : Ev g a) (k : Ev g b) : a = b := by
  obtain ⟨K, h⟩ := h
  obtain ⟨K', k⟩ := k
  have h1 := h (max K K') (by omega)
  have h2 := k (max K K') (by omega)
  rw [h1] at h2
  exact Option.some.inj h2
theorem w64 {n : Int} (h : -9223372036854775808 ≤ n ∧ n ≤ 9223372036854775807) : wrap64 n = n := by unfold wrap64; omega
theorem w64s {n : Nat} (h : n < 4611686018427387904) : wrap64 ((n : Int) + 1) = ((n + 1 : Nat) : Int) := by unfold wrap64; omega
theorem w64p {n : Nat} (h : n < 4611686018427387904) : wrap64 (((n + 1 : Nat) : Int) - 1) = (n : Int) := by unfold wrap64; omega
def cv (x : S68) : S121 := ⟨x.f0, x.f1, x.f2, x.f3, x.f4, x.f5⟩
theorem rd_cv (l : List S68) (i : Int) : rd_T121 (l.map cv) i = cv (rd_T68 l i) := by
  simp only [rd_T121, rd_T68, List.getD_eq_getElem?_getD, List.getElem?_map]
  cases l[i.toNat]? <;> rfl
theorem rd_at {l : List S68} {i : Nat} (h : i < l.length) : rd_T68 l (i : Int) = l[i] := by
  simp [rd_T68, List.getD_eq_getElem?_getD, h]
theorem own_ev (l : List S68) (hl : l.length < 2199023255552) : Ev (fun k => metrolablaw52_own.f k l) (l.map cv) := by
  have key : ∀ n i : Nat, i + n = l.length → Ev (fun k => metrolablaw52_own.l0 k ((l.take i).map cv) l (l.length : Int) (i : Int)) (l.map cv) := by
    intro n
    induction n with
    | zero =>
      intro i hi
      refine Ev.step (fun k => by rw [metrolablaw52_own.l0]) ?_
      refine Ev.e (by omega) (Ev.some_eq ?_)
      rw [List.take_of_length_le (by omega)]
    | succ n ih =>
      intro i hi
      have hlt : i < l.length := by omega
      refine Ev.step (fun k => by rw [metrolablaw52_own.l0]) ?_
      refine Ev.t (by omega) (Ev.t (by omega) (Ev.t (by omega) (Ev.t (by simp; omega) ?_)))
      rw [w64s (by omega)]
      have e : (l.take i).map cv ++ [cv (rd_T68 l i)] = (l.take (i + 1)).map cv := by
        rw [rd_at hlt, List.take_succ_eq_append_getElem hlt, List.map_append]
        rfl
      have := ih (i + 1) (by omega)
      rw [← e] at this
      exact this
  have := key l.length 0 (by omega)
  simpa [metrolablaw52_own.f] using this
theorem few_some (l : List S68) (nm : ByteArray) (hl : l.length < 2199023255552) : ∃ b, Ev (fun k => metrolablaw52_few.f k l nm) b := by
  have key : ∀ (m : List S121) (n i : Nat), m.length < 2199023255552 → i + n = m.length → ∃ b, Ev (fun k => metrolabref52_Few.l0 k m (i : Int)) b := by
    intro m n
    induction n with
    | zero =>
      intro i hm hi
      refine ⟨true, ?_⟩
      refine Ev.step (fun k => by rw [metrolabref52_Few.l0]) ?_
      exact Ev.e (by omega) (Ev.now _)
    | succ n ih =>
      intro i hm hi
      obtain ⟨b, hb⟩ := ih (i + 1) hm (by omega)
      rw [← w64s (by omega)] at hb
      refine ⟨if ((rd_T121 m (i : Int)).f0.size : Int) > 60 then false else if ((rd_T121 m (i : Int)).f1.size : Int) > 60 then false else b, ?_⟩
      refine Ev.step (fun k => by rw [metrolabref52_Few.l0]) ?_
      exact Ev.t (by omega) (Ev.t (by omega) (Ev.ite2 (Ev.now _) (Ev.ite2 (Ev.now _) hb)))
  have few : ∀ m : List S121, m.length < 2199023255552 → ∃ b, Ev (fun k => metrolabref52_Few.f k m) b := by
    intro m hm
    obtain ⟨b, hb⟩ := key m m.length 0 hm (by omega)
    have j : ∀ c, ∃ b, Ev (fun k => metrolabref52_Few.j0 k m c) b := fun c => by
      refine ⟨if c = true then false else b, ?_⟩
      refine Ev.step (fun k => by rw [metrolabref52_Few.j0]) ?_
      exact Ev.ite2 (Ev.now _) hb
    obtain ⟨b1, h1⟩ := j true
    obtain ⟨b2, h2⟩ := j (decide ((m.length : Int) > 512))
    exact ⟨_, Ev.ite2 (Ev.ite2 h1 h2) h2⟩
  obtain ⟨b, hb⟩ := few (l.map cv) (by simpa using hl)
  exact ⟨_, Ev.bind (own_ev l hl) (Ev.bind hb (Ev.ite2 (Ev.now _) (Ev.now _)))⟩
def inV (n lo hi : Int) : Bool := decide (lo ≤ n) && decide (n ≤ hi)
theorem ranged_eq (n lo hi : Int) : calibrate_ranged.f n lo hi = some (inV n lo hi) := by
  unfold calibrate_ranged.f inV
  by_cases h : n ≥ lo
  · rw [if_pos h, decide_eq_true (show lo ≤ n from h)]; rfl
  · rw [if_neg h, decide_eq_false (show ¬ lo ≤ n from h)]; rfl
def dayV (n : Int) : Int := if inV n 0 1048576 = true then 0 else 2
theorem day_eq (n : Int) : calibrate_day.f n = some (dayV n) := by
  unfold calibrate_day.f dayV
  rw [ranged_eq, Option.bind_some]
  split <;> rfl
def chkR2 (x : S68) : Int :=
  if tl x.f1 = tl x.f0 then 7 else if (inV x.f2 (-100000) 100000 && inV x.f3 0 100000 && inV x.f4 0 1048576 && inV x.f5 0 1048576) = true then (if x.f5 < x.f4 then 9 else 0) else 2
def chkR (x : S68) : Int := if Hand.nmV x.f0 = 0 then (if tl x.f1 = [] then chkR2 x else if Hand.nmV x.f1 = 0 then chkR2 x else Hand.nmV x.f1) else Hand.nmV x.f0
theorem check_ev (x : S68) : Ev (fun k => calibrate_check.f k x.f0 x.f1 x.f2 x.f3 x.f4 x.f5) (chkR x) := by
  have j1 : ∀ b, Ev (fun k => calibrate_check.j1 k b x.f0 x.f1 x.f2 x.f3 x.f4 x.f5) (if b = true then 2 else if x.f5 < x.f4 then 9 else 0) :=
    fun b => by
      refine Ev.step (fun k => by rw [calibrate_check.j1]) ?_
      exact Ev.ite2 (Ev.now _) (Ev.ite2 (Ev.now _) (Ev.now _))
  have j0 : Ev (fun k => calibrate_check.j0 k x.f0 x.f1 x.f2 x.f3 x.f4 x.f5) (chkR2 x) := by
    refine Ev.step (fun k => by rw [calibrate_check.j0]) ?_
    simp only [ByteArray.toList_eq, ranged_eq, day_eq, Option.bind_some]
    unfold chkR2
    refine Ev.ite2 (Ev.now _) ?_
    cases h2 : inV x.f2 (-100000) 100000
    · exact Ev.e (by decide) (j1 true)
    · refine Ev.t rfl ?_
      cases h3 : inV x.f3 0 100000
      · exact Ev.e (by decide) (j1 true)
      · refine Ev.t rfl ?_
        cases h4 : inV x.f4 0 1048576
        · exact Ev.e (by simp [dayV, h4]) (j1 true)
        · refine Ev.t (by simp [dayV, h4]) ?_
          cases h5 : inV x.f5 0 1048576
          · rw [show (dayV x.f5 != 0) = true by simp [dayV, h5]]; exact j1 true
          · rw [show (dayV x.f5 != 0) = false by simp [dayV, h5]]; exact j1 false
  unfold calibrate_check.f chkR dimension_Name.f
  simp only [Option.bind_some, ByteArray.toList_eq]
  exact Ev.ite2 (Ev.ite2 j0 (Ev.ite2 j0 (Ev.now _))) (Ev.now _)
def badV (y x : S68) : Bool := Op.bytesLess (tl x.f0) (tl y.f0) || (decide (tl x.f0 = tl y.f0) && decide (x.f4 ≤ y.f5))
def chkG (l : List S68) : Nat → Nat → Int
  | _, 0 => 0
  | i, n + 1 => if chkR (rd_T68 l i) = 0 then (if i ≠ 0 ∧ badV (rd_T68 l ((i : Int) - 1)) (rd_T68 l i) = true then 9 else chkG l (i + 1) n) else chkR (rd_T68 l i)
def chkV (l : List S68) : Int := if (l.length : Int) > 256 then 5 else chkG l 0 l.length
theorem Check_ev (l : List S68) (hl : l.length < 2199023255552) : Ev (fun k => calibrate_Check.f k l) (chkV l) := by
  have key : ∀ n i : Nat, i + n = l.length → Ev (fun k => calibrate_Check.l0 k l l (l.length : Int) (i : Int)) (chkG l i n) := by
    intro n
    induction n with
    | zero =>
      intro i hi
      refine Ev.step (fun k => by rw [calibrate_Check.l0]) ?_
      exact Ev.e (by omega) (Ev.now _)
    | succ n ih =>
      intro i hi
      have hr := ih (i + 1) (by omega)
      refine Ev.step (fun k => by rw [calibrate_Check.l0]) ?_
      rw [w64s (by omega)]
      simp only [ByteArray.toList_eq]
      refine Ev.t (by omega) (Ev.t (by omega) (Ev.t (by omega) (Ev.bind (check_ev _) ?_)))
      rw [chkG]
      refine Ev.ite2 ?_ (Ev.now _)
      cases i with
      | zero =>
        rw [if_neg (fun h => h.1 rfl)]
        exact Ev.t rfl hr
      | succ i =>
        refine Ev.e (by omega) ?_
        rw [w64p (by omega), show ((i + 1 : Nat) : Int) - 1 = (i : Int) by omega]
        refine Ev.t (by omega) (Ev.t (by omega) ?_)
        cases h1 : Op.bytesLess (tl (rd_T68 l ((i + 1 : Nat) : Int)).f0) (tl (rd_T68 l (i : Int)).f0)
        · refine Ev.e (by decide) ?_
          by_cases h2 : tl (rd_T68 l ((i + 1 : Nat) : Int)).f0 = tl (rd_T68 l (i : Int)).f0
          · refine Ev.t h2 ?_
            by_cases h3 : (rd_T68 l ((i + 1 : Nat) : Int)).f4 ≤ (rd_T68 l (i : Int)).f5
            · refine Ev.t h3 ?_
              rw [if_pos ⟨by omega, by simp only [badV, h1, Bool.false_or, Bool.and_eq_true, decide_eq_true_eq]; exact ⟨h2, h3⟩⟩]
              exact Ev.now _
            · refine Ev.e h3 ?_
              rw [if_neg (by rintro ⟨_, h⟩; simp only [badV, h1, h2, bl_irr, Bool.false_or, Bool.and_eq_true, decide_eq_true_eq] at h; exact h3 h.2)]
              exact hr
          · refine Ev.e h2 ?_
            rw [if_neg (by rintro ⟨_, h⟩; simp only [badV, h1, Bool.false_or, Bool.and_eq_true, decide_eq_true_eq] at h; exact h2 h.1)]
            exact hr
        · refine Ev.t rfl ?_
          rw [if_pos ⟨by omega, by simp only [badV, h1, Bool.true_or]⟩]
          exact Ev.now _
  unfold chkV
  exact Ev.ite2 (Ev.now _) (key l.length 0 (by omega))
structure Rec (x : S68) : Prop where
  o1 : -100000 ≤ x.f2
  o2 : x.f2 ≤ 100000
  s1 : 0 ≤ x.f3
  s2 : x.f3 ≤ 100000
  d1 : 0 ≤ x.f4
  d2 : x.f4 ≤ x.f5
  d3 : x.f5 ≤ 1048576
  nb : tl x.f1 ≠ tl x.f0
theorem chkR2_ok {x : S68} (h : chkR2 x = 0) : Rec x := by
  unfold chkR2 at h
  split at h
  · omega
  · rename_i hb
    split at h
    · rename_i hi
      simp only [inV, Bool.and_eq_true, decide_eq_true_eq] at hi
      split at h
      · omega
      · exact ⟨by omega, by omega, by omega, by omega, by omega, by omega, by omega, hb⟩
    · omega
theorem chkR_ok {x : S68} (h : chkR x = 0) : Rec x := by
  unfold chkR at h
  split at h
  · split at h
    · exact chkR2_ok h
    · split at h
      · exact chkR2_ok h
      · contradiction
  · contradiction
theorem chkV_ok {l : List S68} (h : chkV l = 0) : l.length ≤ 256 ∧ Ord l ∧ ∀ i : Nat, i < l.length → Rec (rd_T68 l i) := by
  unfold chkV at h
  split at h
  · omega
  rename_i hl
  have key : ∀ n i : Nat, i + n = l.length → chkG l i n = 0 → ∀ t : Nat, i ≤ t → t < l.length → Rec (rd_T68 l t) ∧ (t ≠ 0 → badV (rd_T68 l ((t : Int) - 1)) (rd_T68 l t) = false) := by
    intro n
    induction n with
    | zero => intro i hi _ t h1 h2; omega
    | succ n ih =>
      intro i hi hg t h1 h2
      rw [chkG] at hg
      split at hg
      case isFalse => contradiction
      rename_i hr
      split at hg
      · omega
      rename_i hb
      rcases Nat.lt_or_ge i t with g | g
      · exact ih (i + 1) (by omega) hg t (by omega) h2
      · obtain rfl : t = i := by omega
        refine ⟨chkR_ok hr, fun h0 => ?_⟩
        cases hv : badV (rd_T68 l ((t : Int) - 1)) (rd_T68 l t) with
        | false => rfl
        | true => exact absurd ⟨h0, hv⟩ hb
  have all := key l.length 0 (by omega) h
  refine ⟨by omega, Ord.of (fun i hi => ((all i (Nat.zero_le _) hi).1).d2) (fun i hi => ?_), fun i hi => (all i (Nat.zero_le _) hi).1⟩
  have hb := (all (i + 1) (Nat.zero_le _) hi).2 (by omega)
  rw [show (((i + 1 : Nat) : Int) - 1) = (i : Int) by omega] at hb
  simp only [badV, Bool.or_eq_false_iff] at hb
  rcases bl_tri (tl (rd_T68 l (i : Int)).f0) (tl (rd_T68 l ((i + 1 : Nat) : Int)).f0) with g | g | g
  · exact .inl g
  · refine .inr ⟨g, ?_⟩
    have := hb.2
    rw [← g] at this
    simp at this
    exact this
  · rw [hb.1] at g; cases g
end Go.Proofs.Ytkgdlbepjmgaiaa.Cal
set_option linter.unusedVariables false
set_option linter.unusedSimpArgs false
namespace Go.Proofs.Ytkgdlbepjmgaiaa.Cal
open Go.RowKit Go.Proofs.YtkgdlbepjmgaiaaW.PrintWords Go.Proofs.YtkgdlbepjmgaiaaW.PrintLast Go.Proofs.YtkgdlbepjmgaiaaW.PrintMore
set_option maxHeartbeats 4000000 in
set_option maxRecDepth 100000 in
theorem valid_calls (A0 : Option Addr) (c0 : Nat) (l : List S68) (name : ByteArray) (on : Int) (r1 r2 : Int) (w : World) (hr0 : Kd.C k68 w A0 l.length l) (hc0 : l.length ≤ c0) (h : validF l name on = some (r1, r2)) :
    Calls Try.prog 88 #[.slice A0 l.length c0, .string name, .int .i64 on] w fun e w' => e = .returned (.tuple #[.int .i64 r1, .int .i64 r2]) ∧ Below w.heap.size w w' := by
  unfold validF at h
  split at h
  case isFalse => cases h
  rename_i hsz
  split at h
  case isFalse => cases h
  rename_i hm1
  split at h
  case isFalse => cases h
  rename_i hm2
  have hV := Option.some.inj h
  clear h
  obtain ⟨W0, hW0⟩ : ∃ W0, W0 = ((w.alloc (.cells #[.slice A0 l.length c0] 49)).alloc (.cells #[.string name] 9)).alloc (.cells #[.int .i64 on] 3) := ⟨_, rfl⟩
  have hB : Below w.heap.size w W0 := by rw [hW0]; exact (((Below.refl _ w).alloc (Nat.le_refl _) _).alloc (by simp) _).alloc (by simp; omega) _
  have h3 : W0.cell? ⟨w.heap.size, 0, none⟩ = some (.slice A0 l.length c0) := by rw [hW0]; go_simp
  have h4 : W0.cell? ⟨w.heap.size + 1, 0, none⟩ = some (.string name) := by rw [hW0]; go_simp
  have h5 : W0.cell? ⟨w.heap.size + 1 + 1, 0, none⟩ = some (.int .i64 on) := by rw [hW0]; go_simp
  have hC : Kd.C k68 W0 A0 l.length l := Kd.C_below hr0 hB
  have hCx : ∀ i : Nat, i < l.length → ∃ ad, A0 = some ad ∧ W0.cell? (ad.add (i * 6)) = some (.string (rd_T68 l i).f0) ∧ W0.cell? ⟨(ad.add (i * 6)).block, (ad.add (i * 6)).off + 5, none⟩ = some (.int .i64 (rd_T68 l i).f5) := fun i hi => by
    obtain ⟨ad, e, hx0, hx1, hx2, hx3, hx4, hx5⟩ := at_T68 hC i (by omega) (by omega)
    rw [Int.toNat_natCast] at hx0 hx5
    exact ⟨ad, e, hx0, hx5⟩
  have S1 := search_calls 120 #[.pointer (some ⟨w.heap.size, 0, none⟩), .pointer (some ⟨w.heap.size + 1, 0, none⟩)] l.length (fun i => p1 name (rd_T68 l i)) W0 eg120 hsz
    (fun m i hi => valid1_calls w.heap.size (w.heap.size + 1) A0 c0 l name i (W0.drewN m) hi (by go_simp) (by go_simp) (Kd.C_drewN hC m)) (monoB_at _ l hm1)
  have S2 := fun q0 : Nat => search_calls 121 #[.pointer (some ⟨w.heap.size, 0, none⟩), .pointer (some ⟨w.heap.size + 1, 0, none⟩), .pointer (some ⟨w.heap.size + 1 + 1, 0, none⟩)] l.length (fun i => p2 name on (rd_T68 l i)) (W0.drewN q0) eg121 hsz
    (fun m i hi => by
      rw [World.drewN_drewN]
      exact (valid2_calls w.heap.size (w.heap.size + 1) (w.heap.size + 1 + 1) A0 c0 l name on i (W0.drewN (q0 + m)) hi (by go_simp) (by go_simp) (by go_simp) (Kd.C_drewN hC (q0 + m)))) (monoB_at _ l hm2)
  have hc1 : cntF (fun i => p1 name (rd_T68 l i)) l.length ≤ l.length := cntF_le _ _
  have hc2 : cntF (fun i => p2 name on (rd_T68 l i)) l.length ≤ l.length := cntF_le _ _
  unfold c1Of c2Of at hV
  generalize cntF (fun i => p1 name (rd_T68 l i)) l.length = c1 at *
  generalize cntF (fun i => p2 name on (rd_T68 l i)) l.length = c2 at *
  have T1 := Aside0.mk S1
  have T2 := Aside0.mk S2
  have HV := Aside0.mk hV
  have HW := Aside0.mk hW0
  have HX := Aside0.mk hCx
  have HB := Aside0.mk hB
  clear S1 S2 hV hW0 hCx hB hC hr0 hm1 hm2
  go_enter Try.func88, Try.ntmps88
  go_wp2_with fail
  rw [← HW.out]
  refine T1.out.mono ?_
  rintro e w' ⟨rfl, q1, rfl⟩
  by_cases g1 : c1 = l.length
  · have hg : ((c1 : Int) == (l.length : Int)) = true := beq_iff_eq.2 (by omega)
    have HV2 := HV.out
    rw [validAt, if_pos g1] at HV2
    obtain ⟨rfl, rfl⟩ := Prod.mk.inj HV2
    clear HV2 HV g1
    go_wp2
    go_quiet (fail)
    go_wp2
    go_ret2
    exact ⟨rfl, by (repeat apply pw_below_drewN); exact HB.out⟩
  · have hg : ((c1 : Int) == (l.length : Int)) = false := beq_eq_false_iff_ne.2 (by omega)
    have hlt : c1 < l.length := by omega
    have hlt' : (c1 : Int) < (l.length : Int) := by omega
    obtain ⟨ad, rfl, hx0, _⟩ := HX.out c1 hlt
    by_cases g2 : (rd_T68 l c1).f0.toList = name.toList
    · have HV2 := HV.out
      rw [validAt, if_neg g1, if_neg (by rw [g2]; simp)] at HV2
      have hg2 : ((rd_T68 l c1).f0.toList == name.toList) = true := beq_iff_eq.2 g2
      clear HV g2 g1
      have HV := Aside0.mk HV2
      clear HV2
      generalize rd_T68 l c1 = r at *
      go_wp2
      go_quiet (fail)
      go_wp2_with fail
      refine (T2.out _).mono ?_
      rintro e w' ⟨rfl, q2, rfl⟩
      by_cases g3 : (c2 : Int) - 1 < c1
      · have HV2 := HV.out
        rw [if_pos g3] at HV2
        obtain ⟨rfl, rfl⟩ := Prod.mk.inj HV2
        have hd : decide ((c2 : Int) - 1 < (c1 : Int)) = true := decide_eq_true g3
        clear HV2 HV
        go_wp2
        go_quiet (fail)
        go_wp2
        go_ret2
        exact ⟨rfl, by (repeat apply pw_below_drewN); exact HB.out⟩
      · have HV2 := HV.out
        rw [if_neg g3] at HV2
        obtain ⟨d, rfl⟩ : ∃ d, c2 = d + 1 := ⟨c2 - 1, by omega⟩
        have hd1 : (((d + 1 : Nat) : Int) - 1) = (d : Int) := by omega
        have g3' : c1 ≤ d := by omega
        have hd : decide ((d : Int) < (c1 : Int)) = false := decide_eq_false (by omega)
        have hdl : (d : Int) < (l.length : Int) := by omega
        obtain ⟨ad2, e2, _, hx5⟩ := HX.out d (by omega)
        obtain rfl := Option.some.inj e2
        rw [hd1] at HV2
        clear HV g3 hd1
        by_cases g4 : (rd_T68 l d).f5 < on
        · rw [if_pos g4] at HV2
          obtain ⟨rfl, rfl⟩ := Prod.mk.inj HV2
          have hd4 : decide ((rd_T68 l d).f5 < on) = true := decide_eq_true g4
          clear HV2 g4
          generalize rd_T68 l d = r' at *
          go_wp2
          go_quiet (fail)
          go_wp2
          go_ret2
          exact ⟨rfl, by (repeat apply pw_below_drewN); exact HB.out⟩
        · rw [if_neg g4] at HV2
          obtain ⟨rfl, rfl⟩ := Prod.mk.inj HV2
          have hd4 : decide ((rd_T68 l d).f5 < on) = false := decide_eq_false g4
          clear HV2 g4
          generalize rd_T68 l d = r' at *
          go_wp2
          go_quiet (fail)
          go_wp2
          go_ret2
          exact ⟨rfl, by (repeat apply pw_below_drewN); exact HB.out⟩
    · have HV2 := HV.out
      rw [validAt, if_neg g1, if_pos g2] at HV2
      have hg2 : ((rd_T68 l c1).f0.toList == name.toList) = false := beq_eq_false_iff_ne.2 g2
      obtain ⟨rfl, rfl⟩ := Prod.mk.inj HV2
      clear HV2 HV g2 g1
      generalize rd_T68 l c1 = r at *
      go_wp2
      go_quiet (fail)
      go_wp2
      go_ret2
      exact ⟨rfl, by (repeat apply pw_below_drewN); exact HB.out⟩
end Go.Proofs.Ytkgdlbepjmgaiaa.Cal
namespace Go.Proofs.Ytkgdlbepjmgaiaa.Cal
open Go.RowKit Go.Proofs.YtkgdlbepjmgaiaaW.PrintWords Go.Proofs.YtkgdlbepjmgaiaaW.PrintLast Go.Proofs.YtkgdlbepjmgaiaaW.PrintMore
attribute [local go_sem] max2_int min2_int max_two min_two max_three min_three max_four min_four
set_option linter.unusedVariables false
set_option linter.unusedSimpArgs false
def calibrate_valid.f (l0 : List S68) (a1 : ByteArray) (a2 : Int) : Option (Int × Int) := validF l0 a1 a2
theorem calibrate_valid.calls (A0 : Option Addr) (c0 : Nat) (l0 : List (S68)) (a1 : ByteArray) (a2 : Int) (r1 : Int) (r2 : Int) (w : World) (hr0 : Kd.C k68 w A0 l0.length l0) (hc0 : l0.length ≤ c0) (h : calibrate_valid.f l0 a1 a2 = some (r1, r2)) :
    Calls Try.prog 88 #[.slice A0 l0.length c0, .string a1, .int .i64 a2] w fun e w' => e = .returned (.tuple #[.int .i64 r1, .int .i64 r2]) ∧ Below w.heap.size w w' := valid_calls A0 c0 l0 a1 a2 r1 r2 w hr0 hc0 h
end Go.Proofs.Ytkgdlbepjmgaiaa.Cal
namespace Go.Proofs.Ytkgdlbepjmgaiaa.Cal
open Go.RowKit Go.Proofs.YtkgdlbepjmgaiaaW.PrintWords Go.Proofs.YtkgdlbepjmgaiaaW.PrintLast Go.Proofs.YtkgdlbepjmgaiaaW.PrintMore
attribute [local go_sem] max2_int min2_int max_two min_two max_three min_three max_four min_four
set_option linter.unusedVariables false
set_option linter.unusedSimpArgs false
def calibrate_Valid.f (k : Nat) (l0 : List (S68)) (a1 : ByteArray) (a2 : Int) : Option (Int × Int) := (calibrate_Check.f k l0).bind fun t128 => (if t128 = 0 then ((calibrate_day.f a2).bind fun t129 => (if t129 = 0 then ((calibrate_valid.f l0 a1 a2).bind fun bt130 => (some (bt130.1, bt130.2))) else (some (0, t129)))) else (some (0, t128)))
theorem calibrate_Valid.mono : ∀ a0 a1 a2 k, LeO (calibrate_Valid.f k a0 a1 a2) (calibrate_Valid.f (k + 1) a0 a1 a2) := by
  intro a0 a1 a2 k
  unfold calibrate_Valid.f
  repeat' first
      | (with_reducible exact calibrate_Check.mono _ _)
      | (with_reducible exact LeO.refl _)
      | (with_reducible exact LeO.none _)
      | (with_reducible refine LeO.ite ?_ ?_)
      | (with_reducible refine LeO.bind ?_ (fun _ => ?_))
      | exact calibrate_Check.mono _ _
      | exact LeO.none _
      | refine LeO.ite ?_ ?_
      | refine LeO.bind ?_ (fun _ => ?_)
set_option maxHeartbeats 8000000 in
set_option maxRecDepth 100000 in
theorem calibrate_Valid.calls (k : Nat) (A0 : Option Addr) (c0 : Nat) (l0 : List (S68)) (a1 : ByteArray) (a2 : Int) (r1 : Int) (r2 : Int) (w : World) (hr0 : Kd.C k68 w A0 l0.length l0) (hc0 : l0.length ≤ c0) (h : calibrate_Valid.f k l0 a1 a2 = some (r1, r2)) :
    Calls Try.prog 42 #[.slice A0 l0.length c0, .string a1, .int .i64 a2] w fun e w' => e = .returned (.tuple #[.int .i64 r1, .int .i64 r2]) ∧ Below w.heap.size w w' := by
  have HR0 := Aside0.mk hr0
  have HC0 := Aside0.mk hc0
  clear hr0 hc0
  have HB := Aside0.mk (Below.refl w.heap.size w)
  have H : ((calibrate_Check.f k l0).bind fun t128 => (if t128 = 0 then ((calibrate_day.f a2).bind fun t129 => (if t129 = 0 then ((calibrate_valid.f l0 a1 a2).bind fun bt130 => (some (bt130.1, bt130.2))) else (some (0, t129)))) else (some (0, t128)))) = some (r1, r2) := h
  clear h
  replace H := Option.bind_eq_some_iff.mp H
  obtain ⟨t128, A40, H⟩ := H
  replace H : (if t128 = 0 then ((calibrate_day.f a2).bind fun t129 => (if t129 = 0 then ((calibrate_valid.f l0 a1 a2).bind fun bt130 => (some (bt130.1, bt130.2))) else (some (0, t129)))) else (some (0, t128))) = some (r1, r2) := H
  have A4 := Aside0.mk A40
  clear A40
  by_cases c5 : t128 = 0
  · rw [if_pos c5] at H
    have c5b0 : (t128 == 0) = true := beq_iff_eq.mpr c5
    have c5b1 : (t128 != 0) = false := bne_eq_false_iff_eq.mpr c5
    clear c5
    replace H := Option.bind_eq_some_iff.mp H
    obtain ⟨t129, A60, H⟩ := H
    replace H : (if t129 = 0 then ((calibrate_valid.f l0 a1 a2).bind fun bt130 => (some (bt130.1, bt130.2))) else (some (0, t129))) = some (r1, r2) := H
    have A6 := Aside0.mk A60
    clear A60
    by_cases c7 : t129 = 0
    · rw [if_pos c7] at H
      have c7b0 : (t129 == 0) = true := beq_iff_eq.mpr c7
      have c7b1 : (t129 != 0) = false := bne_eq_false_iff_eq.mpr c7
      clear c7
      replace H := Option.bind_eq_some_iff.mp H
      obtain ⟨⟨t130, t131⟩, A80, H⟩ := H
      replace H : (some (t130, t131)) = some (r1, r2) := H
      have A8 := Aside0.mk A80
      clear A80
      simp only [Option.some.injEq, Prod.mk.injEq] at H
      obtain ⟨rfl, rfl⟩ := H
      go_enter Try.func42, Try.ntmps42
      go_wp2_with (first | ((with_reducible refine gate_callee (f := 56) rfl ?_); refine goesL_ (some 11) rfl rfl Try.func56 (by kernel_rfl) rfl #[.slice A0 l0.length c0] rfl (by (try simp only [List.map_toArray, List.map_cons, List.map_nil]); first | done | rfl | (simp only [List.length_drop, List.length_take]; rfl)) ?_; (with_reducible refine (calibrate_Check.calls k _ _ l0 t128 _ ?side1 ?side2 A4.out).mono ?_); (case side1 => repeat (first | exact HR0.out | (with_reducible refine Kd.C_alloc ?_ _) | (with_reducible refine Kd.C_drewN ?_ _) | (with_reducible refine Kd.C_drew ?_))); (case side2 => exact HC0.out); rintro e w9 ⟨rfl, hb⟩; refine ⟨_, rfl, ?_⟩; have n0_ := Aside0.mk (below_step (by repeat (first | (with_reducible first | exact HB.out | apply below_alloc | apply pw_below_drewN | apply below_drew1) | exact HB.out)) hb); clear HB; have HB := n0_; clear n0_; (try clear hb); (try clear hb2); (try clear hk); (try clear hi)) | ((with_reducible refine gate_callee (f := 87) rfl ?_); refine goesL_ (some 16) rfl rfl Try.func87 (by kernel_rfl) rfl #[.int .i64 a2] rfl (by (try simp only [List.map_toArray, List.map_cons, List.map_nil]); first | done | rfl | (simp only [List.length_drop, List.length_take]; rfl)) ?_; (with_reducible refine (calibrate_day.calls a2 t129 _ A6.out).mono ?_); rintro e w' ⟨rfl, ⟨nd, rfl⟩⟩; refine ⟨_, rfl, ?_⟩) | ((with_reducible refine gate_callee (f := 88) rfl ?_); refine goesL_ (some 23) rfl rfl Try.func88 (by kernel_rfl) rfl #[.slice A0 l0.length c0, .string a1, .int .i64 a2] rfl (by (try simp only [List.map_toArray, List.map_cons, List.map_nil]); first | done | rfl | (simp only [List.length_drop, List.length_take]; rfl)) ?_; (with_reducible refine (calibrate_valid.calls _ _ l0 a1 a2 t130 t131 _ ?side1 ?side2 A8.out).mono ?_); (case side1 => repeat (first | exact (Kd.C_below HR0.out (by repeat (first | (with_reducible first | exact HB.out | apply below_alloc | apply pw_below_drewN | apply below_drew1) | exact HB.out))) | (with_reducible refine Kd.C_alloc ?_ _) | (with_reducible refine Kd.C_drewN ?_ _) | (with_reducible refine Kd.C_drew ?_))); (case side2 => exact HC0.out); rintro e w10 ⟨rfl, hb⟩; refine ⟨_, rfl, ?_⟩; have n0_ := Aside0.mk (below_step (by repeat (first | (with_reducible first | exact HB.out | apply below_alloc | apply pw_below_drewN | apply below_drew1) | exact HB.out)) hb); clear HB; have HB := n0_; clear n0_; (try clear hb); (try clear hb2); (try clear hk); (try clear hi)))
      go_ret2
      exact ⟨by first | rfl | (simp [errW_none, errW_some] <;> rfl) | (simp [*, errW_none, errW_some] <;> rfl), by repeat (first | (with_reducible first | exact HB.out | apply below_alloc | apply pw_below_drewN | apply below_drew1) | exact HB.out)⟩
    · rw [if_neg c7] at H
      have c7b0 : (t129 == 0) = false := beq_eq_false_iff_ne.mpr c7
      have c7b1 : (t129 != 0) = true := bne_iff_ne.mpr c7
      simp only [Option.some.injEq, Prod.mk.injEq] at H
      obtain ⟨rfl, rfl⟩ := H
      go_enter Try.func42, Try.ntmps42
      go_wp2_with (first | ((with_reducible refine gate_callee (f := 56) rfl ?_); refine goesL_ (some 11) rfl rfl Try.func56 (by kernel_rfl) rfl #[.slice A0 l0.length c0] rfl (by (try simp only [List.map_toArray, List.map_cons, List.map_nil]); first | done | rfl | (simp only [List.length_drop, List.length_take]; rfl)) ?_; (with_reducible refine (calibrate_Check.calls k _ _ l0 t128 _ ?side1 ?side2 A4.out).mono ?_); (case side1 => repeat (first | exact HR0.out | (with_reducible refine Kd.C_alloc ?_ _) | (with_reducible refine Kd.C_drewN ?_ _) | (with_reducible refine Kd.C_drew ?_))); (case side2 => exact HC0.out); rintro e w11 ⟨rfl, hb⟩; refine ⟨_, rfl, ?_⟩; have n0_ := Aside0.mk (below_step (by repeat (first | (with_reducible first | exact HB.out | apply below_alloc | apply pw_below_drewN | apply below_drew1) | exact HB.out)) hb); clear HB; have HB := n0_; clear n0_; (try clear hb); (try clear hb2); (try clear hk); (try clear hi)) | ((with_reducible refine gate_callee (f := 87) rfl ?_); refine goesL_ (some 16) rfl rfl Try.func87 (by kernel_rfl) rfl #[.int .i64 a2] rfl (by (try simp only [List.map_toArray, List.map_cons, List.map_nil]); first | done | rfl | (simp only [List.length_drop, List.length_take]; rfl)) ?_; (with_reducible refine (calibrate_day.calls a2 t129 _ A6.out).mono ?_); rintro e w' ⟨rfl, ⟨nd, rfl⟩⟩; refine ⟨_, rfl, ?_⟩))
      go_ret2
      exact ⟨by first | rfl | (simp [errW_none, errW_some] <;> rfl) | (simp [*, errW_none, errW_some] <;> rfl), by repeat (first | (with_reducible first | exact HB.out | apply below_alloc | apply pw_below_drewN | apply below_drew1) | exact HB.out)⟩
  · rw [if_neg c5] at H
    have c5b0 : (t128 == 0) = false := beq_eq_false_iff_ne.mpr c5
    have c5b1 : (t128 != 0) = true := bne_iff_ne.mpr c5
    simp only [Option.some.injEq, Prod.mk.injEq] at H
    obtain ⟨rfl, rfl⟩ := H
    go_enter Try.func42, Try.ntmps42
    go_wp2_with (first | ((with_reducible refine gate_callee (f := 56) rfl ?_); refine goesL_ (some 11) rfl rfl Try.func56 (by kernel_rfl) rfl #[.slice A0 l0.length c0] rfl (by (try simp only [List.map_toArray, List.map_cons, List.map_nil]); first | done | rfl | (simp only [List.length_drop, List.length_take]; rfl)) ?_; (with_reducible refine (calibrate_Check.calls k _ _ l0 t128 _ ?side1 ?side2 A4.out).mono ?_); (case side1 => repeat (first | exact HR0.out | (with_reducible refine Kd.C_alloc ?_ _) | (with_reducible refine Kd.C_drewN ?_ _) | (with_reducible refine Kd.C_drew ?_))); (case side2 => exact HC0.out); rintro e w12 ⟨rfl, hb⟩; refine ⟨_, rfl, ?_⟩; have n0_ := Aside0.mk (below_step (by repeat (first | (with_reducible first | exact HB.out | apply below_alloc | apply pw_below_drewN | apply below_drew1) | exact HB.out)) hb); clear HB; have HB := n0_; clear n0_; (try clear hb); (try clear hb2); (try clear hk); (try clear hi)))
    go_ret2
    exact ⟨by first | rfl | (simp [errW_none, errW_some] <;> rfl) | (simp [*, errW_none, errW_some] <;> rfl), by repeat (first | (with_reducible first | exact HB.out | apply below_alloc | apply pw_below_drewN | apply below_drew1) | exact HB.out)⟩
end Go.Proofs.Ytkgdlbepjmgaiaa.Cal
set_option linter.unusedVariables false
set_option linter.unusedSimpArgs false
namespace Go.Proofs.Ytkgdlbepjmgaiaa.Cal
open Go.RowKit Go.Proofs.YtkgdlbepjmgaiaaW.PrintWords Go.Proofs.YtkgdlbepjmgaiaaW.PrintLast Go.Proofs.YtkgdlbepjmgaiaaW.PrintMore
attribute [local go_sem] Oper.semAt_some
def chainGo (l : List S68) : Nat → ByteArray → Int → List Bool → List Int → Option (List Int × Int)
  | 0, _, _, _, _ => none
  | k + 1, nm, on, met, pre =>
    (validF l nm on).bind fun r =>
      if r.2 = 0 then
        (if met.getD r.1.toNat false = true then some ([], 16)
         else if (rd_T68 l r.1).f1.toList = [] then some (pre ++ [r.1], 0)
         else chainGo l k (rd_T68 l r.1).f1 (rd_T68 l r.1).f4 (met.set r.1.toNat true) (pre ++ [r.1]))
      else some ([], r.2)
def collF (l : List S68) (nm : ByteArray) (on : Int) : Option (List Int × Int) :=
  if l.length < 1073741824 then chainGo l (l.length + 2) nm on (List.replicate l.length false) [] else none
theorem validF_range {l : List S68} {nm : ByteArray} {on i : Int} (h : validF l nm on = some (i, 0)) : 0 ≤ i ∧ i < l.length := by
  unfold validF at h
  split at h
  case isFalse => cases h
  split at h
  case isFalse => cases h
  split at h
  case isFalse => cases h
  have h := Option.some.inj h
  have hc : c2Of l nm on ≤ l.length := cntF_le _ _
  unfold validAt at h
  split at h
  · have := (Prod.mk.inj h).2; omega
  · split at h
    · have := (Prod.mk.inj h).2; omega
    · split at h
      · have := (Prod.mk.inj h).2; omega
      · split at h
        · have := (Prod.mk.inj h).2; omega
        · have := (Prod.mk.inj h).1; omega
theorem made_false (m : Nat) : (madeCells (Value.bool false).cells m).toList = (List.replicate m false).map Value.bool := by
  have hc : (Value.bool false).cells = #[Value.bool false] := rfl
  apply List.ext_getElem
  · simp [madeCells]
  · intro i h1 h2
    simp [madeCells, hc, Nat.mod_one]
def KB (S0 B1 B2 B3 M : Nat) (W W' : World) : Prop := Below S0 W W' ∧ ∀ k, (k = B1 ∨ k = B2 ∨ k = B3 ∨ k = M) → W'.heap[k]? = W.heap[k]?
def ChPost (J : List Int → World → Prop) (Jx : Int → World → Prop) (r1 : List Int) (r2 : Int) (e : Ending) (W' : World) : Prop := (∃ v, e = .returned v) ∧ ((r2 = 0 ∧ J r1 W') ∨ (r2 ≠ 0 ∧ r1 = [] ∧ Jx r2 W'))
set_option maxHeartbeats 4000000 in
set_option maxRecDepth 100000 in
theorem chain1_in (n : Nat) (lp S0 B1 B2 B3 : Nat) (A0 : Option Addr) (c0 : Nat) (l : List S68) (nm : ByteArray) (on : Int) (w0 W1 : World) (J : List Int → World → Prop) (Jx : Int → World → Prop) (r1 : List Int) (r2 : Int)
    (hl : l.length < 1073741824) (hc0 : l.length ≤ c0) (hC0 : Kd.C k68 w0 A0 l.length l) (hS : w0.heap.size = S0) (hb01 : Below S0 w0 W1)
    (h1 : W1.heap[B1]? = some (.cells #[.slice A0 l.length c0] 49 (0, 0))) (h2 : W1.heap[B2]? = some (.cells #[.string nm] 9 (0, 0))) (h3 : W1.heap[B3]? = some (.cells #[.int .i64 on] 3 (0, 0)))
    (hne12 : B1 ≠ B2) (hne13 : B1 ≠ B3) (hne23 : B2 ≠ B3) (hge1 : S0 ≤ B1) (hge2 : S0 ≤ B2) (hge3 : S0 ≤ B3)
    (hJb : ∀ (pre : List Int) W W', J pre W → Below W.heap.size W W' → J pre W')
    (hJs : ∀ (pre : List Int) (W : World) (b o : Nat) (v : Value), (b = B2 ∨ b = B3 ∨ b = W1.heap.size) → J pre W → J pre (W.setCell ⟨b, o, none⟩ v))
    (hY0 : ∀ (pre : List Int) (i : Int) W, J pre W → W1.heap.size < W.heap.size → 0 ≤ i → i < l.length → pre.length ≤ l.length + 2 → YieldAt Fence.wide (n - 1) Try.prog lp #[.int .i64 i, .int .i64 0] W fun e W' => e = .returned (.bool true) ∧ J (pre ++ [i]) W' ∧ KB S0 B1 B2 B3 W1.heap.size W W')
    (hYe : ∀ (pre : List Int) (i er : Int) W, J pre W → er ≠ 0 → YieldAt Fence.wide (n - 1) Try.prog lp #[.int .i64 i, .int .i64 er] W fun e W' => e = .returned (.bool false) ∧ Jx er W')
    (h0 : J [] W1) (hg : chainGo l (l.length + 2) nm on (List.replicate l.length false) [] = some (r1, r2)) :
    CallsIn Fence.wide n Try.prog 129 (#[.func (.yield lp) #[] #[]] ++ #[.pointer (some ⟨B1, 0, none⟩), .pointer (some ⟨B2, 0, none⟩), .pointer (some ⟨B3, 0, none⟩)]) W1 (ChPost J Jx r1 r2) := by
  have hu68 := Try.underlying68
  obtain ⟨i4, hi, hz0, hz1, hz2⟩ := info_parts (show (Try.prog.info? 4).map (fun i => (i.zero, i.size, i.bytes)) = some (some (.bool false), 1, 1) by kernel_rfl)
  obtain ⟨W2, hrun, hown, hgr⟩ := run_make_full (P := Try.prog) W1 W1.heap.size 156 4 i4 (.bool false) 1 Try.underlying156 hi hz0 hz1 .i64 .i64 l.length (by rw [hz2]; omega) (by unfold maxLen; omega) (Nat.le_refl _)
  refine callsIn_of_wp Try.func129 rfl trivial ?_ rfl
  simp only [Try.ntmps129, List.size_toArray, List.length_cons, List.length_nil, Nat.reduceAdd, Nat.reduceSub, Array.replicate_succ, Array.replicate_zero, List.push_toArray, List.append_toArray, List.nil_append, List.cons_append]
  have hc1 : W1.cell? ⟨B1, 0, none⟩ = some (.slice A0 l.length c0) := blk_cell h1 0
  have hM : W2.heap[W1.heap.size]? = some (.cells ((List.replicate l.length false).map Value.bool).toArray 4 (0, 0)) := by
    obtain ⟨_, ⟨h, _⟩ | ⟨g, cap, cur, e, _, hh, _, _, hcs, htk⟩⟩ := hown
    · cases h
    · simp only [Value.slice.injEq, Option.some.injEq, Addr.mk.injEq] at e
      obtain ⟨⟨rfl, _⟩, _, rfl⟩ := e
      rw [hh]
      have : cur.toList = (List.replicate l.length false).map Value.bool := by
        rw [← List.take_of_length_le (l := cur.toList) (i := l.length * 1) (by rw [Array.length_toList, hcs]; omega), htk]
        rw [Nat.mul_one]
        exact made_false _
      rw [← this, Array.toArray_toList]
  have hb12 : Below W1.heap.size W1 W2 := (Below.refl _ _).grown hgr (Nat.le_refl _) (fun k e => by cases e)
  have hlt : W1.heap.size < W2.heap.size := (Array.getElem?_eq_some_iff.1 hM).1
  have hB1l : B1 < W1.heap.size := (Array.getElem?_eq_some_iff.1 h1).1
  have hB2l : B2 < W1.heap.size := (Array.getElem?_eq_some_iff.1 h2).1
  have hB3l : B3 < W1.heap.size := (Array.getElem?_eq_some_iff.1 h3).1
  have HY0 := Aside0.mk hY0
  have HYe := Aside0.mk hYe
  have HJb := Aside0.mk hJb
  have HJs := Aside0.mk hJs
  have ST : Aside0 (W2.heap[B1]? = some (.cells #[.slice A0 l.length c0] 49 (0, 0)) ∧ W2.heap[B2]? = some (.cells #[.string nm] 9 (0, 0)) ∧ W2.heap[B3]? = some (.cells #[.int .i64 on] 3 (0, 0)) ∧ J [] W2 ∧ Below S0 w0 W2) :=
    ⟨by rw [hb12.block _ hB1l]; exact h1, by rw [hb12.block _ hB2l]; exact h2, by rw [hb12.block _ hB3l]; exact h3, hJb _ _ _ h0 hb12, hb01.trans (hb12.mono (by rw [← hS]; have := hb01.size; omega))⟩
  have HM := Aside0.mk hM
  have HG := Aside0.mk hg
  have HC := Aside0.mk hC0
  have HS := Aside0.mk hS
  clear hY0 hYe hJb hJs hM hg hC0 hS hb12 hgr hown h1 h2 h3 h0 hb01 hi hz0 hz1 hz2
  gi_wp2
  gi_loopg [6, 7] (l.length + 2) (fun kx _ _ wr => ∃ (nm' : ByteArray) (on' : Int) (met : List Bool) (pre : List Int), Aside0 (met.length = l.length) ∧ Aside0 (chainGo l kx nm' on' met pre = some (r1, r2)) ∧ Aside0 (pre.length + kx ≤ l.length + 2) ∧ Aside0 (W1.heap.size < wr.heap.size) ∧
    Aside0 (wr.heap[B1]? = some (.cells #[.slice A0 l.length c0] 49 (0, 0)) ∧ wr.heap[B2]? = some (.cells #[.string nm'] 9 (0, 0)) ∧ wr.heap[B3]? = some (.cells #[.int .i64 on'] 3 (0, 0)) ∧ J pre wr ∧ Below S0 w0 wr) ∧
    Aside0 (wr.heap[W1.heap.size]? = some (.cells (met.map Value.bool).toArray 4 (0, 0))))
  case atStart => exact ⟨nm, on, List.replicate l.length false, [], ⟨by simp⟩, HG, ⟨by simp⟩, ⟨hlt⟩, ST, HM⟩
  case round =>
    clear HG ST HM
    obtain ⟨nm', on', met, pre, hml, HG, HP, HL, ST, HM⟩ := hrel
    cases gk with
    | zero => exact absurd HG.out (by simp [chainGo])
    | succ k =>
      have H := HG.out
      clear HG
      simp only [chainGo] at H
      obtain ⟨⟨i, er⟩, HV0, H⟩ := Option.bind_eq_some_iff.mp H
      obtain ⟨hb1, hb2, hb3, hJ, hB⟩ := ST.out
      clear ST
      have hC : Kd.C k68 wr A0 l.length l := Kd.C_below HC.out (by rw [HS.out]; exact hB)
      have V := Aside0.mk (valid_calls A0 c0 l nm' on' i er wr hC hc0 HV0)
      have hc2 : wr.cell? ⟨B2, 0, none⟩ = some (.string nm') := blk_cell hb2 0
      have hc3 : wr.cell? ⟨B3, 0, none⟩ = some (.int .i64 on') := blk_cell hb3 0
      have hc1 : wr.cell? ⟨B1, 0, none⟩ = some (.slice A0 l.length c0) := blk_cell hb1 0
      have HV0 := Aside0.mk HV0
      have HR := Aside0.mk H
      have ST := Aside0.mk (And.intro hb1 (And.intro hb2 (And.intro hb3 (And.intro hJ hB))))
      clear H hb1 hb2 hb3 hJ hB hC
      gi_wp2_with fail
      refine ⟨trivial, fun h => (by cases h), ?_⟩
      refine (callsIn_wide.2 V.out).mono ?_
      rintro e w3 ⟨rfl, hbv⟩
      clear V hc1 hc2 hc3
      obtain ⟨hb1, hb2, hb3, hJ, hB⟩ := ST.out
      have hb1' := (hbv.block _ (Array.getElem?_eq_some_iff.1 hb1).1).trans hb1
      have hb2' := (hbv.block _ (Array.getElem?_eq_some_iff.1 hb2).1).trans hb2
      have hb3' := (hbv.block _ (Array.getElem?_eq_some_iff.1 hb3).1).trans hb3
      have hM' := (hbv.block _ (Array.getElem?_eq_some_iff.1 HM.out).1).trans HM.out
      have hJ' := HJb.out _ _ _ hJ hbv
      have hB' := hB.trans (hbv.mono (by have h1 := hB.size; have h2 := HS.out; omega))
      have hL' : W1.heap.size < w3.heap.size := Nat.lt_of_lt_of_le HL.out hbv.size
      clear hb1 hb2 hb3 hJ hB hbv ST HM HL
      by_cases he : er = 0
      · subst he
        have HR2 := HR.out
        rw [if_pos rfl] at HR2
        obtain ⟨hi0, hil⟩ := validF_range HV0.out
        obtain ⟨d, rfl⟩ := Int.eq_ofNat_of_zero_le hi0
        have hdl : d < l.length := by omega
        have hcM : w3.cell? ⟨W1.heap.size, d, none⟩ = some (.bool (met.getD d false)) := by
          rw [blk_cell hM' d]; simp [List.getD_eq_getElem?_getD, hml.out, hdl]
        rw [Int.toNat_natCast] at HR2
        cases hmt : met.getD d false
        · rw [hmt, if_neg (by decide)] at HR2
          rw [hmt] at hcM
          obtain ⟨fn, tmps, assign, body, hy, hR⟩ := HY0.out pre d w3 hJ' hL' hi0 hil (by have := HP.out; omega)
          have hil' : (d : Int) < (l.length : Int) := hil
          have HR3 := Aside0.mk HR2
          have HRR := Aside0.mk hR
          have HMT := Aside0.mk hmt
          have S1 := Aside0.mk hb1'
          have S2 := Aside0.mk hb2'
          have S3 := Aside0.mk hb3'
          have S4 := Aside0.mk hM'
          have S6 := Aside0.mk hB'
          clear hR hb1' hb2' hb3' hM' hJ' hB' hi0 HR HR2 hmt
          gi_wp2
          refine ⟨fun h => (by cases h), ?_⟩
          refine HRR.out.mono ?_
          rintro e W4 ⟨rfl, hJ4, hk1, hk2⟩
          have q1 := (hk2 B1 (.inl rfl)).trans S1.out
          have q2 := (hk2 B2 (.inr (.inl rfl))).trans S2.out
          have q3 := (hk2 B3 (.inr (.inr (.inl rfl)))).trans S3.out
          have q4 := (hk2 W1.heap.size (.inr (.inr (.inr rfl)))).trans S4.out
          have q6 := S6.out.trans hk1
          have hC4 : Kd.C k68 W4 A0 l.length l := Kd.C_below HC.out (by rw [HS.out]; exact q6)
          obtain ⟨ad, rfl, hx0, hx1, hx2, hx3, hx4, hx5⟩ := at_T68 hC4 d (by omega) (by omega)
          rw [Int.toNat_natCast] at hx0 hx1 hx2 hx3 hx4 hx5
          have hc1 : W4.cell? ⟨B1, 0, none⟩ = some (.slice (some ad) l.length c0) := blk_cell q1 0
          have hL4 : W1.heap.size < W4.heap.size := Nat.lt_of_lt_of_le hL' hk1.size
          clear S1 S2 S3 S4 S6 hk1 hk2 hC4 hL'
          have HR4 := HR3.out
          generalize hrd : rd_T68 l d = r at *
          have HRD := Aside0.mk hrd
          clear hrd
          by_cases hby : r.f1.toList = []
          · rw [if_pos hby] at HR4
            obtain ⟨rfl, rfl⟩ := Prod.mk.inj (Option.some.inj HR4)
            have hby2 : r.f1.toList.isEmpty = true := by rw [List.isEmpty_iff]; exact hby
            clear HR4 HR3 hby
            have HJ4 := Aside0.mk hJ4
            clear hJ4
            gi_wp2
            refine bodyPost_ret (results_none rfl _ _ _) rfl ?_
            exact ⟨⟨_, rfl⟩, .inl ⟨rfl, HJ4.out⟩⟩
          · rw [if_neg hby] at HR4
            have hby2 : r.f1.toList.isEmpty = false := by rw [List.isEmpty_eq_false_iff]; exact hby
            have HR5 := Aside0.mk HR4
            clear HR4 HR3 hby
            have hcM4 : W4.cell? ⟨W1.heap.size, d, none⟩ = some (.bool false) := by
              rw [blk_cell q4 d]; have := HMT.out; simp [List.getD_eq_getElem?_getD, hml.out, hdl] at this ⊢; exact this
            have hfM4 := blk_frozen q4 d
            have S4 := Aside0.mk q4
            have S1 := Aside0.mk q1
            have S2 := Aside0.mk q2
            have S3 := Aside0.mk q3
            have S6 := Aside0.mk q6
            have S7 := Aside0.mk hJ4
            clear q1 q2 q3 q4 q6 hJ4 hcM
            gi_wp2
            obtain ⟨W5, hW5⟩ : ∃ W5, W4.setCell ⟨W1.heap.size, d, none⟩ (.bool true) = W5 := ⟨_, rfl⟩
            rw [hW5]
            have hne1 : B1 ≠ W1.heap.size := by omega
            have hne2 : B2 ≠ W1.heap.size := by omega
            have hne3 : B3 ≠ W1.heap.size := by omega
            have q1 : W5.heap[B1]? = some (.cells #[.slice (some ad) l.length c0] 49 (0, 0)) := by rw [← hW5, Below.heap_setCell _ _ _ _ hne1]; exact S1.out
            have q2 : W5.heap[B2]? = some (.cells #[.string nm'] 9 (0, 0)) := by rw [← hW5, Below.heap_setCell _ _ _ _ hne2]; exact S2.out
            have q3 : W5.heap[B3]? = some (.cells #[.int .i64 on'] 3 (0, 0)) := by rw [← hW5, Below.heap_setCell _ _ _ _ hne3]; exact S3.out
            have q4 : W5.heap[W1.heap.size]? = some (.cells ((met.set d true).map Value.bool).toArray 4 (0, 0)) := by
              rw [← hW5, blk_set S4.out d (.bool true)]; simp
            have q6 : Below S0 w0 W5 := by rw [← hW5]; exact S6.out.setCell (p := ⟨W1.heap.size, d, none⟩) (by show S0 ≤ W1.heap.size; omega) _
            have q7 : J (pre ++ [(d : Int)]) W5 := by rw [← hW5]; exact HJs.out _ _ _ _ _ (.inr (.inr rfl)) S7.out
            have hL5 : W1.heap.size < W5.heap.size := by rw [← hW5]; simpa using hL4
            have hC5 : Kd.C k68 W5 (some ad) l.length l := Kd.C_below HC.out (by rw [HS.out]; exact q6)
            clear hx0 hx1 hx2 hx3 hx4 hx5 hc1 hcM4 hfM4 S1 S2 S3 S4 S6 S7 hW5 hL4
            obtain ⟨ad', e', hx0, hx1, hx2, hx3, hx4, hx5⟩ := at_T68 hC5 d (by omega) (by omega)
            obtain rfl := Option.some.inj e'
            rw [Int.toNat_natCast, HRD.out] at hx1 hx4
            have hc1 : W5.cell? ⟨B1, 0, none⟩ = some (.slice (some ad) l.length c0) := blk_cell q1 0
            have hc2 : W5.cell? ⟨B2, 0, none⟩ = some (.string nm') := blk_cell q2 0
            have hc3 : W5.cell? ⟨B3, 0, none⟩ = some (.int .i64 on') := blk_cell q3 0
            have hf2 := blk_frozen q2 0
            have hf3 := blk_frozen q3 0
            have FIN : Aside0 (∀ q : Nat, Aside0 (W1.heap.size < ((((W5.setCell ⟨B2, 0, none⟩ (.string r.f1)).setCell ⟨B3, 0, none⟩ (.int .i64 r.f4)).drewN q)).heap.size) ∧
                Aside0 ((((W5.setCell ⟨B2, 0, none⟩ (.string r.f1)).setCell ⟨B3, 0, none⟩ (.int .i64 r.f4)).drewN q).heap[B1]? = some (.cells #[.slice (some ad) l.length c0] 49 (0, 0)) ∧
                  (((W5.setCell ⟨B2, 0, none⟩ (.string r.f1)).setCell ⟨B3, 0, none⟩ (.int .i64 r.f4)).drewN q).heap[B2]? = some (.cells #[.string r.f1] 9 (0, 0)) ∧
                  (((W5.setCell ⟨B2, 0, none⟩ (.string r.f1)).setCell ⟨B3, 0, none⟩ (.int .i64 r.f4)).drewN q).heap[B3]? = some (.cells #[.int .i64 r.f4] 3 (0, 0)) ∧
                  J (pre ++ [(d : Int)]) (((W5.setCell ⟨B2, 0, none⟩ (.string r.f1)).setCell ⟨B3, 0, none⟩ (.int .i64 r.f4)).drewN q) ∧
                  Below S0 w0 (((W5.setCell ⟨B2, 0, none⟩ (.string r.f1)).setCell ⟨B3, 0, none⟩ (.int .i64 r.f4)).drewN q)) ∧
                Aside0 ((((W5.setCell ⟨B2, 0, none⟩ (.string r.f1)).setCell ⟨B3, 0, none⟩ (.int .i64 r.f4)).drewN q).heap[W1.heap.size]? = some (.cells ((met.set d true).map Value.bool).toArray 4 (0, 0)))) := ⟨fun q => by
              refine ⟨⟨by show W1.heap.size < ((W5.setCell ⟨B2, 0, none⟩ (.string r.f1)).setCell ⟨B3, 0, none⟩ (.int .i64 r.f4)).heap.size; simpa using hL5⟩, ⟨?_, ?_, ?_, ?_, ?_⟩, ⟨?_⟩⟩
              · refine blk_drewN ?_ q
                rw [Below.heap_setCell _ _ _ _ hne13, Below.heap_setCell _ _ _ _ hne12]; exact q1
              · refine blk_drewN ?_ q
                rw [Below.heap_setCell _ _ _ _ hne23]
                exact blk_set q2 0 (.string r.f1)
              · refine blk_drewN ?_ q
                have q3' : (W5.setCell ⟨B2, 0, none⟩ (.string r.f1)).heap[B3]? = some (.cells #[.int .i64 on'] 3 (0, 0)) := by
                  rw [Below.heap_setCell _ _ _ _ (Ne.symm hne23)]; exact q3
                exact blk_set q3' 0 (.int .i64 r.f4)
              · exact HJb.out _ _ _ (HJs.out _ _ _ _ _ (.inr (.inl rfl)) (HJs.out _ _ _ _ _ (.inl rfl) q7)) (pw_below_drewN (Below.refl _ _) q)
              · exact pw_below_drewN ((q6.setCell (p := ⟨B2, 0, none⟩) hge2 _).setCell (p := ⟨B3, 0, none⟩) hge3 _) q
              · refine blk_drewN ?_ q
                rw [Below.heap_setCell _ _ _ _ (Ne.symm hne3), Below.heap_setCell _ _ _ _ (Ne.symm hne2)]; exact q4⟩
            clear q1 q2 q3 q4 q6 q7 hC5 hx0 hx2 hx3 hx5 hL5
            gi_region
            gi_wp2
            go_roundg k
            case measure => omega
            case rel => exact ⟨r.f1, r.f4, met.set d true, pre ++ [(d : Int)], ⟨by rw [List.length_set]; exact hml.out⟩, HR5, ⟨by have := HP.out; simp; omega⟩, (FIN.out 1).1, (FIN.out 1).2.1, (FIN.out 1).2.2⟩
        · rw [hmt, if_pos rfl] at HR2
          rw [hmt] at hcM
          obtain ⟨rfl, rfl⟩ := Prod.mk.inj (Option.some.inj HR2)
          obtain ⟨fn, tmps, assign, body, hy, hR⟩ := HYe.out pre d 16 w3 hJ' (by decide)
          clear HR HR2 hi0 hmt
          have hil' : (d : Int) < (l.length : Int) := hil
          have HRR := Aside0.mk hR
          have S1 := Aside0.mk hb1'
          have S2 := Aside0.mk hb2'
          have S3 := Aside0.mk hb3'
          have S4 := Aside0.mk hM'
          have S5 := Aside0.mk hJ'
          have S6 := Aside0.mk hB'
          clear hR hb1' hb2' hb3' hM' hJ' hB'
          gi_wp2
          refine ⟨fun h => (by cases h), ?_⟩
          refine HRR.out.mono ?_
          rintro e W4 ⟨rfl, hJx⟩
          gi_wp2
          refine bodyPost_ret (results_none rfl _ _ _) rfl ?_
          exact ⟨⟨_, rfl⟩, .inr ⟨by decide, rfl, hJx⟩⟩
      · have HR2 := HR.out
        rw [if_neg he] at HR2
        obtain ⟨rfl, rfl⟩ := Prod.mk.inj (Option.some.inj HR2)
        obtain ⟨fn, tmps, assign, body, hy, hR⟩ := HYe.out pre i er w3 hJ' he
        have he1 : (er == 0) = false := beq_eq_false_iff_ne.2 he
        have he2 : (er != 0) = true := bne_iff_ne.2 he
        have HE := Aside0.mk he
        have HRR := Aside0.mk hR
        clear hR hb1' hb2' hb3' hM' hJ' hB' HR HR2 he
        gi_wp2
        refine ⟨fun h => (by cases h), ?_⟩
        refine HRR.out.mono ?_
        rintro e W4 ⟨rfl, hJx⟩
        gi_wp2
        refine bodyPost_ret (results_none rfl _ _ _) rfl ?_
        exact ⟨⟨_, rfl⟩, .inr ⟨HE.out, rfl, hJx⟩⟩
end Go.Proofs.Ytkgdlbepjmgaiaa.Cal
