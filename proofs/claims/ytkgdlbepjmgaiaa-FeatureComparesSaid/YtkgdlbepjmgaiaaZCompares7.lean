/- FeatureCompares: for every input the law returns true, and each argument reads behind the call as it read before: the row, out of the walk and the plain law. No condition. -/
import Derived.Test.YtkgdlbepjmgaiaaProg
import Derived.WalkKit
import Derived.ProofKit
import Derived.ChangeArms
import Derived.SizedLaws
import Derived.Test.YtkgdlbepjmgaiaaRows
import Derived.OpenShut
import Derived.ShutString
import Derived.ChangeOld
import Derived.Below
import Derived.Test.YtkgdlbepjmgaiaaZCompares6
namespace Go.Proofs.Ytkgdlbepjmgaiaa.Fea
open Go.RowKit Go.Proofs.YtkgdlbepjmgaiaaW.PrintWords Go.Proofs.YtkgdlbepjmgaiaaW.PrintLast Go.Proofs.YtkgdlbepjmgaiaaW.PrintMore
attribute [local go_sem] max2_int min2_int max_two min_two max_three min_three max_four min_four
set_option linter.unusedVariables false
set_option linter.unusedSimpArgs false
def metrolablaw18_FeatureCompares.j0 : Nat → Bool → ByteArray → Int → Int → Int → Int → Int → Int → Int → List (S104) → ByteArray → Int → Int → Int → Int → Int → Int → Int → List (S104) → Option (Bool)
  | 0, _, _, _, _, _, _, _, _, _, _, _, _, _, _, _, _, _, _, _ => none
  | k + 1, x12, x364000, x364001, x364002, x364003, x364004, x364005, x364006, x364007, x364008, x365000, x365001, x365002, x365003, x365004, x365005, x365006, x365007, x365008 => if x12 = true then ((metrolablaw18_awake.f).bind fun t367 => (some t367)) else ((metrolablaw18_awake.f).bind fun t368 => (if t368 = true then ((feature_Same.f k x364000 x364001 x364002 x364003 x364004 x364005 x364006 x364007 x364008 x365000 x365001 x365002 x365003 x365004 x365005 x365006 x365007 x365008).bind fun t369 => ((metrolabref18_Same.f k x364000 x364001 x364002 x364003 x364004 x364005 x364006 x364007 x364008 x365000 x365001 x365002 x365003 x365004 x365005 x365006 x365007 x365008).bind fun t370 => (if (t369 == t370) = true then ((feature_Same.f k x364000 x364001 x364002 x364003 x364004 x364005 x364006 x364007 x364008 x364000 x364001 x364002 x364003 x364004 x364005 x364006 x364007 x364008).bind fun t371 => (if t371 = true then ((feature_Same.f k x365000 x365001 x365002 x365003 x365004 x365005 x365006 x365007 x365008 x365000 x365001 x365002 x365003 x365004 x365005 x365006 x365007 x365008).bind fun t372 => (some t372)) else (some false))) else (some false)))) else (some false)))
def metrolablaw18_FeatureCompares.f (k : Nat) (a0_0 : ByteArray) (a0_1 : Int) (a0_2 : Int) (a0_3 : Int) (a0_4 : Int) (a0_5 : Int) (a0_6 : Int) (a0_7 : Int) (l0_8 : List (S104)) (a1_0 : ByteArray) (a1_1 : Int) (a1_2 : Int) (a1_3 : Int) (a1_4 : Int) (a1_5 : Int) (a1_6 : Int) (a1_7 : Int) (l1_8 : List (S104)) : Option (Bool) := (metrolabref18_Few.f k a0_0 a0_1 a0_2 a0_3 a0_4 a0_5 a0_6 a0_7 l0_8).bind fun t365 => (if t365 = true then ((metrolabref18_Few.f k a1_0 a1_1 a1_2 a1_3 a1_4 a1_5 a1_6 a1_7 l1_8).bind fun t366 => (metrolablaw18_FeatureCompares.j0 k (!t366) a0_0 a0_1 a0_2 a0_3 a0_4 a0_5 a0_6 a0_7 l0_8 a1_0 a1_1 a1_2 a1_3 a1_4 a1_5 a1_6 a1_7 l1_8)) else (metrolablaw18_FeatureCompares.j0 k true a0_0 a0_1 a0_2 a0_3 a0_4 a0_5 a0_6 a0_7 l0_8 a1_0 a1_1 a1_2 a1_3 a1_4 a1_5 a1_6 a1_7 l1_8))
theorem metrolablaw18_FeatureCompares.mono_l : ∀ k, (∀ y0 y1 y2 y3 y4 y5 y6 y7 y8 y9 y10 y11 y12 y13 y14 y15 y16 y17 y18, LeO (metrolablaw18_FeatureCompares.j0 k y0 y1 y2 y3 y4 y5 y6 y7 y8 y9 y10 y11 y12 y13 y14 y15 y16 y17 y18) (metrolablaw18_FeatureCompares.j0 (k + 1) y0 y1 y2 y3 y4 y5 y6 y7 y8 y9 y10 y11 y12 y13 y14 y15 y16 y17 y18))
 | 0 => fun _ _ _ _ _ _ _ _ _ _ _ _ _ _ _ _ _ _ _ r h => by simp [metrolablaw18_FeatureCompares.j0] at h
 | k + 1 => by
  have ih0 := metrolablaw18_FeatureCompares.mono_l k
  ·intro y0 y1 y2 y3 y4 y5 y6 y7 y8 y9 y10 y11 y12 y13 y14 y15 y16 y17 y18
   unfold metrolablaw18_FeatureCompares.j0
   repeat' first
   | (with_reducible exact ih0 _ _ _ _ _ _ _ _ _ _ _ _ _ _ _ _ _ _ _)
   | (with_reducible exact feature_Same.mono _ _ _ _ _ _ _ _ _ _ _ _ _ _ _ _ _ _ _)
   | (with_reducible exact metrolabref18_Few.mono _ _ _ _ _ _ _ _ _ _)
   | (with_reducible exact metrolabref18_Same.mono _ _ _ _ _ _ _ _ _ _ _ _ _ _ _ _ _ _ _)
   | (with_reducible exact LeO.refl _)
   | (with_reducible exact LeO.none _)
   | (with_reducible refine LeO.ite ?_ ?_)
   | (with_reducible refine LeO.bind ?_ (fun _ => ?_))
   | exact ih0 _ _ _ _ _ _ _ _ _ _ _ _ _ _ _ _ _ _ _
   | exact feature_Same.mono _ _ _ _ _ _ _ _ _ _ _ _ _ _ _ _ _ _ _
   | exact metrolabref18_Few.mono _ _ _ _ _ _ _ _ _ _
   | exact metrolabref18_Same.mono _ _ _ _ _ _ _ _ _ _ _ _ _ _ _ _ _ _ _
   | exact LeO.none _
   | refine LeO.ite ?_ ?_
   | refine LeO.bind ?_ (fun _ => ?_)
theorem metrolablaw18_FeatureCompares.mono : ∀ a0 a1 a2 a3 a4 a5 a6 a7 a8 a9 a10 a11 a12 a13 a14 a15 a16 a17 k, LeO (metrolablaw18_FeatureCompares.f k a0 a1 a2 a3 a4 a5 a6 a7 a8 a9 a10 a11 a12 a13 a14 a15 a16 a17) (metrolablaw18_FeatureCompares.f (k + 1) a0 a1 a2 a3 a4 a5 a6 a7 a8 a9 a10 a11 a12 a13 a14 a15 a16 a17) := by
 intro a0 a1 a2 a3 a4 a5 a6 a7 a8 a9 a10 a11 a12 a13 a14 a15 a16 a17 k
 have ih0 := metrolablaw18_FeatureCompares.mono_l k
 unfold metrolablaw18_FeatureCompares.f
 repeat' first
  | (with_reducible exact ih0 _ _ _ _ _ _ _ _ _ _ _ _ _ _ _ _ _ _ _)
  | (with_reducible exact feature_Same.mono _ _ _ _ _ _ _ _ _ _ _ _ _ _ _ _ _ _ _)
  | (with_reducible exact metrolabref18_Few.mono _ _ _ _ _ _ _ _ _ _)
  | (with_reducible exact metrolabref18_Same.mono _ _ _ _ _ _ _ _ _ _ _ _ _ _ _ _ _ _ _)
  | (with_reducible exact LeO.refl _)
  | (with_reducible exact LeO.none _)
  | (with_reducible refine LeO.ite ?_ ?_)
  | (with_reducible refine LeO.bind ?_ (fun _ => ?_))
  | exact ih0 _ _ _ _ _ _ _ _ _ _ _ _ _ _ _ _ _ _ _
  | exact feature_Same.mono _ _ _ _ _ _ _ _ _ _ _ _ _ _ _ _ _ _ _
  | exact metrolabref18_Few.mono _ _ _ _ _ _ _ _ _ _
  | exact metrolabref18_Same.mono _ _ _ _ _ _ _ _ _ _ _ _ _ _ _ _ _ _ _
  | exact LeO.none _
  | refine LeO.ite ?_ ?_
  | refine LeO.bind ?_ (fun _ => ?_)
def metrolablaw18_FeatureCompares.T3 : Bool × List (List Nat × List Nat) := (true, [([], []), ([0, 0], [0]), ([1], [1]), ([1], [1]), ([2, 3, 1, 1], [1, 2, 3]), ([1], [1]), ([1], [1]), ([5, 6, 4, 1], [1, 5, 6]), ([4, 7, 1], [1, 4, 7]), ([1, 8], [1, 8]), ([9, 7], [9]), ([10], [10]), ([10], [10]), ([11, 12, 10, 10], [10, 11, 12]), ([10, 13], [10, 13]), ([14, 13], [14]), ([15], [15]), ([15], [15]), ([16, 17, 15, 15], [15, 16, 17]), ([15, 18], [15, 18]), ([19, 18, 0, 1, 2, 3, 4, 5, 6, 7, 8, 9, 10, 11, 12, 13, 14, 15, 16, 17, 18, 19], [19])])
def metrolablaw18_FeatureCompares.B3 : List Nat := [0, 1, 3, 3, 15, 3, 3, 127, 255, 511, 1023, 2047, 2047, 8191, 16383, 32767, 65535, 65535, 262143, 524287, 1048575]
theorem metrolablaw18_FeatureCompares.tab3 : rtab .any (opsOf Try.f9 3) = metrolablaw18_FeatureCompares.T3 := by kernel_rfl
theorem metrolablaw18_FeatureCompares.bits3 : waitsOk metrolablaw18_FeatureCompares.T3.2 metrolablaw18_FeatureCompares.B3 = true := by kernel_rfl
set_option maxHeartbeats 8000000 in
set_option maxRecDepth 100000 in
theorem metrolablaw18_FeatureCompares.calls (k : Nat) (a0_0 : ByteArray) (a0_1 : Int) (a0_2 : Int) (a0_3 : Int) (a0_4 : Int) (a0_5 : Int) (a0_6 : Int) (a0_7 : Int) (A0_8 : Option Addr) (c0_8 : Nat) (l0_8 : List (S104)) (a1_0 : ByteArray) (a1_1 : Int) (a1_2 : Int) (a1_3 : Int) (a1_4 : Int) (a1_5 : Int) (a1_6 : Int) (a1_7 : Int) (A1_8 : Option Addr) (c1_8 : Nat) (l1_8 : List (S104)) (r : Bool) (w : World) (hr0_8 : Kd.C k104 w A0_8 l0_8.length l0_8) (hc0_8 : l0_8.length ≤ c0_8) (hr1_8 : Kd.C k104 w A1_8 l1_8.length l1_8) (hc1_8 : l1_8.length ≤ c1_8) (hrt : r = true) (h : metrolablaw18_FeatureCompares.f k a0_0 a0_1 a0_2 a0_3 a0_4 a0_5 a0_6 a0_7 l0_8 a1_0 a1_1 a1_2 a1_3 a1_4 a1_5 a1_6 a1_7 l1_8 = some r) :
 Calls Try.prog 9 #[.agg #[.string a0_0, .int .i64 a0_1, .int .i64 a0_2, .int .i64 a0_3, .int .i64 a0_4, .int .i64 a0_5, .int .i64 a0_6, .int .i64 a0_7, .slice A0_8 l0_8.length c0_8], .agg #[.string a1_0, .int .i64 a1_1, .int .i64 a1_2, .int .i64 a1_3, .int .i64 a1_4, .int .i64 a1_5, .int .i64 a1_6, .int .i64 a1_7, .slice A1_8 l1_8.length c1_8]] w fun e w' => e = .returned (.bool r) ∧ Below w.heap.size w w' := by
 have HRT := zm hrt
 clear hrt
 have hu28 := Try.underlying28
 have HR0_8 := zm hr0_8
 have HC0_8 := zm hc0_8
 clear hr0_8 hc0_8
 have HR1_8 := zm hr1_8
 have HC1_8 := zm hc1_8
 clear hr1_8 hc1_8
 have HB := zm (Below.refl w.heap.size w)
 have H : ((metrolabref18_Few.f k a0_0 a0_1 a0_2 a0_3 a0_4 a0_5 a0_6 a0_7 l0_8).bind fun t365 => (if t365 = true then ((metrolabref18_Few.f k a1_0 a1_1 a1_2 a1_3 a1_4 a1_5 a1_6 a1_7 l1_8).bind fun t366 => (metrolablaw18_FeatureCompares.j0 k (!t366) a0_0 a0_1 a0_2 a0_3 a0_4 a0_5 a0_6 a0_7 l0_8 a1_0 a1_1 a1_2 a1_3 a1_4 a1_5 a1_6 a1_7 l1_8)) else (metrolablaw18_FeatureCompares.j0 k true a0_0 a0_1 a0_2 a0_3 a0_4 a0_5 a0_6 a0_7 l0_8 a1_0 a1_1 a1_2 a1_3 a1_4 a1_5 a1_6 a1_7 l1_8))) = some r := h
 clear h
 have HC3 := zm H
 clear H
 go_enter Try.func9, Try.ntmps9
 go_upto_region 1 with (first | ((with_reducible refine gate_dst (N := 2) rfl ?_); refine box_event ?hg (N := 2) ?hd (cs := #[.string a0_0, .int .i64 a0_1, .int .i64 a0_2, .int .i64 a0_3, .int .i64 a0_4, .int .i64 a0_5, .int .i64 a0_6, .int .i64 a0_7, .slice A0_8 l0_8.length c0_8]) (t := 28) ?hr ?_; (case hd => rfl); (case hg => rfl); (case hr => first | (go_simp; done) | (go_simp; rfl)); intro gb363 hg w4 hbox hb; have n0_ := zm (below_step (by repeat (first | (with_reducible first | exact HB.out | apply zA | apply zD | apply zE) | exact HB.out)) hb); have n1_ := zm (hbox); have n2_ := zm ((by rw [hg]; exact (below_size (by repeat (first | (with_reducible first | exact HB.out | apply zA | apply zD | apply zE) | exact HB.out))) : w.heap.size ≤ gb363)); have n3_ := zm ((by rw [hg]; exact (below_size (by repeat (first | (with_reducible first | exact HB.out | apply zA | apply zD | apply zE) | exact HB.out))) : w.heap.size ≤ gb363)); clear HB; have HB := n0_; have BK363 := n1_; have GW363 := n2_; have GE363 := n3_; clear n0_ n1_ n2_ n3_; clear hb hbox hg) | ((with_reducible refine gate_dst (N := 3) rfl ?_); refine box_event ?hg (N := 3) ?hd (cs := #[.string a1_0, .int .i64 a1_1, .int .i64 a1_2, .int .i64 a1_3, .int .i64 a1_4, .int .i64 a1_5, .int .i64 a1_6, .int .i64 a1_7, .slice A1_8 l1_8.length c1_8]) (t := 28) ?hr ?_; (case hd => rfl); (case hg => rfl); (case hr => first | (go_simp; done) | (go_simp; rfl)); intro gb364 hg w5 hbox hb; have n0_ := zm (zb (g := gb363) (o := .cells #[.string a0_0, .int .i64 a0_1, .int .i64 a0_2, .int .i64 a0_3, .int .i64 a0_4, .int .i64 a0_5, .int .i64 a0_6, .int .i64 a0_7, .slice A0_8 l0_8.length c0_8] 28 (0, 0)) (by (with_reducible repeat first | apply zd | apply ze | apply za); exact BK363.out) hb); have n1_ := zm (below_step (by repeat (first | (with_reducible first | exact HB.out | apply zA | apply zD | apply zE | refine zS ?_ GE363.out) | exact HB.out)) hb); have n2_ := zm (hbox); have n3_ := zm ((by rw [hg]; exact (below_size (by repeat (first | (with_reducible first | exact HB.out | apply zA | apply zD | apply zE | refine zS ?_ GE363.out) | exact HB.out))) : w.heap.size ≤ gb364)); have n4_ := zm ((by rw [hg]; exact (below_size (by repeat (first | (with_reducible first | exact HB.out | apply zA | apply zD | apply zE | refine zS ?_ GE363.out) | exact HB.out))) : w.heap.size ≤ gb364)); have n5_ := zm ((by rw [hg]; exact Nat.ne_of_lt (blk_lt (g := gb363) (o := .cells #[.string a0_0, .int .i64 a0_1, .int .i64 a0_2, .int .i64 a0_3, .int .i64 a0_4, .int .i64 a0_5, .int .i64 a0_6, .int .i64 a0_7, .slice A0_8 l0_8.length c0_8] 28 (0, 0)) (by (with_reducible repeat first | apply zd | apply ze | apply za); exact BK363.out)) : gb363 ≠ gb364)); have n6_ := zm ((by rw [hg]; exact Nat.ne_of_gt (blk_lt (g := gb363) (o := .cells #[.string a0_0, .int .i64 a0_1, .int .i64 a0_2, .int .i64 a0_3, .int .i64 a0_4, .int .i64 a0_5, .int .i64 a0_6, .int .i64 a0_7, .slice A0_8 l0_8.length c0_8] 28 (0, 0)) (by (with_reducible repeat first | apply zd | apply ze | apply za); exact BK363.out)) : gb364 ≠ gb363)); clear BK363 HB; have BK363 := n0_; have HB := n1_; have BK364 := n2_; have GW364 := n3_; have GE364 := n4_; have NB363_364 := n5_; have NB364_363 := n6_; clear n0_ n1_ n2_ n3_ n4_ n5_ n6_; clear hb hbox hg))
 (try simp only [Act.put, zx, zy, zz])
 go_cut [12] (fun v12 wc => ∃ (kq : Nat) (x12_2 : Bool), v12 = .bool x12_2 ∧ Aside0 (metrolablaw18_FeatureCompares.j0 kq x12_2 a0_0 a0_1 a0_2 a0_3 a0_4 a0_5 a0_6 a0_7 l0_8 a1_0 a1_1 a1_2 a1_3 a1_4 a1_5 a1_6 a1_7 l1_8 = some r) ∧ Aside0 (kq ≤ k) ∧ Aside0 (wc.heap[gb363]? = some (.cells #[.string a0_0, .int .i64 a0_1, .int .i64 a0_2, .int .i64 a0_3, .int .i64 a0_4, .int .i64 a0_5, .int .i64 a0_6, .int .i64 a0_7, (.slice A0_8 l0_8.length c0_8)] 28 (0, 0))) ∧ Aside0 (wc.heap[gb364]? = some (.cells #[.string a1_0, .int .i64 a1_1, .int .i64 a1_2, .int .i64 a1_3, .int .i64 a1_4, .int .i64 a1_5, .int .i64 a1_6, .int .i64 a1_7, (.slice A1_8 l1_8.length c1_8)] 28 (0, 0))) ∧ Aside0 (Below w.heap.size w wc))
 case first =>
  have H := HC3.out
  clear HC3
  replace H := Option.bind_eq_some_iff.mp H
  obtain ⟨t365, A60, H⟩ := H
  replace H : (if t365 = true then ((metrolabref18_Few.f k a1_0 a1_1 a1_2 a1_3 a1_4 a1_5 a1_6 a1_7 l1_8).bind fun t366 => (metrolablaw18_FeatureCompares.j0 k (!t366) a0_0 a0_1 a0_2 a0_3 a0_4 a0_5 a0_6 a0_7 l0_8 a1_0 a1_1 a1_2 a1_3 a1_4 a1_5 a1_6 a1_7 l1_8)) else (metrolablaw18_FeatureCompares.j0 k true a0_0 a0_1 a0_2 a0_3 a0_4 a0_5 a0_6 a0_7 l0_8 a1_0 a1_1 a1_2 a1_3 a1_4 a1_5 a1_6 a1_7 l1_8)) = some r := H
  have A6 := zm A60
  clear A60
  by_cases c7 : t365 = true
  ·subst c7
   have H1 : ((metrolabref18_Few.f k a1_0 a1_1 a1_2 a1_3 a1_4 a1_5 a1_6 a1_7 l1_8).bind fun t366 => (metrolablaw18_FeatureCompares.j0 k (!t366) a0_0 a0_1 a0_2 a0_3 a0_4 a0_5 a0_6 a0_7 l0_8 a1_0 a1_1 a1_2 a1_3 a1_4 a1_5 a1_6 a1_7 l1_8)) = some r := by rw [if_pos rfl] at H; exact H
   clear H
   have H := H1
   clear H1
   replace H := Option.bind_eq_some_iff.mp H
   obtain ⟨t366, A80, H⟩ := H
   replace H : (metrolablaw18_FeatureCompares.j0 k (!t366) a0_0 a0_1 a0_2 a0_3 a0_4 a0_5 a0_6 a0_7 l0_8 a1_0 a1_1 a1_2 a1_3 a1_4 a1_5 a1_6 a1_7 l1_8) = some r := H
   have A8 := zm A80
   clear A80
   have H' := zm H
   clear H
   have hnb9 := NB363_364.out
   have hnc9 := NB364_363.out
   have hcz10_0 := zc BK363.out 0 (.string a0_0) rfl
   have hcz10_1 := zc BK363.out 1 (.int .i64 a0_1) rfl
   have hcz10_2 := zc BK363.out 2 (.int .i64 a0_2) rfl
   have hcz10_3 := zc BK363.out 3 (.int .i64 a0_3) rfl
   have hcz10_4 := zc BK363.out 4 (.int .i64 a0_4) rfl
   have hcz10_5 := zc BK363.out 5 (.int .i64 a0_5) rfl
   have hcz10_6 := zc BK363.out 6 (.int .i64 a0_6) rfl
   have hcz10_7 := zc BK363.out 7 (.int .i64 a0_7) rfl
   have hcz10_8 := zc BK363.out 8 (.slice A0_8 l0_8.length c0_8) rfl
   have hfz10_0 := zf BK363.out 0
   have hfz10_1 := zf BK363.out 1
   have hfz10_2 := zf BK363.out 2
   have hfz10_3 := zf BK363.out 3
   have hfz10_4 := zf BK363.out 4
   have hfz10_5 := zf BK363.out 5
   have hfz10_6 := zf BK363.out 6
   have hfz10_7 := zf BK363.out 7
   have hfz10_8 := zf BK363.out 8
   go_wp2_with (first | ((with_reducible refine gate_callee (f := 17) rfl ?_); refine goesL_ (some 6) rfl rfl Try.func17 (by kernel_rfl) rfl #[.agg #[.string a0_0, .int .i64 a0_1, .int .i64 a0_2, .int .i64 a0_3, .int .i64 a0_4, .int .i64 a0_5, .int .i64 a0_6, .int .i64 a0_7, .slice A0_8 l0_8.length c0_8]] rfl (by (try simp only [List.map_toArray, List.map_cons, List.map_nil]); first | done | rfl | (simp only [List.length_drop, List.length_take]; rfl)) ?_; (with_reducible refine (metrolabref18_Few.calls k a0_0 a0_1 a0_2 a0_3 a0_4 a0_5 a0_6 a0_7 _ _ l0_8 true _ ?side1 ?side2 A6.out).mono ?_); (case side1 => repeat (first | exact (Kd.C_below HR0_8.out HB.out) | (with_reducible refine Kd.C_alloc ?_ _) | (with_reducible refine Kd.C_drewN ?_ _) | (with_reducible refine Kd.C_drew ?_))); (case side2 => exact HC0_8.out); rintro e w11 ⟨rfl, hb⟩; refine ⟨_, rfl, ?_⟩; have n0_ := zm (zb (g := gb363) (o := .cells #[.string a0_0, .int .i64 a0_1, .int .i64 a0_2, .int .i64 a0_3, .int .i64 a0_4, .int .i64 a0_5, .int .i64 a0_6, .int .i64 a0_7, .slice A0_8 l0_8.length c0_8] 28 (0, 0)) (by (with_reducible repeat first | apply zd | apply ze | apply za); exact BK363.out) hb); have n1_ := zm (zb (g := gb364) (o := .cells #[.string a1_0, .int .i64 a1_1, .int .i64 a1_2, .int .i64 a1_3, .int .i64 a1_4, .int .i64 a1_5, .int .i64 a1_6, .int .i64 a1_7, .slice A1_8 l1_8.length c1_8] 28 (0, 0)) (by (with_reducible repeat first | apply zd | apply ze | apply za); exact BK364.out) hb); have n2_ := zm (below_step (by repeat (first | (with_reducible first | exact HB.out | apply zA | apply zD | apply zE | refine zS ?_ GE363.out | refine zS ?_ GE364.out) | exact HB.out)) hb); clear BK363 BK364 HB; have BK363 := n0_; have BK364 := n1_; have HB := n2_; clear n0_ n1_ n2_; (try clear hb); (try clear hb2); (try clear hk); (try clear hi); have hcz12_0 := zc BK364.out 0 (.string a1_0) rfl; have hcz12_1 := zc BK364.out 1 (.int .i64 a1_1) rfl; have hcz12_2 := zc BK364.out 2 (.int .i64 a1_2) rfl; have hcz12_3 := zc BK364.out 3 (.int .i64 a1_3) rfl; have hcz12_4 := zc BK364.out 4 (.int .i64 a1_4) rfl; have hcz12_5 := zc BK364.out 5 (.int .i64 a1_5) rfl; have hcz12_6 := zc BK364.out 6 (.int .i64 a1_6) rfl; have hcz12_7 := zc BK364.out 7 (.int .i64 a1_7) rfl; have hcz12_8 := zc BK364.out 8 (.slice A1_8 l1_8.length c1_8) rfl; have hfz12_0 := zf BK364.out 0; have hfz12_1 := zf BK364.out 1; have hfz12_2 := zf BK364.out 2; have hfz12_3 := zf BK364.out 3; have hfz12_4 := zf BK364.out 4; have hfz12_5 := zf BK364.out 5; have hfz12_6 := zf BK364.out 6; have hfz12_7 := zf BK364.out 7; have hfz12_8 := zf BK364.out 8) | (go_at_call 17; (with_reducible refine (metrolabref18_Few.calls k a1_0 a1_1 a1_2 a1_3 a1_4 a1_5 a1_6 a1_7 _ _ l1_8 t366 _ ?side1 ?side2 A8.out).mono ?_); (case side1 => repeat (first | exact (Kd.C_below HR1_8.out HB.out) | (with_reducible refine Kd.C_alloc ?_ _) | (with_reducible refine Kd.C_drewN ?_ _) | (with_reducible refine Kd.C_drew ?_))); (case side2 => exact HC1_8.out); rintro e w13 ⟨rfl, hb⟩; have n0_ := zm (zb (g := gb363) (o := .cells #[.string a0_0, .int .i64 a0_1, .int .i64 a0_2, .int .i64 a0_3, .int .i64 a0_4, .int .i64 a0_5, .int .i64 a0_6, .int .i64 a0_7, .slice A0_8 l0_8.length c0_8] 28 (0, 0)) (by (with_reducible repeat first | apply zd | apply ze | apply za); exact BK363.out) hb); have n1_ := zm (zb (g := gb364) (o := .cells #[.string a1_0, .int .i64 a1_1, .int .i64 a1_2, .int .i64 a1_3, .int .i64 a1_4, .int .i64 a1_5, .int .i64 a1_6, .int .i64 a1_7, .slice A1_8 l1_8.length c1_8] 28 (0, 0)) (by (with_reducible repeat first | apply zd | apply ze | apply za); exact BK364.out) hb); have n2_ := zm (below_step (by repeat (first | (with_reducible first | exact HB.out | apply zA | apply zD | apply zE | refine zS ?_ GE363.out | refine zS ?_ GE364.out) | exact HB.out)) hb); clear BK363 BK364 HB; have BK363 := n0_; have BK364 := n1_; have HB := n2_; clear n0_ n1_ n2_; (try clear hb); (try clear hb2); (try clear hk); (try clear hi)))
   go_meet
   case rel => exact ⟨_, (!t366), (by first | rfl | (simp; done) | (simp [*]; done)), H', ⟨by first | omega | exact Nat.le_refl _⟩, ⟨by (with_reducible repeat first | apply zd | apply ze | apply za); exact BK363.out⟩, ⟨by (with_reducible repeat first | apply zd | apply ze | apply za); exact BK364.out⟩, ⟨by repeat (first | (with_reducible first | exact HB.out | apply zA | apply zD | apply zE | refine zS ?_ GE363.out | refine zS ?_ GE364.out) | exact HB.out)⟩⟩
  ·replace c7 := Bool.eq_false_iff.mpr c7
   subst c7
   have H1 : (metrolablaw18_FeatureCompares.j0 k true a0_0 a0_1 a0_2 a0_3 a0_4 a0_5 a0_6 a0_7 l0_8 a1_0 a1_1 a1_2 a1_3 a1_4 a1_5 a1_6 a1_7 l1_8) = some r := by rw [if_neg (show ¬ (false = true) by decide)] at H; exact H
   clear H
   have H := H1
   clear H1
   have H' := zm H
   clear H
   have hnb14 := NB363_364.out
   have hnc14 := NB364_363.out
   have hcz15_0 := zc BK363.out 0 (.string a0_0) rfl
   have hcz15_1 := zc BK363.out 1 (.int .i64 a0_1) rfl
   have hcz15_2 := zc BK363.out 2 (.int .i64 a0_2) rfl
   have hcz15_3 := zc BK363.out 3 (.int .i64 a0_3) rfl
   have hcz15_4 := zc BK363.out 4 (.int .i64 a0_4) rfl
   have hcz15_5 := zc BK363.out 5 (.int .i64 a0_5) rfl
   have hcz15_6 := zc BK363.out 6 (.int .i64 a0_6) rfl
   have hcz15_7 := zc BK363.out 7 (.int .i64 a0_7) rfl
   have hcz15_8 := zc BK363.out 8 (.slice A0_8 l0_8.length c0_8) rfl
   have hfz15_0 := zf BK363.out 0
   have hfz15_1 := zf BK363.out 1
   have hfz15_2 := zf BK363.out 2
   have hfz15_3 := zf BK363.out 3
   have hfz15_4 := zf BK363.out 4
   have hfz15_5 := zf BK363.out 5
   have hfz15_6 := zf BK363.out 6
   have hfz15_7 := zf BK363.out 7
   have hfz15_8 := zf BK363.out 8
   go_wp2_with (first | ((with_reducible refine gate_callee (f := 17) rfl ?_); refine goesL_ (some 6) rfl rfl Try.func17 (by kernel_rfl) rfl #[.agg #[.string a0_0, .int .i64 a0_1, .int .i64 a0_2, .int .i64 a0_3, .int .i64 a0_4, .int .i64 a0_5, .int .i64 a0_6, .int .i64 a0_7, .slice A0_8 l0_8.length c0_8]] rfl (by (try simp only [List.map_toArray, List.map_cons, List.map_nil]); first | done | rfl | (simp only [List.length_drop, List.length_take]; rfl)) ?_; (with_reducible refine (metrolabref18_Few.calls k a0_0 a0_1 a0_2 a0_3 a0_4 a0_5 a0_6 a0_7 _ _ l0_8 false _ ?side1 ?side2 A6.out).mono ?_); (case side1 => repeat (first | exact (Kd.C_below HR0_8.out HB.out) | (with_reducible refine Kd.C_alloc ?_ _) | (with_reducible refine Kd.C_drewN ?_ _) | (with_reducible refine Kd.C_drew ?_))); (case side2 => exact HC0_8.out); rintro e w16 ⟨rfl, hb⟩; refine ⟨_, rfl, ?_⟩; have n0_ := zm (zb (g := gb363) (o := .cells #[.string a0_0, .int .i64 a0_1, .int .i64 a0_2, .int .i64 a0_3, .int .i64 a0_4, .int .i64 a0_5, .int .i64 a0_6, .int .i64 a0_7, .slice A0_8 l0_8.length c0_8] 28 (0, 0)) (by (with_reducible repeat first | apply zd | apply ze | apply za); exact BK363.out) hb); have n1_ := zm (zb (g := gb364) (o := .cells #[.string a1_0, .int .i64 a1_1, .int .i64 a1_2, .int .i64 a1_3, .int .i64 a1_4, .int .i64 a1_5, .int .i64 a1_6, .int .i64 a1_7, .slice A1_8 l1_8.length c1_8] 28 (0, 0)) (by (with_reducible repeat first | apply zd | apply ze | apply za); exact BK364.out) hb); have n2_ := zm (below_step (by repeat (first | (with_reducible first | exact HB.out | apply zA | apply zD | apply zE | refine zS ?_ GE363.out | refine zS ?_ GE364.out) | exact HB.out)) hb); clear BK363 BK364 HB; have BK363 := n0_; have BK364 := n1_; have HB := n2_; clear n0_ n1_ n2_; (try clear hb); (try clear hb2); (try clear hk); (try clear hi)))
   go_meet
   case rel => exact ⟨_, (true), (by first | rfl | (simp; done) | (simp [*]; done)), H', ⟨by first | omega | exact Nat.le_refl _⟩, ⟨by (with_reducible repeat first | apply zd | apply ze | apply za); exact BK363.out⟩, ⟨by (with_reducible repeat first | apply zd | apply ze | apply za); exact BK364.out⟩, ⟨by repeat (first | (with_reducible first | exact HB.out | apply zA | apply zD | apply zE | refine zS ?_ GE363.out | refine zS ?_ GE364.out) | exact HB.out)⟩⟩
 case rest =>
  clear HC3
  try clear c1
  try clear p2
  try clear c7
  try clear c9
  try clear c14
  try clear hcz10_0
  try clear hcz10_1
  try clear hcz10_2
  try clear hcz10_3
  try clear hcz10_4
  try clear hcz10_5
  try clear hcz10_6
  try clear hcz10_7
  try clear hcz10_8
  try clear hcz12_0
  try clear hcz12_1
  try clear hcz12_2
  try clear hcz12_3
  try clear hcz12_4
  try clear hcz12_5
  try clear hcz12_6
  try clear hcz12_7
  try clear hcz12_8
  try clear hcz15_0
  try clear hcz15_1
  try clear hcz15_2
  try clear hcz15_3
  try clear hcz15_4
  try clear hcz15_5
  try clear hcz15_6
  try clear hcz15_7
  try clear hcz15_8
  try clear hfz10_0
  try clear hfz10_1
  try clear hfz10_2
  try clear hfz10_3
  try clear hfz10_4
  try clear hfz10_5
  try clear hfz10_6
  try clear hfz10_7
  try clear hfz10_8
  try clear hfz12_0
  try clear hfz12_1
  try clear hfz12_2
  try clear hfz12_3
  try clear hfz12_4
  try clear hfz12_5
  try clear hfz12_6
  try clear hfz12_7
  try clear hfz12_8
  try clear hfz15_0
  try clear hfz15_1
  try clear hfz15_2
  try clear hfz15_3
  try clear hfz15_4
  try clear hfz15_5
  try clear hfz15_6
  try clear hfz15_7
  try clear hfz15_8
  obtain ⟨kq, x12_2, rfl, HA, HJ2, BK363, BK364, HB⟩ := hcut
  cases kq with
  | zero => exact absurd HA.out (by simp [metrolablaw18_FeatureCompares.j0])
  | succ kj2 =>
   have H := HA.out
   clear HA
   simp only [metrolablaw18_FeatureCompares.j0] at H
   by_cases c17 : x12_2 = true
   ·subst c17
    have H1 : ((metrolablaw18_awake.f).bind fun t367 => (some t367)) = some r := by rw [if_pos rfl] at H; exact H
    clear H
    have H := H1
    clear H1
    replace H := Option.bind_eq_some_iff.mp H
    obtain ⟨t367, A180, H⟩ := H
    replace H : (some t367) = some r := H
    have A18 := zm A180
    clear A180
    obtain rfl := Option.some.inj H
    go_wp2_with (first | ((with_reducible refine gate_callee (f := 18) rfl ?_); refine goesL_ (some 13) rfl rfl Try.func18 (by kernel_rfl) rfl #[] rfl (by (try simp only [List.map_toArray, List.map_cons, List.map_nil]); first | done | rfl | (simp only [List.length_drop, List.length_take]; rfl)) ?_; (with_reducible refine (metrolablaw18_awake.calls  t367 _ A18.out).mono ?_); rintro e w19 ⟨rfl, hb⟩; refine ⟨_, rfl, ?_⟩; have n0_ := zm (zb (g := gb363) (o := .cells #[.string a0_0, .int .i64 a0_1, .int .i64 a0_2, .int .i64 a0_3, .int .i64 a0_4, .int .i64 a0_5, .int .i64 a0_6, .int .i64 a0_7, .slice A0_8 l0_8.length c0_8] 28 (0, 0)) (by (with_reducible repeat first | apply zd | apply ze | apply za); exact BK363.out) hb); have n1_ := zm (zb (g := gb364) (o := .cells #[.string a1_0, .int .i64 a1_1, .int .i64 a1_2, .int .i64 a1_3, .int .i64 a1_4, .int .i64 a1_5, .int .i64 a1_6, .int .i64 a1_7, .slice A1_8 l1_8.length c1_8] 28 (0, 0)) (by (with_reducible repeat first | apply zd | apply ze | apply za); exact BK364.out) hb); have n2_ := zm (below_step (by repeat (first | (with_reducible first | exact HB.out | apply zA | apply zD | apply zE | refine zS ?_ GE363.out | refine zS ?_ GE364.out) | exact HB.out)) hb); clear BK363 BK364 HB; have BK363 := n0_; have BK364 := n1_; have HB := n2_; clear n0_ n1_ n2_; (try clear hb); (try clear hb2); (try clear hk); (try clear hi)))
    go_ret
    exact ⟨by first | rfl | (simp [errW_none, errW_some] <;> rfl) | (simp [*, errW_none, errW_some] <;> rfl), by repeat (first | (with_reducible first | exact HB.out | apply zA | apply zD | apply zE | refine zS ?_ GE363.out | refine zS ?_ GE364.out) | exact HB.out)⟩
   ·replace c17 := Bool.eq_false_iff.mpr c17
    subst c17
    have H1 : ((metrolablaw18_awake.f).bind fun t368 => (if t368 = true then ((feature_Same.f kj2 a0_0 a0_1 a0_2 a0_3 a0_4 a0_5 a0_6 a0_7 l0_8 a1_0 a1_1 a1_2 a1_3 a1_4 a1_5 a1_6 a1_7 l1_8).bind fun t369 => ((metrolabref18_Same.f kj2 a0_0 a0_1 a0_2 a0_3 a0_4 a0_5 a0_6 a0_7 l0_8 a1_0 a1_1 a1_2 a1_3 a1_4 a1_5 a1_6 a1_7 l1_8).bind fun t370 => (if (t369 == t370) = true then ((feature_Same.f kj2 a0_0 a0_1 a0_2 a0_3 a0_4 a0_5 a0_6 a0_7 l0_8 a0_0 a0_1 a0_2 a0_3 a0_4 a0_5 a0_6 a0_7 l0_8).bind fun t371 => (if t371 = true then ((feature_Same.f kj2 a1_0 a1_1 a1_2 a1_3 a1_4 a1_5 a1_6 a1_7 l1_8 a1_0 a1_1 a1_2 a1_3 a1_4 a1_5 a1_6 a1_7 l1_8).bind fun t372 => (some t372)) else (some false))) else (some false)))) else (some false))) = some r := by rw [if_neg (show ¬ (false = true) by decide)] at H; exact H
    clear H
    have H := H1
    clear H1
    replace H := Option.bind_eq_some_iff.mp H
    obtain ⟨t368, A200, H⟩ := H
    replace H : (if t368 = true then ((feature_Same.f kj2 a0_0 a0_1 a0_2 a0_3 a0_4 a0_5 a0_6 a0_7 l0_8 a1_0 a1_1 a1_2 a1_3 a1_4 a1_5 a1_6 a1_7 l1_8).bind fun t369 => ((metrolabref18_Same.f kj2 a0_0 a0_1 a0_2 a0_3 a0_4 a0_5 a0_6 a0_7 l0_8 a1_0 a1_1 a1_2 a1_3 a1_4 a1_5 a1_6 a1_7 l1_8).bind fun t370 => (if (t369 == t370) = true then ((feature_Same.f kj2 a0_0 a0_1 a0_2 a0_3 a0_4 a0_5 a0_6 a0_7 l0_8 a0_0 a0_1 a0_2 a0_3 a0_4 a0_5 a0_6 a0_7 l0_8).bind fun t371 => (if t371 = true then ((feature_Same.f kj2 a1_0 a1_1 a1_2 a1_3 a1_4 a1_5 a1_6 a1_7 l1_8 a1_0 a1_1 a1_2 a1_3 a1_4 a1_5 a1_6 a1_7 l1_8).bind fun t372 => (some t372)) else (some false))) else (some false)))) else (some false)) = some r := H
    have A20 := zm A200
    clear A200
    by_cases c21 : t368 = true
    ·subst c21
     have H1 : ((feature_Same.f kj2 a0_0 a0_1 a0_2 a0_3 a0_4 a0_5 a0_6 a0_7 l0_8 a1_0 a1_1 a1_2 a1_3 a1_4 a1_5 a1_6 a1_7 l1_8).bind fun t369 => ((metrolabref18_Same.f kj2 a0_0 a0_1 a0_2 a0_3 a0_4 a0_5 a0_6 a0_7 l0_8 a1_0 a1_1 a1_2 a1_3 a1_4 a1_5 a1_6 a1_7 l1_8).bind fun t370 => (if (t369 == t370) = true then ((feature_Same.f kj2 a0_0 a0_1 a0_2 a0_3 a0_4 a0_5 a0_6 a0_7 l0_8 a0_0 a0_1 a0_2 a0_3 a0_4 a0_5 a0_6 a0_7 l0_8).bind fun t371 => (if t371 = true then ((feature_Same.f kj2 a1_0 a1_1 a1_2 a1_3 a1_4 a1_5 a1_6 a1_7 l1_8 a1_0 a1_1 a1_2 a1_3 a1_4 a1_5 a1_6 a1_7 l1_8).bind fun t372 => (some t372)) else (some false))) else (some false)))) = some r := by rw [if_pos rfl] at H; exact H
     clear H
     have H := H1
     clear H1
     replace H := Option.bind_eq_some_iff.mp H
     obtain ⟨t369, A220, H⟩ := H
     replace H : ((metrolabref18_Same.f kj2 a0_0 a0_1 a0_2 a0_3 a0_4 a0_5 a0_6 a0_7 l0_8 a1_0 a1_1 a1_2 a1_3 a1_4 a1_5 a1_6 a1_7 l1_8).bind fun t370 => (if (t369 == t370) = true then ((feature_Same.f kj2 a0_0 a0_1 a0_2 a0_3 a0_4 a0_5 a0_6 a0_7 l0_8 a0_0 a0_1 a0_2 a0_3 a0_4 a0_5 a0_6 a0_7 l0_8).bind fun t371 => (if t371 = true then ((feature_Same.f kj2 a1_0 a1_1 a1_2 a1_3 a1_4 a1_5 a1_6 a1_7 l1_8 a1_0 a1_1 a1_2 a1_3 a1_4 a1_5 a1_6 a1_7 l1_8).bind fun t372 => (some t372)) else (some false))) else (some false))) = some r := H
     have A22 := zm A220
     clear A220
     replace H := Option.bind_eq_some_iff.mp H
     obtain ⟨t370, A230, H⟩ := H
     replace H : (if (t369 == t370) = true then ((feature_Same.f kj2 a0_0 a0_1 a0_2 a0_3 a0_4 a0_5 a0_6 a0_7 l0_8 a0_0 a0_1 a0_2 a0_3 a0_4 a0_5 a0_6 a0_7 l0_8).bind fun t371 => (if t371 = true then ((feature_Same.f kj2 a1_0 a1_1 a1_2 a1_3 a1_4 a1_5 a1_6 a1_7 l1_8 a1_0 a1_1 a1_2 a1_3 a1_4 a1_5 a1_6 a1_7 l1_8).bind fun t372 => (some t372)) else (some false))) else (some false)) = some r := H
     have A23 := zm A230
     clear A230
     by_cases c24 : (t369 == t370) = true
     ·rw [if_pos c24] at H
      have c24b0 : (t369 == t370) = true := c24
      (try (have c24b1 : decide (t369 = t370) = true := by simpa using c24))
      (try (have c24b2 : (t369 == t370) = true := by simpa using c24))
      (try (have c24b3 : t370 = (t369) := by revert c24; generalize t369 = p_; generalize t370 = q_; cases p_ <;> cases q_ <;> decide))
      clear c24
      replace H := Option.bind_eq_some_iff.mp H
      obtain ⟨t371, A250, H⟩ := H
      replace H : (if t371 = true then ((feature_Same.f kj2 a1_0 a1_1 a1_2 a1_3 a1_4 a1_5 a1_6 a1_7 l1_8 a1_0 a1_1 a1_2 a1_3 a1_4 a1_5 a1_6 a1_7 l1_8).bind fun t372 => (some t372)) else (some false)) = some r := H
      have A25 := zm A250
      clear A250
      by_cases c26 : t371 = true
      ·subst c26
       have H1 : ((feature_Same.f kj2 a1_0 a1_1 a1_2 a1_3 a1_4 a1_5 a1_6 a1_7 l1_8 a1_0 a1_1 a1_2 a1_3 a1_4 a1_5 a1_6 a1_7 l1_8).bind fun t372 => (some t372)) = some r := by rw [if_pos rfl] at H; exact H
       clear H
       have H := H1
       clear H1
       replace H := Option.bind_eq_some_iff.mp H
       obtain ⟨t372, A270, H⟩ := H
       replace H : (some t372) = some r := H
       have A27 := zm A270
       clear A270
       obtain rfl := Option.some.inj H
       try go_wp2
       have n0_ := zm (ze BK363.out)
       have n1_ := zm (ze BK364.out)
       have n2_ := zm (zE HB.out)
       clear BK363 BK364 HB
       have BK363 := n0_
       have BK364 := n1_
       have HB := n2_
       clear n0_ n1_ n2_
       refine start_ (n := 21) (S := fun w' => w'.cell? ⟨gb363, 0, none⟩ = some (.string a0_0) ∧ w'.cell? ⟨gb363, 1, none⟩ = some (.int .i64 a0_1) ∧ w'.cell? ⟨gb363, 2, none⟩ = some (.int .i64 a0_2) ∧ w'.cell? ⟨gb363, 3, none⟩ = some (.int .i64 a0_3) ∧ w'.cell? ⟨gb363, 4, none⟩ = some (.int .i64 a0_4) ∧ w'.cell? ⟨gb363, 5, none⟩ = some (.int .i64 a0_5) ∧ w'.cell? ⟨gb363, 6, none⟩ = some (.int .i64 a0_6) ∧ w'.cell? ⟨gb363, 7, none⟩ = some (.int .i64 a0_7) ∧ w'.cell? ⟨gb363, 8, none⟩ = some (.slice A0_8 l0_8.length c0_8) ∧ w'.cell? ⟨gb364, 0, none⟩ = some (.string a1_0) ∧ w'.cell? ⟨gb364, 1, none⟩ = some (.int .i64 a1_1) ∧ w'.cell? ⟨gb364, 2, none⟩ = some (.int .i64 a1_2) ∧ w'.cell? ⟨gb364, 3, none⟩ = some (.int .i64 a1_3) ∧ w'.cell? ⟨gb364, 4, none⟩ = some (.int .i64 a1_4) ∧ w'.cell? ⟨gb364, 5, none⟩ = some (.int .i64 a1_5) ∧ w'.cell? ⟨gb364, 6, none⟩ = some (.int .i64 a1_6) ∧ w'.cell? ⟨gb364, 7, none⟩ = some (.int .i64 a1_7) ∧ w'.cell? ⟨gb364, 8, none⟩ = some (.slice A1_8 l1_8.length c1_8)) (ds := []) #[false, false, false, false, false, false, false, false, false, false, false, false, false, false, false, false, false, false, false, false, false] (by kernel_rfl) rfl rfl ⟨(blk_cell BK363.out 0).trans rfl, (blk_cell BK363.out 1).trans rfl, (blk_cell BK363.out 2).trans rfl, (blk_cell BK363.out 3).trans rfl, (blk_cell BK363.out 4).trans rfl, (blk_cell BK363.out 5).trans rfl, (blk_cell BK363.out 6).trans rfl, (blk_cell BK363.out 7).trans rfl, (blk_cell BK363.out 8).trans rfl, (blk_cell BK364.out 0).trans rfl, (blk_cell BK364.out 1).trans rfl, (blk_cell BK364.out 2).trans rfl, (blk_cell BK364.out 3).trans rfl, (blk_cell BK364.out 4).trans rfl, (blk_cell BK364.out 5).trans rfl, (blk_cell BK364.out 6).trans rfl, (blk_cell BK364.out 7).trans rfl, (blk_cell BK364.out 8).trans rfl⟩ (fun hHeld => ?_); refine with_tabW metrolablaw18_FeatureCompares.tab3 metrolablaw18_FeatureCompares.bits3 (fun HT_ HW_ => ?_)
       generalize wc.drew = w28 at BK363 BK364 HB hHeld ⊢
       refine one_ (i := 0) (N := some 14) #[true, false, false, false, false, false, false, false, false, false, false, false, false, false, false, false, false, false, false, false, false] rfl rfl (one_of HT_.out (by kernel_rfl)) (by decide) (fun K hK => ?_)
       refine goes_ Try.func18 (by kernel_rfl) rfl #[] (by rfl) rfl rfl (by (try simp only [List.map_toArray, List.map_cons, List.map_nil]); first | done | rfl | (simp only [List.length_drop, List.length_take]; rfl)) ?_
       with_reducible refine (metrolablaw18_awake.calls  true _ A20.out).mono ?_
       rintro e w29 ⟨rfl, hb⟩
       refine ⟨_, rfl, ?_⟩
       have n0_ := zm (zb (g := gb363) (by (with_reducible repeat first | apply zd | apply ze | apply za); exact BK363.out) hb)
       have n1_ := zm (zb (g := gb364) (by (with_reducible repeat first | apply zd | apply ze | apply za); exact BK364.out) hb)
       have n2_ := zm (below_step (by repeat (first | (with_reducible first | exact HB.out | apply zA | apply zD | apply zE | refine zS ?_ GE363.out | refine zS ?_ GE364.out) | exact HB.out)) hb)
       clear BK363 BK364 HB
       have BK363 := n0_
       have BK364 := n1_
       have HB := n2_
       clear n0_ n1_ n2_
       (try clear hb)
       (try clear hb2)
       (try clear hk)
       (try clear hi)
       refine hK.out _ _ ⟨(blk_cell BK363.out 0).trans rfl, (blk_cell BK363.out 1).trans rfl, (blk_cell BK363.out 2).trans rfl, (blk_cell BK363.out 3).trans rfl, (blk_cell BK363.out 4).trans rfl, (blk_cell BK363.out 5).trans rfl, (blk_cell BK363.out 6).trans rfl, (blk_cell BK363.out 7).trans rfl, (blk_cell BK363.out 8).trans rfl, (blk_cell BK364.out 0).trans rfl, (blk_cell BK364.out 1).trans rfl, (blk_cell BK364.out 2).trans rfl, (blk_cell BK364.out 3).trans rfl, (blk_cell BK364.out 4).trans rfl, (blk_cell BK364.out 5).trans rfl, (blk_cell BK364.out 6).trans rfl, (blk_cell BK364.out 7).trans rfl, (blk_cell BK364.out 8).trans rfl⟩ (fun hHeld => ?_)
       clear hK K
       refine norm_ (a' := ?_) ?_ ?_
       rotate_left
       ·show Act.put _ (some 14) _ = _
        simp only [Act.put, zx, zy, zz, i64_w, i32_w]
        rfl
       refine pure_ (i := 1) (N := some 15) (v := ?_) (a' := ?_) #[true, true, false, false, false, false, false, false, false, false, false, false, false, false, false, false, false, false, false, false, false] rfl rfl (any_of HT_.out (by kernel_rfl)) (fun _ _ _ h => h) (Or.inl ⟨by rfl, ?_⟩) ?_ ?_
       rotate_left
       ·intro w'
        go_simp
        with_reducible rfl
       rotate_left
       ·simp only [Act.put, zx, zy, zz, i64_w, i32_w]
        rfl
       refine take_ (i := 2) (N := some 16) (v := ?_) (a' := ?_) #[true, true, true, false, false, false, false, false, false, false, false, false, false, false, false, false, false, false, false, false, false] rfl rfl (take_ofW HT_.out HW_.out (by kernel_rfl)) (fun _ _ _ h => h) (Or.inl ⟨by rfl, ?_⟩) hHeld ?_ ?_
       rotate_left
       ·rintro w' ⟨s0, s1, s2, s3, s4, s5, s6, s7, s8, s9, s10, s11, s12, s13, s14, s15, s16, s17⟩
        go_simp
        with_reducible rfl
       rotate_left
       ·simp only [Act.put, zx, zy, zz, i64_w, i32_w]
        rfl
       refine take_ (i := 3) (N := some 17) (v := ?_) (a' := ?_) #[true, true, true, true, false, false, false, false, false, false, false, false, false, false, false, false, false, false, false, false, false] rfl rfl (take_ofW HT_.out HW_.out (by kernel_rfl)) (fun _ _ _ h => h) (Or.inl ⟨by rfl, ?_⟩) hHeld ?_ ?_
       rotate_left
       ·rintro w' ⟨s0, s1, s2, s3, s4, s5, s6, s7, s8, s9, s10, s11, s12, s13, s14, s15, s16, s17⟩
        go_simp
        with_reducible rfl
       rotate_left
       ·simp only [Act.put, zx, zy, zz, i64_w, i32_w]
        rfl
       refine take_ (i := 5) (N := some 19) (v := ?_) (a' := ?_) #[true, true, true, true, false, true, false, false, false, false, false, false, false, false, false, false, false, false, false, false, false] rfl rfl (take_ofW HT_.out HW_.out (by kernel_rfl)) (fun _ _ _ h => h) (Or.inl ⟨by rfl, ?_⟩) hHeld ?_ ?_
       rotate_left
       ·rintro w' ⟨s0, s1, s2, s3, s4, s5, s6, s7, s8, s9, s10, s11, s12, s13, s14, s15, s16, s17⟩
        go_simp
        with_reducible rfl
       rotate_left
       ·simp only [Act.put, zx, zy, zz, i64_w, i32_w]
        rfl
       refine take_ (i := 6) (N := some 20) (v := ?_) (a' := ?_) #[true, true, true, true, false, true, true, false, false, false, false, false, false, false, false, false, false, false, false, false, false] rfl rfl (take_ofW HT_.out HW_.out (by kernel_rfl)) (fun _ _ _ h => h) (Or.inl ⟨by rfl, ?_⟩) hHeld ?_ ?_
       rotate_left
       ·rintro w' ⟨s0, s1, s2, s3, s4, s5, s6, s7, s8, s9, s10, s11, s12, s13, s14, s15, s16, s17⟩
        go_simp
        with_reducible rfl
       rotate_left
       ·simp only [Act.put, zx, zy, zz, i64_w, i32_w]
        rfl
       refine one_ (i := 4) (N := some 18) #[true, true, true, true, true, true, true, false, false, false, false, false, false, false, false, false, false, false, false, false, false] rfl rfl (one_of HT_.out (by kernel_rfl)) (by decide) (fun K hK => ?_)
       refine goes_ Try.func48 (by kernel_rfl) rfl #[.agg #[.string a0_0, .int .i64 a0_1, .int .i64 a0_2, .int .i64 a0_3, .int .i64 a0_4, .int .i64 a0_5, .int .i64 a0_6, .int .i64 a0_7, .slice A0_8 l0_8.length c0_8], .agg #[.string a1_0, .int .i64 a1_1, .int .i64 a1_2, .int .i64 a1_3, .int .i64 a1_4, .int .i64 a1_5, .int .i64 a1_6, .int .i64 a1_7, .slice A1_8 l1_8.length c1_8]] (by rfl) rfl rfl (by (try simp only [List.map_toArray, List.map_cons, List.map_nil]); first | done | rfl | (simp only [List.length_drop, List.length_take]; rfl)) ?_
       with_reducible refine (feature_Same.calls kj2 a0_0 a0_1 a0_2 a0_3 a0_4 a0_5 a0_6 a0_7 _ _ l0_8 a1_0 a1_1 a1_2 a1_3 a1_4 a1_5 a1_6 a1_7 _ _ l1_8 t369 _ ?side1 ?side2 ?side3 ?side4 A22.out).mono ?_
       (case side1 => repeat (first | exact (Kd.C_below HR0_8.out HB.out) | (with_reducible refine Kd.C_alloc ?_ _) | (with_reducible refine Kd.C_drewN ?_ _) | (with_reducible refine Kd.C_drew ?_)))
       (case side2 => exact HC0_8.out)
       (case side3 => repeat (first | exact (Kd.C_below HR1_8.out HB.out) | (with_reducible refine Kd.C_alloc ?_ _) | (with_reducible refine Kd.C_drewN ?_ _) | (with_reducible refine Kd.C_drew ?_)))
       (case side4 => exact HC1_8.out)
       rintro e w30 ⟨rfl, hb⟩
       refine ⟨_, rfl, ?_⟩
       have n0_ := zm (zb (g := gb363) (by (with_reducible repeat first | apply zd | apply ze | apply za); exact BK363.out) hb)
       have n1_ := zm (zb (g := gb364) (by (with_reducible repeat first | apply zd | apply ze | apply za); exact BK364.out) hb)
       have n2_ := zm (below_step (by repeat (first | (with_reducible first | exact HB.out | apply zA | apply zD | apply zE | refine zS ?_ GE363.out | refine zS ?_ GE364.out) | exact HB.out)) hb)
       clear BK363 BK364 HB
       have BK363 := n0_
       have BK364 := n1_
       have HB := n2_
       clear n0_ n1_ n2_
       (try clear hb)
       (try clear hb2)
       (try clear hk)
       (try clear hi)
       refine hK.out _ _ ⟨(blk_cell BK363.out 0).trans rfl, (blk_cell BK363.out 1).trans rfl, (blk_cell BK363.out 2).trans rfl, (blk_cell BK363.out 3).trans rfl, (blk_cell BK363.out 4).trans rfl, (blk_cell BK363.out 5).trans rfl, (blk_cell BK363.out 6).trans rfl, (blk_cell BK363.out 7).trans rfl, (blk_cell BK363.out 8).trans rfl, (blk_cell BK364.out 0).trans rfl, (blk_cell BK364.out 1).trans rfl, (blk_cell BK364.out 2).trans rfl, (blk_cell BK364.out 3).trans rfl, (blk_cell BK364.out 4).trans rfl, (blk_cell BK364.out 5).trans rfl, (blk_cell BK364.out 6).trans rfl, (blk_cell BK364.out 7).trans rfl, (blk_cell BK364.out 8).trans rfl⟩ (fun hHeld => ?_)
       clear hK K
       refine norm_ (a' := ?_) ?_ ?_
       rotate_left
       ·show Act.put _ (some 18) _ = _
        simp only [Act.put, zx, zy, zz, i64_w, i32_w]
        rfl
       refine one_ (i := 7) (N := some 21) #[true, true, true, true, true, true, true, true, false, false, false, false, false, false, false, false, false, false, false, false, false] rfl rfl (one_of HT_.out (by kernel_rfl)) (by decide) (fun K hK => ?_)
       refine goes_ Try.func49 (by kernel_rfl) rfl #[.agg #[.string a0_0, .int .i64 a0_1, .int .i64 a0_2, .int .i64 a0_3, .int .i64 a0_4, .int .i64 a0_5, .int .i64 a0_6, .int .i64 a0_7, .slice A0_8 l0_8.length c0_8], .agg #[.string a1_0, .int .i64 a1_1, .int .i64 a1_2, .int .i64 a1_3, .int .i64 a1_4, .int .i64 a1_5, .int .i64 a1_6, .int .i64 a1_7, .slice A1_8 l1_8.length c1_8]] (by rfl) rfl rfl (by (try simp only [List.map_toArray, List.map_cons, List.map_nil]); first | done | rfl | (simp only [List.length_drop, List.length_take]; rfl)) ?_
       with_reducible refine (metrolabref18_Same.calls kj2 a0_0 a0_1 a0_2 a0_3 a0_4 a0_5 a0_6 a0_7 _ _ l0_8 a1_0 a1_1 a1_2 a1_3 a1_4 a1_5 a1_6 a1_7 _ _ l1_8 t370 _ ?side1 ?side2 ?side3 ?side4 A23.out).mono ?_
       (case side1 => repeat (first | exact (Kd.C_below HR0_8.out HB.out) | (with_reducible refine Kd.C_alloc ?_ _) | (with_reducible refine Kd.C_drewN ?_ _) | (with_reducible refine Kd.C_drew ?_)))
       (case side2 => exact HC0_8.out)
       (case side3 => repeat (first | exact (Kd.C_below HR1_8.out HB.out) | (with_reducible refine Kd.C_alloc ?_ _) | (with_reducible refine Kd.C_drewN ?_ _) | (with_reducible refine Kd.C_drew ?_)))
       (case side4 => exact HC1_8.out)
       rintro e w31 ⟨rfl, hb⟩
       refine ⟨_, rfl, ?_⟩
       have n0_ := zm (zb (g := gb363) (by (with_reducible repeat first | apply zd | apply ze | apply za); exact BK363.out) hb)
       have n1_ := zm (zb (g := gb364) (by (with_reducible repeat first | apply zd | apply ze | apply za); exact BK364.out) hb)
       have n2_ := zm (below_step (by repeat (first | (with_reducible first | exact HB.out | apply zA | apply zD | apply zE | refine zS ?_ GE363.out | refine zS ?_ GE364.out) | exact HB.out)) hb)
       clear BK363 BK364 HB
       have BK363 := n0_
       have BK364 := n1_
       have HB := n2_
       clear n0_ n1_ n2_
       (try clear hb)
       (try clear hb2)
       (try clear hk)
       (try clear hi)
       refine hK.out _ _ ⟨(blk_cell BK363.out 0).trans rfl, (blk_cell BK363.out 1).trans rfl, (blk_cell BK363.out 2).trans rfl, (blk_cell BK363.out 3).trans rfl, (blk_cell BK363.out 4).trans rfl, (blk_cell BK363.out 5).trans rfl, (blk_cell BK363.out 6).trans rfl, (blk_cell BK363.out 7).trans rfl, (blk_cell BK363.out 8).trans rfl, (blk_cell BK364.out 0).trans rfl, (blk_cell BK364.out 1).trans rfl, (blk_cell BK364.out 2).trans rfl, (blk_cell BK364.out 3).trans rfl, (blk_cell BK364.out 4).trans rfl, (blk_cell BK364.out 5).trans rfl, (blk_cell BK364.out 6).trans rfl, (blk_cell BK364.out 7).trans rfl, (blk_cell BK364.out 8).trans rfl⟩ (fun hHeld => ?_)
       clear hK K
       refine norm_ (a' := ?_) ?_ ?_
       rotate_left
       ·show Act.put _ (some 21) _ = _
        simp only [Act.put, zx, zy, zz, i64_w, i32_w]
        rfl
       refine pure_ (i := 8) (N := some 22) (v := ?_) (a' := ?_) #[true, true, true, true, true, true, true, true, true, false, false, false, false, false, false, false, false, false, false, false, false] rfl rfl (any_of HT_.out (by kernel_rfl)) (fun _ _ _ h => h) (Or.inl ⟨by rfl, ?_⟩) ?_ ?_
       rotate_left
       ·intro w'
        go_simp
        with_reducible rfl
       rotate_left
       ·simp only [Act.put, zx, zy, zz, i64_w, i32_w]
        rfl
       refine pure_ (i := 9) (N := some 23) (v := ?_) (a' := ?_) #[true, true, true, true, true, true, true, true, true, true, false, false, false, false, false, false, false, false, false, false, false] rfl rfl (any_of HT_.out (by kernel_rfl)) (fun _ _ _ h => h) (Or.inl ⟨by rfl, ?_⟩) ?_ ?_
       rotate_left
       ·intro w'
        go_simp
        with_reducible rfl
       rotate_left
       ·simp only [Act.put, zx, zy, zz, i64_w, i32_w]
        rfl
       refine pure_ (i := 10) (N := some 24) (v := ?_) (a' := ?_) #[true, true, true, true, true, true, true, true, true, true, true, false, false, false, false, false, false, false, false, false, false] rfl rfl (any_of HT_.out (by kernel_rfl)) (fun _ _ _ h => h) (Or.inl ⟨by rfl, ?_⟩) ?_ ?_
       rotate_left
       ·intro w'
        go_simp
        with_reducible rfl
       rotate_left
       ·simp only [Act.put, zx, zy, zz, i64_w, i32_w]
        rfl
       refine take_ (i := 11) (N := some 25) (v := ?_) (a' := ?_) #[true, true, true, true, true, true, true, true, true, true, true, true, false, false, false, false, false, false, false, false, false] rfl rfl (take_ofW HT_.out HW_.out (by kernel_rfl)) (fun _ _ _ h => h) (Or.inl ⟨by rfl, ?_⟩) hHeld ?_ ?_
       rotate_left
       ·rintro w' ⟨s0, s1, s2, s3, s4, s5, s6, s7, s8, s9, s10, s11, s12, s13, s14, s15, s16, s17⟩
        go_simp
        with_reducible rfl
       rotate_left
       ·simp only [Act.put, zx, zy, zz, i64_w, i32_w]
        rfl
       refine take_ (i := 12) (N := some 26) (v := ?_) (a' := ?_) #[true, true, true, true, true, true, true, true, true, true, true, true, true, false, false, false, false, false, false, false, false] rfl rfl (take_ofW HT_.out HW_.out (by kernel_rfl)) (fun _ _ _ h => h) (Or.inl ⟨by rfl, ?_⟩) hHeld ?_ ?_
       rotate_left
       ·rintro w' ⟨s0, s1, s2, s3, s4, s5, s6, s7, s8, s9, s10, s11, s12, s13, s14, s15, s16, s17⟩
        go_simp
        with_reducible rfl
       rotate_left
       ·simp only [Act.put, zx, zy, zz, i64_w, i32_w]
        rfl
       refine one_ (i := 13) (N := some 27) #[true, true, true, true, true, true, true, true, true, true, true, true, true, true, false, false, false, false, false, false, false] rfl rfl (one_of HT_.out (by kernel_rfl)) (by decide) (fun K hK => ?_)
       refine goes_ Try.func48 (by kernel_rfl) rfl #[.agg #[.string a0_0, .int .i64 a0_1, .int .i64 a0_2, .int .i64 a0_3, .int .i64 a0_4, .int .i64 a0_5, .int .i64 a0_6, .int .i64 a0_7, .slice A0_8 l0_8.length c0_8], .agg #[.string a0_0, .int .i64 a0_1, .int .i64 a0_2, .int .i64 a0_3, .int .i64 a0_4, .int .i64 a0_5, .int .i64 a0_6, .int .i64 a0_7, .slice A0_8 l0_8.length c0_8]] (by rfl) rfl rfl (by (try simp only [List.map_toArray, List.map_cons, List.map_nil]); first | done | rfl | (simp only [List.length_drop, List.length_take]; rfl)) ?_
       with_reducible refine (feature_Same.calls kj2 a0_0 a0_1 a0_2 a0_3 a0_4 a0_5 a0_6 a0_7 _ _ l0_8 a0_0 a0_1 a0_2 a0_3 a0_4 a0_5 a0_6 a0_7 _ _ l0_8 true _ ?side1 ?side2 ?side3 ?side4 A25.out).mono ?_
       (case side1 => repeat (first | exact (Kd.C_below HR0_8.out HB.out) | (with_reducible refine Kd.C_alloc ?_ _) | (with_reducible refine Kd.C_drewN ?_ _) | (with_reducible refine Kd.C_drew ?_)))
       (case side2 => exact HC0_8.out)
       (case side3 => repeat (first | exact (Kd.C_below HR0_8.out HB.out) | (with_reducible refine Kd.C_alloc ?_ _) | (with_reducible refine Kd.C_drewN ?_ _) | (with_reducible refine Kd.C_drew ?_)))
       (case side4 => exact HC0_8.out)
       rintro e w32 ⟨rfl, hb⟩
       refine ⟨_, rfl, ?_⟩
       have n0_ := zm (zb (g := gb363) (by (with_reducible repeat first | apply zd | apply ze | apply za); exact BK363.out) hb)
       have n1_ := zm (zb (g := gb364) (by (with_reducible repeat first | apply zd | apply ze | apply za); exact BK364.out) hb)
       have n2_ := zm (below_step (by repeat (first | (with_reducible first | exact HB.out | apply zA | apply zD | apply zE | refine zS ?_ GE363.out | refine zS ?_ GE364.out) | exact HB.out)) hb)
       clear BK363 BK364 HB
       have BK363 := n0_
       have BK364 := n1_
       have HB := n2_
       clear n0_ n1_ n2_
       (try clear hb)
       (try clear hb2)
       (try clear hk)
       (try clear hi)
       refine hK.out _ _ ⟨(blk_cell BK363.out 0).trans rfl, (blk_cell BK363.out 1).trans rfl, (blk_cell BK363.out 2).trans rfl, (blk_cell BK363.out 3).trans rfl, (blk_cell BK363.out 4).trans rfl, (blk_cell BK363.out 5).trans rfl, (blk_cell BK363.out 6).trans rfl, (blk_cell BK363.out 7).trans rfl, (blk_cell BK363.out 8).trans rfl, (blk_cell BK364.out 0).trans rfl, (blk_cell BK364.out 1).trans rfl, (blk_cell BK364.out 2).trans rfl, (blk_cell BK364.out 3).trans rfl, (blk_cell BK364.out 4).trans rfl, (blk_cell BK364.out 5).trans rfl, (blk_cell BK364.out 6).trans rfl, (blk_cell BK364.out 7).trans rfl, (blk_cell BK364.out 8).trans rfl⟩ (fun hHeld => ?_)
       clear hK K
       refine norm_ (a' := ?_) ?_ ?_
       rotate_left
       ·show Act.put _ (some 27) _ = _
        simp only [Act.put, zx, zy, zz, i64_w, i32_w]
        rfl
       refine pure_ (i := 14) (N := some 28) (v := ?_) (a' := ?_) #[true, true, true, true, true, true, true, true, true, true, true, true, true, true, true, false, false, false, false, false, false] rfl rfl (any_of HT_.out (by kernel_rfl)) (fun _ _ _ h => h) (Or.inl ⟨by rfl, ?_⟩) ?_ ?_
       rotate_left
       ·intro w'
        go_simp
        with_reducible rfl
       rotate_left
       ·simp only [Act.put, zx, zy, zz, i64_w, i32_w]
        rfl
       refine pure_ (i := 15) (N := some 29) (v := ?_) (a' := ?_) #[true, true, true, true, true, true, true, true, true, true, true, true, true, true, true, true, false, false, false, false, false] rfl rfl (any_of HT_.out (by kernel_rfl)) (fun _ _ _ h => h) (Or.inl ⟨by rfl, ?_⟩) ?_ ?_
       rotate_left
       ·intro w'
        go_simp
        with_reducible rfl
       rotate_left
       ·simp only [Act.put, zx, zy, zz, i64_w, i32_w]
        rfl
       refine take_ (i := 16) (N := some 30) (v := ?_) (a' := ?_) #[true, true, true, true, true, true, true, true, true, true, true, true, true, true, true, true, true, false, false, false, false] rfl rfl (take_ofW HT_.out HW_.out (by kernel_rfl)) (fun _ _ _ h => h) (Or.inl ⟨by rfl, ?_⟩) hHeld ?_ ?_
       rotate_left
       ·rintro w' ⟨s0, s1, s2, s3, s4, s5, s6, s7, s8, s9, s10, s11, s12, s13, s14, s15, s16, s17⟩
        go_simp
        with_reducible rfl
       rotate_left
       ·simp only [Act.put, zx, zy, zz, i64_w, i32_w]
        rfl
       refine take_ (i := 17) (N := some 31) (v := ?_) (a' := ?_) #[true, true, true, true, true, true, true, true, true, true, true, true, true, true, true, true, true, true, false, false, false] rfl rfl (take_ofW HT_.out HW_.out (by kernel_rfl)) (fun _ _ _ h => h) (Or.inl ⟨by rfl, ?_⟩) hHeld ?_ ?_
       rotate_left
       ·rintro w' ⟨s0, s1, s2, s3, s4, s5, s6, s7, s8, s9, s10, s11, s12, s13, s14, s15, s16, s17⟩
        go_simp
        with_reducible rfl
       rotate_left
       ·simp only [Act.put, zx, zy, zz, i64_w, i32_w]
        rfl
       refine one_ (i := 18) (N := some 32) #[true, true, true, true, true, true, true, true, true, true, true, true, true, true, true, true, true, true, true, false, false] rfl rfl (one_of HT_.out (by kernel_rfl)) (by decide) (fun K hK => ?_)
       refine goes_ Try.func48 (by kernel_rfl) rfl #[.agg #[.string a1_0, .int .i64 a1_1, .int .i64 a1_2, .int .i64 a1_3, .int .i64 a1_4, .int .i64 a1_5, .int .i64 a1_6, .int .i64 a1_7, .slice A1_8 l1_8.length c1_8], .agg #[.string a1_0, .int .i64 a1_1, .int .i64 a1_2, .int .i64 a1_3, .int .i64 a1_4, .int .i64 a1_5, .int .i64 a1_6, .int .i64 a1_7, .slice A1_8 l1_8.length c1_8]] (by rfl) rfl rfl (by (try simp only [List.map_toArray, List.map_cons, List.map_nil]); first | done | rfl | (simp only [List.length_drop, List.length_take]; rfl)) ?_
       with_reducible refine (feature_Same.calls kj2 a1_0 a1_1 a1_2 a1_3 a1_4 a1_5 a1_6 a1_7 _ _ l1_8 a1_0 a1_1 a1_2 a1_3 a1_4 a1_5 a1_6 a1_7 _ _ l1_8 t372 _ ?side1 ?side2 ?side3 ?side4 A27.out).mono ?_
       (case side1 => repeat (first | exact (Kd.C_below HR1_8.out HB.out) | (with_reducible refine Kd.C_alloc ?_ _) | (with_reducible refine Kd.C_drewN ?_ _) | (with_reducible refine Kd.C_drew ?_)))
       (case side2 => exact HC1_8.out)
       (case side3 => repeat (first | exact (Kd.C_below HR1_8.out HB.out) | (with_reducible refine Kd.C_alloc ?_ _) | (with_reducible refine Kd.C_drewN ?_ _) | (with_reducible refine Kd.C_drew ?_)))
       (case side4 => exact HC1_8.out)
       rintro e w33 ⟨rfl, hb⟩
       refine ⟨_, rfl, ?_⟩
       have n0_ := zm (zb (g := gb363) (by (with_reducible repeat first | apply zd | apply ze | apply za); exact BK363.out) hb)
       have n1_ := zm (zb (g := gb364) (by (with_reducible repeat first | apply zd | apply ze | apply za); exact BK364.out) hb)
       have n2_ := zm (below_step (by repeat (first | (with_reducible first | exact HB.out | apply zA | apply zD | apply zE | refine zS ?_ GE363.out | refine zS ?_ GE364.out) | exact HB.out)) hb)
       clear BK363 BK364 HB
       have BK363 := n0_
       have BK364 := n1_
       have HB := n2_
       clear n0_ n1_ n2_
       (try clear hb)
       (try clear hb2)
       (try clear hk)
       (try clear hi)
       refine hK.out _ _ ⟨(blk_cell BK363.out 0).trans rfl, (blk_cell BK363.out 1).trans rfl, (blk_cell BK363.out 2).trans rfl, (blk_cell BK363.out 3).trans rfl, (blk_cell BK363.out 4).trans rfl, (blk_cell BK363.out 5).trans rfl, (blk_cell BK363.out 6).trans rfl, (blk_cell BK363.out 7).trans rfl, (blk_cell BK363.out 8).trans rfl, (blk_cell BK364.out 0).trans rfl, (blk_cell BK364.out 1).trans rfl, (blk_cell BK364.out 2).trans rfl, (blk_cell BK364.out 3).trans rfl, (blk_cell BK364.out 4).trans rfl, (blk_cell BK364.out 5).trans rfl, (blk_cell BK364.out 6).trans rfl, (blk_cell BK364.out 7).trans rfl, (blk_cell BK364.out 8).trans rfl⟩ (fun hHeld => ?_)
       clear hK K
       refine norm_ (a' := ?_) ?_ ?_
       rotate_left
       ·show Act.put _ (some 32) _ = _
        simp only [Act.put, zx, zy, zz, i64_w, i32_w]
        rfl
       refine pure_ (i := 19) (N := some 33) (v := ?_) (a' := ?_) #[true, true, true, true, true, true, true, true, true, true, true, true, true, true, true, true, true, true, true, true, false] rfl rfl (any_of HT_.out (by kernel_rfl)) (fun _ _ _ h => h) (Or.inl ⟨by rfl, ?_⟩) ?_ ?_
       rotate_left
       ·intro w'
        go_simp
        with_reducible rfl
       rotate_left
       ·simp only [Act.put, zx, zy, zz, i64_w, i32_w]
        rfl
       refine pure_ (i := 20) (N := some 4) (v := ?_) (a' := ?_) #[true, true, true, true, true, true, true, true, true, true, true, true, true, true, true, true, true, true, true, true, true] rfl rfl (any_of HT_.out (by kernel_rfl)) (fun _ _ _ h => h) (Or.inl ⟨by rfl, ?_⟩) ?_ ?_
       rotate_left
       ·intro w'
        go_simp
        with_reducible rfl
       rotate_left
       ·simp only [Act.put, zx, zy, zz, i64_w, i32_w]
        rfl
       refine done_ (done_of HT_.out (by kernel_rfl)) ?_
       try go_wp2
       go_ret
       exact ⟨by first | rfl | (simp [errW_none, errW_some] <;> rfl) | (simp [*, errW_none, errW_some] <;> rfl), by repeat (first | (with_reducible first | exact HB.out | apply zA | apply zD | apply zE | refine zS ?_ GE363.out | refine zS ?_ GE364.out) | exact HB.out)⟩
      ·rw [if_neg c26] at H
       exact absurd ((Option.some.inj H).trans HRT.out) (by decide)
     ·rw [if_neg c24] at H
      exact absurd ((Option.some.inj H).trans HRT.out) (by decide)
    ·rw [if_neg c21] at H
     exact absurd ((Option.some.inj H).trans HRT.out) (by decide)
end Go.Proofs.Ytkgdlbepjmgaiaa.Fea
set_option linter.unusedVariables false
set_option linter.unusedSimpArgs false
namespace Go.Proofs.Ytkgdlbepjmgaiaa.Fea
open Go.RowKit Go.Proofs.YtkgdlbepjmgaiaaW.PrintWords Go.Proofs.YtkgdlbepjmgaiaaW.PrintLast Go.Proofs.YtkgdlbepjmgaiaaW.PrintMore
theorem eqfD_ev (a b : List S106) (ha : a.length ≤ 6) : Ev (fun n => eqfD.f n a b) (eqLD a b) := by
  unfold eqfD.f
  by_cases hl : a.length = b.length
  case neg =>
    rw [eqLD_len hl]
    exact Ev.e (by omega) (Ev.now _)
  refine Ev.t (by omega) ?_
  have key : ∀ m i : Nat, i + m = a.length → Ev (fun n => eqfD.l0 n b a (a.length : Int) (i : Int)) (eqLD (a.drop i) (b.drop i)) := by
    intro m
    induction m with
    | zero =>
      intro i hi
      refine Ev.step (fun n => by rw [eqfD.l0]) ?_
      rw [List.drop_eq_nil_of_le (by omega), List.drop_eq_nil_of_le (by omega)]
      exact Ev.e (by omega) (Ev.now _)
    | succ m ih =>
      intro i hi
      refine Ev.step (fun n => by rw [eqfD.l0]) ?_
      rw [rd106 a i (by omega), rd106 b i (by omega), w64s (by omega), List.drop_eq_getElem_cons (show i < a.length by omega), List.drop_eq_getElem_cons (show i < b.length by omega), eqLD]
      refine Ev.t (by omega) (Ev.t (by omega) (Ev.t (by omega) (Ev.t (by omega) ?_)))
      unfold sameD.f
      simp only [Option.bind_some]
      exact Ev.ite2 (ih (i + 1) (by omega)) (Ev.now _)
  exact key a.length 0 (by omega)
theorem eqfF_ev (a b : List S104) (ha : tinyL a) : Ev (fun n => eqfF.f n a b) (eqLF a b) := by
  unfold eqfF.f
  by_cases hl : a.length = b.length
  case neg =>
    rw [eqLF_len hl]
    exact Ev.e (by omega) (Ev.now _)
  refine Ev.t (by omega) ?_
  have key : ∀ m i : Nat, i + m = a.length → Ev (fun n => eqfF.l0 n b a (a.length : Int) (i : Int)) (eqLF (a.drop i) (b.drop i)) := by
    intro m
    induction m with
    | zero =>
      intro i hi
      refine Ev.step (fun n => by rw [eqfF.l0]) ?_
      rw [List.drop_eq_nil_of_le (by omega), List.drop_eq_nil_of_le (by omega)]
      exact Ev.e (by omega) (Ev.now _)
    | succ m ih =>
      intro i hi
      have h1 : i < a.length := by omega
      refine Ev.step (fun n => by rw [eqfF.l0]) ?_
      rw [rd104 a i h1, rd104 b i (by omega), w64s (by have := ha.1; omega), List.drop_eq_getElem_cons h1, List.drop_eq_getElem_cons (show i < b.length by omega), eqLF]
      refine Ev.t (by omega) (Ev.t (by omega) (Ev.t (by omega) (Ev.t (by omega) ?_)))
      refine Ev.bind ?_ (Ev.ite2 (ih (i + 1) (by omega)) (Ev.now _))
      unfold sameF.f eqF
      refine Ev.ite2 (Ev.ite2 (Ev.ite2 (Ev.ite2 (Ev.bind ?_ (Ev.now _)) (Ev.now _)) (Ev.now _)) (Ev.now _)) (Ev.now _)
      unfold equalD.f
      exact Ev.bind (eqfD_ev _ _ (ha.2 _ (List.getElem_mem h1))) (Ev.now _)
  exact key a.length 0 (by omega)
theorem Same_ev (nm : ByteArray) (k ax x y z lo hi : Int) (l : List S104) (nm' : ByteArray) (k' ax' x' y' z' lo' hi' : Int) (l' : List S104) (hl : tinyL l) :
    Ev (fun n => feature_Same.f n nm k ax x y z lo hi l nm' k' ax' x' y' z' lo' hi' l') (sameV nm k ax x y z lo hi l nm' k' ax' x' y' z' lo' hi' l') := by
  unfold feature_Same.f sameV
  refine Ev.ite2 (Ev.ite2 (Ev.ite2 (Ev.ite2 (Ev.ite2 (Ev.bind ?_ (Ev.now _)) (Ev.now _)) (Ev.now _)) (Ev.now _)) (Ev.now _)) (Ev.now _)
  unfold equalF.f
  exact Ev.bind (eqfF_ev l l' hl) (Ev.now _)
theorem FeatureCompares_pure (nm : ByteArray) (k ax x y z lo hi : Int) (l : List S104) (nm' : ByteArray) (k' ax' x' y' z' lo' hi' : Int) (l' : List S104) :
    ∃ n, metrolablaw18_FeatureCompares.f n nm k ax x y z lo hi l nm' k' ax' x' y' z' lo' hi' l' = some true := by
  refine Ev.rounds (g := fun n => metrolablaw18_FeatureCompares.f n nm k ax x y z lo hi l nm' k' ax' x' y' z' lo' hi' l') ?_
  have j0 : ∀ c, (c = false → fewV nm l = true ∧ fewV nm' l' = true) → Ev (fun n => metrolablaw18_FeatureCompares.j0 n c nm k ax x y z lo hi l nm' k' ax' x' y' z' lo' hi' l') true := by
    intro c hc
    refine Ev.step (fun n => by rw [metrolablaw18_FeatureCompares.j0]) ?_
    unfold metrolablaw18_awake.f
    simp only [Option.bind_some]
    refine Ev.ite (fun _ => Ev.now _) (fun hn => ?_)
    obtain ⟨h1, h2⟩ := hc (Bool.eq_false_iff.2 hn)
    have t1 := tiny_few h1
    have t2 := tiny_few h2
    refine Ev.t (by trivial) (Ev.bind (Same_ev nm k ax x y z lo hi l nm' k' ax' x' y' z' lo' hi' l' t1) (Ev.bind (RSame_ev nm k ax x y z lo hi l nm' k' ax' x' y' z' lo' hi' l' t1) (Ev.t (by simp) (Ev.bind (Same_ev nm k ax x y z lo hi l nm k ax x y z lo hi l t1) (Ev.t (sameV_refl _ _ _ _ _ _ _ _ _) (Ev.bind (Same_ev nm' k' ax' x' y' z' lo' hi' l' nm' k' ax' x' y' z' lo' hi' l' t2) (Ev.some_eq (sameV_refl _ _ _ _ _ _ _ _ _))))))))
  unfold metrolablaw18_FeatureCompares.f
  refine Ev.bind (Few_ev nm k ax x y z lo hi l) (Ev.ite (fun h1 => Ev.bind (Few_ev nm' k' ax' x' y' z' lo' hi' l') (j0 _ (fun h2 => ⟨h1, ?_⟩))) (fun _ => j0 true (fun h => by cases h)))
  simpa using h2
end Go.Proofs.Ytkgdlbepjmgaiaa.Fea
set_option linter.unusedVariables false
set_option linter.unusedSimpArgs false
namespace Go.Proofs.Ytkgdlbepjmgaiaa.Row
open Go.RowKit Go.Proofs.YtkgdlbepjmgaiaaW.PrintWords
def Opens {α : Type} (P : Program) (k : Kd α) (t : TypeId) (Q : α → Prop) : Prop :=
  ∀ (H : Type) (enc : TypeId × Value → H) (w : World) (base : Nat) (spare : Nat → Bool) (held : Bool) (fuel : Nat) (cs : List Value) (x : DataW H × List MemPlace),
    DataW.trod enc P w base spare held fuel t cs = some x → ∃ a, k.K w a cs ∧ Q a
variable {P : Program}
theorem opens_int {t : TypeId} {q : IntKind} (ht : P.underlying t = some (.int q)) : Opens P (Kd.int q) t (fun n => (Lit.int q n).wf = true) := by
  intro H enc w base spare held fuel cs x h
  obtain ⟨n, rfl, _, hw⟩ := DataW.trod_int ht h
  exact ⟨n, rfl, hw⟩
theorem opens_bool {t : TypeId} (ht : P.underlying t = some .bool) : Opens P Kd.bool t (fun _ => True) := by
  intro H enc w base spare held fuel cs x h
  obtain ⟨n, rfl, _⟩ := DataW.trod_bool ht h
  exact ⟨n, rfl, trivial⟩
theorem opens_string {t : TypeId} (ht : P.underlying t = some .string) : Opens P Kd.string t (fun s => s.size ≤ maxLen) := by
  intro H enc w base spare held fuel cs x h
  obtain ⟨n, rfl, _, hw⟩ := DataW.trod_string ht h
  exact ⟨n, rfl, hw⟩
theorem cells_get {w : World} {base : Nat} {a : Addr} {n : Nat} {c : List Value} (h : w.cells? base a n = some c) : c.length = n ∧ ∀ i u, c[i]? = some u → w.cell? (a.add i) = some u := by
  unfold World.cells? at h
  split at h
  case isFalse => cases h
  have hl : c.length = n := by simpa using mapM_some_length h
  refine ⟨hl, fun i u hi => ?_⟩
  have hlt : i < n := by rw [← hl]; exact (List.getElem?_eq_some_iff.1 hi).1
  rw [← hi]
  exact mapM_some_get h i i (by simp [hlt])
theorem list_of {α : Type} {R : Nat → α → Prop} : ∀ n, (∀ i, i < n → ∃ a, R i a) → ∃ l : List α, l.length = n ∧ ∀ i a, l[i]? = some a → R i a
  | 0, _ => ⟨[], rfl, fun i a h => by simp at h⟩
  | n + 1, h => by
    obtain ⟨l, hl, hr⟩ := list_of n (fun i hi => h i (by omega))
    obtain ⟨a, ha⟩ := h n (by omega)
    refine ⟨l ++ [a], by simp [hl], fun i b hi => ?_⟩
    rcases Nat.lt_or_ge i n with hlt | hge
    · rw [List.getElem?_append_left (by omega)] at hi
      exact hr i b hi
    · have hi' : i < (l ++ [a]).length := (List.getElem?_eq_some_iff.1 hi).1
      obtain rfl : i = n := by simp [hl] at hi'; omega
      rw [List.getElem?_append_right (by omega), hl] at hi
      simp at hi
      subst hi
      exact ha
theorem opens_slice {α : Type} {d : Kd α} {t e : TypeId} {Q : α → Prop} (ht : P.underlying t = some (.slice e)) (hs : P.cellsOf e = d.sz) (h : Opens P d e Q) : Opens P (Kd.slice e d) t (fun xs => xs.length ≤ maxLen ∧ ∀ x ∈ xs, Q x) := by
  intro H enc w base spare held fuel cs x hx
  rcases DataW.trod_slice ht hx with ⟨rfl, rfl⟩ | ⟨a, len, cap, elems, rest, n, _, rfl, rfl, hb, hl, hm, hlen, hel, _, _⟩
  · exact ⟨[], ⟨none, 0, rfl, Nat.le_refl _, rfl, by simp, fun h => absurd h (by simp)⟩, by simp, by simp⟩
  · have each : ∀ i, i < len → ∃ a', Q a' ∧ ∃ c, c.length = d.sz ∧ d.K w a' c ∧ ∀ j u, c[j]? = some u → w.cell? (a.add (i * d.sz + j)) = some u := by
      intro i hi
      have h1 := hel i hi
      have hy : ∃ y, elems[i]? = some y := ⟨elems[i]'(by omega), List.getElem?_eq_getElem (by omega)⟩
      obtain ⟨y, hy⟩ := hy
      rw [hy, Option.bind_eq_some_iff] at h1
      obtain ⟨c, hc, hr⟩ := h1
      obtain ⟨a', hK, hQ⟩ := h H enc w base spare held n c y hr
      obtain ⟨hcl, hcc⟩ := cells_get hc
      refine ⟨a', hQ, c, d.K_len hK, hK, fun j u hj => ?_⟩
      have := hcc j u hj
      rw [hs, add_add] at this
      exact this
    obtain ⟨xs, hxl, hxs⟩ := list_of len each
    refine ⟨xs, ⟨some a, cap, by rw [hxl], by omega, ⟨rfl, by unfold maxLen at hm; omega, fun _ => ⟨a, rfl, fun j p hp => (hxs j p hp).2⟩⟩⟩, by omega, fun x hx => ?_⟩
    obtain ⟨j, hj⟩ := List.getElem?_of_mem hx
    exact (hxs j x hj).1
def OpensF {α : Type} (P : Program) (k : Kd α) (fs : List Field) (off : Nat) (Q : α → Prop) : Prop :=
  ∀ (H : Type) (enc : TypeId × Value → H) (w : World) (base : Nat) (spare : Nat → Bool) (held : Bool) (n : Nat) (cs : List Value),
    cs.length = off + k.sz → (∀ f ∈ fs, ∃ y, DataW.trod enc P w base spare held n f.type ((cs.drop f.offset).take (P.cellsOf f.type)) = some y) → ∃ a, k.K w a (cs.drop off) ∧ Q a
theorem opensF_one {α : Type} {k : Kd α} {f : Field} {off : Nat} {Q : α → Prop} (ho : f.offset = off) (hs : P.cellsOf f.type = k.sz) (h : Opens P k f.type Q) : OpensF P k [f] off Q := by
  intro H enc w base spare held n cs hl hf
  obtain ⟨y, hy⟩ := hf f (by simp)
  obtain ⟨a, hK, hQ⟩ := h H enc w base spare held n _ y hy
  refine ⟨a, ?_, hQ⟩
  rw [ho, hs, List.take_of_length_le (by simp; omega)] at hK
  exact hK
theorem opensF_cons {α β : Type} {a : Kd α} {b : Kd β} {f : Field} {fs : List Field} {off : Nat} {Q : α → Prop} {R : β → Prop} (ho : f.offset = off) (hs : P.cellsOf f.type = a.sz) (h : Opens P a f.type Q) (hr : OpensF P b fs (off + a.sz) R) :
    OpensF P (Kd.pair a b) (f :: fs) off (fun x => Q x.1 ∧ R x.2) := by
  intro H enc w base spare held n cs hl hf
  have hl' : cs.length = off + (a.sz + b.sz) := hl
  obtain ⟨y, hy⟩ := hf f (by simp)
  obtain ⟨x, hK, hQ⟩ := h H enc w base spare held n _ y hy
  obtain ⟨z, hK2, hR⟩ := hr H enc w base spare held n cs (by omega) (fun g hg => hf g (by simp [hg]))
  refine ⟨(x, z), ⟨(cs.drop off).take a.sz, cs.drop (off + a.sz), ?_, ?_, hK2⟩, hQ, hR⟩
  · rw [← List.drop_drop, List.take_append_drop]
  · rw [ho, hs] at hK; exact hK
theorem opens_struct {α β : Type} {k : Kd α} {t : TypeId} {fs : Array Field} {Q : α → Prop} {g : β → α} {R : β → Prop} (ht : P.underlying t = some (.struct fs)) (hs : P.cellsOf t = k.sz) (h : OpensF P k fs.toList 0 Q)
    (hg : ∀ a, Q a → ∃ b, g b = a ∧ R b) : Opens P (Kd.iso k g) t R := by
  intro H enc w base spare held fuel cs x hx
  obtain ⟨xs, n, _, _, hl, hlen, hf⟩ := DataW.trod_struct ht hx
  obtain ⟨a, hK, hQ⟩ := h H enc w base spare held n cs (by omega) (fun f hf' => by
    obtain ⟨i, hi⟩ := List.getElem?_of_mem hf'
    have h1 := hf i f (by simpa using hi)
    have hlt : i < xs.length := by
      have := (List.getElem?_eq_some_iff.1 hi).1
      rw [hlen]; simpa using this
    exact ⟨xs[i], by rw [h1, List.getElem?_eq_getElem hlt]⟩)
  obtain ⟨b, rfl, hR⟩ := hg a hQ
  refine ⟨b, ?_, hR⟩
  show k.K w (g b) cs
  simpa using hK
theorem sized_rows {H : Type} {enc : TypeId × Value → H} {w : World} {base : Nat} {spare : Nat → Bool} {held : Bool} {ts : List TypeId} {ds : List (DataW H)} {j : Nat} {t e : TypeId} {A : Option Addr} {n c bytes : Nat} {d : DataW H} {p : List MemPlace}
    (hsz : (DataW.weightsEach P ts ds).all (· ≤ reachBytes) = true) (ht : ts[j]? = some t) (hd : ds[j]? = some d) (hu : P.underlying t = some (.slice e)) (hB : P.bytesOf e = bytes)
    (h : DataW.Trod enc P w base spare held t (.slice A n c) d p) : n * bytes ≤ 140737488351232 := by
  obtain ⟨fuel, hf⟩ := h
  rcases DataW.trod_slice hu hf with ⟨hcs, hx⟩ | ⟨a, len, cap, elems, rest, m, _, hcs, hx, _, hl, _, hlen, _⟩
  · simp [Value.cells] at hcs
    obtain ⟨_, rfl, _⟩ := hcs
    simp
  · simp [Value.cells] at hcs
    obtain ⟨_, rfl, rfl⟩ := hcs
    obtain ⟨hx, _⟩ := Prod.mk.inj hx
    subst hx
    have z := sized_slice hsz ht hd hu
    rw [hB] at z
    have h1 : n ≤ (elems.map (·.1)).length + (rest.map (·.1)).length := by simp; omega
    exact Nat.le_trans (Nat.mul_le_mul_right _ h1) z
end Go.Proofs.Ytkgdlbepjmgaiaa.Row
set_option linter.unusedVariables false
namespace Go.Proofs.Ytkgdlbepjmgaiaa.Fea
open Go.RowKit Go.Proofs.YtkgdlbepjmgaiaaW.PrintWords Go.Proofs.Ytkgdlbepjmgaiaa.Row
theorem o106 : Opens Try.prog k106 106 (fun _ => True) :=
  opens_struct Try.underlying106 (by kernel_rfl)
    (opensF_cons rfl (by kernel_rfl) (opens_string Try.underlying9) (opensF_one rfl (by kernel_rfl) (opens_int Try.underlying3)))
    (fun a _ => ⟨⟨a.1, a.2⟩, rfl, trivial⟩)
theorem o104 : Opens Try.prog k104 104 (fun _ => True) :=
  opens_struct Try.underlying104 (by kernel_rfl)
    (opensF_cons rfl (by kernel_rfl) (opens_int Try.underlying3) (opensF_cons rfl (by kernel_rfl) (opens_bool Try.underlying4) (opensF_cons rfl (by kernel_rfl) (opens_int Try.underlying3)
      (opensF_cons rfl (by kernel_rfl) (opens_int Try.underlying3) (opensF_one rfl (by kernel_rfl) (opens_slice Try.underlying102 (by kernel_rfl) o106))))))
    (fun a _ => ⟨⟨a.1, a.2.1, a.2.2.1, a.2.2.2.1, a.2.2.2.2⟩, rfl, trivial⟩)
theorem o23 : Opens Try.prog k23 23 (fun _ => True) :=
  opens_struct Try.underlying23 (by kernel_rfl)
    (opensF_cons rfl (by kernel_rfl) (opens_int Try.underlying3) (opensF_cons rfl (by kernel_rfl) (opens_int Try.underlying3) (opensF_one rfl (by kernel_rfl) (opens_int Try.underlying3))))
    (fun a _ => ⟨⟨a.1, a.2.1, a.2.2⟩, rfl, trivial⟩)
theorem o25 : Opens Try.prog k25 25 (fun _ => True) :=
  opens_struct Try.underlying25 (by kernel_rfl)
    (opensF_cons rfl (by kernel_rfl) (opens_int Try.underlying3) (opensF_one rfl (by kernel_rfl) (opens_int Try.underlying3)))
    (fun a _ => ⟨⟨a.1, a.2⟩, rfl, trivial⟩)
theorem o28 : Opens Try.prog k28 28 (fun _ => True) :=
  opens_struct Try.underlying28 (by kernel_rfl)
    (opensF_cons rfl (by kernel_rfl) (opens_string Try.underlying9) (opensF_cons rfl (by kernel_rfl) (opens_int Try.underlying3) (opensF_cons rfl (by kernel_rfl) (opens_int Try.underlying3)
      (opensF_cons rfl (by kernel_rfl) o23 (opensF_cons rfl (by kernel_rfl) o25 (opensF_one rfl (by kernel_rfl) (opens_slice Try.underlying26 (by kernel_rfl) o104)))))))
    (fun a _ => ⟨⟨a.1, a.2.1, a.2.2.1, a.2.2.2.1, a.2.2.2.2.1, a.2.2.2.2.2⟩, rfl, trivial⟩)
end Go.Proofs.Ytkgdlbepjmgaiaa.Fea
set_option linter.unusedVariables false
set_option linter.unusedSimpArgs false
namespace Go.Proofs.Ytkgdlbepjmgaiaa.featureCompares
open Go.ChangeShapes Go.WideShapes Go.ChangeAt Go.RowKit
open Go.ChangeMaps (open_string shut_string)
open Go.Proofs.YtkgdlbepjmgaiaaW.PrintWords Go.Proofs.Ytkgdlbepjmgaiaa.Row Go.Proofs.Ytkgdlbepjmgaiaa.Fea
theorem own : ownKnob Try.prog.godebug = none := by kernel_rfl
theorem laidOut : laidOutB Try.prog = true := by kernel_rfl
set_option maxRecDepth 100000 in
set_option maxHeartbeats 1000000 in
theorem lifted (os : Os) (started : os.Started) (H : Type) (enc : TypeId × Value → H) :
    ReturnsInHanded {} Try.checked os 9 .any (Rows.featureComparesSpec.pre6 enc Try.prog Try.f9 Rows.featureComparesRow.domain false) (Rows.featureComparesSpec.post enc Try.prog Try.f9 false true false false) := by
  refine returnsInHanded_of_change_sized (C := Try.checked) own started (by kernel_rfl) Try.func9
    (ChangeSpec.witness6 (enc := enc) (C := Try.checked) false ⟨#[], #[.agg #[.string ByteArray.empty, .int .i64 0, .int .i64 0, .int .i64 0, .int .i64 0, .int .i64 0, .int .i64 0, .int .i64 0, .slice none 0 0], .agg #[.string ByteArray.empty, .int .i64 0, .int .i64 0, .int .i64 0, .int .i64 0, .int .i64 0, .int .i64 0, .int .i64 0, .slice none 0 0]], []⟩ 8 (by kernel_rfl) (by kernel_rfl) (by kernel_rfl) (by kernel_rfl)) ?_
  intro W base args ds gs before hval0 hW hcnd hsz0 _
  have hsz : (DataW.weightsEach Try.prog (Try.f9.params.toList ++ Rows.featureComparesSpec.plain.varTypes Try.prog) (ds ++ gs)).all (· ≤ reachBytes) = true := hsz0
  have hval : ∀ (j : Nat) t v, Try.f9.params[j]? = some t → args[j]? = some v → Value.okWide Try.prog W .any base t v := hval0
  have hW' := hW
  obtain ⟨p, q, hA0, hV, rfl, hfz, hnd⟩ := hW
  have hA : DataW.TrodAll enc Try.prog W 0 (fun _ => true) true Try.f9.params.toList args.toList ds p := hA0
  rw [Try.params9] at hA hval hsz
  obtain ⟨v0, vs0, d0, ds0, p0, q0, hargs, rfl, rfl, h0, r0⟩ := trodAll_cons hA
  obtain ⟨v1, vs1, d1, ds1, p1, q1, rfl, rfl, rfl, h1, r1⟩ := trodAll_cons r0
  obtain ⟨rfl, rfl, rfl⟩ := trodAll_nil r1
  obtain rfl : args = #[v0, v1] := by cases args; simp_all
  obtain ⟨rfl, rfl⟩ := trodVars_none hV
  have k0 := h0
  have lt0 : ∀ x ∈ p0, x.block < W.heap.size := by obtain ⟨m, hm⟩ := k0; exact DataW.trod_lt m _ _ _ hm
  obtain ⟨cs0, rfl, hn0⟩ := okWide_struct Try.underlying28 (hval 0 28 v0 rfl rfl)
  obtain ⟨x0, hK0, _⟩ : ∃ x, k28.K W x (Value.agg cs0).cells.toList ∧ True := by obtain ⟨fuel, hf⟩ := h0; exact o28 _ _ _ _ _ _ _ _ _ hf
  obtain ⟨A0, c0, hq0, hlc0, hC0⟩ := k28_open hK0
  obtain rfl : cs0 = #[.string x0.f0, .int .i64 x0.f1, .int .i64 x0.f2, .int .i64 x0.f3.f0, .int .i64 x0.f3.f1, .int .i64 x0.f3.f2, .int .i64 x0.f4.f0, .int .i64 x0.f4.f1, .slice A0 x0.f5.length c0] := Array.toList_inj.1 hq0
  have k1 := h1
  have lt1 : ∀ x ∈ p1, x.block < W.heap.size := by obtain ⟨m, hm⟩ := k1; exact DataW.trod_lt m _ _ _ hm
  obtain ⟨cs1, rfl, hn1⟩ := okWide_struct Try.underlying28 (hval 1 28 v1 rfl rfl)
  obtain ⟨x1, hK1, _⟩ : ∃ x, k28.K W x (Value.agg cs1).cells.toList ∧ True := by obtain ⟨fuel, hf⟩ := h1; exact o28 _ _ _ _ _ _ _ _ _ hf
  obtain ⟨A1, c1, hq1, hlc1, hC1⟩ := k28_open hK1
  obtain rfl : cs1 = #[.string x1.f0, .int .i64 x1.f1, .int .i64 x1.f2, .int .i64 x1.f3.f0, .int .i64 x1.f3.f1, .int .i64 x1.f3.f2, .int .i64 x1.f4.f0, .int .i64 x1.f4.f1, .slice A1 x1.f5.length c1] := Array.toList_inj.1 hq1
  clear hA0 hval0 hsz0 hsz
  obtain ⟨k, hk⟩ := FeatureCompares_pure x0.f0 x0.f1 x0.f2 x0.f3.f0 x0.f3.f1 x0.f3.f2 x0.f4.f0 x0.f4.f1 x0.f5 x1.f0 x1.f1 x1.f2 x1.f3.f0 x1.f3.f1 x1.f3.f2 x1.f4.f0 x1.f4.f1 x1.f5
  refine (metrolablaw18_FeatureCompares.calls k x0.f0 x0.f1 x0.f2 x0.f3.f0 x0.f3.f1 x0.f3.f2 x0.f4.f0 x0.f4.f1 _ _ x0.f5 x1.f0 x1.f1 x1.f2 x1.f3.f0 x1.f3.f1 x1.f3.f2 x1.f4.f0 x1.f4.f1 _ _ x1.f5 true W hC0 hlc0 hC1 hlc1 rfl hk).mono fun e W' ⟨he, bel⟩ => ?_
  subst he
  exact ⟨_, rfl, _, _, _, [], _, [], hW', trodAll_mk1 (shut_bool Try.underlying4 _), (trodAll_cons_mk (Below.trod laidOut (by kernel_rfl) (of_decide_eq_true (by kernel_rfl)) k0 bel lt0) (trodAll_cons_mk (Below.trod laidOut (by kernel_rfl) (of_decide_eq_true (by kernel_rfl)) k1 bel lt1) trodAll_mk0)), rfl, bel.frame _, fun h => by cases h⟩
theorem over : Rows.featureComparesRow.holds Try.pinned (OpenSpec.ofChange Rows.featureComparesSpec) :=
  OpenClaim.holds_of_wide 9 Try.f9 rfl rfl rfl rfl rfl rfl rfl ⟨rfl, rfl, rfl, rfl, rfl⟩ rfl rfl rfl rfl rfl (by kernel_rfl) Try.func9 (by kernel_rfl)
    (of_decide_eq_true (by kernel_rfl)) (by unfold Func.isWrapper; first | (rw [if_pos (by decide +kernel)]; kernel_rfl) | (rw [if_neg (by decide +kernel)]; exact ⟨rfl, rfl⟩))
    (fun os started H enc _ => lifted os started H enc)
theorem proved : Rows.FeatureComparesSaid := over
#print axioms proved
end Go.Proofs.Ytkgdlbepjmgaiaa.featureCompares
namespace Go.Proofs.Ytkgdlbepjmgaiaa
theorem featureCompares_holds : Rows.FeatureComparesSaid := featureCompares.proved
end Go.Proofs.Ytkgdlbepjmgaiaa
