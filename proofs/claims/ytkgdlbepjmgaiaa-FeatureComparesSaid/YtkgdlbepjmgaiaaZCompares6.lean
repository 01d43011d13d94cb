/- Part 6 of the texts behind the last one of this claim. -/
import Derived.Lib.SliceRun
import Derived.Lib.Walk
import Derived.RegionTactic
import Derived.BigRegion
import Derived.Shelf.Abstract
import Derived.Test.YtkgdlbepjmgaiaaZCompares5
namespace Go.Proofs.Ytkgdlbepjmgaiaa.Fea
open Go.RowKit Go.Proofs.YtkgdlbepjmgaiaaW.PrintWords Go.Proofs.YtkgdlbepjmgaiaaW.PrintLast Go.Proofs.YtkgdlbepjmgaiaaW.PrintMore
attribute [local go_sem] max2_int min2_int max_two min_two max_three min_three max_four min_four
set_option linter.unusedVariables false
set_option linter.unusedSimpArgs false
def feature_extreme.f (k : Nat) (a0_0 : ByteArray) (a0_1 : Int) (a0_2 : Int) (a0_3 : Int) (a0_4 : Int) (a0_5 : Int) (a0_6 : Int) (a0_7 : Int) (l0_8 : List (S104)) (a1 : Bool) : Option (Int × Int) := (feature_Check.f k a0_0 a0_1 a0_2 a0_3 a0_4 a0_5 a0_6 a0_7 l0_8).bind fun t145 => (if t145 = 0 then (if a0_1 = 0 then (some (0, 14)) else (if a1 = true then (some (a0_6, 0)) else (some (a0_7, 0)))) else (some (0, t145)))
theorem feature_extreme.mono : ∀ a0 a1 a2 a3 a4 a5 a6 a7 a8 a9 k, LeO (feature_extreme.f k a0 a1 a2 a3 a4 a5 a6 a7 a8 a9) (feature_extreme.f (k + 1) a0 a1 a2 a3 a4 a5 a6 a7 a8 a9) := by
 intro a0 a1 a2 a3 a4 a5 a6 a7 a8 a9 k
 unfold feature_extreme.f
 repeat' first
  | (with_reducible exact feature_Check.mono _ _ _ _ _ _ _ _ _ _)
  | (with_reducible exact LeO.refl _)
  | (with_reducible exact LeO.none _)
  | (with_reducible refine LeO.ite ?_ ?_)
  | (with_reducible refine LeO.bind ?_ (fun _ => ?_))
  | exact feature_Check.mono _ _ _ _ _ _ _ _ _ _
  | exact LeO.none _
  | refine LeO.ite ?_ ?_
  | refine LeO.bind ?_ (fun _ => ?_)
set_option maxHeartbeats 8000000 in
set_option maxRecDepth 100000 in
theorem feature_extreme.calls (k : Nat) (a0_0 : ByteArray) (a0_1 : Int) (a0_2 : Int) (a0_3 : Int) (a0_4 : Int) (a0_5 : Int) (a0_6 : Int) (a0_7 : Int) (A0_8 : Option Addr) (c0_8 : Nat) (l0_8 : List (S104)) (a1 : Bool) (r1 : Int) (r2 : Int) (w : World) (hr0_8 : Kd.C k104 w A0_8 l0_8.length l0_8) (hc0_8 : l0_8.length ≤ c0_8) (h : feature_extreme.f k a0_0 a0_1 a0_2 a0_3 a0_4 a0_5 a0_6 a0_7 l0_8 a1 = some (r1, r2)) :
 Calls Try.prog 78 #[.agg #[.string a0_0, .int .i64 a0_1, .int .i64 a0_2, .int .i64 a0_3, .int .i64 a0_4, .int .i64 a0_5, .int .i64 a0_6, .int .i64 a0_7, .slice A0_8 l0_8.length c0_8], .bool a1] w fun e w' => e = .returned (.tuple #[.int .i64 r1, .int .i64 r2]) ∧ Below w.heap.size w w' := by
 have hu28 := Try.underlying28
 have HR0_8 := zm hr0_8
 have HC0_8 := zm hc0_8
 clear hr0_8 hc0_8
 have HB := zm (Below.refl w.heap.size w)
 have H : ((feature_Check.f k a0_0 a0_1 a0_2 a0_3 a0_4 a0_5 a0_6 a0_7 l0_8).bind fun t145 => (if t145 = 0 then (if a0_1 = 0 then (some (0, 14)) else (if a1 = true then (some (a0_6, 0)) else (some (a0_7, 0)))) else (some (0, t145)))) = some (r1, r2) := h
 clear h
 replace H := Option.bind_eq_some_iff.mp H
 obtain ⟨t145, A30, H⟩ := H
 replace H : (if t145 = 0 then (if a0_1 = 0 then (some (0, 14)) else (if a1 = true then (some (a0_6, 0)) else (some (a0_7, 0)))) else (some (0, t145))) = some (r1, r2) := H
 have A3 := zm A30
 clear A30
 by_cases c4 : t145 = 0
 ·rw [if_pos c4] at H
  have c4b0 : (t145 == 0) = true := beq_iff_eq.mpr c4
  have c4b1 : (t145 != 0) = false := bne_eq_false_iff_eq.mpr c4
  clear c4
  by_cases c5 : a0_1 = 0
  ·rw [if_pos c5] at H
   have c5b0 : (a0_1 == 0) = true := beq_iff_eq.mpr c5
   have c5b1 : (a0_1 != 0) = false := bne_eq_false_iff_eq.mpr c5
   clear c5
   simp only [Option.some.injEq, Prod.mk.injEq] at H
   obtain ⟨rfl, rfl⟩ := H
   go_enter Try.func78, Try.ntmps78
   go_wp2_with (first | ((with_reducible refine gate_dst (N := 2) rfl ?_); refine box_event ?hg (N := 2) ?hd (cs := #[.string a0_0, .int .i64 a0_1, .int .i64 a0_2, .int .i64 a0_3, .int .i64 a0_4, .int .i64 a0_5, .int .i64 a0_6, .int .i64 a0_7, .slice A0_8 l0_8.length c0_8]) (t := 28) ?hr ?_; (case hd => rfl); (case hg => rfl); (case hr => first | (go_simp; done) | (go_simp; rfl)); intro gb144 hg w6 hbox hb; have n0_ := zm (below_step (by repeat (first | (with_reducible first | exact HB.out | apply zA | apply zD | apply zE) | exact HB.out)) hb); have n1_ := zm (hbox); have n2_ := zm ((by rw [hg]; exact (below_size (by repeat (first | (with_reducible first | exact HB.out | apply zA | apply zD | apply zE) | exact HB.out))) : w.heap.size ≤ gb144)); have n3_ := zm ((by rw [hg]; exact (below_size (by repeat (first | (with_reducible first | exact HB.out | apply zA | apply zD | apply zE) | exact HB.out))) : w.heap.size ≤ gb144)); clear HB; have HB := n0_; have BK144 := n1_; have GW144 := n2_; have GE144 := n3_; clear n0_ n1_ n2_ n3_; clear hb hbox hg; have hcz7_0 := zc BK144.out 0 (.string a0_0) rfl; have hcz7_1 := zc BK144.out 1 (.int .i64 a0_1) rfl; have hcz7_2 := zc BK144.out 2 (.int .i64 a0_2) rfl; have hcz7_3 := zc BK144.out 3 (.int .i64 a0_3) rfl; have hcz7_4 := zc BK144.out 4 (.int .i64 a0_4) rfl; have hcz7_5 := zc BK144.out 5 (.int .i64 a0_5) rfl; have hcz7_6 := zc BK144.out 6 (.int .i64 a0_6) rfl; have hcz7_7 := zc BK144.out 7 (.int .i64 a0_7) rfl; have hcz7_8 := zc BK144.out 8 (.slice A0_8 l0_8.length c0_8) rfl; have hfz7_0 := zf BK144.out 0; have hfz7_1 := zf BK144.out 1; have hfz7_2 := zf BK144.out 2; have hfz7_3 := zf BK144.out 3; have hfz7_4 := zf BK144.out 4; have hfz7_5 := zf BK144.out 5; have hfz7_6 := zf BK144.out 6; have hfz7_7 := zf BK144.out 7; have hfz7_8 := zf BK144.out 8) | ((with_reducible refine gate_callee (f := 29) rfl ?_); refine goesL_ (some 8) rfl rfl Try.func29 (by kernel_rfl) rfl #[.agg #[.string a0_0, .int .i64 a0_1, .int .i64 a0_2, .int .i64 a0_3, .int .i64 a0_4, .int .i64 a0_5, .int .i64 a0_6, .int .i64 a0_7, .slice A0_8 l0_8.length c0_8]] rfl (by (try simp only [List.map_toArray, List.map_cons, List.map_nil]); first | done | rfl | (simp only [List.length_drop, List.length_take]; rfl)) ?_; (with_reducible refine (feature_Check.calls k a0_0 a0_1 a0_2 a0_3 a0_4 a0_5 a0_6 a0_7 _ _ l0_8 t145 _ ?side1 ?side2 A3.out).mono ?_); (case side1 => repeat (first | exact (Kd.C_below HR0_8.out HB.out) | (with_reducible refine Kd.C_alloc ?_ _) | (with_reducible refine Kd.C_drewN ?_ _) | (with_reducible refine Kd.C_drew ?_))); (case side2 => exact HC0_8.out); rintro e w8 ⟨rfl, hb⟩; refine ⟨_, rfl, ?_⟩; have n0_ := zm (zb (g := gb144) (o := .cells #[.string a0_0, .int .i64 a0_1, .int .i64 a0_2, .int .i64 a0_3, .int .i64 a0_4, .int .i64 a0_5, .int .i64 a0_6, .int .i64 a0_7, .slice A0_8 l0_8.length c0_8] 28 (0, 0)) (by (with_reducible repeat first | apply zd | apply ze | apply za); exact BK144.out) hb); have n1_ := zm (below_step (by repeat (first | (with_reducible first | exact HB.out | apply zA | apply zD | apply zE | refine zS ?_ GE144.out) | exact HB.out)) hb); clear BK144 HB; have BK144 := n0_; have HB := n1_; clear n0_ n1_; (try clear hb); (try clear hb2); (try clear hk); (try clear hi); have hcz9_0 := zc BK144.out 0 (.string a0_0) rfl; have hcz9_1 := zc BK144.out 1 (.int .i64 a0_1) rfl; have hcz9_2 := zc BK144.out 2 (.int .i64 a0_2) rfl; have hcz9_3 := zc BK144.out 3 (.int .i64 a0_3) rfl; have hcz9_4 := zc BK144.out 4 (.int .i64 a0_4) rfl; have hcz9_5 := zc BK144.out 5 (.int .i64 a0_5) rfl; have hcz9_6 := zc BK144.out 6 (.int .i64 a0_6) rfl; have hcz9_7 := zc BK144.out 7 (.int .i64 a0_7) rfl; have hcz9_8 := zc BK144.out 8 (.slice A0_8 l0_8.length c0_8) rfl; have hfz9_0 := zf BK144.out 0; have hfz9_1 := zf BK144.out 1; have hfz9_2 := zf BK144.out 2; have hfz9_3 := zf BK144.out 3; have hfz9_4 := zf BK144.out 4; have hfz9_5 := zf BK144.out 5; have hfz9_6 := zf BK144.out 6; have hfz9_7 := zf BK144.out 7; have hfz9_8 := zf BK144.out 8))
   go_ret2
   exact ⟨by first | rfl | (simp [errW_none, errW_some] <;> rfl) | (simp [*, errW_none, errW_some] <;> rfl), by repeat (first | (with_reducible first | exact HB.out | apply zA | apply zD | apply zE | refine zS ?_ GE144.out) | exact HB.out)⟩
  ·rw [if_neg c5] at H
   have c5b0 : (a0_1 == 0) = false := beq_eq_false_iff_ne.mpr c5
   have c5b1 : (a0_1 != 0) = true := bne_iff_ne.mpr c5
   by_cases c10 : a1 = true
   ·subst c10
    have H1 : (some (a0_6, 0)) = some (r1, r2) := by rw [if_pos rfl] at H; exact H
    clear H
    have H := H1
    clear H1
    simp only [Option.some.injEq, Prod.mk.injEq] at H
    obtain ⟨rfl, rfl⟩ := H
    go_enter Try.func78, Try.ntmps78
    go_wp2_with (first | ((with_reducible refine gate_dst (N := 2) rfl ?_); refine box_event ?hg (N := 2) ?hd (cs := #[.string a0_0, .int .i64 a0_1, .int .i64 a0_2, .int .i64 a0_3, .int .i64 a0_4, .int .i64 a0_5, .int .i64 a0_6, .int .i64 a0_7, .slice A0_8 l0_8.length c0_8]) (t := 28) ?hr ?_; (case hd => rfl); (case hg => rfl); (case hr => first | (go_simp; done) | (go_simp; rfl)); intro gb144 hg w11 hbox hb; have n0_ := zm (below_step (by repeat (first | (with_reducible first | exact HB.out | apply zA | apply zD | apply zE) | exact HB.out)) hb); have n1_ := zm (hbox); have n2_ := zm ((by rw [hg]; exact (below_size (by repeat (first | (with_reducible first | exact HB.out | apply zA | apply zD | apply zE) | exact HB.out))) : w.heap.size ≤ gb144)); have n3_ := zm ((by rw [hg]; exact (below_size (by repeat (first | (with_reducible first | exact HB.out | apply zA | apply zD | apply zE) | exact HB.out))) : w.heap.size ≤ gb144)); clear HB; have HB := n0_; have BK144 := n1_; have GW144 := n2_; have GE144 := n3_; clear n0_ n1_ n2_ n3_; clear hb hbox hg; have hcz12_0 := zc BK144.out 0 (.string a0_0) rfl; have hcz12_1 := zc BK144.out 1 (.int .i64 a0_1) rfl; have hcz12_2 := zc BK144.out 2 (.int .i64 a0_2) rfl; have hcz12_3 := zc BK144.out 3 (.int .i64 a0_3) rfl; have hcz12_4 := zc BK144.out 4 (.int .i64 a0_4) rfl; have hcz12_5 := zc BK144.out 5 (.int .i64 a0_5) rfl; have hcz12_6 := zc BK144.out 6 (.int .i64 a0_6) rfl; have hcz12_7 := zc BK144.out 7 (.int .i64 a0_7) rfl; have hcz12_8 := zc BK144.out 8 (.slice A0_8 l0_8.length c0_8) rfl; have hfz12_0 := zf BK144.out 0; have hfz12_1 := zf BK144.out 1; have hfz12_2 := zf BK144.out 2; have hfz12_3 := zf BK144.out 3; have hfz12_4 := zf BK144.out 4; have hfz12_5 := zf BK144.out 5; have hfz12_6 := zf BK144.out 6; have hfz12_7 := zf BK144.out 7; have hfz12_8 := zf BK144.out 8) | ((with_reducible refine gate_callee (f := 29) rfl ?_); refine goesL_ (some 8) rfl rfl Try.func29 (by kernel_rfl) rfl #[.agg #[.string a0_0, .int .i64 a0_1, .int .i64 a0_2, .int .i64 a0_3, .int .i64 a0_4, .int .i64 a0_5, .int .i64 a0_6, .int .i64 a0_7, .slice A0_8 l0_8.length c0_8]] rfl (by (try simp only [List.map_toArray, List.map_cons, List.map_nil]); first | done | rfl | (simp only [List.length_drop, List.length_take]; rfl)) ?_; (with_reducible refine (feature_Check.calls k a0_0 a0_1 a0_2 a0_3 a0_4 a0_5 a0_6 a0_7 _ _ l0_8 t145 _ ?side1 ?side2 A3.out).mono ?_); (case side1 => repeat (first | exact (Kd.C_below HR0_8.out HB.out) | (with_reducible refine Kd.C_alloc ?_ _) | (with_reducible refine Kd.C_drewN ?_ _) | (with_reducible refine Kd.C_drew ?_))); (case side2 => exact HC0_8.out); rintro e w13 ⟨rfl, hb⟩; refine ⟨_, rfl, ?_⟩; have n0_ := zm (zb (g := gb144) (o := .cells #[.string a0_0, .int .i64 a0_1, .int .i64 a0_2, .int .i64 a0_3, .int .i64 a0_4, .int .i64 a0_5, .int .i64 a0_6, .int .i64 a0_7, .slice A0_8 l0_8.length c0_8] 28 (0, 0)) (by (with_reducible repeat first | apply zd | apply ze | apply za); exact BK144.out) hb); have n1_ := zm (below_step (by repeat (first | (with_reducible first | exact HB.out | apply zA | apply zD | apply zE | refine zS ?_ GE144.out) | exact HB.out)) hb); clear BK144 HB; have BK144 := n0_; have HB := n1_; clear n0_ n1_; (try clear hb); (try clear hb2); (try clear hk); (try clear hi); have hcz14_0 := zc BK144.out 0 (.string a0_0) rfl; have hcz14_1 := zc BK144.out 1 (.int .i64 a0_1) rfl; have hcz14_2 := zc BK144.out 2 (.int .i64 a0_2) rfl; have hcz14_3 := zc BK144.out 3 (.int .i64 a0_3) rfl; have hcz14_4 := zc BK144.out 4 (.int .i64 a0_4) rfl; have hcz14_5 := zc BK144.out 5 (.int .i64 a0_5) rfl; have hcz14_6 := zc BK144.out 6 (.int .i64 a0_6) rfl; have hcz14_7 := zc BK144.out 7 (.int .i64 a0_7) rfl; have hcz14_8 := zc BK144.out 8 (.slice A0_8 l0_8.length c0_8) rfl; have hfz14_0 := zf BK144.out 0; have hfz14_1 := zf BK144.out 1; have hfz14_2 := zf BK144.out 2; have hfz14_3 := zf BK144.out 3; have hfz14_4 := zf BK144.out 4; have hfz14_5 := zf BK144.out 5; have hfz14_6 := zf BK144.out 6; have hfz14_7 := zf BK144.out 7; have hfz14_8 := zf BK144.out 8))
    go_ret2
    exact ⟨by first | rfl | (simp [errW_none, errW_some] <;> rfl) | (simp [*, errW_none, errW_some] <;> rfl), by repeat (first | (with_reducible first | exact HB.out | apply zA | apply zD | apply zE | refine zS ?_ GE144.out) | exact HB.out)⟩
   ·replace c10 := Bool.eq_false_iff.mpr c10
    subst c10
    have H1 : (some (a0_7, 0)) = some (r1, r2) := by rw [if_neg (show ¬ (false = true) by decide)] at H; exact H
    clear H
    have H := H1
    clear H1
    simp only [Option.some.injEq, Prod.mk.injEq] at H
    obtain ⟨rfl, rfl⟩ := H
    go_enter Try.func78, Try.ntmps78
    go_wp2_with (first | ((with_reducible refine gate_dst (N := 2) rfl ?_); refine box_event ?hg (N := 2) ?hd (cs := #[.string a0_0, .int .i64 a0_1, .int .i64 a0_2, .int .i64 a0_3, .int .i64 a0_4, .int .i64 a0_5, .int .i64 a0_6, .int .i64 a0_7, .slice A0_8 l0_8.length c0_8]) (t := 28) ?hr ?_; (case hd => rfl); (case hg => rfl); (case hr => first | (go_simp; done) | (go_simp; rfl)); intro gb144 hg w15 hbox hb; have n0_ := zm (below_step (by repeat (first | (with_reducible first | exact HB.out | apply zA | apply zD | apply zE) | exact HB.out)) hb); have n1_ := zm (hbox); have n2_ := zm ((by rw [hg]; exact (below_size (by repeat (first | (with_reducible first | exact HB.out | apply zA | apply zD | apply zE) | exact HB.out))) : w.heap.size ≤ gb144)); have n3_ := zm ((by rw [hg]; exact (below_size (by repeat (first | (with_reducible first | exact HB.out | apply zA | apply zD | apply zE) | exact HB.out))) : w.heap.size ≤ gb144)); clear HB; have HB := n0_; have BK144 := n1_; have GW144 := n2_; have GE144 := n3_; clear n0_ n1_ n2_ n3_; clear hb hbox hg; have hcz16_0 := zc BK144.out 0 (.string a0_0) rfl; have hcz16_1 := zc BK144.out 1 (.int .i64 a0_1) rfl; have hcz16_2 := zc BK144.out 2 (.int .i64 a0_2) rfl; have hcz16_3 := zc BK144.out 3 (.int .i64 a0_3) rfl; have hcz16_4 := zc BK144.out 4 (.int .i64 a0_4) rfl; have hcz16_5 := zc BK144.out 5 (.int .i64 a0_5) rfl; have hcz16_6 := zc BK144.out 6 (.int .i64 a0_6) rfl; have hcz16_7 := zc BK144.out 7 (.int .i64 a0_7) rfl; have hcz16_8 := zc BK144.out 8 (.slice A0_8 l0_8.length c0_8) rfl; have hfz16_0 := zf BK144.out 0; have hfz16_1 := zf BK144.out 1; have hfz16_2 := zf BK144.out 2; have hfz16_3 := zf BK144.out 3; have hfz16_4 := zf BK144.out 4; have hfz16_5 := zf BK144.out 5; have hfz16_6 := zf BK144.out 6; have hfz16_7 := zf BK144.out 7; have hfz16_8 := zf BK144.out 8) | ((with_reducible refine gate_callee (f := 29) rfl ?_); refine goesL_ (some 8) rfl rfl Try.func29 (by kernel_rfl) rfl #[.agg #[.string a0_0, .int .i64 a0_1, .int .i64 a0_2, .int .i64 a0_3, .int .i64 a0_4, .int .i64 a0_5, .int .i64 a0_6, .int .i64 a0_7, .slice A0_8 l0_8.length c0_8]] rfl (by (try simp only [List.map_toArray, List.map_cons, List.map_nil]); first | done | rfl | (simp only [List.length_drop, List.length_take]; rfl)) ?_; (with_reducible refine (feature_Check.calls k a0_0 a0_1 a0_2 a0_3 a0_4 a0_5 a0_6 a0_7 _ _ l0_8 t145 _ ?side1 ?side2 A3.out).mono ?_); (case side1 => repeat (first | exact (Kd.C_below HR0_8.out HB.out) | (with_reducible refine Kd.C_alloc ?_ _) | (with_reducible refine Kd.C_drewN ?_ _) | (with_reducible refine Kd.C_drew ?_))); (case side2 => exact HC0_8.out); rintro e w17 ⟨rfl, hb⟩; refine ⟨_, rfl, ?_⟩; have n0_ := zm (zb (g := gb144) (o := .cells #[.string a0_0, .int .i64 a0_1, .int .i64 a0_2, .int .i64 a0_3, .int .i64 a0_4, .int .i64 a0_5, .int .i64 a0_6, .int .i64 a0_7, .slice A0_8 l0_8.length c0_8] 28 (0, 0)) (by (with_reducible repeat first | apply zd | apply ze | apply za); exact BK144.out) hb); have n1_ := zm (below_step (by repeat (first | (with_reducible first | exact HB.out | apply zA | apply zD | apply zE | refine zS ?_ GE144.out) | exact HB.out)) hb); clear BK144 HB; have BK144 := n0_; have HB := n1_; clear n0_ n1_; (try clear hb); (try clear hb2); (try clear hk); (try clear hi); have hcz18_0 := zc BK144.out 0 (.string a0_0) rfl; have hcz18_1 := zc BK144.out 1 (.int .i64 a0_1) rfl; have hcz18_2 := zc BK144.out 2 (.int .i64 a0_2) rfl; have hcz18_3 := zc BK144.out 3 (.int .i64 a0_3) rfl; have hcz18_4 := zc BK144.out 4 (.int .i64 a0_4) rfl; have hcz18_5 := zc BK144.out 5 (.int .i64 a0_5) rfl; have hcz18_6 := zc BK144.out 6 (.int .i64 a0_6) rfl; have hcz18_7 := zc BK144.out 7 (.int .i64 a0_7) rfl; have hcz18_8 := zc BK144.out 8 (.slice A0_8 l0_8.length c0_8) rfl; have hfz18_0 := zf BK144.out 0; have hfz18_1 := zf BK144.out 1; have hfz18_2 := zf BK144.out 2; have hfz18_3 := zf BK144.out 3; have hfz18_4 := zf BK144.out 4; have hfz18_5 := zf BK144.out 5; have hfz18_6 := zf BK144.out 6; have hfz18_7 := zf BK144.out 7; have hfz18_8 := zf BK144.out 8))
    go_ret2
    exact ⟨by first | rfl | (simp [errW_none, errW_some] <;> rfl) | (simp [*, errW_none, errW_some] <;> rfl), by repeat (first | (with_reducible first | exact HB.out | apply zA | apply zD | apply zE | refine zS ?_ GE144.out) | exact HB.out)⟩
 ·rw [if_neg c4] at H
  have c4b0 : (t145 == 0) = false := beq_eq_false_iff_ne.mpr c4
  have c4b1 : (t145 != 0) = true := bne_iff_ne.mpr c4
  simp only [Option.some.injEq, Prod.mk.injEq] at H
  obtain ⟨rfl, rfl⟩ := H
  go_enter Try.func78, Try.ntmps78
  go_wp2_with (first | ((with_reducible refine gate_dst (N := 2) rfl ?_); refine box_event ?hg (N := 2) ?hd (cs := #[.string a0_0, .int .i64 a0_1, .int .i64 a0_2, .int .i64 a0_3, .int .i64 a0_4, .int .i64 a0_5, .int .i64 a0_6, .int .i64 a0_7, .slice A0_8 l0_8.length c0_8]) (t := 28) ?hr ?_; (case hd => rfl); (case hg => rfl); (case hr => first | (go_simp; done) | (go_simp; rfl)); intro gb144 hg w19 hbox hb; have n0_ := zm (below_step (by repeat (first | (with_reducible first | exact HB.out | apply zA | apply zD | apply zE) | exact HB.out)) hb); have n1_ := zm (hbox); have n2_ := zm ((by rw [hg]; exact (below_size (by repeat (first | (with_reducible first | exact HB.out | apply zA | apply zD | apply zE) | exact HB.out))) : w.heap.size ≤ gb144)); have n3_ := zm ((by rw [hg]; exact (below_size (by repeat (first | (with_reducible first | exact HB.out | apply zA | apply zD | apply zE) | exact HB.out))) : w.heap.size ≤ gb144)); clear HB; have HB := n0_; have BK144 := n1_; have GW144 := n2_; have GE144 := n3_; clear n0_ n1_ n2_ n3_; clear hb hbox hg; have hcz20_0 := zc BK144.out 0 (.string a0_0) rfl; have hcz20_1 := zc BK144.out 1 (.int .i64 a0_1) rfl; have hcz20_2 := zc BK144.out 2 (.int .i64 a0_2) rfl; have hcz20_3 := zc BK144.out 3 (.int .i64 a0_3) rfl; have hcz20_4 := zc BK144.out 4 (.int .i64 a0_4) rfl; have hcz20_5 := zc BK144.out 5 (.int .i64 a0_5) rfl; have hcz20_6 := zc BK144.out 6 (.int .i64 a0_6) rfl; have hcz20_7 := zc BK144.out 7 (.int .i64 a0_7) rfl; have hcz20_8 := zc BK144.out 8 (.slice A0_8 l0_8.length c0_8) rfl; have hfz20_0 := zf BK144.out 0; have hfz20_1 := zf BK144.out 1; have hfz20_2 := zf BK144.out 2; have hfz20_3 := zf BK144.out 3; have hfz20_4 := zf BK144.out 4; have hfz20_5 := zf BK144.out 5; have hfz20_6 := zf BK144.out 6; have hfz20_7 := zf BK144.out 7; have hfz20_8 := zf BK144.out 8) | ((with_reducible refine gate_callee (f := 29) rfl ?_); refine goesL_ (some 8) rfl rfl Try.func29 (by kernel_rfl) rfl #[.agg #[.string a0_0, .int .i64 a0_1, .int .i64 a0_2, .int .i64 a0_3, .int .i64 a0_4, .int .i64 a0_5, .int .i64 a0_6, .int .i64 a0_7, .slice A0_8 l0_8.length c0_8]] rfl (by (try simp only [List.map_toArray, List.map_cons, List.map_nil]); first | done | rfl | (simp only [List.length_drop, List.length_take]; rfl)) ?_; (with_reducible refine (feature_Check.calls k a0_0 a0_1 a0_2 a0_3 a0_4 a0_5 a0_6 a0_7 _ _ l0_8 t145 _ ?side1 ?side2 A3.out).mono ?_); (case side1 => repeat (first | exact (Kd.C_below HR0_8.out HB.out) | (with_reducible refine Kd.C_alloc ?_ _) | (with_reducible refine Kd.C_drewN ?_ _) | (with_reducible refine Kd.C_drew ?_))); (case side2 => exact HC0_8.out); rintro e w21 ⟨rfl, hb⟩; refine ⟨_, rfl, ?_⟩; have n0_ := zm (zb (g := gb144) (o := .cells #[.string a0_0, .int .i64 a0_1, .int .i64 a0_2, .int .i64 a0_3, .int .i64 a0_4, .int .i64 a0_5, .int .i64 a0_6, .int .i64 a0_7, .slice A0_8 l0_8.length c0_8] 28 (0, 0)) (by (with_reducible repeat first | apply zd | apply ze | apply za); exact BK144.out) hb); have n1_ := zm (below_step (by repeat (first | (with_reducible first | exact HB.out | apply zA | apply zD | apply zE | refine zS ?_ GE144.out) | exact HB.out)) hb); clear BK144 HB; have BK144 := n0_; have HB := n1_; clear n0_ n1_; (try clear hb); (try clear hb2); (try clear hk); (try clear hi)))
  go_ret2
  exact ⟨by first | rfl | (simp [errW_none, errW_some] <;> rfl) | (simp [*, errW_none, errW_some] <;> rfl), by repeat (first | (with_reducible first | exact HB.out | apply zA | apply zD | apply zE | refine zS ?_ GE144.out) | exact HB.out)⟩
end Go.Proofs.Ytkgdlbepjmgaiaa.Fea
namespace Go.Proofs.Ytkgdlbepjmgaiaa.Fea
open Go.RowKit Go.Proofs.YtkgdlbepjmgaiaaW.PrintWords Go.Proofs.YtkgdlbepjmgaiaaW.PrintLast Go.Proofs.YtkgdlbepjmgaiaaW.PrintMore
attribute [local go_sem] max2_int min2_int max_two min_two max_three min_three max_four min_four
set_option linter.unusedVariables false
set_option linter.unusedSimpArgs false
def feature_Maximum.f (k : Nat) (a0_0 : ByteArray) (a0_1 : Int) (a0_2 : Int) (a0_3 : Int) (a0_4 : Int) (a0_5 : Int) (a0_6 : Int) (a0_7 : Int) (l0_8 : List (S104)) : Option (Int × Int) := (feature_inner.f a0_1).bind fun t147 => ((feature_extreme.f k a0_0 a0_1 a0_2 a0_3 a0_4 a0_5 a0_6 a0_7 l0_8 t147).bind fun bt148 => (some (bt148.1, bt148.2)))
theorem feature_Maximum.mono : ∀ a0 a1 a2 a3 a4 a5 a6 a7 a8 k, LeO (feature_Maximum.f k a0 a1 a2 a3 a4 a5 a6 a7 a8) (feature_Maximum.f (k + 1) a0 a1 a2 a3 a4 a5 a6 a7 a8) := by
 intro a0 a1 a2 a3 a4 a5 a6 a7 a8 k
 unfold feature_Maximum.f
 repeat' first
  | (with_reducible exact feature_extreme.mono _ _ _ _ _ _ _ _ _ _ _)
  | (with_reducible exact LeO.refl _)
  | (with_reducible exact LeO.none _)
  | (with_reducible refine LeO.ite ?_ ?_)
  | (with_reducible refine LeO.bind ?_ (fun _ => ?_))
  | exact feature_extreme.mono _ _ _ _ _ _ _ _ _ _ _
  | exact LeO.none _
  | refine LeO.ite ?_ ?_
  | refine LeO.bind ?_ (fun _ => ?_)
def feature_Maximum.T1 : Bool × List (List Nat × List Nat) := (true, [([], []), ([], []), ([1], [1]), ([2], [2]), ([0, 3, 3], [0, 3]), ([4], [4]), ([4], [4]), ([5, 4, 0, 1, 2, 3, 4, 5, 6], [5]), ([6, 7, 0, 1, 2, 3, 4, 5, 6, 7], [6])])
def feature_Maximum.B1 : List Nat := [0, 0, 2, 6, 15, 31, 31, 127, 255]
theorem feature_Maximum.tab1 : rtab .any (opsOf Try.f25 1) = feature_Maximum.T1 := by kernel_rfl
theorem feature_Maximum.bits1 : waitsOk feature_Maximum.T1.2 feature_Maximum.B1 = true := by kernel_rfl
set_option maxHeartbeats 8000000 in
set_option maxRecDepth 100000 in
theorem feature_Maximum.calls (k : Nat) (a0_0 : ByteArray) (a0_1 : Int) (a0_2 : Int) (a0_3 : Int) (a0_4 : Int) (a0_5 : Int) (a0_6 : Int) (a0_7 : Int) (A0_8 : Option Addr) (c0_8 : Nat) (l0_8 : List (S104)) (r1 : Int) (r2 : Int) (w : World) (hr0_8 : Kd.C k104 w A0_8 l0_8.length l0_8) (hc0_8 : l0_8.length ≤ c0_8) (h : feature_Maximum.f k a0_0 a0_1 a0_2 a0_3 a0_4 a0_5 a0_6 a0_7 l0_8 = some (r1, r2)) :
 Calls Try.prog 25 #[.agg #[.string a0_0, .int .i64 a0_1, .int .i64 a0_2, .int .i64 a0_3, .int .i64 a0_4, .int .i64 a0_5, .int .i64 a0_6, .int .i64 a0_7, .slice A0_8 l0_8.length c0_8]] w fun e w' => e = .returned (.tuple #[.int .i64 r1, .int .i64 r2]) ∧ Below w.heap.size w w' := by
 have hu28 := Try.underlying28
 have HR0_8 := zm hr0_8
 have HC0_8 := zm hc0_8
 clear hr0_8 hc0_8
 have HB := zm (Below.refl w.heap.size w)
 have H : ((feature_inner.f a0_1).bind fun t147 => ((feature_extreme.f k a0_0 a0_1 a0_2 a0_3 a0_4 a0_5 a0_6 a0_7 l0_8 t147).bind fun bt148 => (some (bt148.1, bt148.2)))) = some (r1, r2) := h
 clear h
 replace H := Option.bind_eq_some_iff.mp H
 obtain ⟨t147, A20, H⟩ := H
 replace H : ((feature_extreme.f k a0_0 a0_1 a0_2 a0_3 a0_4 a0_5 a0_6 a0_7 l0_8 t147).bind fun bt148 => (some (bt148.1, bt148.2))) = some (r1, r2) := H
 have A2 := zm A20
 clear A20
 replace H := Option.bind_eq_some_iff.mp H
 obtain ⟨⟨t148, t149⟩, A30, H⟩ := H
 replace H : (some (t148, t149)) = some (r1, r2) := H
 have A3 := zm A30
 clear A30
 simp only [Option.some.injEq, Prod.mk.injEq] at H
 obtain ⟨rfl, rfl⟩ := H
 go_enter Try.func25, Try.ntmps25
 try go_wp2_with (first | ((with_reducible refine gate_dst (N := 1) rfl ?_); refine box_event ?hg (N := 1) ?hd (cs := #[.string a0_0, .int .i64 a0_1, .int .i64 a0_2, .int .i64 a0_3, .int .i64 a0_4, .int .i64 a0_5, .int .i64 a0_6, .int .i64 a0_7, .slice A0_8 l0_8.length c0_8]) (t := 28) ?hr ?_; (case hd => rfl); (case hg => rfl); (case hr => first | (go_simp; done) | (go_simp; rfl)); intro gb146 hg w4 hbox hb; have n0_ := zm (below_step (by repeat (first | (with_reducible first | exact HB.out | apply zA | apply zD | apply zE) | exact HB.out)) hb); have n1_ := zm (hbox); have n2_ := zm ((by rw [hg]; exact (below_size (by repeat (first | (with_reducible first | exact HB.out | apply zA | apply zD | apply zE) | exact HB.out))) : w.heap.size ≤ gb146)); have n3_ := zm ((by rw [hg]; exact (below_size (by repeat (first | (with_reducible first | exact HB.out | apply zA | apply zD | apply zE) | exact HB.out))) : w.heap.size ≤ gb146)); clear HB; have HB := n0_; have BK146 := n1_; have GW146 := n2_; have GE146 := n3_; clear n0_ n1_ n2_ n3_; clear hb hbox hg))
 have n0_ := zm (ze BK146.out)
 have n1_ := zm (zE HB.out)
 clear BK146 HB
 have BK146 := n0_
 have HB := n1_
 clear n0_ n1_
 refine start_ (n := 9) (S := fun w' => w'.cell? ⟨gb146, 0, none⟩ = some (.string a0_0) ∧ w'.cell? ⟨gb146, 1, none⟩ = some (.int .i64 a0_1) ∧ w'.cell? ⟨gb146, 2, none⟩ = some (.int .i64 a0_2) ∧ w'.cell? ⟨gb146, 3, none⟩ = some (.int .i64 a0_3) ∧ w'.cell? ⟨gb146, 4, none⟩ = some (.int .i64 a0_4) ∧ w'.cell? ⟨gb146, 5, none⟩ = some (.int .i64 a0_5) ∧ w'.cell? ⟨gb146, 6, none⟩ = some (.int .i64 a0_6) ∧ w'.cell? ⟨gb146, 7, none⟩ = some (.int .i64 a0_7) ∧ w'.cell? ⟨gb146, 8, none⟩ = some (.slice A0_8 l0_8.length c0_8)) (ds := []) #[false, false, false, false, false, false, false, false, false] (by kernel_rfl) rfl rfl ⟨(blk_cell BK146.out 0).trans rfl, (blk_cell BK146.out 1).trans rfl, (blk_cell BK146.out 2).trans rfl, (blk_cell BK146.out 3).trans rfl, (blk_cell BK146.out 4).trans rfl, (blk_cell BK146.out 5).trans rfl, (blk_cell BK146.out 6).trans rfl, (blk_cell BK146.out 7).trans rfl, (blk_cell BK146.out 8).trans rfl⟩ (fun hHeld => ?_); refine with_tabW feature_Maximum.tab1 feature_Maximum.bits1 (fun HT_ HW_ => ?_)
 generalize w4.drew = w5 at BK146 HB hHeld ⊢
 refine pure_ (i := 1) (N := some 5) (v := ?_) (a' := ?_) #[false, true, false, false, false, false, false, false, false] rfl rfl (any_of HT_.out (by kernel_rfl)) (fun _ _ _ h => h) (Or.inl ⟨by rfl, ?_⟩) ?_ ?_
 rotate_left
 ·intro w'
  go_simp
  with_reducible rfl
 rotate_left
 ·simp only [Act.put, zx, zy, zz, i64_w, i32_w]
  rfl
 refine take_ (i := 0) (N := some 4) (v := ?_) (a' := ?_) #[true, true, false, false, false, false, false, false, false] rfl rfl (take_ofW HT_.out HW_.out (by kernel_rfl)) (fun _ _ _ h => h) (Or.inl ⟨by rfl, ?_⟩) hHeld ?_ ?_
 rotate_left
 ·rintro w' ⟨s0, s1, s2, s3, s4, s5, s6, s7, s8⟩
  go_simp
  with_reducible rfl
 rotate_left
 ·simp only [Act.put, zx, zy, zz, i64_w, i32_w]
  rfl
 refine take_ (i := 2) (N := some 6) (v := ?_) (a' := ?_) #[true, true, true, false, false, false, false, false, false] rfl rfl (take_ofW HT_.out HW_.out (by kernel_rfl)) (fun _ _ _ h => h) (Or.inl ⟨by rfl, ?_⟩) hHeld ?_ ?_
 rotate_left
 ·rintro w' ⟨s0, s1, s2, s3, s4, s5, s6, s7, s8⟩
  go_simp
  with_reducible rfl
 rotate_left
 ·simp only [Act.put, zx, zy, zz, i64_w, i32_w]
  rfl
 refine one_ (i := 3) (N := some 7) #[true, true, true, true, false, false, false, false, false] rfl rfl (one_of HT_.out (by kernel_rfl)) (by decide) (fun K hK => ?_)
 refine goes_ Try.func76 (by kernel_rfl) rfl #[.int .i64 a0_1] (by rfl) rfl rfl (by (try simp only [List.map_toArray, List.map_cons, List.map_nil]); first | done | rfl | (simp only [List.length_drop, List.length_take]; rfl)) ?_
 with_reducible refine (feature_inner.calls a0_1 t147 _ A2.out).mono ?_
 rintro e w' ⟨rfl, ⟨nd, rfl⟩⟩
 refine ⟨_, rfl, ?_⟩
 refine hK.out _ _ ⟨(blk_cell BK146.out 0).trans rfl, (blk_cell BK146.out 1).trans rfl, (blk_cell BK146.out 2).trans rfl, (blk_cell BK146.out 3).trans rfl, (blk_cell BK146.out 4).trans rfl, (blk_cell BK146.out 5).trans rfl, (blk_cell BK146.out 6).trans rfl, (blk_cell BK146.out 7).trans rfl, (blk_cell BK146.out 8).trans rfl⟩ (fun hHeld => ?_)
 clear hK K
 refine norm_ (a' := ?_) ?_ ?_
 rotate_left
 ·show Act.put _ (some 7) _ = _
  simp only [Act.put, zx, zy, zz, i64_w, i32_w]
  rfl
 refine one_ (i := 4) (N := some 8) #[true, true, true, true, true, false, false, false, false] rfl rfl (one_of HT_.out (by kernel_rfl)) (by decide) (fun K hK => ?_)
 refine goes_ Try.func78 (by kernel_rfl) rfl #[.agg #[.string a0_0, .int .i64 a0_1, .int .i64 a0_2, .int .i64 a0_3, .int .i64 a0_4, .int .i64 a0_5, .int .i64 a0_6, .int .i64 a0_7, .slice A0_8 l0_8.length c0_8], .bool t147] (by rfl) rfl rfl (by (try simp only [List.map_toArray, List.map_cons, List.map_nil]); first | done | rfl | (simp only [List.length_drop, List.length_take]; rfl)) ?_
 with_reducible refine (feature_extreme.calls k a0_0 a0_1 a0_2 a0_3 a0_4 a0_5 a0_6 a0_7 _ _ l0_8 t147 t148 t149 _ ?side1 ?side2 A3.out).mono ?_
 (case side1 => repeat (first | exact (Kd.C_below HR0_8.out (by repeat (first | (with_reducible first | exact HB.out | apply zA | apply zD | apply zE | refine zS ?_ GE146.out) | exact HB.out))) | (with_reducible refine Kd.C_alloc ?_ _) | (with_reducible refine Kd.C_drewN ?_ _) | (with_reducible refine Kd.C_drew ?_)))
 (case side2 => exact HC0_8.out)
 rintro e w6 ⟨rfl, hb⟩
 refine ⟨_, rfl, ?_⟩
 have n0_ := zm (zb (g := gb146) (by (with_reducible repeat first | apply zd | apply ze | apply za); exact BK146.out) hb)
 have n1_ := zm (below_step (by repeat (first | (with_reducible first | exact HB.out | apply zA | apply zD | apply zE | refine zS ?_ GE146.out) | exact HB.out)) hb)
 clear BK146 HB
 have BK146 := n0_
 have HB := n1_
 clear n0_ n1_
 (try clear hb)
 (try clear hb2)
 (try clear hk)
 (try clear hi)
 refine hK.out _ _ ⟨(blk_cell BK146.out 0).trans rfl, (blk_cell BK146.out 1).trans rfl, (blk_cell BK146.out 2).trans rfl, (blk_cell BK146.out 3).trans rfl, (blk_cell BK146.out 4).trans rfl, (blk_cell BK146.out 5).trans rfl, (blk_cell BK146.out 6).trans rfl, (blk_cell BK146.out 7).trans rfl, (blk_cell BK146.out 8).trans rfl⟩ (fun hHeld => ?_)
 clear hK K
 refine norm_ (a' := ?_) ?_ ?_
 rotate_left
 ·show Act.put _ (some 8) _ = _
  simp only [Act.put, zx, zy, zz, i64_w, i32_w]
  rfl
 refine pure_ (i := 5) (N := some 9) (v := ?_) (a' := ?_) #[true, true, true, true, true, true, false, false, false] rfl rfl (any_of HT_.out (by kernel_rfl)) (fun _ _ _ h => h) (Or.inl ⟨by rfl, ?_⟩) ?_ ?_
 rotate_left
 ·intro w'
  go_simp
  with_reducible rfl
 rotate_left
 ·simp only [Act.put, zx, zy, zz, i64_w, i32_w]
  rfl
 refine pure_ (i := 6) (N := some 10) (v := ?_) (a' := ?_) #[true, true, true, true, true, true, true, false, false] rfl rfl (any_of HT_.out (by kernel_rfl)) (fun _ _ _ h => h) (Or.inl ⟨by rfl, ?_⟩) ?_ ?_
 rotate_left
 ·intro w'
  go_simp
  with_reducible rfl
 rotate_left
 ·simp only [Act.put, zx, zy, zz, i64_w, i32_w]
  rfl
 refine pure_ (i := 7) (N := some 2) (v := ?_) (a' := ?_) #[true, true, true, true, true, true, true, true, false] rfl rfl (any_of HT_.out (by kernel_rfl)) (fun _ _ _ h => h) (Or.inl ⟨by rfl, ?_⟩) ?_ ?_
 rotate_left
 ·intro w'
  go_simp
  with_reducible rfl
 rotate_left
 ·simp only [Act.put, zx, zy, zz, i64_w, i32_w]
  rfl
 refine pure_ (i := 8) (N := some 3) (v := ?_) (a' := ?_) #[true, true, true, true, true, true, true, true, true] rfl rfl (any_of HT_.out (by kernel_rfl)) (fun _ _ _ h => h) (Or.inl ⟨by rfl, ?_⟩) ?_ ?_
 rotate_left
 ·intro w'
  go_simp
  with_reducible rfl
 rotate_left
 ·simp only [Act.put, zx, zy, zz, i64_w, i32_w]
  rfl
 refine done_ (done_of HT_.out (by kernel_rfl)) ?_
 try go_wp2
 go_ret2
 exact ⟨by first | rfl | (simp [errW_none, errW_some] <;> rfl) | (simp [*, errW_none, errW_some] <;> rfl), by repeat (first | (with_reducible first | exact HB.out | apply zA | apply zD | apply zE | refine zS ?_ GE146.out) | exact HB.out)⟩
end Go.Proofs.Ytkgdlbepjmgaiaa.Fea
set_option linter.unusedVariables false
set_option linter.unusedSimpArgs false
namespace Go.Proofs.Ytkgdlbepjmgaiaa.Fea
open Go.RowKit Go.Proofs.YtkgdlbepjmgaiaaW.PrintWords Go.Proofs.YtkgdlbepjmgaiaaW.PrintLast Go.Proofs.YtkgdlbepjmgaiaaW.PrintMore
theorem Reps.imp' {α : Type} {R R' : α → List Value → Prop} {size : Nat} {ps : List α} {cs : List Value} (h : Reps R size ps cs) (hi : ∀ p c, R p c → R' p c) : Reps R' size ps cs :=
  ⟨h.1, fun j p hj => hi _ _ (h.2 j p hj)⟩
theorem F_of_own {α : Type} {d : Kd α} {W : World} {base e : Nat} {v : Value} {xs : List α} {cs : List Value} (hmax : xs.length ≤ 9223372036854775807) (h : W.ownsRow base e d.sz v xs.length cs) (hR : Reps (fun x c => Kd.FK d W (fun k => base ≤ k) x c) d.sz xs cs) :
    ∃ A c, v = .slice A xs.length c ∧ xs.length ≤ c ∧ Kd.F d W (fun k => base ≤ k) A xs.length xs := by
  rcases h.2 with ⟨rfl, hn⟩ | ⟨g, cap, cur, rfl, hg, hh, hc, hm, hs, ht⟩
  · refine ⟨none, 0, by rw [hn], by omega, fun W' _ => ⟨rfl, hmax, fun h0 => by omega⟩⟩
  · refine ⟨_, _, rfl, hc, fun W' hW => ?_⟩
    have hlt : g < W.heap.size := (Array.getElem?_eq_some_iff.1 hh).1
    have hh' : W'.heap[g]? = some (.cells cur e (0, 0)) := (hW g hg hlt).trans hh
    have ho : W'.ownsRow base e d.sz (.slice (some ⟨g, 0, none⟩) xs.length cap) xs.length cs := ⟨h.1, .inr ⟨g, cap, cur, rfl, hg, hh', hc, hm, hs, ht⟩⟩
    obtain ⟨A, c, e1, hr⟩ := own_reads_row ho (Reps.imp' hR (fun p c hk => hk W' hW)) rfl
    injection e1 with e1 _ _
    rw [← e1] at hr
    exact hr
theorem Reps.one' {α : Type} {R : α → List Value → Prop} {size : Nat} {ps : List α} {cs : List Value} (h : Reps R size ps cs) (hs : 0 < size) (hR : ∀ p c, R p c → ∀ u ∈ c, u.oneCell' = true) : ∀ u ∈ cs, u.oneCell' = true := by
  intro u hu
  obtain ⟨p, hp, rfl⟩ := List.mem_iff_getElem.1 hu
  have hl := h.1
  have hj : p / size < ps.length := by rw [Nat.div_lt_iff_lt_mul hs]; omega
  have hm : p % size < size := Nat.mod_lt _ hs
  have he : p / size * size + p % size = p := by rw [Nat.mul_comm]; exact Nat.div_add_mod _ _
  have hk := h.2 (p / size) _ (List.getElem?_eq_getElem hj)
  refine hR _ _ hk _ ?_
  refine List.mem_of_getElem? (i := p % size) ?_
  rw [List.getElem?_take_of_lt hm, List.getElem?_drop, he, List.getElem?_eq_getElem hp]
theorem cell_alloc {w : World} {a : Addr} {v : Value} (h : w.cell? a = some v) (o : Obj) : (w.alloc o).cell? a = some v := by
  rw [← h]
  exact World.cell?_of_block (Below.heap_alloc w o a.block (World.block_lt_of_cell? w a h))
set_option maxHeartbeats 4000000 in
set_option maxRecDepth 100000 in
theorem clone106_calls (A : Option Addr) (c : Nat) (xs : List S106) (w : World) (hr : Kd.C k106 w A xs.length xs) (hc : xs.length ≤ c) (hsm : xs.length ≤ 1000000) :
    Calls Try.prog 126 #[.slice A xs.length c] w fun e w' => ∃ A' c', e = .returned (.slice A' xs.length c') ∧ xs.length ≤ c' ∧ Kd.F k106 w' (fun k => w.heap.size ≤ k) A' xs.length xs ∧ Below w.heap.size w w' := by
  have hu102 := Try.underlying102
  have q102 : ∀ (w : World) (a : Option Addr) (n c n' c' : Nat), (binOp .eql 102 (.slice a n c) (.slice none n' c')).run Try.prog w = .ok (.bool a.isNone) w := fun w a n c n' c' => Lib.run_eql_slice_nil w _ _ a n c n' c' Try.underlying102
  cases A with
  | none =>
    have h0 : xs.length = 0 := by
      rcases Nat.eq_zero_or_pos xs.length with g | g
      · exact g
      · obtain ⟨ad, e, _⟩ := hr.2.2 g; cases e
    have HR := Aside0.mk hr
    clear hr
    go_enter Try.func126, Try.ntmps126
    go_wp2
    go_ret
    exact ⟨none, 0, by rw [h0]; rfl, by omega, fun W' _ => ⟨rfl, HR.out.2.1, fun h => by omega⟩, Below.refl _ _⟩
  | some ad =>
    obtain ⟨inner, hreps, hcell⟩ := ReadsRow.inner_ hr
    have hmax := hr.2.1
    have HC := Aside0.mk hcell
    have HP := Aside0.mk hreps
    have hlen := hreps.1
    clear hr hcell hreps
    obtain ⟨i0, hi, hz⟩ := Option.map_eq_some_iff.1 (show (Try.prog.info? 106).map (fun i => (i.zero, i.size, i.bytes)) = some (some (.agg #[(.string ⟨#[]⟩), (.int .i64 0)]), 2, 24) by kernel_rfl)
    simp only [Prod.mk.injEq] at hz
    obtain ⟨hz0, hz1, hz2⟩ := hz
    go_enter Try.func126, Try.ntmps126
    go_wp2_with (at_builtin; refine wpList_append_own _ rfl _ _ 102 rfl w.heap.size 106 i0 (.agg #[(.string ⟨#[]⟩), (.int .i64 0)]) 2 24 hu102 hi hz0 hz1 hz2 rfl (by decide) _ _ _ rfl (World.ownsRow_made w #[] 0 (Nat.le_refl _) (Nat.zero_le _) rfl) ad xs.length c inner rfl ?qc1 ?qc2 ?qc3 ?qc4 ?qc5 ?qc6 ?_)
    case qc1 => exact hlen
    case qc2 => exact fun j u hj => cell_alloc (HC.out j u hj) _
    case qc3 => exact Reps.one' HP.out (by decide) (fun _ _ hk => k106.K_one hk)
    case qc4 => unfold maxLen; omega
    case qc5 => omega
    case qc6 => simp
    intro v' w1 hown hgrow hnil
    have HO := Aside0.mk hown
    have HG := Aside0.mk hgrow
    clear hown hgrow hnil
    go_wp2
    go_ret
    have ho := HO.out
    obtain ⟨A', c', rfl, hc', hF⟩ := F_of_own (d := k106) hmax ho (Reps.imp' HP.out (fun p c hk => by rw [k106_open hk]; exact k106_mkF _ _ _))
    exact ⟨A', c', rfl, hc', hF, (bel1 w _).grown HG.out (by simp) (by intro k hk; simp [Value.ownBlock] at hk; omega)⟩
set_option maxHeartbeats 4000000 in
set_option maxRecDepth 100000 in
theorem clone104_calls (A : Option Addr) (c n : Nat) (inner : List Value) (w : World) (hlen : inner.length = n * 5) (h1 : ∀ u ∈ inner, u.oneCell' = true) (hcell : ∀ ad, A = some ad → ∀ j u, inner[j]? = some u → w.cell? (ad.add j) = some u) (h0 : A = none → n = 0) (hsm : n ≤ 1000000) :
    Calls Try.prog 125 #[.slice A n c] w fun e w' => ∃ v', e = .returned v' ∧ w'.ownsRow w.heap.size 104 5 v' n inner ∧ Below w.heap.size w w' := by
  have hu26 := Try.underlying26
  have q26 : ∀ (w : World) (a : Option Addr) (n c n' c' : Nat), (binOp .eql 26 (.slice a n c) (.slice none n' c')).run Try.prog w = .ok (.bool a.isNone) w := fun w a n c n' c' => Lib.run_eql_slice_nil w _ _ a n c n' c' Try.underlying26
  cases A with
  | none =>
    have e0 := h0 rfl
    clear hcell h0
    go_enter Try.func125, Try.ntmps125
    go_wp2
    go_ret
    subst e0
    exact ⟨.slice none 0 0, rfl, ⟨hlen, .inl ⟨rfl, rfl⟩⟩, Below.refl _ _⟩
  | some ad =>
    have HC := Aside0.mk (hcell ad rfl)
    have H1 := Aside0.mk h1
    clear hcell h0 h1
    obtain ⟨i0, hi, hz⟩ := Option.map_eq_some_iff.1 (show (Try.prog.info? 104).map (fun i => (i.zero, i.size, i.bytes)) = some (some (.agg #[(.int .i64 0), (.bool false), (.int .i64 0), (.int .i64 0), .slice none 0 0]), 5, 56) by kernel_rfl)
    simp only [Prod.mk.injEq] at hz
    obtain ⟨hz0, hz1, hz2⟩ := hz
    go_enter Try.func125, Try.ntmps125
    go_wp2_with (at_builtin; refine wpList_append_own _ rfl _ _ 26 rfl w.heap.size 104 i0 (.agg #[(.int .i64 0), (.bool false), (.int .i64 0), (.int .i64 0), .slice none 0 0]) 5 56 hu26 hi hz0 hz1 hz2 rfl (by decide) _ _ _ rfl (World.ownsRow_made w #[] 0 (Nat.le_refl _) (Nat.zero_le _) rfl) ad n c inner rfl ?qc1 ?qc2 ?qc3 ?qc4 ?qc5 ?qc6 ?_)
    case qc1 => exact hlen
    case qc2 => exact fun j u hj => cell_alloc (HC.out j u hj) _
    case qc3 => exact H1.out
    case qc4 => unfold maxLen; omega
    case qc5 => omega
    case qc6 => simp
    intro v' w1 hown hgrow hnil
    have HO := Aside0.mk hown
    have HG := Aside0.mk hgrow
    clear hown hgrow hnil
    go_wp2
    go_ret
    have hb : Below w.heap.size w w1 := (bel1 w _).grown HG.out (by simp) (by intro k hk; simp [Value.ownBlock] at hk; omega)
    exact ⟨v', rfl, by simpa using HO.out, hb⟩
end Go.Proofs.Ytkgdlbepjmgaiaa.Fea
set_option linter.unusedVariables false
set_option linter.unusedSimpArgs false
namespace Go.Proofs.Ytkgdlbepjmgaiaa.Fea
open Go.RowKit Go.Proofs.YtkgdlbepjmgaiaaW.PrintWords Go.Proofs.YtkgdlbepjmgaiaaW.PrintLast Go.Proofs.YtkgdlbepjmgaiaaW.PrintMore
abbrev ftU (nm : ByteArray) (k ax x y z lo hi : Int) (u : Value) : Array Value := #[.string nm, .int .i64 k, .int .i64 ax, .int .i64 x, .int .i64 y, .int .i64 z, .int .i64 lo, .int .i64 hi, u]
abbrev ft0 : Array Value := #[.string ⟨#[]⟩, .int .i64 0, .int .i64 0, .int .i64 0, .int .i64 0, .int .i64 0, .int .i64 0, .int .i64 0, .slice none 0 0]
def Mix (N g : Nat) (w W : World) (i : Nat) (l : List S104) (inner : List Value) : Prop :=
  inner.length = l.length * 5 ∧ ∀ j p, l[j]? = some p → (j < i → Kd.FK k104 W (fun k => N ≤ k ∧ k ≠ g) p ((inner.drop (j * 5)).take 5)) ∧ (i ≤ j → Kd.FK k104 w (fun k => k < w.heap.size) p ((inner.drop (j * 5)).take 5))
def small (l : List S104) : Bool := decide (l.length ≤ 1000000) && l.all fun p => decide (p.f4.length ≤ 1000000)
theorem own_at {w : World} {base g n cap : Nat} {e : TypeId} {size : Nat} {xs : List Value} (h : w.ownsRow base e size (.slice (some ⟨g, 0, none⟩) n cap) n xs) : base ≤ g ∧ n ≤ cap ∧ (∀ j u, xs[j]? = some u → w.cell? ⟨g, j, none⟩ = some u) ∧ (∀ j, w.frozen? ⟨g, j, none⟩ = false) := by
  rcases h.2 with ⟨e, _⟩ | ⟨g', cap', cur, e, hg, hh, hc, hm, hs, ht⟩
  · cases e
  · injection e with e1 _ e2
    injection e1 with e1
    injection e1 with e1 _ _
    subst e1 e2
    refine ⟨hg, hc, fun j u hj => ?_, fun j => blk_frozen hh j⟩
    rw [blk_cell hh]
    rw [← ht] at hj
    have hlt : j < (cur.toList.take (n * size)).length := (List.getElem?_eq_some_iff.1 hj).1
    rw [List.length_take] at hlt
    rw [List.getElem?_take_of_lt (by omega)] at hj
    rw [← Array.getElem?_toList]
    exact hj
theorem own_put {w : World} {base g n cap : Nat} {e : TypeId} {size : Nat} {xs : List Value} (h : w.ownsRow base e size (.slice (some ⟨g, 0, none⟩) n cap) n xs) (p : Nat) (u : Value) : (w.setCell ⟨g, p, none⟩ u).ownsRow base e size (.slice (some ⟨g, 0, none⟩) n cap) n (xs.set p u) := by
  rcases h.2 with ⟨e, _⟩ | ⟨g', cap', cur, e, hg, hh, hc, hm, hs, ht⟩
  · cases e
  · injection e with e1 _ e2
    injection e1 with e1
    injection e1 with e1 _ _
    subst e1 e2
    refine ⟨by rw [List.length_set]; exact h.1, .inr ⟨g, cap, cur.setIfInBounds p u, rfl, hg, blk_put hh p u rfl, hc, hm, by rw [Array.size_setIfInBounds]; exact hs, ?_⟩⟩
    rw [Array.toList_setIfInBounds, ← ht, List.take_set]
theorem row_new {w : World} {g : Nat} {t : TypeId} {old cs : Array Value} (h : w.heap[g]? = some (.cells old t (0, 0))) : (w.setRow g cs).heap[g]? = some (.cells cs t (0, 0)) := by
  simp [World.setRow, Array.getElem?_modify, h]
theorem row_far {w : World} {g k : Nat} {cs : Array Value} (h : k ≠ g) : (w.setRow g cs).heap[k]? = w.heap[k]? := by
  simp only [World.setRow, Array.getElem?_modify]
  rw [if_neg (by omega)]
theorem row_bel {w W : World} {g : Nat} {cs : Array Value} (h : Below w.heap.size w W) (hg : w.heap.size ≤ g) : Below w.heap.size w (W.setRow g cs) :=
  h.trans ⟨rfl, rfl, rfl, by rw [size_setRow]; exact Nat.le_refl _, fun k hk => row_far (by omega)⟩
theorem set_off {inn : List Value} {i j : Nat} {u : Value} (h : j ≠ i) : ((inn.set (i * 5 + 4) u).drop (j * 5)).take 5 = (inn.drop (j * 5)).take 5 := by
  apply List.ext_getElem?
  intro q
  rw [List.getElem?_take, List.getElem?_take]
  split
  · rw [List.getElem?_drop, List.getElem?_drop, List.getElem?_set_ne (by omega)]
  · rfl
theorem set_on {inn : List Value} {i : Nat} {u a b c d e : Value} (h : (inn.drop (i * 5)).take 5 = [a, b, c, d, e]) : ((inn.set (i * 5 + 4) u).drop (i * 5)).take 5 = [a, b, c, d, u] := by
  have h1 : ((inn.set (i * 5 + 4) u).drop (i * 5)).take 5 = ((inn.drop (i * 5)).take 5).set 4 u := by
    apply List.ext_getElem?
    intro q
    have hl := congrArg List.length h
    rw [List.length_take, List.length_drop] at hl
    simp only [List.length_cons, List.length_nil] at hl
    rw [List.getElem?_take]
    split
    · rename_i hq
      rw [List.getElem?_drop]
      by_cases e : q = 4
      · subst e
        rw [List.getElem?_set_self (by omega), List.getElem?_set_self (by rw [h]; simp)]
      · rw [List.getElem?_set_ne (by omega), List.getElem?_set_ne (by omega), List.getElem?_take, if_pos hq, List.getElem?_drop]
    · rename_i hq
      rw [List.getElem?_eq_none (by rw [List.length_set, h]; simp; omega)]
  rw [h1, h]
  rfl
theorem cell_far {W : World} {a i : Nat} {v : Value} (h : W.cell? ⟨a, i, none⟩ = some v) {g p : Nat} {u : Value} (hne : a ≠ g) : (W.setCell ⟨g, p, none⟩ u).cell? ⟨a, i, none⟩ = some v :=
  (World.cell?_of_block (Below.heap_setCell W ⟨g, p, none⟩ u a hne)).trans h
set_option maxHeartbeats 8000000 in
set_option maxRecDepth 100000 in
theorem placed_calls (g : Nat) (cb : Array Value) (eg : ∀ args w, (callFunc g args).run Try.prog w = .ok (.enter g args) w) (nm : ByteArray) (k ax x y z lo hi : Int) (A : Option Addr) (c : Nat) (l : List S104) (x' y' z' : Int) (w : World)
    (hr : Kd.C k104 w A l.length l) (hc : l.length ≤ c) (hsm : small l = true)
    (hf : ∀ W, Below w.heap.size w W → Calls Try.prog g (#[.agg (v3 x y z)] ++ cb) W fun e W' => e = .returned (.agg (v3 x' y' z')) ∧ Below W.heap.size W W') :
    Calls Try.prog 94 #[.agg (ftV nm k ax x y z lo hi A l.length c), .func (.func g) #[] cb] w fun e w' => ∃ A' c', e = .returned (.agg (ftV nm k ax x' y' z' lo hi A' l.length c')) ∧ l.length ≤ c' ∧ Kd.F k104 w' (fun k_ => w.heap.size ≤ k_) A' l.length l ∧ Below w.heap.size w w' := by
  have hu28 := Try.underlying28
  have hu23 := Try.underlying23
  have hu26 := Try.underlying26
  have HF := Aside0.mk hf
  have HR := Aside0.mk hr
  have hsm1 : l.length ≤ 1000000 := by
    simp only [small, Bool.and_eq_true, decide_eq_true_eq] at hsm; exact hsm.1
  have HS := Aside0.mk hsm
  clear hf hr hsm
  go_enter Try.func94, Try.ntmps94
  go_upto_region 1 with (fail)
  have hs1 := heap2o w (.cells (ftV nm k ax x y z lo hi A l.length c) 28) (.cells ft0 28)
  have hs2 := heap2 w (.cells (ftV nm k ax x y z lo hi A l.length c) 28) (.cells ft0 28)
  have hB := bel2 w (.cells (ftV nm k ax x y z lo hi A l.length c) 28) (.cells ft0 28)
  generalize (w.alloc (.cells (ftV nm k ax x y z lo hi A l.length c) 28)).alloc (.cells ft0 28) = W1 at *
  have c3 := (blk_cell hs1 3).trans (rfl : _ = some (Value.int .i64 x))
  have c4 := (blk_cell hs1 4).trans (rfl : _ = some (Value.int .i64 y))
  have c5 := (blk_cell hs1 5).trans (rfl : _ = some (Value.int .i64 z))
  go_wp2_with (go_at_call 103; refine (coord_calls _ _ _ _).mono ?_; rintro e w' ⟨rfl, hb⟩; have hs1' := blk_below hs1 hb; have hs2' := blk_below hs2 hb; have hB' := below_step hB hb; clear hb hs1 hs2 hB c3 c4 c5; have hcall := HF.out w' hB')
  refine hcall.mono ?_
  clear hcall
  rintro e w2 ⟨rfl, hb⟩
  have hs1 := blk_below hs1' hb
  have hs2 := blk_below hs2' hb
  have hB := below_step hB' hb
  clear hb hs1' hs2' hB'
  go_wp2_with (go_at_call 124; refine (spot_calls _ _ _ _).mono ?_; rintro e w3 ⟨rfl, hb⟩; have hs1' := blk_below hs1 hb; have hs2' := blk_below hs2 hb; have hB' := below_step hB hb; clear hb hs1 hs2 hB; have c3 := (blk_cell hs1' 3).trans (rfl : _ = some (Value.int .i64 x)); have c4 := (blk_cell hs1' 4).trans (rfl : _ = some (Value.int .i64 y)); have c5 := (blk_cell hs1' 5).trans (rfl : _ = some (Value.int .i64 z)); have f3 := blk_frozen hs1' 3; have f4 := blk_frozen hs1' 4; have f5 := blk_frozen hs1' 5; have c8 := (blk_cell hs1' 8).trans (rfl : _ = some (Value.slice A l.length c)))
  have hs3 := blk_put (blk_put (blk_put hs1' 3 (.int .i64 x') rfl) 4 (.int .i64 y') rfl) 5 (.int .i64 z') rfl
  have hs4 : (((w3.setCell ⟨w.heap.size, 3, none⟩ (.int .i64 x')).setCell ⟨w.heap.size, 4, none⟩ (.int .i64 y')).setCell ⟨w.heap.size, 5, none⟩ (.int .i64 z')).heap[w.heap.size + 1]? = some (.cells ft0 28 (0, 0)) :=
    (Below.heap_setCell _ _ _ _ (by show w.heap.size + 1 ≠ w.heap.size; omega)).trans ((Below.heap_setCell _ _ _ _ (by show w.heap.size + 1 ≠ w.heap.size; omega)).trans ((Below.heap_setCell _ _ _ _ (by show w.heap.size + 1 ≠ w.heap.size; omega)).trans hs2'))
  have hB4 := below_set (j := 5) (v := .int .i64 z') (below_set (j := 4) (v := .int .i64 y') (below_set (j := 3) (v := .int .i64 x') hB' (Nat.le_refl _)) (Nat.le_refl _)) (Nat.le_refl _)
  clear hs1' hs2' hB' c3 c4 c5 f3 f4 f5 c8
  generalize ((w3.setCell ⟨w.heap.size, 3, none⟩ (.int .i64 x')).setCell ⟨w.heap.size, 4, none⟩ (.int .i64 y')).setCell ⟨w.heap.size, 5, none⟩ (.int .i64 z') = W4 at *
  obtain ⟨inner, hreps, hcell, h0⟩ : ∃ inner, Reps (k104.K w) 5 l inner ∧ (∀ ad, A = some ad → ∀ j u, inner[j]? = some u → w.cell? (ad.add j) = some u) ∧ (A = none → l.length = 0) := by
    cases A with
    | none =>
      have h0 : l = [] := by
        rcases Nat.eq_zero_or_pos l.length with g | g
        · exact List.length_eq_zero_iff.1 g
        · obtain ⟨ad, e, _⟩ := HR.out.2.2 g; cases e
      subst h0
      exact ⟨[], Reps.none _ _, fun ad e => (by cases e), fun _ => rfl⟩
    | some ad =>
      obtain ⟨inner, h1, h2⟩ := ReadsRow.inner_ HR.out
      exact ⟨inner, h1, fun ad' e => by cases e; exact h2, fun e => by cases e⟩
  have hlt4 : w.heap.size + 2 ≤ W4.heap.size := (Array.getElem?_eq_some_iff.1 hs4).1
  have hmix : ∀ g, Mix (w.heap.size + 2) g w w 0 l inner := fun g => ⟨hreps.1, fun j p hj => ⟨fun h => absurd h (Nat.not_lt_zero _), fun _ W' hW => k104_heap.K (fun k hlt => hW k hlt hlt) (hreps.2 j p hj)⟩⟩
  refine (clone104_calls A c l.length inner W4 hreps.1 (Reps.one' hreps (by decide) (fun _ _ hk => k104.K_one hk)) (fun ad e j u hj => pw_cell_below hB4 (hcell ad e j u hj)) h0 hsm1).mono ?_
  clear hcell h0 hreps
  rintro e w5 ⟨v', rfl, ho, hb⟩
  have ho2 := own_weaken ho hlt4
  have hs5 := blk_below hs3 hb
  have hs6 := blk_below hs4 hb
  have hB5 := below_step hB4 hb
  clear ho hs3 hs4 hb hB4
  have c8 := (blk_cell hs5 8).trans (rfl : _ = some (Value.slice A l.length c))
  have f8 := blk_frozen hs5 8
  obtain ⟨A', c', rfl⟩ := own_slice ho2
  have HO := Aside0.mk ho2
  have HM := Aside0.mk hmix
  clear ho2 hmix
  go_upto_region 3 with (fail)
  have hs7 := blk_put hs5 8 (.slice A' l.length c') rfl
  have hs8 : (w5.setCell ⟨w.heap.size, 8, none⟩ (.slice A' l.length c')).heap[w.heap.size + 1]? = some (.cells ft0 28 (0, 0)) := (Below.heap_setCell _ _ _ _ (by show w.heap.size + 1 ≠ w.heap.size; omega)).trans hs6
  have hB6 := below_set (j := 8) (v := .slice A' l.length c') hB5 (Nat.le_refl _)
  have HO2 := Aside0.mk (own_move (w1 := w5.setCell ⟨w.heap.size, 8, none⟩ (.slice A' l.length c')) HO.out (fun k hk => Below.heap_setCell _ _ _ _ (by have := own_base HO.out k hk; show k ≠ w.heap.size; omega)))
  clear hs5 hs6 hB5 HO c8 f8
  generalize w5.setCell ⟨w.heap.size, 8, none⟩ (.slice A' l.length c') = W6 at *
  have c8 := (blk_cell hs7 8).trans (rfl : _ = some (Value.slice A' l.length c'))
  go_wp2
  obtain ⟨gg, hgg⟩ : ∃ gg, 0 < l.length → A' = some ⟨gg, 0, none⟩ := by
    rcases HO2.out.2 with ⟨e, h0⟩ | ⟨gg, cap, cur, e, _⟩
    · exact ⟨0, fun h => by omega⟩
    · injection e with e _ _
      exact ⟨gg, fun _ => e⟩
  have HG := Aside0.mk hgg
  clear hgg c8
  go_loopg [21] l.length (fun kx s21 wr => ∃ (i : Nat) (inn : List Value), i ≤ l.length ∧ s21 = .int .i64 i ∧ l.length - i ≤ kx ∧ wr.heap[w.heap.size]? = some (.cells (ftV nm k ax x' y' z' lo hi A' l.length c') 28 (0, 0)) ∧ wr.heap[w.heap.size + 1]? = some (.cells ft0 28 (0, 0)) ∧ Below w.heap.size w wr ∧ Aside0 (wr.ownsRow (w.heap.size + 2) 104 5 (.slice A' l.length c') l.length inn) ∧ Aside0 (Mix (w.heap.size + 2) gg w wr i l inn))
  case atStart => exact ⟨0, inner, Nat.zero_le _, rfl, by omega, hs7, hs8, hB6, HO2, ⟨(HM.out gg).1, fun j p hj => ⟨fun h => absurd h (Nat.not_lt_zero _), ((HM.out gg).2 j p hj).2⟩⟩⟩
  case round =>
    obtain ⟨i, inn, hin, rfl, hk, k1, k2, kB, HOi, HMi⟩ := hrel
    clear hs7 hs8 hB6 HO2 HM
    have c8 := (blk_cell k1 8).trans (rfl : _ = some (Value.slice A' l.length c'))
    by_cases hlt : i < l.length
    · obtain rfl := HG.out (by omega)
      obtain ⟨hge, hnc, hcl, hfr⟩ := own_at HOi.out
      obtain ⟨p, hp⟩ : ∃ p, l[i]? = some p := ⟨_, List.getElem?_eq_getElem hlt⟩
      have hK : k104.K wr p ((inn.drop (i * 5)).take 5) := ((HMi.out.2 i p hp).2 (Nat.le_refl _)) wr (fun k hk _ => kB.block k hk)
      obtain ⟨A4, c4, e5, l4, g4⟩ := k104_open hK
      have hq : ∀ q u, [Value.int .i64 p.f0, .bool p.f1, .int .i64 p.f2, .int .i64 p.f3, .slice A4 p.f4.length c4][q]? = some u → inn[i * 5 + q]? = some u := by
        intro q u hu
        rw [← e5, List.getElem?_take] at hu
        split at hu
        · rwa [List.getElem?_drop] at hu
        · cases hu
      have x0 : wr.cell? ⟨gg, i * 5, none⟩ = some (.int .i64 p.f0) := hcl _ _ (hq 0 _ rfl)
      have x1 := hcl _ _ (hq 1 _ rfl)
      have x2 := hcl _ _ (hq 2 _ rfl)
      have x3 := hcl _ _ (hq 3 _ rfl)
      have x4 := hcl _ _ (hq 4 _ rfl)
      have z4 := hfr (i * 5 + 4)
      have s4 : p.f4.length ≤ 1000000 := by
        have h := HS.out
        simp only [small, Bool.and_eq_true, List.all_eq_true, decide_eq_true_eq] at h
        exact h.2 p (List.mem_of_getElem? hp)
      have hq4 := hq 4 _ rfl
      clear hcl hfr hq hK
      have hii : (i : Int) < (l.length : Int) := by omega
      go_upto_region 6 with (fail)
      clear x0 x1 x2 x3 x4 z4 c8
      have hsr : w.heap.size + 2 ≤ wr.heap.size := (Array.getElem?_eq_some_iff.1 k2).1
      have hgr : gg < wr.heap.size := by
        rcases HOi.out.2 with ⟨e, _⟩ | ⟨g', cap', cur, e, hg, hh, _⟩
        · cases e
        · injection e with e1 _ _
          injection e1 with e1
          injection e1 with e1 _ _
          exact e1 ▸ (Array.getElem?_eq_some_iff.1 hh).1
      have hx := blk_new wr (.cells #[.int .i64 p.f0, .bool p.f1, .int .i64 p.f2, .int .i64 p.f3, .slice A4 p.f4.length c4] 104)
      have k1' := blk_alloc k1 (.cells #[.int .i64 p.f0, .bool p.f1, .int .i64 p.f2, .int .i64 p.f3, .slice A4 p.f4.length c4] 104)
      have k2' := blk_alloc k2 (.cells #[.int .i64 p.f0, .bool p.f1, .int .i64 p.f2, .int .i64 p.f3, .slice A4 p.f4.length c4] 104)
      have kW := bel1 wr (.cells #[.int .i64 p.f0, .bool p.f1, .int .i64 p.f2, .int .i64 p.f3, .slice A4 p.f4.length c4] 104)
      generalize wr.alloc (.cells #[.int .i64 p.f0, .bool p.f1, .int .i64 p.f2, .int .i64 p.f3, .slice A4 p.f4.length c4] 104) = Wx at *
      have G4 := Aside0.mk (Kd.C_below g4 kW)
      have HO' := Aside0.mk (pw_own_below HOi.out kW)
      clear g4
      have c8 := (blk_cell k1' 8).trans (rfl : _ = some (Value.slice (some ⟨gg, 0, none⟩) l.length c'))
      have y4 := (blk_cell hx 4).trans (rfl : _ = some (Value.slice A4 p.f4.length c4))
      go_region_held3 (fun w' => w'.cell? ⟨w.heap.size, 8, none⟩ = some (.slice (some ⟨gg, 0, none⟩) l.length c') ∧ w'.cell? ⟨wr.heap.size, 4, none⟩ = some (.slice A4 p.f4.length c4)) (first | exact ⟨c8, y4⟩ | exact ⟨cell_on hb c8, cell_on hb y4⟩ | exact ⟨cell_far (cell_on hb c8) (by omega), cell_far (cell_on hb y4) (by omega)⟩) (first | (go_at_call 126; refine (clone106_calls A4 c4 p.f4 _ (Kd.C_drew G4.out) l4 s4).mono ?_; rintro e w' ⟨A6, c6, rfl, l6, F6, hb⟩; have x4 := (own_at (pw_own_below (w := Wx.drew) HO'.out hb)).2.2.1 _ _ (hq4); have z4 := (own_at (pw_own_below (w := Wx.drew) HO'.out hb)).2.2.2 (i * 5 + 4)))
      go_wp2
      go_roundg (l.length - (i + 1))
      case measure => omega
      case rel =>
        have own' := pw_own_below (w := Wx.drew) HO'.out hb
        have hgx : gg < Wx.heap.size ∧ w.heap.size + 2 ≤ Wx.heap.size := ⟨Nat.lt_of_lt_of_le hgr kW.size, Nat.le_trans hsr kW.size⟩
        refine ⟨i + 1, inn.set (i * 5 + 4) (.slice A6 p.f4.length c6), by omega, rfl, Nat.le_refl _, ?_, ?_, ?_, ⟨own_put own' _ _⟩, ⟨by rw [List.length_set]; exact HMi.out.1, fun j p' hj => ⟨fun hjl => ?_, fun hjl => ?_⟩⟩⟩
        · exact (Below.heap_setCell _ _ _ _ (by show w.heap.size ≠ gg; omega)).trans (blk_below (w := Wx.drew) k1' hb)
        · exact (Below.heap_setCell _ _ _ _ (by show w.heap.size + 1 ≠ gg; omega)).trans (blk_below (w := Wx.drew) k2' hb)
        · exact below_set (below_step (w := w) (W := Wx.drew) (below_drew1 (below_step kB kW)) hb) (by omega)
        · rcases Nat.lt_or_ge j i with g | g
          · rw [set_off (by omega)]
            have h1 := (HMi.out.2 j p' hj).1 g
            have h2 : Kd.FK k104 w' (fun k => w.heap.size + 2 ≤ k ∧ k ≠ gg) p' ((inn.drop (j * 5)).take 5) := Kd.FK_below (Kd.FK_step (W1 := Wx.drew) h1 (fun k _ hlt => kW.block k hlt)) hb
            exact Kd.FK_step h2 (fun k hk _ => Below.heap_setCell _ _ _ _ hk.2)
          · obtain rfl : j = i := by omega
            rw [hp] at hj
            obtain rfl := Option.some.inj hj
            rw [set_on e5]
            exact k104_mkF _ _ _ l6 (Kd.F_far (Kd.F_mono F6 (fun k hk => ⟨Nat.le_trans hgx.2 hk, by have : Wx.heap.size ≤ k := hk; omega⟩)) (fun k hk => hk.2) _)
        · rw [set_off (by omega)]
          exact (HMi.out.2 j p' hj).2 (by omega)
    · obtain rfl : i = l.length := by omega
      go_wp2_with (first | ((with_reducible refine gate_dst (N := 35) rfl ?_); refine wpList_load_row rfl 28 (.tmp 2) rfl w.heap.size rfl 28 (ftV nm k ax x' y' z' lo hi A' l.length c') (0, 0) _ k1 Try.underlying28 rfl (by kernel_rfl) ?_) | ((with_reducible refine gate_store (t := 28) (p := 4) rfl ?_); refine wpList_store_row rfl 28 (.tmp 4) (.tmp 35) rfl (w.heap.size + 1) (ftV nm k ax x' y' z' lo hi A' l.length c') rfl rfl 28 ft0 k2 (by kernel_rfl) rfl (by simp [Value.oneCell']) ?_))
      refine bodyPost_ret (results_cell_row rfl _ _ (w.heap.size + 1) 28 (ftV nm k ax x' y' z' lo hi A' l.length c') (0, 0) _ rfl (row_new k2) Try.underlying28 rfl (by kernel_rfl)) rfl ?_
      obtain ⟨A8, c9, e8, h8, F8⟩ := F_of_own (d := k104) HR.out.2.1 HOi.out ⟨HMi.out.1, fun j p hj => Kd.FK_mono ((HMi.out.2 j p hj).1 (List.getElem?_eq_some_iff.1 hj).1) (fun k hk => hk.1)⟩
      injection e8 with e8 _ e9
      subst e8 e9
      refine ⟨A', c', rfl, h8, ?_, ?_⟩
      · refine Kd.F_mono (ok := fun k => w.heap.size + 2 ≤ k) ?_ (fun k hk => by omega)
        exact Kd.F_step F8 (fun k hk _ => row_far (by omega))
      · exact row_bel kB (by omega)
end Go.Proofs.Ytkgdlbepjmgaiaa.Fea
set_option linter.unusedVariables false
set_option linter.unusedSimpArgs false
namespace Go.Proofs.Ytkgdlbepjmgaiaa.Fea
open Go.RowKit Go.Proofs.YtkgdlbepjmgaiaaW.PrintWords Go.Proofs.YtkgdlbepjmgaiaaW.PrintLast Go.Proofs.YtkgdlbepjmgaiaaW.PrintMore
def turn3 (x y z a : Int) : Int × Int × Int := if a = 0 then (x, -z, y) else if a = 1 then (z, y, -x) else (-y, x, z)
def mir3 (x y z a : Int) : Int × Int × Int := if a = 0 then (-x, y, z) else if a = 1 then (x, -y, z) else (x, y, -z)
set_option maxHeartbeats 8000000 in
set_option maxRecDepth 100000 in
theorem turn1_0 (bl bn : Nat) (x y z : Int) (W : World) (hbl : W.cell? ⟨bl, 0, none⟩ = some (.int .i64 2)) (hbn : W.cell? ⟨bn, 0, none⟩ = some (.int .i64 1)) (rx : -100000 ≤ x ∧ x ≤ 100000) (ry : -100000 ≤ y ∧ y ≤ 100000) (rz : -100000 ≤ z ∧ z ≤ 100000) :
    Calls Try.prog 95 (#[.agg (v3 x y z)] ++ #[.pointer (some ⟨bl, 0, none⟩), .pointer (some ⟨bn, 0, none⟩)]) W fun e w' => e = .returned (.agg (v3 (x) (-z) (y))) ∧ Below W.heap.size W w' := by
  have hu128 := Try.underlying128
  have ez : IntKind.i64.wrap (-z) = -z := IntWalk.i64_in _ (by omega)
  have kbl : bl < W.heap.size := World.block_lt_of_cell? _ _ hbl
  have kbn : bn < W.heap.size := World.block_lt_of_cell? _ _ hbn
  clear rx ry rz
  go_enter Try.func95, Try.ntmps95
  go_upto_region 1 with (fail)
  have gbl := cell_alloc (cell_alloc hbl (.cells (v3 x y z) 128)) (.cells #[.int .i64 0, .int .i64 0, .int .i64 0] 128)
  have gbn := cell_alloc (cell_alloc hbn (.cells (v3 x y z) 128)) (.cells #[.int .i64 0, .int .i64 0, .int .i64 0] 128)
  have hc1 := heap2o W (.cells (v3 x y z) 128) (.cells #[.int .i64 0, .int .i64 0, .int .i64 0] 128)
  have hc2 := heap2 W (.cells (v3 x y z) 128) (.cells #[.int .i64 0, .int .i64 0, .int .i64 0] 128)
  have hB := bel2 W (.cells (v3 x y z) 128) (.cells #[.int .i64 0, .int .i64 0, .int .i64 0] 128)
  have nbl : bl ≠ W.heap.size := by omega
  have nbn : bn ≠ W.heap.size := by omega
  generalize (W.alloc (.cells (v3 x y z) 128)).alloc (.cells #[.int .i64 0, .int .i64 0, .int .i64 0] 128) = W1 at *
  have d0 := (blk_cell hc1 0).trans (rfl : _ = some (Value.int .i64 x))
  have z0 := blk_frozen hc1 0
  have d1 := (blk_cell hc1 1).trans (rfl : _ = some (Value.int .i64 y))
  have z1 := blk_frozen hc1 1
  have d2 := (blk_cell hc1 2).trans (rfl : _ = some (Value.int .i64 z))
  have z2 := blk_frozen hc1 2
  go_region
  have hc1' : ((W1.setCell ⟨W.heap.size, 1, none⟩ (.int .i64 (-z))).setCell ⟨W.heap.size, 2, none⟩ (.int .i64 (y))).drew.heap[W.heap.size]? = some (.cells (v3 (x) (-z) (y)) 128 (0, 0)) := (blk_put (blk_put hc1 1 _ rfl) 2 _ rfl)
  have hc2' : ((W1.setCell ⟨W.heap.size, 1, none⟩ (.int .i64 (-z))).setCell ⟨W.heap.size, 2, none⟩ (.int .i64 (y))).drew.heap[W.heap.size + 1]? = some (.cells #[.int .i64 0, .int .i64 0, .int .i64 0] 128 (0, 0)) := ((Below.heap_setCell _ _ _ _ (by show W.heap.size + 1 ≠ W.heap.size; omega)).trans ((Below.heap_setCell _ _ _ _ (by show W.heap.size + 1 ≠ W.heap.size; omega)).trans hc2))
  have hB' : Below W.heap.size W ((W1.setCell ⟨W.heap.size, 1, none⟩ (.int .i64 (-z))).setCell ⟨W.heap.size, 2, none⟩ (.int .i64 (y))).drew := below_drew1 (below_set (below_set hB (Nat.le_refl _)) (Nat.le_refl _))
  generalize ((W1.setCell ⟨W.heap.size, 1, none⟩ (.int .i64 (-z))).setCell ⟨W.heap.size, 2, none⟩ (.int .i64 (y))).drew = W2 at *
  have p0 := (blk_cell hc1' 0).trans (rfl : _ = some (Value.int .i64 (x)))
  have q0 := (blk_cell hc2' 0).trans (rfl : _ = some (Value.int .i64 0))
  have u0 := blk_frozen hc2' 0
  have p1 := (blk_cell hc1' 1).trans (rfl : _ = some (Value.int .i64 (-z)))
  have q1 := (blk_cell hc2' 1).trans (rfl : _ = some (Value.int .i64 0))
  have u1 := blk_frozen hc2' 1
  have p2 := (blk_cell hc1' 2).trans (rfl : _ = some (Value.int .i64 (y)))
  have q2 := (blk_cell hc2' 2).trans (rfl : _ = some (Value.int .i64 0))
  have u2 := blk_frozen hc2' 2
  clear gbl hbl gbn hbn d0 d1 d2 z0 z1 z2
  go_wp2
  refine bodyPost_ret (results_cell_row rfl _ _ (W.heap.size + 1) 128 (v3 (x) (-z) (y)) (0, 0) _ rfl (blk_put (blk_put (blk_put hc2' 0 _ rfl) 1 _ rfl) 2 _ rfl) Try.underlying128 rfl (by kernel_rfl)) rfl ?_
  exact ⟨rfl, below_set (below_set (below_set hB' (by omega)) (by omega)) (by omega)⟩
set_option maxHeartbeats 8000000 in
set_option maxRecDepth 100000 in
theorem turn1_1 (bl bn : Nat) (x y z : Int) (W : World) (hbl : W.cell? ⟨bl, 0, none⟩ = some (.int .i64 0)) (hbn : W.cell? ⟨bn, 0, none⟩ = some (.int .i64 2)) (rx : -100000 ≤ x ∧ x ≤ 100000) (ry : -100000 ≤ y ∧ y ≤ 100000) (rz : -100000 ≤ z ∧ z ≤ 100000) :
    Calls Try.prog 95 (#[.agg (v3 x y z)] ++ #[.pointer (some ⟨bl, 0, none⟩), .pointer (some ⟨bn, 0, none⟩)]) W fun e w' => e = .returned (.agg (v3 (z) (y) (-x))) ∧ Below W.heap.size W w' := by
  have hu128 := Try.underlying128
  have ex : IntKind.i64.wrap (-x) = -x := IntWalk.i64_in _ (by omega)
  have kbl : bl < W.heap.size := World.block_lt_of_cell? _ _ hbl
  have kbn : bn < W.heap.size := World.block_lt_of_cell? _ _ hbn
  clear rx ry rz
  go_enter Try.func95, Try.ntmps95
  go_upto_region 1 with (fail)
  have gbl := cell_alloc (cell_alloc hbl (.cells (v3 x y z) 128)) (.cells #[.int .i64 0, .int .i64 0, .int .i64 0] 128)
  have gbn := cell_alloc (cell_alloc hbn (.cells (v3 x y z) 128)) (.cells #[.int .i64 0, .int .i64 0, .int .i64 0] 128)
  have hc1 := heap2o W (.cells (v3 x y z) 128) (.cells #[.int .i64 0, .int .i64 0, .int .i64 0] 128)
  have hc2 := heap2 W (.cells (v3 x y z) 128) (.cells #[.int .i64 0, .int .i64 0, .int .i64 0] 128)
  have hB := bel2 W (.cells (v3 x y z) 128) (.cells #[.int .i64 0, .int .i64 0, .int .i64 0] 128)
  have nbl : bl ≠ W.heap.size := by omega
  have nbn : bn ≠ W.heap.size := by omega
  generalize (W.alloc (.cells (v3 x y z) 128)).alloc (.cells #[.int .i64 0, .int .i64 0, .int .i64 0] 128) = W1 at *
  have d0 := (blk_cell hc1 0).trans (rfl : _ = some (Value.int .i64 x))
  have z0 := blk_frozen hc1 0
  have d1 := (blk_cell hc1 1).trans (rfl : _ = some (Value.int .i64 y))
  have z1 := blk_frozen hc1 1
  have d2 := (blk_cell hc1 2).trans (rfl : _ = some (Value.int .i64 z))
  have z2 := blk_frozen hc1 2
  go_region
  have hc1' : ((W1.setCell ⟨W.heap.size, 2, none⟩ (.int .i64 (-x))).setCell ⟨W.heap.size, 0, none⟩ (.int .i64 (z))).drew.heap[W.heap.size]? = some (.cells (v3 (z) (y) (-x)) 128 (0, 0)) := (blk_put (blk_put hc1 2 _ rfl) 0 _ rfl)
  have hc2' : ((W1.setCell ⟨W.heap.size, 2, none⟩ (.int .i64 (-x))).setCell ⟨W.heap.size, 0, none⟩ (.int .i64 (z))).drew.heap[W.heap.size + 1]? = some (.cells #[.int .i64 0, .int .i64 0, .int .i64 0] 128 (0, 0)) := ((Below.heap_setCell _ _ _ _ (by show W.heap.size + 1 ≠ W.heap.size; omega)).trans ((Below.heap_setCell _ _ _ _ (by show W.heap.size + 1 ≠ W.heap.size; omega)).trans hc2))
  have hB' : Below W.heap.size W ((W1.setCell ⟨W.heap.size, 2, none⟩ (.int .i64 (-x))).setCell ⟨W.heap.size, 0, none⟩ (.int .i64 (z))).drew := below_drew1 (below_set (below_set hB (Nat.le_refl _)) (Nat.le_refl _))
  generalize ((W1.setCell ⟨W.heap.size, 2, none⟩ (.int .i64 (-x))).setCell ⟨W.heap.size, 0, none⟩ (.int .i64 (z))).drew = W2 at *
  have p0 := (blk_cell hc1' 0).trans (rfl : _ = some (Value.int .i64 (z)))
  have q0 := (blk_cell hc2' 0).trans (rfl : _ = some (Value.int .i64 0))
  have u0 := blk_frozen hc2' 0
  have p1 := (blk_cell hc1' 1).trans (rfl : _ = some (Value.int .i64 (y)))
  have q1 := (blk_cell hc2' 1).trans (rfl : _ = some (Value.int .i64 0))
  have u1 := blk_frozen hc2' 1
  have p2 := (blk_cell hc1' 2).trans (rfl : _ = some (Value.int .i64 (-x)))
  have q2 := (blk_cell hc2' 2).trans (rfl : _ = some (Value.int .i64 0))
  have u2 := blk_frozen hc2' 2
  clear gbl hbl gbn hbn d0 d1 d2 z0 z1 z2
  go_wp2
  refine bodyPost_ret (results_cell_row rfl _ _ (W.heap.size + 1) 128 (v3 (z) (y) (-x)) (0, 0) _ rfl (blk_put (blk_put (blk_put hc2' 0 _ rfl) 1 _ rfl) 2 _ rfl) Try.underlying128 rfl (by kernel_rfl)) rfl ?_
  exact ⟨rfl, below_set (below_set (below_set hB' (by omega)) (by omega)) (by omega)⟩
set_option maxHeartbeats 8000000 in
set_option maxRecDepth 100000 in
theorem turn1_2 (bl bn : Nat) (x y z : Int) (W : World) (hbl : W.cell? ⟨bl, 0, none⟩ = some (.int .i64 1)) (hbn : W.cell? ⟨bn, 0, none⟩ = some (.int .i64 0)) (rx : -100000 ≤ x ∧ x ≤ 100000) (ry : -100000 ≤ y ∧ y ≤ 100000) (rz : -100000 ≤ z ∧ z ≤ 100000) :
    Calls Try.prog 95 (#[.agg (v3 x y z)] ++ #[.pointer (some ⟨bl, 0, none⟩), .pointer (some ⟨bn, 0, none⟩)]) W fun e w' => e = .returned (.agg (v3 (-y) (x) (z))) ∧ Below W.heap.size W w' := by
  have hu128 := Try.underlying128
  have ey : IntKind.i64.wrap (-y) = -y := IntWalk.i64_in _ (by omega)
  have kbl : bl < W.heap.size := World.block_lt_of_cell? _ _ hbl
  have kbn : bn < W.heap.size := World.block_lt_of_cell? _ _ hbn
  clear rx ry rz
  go_enter Try.func95, Try.ntmps95
  go_upto_region 1 with (fail)
  have gbl := cell_alloc (cell_alloc hbl (.cells (v3 x y z) 128)) (.cells #[.int .i64 0, .int .i64 0, .int .i64 0] 128)
  have gbn := cell_alloc (cell_alloc hbn (.cells (v3 x y z) 128)) (.cells #[.int .i64 0, .int .i64 0, .int .i64 0] 128)
  have hc1 := heap2o W (.cells (v3 x y z) 128) (.cells #[.int .i64 0, .int .i64 0, .int .i64 0] 128)
  have hc2 := heap2 W (.cells (v3 x y z) 128) (.cells #[.int .i64 0, .int .i64 0, .int .i64 0] 128)
  have hB := bel2 W (.cells (v3 x y z) 128) (.cells #[.int .i64 0, .int .i64 0, .int .i64 0] 128)
  have nbl : bl ≠ W.heap.size := by omega
  have nbn : bn ≠ W.heap.size := by omega
  generalize (W.alloc (.cells (v3 x y z) 128)).alloc (.cells #[.int .i64 0, .int .i64 0, .int .i64 0] 128) = W1 at *
  have d0 := (blk_cell hc1 0).trans (rfl : _ = some (Value.int .i64 x))
  have z0 := blk_frozen hc1 0
  have d1 := (blk_cell hc1 1).trans (rfl : _ = some (Value.int .i64 y))
  have z1 := blk_frozen hc1 1
  have d2 := (blk_cell hc1 2).trans (rfl : _ = some (Value.int .i64 z))
  have z2 := blk_frozen hc1 2
  go_region
  have hc1' : ((W1.setCell ⟨W.heap.size, 0, none⟩ (.int .i64 (-y))).setCell ⟨W.heap.size, 1, none⟩ (.int .i64 (x))).drew.heap[W.heap.size]? = some (.cells (v3 (-y) (x) (z)) 128 (0, 0)) := (blk_put (blk_put hc1 0 _ rfl) 1 _ rfl)
  have hc2' : ((W1.setCell ⟨W.heap.size, 0, none⟩ (.int .i64 (-y))).setCell ⟨W.heap.size, 1, none⟩ (.int .i64 (x))).drew.heap[W.heap.size + 1]? = some (.cells #[.int .i64 0, .int .i64 0, .int .i64 0] 128 (0, 0)) := ((Below.heap_setCell _ _ _ _ (by show W.heap.size + 1 ≠ W.heap.size; omega)).trans ((Below.heap_setCell _ _ _ _ (by show W.heap.size + 1 ≠ W.heap.size; omega)).trans hc2))
  have hB' : Below W.heap.size W ((W1.setCell ⟨W.heap.size, 0, none⟩ (.int .i64 (-y))).setCell ⟨W.heap.size, 1, none⟩ (.int .i64 (x))).drew := below_drew1 (below_set (below_set hB (Nat.le_refl _)) (Nat.le_refl _))
  generalize ((W1.setCell ⟨W.heap.size, 0, none⟩ (.int .i64 (-y))).setCell ⟨W.heap.size, 1, none⟩ (.int .i64 (x))).drew = W2 at *
  have p0 := (blk_cell hc1' 0).trans (rfl : _ = some (Value.int .i64 (-y)))
  have q0 := (blk_cell hc2' 0).trans (rfl : _ = some (Value.int .i64 0))
  have u0 := blk_frozen hc2' 0
  have p1 := (blk_cell hc1' 1).trans (rfl : _ = some (Value.int .i64 (x)))
  have q1 := (blk_cell hc2' 1).trans (rfl : _ = some (Value.int .i64 0))
  have u1 := blk_frozen hc2' 1
  have p2 := (blk_cell hc1' 2).trans (rfl : _ = some (Value.int .i64 (z)))
  have q2 := (blk_cell hc2' 2).trans (rfl : _ = some (Value.int .i64 0))
  have u2 := blk_frozen hc2' 2
  clear gbl hbl gbn hbn d0 d1 d2 z0 z1 z2
  go_wp2
  refine bodyPost_ret (results_cell_row rfl _ _ (W.heap.size + 1) 128 (v3 (-y) (x) (z)) (0, 0) _ rfl (blk_put (blk_put (blk_put hc2' 0 _ rfl) 1 _ rfl) 2 _ rfl) Try.underlying128 rfl (by kernel_rfl)) rfl ?_
  exact ⟨rfl, below_set (below_set (below_set hB' (by omega)) (by omega)) (by omega)⟩
set_option maxHeartbeats 8000000 in
set_option maxRecDepth 100000 in
theorem mir1_0 (ba : Nat) (x y z : Int) (W : World) (hba : W.cell? ⟨ba, 0, none⟩ = some (.int .i64 0)) (rx : -100000 ≤ x ∧ x ≤ 100000) (ry : -100000 ≤ y ∧ y ≤ 100000) (rz : -100000 ≤ z ∧ z ≤ 100000) :
    Calls Try.prog 96 (#[.agg (v3 x y z)] ++ #[.pointer (some ⟨ba, 0, none⟩)]) W fun e w' => e = .returned (.agg (v3 (-x) (y) (z))) ∧ Below W.heap.size W w' := by
  have hu128 := Try.underlying128
  have ex : IntKind.i64.wrap (-x) = -x := IntWalk.i64_in _ (by omega)
  have kba : ba < W.heap.size := World.block_lt_of_cell? _ _ hba
  clear rx ry rz
  go_enter Try.func96, Try.ntmps96
  go_upto_region 1 with (fail)
  have gba := cell_alloc (cell_alloc hba (.cells (v3 x y z) 128)) (.cells #[.int .i64 0, .int .i64 0, .int .i64 0] 128)
  have hc1 := heap2o W (.cells (v3 x y z) 128) (.cells #[.int .i64 0, .int .i64 0, .int .i64 0] 128)
  have hc2 := heap2 W (.cells (v3 x y z) 128) (.cells #[.int .i64 0, .int .i64 0, .int .i64 0] 128)
  have hB := bel2 W (.cells (v3 x y z) 128) (.cells #[.int .i64 0, .int .i64 0, .int .i64 0] 128)
  have nba : ba ≠ W.heap.size := by omega
  generalize (W.alloc (.cells (v3 x y z) 128)).alloc (.cells #[.int .i64 0, .int .i64 0, .int .i64 0] 128) = W1 at *
  have d0 := (blk_cell hc1 0).trans (rfl : _ = some (Value.int .i64 x))
  have z0 := blk_frozen hc1 0
  have d1 := (blk_cell hc1 1).trans (rfl : _ = some (Value.int .i64 y))
  have z1 := blk_frozen hc1 1
  have d2 := (blk_cell hc1 2).trans (rfl : _ = some (Value.int .i64 z))
  have z2 := blk_frozen hc1 2
  go_region
  have hc1' : (W1.setCell ⟨W.heap.size, 0, none⟩ (.int .i64 (-x))).drew.heap[W.heap.size]? = some (.cells (v3 (-x) (y) (z)) 128 (0, 0)) := (blk_put hc1 0 _ rfl)
  have hc2' : (W1.setCell ⟨W.heap.size, 0, none⟩ (.int .i64 (-x))).drew.heap[W.heap.size + 1]? = some (.cells #[.int .i64 0, .int .i64 0, .int .i64 0] 128 (0, 0)) := ((Below.heap_setCell _ _ _ _ (by show W.heap.size + 1 ≠ W.heap.size; omega)).trans hc2)
  have hB' : Below W.heap.size W (W1.setCell ⟨W.heap.size, 0, none⟩ (.int .i64 (-x))).drew := below_drew1 (below_set hB (Nat.le_refl _))
  generalize (W1.setCell ⟨W.heap.size, 0, none⟩ (.int .i64 (-x))).drew = W2 at *
  have p0 := (blk_cell hc1' 0).trans (rfl : _ = some (Value.int .i64 (-x)))
  have q0 := (blk_cell hc2' 0).trans (rfl : _ = some (Value.int .i64 0))
  have u0 := blk_frozen hc2' 0
  have p1 := (blk_cell hc1' 1).trans (rfl : _ = some (Value.int .i64 (y)))
  have q1 := (blk_cell hc2' 1).trans (rfl : _ = some (Value.int .i64 0))
  have u1 := blk_frozen hc2' 1
  have p2 := (blk_cell hc1' 2).trans (rfl : _ = some (Value.int .i64 (z)))
  have q2 := (blk_cell hc2' 2).trans (rfl : _ = some (Value.int .i64 0))
  have u2 := blk_frozen hc2' 2
  clear gba hba d0 d1 d2 z0 z1 z2
  go_wp2
  refine bodyPost_ret (results_cell_row rfl _ _ (W.heap.size + 1) 128 (v3 (-x) (y) (z)) (0, 0) _ rfl (blk_put (blk_put (blk_put hc2' 0 _ rfl) 1 _ rfl) 2 _ rfl) Try.underlying128 rfl (by kernel_rfl)) rfl ?_
  exact ⟨rfl, below_set (below_set (below_set hB' (by omega)) (by omega)) (by omega)⟩
set_option maxHeartbeats 8000000 in
set_option maxRecDepth 100000 in
theorem mir1_1 (ba : Nat) (x y z : Int) (W : World) (hba : W.cell? ⟨ba, 0, none⟩ = some (.int .i64 1)) (rx : -100000 ≤ x ∧ x ≤ 100000) (ry : -100000 ≤ y ∧ y ≤ 100000) (rz : -100000 ≤ z ∧ z ≤ 100000) :
    Calls Try.prog 96 (#[.agg (v3 x y z)] ++ #[.pointer (some ⟨ba, 0, none⟩)]) W fun e w' => e = .returned (.agg (v3 (x) (-y) (z))) ∧ Below W.heap.size W w' := by
  have hu128 := Try.underlying128
  have ey : IntKind.i64.wrap (-y) = -y := IntWalk.i64_in _ (by omega)
  have kba : ba < W.heap.size := World.block_lt_of_cell? _ _ hba
  clear rx ry rz
  go_enter Try.func96, Try.ntmps96
  go_upto_region 1 with (fail)
  have gba := cell_alloc (cell_alloc hba (.cells (v3 x y z) 128)) (.cells #[.int .i64 0, .int .i64 0, .int .i64 0] 128)
  have hc1 := heap2o W (.cells (v3 x y z) 128) (.cells #[.int .i64 0, .int .i64 0, .int .i64 0] 128)
  have hc2 := heap2 W (.cells (v3 x y z) 128) (.cells #[.int .i64 0, .int .i64 0, .int .i64 0] 128)
  have hB := bel2 W (.cells (v3 x y z) 128) (.cells #[.int .i64 0, .int .i64 0, .int .i64 0] 128)
  have nba : ba ≠ W.heap.size := by omega
  generalize (W.alloc (.cells (v3 x y z) 128)).alloc (.cells #[.int .i64 0, .int .i64 0, .int .i64 0] 128) = W1 at *
  have d0 := (blk_cell hc1 0).trans (rfl : _ = some (Value.int .i64 x))
  have z0 := blk_frozen hc1 0
  have d1 := (blk_cell hc1 1).trans (rfl : _ = some (Value.int .i64 y))
  have z1 := blk_frozen hc1 1
  have d2 := (blk_cell hc1 2).trans (rfl : _ = some (Value.int .i64 z))
  have z2 := blk_frozen hc1 2
  go_region
  have hc1' : (W1.setCell ⟨W.heap.size, 1, none⟩ (.int .i64 (-y))).drew.heap[W.heap.size]? = some (.cells (v3 (x) (-y) (z)) 128 (0, 0)) := (blk_put hc1 1 _ rfl)
  have hc2' : (W1.setCell ⟨W.heap.size, 1, none⟩ (.int .i64 (-y))).drew.heap[W.heap.size + 1]? = some (.cells #[.int .i64 0, .int .i64 0, .int .i64 0] 128 (0, 0)) := ((Below.heap_setCell _ _ _ _ (by show W.heap.size + 1 ≠ W.heap.size; omega)).trans hc2)
  have hB' : Below W.heap.size W (W1.setCell ⟨W.heap.size, 1, none⟩ (.int .i64 (-y))).drew := below_drew1 (below_set hB (Nat.le_refl _))
  generalize (W1.setCell ⟨W.heap.size, 1, none⟩ (.int .i64 (-y))).drew = W2 at *
  have p0 := (blk_cell hc1' 0).trans (rfl : _ = some (Value.int .i64 (x)))
  have q0 := (blk_cell hc2' 0).trans (rfl : _ = some (Value.int .i64 0))
  have u0 := blk_frozen hc2' 0
  have p1 := (blk_cell hc1' 1).trans (rfl : _ = some (Value.int .i64 (-y)))
  have q1 := (blk_cell hc2' 1).trans (rfl : _ = some (Value.int .i64 0))
  have u1 := blk_frozen hc2' 1
  have p2 := (blk_cell hc1' 2).trans (rfl : _ = some (Value.int .i64 (z)))
  have q2 := (blk_cell hc2' 2).trans (rfl : _ = some (Value.int .i64 0))
  have u2 := blk_frozen hc2' 2
  clear gba hba d0 d1 d2 z0 z1 z2
  go_wp2
  refine bodyPost_ret (results_cell_row rfl _ _ (W.heap.size + 1) 128 (v3 (x) (-y) (z)) (0, 0) _ rfl (blk_put (blk_put (blk_put hc2' 0 _ rfl) 1 _ rfl) 2 _ rfl) Try.underlying128 rfl (by kernel_rfl)) rfl ?_
  exact ⟨rfl, below_set (below_set (below_set hB' (by omega)) (by omega)) (by omega)⟩
set_option maxHeartbeats 8000000 in
set_option maxRecDepth 100000 in
theorem mir1_2 (ba : Nat) (x y z : Int) (W : World) (hba : W.cell? ⟨ba, 0, none⟩ = some (.int .i64 2)) (rx : -100000 ≤ x ∧ x ≤ 100000) (ry : -100000 ≤ y ∧ y ≤ 100000) (rz : -100000 ≤ z ∧ z ≤ 100000) :
    Calls Try.prog 96 (#[.agg (v3 x y z)] ++ #[.pointer (some ⟨ba, 0, none⟩)]) W fun e w' => e = .returned (.agg (v3 (x) (y) (-z))) ∧ Below W.heap.size W w' := by
  have hu128 := Try.underlying128
  have ez : IntKind.i64.wrap (-z) = -z := IntWalk.i64_in _ (by omega)
  have kba : ba < W.heap.size := World.block_lt_of_cell? _ _ hba
  clear rx ry rz
  go_enter Try.func96, Try.ntmps96
  go_upto_region 1 with (fail)
  have gba := cell_alloc (cell_alloc hba (.cells (v3 x y z) 128)) (.cells #[.int .i64 0, .int .i64 0, .int .i64 0] 128)
  have hc1 := heap2o W (.cells (v3 x y z) 128) (.cells #[.int .i64 0, .int .i64 0, .int .i64 0] 128)
  have hc2 := heap2 W (.cells (v3 x y z) 128) (.cells #[.int .i64 0, .int .i64 0, .int .i64 0] 128)
  have hB := bel2 W (.cells (v3 x y z) 128) (.cells #[.int .i64 0, .int .i64 0, .int .i64 0] 128)
  have nba : ba ≠ W.heap.size := by omega
  generalize (W.alloc (.cells (v3 x y z) 128)).alloc (.cells #[.int .i64 0, .int .i64 0, .int .i64 0] 128) = W1 at *
  have d0 := (blk_cell hc1 0).trans (rfl : _ = some (Value.int .i64 x))
  have z0 := blk_frozen hc1 0
  have d1 := (blk_cell hc1 1).trans (rfl : _ = some (Value.int .i64 y))
  have z1 := blk_frozen hc1 1
  have d2 := (blk_cell hc1 2).trans (rfl : _ = some (Value.int .i64 z))
  have z2 := blk_frozen hc1 2
  go_region
  have hc1' : (W1.setCell ⟨W.heap.size, 2, none⟩ (.int .i64 (-z))).drew.heap[W.heap.size]? = some (.cells (v3 (x) (y) (-z)) 128 (0, 0)) := (blk_put hc1 2 _ rfl)
  have hc2' : (W1.setCell ⟨W.heap.size, 2, none⟩ (.int .i64 (-z))).drew.heap[W.heap.size + 1]? = some (.cells #[.int .i64 0, .int .i64 0, .int .i64 0] 128 (0, 0)) := ((Below.heap_setCell _ _ _ _ (by show W.heap.size + 1 ≠ W.heap.size; omega)).trans hc2)
  have hB' : Below W.heap.size W (W1.setCell ⟨W.heap.size, 2, none⟩ (.int .i64 (-z))).drew := below_drew1 (below_set hB (Nat.le_refl _))
  generalize (W1.setCell ⟨W.heap.size, 2, none⟩ (.int .i64 (-z))).drew = W2 at *
  have p0 := (blk_cell hc1' 0).trans (rfl : _ = some (Value.int .i64 (x)))
  have q0 := (blk_cell hc2' 0).trans (rfl : _ = some (Value.int .i64 0))
  have u0 := blk_frozen hc2' 0
  have p1 := (blk_cell hc1' 1).trans (rfl : _ = some (Value.int .i64 (y)))
  have q1 := (blk_cell hc2' 1).trans (rfl : _ = some (Value.int .i64 0))
  have u1 := blk_frozen hc2' 1
  have p2 := (blk_cell hc1' 2).trans (rfl : _ = some (Value.int .i64 (-z)))
  have q2 := (blk_cell hc2' 2).trans (rfl : _ = some (Value.int .i64 0))
  have u2 := blk_frozen hc2' 2
  clear gba hba d0 d1 d2 z0 z1 z2
  go_wp2
  refine bodyPost_ret (results_cell_row rfl _ _ (W.heap.size + 1) 128 (v3 (x) (y) (-z)) (0, 0) _ rfl (blk_put (blk_put (blk_put hc2' 0 _ rfl) 1 _ rfl) 2 _ rfl) Try.underlying128 rfl (by kernel_rfl)) rfl ?_
  exact ⟨rfl, below_set (below_set (below_set hB' (by omega)) (by omega)) (by omega)⟩
theorem turn1_calls (bl bn : Nat) (x y z a : Int) (W : World) (h3 : 0 ≤ a ∧ a < 3) (hl : W.cell? ⟨bl, 0, none⟩ = some (.int .i64 ((a + 2) % 3))) (hn : W.cell? ⟨bn, 0, none⟩ = some (.int .i64 ((a + 1) % 3))) (rx : -100000 ≤ x ∧ x ≤ 100000) (ry : -100000 ≤ y ∧ y ≤ 100000) (rz : -100000 ≤ z ∧ z ≤ 100000) :
    Calls Try.prog 95 (#[.agg (v3 x y z)] ++ #[.pointer (some ⟨bl, 0, none⟩), .pointer (some ⟨bn, 0, none⟩)]) W fun e w' => e = .returned (.agg (v3 (turn3 x y z a).1 (turn3 x y z a).2.1 (turn3 x y z a).2.2)) ∧ Below W.heap.size W w' := by
  have hk : a = 0 ∨ a = 1 ∨ a = 2 := by omega
  rcases hk with rfl | rfl | rfl
  · exact turn1_0 bl bn x y z W hl hn rx ry rz
  · exact turn1_1 bl bn x y z W hl hn rx ry rz
  · exact turn1_2 bl bn x y z W hl hn rx ry rz
theorem mir1_calls (ba : Nat) (x y z a : Int) (W : World) (h3 : 0 ≤ a ∧ a < 3) (ha : W.cell? ⟨ba, 0, none⟩ = some (.int .i64 a)) (rx : -100000 ≤ x ∧ x ≤ 100000) (ry : -100000 ≤ y ∧ y ≤ 100000) (rz : -100000 ≤ z ∧ z ≤ 100000) :
    Calls Try.prog 96 (#[.agg (v3 x y z)] ++ #[.pointer (some ⟨ba, 0, none⟩)]) W fun e w' => e = .returned (.agg (v3 (mir3 x y z a).1 (mir3 x y z a).2.1 (mir3 x y z a).2.2)) ∧ Below W.heap.size W w' := by
  have hk : a = 0 ∨ a = 1 ∨ a = 2 := by omega
  rcases hk with rfl | rfl | rfl
  · exact mir1_0 ba x y z W ha rx ry rz
  · exact mir1_1 ba x y z W ha rx ry rz
  · exact mir1_2 ba x y z W ha rx ry rz
end Go.Proofs.Ytkgdlbepjmgaiaa.Fea
set_option linter.unusedVariables false
set_option linter.unusedSimpArgs false
namespace Go.Proofs.Ytkgdlbepjmgaiaa.Fea
open Go.RowKit Go.Proofs.YtkgdlbepjmgaiaaW.PrintWords Go.Proofs.YtkgdlbepjmgaiaaW.PrintLast Go.Proofs.YtkgdlbepjmgaiaaW.PrintMore
set_option maxHeartbeats 16000000 in
set_option maxRecDepth 100000 in
theorem turn_bad (nm : ByteArray) (k ax x y z lo hi : Int) (A : Option Addr) (c : Nat) (l : List S104) (a : Int) (w : World) (hr : Kd.C k104 w A l.length l) (hc : l.length ≤ c) (hne : alongV nm k ax x y z lo hi a ≠ 0) :
    Calls Try.prog 46 #[.agg (ftV nm k ax x y z lo hi A l.length c), .int .i64 a] w fun e w' => ∃ v8_ : Value, e = .returned (.tuple #[.agg (ftU ⟨#[]⟩ 0 0 0 0 0 0 0 v8_), .int .i64 (alongV nm k ax x y z lo hi a)]) ∧ Kd.V k104 104 w' w.heap.size (fun k_ => w.heap.size ≤ k_) v8_ [] ∧ Below w.heap.size w w' := by
  have hu28 := Try.underlying28
  have hu23 := Try.underlying23
  obtain ⟨kk, hkk⟩ := (along_ev nm k ax x y z lo hi l a).rounds
  have HR := Aside0.mk hr
  clear hr
  have n0 : (alongV nm k ax x y z lo hi a == 0) = false := beq_eq_false_iff_ne.2 hne
  have n1 : (alongV nm k ax x y z lo hi a != 0) = true := bne_iff_ne.2 hne
  generalize alongV nm k ax x y z lo hi a = er at *
  clear hne
  go_enter Try.func46, Try.ntmps46
  go_upto_region 1 with (fail)
  have h0 := heap2o w (.cells (ftV nm k ax x y z lo hi A l.length c) 28) (.cells ft0 28)
  have h1 := heap2 w (.cells (ftV nm k ax x y z lo hi A l.length c) 28) (.cells ft0 28)
  have hB := bel2 w (.cells (ftV nm k ax x y z lo hi A l.length c) 28) (.cells ft0 28)
  generalize (w.alloc (.cells (ftV nm k ax x y z lo hi A l.length c) 28)).alloc (.cells ft0 28) = W1 at *
  have c0 := (blk_cell h0 0).trans (rfl : _ = some (Value.string nm))
  have c1 := (blk_cell h0 1).trans (rfl : _ = some (Value.int .i64 k))
  have c2 := (blk_cell h0 2).trans (rfl : _ = some (Value.int .i64 ax))
  have c3 := (blk_cell h0 3).trans (rfl : _ = some (Value.int .i64 x))
  have c4 := (blk_cell h0 4).trans (rfl : _ = some (Value.int .i64 y))
  have c5 := (blk_cell h0 5).trans (rfl : _ = some (Value.int .i64 z))
  have c6 := (blk_cell h0 6).trans (rfl : _ = some (Value.int .i64 lo))
  have c7 := (blk_cell h0 7).trans (rfl : _ = some (Value.int .i64 hi))
  have c8 := (blk_cell h0 8).trans (rfl : _ = some (Value.slice A l.length c))
  go_wp2_with (first | ((with_reducible refine gate_store (t := 28) (p := 4) rfl ?_); refine wpList_store_row rfl 28 (.tmp 4) (.tmp 15) rfl (w.heap.size + 1) ft0 rfl rfl 28 ft0 g1 (by kernel_rfl) rfl (by simp [Value.oneCell']) ?_) | (go_at_call 68; refine (feature_along.calls kk nm k ax x y z lo hi A c l a _ _ (Kd.C_below HR.out hB) hc hkk).mono ?_; rintro e w' ⟨rfl, hb⟩; have g0 := blk_below h0 hb; have g1 := blk_below h1 hb; have gB := below_step hB hb; clear hb c0 c1 c2 c3 c4 c5 c6 c7 c8; have HG := Aside0.mk g1))
  refine bodyPost_ret (results_ct rfl _ _ (w.heap.size + 1) 28 ft0 (0, 0) _ rfl (row_new g1) Try.underlying28 rfl (by kernel_rfl)) rfl ?_
  refine ⟨.slice none 0 0, rfl, Kd.V_nil _ _ _ _ _, row_bel gB (by omega)⟩
def turnAx (k ax a : Int) : Int := if k = 4 then ax else if ax = (a + 1) % 3 then (a + 2) % 3 else if ax = (a + 2) % 3 then (a + 1) % 3 else ax
theorem eg95 : ∀ args w, (callFunc 95 args).run Try.prog w = .ok (.enter 95 args) w := enters_of Try.func95 (by kernel_rfl) rfl
set_option maxHeartbeats 16000000 in
set_option maxRecDepth 100000 in
theorem turn_ok (nm : ByteArray) (k ax x y z lo hi : Int) (A : Option Addr) (c : Nat) (l : List S104) (a : Int) (w : World) (hr : Kd.C k104 w A l.length l) (hc : l.length ≤ c) (hsm : small l = true) (hok : alongV nm k ax x y z lo hi a = 0) :
    Calls Try.prog 46 #[.agg (ftV nm k ax x y z lo hi A l.length c), .int .i64 a] w fun e w' => ∃ v8_ : Value, e = .returned (.tuple #[.agg (ftU nm k (turnAx k ax a) (turn3 x y z a).1 (turn3 x y z a).2.1 (turn3 x y z a).2.2 lo hi v8_), .int .i64 0]) ∧ Kd.V k104 104 w' w.heap.size (fun k_ => w.heap.size ≤ k_) v8_ l ∧ Below w.heap.size w w' := by
  have hu28 := Try.underlying28
  have hu23 := Try.underlying23
  obtain ⟨kk, hkk⟩ := (along_ev nm k ax x y z lo hi l a).rounds
  have HR := Aside0.mk hr
  clear hr
  obtain ⟨hch, h3⟩ := alongV_ok.1 hok
  obtain ⟨_, hq⟩ := chkF_ok.1 hch
  rw [hok] at hkk
  have HQ := Aside0.mk hq
  have H3 := Aside0.mk h3
  have HS := Aside0.mk hsm
  have e1 : IntKind.i64.wrap (a + 1) = a + 1 := IntWalk.i64_in _ (by omega)
  have e2 : IntKind.i64.wrap (a + 2) = a + 2 := IntWalk.i64_in _ (by omega)
  have e3 : (a + 1).tmod 3 = (a + 1) % 3 := Int.tmod_eq_emod_of_nonneg (by omega)
  have e4 : (a + 2).tmod 3 = (a + 2) % 3 := Int.tmod_eq_emod_of_nonneg (by omega)
  clear hq h3 hok hch hsm
  generalize hT : turnAx k ax a = tx at *
  have HT := Aside0.mk hT
  clear hT
  unfold turnAx at HT
  generalize he : turn3 x y z a = p at *
  have HE := Aside0.mk he
  clear he
  have HN : Aside0 (∀ bl bn W, W.cell? ⟨bl, 0, none⟩ = some (.int .i64 ((a + 2) % 3)) → W.cell? ⟨bn, 0, none⟩ = some (.int .i64 ((a + 1) % 3)) → Calls Try.prog 95 (#[.agg (v3 x y z)] ++ #[.pointer (some ⟨bl, 0, none⟩), .pointer (some ⟨bn, 0, none⟩)]) W fun e w' => e = .returned (.agg (v3 p.1 p.2.1 p.2.2)) ∧ Below W.heap.size W w') := ⟨fun bl bn W h1 h2 => by have := turn1_calls bl bn x y z a W H3.out h1 h2 HQ.out.x1 HQ.out.y1 HQ.out.z1; rw [HE.out] at this; exact this⟩
  have hnl : (a + 1) % 3 ≠ (a + 2) % 3 := by omega
  generalize (a + 1) % 3 = nx at *
  generalize (a + 2) % 3 = la at *
  go_enter Try.func46, Try.ntmps46
  go_upto_region 1 with (fail)
  have h0 := heap2o w (.cells (ftV nm k ax x y z lo hi A l.length c) 28) (.cells ft0 28)
  have h1 := heap2 w (.cells (ftV nm k ax x y z lo hi A l.length c) 28) (.cells ft0 28)
  have hB := bel2 w (.cells (ftV nm k ax x y z lo hi A l.length c) 28) (.cells ft0 28)
  generalize (w.alloc (.cells (ftV nm k ax x y z lo hi A l.length c) 28)).alloc (.cells ft0 28) = W1 at *
  have c0 := (blk_cell h0 0).trans (rfl : _ = some (Value.string nm))
  have c1 := (blk_cell h0 1).trans (rfl : _ = some (Value.int .i64 k))
  have c2 := (blk_cell h0 2).trans (rfl : _ = some (Value.int .i64 ax))
  have c3 := (blk_cell h0 3).trans (rfl : _ = some (Value.int .i64 x))
  have c4 := (blk_cell h0 4).trans (rfl : _ = some (Value.int .i64 y))
  have c5 := (blk_cell h0 5).trans (rfl : _ = some (Value.int .i64 z))
  have c6 := (blk_cell h0 6).trans (rfl : _ = some (Value.int .i64 lo))
  have c7 := (blk_cell h0 7).trans (rfl : _ = some (Value.int .i64 hi))
  have c8 := (blk_cell h0 8).trans (rfl : _ = some (Value.slice A l.length c))
  go_upto_region 5 with (go_at_call 68; refine (feature_along.calls kk nm k ax x y z lo hi A c l a _ _ (Kd.C_below HR.out hB) hc hkk).mono ?_; rintro e w' ⟨rfl, hb⟩; have g0 := blk_below h0 hb; have g1 := blk_below h1 hb; have gB := below_step hB hb; clear hb h0 h1 hB c0 c1 c2 c3 c4 c5 c6 c7 c8)
  have n0 := heap2o w' (.cells #[.int .i64 nx] 3) (.cells #[.int .i64 la] 3)
  have n1 := heap2 w' (.cells #[.int .i64 nx] 3) (.cells #[.int .i64 la] 3)
  have nB := bel2 w' (.cells #[.int .i64 nx] 3) (.cells #[.int .i64 la] 3)
  have f0 := blk_below g0 nB
  have f1 := blk_below g1 nB
  have fB := below_step gB nB
  have hgs : w.heap.size + 2 ≤ w'.heap.size := (Array.getElem?_eq_some_iff.1 g1).1
  clear nB g0 g1 gB
  generalize (w'.alloc (.cells #[.int .i64 nx] 3)).alloc (.cells #[.int .i64 la] 3) = Wn at *
  have c0 := (blk_cell f0 0).trans (rfl : _ = some (Value.string nm))
  have c1 := (blk_cell f0 1).trans (rfl : _ = some (Value.int .i64 k))
  have c2 := (blk_cell f0 2).trans (rfl : _ = some (Value.int .i64 ax))
  have c3 := (blk_cell f0 3).trans (rfl : _ = some (Value.int .i64 x))
  have c4 := (blk_cell f0 4).trans (rfl : _ = some (Value.int .i64 y))
  have c5 := (blk_cell f0 5).trans (rfl : _ = some (Value.int .i64 z))
  have c6 := (blk_cell f0 6).trans (rfl : _ = some (Value.int .i64 lo))
  have c7 := (blk_cell f0 7).trans (rfl : _ = some (Value.int .i64 hi))
  have c8 := (blk_cell f0 8).trans (rfl : _ = some (Value.slice A l.length c))
  have hcall := placed_calls 95 #[.pointer (some ⟨w'.heap.size + 1, 0, none⟩), .pointer (some ⟨w'.heap.size, 0, none⟩)] eg95 nm k ax x y z lo hi A c l p.1 p.2.1 p.2.2 Wn (Kd.C_below HR.out fB) hc HS.out (fun W hW => HN.out _ _ W (cell_on hW ((blk_cell n1 0).trans (rfl : _ = some (Value.int .i64 la)))) (cell_on hW ((blk_cell n0 0).trans (rfl : _ = some (Value.int .i64 nx)))))
  go_wp2_with (fail)
  refine hcall.mono ?_
  clear hcall
  rintro e w2 ⟨A', c', rfl, hle, hF, hb⟩
  have hwn : w'.heap.size + 2 ≤ Wn.heap.size := (Array.getElem?_eq_some_iff.1 n1).1
  have m0 := blk_below n0 hb
  have m1 := blk_below n1 hb
  have k0 := blk_below f0 hb
  have k1 := blk_below f1 hb
  have kB := below_step fB hb
  have hsz := hb.size
  have HF := Aside0.mk hF
  clear hF hb n0 n1 f0 f1 fB c0 c1 c2 c3 c4 c5 c6 c7 c8
  go_upto_region 6 with (fail)
  have r9 := blk_new w2 (.cells (ftV nm k ax p.1 p.2.1 p.2.2 lo hi A' l.length c') 28)
  have j0 := blk_alloc k0 (.cells (ftV nm k ax p.1 p.2.1 p.2.2 lo hi A' l.length c') 28)
  have j1 := blk_alloc k1 (.cells (ftV nm k ax p.1 p.2.1 p.2.2 lo hi A' l.length c') 28)
  have j2 := blk_alloc m0 (.cells (ftV nm k ax p.1 p.2.1 p.2.2 lo hi A' l.length c') 28)
  have j3 := blk_alloc m1 (.cells (ftV nm k ax p.1 p.2.1 p.2.2 lo hi A' l.length c') 28)
  have jB := below_alloc kB (.cells (ftV nm k ax p.1 p.2.1 p.2.2 lo hi A' l.length c') 28)
  have HF2 := Aside0.mk (Kd.F_alloc (Kd.F_elderB HF.out w2.heap.size (Nat.le_refl _)) (.cells (ftV nm k ax p.1 p.2.1 p.2.2 lo hi A' l.length c') 28))
  clear k0 k1 m0 m1 kB HF
  generalize hz : w2.heap.size = z9 at *
  generalize w2.alloc (.cells (ftV nm k ax p.1 p.2.1 p.2.2 lo hi A' l.length c') 28) = W2 at *
  have d1 := (blk_cell j0 1).trans (rfl : _ = some (Value.int .i64 k))
  have d2 := (blk_cell j0 2).trans (rfl : _ = some (Value.int .i64 ax))
  have y0 := (blk_cell j2 0).trans (rfl : _ = some (Value.int .i64 nx))
  have y1 := (blk_cell j3 0).trans (rfl : _ = some (Value.int .i64 la))
  have v2 := (blk_cell r9 2).trans (rfl : _ = some (Value.int .i64 ax))
  have t2 := blk_frozen r9 2
  have HF3 : Aside0 (Kd.F k104 W2 (fun k => Wn.heap.size ≤ k ∧ k ≠ z9) A' l.length l) := HF2
  by_cases h4 : k = 4
  · have b1 : (k == 4) = true := beq_iff_eq.2 h4
    have ht : tx = ax := by rw [← HT.out, if_pos h4]
    subst ht
    clear h4
    go_wp2_with (first | ((with_reducible refine gate_dst (N := 44) rfl ?_); refine wpList_load_row rfl 28 (.tmp 9) rfl z9 rfl 28 (ftV nm k tx p.1 p.2.1 p.2.2 lo hi A' l.length c') (0, 0) _ r9 Try.underlying28 rfl (by kernel_rfl) ?_) | ((with_reducible refine gate_store (t := 28) (p := 4) rfl ?_); refine wpList_store_row rfl 28 (.tmp 4) (.tmp 44) rfl (w.heap.size + 1) (ftV nm k tx p.1 p.2.1 p.2.2 lo hi A' l.length c') rfl rfl 28 ft0 j1 (by kernel_rfl) rfl (by simp [Value.oneCell']) ?_))
    refine bodyPost_ret (results_ct rfl _ _ (w.heap.size + 1) 28 (ftV nm k tx p.1 p.2.1 p.2.2 lo hi A' l.length c') (0, 0) _ rfl (row_new j1) Try.underlying28 rfl (by kernel_rfl)) rfl ?_
    refine ⟨.slice A' l.length c', rfl, ⟨A', c', rfl, hle, ?_⟩, ?_⟩
    · refine Kd.F_mono (ok := fun k => Wn.heap.size ≤ k ∧ k ≠ z9) ?_ (fun k hk => by omega)
      refine Kd.F_step HF3.out (fun k hk _ => row_far (by omega))
    · exact row_bel jB (by omega)
  · have b1 : (k == 4) = false := beq_eq_false_iff_ne.2 h4
    by_cases h5 : ax = nx
    · have b2 : (ax == nx) = true := beq_iff_eq.2 h5
      have ht : tx = la := by rw [← HT.out, if_neg h4, if_pos h5]
      subst ht
      clear h4 h5
      have j1s : (W2.setCell ⟨z9, 2, none⟩ (.int .i64 tx)).heap[w.heap.size + 1]? = some (.cells ft0 28 (0, 0)) := (Below.heap_setCell _ _ _ _ (by show w.heap.size + 1 ≠ z9; omega)).trans j1
      go_wp2_with (first | ((with_reducible refine gate_dst (N := 44) rfl ?_); refine wpList_load_row rfl 28 (.tmp 9) rfl z9 rfl 28 (ftV nm k tx p.1 p.2.1 p.2.2 lo hi A' l.length c') (0, 0) _ (blk_put r9 2 _ rfl) Try.underlying28 rfl (by kernel_rfl) ?_) | ((with_reducible refine gate_store (t := 28) (p := 4) rfl ?_); refine wpList_store_row rfl 28 (.tmp 4) (.tmp 44) rfl (w.heap.size + 1) (ftV nm k tx p.1 p.2.1 p.2.2 lo hi A' l.length c') rfl rfl 28 ft0 j1s (by kernel_rfl) rfl (by simp [Value.oneCell']) ?_))
      refine bodyPost_ret (results_ct rfl _ _ (w.heap.size + 1) 28 (ftV nm k tx p.1 p.2.1 p.2.2 lo hi A' l.length c') (0, 0) _ rfl (row_new j1s) Try.underlying28 rfl (by kernel_rfl)) rfl ?_
      refine ⟨.slice A' l.length c', rfl, ⟨A', c', rfl, hle, ?_⟩, ?_⟩
      · refine Kd.F_mono (ok := fun k => Wn.heap.size ≤ k ∧ k ≠ z9) ?_ (fun k hk => by omega)
        refine Kd.F_step (Kd.F_far HF3.out (fun k hk => hk.2) _) (fun k hk _ => row_far (by omega))
      · exact row_bel (below_set jB (by omega)) (by omega)
    · have b2 : (ax == nx) = false := beq_eq_false_iff_ne.2 h5
      by_cases h6 : ax = la
      · have b3 : (ax == la) = true := beq_iff_eq.2 h6
        have ht : tx = nx := by rw [← HT.out, if_neg h4, if_neg h5, if_pos h6]
        subst ht
        clear h4 h5 h6
        have j1s : (W2.setCell ⟨z9, 2, none⟩ (.int .i64 tx)).heap[w.heap.size + 1]? = some (.cells ft0 28 (0, 0)) := (Below.heap_setCell _ _ _ _ (by show w.heap.size + 1 ≠ z9; omega)).trans j1
        go_wp2_with (first | ((with_reducible refine gate_dst (N := 44) rfl ?_); refine wpList_load_row rfl 28 (.tmp 9) rfl z9 rfl 28 (ftV nm k tx p.1 p.2.1 p.2.2 lo hi A' l.length c') (0, 0) _ (blk_put r9 2 _ rfl) Try.underlying28 rfl (by kernel_rfl) ?_) | ((with_reducible refine gate_store (t := 28) (p := 4) rfl ?_); refine wpList_store_row rfl 28 (.tmp 4) (.tmp 44) rfl (w.heap.size + 1) (ftV nm k tx p.1 p.2.1 p.2.2 lo hi A' l.length c') rfl rfl 28 ft0 j1s (by kernel_rfl) rfl (by simp [Value.oneCell']) ?_))
        refine bodyPost_ret (results_ct rfl _ _ (w.heap.size + 1) 28 (ftV nm k tx p.1 p.2.1 p.2.2 lo hi A' l.length c') (0, 0) _ rfl (row_new j1s) Try.underlying28 rfl (by kernel_rfl)) rfl ?_
        refine ⟨.slice A' l.length c', rfl, ⟨A', c', rfl, hle, ?_⟩, ?_⟩
        · refine Kd.F_mono (ok := fun k => Wn.heap.size ≤ k ∧ k ≠ z9) ?_ (fun k hk => by omega)
          refine Kd.F_step (Kd.F_far HF3.out (fun k hk => hk.2) _) (fun k hk _ => row_far (by omega))
        · exact row_bel (below_set jB (by omega)) (by omega)
      · have b3 : (ax == la) = false := beq_eq_false_iff_ne.2 h6
        have ht : tx = ax := by rw [← HT.out, if_neg h4, if_neg h5, if_neg h6]
        subst ht
        clear h4 h5 h6
        go_wp2_with (first | ((with_reducible refine gate_dst (N := 44) rfl ?_); refine wpList_load_row rfl 28 (.tmp 9) rfl z9 rfl 28 (ftV nm k tx p.1 p.2.1 p.2.2 lo hi A' l.length c') (0, 0) _ r9 Try.underlying28 rfl (by kernel_rfl) ?_) | ((with_reducible refine gate_store (t := 28) (p := 4) rfl ?_); refine wpList_store_row rfl 28 (.tmp 4) (.tmp 44) rfl (w.heap.size + 1) (ftV nm k tx p.1 p.2.1 p.2.2 lo hi A' l.length c') rfl rfl 28 ft0 j1 (by kernel_rfl) rfl (by simp [Value.oneCell']) ?_))
        refine bodyPost_ret (results_ct rfl _ _ (w.heap.size + 1) 28 (ftV nm k tx p.1 p.2.1 p.2.2 lo hi A' l.length c') (0, 0) _ rfl (row_new j1) Try.underlying28 rfl (by kernel_rfl)) rfl ?_
        refine ⟨.slice A' l.length c', rfl, ⟨A', c', rfl, hle, ?_⟩, ?_⟩
        · refine Kd.F_mono (ok := fun k => Wn.heap.size ≤ k ∧ k ≠ z9) ?_ (fun k hk => by omega)
          refine Kd.F_step HF3.out (fun k hk _ => row_far (by omega))
        · exact row_bel jB (by omega)
end Go.Proofs.Ytkgdlbepjmgaiaa.Fea
namespace Go.Proofs.Ytkgdlbepjmgaiaa.Fea
open Go.RowKit Go.Proofs.YtkgdlbepjmgaiaaW.PrintWords Go.Proofs.YtkgdlbepjmgaiaaW.PrintLast Go.Proofs.YtkgdlbepjmgaiaaW.PrintMore
attribute [local go_sem] max2_int min2_int max_two min_two max_three min_three max_four min_four
set_option linter.unusedVariables false
set_option linter.unusedSimpArgs false
def feature_Turn.f (a0_0 : ByteArray) (a0_1 : Int) (a0_2 : Int) (a0_3 : Int) (a0_4 : Int) (a0_5 : Int) (a0_6 : Int) (a0_7 : Int) (l0_8 : List (S104)) (a1 : Int) : Option (ByteArray × Int × Int × Int × Int × Int × Int × Int × (List (S104)) × Int) := if small l0_8 = true then some (if alongV a0_0 a0_1 a0_2 a0_3 a0_4 a0_5 a0_6 a0_7 a1 = 0 then (a0_0, a0_1, turnAx a0_1 a0_2 a1, (turn3 a0_3 a0_4 a0_5 a1).1, (turn3 a0_3 a0_4 a0_5 a1).2.1, (turn3 a0_3 a0_4 a0_5 a1).2.2, a0_6, a0_7, l0_8, (0 : Int)) else ((⟨#[]⟩ : ByteArray), (0 : Int), (0 : Int), (0 : Int), (0 : Int), (0 : Int), (0 : Int), (0 : Int), ([] : List (S104)), alongV a0_0 a0_1 a0_2 a0_3 a0_4 a0_5 a0_6 a0_7 a1)) else none
theorem feature_Turn.calls (a0_0 : ByteArray) (a0_1 : Int) (a0_2 : Int) (a0_3 : Int) (a0_4 : Int) (a0_5 : Int) (a0_6 : Int) (a0_7 : Int) (A0_8 : Option Addr) (c0_8 : Nat) (l0_8 : List (S104)) (a1 : Int) (r1 : ByteArray) (r2 : Int) (r3 : Int) (r4 : Int) (r5 : Int) (r6 : Int) (r7 : Int) (r8 : Int) (r9 : List (S104)) (r10 : Int) (w : World) (hr0_8 : Kd.C k104 w A0_8 l0_8.length l0_8) (hc0_8 : l0_8.length ≤ c0_8) (h : feature_Turn.f a0_0 a0_1 a0_2 a0_3 a0_4 a0_5 a0_6 a0_7 l0_8 a1 = some (r1, r2, r3, r4, r5, r6, r7, r8, r9, r10)) :
    Calls Try.prog 46 #[.agg #[.string a0_0, .int .i64 a0_1, .int .i64 a0_2, .int .i64 a0_3, .int .i64 a0_4, .int .i64 a0_5, .int .i64 a0_6, .int .i64 a0_7, .slice A0_8 l0_8.length c0_8], .int .i64 a1] w fun e w' => ∃ v8_ : Value, e = .returned (.tuple #[.agg #[.string r1, .int .i64 r2, .int .i64 r3, .int .i64 r4, .int .i64 r5, .int .i64 r6, .int .i64 r7, .int .i64 r8, v8_], .int .i64 r10]) ∧ Kd.V k104 104 w' w.heap.size (fun k_ => w.heap.size ≤ k_) v8_ r9 ∧ Below w.heap.size w w' := by
  unfold feature_Turn.f at h
  split at h
  case isFalse => cases h
  rename_i hsm
  replace h := Option.some.inj h
  split at h
  · rename_i g
    simp only [Prod.mk.injEq] at h
    obtain ⟨rfl, rfl, rfl, rfl, rfl, rfl, rfl, rfl, rfl, rfl⟩ := h
    exact turn_ok a0_0 a0_1 a0_2 a0_3 a0_4 a0_5 a0_6 a0_7 A0_8 c0_8 l0_8 a1 w hr0_8 hc0_8 hsm g
  · rename_i g
    simp only [Prod.mk.injEq] at h
    obtain ⟨rfl, rfl, rfl, rfl, rfl, rfl, rfl, rfl, rfl, rfl⟩ := h
    exact turn_bad a0_0 a0_1 a0_2 a0_3 a0_4 a0_5 a0_6 a0_7 A0_8 c0_8 l0_8 a1 w hr0_8 hc0_8 g
end Go.Proofs.Ytkgdlbepjmgaiaa.Fea
namespace Go.Proofs.Ytkgdlbepjmgaiaa.Fea
open Go.RowKit Go.Proofs.YtkgdlbepjmgaiaaW.PrintWords Go.Proofs.YtkgdlbepjmgaiaaW.PrintLast Go.Proofs.YtkgdlbepjmgaiaaW.PrintMore
attribute [local go_sem] max2_int min2_int max_two min_two max_three min_three max_four min_four
set_option linter.unusedVariables false
set_option linter.unusedSimpArgs false
def metrolablaw18_Hole.f  : Option (ByteArray × Int × Int × Int × Int × Int × Int × Int × (List (S104))) := some ((⟨#[72]⟩ : ByteArray), 1, 2, 5000, 0, 0, 1000, 1011, ([] : List (S104)))
set_option maxHeartbeats 8000000 in
set_option maxRecDepth 100000 in
theorem metrolablaw18_Hole.calls  (r1 : ByteArray) (r2 : Int) (r3 : Int) (r4 : Int) (r5 : Int) (r6 : Int) (r7 : Int) (r8 : Int) (r9 : List (S104)) (w : World) (h : metrolablaw18_Hole.f  = some (r1, r2, r3, r4, r5, r6, r7, r8, r9)) :
    Calls Try.prog 67 #[] w fun e w' => ∃ v8_ : Value, e = .returned (.agg #[.string r1, .int .i64 r2, .int .i64 r3, .int .i64 r4, .int .i64 r5, .int .i64 r6, .int .i64 r7, .int .i64 r8, v8_]) ∧ Kd.S k104 104 w' w.heap.size (fun _ => True) v8_ r9 ∧ Below w.heap.size w w' := by
  have hu28 := Try.underlying28
  have hu23 := Try.underlying23
  have hu25 := Try.underlying25
  have HB := Aside0.mk (Below.refl w.heap.size w)
  have H : (some ((⟨#[72]⟩ : ByteArray), 1, 2, 5000, 0, 0, 1000, 1011, ([] : List (S104)))) = some (r1, r2, r3, r4, r5, r6, r7, r8, r9) := h
  clear h
  simp only [Option.some.injEq, Prod.mk.injEq] at H
  obtain ⟨rfl, rfl, rfl, rfl, rfl, rfl, rfl, rfl, rfl⟩ := H
  go_enter Try.func67, Try.ntmps67
  go_wp2_with (first | ((with_reducible refine gate_dst (N := 0) rfl ?_); refine box_event ?hg (N := 0) ?hd (cs := #[.string (⟨#[]⟩ : ByteArray), .int .i64 0, .int .i64 0, .int .i64 0, .int .i64 0, .int .i64 0, .int .i64 0, .int .i64 0, .slice none 0 0]) (t := 28) ?hr ?_; (case hd => rfl); (case hg => rfl); (case hr => first | (go_simp; done) | (go_simp; rfl)); intro gb150 hg w1 hbox hb; have n0_ := Aside0.mk (below_step (by repeat (first | (with_reducible first | exact HB.out | apply below_alloc | apply pw_below_drewN | apply below_drew1) | exact HB.out)) hb); have n1_ := Aside0.mk (hbox); have n2_ := Aside0.mk ((by rw [hg]; exact (below_size (by repeat (first | (with_reducible first | exact HB.out | apply below_alloc | apply pw_below_drewN | apply below_drew1) | exact HB.out))) : w.heap.size ≤ gb150)); have n3_ := Aside0.mk ((by rw [hg]; exact (below_size (by repeat (first | (with_reducible first | exact HB.out | apply below_alloc | apply pw_below_drewN | apply below_drew1) | exact HB.out))) : w.heap.size ≤ gb150)); clear HB; have HB := n0_; have BK150 := n1_; have GW150 := n2_; have GE150 := n3_; clear n0_ n1_ n2_ n3_; clear hb hbox hg; have hcz2_0 : w1.cell? ⟨gb150, 0, none⟩ = some (.string (⟨#[]⟩ : ByteArray)) := (blk_cell BK150.out 0).trans rfl; have hcz2_1 : w1.cell? ⟨gb150, 1, none⟩ = some (.int .i64 0) := (blk_cell BK150.out 1).trans rfl; have hcz2_2 : w1.cell? ⟨gb150, 2, none⟩ = some (.int .i64 0) := (blk_cell BK150.out 2).trans rfl; have hcz2_3 : w1.cell? ⟨gb150, 3, none⟩ = some (.int .i64 0) := (blk_cell BK150.out 3).trans rfl; have hcz2_4 : w1.cell? ⟨gb150, 4, none⟩ = some (.int .i64 0) := (blk_cell BK150.out 4).trans rfl; have hcz2_5 : w1.cell? ⟨gb150, 5, none⟩ = some (.int .i64 0) := (blk_cell BK150.out 5).trans rfl; have hcz2_6 : w1.cell? ⟨gb150, 6, none⟩ = some (.int .i64 0) := (blk_cell BK150.out 6).trans rfl; have hcz2_7 : w1.cell? ⟨gb150, 7, none⟩ = some (.int .i64 0) := (blk_cell BK150.out 7).trans rfl; have hcz2_8 : w1.cell? ⟨gb150, 8, none⟩ = some (.slice none 0 0) := (blk_cell BK150.out 8).trans rfl; have hfz2_0 := blk_frozen BK150.out 0; have hfz2_1 := blk_frozen BK150.out 1; have hfz2_2 := blk_frozen BK150.out 2; have hfz2_3 := blk_frozen BK150.out 3; have hfz2_4 := blk_frozen BK150.out 4; have hfz2_5 := blk_frozen BK150.out 5; have hfz2_6 := blk_frozen BK150.out 6; have hfz2_7 := blk_frozen BK150.out 7; have hfz2_8 := blk_frozen BK150.out 8))
  refine bodyPost_ret (results_cell_row rfl _ _ gb150 28 #[.string (⟨#[72]⟩ : ByteArray), .int .i64 1, .int .i64 2, .int .i64 5000, .int .i64 0, .int .i64 0, .int .i64 1000, .int .i64 1011, .slice none 0 0] (0, 0) _ rfl (by (with_reducible repeat (first | refine blk_drewN ?_ _ | refine blk_drew ?_ | refine blk_alloc ?_ _)); refine blk_put (cs := #[.string (⟨#[72]⟩ : ByteArray), .int .i64 1, .int .i64 2, .int .i64 5000, .int .i64 0, .int .i64 0, .int .i64 1000, .int .i64 1011, .slice none 0 0]) ?_ 8 _ rfl; (with_reducible repeat (first | refine blk_drewN ?_ _ | refine blk_drew ?_ | refine blk_alloc ?_ _)); refine blk_put (cs := #[.string (⟨#[72]⟩ : ByteArray), .int .i64 1, .int .i64 2, .int .i64 5000, .int .i64 0, .int .i64 0, .int .i64 1000, .int .i64 0, .slice none 0 0]) ?_ 7 _ rfl; (with_reducible repeat (first | refine blk_drewN ?_ _ | refine blk_drew ?_ | refine blk_alloc ?_ _)); refine blk_put (cs := #[.string (⟨#[72]⟩ : ByteArray), .int .i64 1, .int .i64 2, .int .i64 5000, .int .i64 0, .int .i64 0, .int .i64 0, .int .i64 0, .slice none 0 0]) ?_ 6 _ rfl; (with_reducible repeat (first | refine blk_drewN ?_ _ | refine blk_drew ?_ | refine blk_alloc ?_ _)); refine blk_put (cs := #[.string (⟨#[72]⟩ : ByteArray), .int .i64 1, .int .i64 2, .int .i64 5000, .int .i64 0, .int .i64 0, .int .i64 0, .int .i64 0, .slice none 0 0]) ?_ 5 _ rfl; (with_reducible repeat (first | refine blk_drewN ?_ _ | refine blk_drew ?_ | refine blk_alloc ?_ _)); refine blk_put (cs := #[.string (⟨#[72]⟩ : ByteArray), .int .i64 1, .int .i64 2, .int .i64 5000, .int .i64 0, .int .i64 0, .int .i64 0, .int .i64 0, .slice none 0 0]) ?_ 4 _ rfl; (with_reducible repeat (first | refine blk_drewN ?_ _ | refine blk_drew ?_ | refine blk_alloc ?_ _)); refine blk_put (cs := #[.string (⟨#[72]⟩ : ByteArray), .int .i64 1, .int .i64 2, .int .i64 0, .int .i64 0, .int .i64 0, .int .i64 0, .int .i64 0, .slice none 0 0]) ?_ 3 _ rfl; (with_reducible repeat (first | refine blk_drewN ?_ _ | refine blk_drew ?_ | refine blk_alloc ?_ _)); refine blk_put (cs := #[.string (⟨#[72]⟩ : ByteArray), .int .i64 1, .int .i64 0, .int .i64 0, .int .i64 0, .int .i64 0, .int .i64 0, .int .i64 0, .slice none 0 0]) ?_ 2 _ rfl; (with_reducible repeat (first | refine blk_drewN ?_ _ | refine blk_drew ?_ | refine blk_alloc ?_ _)); refine blk_put (cs := #[.string (⟨#[72]⟩ : ByteArray), .int .i64 0, .int .i64 0, .int .i64 0, .int .i64 0, .int .i64 0, .int .i64 0, .int .i64 0, .slice none 0 0]) ?_ 1 _ rfl; (with_reducible repeat (first | refine blk_drewN ?_ _ | refine blk_drew ?_ | refine blk_alloc ?_ _)); refine blk_put (cs := #[.string (⟨#[]⟩ : ByteArray), .int .i64 0, .int .i64 0, .int .i64 0, .int .i64 0, .int .i64 0, .int .i64 0, .int .i64 0, .slice none 0 0]) ?_ 0 _ rfl; (with_reducible repeat (first | refine blk_drewN ?_ _ | refine blk_drew ?_ | refine blk_alloc ?_ _)); exact BK150.out) Try.underlying28 rfl (by kernel_rfl)) rfl ?_
  exact ⟨_, by first | rfl | (simp [errW_none, errW_some] <;> rfl) | (simp [*, errW_none, errW_some] <;> rfl), by first | exact Kd.S_nil _ _ _ _ _ | exact Kd.N_nil _ _ _ _ _ | exact Kd.V_nil _ _ _ _ _ | exact Kd.Q_nil _ _ _ _ _ | exact Kd.R_nil _ _ _ _ _, by repeat (first | (with_reducible first | exact HB.out | apply below_alloc | apply pw_below_drewN | apply below_drew1 | refine below_set ?_ GE150.out) | exact HB.out)⟩
end Go.Proofs.Ytkgdlbepjmgaiaa.Fea
namespace Go.Proofs.Ytkgdlbepjmgaiaa.Fea
open Go.RowKit Go.Proofs.YtkgdlbepjmgaiaaW.PrintWords Go.Proofs.YtkgdlbepjmgaiaaW.PrintLast Go.Proofs.YtkgdlbepjmgaiaaW.PrintMore
attribute [local go_sem] max2_int min2_int max_two min_two max_three min_three max_four min_four
set_option linter.unusedVariables false
set_option linter.unusedSimpArgs false
attribute [local go_sem high] eqA23 eqA25
def awk0.f (k : Nat)  : Option (Bool) := (metrolablaw18_Hole.f).bind fun bt151 => ((feature_Maximum.f k bt151.1 bt151.2.1 bt151.2.2.1 bt151.2.2.2.1 bt151.2.2.2.2.1 bt151.2.2.2.2.2.1 bt151.2.2.2.2.2.2.1 bt151.2.2.2.2.2.2.2.1 bt151.2.2.2.2.2.2.2.2).bind fun bt162 => ((metrolablaw18_Hole.f).bind fun bt164 => ((feature_Reach.f k bt164.1 bt164.2.1 bt164.2.2.1 bt164.2.2.2.1 bt164.2.2.2.2.1 bt164.2.2.2.2.2.1 bt164.2.2.2.2.2.2.1 bt164.2.2.2.2.2.2.2.1 bt164.2.2.2.2.2.2.2.2 0).bind fun bt175 => ((metrolablaw18_Hole.f).bind fun bt179 => ((feature_Reach.f k bt179.1 bt179.2.1 bt179.2.2.1 bt179.2.2.2.1 bt179.2.2.2.2.1 bt179.2.2.2.2.2.1 bt179.2.2.2.2.2.2.1 bt179.2.2.2.2.2.2.2.1 bt179.2.2.2.2.2.2.2.2 2).bind fun bt190 => ((metrolablaw18_Hole.f).bind fun bt194 => ((feature_Turn.f bt194.1 bt194.2.1 bt194.2.2.1 bt194.2.2.2.1 bt194.2.2.2.2.1 bt194.2.2.2.2.2.1 bt194.2.2.2.2.2.2.1 bt194.2.2.2.2.2.2.2.1 bt194.2.2.2.2.2.2.2.2 2).bind fun bt205 => ((metrolablaw18_Hole.f).bind fun bt218 => ((feature_Turn.f bt218.1 bt218.2.1 bt218.2.2.1 bt218.2.2.2.1 bt218.2.2.2.2.1 bt218.2.2.2.2.2.1 bt218.2.2.2.2.2.2.1 bt218.2.2.2.2.2.2.2.1 bt218.2.2.2.2.2.2.2.2 0).bind fun bt229 => ((metrolablaw18_Hole.f).bind fun bt243 => ((feature_Separate.f k bt243.1 bt243.2.1 bt243.2.2.1 bt243.2.2.2.1 bt243.2.2.2.2.1 bt243.2.2.2.2.2.1 bt243.2.2.2.2.2.2.1 bt243.2.2.2.2.2.2.2.1 bt243.2.2.2.2.2.2.2.2 (⟨#[87]⟩ : ByteArray) 0 0 5507 0 0 0 0 ([] : List (S104))).bind fun bt254 => ((metrolablaw18_Hole.f).bind fun bt256 => ((feature_Separate.f k bt256.1 bt256.2.1 bt256.2.2.1 bt256.2.2.2.1 bt256.2.2.2.2.1 bt256.2.2.2.2.2.1 bt256.2.2.2.2.2.2.1 bt256.2.2.2.2.2.2.2.1 bt256.2.2.2.2.2.2.2.2 (⟨#[87]⟩ : ByteArray) 0 0 5506 0 0 0 0 ([] : List (S104))).bind fun bt267 => (if (wrap64 ((wrap64 ((wrap64 ((wrap64 ((wrap64 (bt162.2 + bt175.2.2)) + bt205.2.2.2.2.2.2.2.2.2)) + bt229.2.2.2.2.2.2.2.2.2)) + bt254.2)) + bt267.2)) = 0 then (if bt190.2.2 = 14 then (if bt162.1 = 1000 then (if bt254.1 = true then (if bt267.1 = true then (some false) else (if (bt175.1 == 4494 && (bt175.2.1 == 5506)) = true then (if (bt205.2.2.2.1 == 0 && (bt205.2.2.2.2.1 == 5000 && (bt205.2.2.2.2.2.1 == 0))) = true then (if bt205.2.2.1 = 2 then (if (bt229.2.2.2.1 == 5000 && (bt229.2.2.2.2.1 == 0 && (bt229.2.2.2.2.2.1 == 0))) = true then (some (bt229.2.2.1 == 1)) else (some false)) else (some false)) else (some false)) else (some false))) else (some false)) else (some false)) else (some false)) else (some false)))))))))))))))
theorem awk0.mono : ∀ k, LeO (awk0.f k ) (awk0.f (k + 1) ) := by
 intro  k
 unfold awk0.f
 repeat' first
  | (with_reducible exact feature_Maximum.mono _ _ _ _ _ _ _ _ _ _)
  | (with_reducible exact feature_Reach.mono _ _ _ _ _ _ _ _ _ _ _)
  | (with_reducible exact feature_Separate.mono _ _ _ _ _ _ _ _ _ _ _ _ _ _ _ _ _ _ _)
  | (with_reducible exact LeO.refl _)
  | (with_reducible exact LeO.none _)
  | (with_reducible refine LeO.ite ?_ ?_)
  | (with_reducible refine LeO.bind ?_ (fun _ => ?_))
  | exact feature_Maximum.mono _ _ _ _ _ _ _ _ _ _
  | exact feature_Reach.mono _ _ _ _ _ _ _ _ _ _ _
  | exact feature_Separate.mono _ _ _ _ _ _ _ _ _ _ _ _ _ _ _ _ _ _ _
  | exact LeO.none _
  | refine LeO.ite ?_ ?_
  | refine LeO.bind ?_ (fun _ => ?_)
def awk0.T7 : Bool × List (List Nat × List Nat) := (true, [([], []), ([], []), ([0, 1, 0], [0, 1]), ([2], [2]), ([3], [3]), ([3], [3]), ([4, 2, 0, 1, 2, 3, 4], [4]), ([5, 6, 0, 1, 2, 3, 4, 5, 6], [5])])
def awk0.B7 : List Nat := [0, 0, 3, 7, 15, 15, 31, 127]
theorem awk0.tab7 : rtab .any (opsOf Try.f18 7) = awk0.T7 := by kernel_rfl
theorem awk0.bits7 : waitsOk awk0.T7.2 awk0.B7 = true := by kernel_rfl
def awk0.T9 : Bool × List (List Nat × List Nat) := (true, [([], []), ([], []), ([0, 1, 0], [0, 1]), ([2], [2]), ([3], [3]), ([3], [3]), ([4, 2, 0, 1, 2, 3, 4], [4]), ([5, 6, 0, 1, 2, 3, 4, 5, 6], [5])])
def awk0.B9 : List Nat := [0, 0, 3, 7, 15, 15, 31, 127]
theorem awk0.tab9 : rtab .any (opsOf Try.f18 9) = awk0.T9 := by kernel_rfl
theorem awk0.bits9 : waitsOk awk0.T9.2 awk0.B9 = true := by kernel_rfl
set_option maxHeartbeats 8000000 in
set_option maxRecDepth 100000 in
theorem awk0.calls (k : Nat)  (r : Bool) (w : World) (hrt : r = true) (h : awk0.f k  = some r) :
 Calls Try.prog 18 #[] w fun e w' => e = .returned (.bool r) ∧ Below w.heap.size w w' := by
 have HRT := zm hrt
 clear hrt
 have hu25 := Try.underlying25
 have hu28 := Try.underlying28
 have hu23 := Try.underlying23
 have HB := zm (Below.refl w.heap.size w)
 have H : ((metrolablaw18_Hole.f).bind fun bt151 => ((feature_Maximum.f k bt151.1 bt151.2.1 bt151.2.2.1 bt151.2.2.2.1 bt151.2.2.2.2.1 bt151.2.2.2.2.2.1 bt151.2.2.2.2.2.2.1 bt151.2.2.2.2.2.2.2.1 bt151.2.2.2.2.2.2.2.2).bind fun bt162 => ((metrolablaw18_Hole.f).bind fun bt164 => ((feature_Reach.f k bt164.1 bt164.2.1 bt164.2.2.1 bt164.2.2.2.1 bt164.2.2.2.2.1 bt164.2.2.2.2.2.1 bt164.2.2.2.2.2.2.1 bt164.2.2.2.2.2.2.2.1 bt164.2.2.2.2.2.2.2.2 0).bind fun bt175 => ((metrolablaw18_Hole.f).bind fun bt179 => ((feature_Reach.f k bt179.1 bt179.2.1 bt179.2.2.1 bt179.2.2.2.1 bt179.2.2.2.2.1 bt179.2.2.2.2.2.1 bt179.2.2.2.2.2.2.1 bt179.2.2.2.2.2.2.2.1 bt179.2.2.2.2.2.2.2.2 2).bind fun bt190 => ((metrolablaw18_Hole.f).bind fun bt194 => ((feature_Turn.f bt194.1 bt194.2.1 bt194.2.2.1 bt194.2.2.2.1 bt194.2.2.2.2.1 bt194.2.2.2.2.2.1 bt194.2.2.2.2.2.2.1 bt194.2.2.2.2.2.2.2.1 bt194.2.2.2.2.2.2.2.2 2).bind fun bt205 => ((metrolablaw18_Hole.f).bind fun bt218 => ((feature_Turn.f bt218.1 bt218.2.1 bt218.2.2.1 bt218.2.2.2.1 bt218.2.2.2.2.1 bt218.2.2.2.2.2.1 bt218.2.2.2.2.2.2.1 bt218.2.2.2.2.2.2.2.1 bt218.2.2.2.2.2.2.2.2 0).bind fun bt229 => ((metrolablaw18_Hole.f).bind fun bt243 => ((feature_Separate.f k bt243.1 bt243.2.1 bt243.2.2.1 bt243.2.2.2.1 bt243.2.2.2.2.1 bt243.2.2.2.2.2.1 bt243.2.2.2.2.2.2.1 bt243.2.2.2.2.2.2.2.1 bt243.2.2.2.2.2.2.2.2 (⟨#[87]⟩ : ByteArray) 0 0 5507 0 0 0 0 ([] : List (S104))).bind fun bt254 => ((metrolablaw18_Hole.f).bind fun bt256 => ((feature_Separate.f k bt256.1 bt256.2.1 bt256.2.2.1 bt256.2.2.2.1 bt256.2.2.2.2.1 bt256.2.2.2.2.2.1 bt256.2.2.2.2.2.2.1 bt256.2.2.2.2.2.2.2.1 bt256.2.2.2.2.2.2.2.2 (⟨#[87]⟩ : ByteArray) 0 0 5506 0 0 0 0 ([] : List (S104))).bind fun bt267 => (if (wrap64 ((wrap64 ((wrap64 ((wrap64 ((wrap64 (bt162.2 + bt175.2.2)) + bt205.2.2.2.2.2.2.2.2.2)) + bt229.2.2.2.2.2.2.2.2.2)) + bt254.2)) + bt267.2)) = 0 then (if bt190.2.2 = 14 then (if bt162.1 = 1000 then (if bt254.1 = true then (if bt267.1 = true then (some false) else (if (bt175.1 == 4494 && (bt175.2.1 == 5506)) = true then (if (bt205.2.2.2.1 == 0 && (bt205.2.2.2.2.1 == 5000 && (bt205.2.2.2.2.2.1 == 0))) = true then (if bt205.2.2.1 = 2 then (if (bt229.2.2.2.1 == 5000 && (bt229.2.2.2.2.1 == 0 && (bt229.2.2.2.2.2.1 == 0))) = true then (some (bt229.2.2.1 == 1)) else (some false)) else (some false)) else (some false)) else (some false))) else (some false)) else (some false)) else (some false)) else (some false)))))))))))))))) = some r := h
 clear h
 replace H := Option.bind_eq_some_iff.mp H
 obtain ⟨⟨t151, t152, t153, t154, t155, t156, t157, t158, t159⟩, A10, H⟩ := H
 replace H : ((feature_Maximum.f k t151 t152 t153 t154 t155 t156 t157 t158 t159).bind fun bt162 => ((metrolablaw18_Hole.f).bind fun bt164 => ((feature_Reach.f k bt164.1 bt164.2.1 bt164.2.2.1 bt164.2.2.2.1 bt164.2.2.2.2.1 bt164.2.2.2.2.2.1 bt164.2.2.2.2.2.2.1 bt164.2.2.2.2.2.2.2.1 bt164.2.2.2.2.2.2.2.2 0).bind fun bt175 => ((metrolablaw18_Hole.f).bind fun bt179 => ((feature_Reach.f k bt179.1 bt179.2.1 bt179.2.2.1 bt179.2.2.2.1 bt179.2.2.2.2.1 bt179.2.2.2.2.2.1 bt179.2.2.2.2.2.2.1 bt179.2.2.2.2.2.2.2.1 bt179.2.2.2.2.2.2.2.2 2).bind fun bt190 => ((metrolablaw18_Hole.f).bind fun bt194 => ((feature_Turn.f bt194.1 bt194.2.1 bt194.2.2.1 bt194.2.2.2.1 bt194.2.2.2.2.1 bt194.2.2.2.2.2.1 bt194.2.2.2.2.2.2.1 bt194.2.2.2.2.2.2.2.1 bt194.2.2.2.2.2.2.2.2 2).bind fun bt205 => ((metrolablaw18_Hole.f).bind fun bt218 => ((feature_Turn.f bt218.1 bt218.2.1 bt218.2.2.1 bt218.2.2.2.1 bt218.2.2.2.2.1 bt218.2.2.2.2.2.1 bt218.2.2.2.2.2.2.1 bt218.2.2.2.2.2.2.2.1 bt218.2.2.2.2.2.2.2.2 0).bind fun bt229 => ((metrolablaw18_Hole.f).bind fun bt243 => ((feature_Separate.f k bt243.1 bt243.2.1 bt243.2.2.1 bt243.2.2.2.1 bt243.2.2.2.2.1 bt243.2.2.2.2.2.1 bt243.2.2.2.2.2.2.1 bt243.2.2.2.2.2.2.2.1 bt243.2.2.2.2.2.2.2.2 (⟨#[87]⟩ : ByteArray) 0 0 5507 0 0 0 0 ([] : List (S104))).bind fun bt254 => ((metrolablaw18_Hole.f).bind fun bt256 => ((feature_Separate.f k bt256.1 bt256.2.1 bt256.2.2.1 bt256.2.2.2.1 bt256.2.2.2.2.1 bt256.2.2.2.2.2.1 bt256.2.2.2.2.2.2.1 bt256.2.2.2.2.2.2.2.1 bt256.2.2.2.2.2.2.2.2 (⟨#[87]⟩ : ByteArray) 0 0 5506 0 0 0 0 ([] : List (S104))).bind fun bt267 => (if (wrap64 ((wrap64 ((wrap64 ((wrap64 ((wrap64 (bt162.2 + bt175.2.2)) + bt205.2.2.2.2.2.2.2.2.2)) + bt229.2.2.2.2.2.2.2.2.2)) + bt254.2)) + bt267.2)) = 0 then (if bt190.2.2 = 14 then (if bt162.1 = 1000 then (if bt254.1 = true then (if bt267.1 = true then (some false) else (if (bt175.1 == 4494 && (bt175.2.1 == 5506)) = true then (if (bt205.2.2.2.1 == 0 && (bt205.2.2.2.2.1 == 5000 && (bt205.2.2.2.2.2.1 == 0))) = true then (if bt205.2.2.1 = 2 then (if (bt229.2.2.2.1 == 5000 && (bt229.2.2.2.2.1 == 0 && (bt229.2.2.2.2.2.1 == 0))) = true then (some (bt229.2.2.1 == 1)) else (some false)) else (some false)) else (some false)) else (some false))) else (some false)) else (some false)) else (some false)) else (some false))))))))))))))) = some r := H
 have A1 := zm A10
 clear A10
 replace H := Option.bind_eq_some_iff.mp H
 obtain ⟨⟨t162, t163⟩, A20, H⟩ := H
 replace H : ((metrolablaw18_Hole.f).bind fun bt164 => ((feature_Reach.f k bt164.1 bt164.2.1 bt164.2.2.1 bt164.2.2.2.1 bt164.2.2.2.2.1 bt164.2.2.2.2.2.1 bt164.2.2.2.2.2.2.1 bt164.2.2.2.2.2.2.2.1 bt164.2.2.2.2.2.2.2.2 0).bind fun bt175 => ((metrolablaw18_Hole.f).bind fun bt179 => ((feature_Reach.f k bt179.1 bt179.2.1 bt179.2.2.1 bt179.2.2.2.1 bt179.2.2.2.2.1 bt179.2.2.2.2.2.1 bt179.2.2.2.2.2.2.1 bt179.2.2.2.2.2.2.2.1 bt179.2.2.2.2.2.2.2.2 2).bind fun bt190 => ((metrolablaw18_Hole.f).bind fun bt194 => ((feature_Turn.f bt194.1 bt194.2.1 bt194.2.2.1 bt194.2.2.2.1 bt194.2.2.2.2.1 bt194.2.2.2.2.2.1 bt194.2.2.2.2.2.2.1 bt194.2.2.2.2.2.2.2.1 bt194.2.2.2.2.2.2.2.2 2).bind fun bt205 => ((metrolablaw18_Hole.f).bind fun bt218 => ((feature_Turn.f bt218.1 bt218.2.1 bt218.2.2.1 bt218.2.2.2.1 bt218.2.2.2.2.1 bt218.2.2.2.2.2.1 bt218.2.2.2.2.2.2.1 bt218.2.2.2.2.2.2.2.1 bt218.2.2.2.2.2.2.2.2 0).bind fun bt229 => ((metrolablaw18_Hole.f).bind fun bt243 => ((feature_Separate.f k bt243.1 bt243.2.1 bt243.2.2.1 bt243.2.2.2.1 bt243.2.2.2.2.1 bt243.2.2.2.2.2.1 bt243.2.2.2.2.2.2.1 bt243.2.2.2.2.2.2.2.1 bt243.2.2.2.2.2.2.2.2 (⟨#[87]⟩ : ByteArray) 0 0 5507 0 0 0 0 ([] : List (S104))).bind fun bt254 => ((metrolablaw18_Hole.f).bind fun bt256 => ((feature_Separate.f k bt256.1 bt256.2.1 bt256.2.2.1 bt256.2.2.2.1 bt256.2.2.2.2.1 bt256.2.2.2.2.2.1 bt256.2.2.2.2.2.2.1 bt256.2.2.2.2.2.2.2.1 bt256.2.2.2.2.2.2.2.2 (⟨#[87]⟩ : ByteArray) 0 0 5506 0 0 0 0 ([] : List (S104))).bind fun bt267 => (if (wrap64 ((wrap64 ((wrap64 ((wrap64 ((wrap64 (t163 + bt175.2.2)) + bt205.2.2.2.2.2.2.2.2.2)) + bt229.2.2.2.2.2.2.2.2.2)) + bt254.2)) + bt267.2)) = 0 then (if bt190.2.2 = 14 then (if t162 = 1000 then (if bt254.1 = true then (if bt267.1 = true then (some false) else (if (bt175.1 == 4494 && (bt175.2.1 == 5506)) = true then (if (bt205.2.2.2.1 == 0 && (bt205.2.2.2.2.1 == 5000 && (bt205.2.2.2.2.2.1 == 0))) = true then (if bt205.2.2.1 = 2 then (if (bt229.2.2.2.1 == 5000 && (bt229.2.2.2.2.1 == 0 && (bt229.2.2.2.2.2.1 == 0))) = true then (some (bt229.2.2.1 == 1)) else (some false)) else (some false)) else (some false)) else (some false))) else (some false)) else (some false)) else (some false)) else (some false)))))))))))))) = some r := H
 have A2 := zm A20
 clear A20
 replace H := Option.bind_eq_some_iff.mp H
 obtain ⟨⟨t164, t165, t166, t167, t168, t169, t170, t171, t172⟩, A30, H⟩ := H
 replace H : ((feature_Reach.f k t164 t165 t166 t167 t168 t169 t170 t171 t172 0).bind fun bt175 => ((metrolablaw18_Hole.f).bind fun bt179 => ((feature_Reach.f k bt179.1 bt179.2.1 bt179.2.2.1 bt179.2.2.2.1 bt179.2.2.2.2.1 bt179.2.2.2.2.2.1 bt179.2.2.2.2.2.2.1 bt179.2.2.2.2.2.2.2.1 bt179.2.2.2.2.2.2.2.2 2).bind fun bt190 => ((metrolablaw18_Hole.f).bind fun bt194 => ((feature_Turn.f bt194.1 bt194.2.1 bt194.2.2.1 bt194.2.2.2.1 bt194.2.2.2.2.1 bt194.2.2.2.2.2.1 bt194.2.2.2.2.2.2.1 bt194.2.2.2.2.2.2.2.1 bt194.2.2.2.2.2.2.2.2 2).bind fun bt205 => ((metrolablaw18_Hole.f).bind fun bt218 => ((feature_Turn.f bt218.1 bt218.2.1 bt218.2.2.1 bt218.2.2.2.1 bt218.2.2.2.2.1 bt218.2.2.2.2.2.1 bt218.2.2.2.2.2.2.1 bt218.2.2.2.2.2.2.2.1 bt218.2.2.2.2.2.2.2.2 0).bind fun bt229 => ((metrolablaw18_Hole.f).bind fun bt243 => ((feature_Separate.f k bt243.1 bt243.2.1 bt243.2.2.1 bt243.2.2.2.1 bt243.2.2.2.2.1 bt243.2.2.2.2.2.1 bt243.2.2.2.2.2.2.1 bt243.2.2.2.2.2.2.2.1 bt243.2.2.2.2.2.2.2.2 (⟨#[87]⟩ : ByteArray) 0 0 5507 0 0 0 0 ([] : List (S104))).bind fun bt254 => ((metrolablaw18_Hole.f).bind fun bt256 => ((feature_Separate.f k bt256.1 bt256.2.1 bt256.2.2.1 bt256.2.2.2.1 bt256.2.2.2.2.1 bt256.2.2.2.2.2.1 bt256.2.2.2.2.2.2.1 bt256.2.2.2.2.2.2.2.1 bt256.2.2.2.2.2.2.2.2 (⟨#[87]⟩ : ByteArray) 0 0 5506 0 0 0 0 ([] : List (S104))).bind fun bt267 => (if (wrap64 ((wrap64 ((wrap64 ((wrap64 ((wrap64 (t163 + bt175.2.2)) + bt205.2.2.2.2.2.2.2.2.2)) + bt229.2.2.2.2.2.2.2.2.2)) + bt254.2)) + bt267.2)) = 0 then (if bt190.2.2 = 14 then (if t162 = 1000 then (if bt254.1 = true then (if bt267.1 = true then (some false) else (if (bt175.1 == 4494 && (bt175.2.1 == 5506)) = true then (if (bt205.2.2.2.1 == 0 && (bt205.2.2.2.2.1 == 5000 && (bt205.2.2.2.2.2.1 == 0))) = true then (if bt205.2.2.1 = 2 then (if (bt229.2.2.2.1 == 5000 && (bt229.2.2.2.2.1 == 0 && (bt229.2.2.2.2.2.1 == 0))) = true then (some (bt229.2.2.1 == 1)) else (some false)) else (some false)) else (some false)) else (some false))) else (some false)) else (some false)) else (some false)) else (some false))))))))))))) = some r := H
 have A3 := zm A30
 clear A30
 replace H := Option.bind_eq_some_iff.mp H
 obtain ⟨⟨t175, t176, t177⟩, A40, H⟩ := H
 replace H : ((metrolablaw18_Hole.f).bind fun bt179 => ((feature_Reach.f k bt179.1 bt179.2.1 bt179.2.2.1 bt179.2.2.2.1 bt179.2.2.2.2.1 bt179.2.2.2.2.2.1 bt179.2.2.2.2.2.2.1 bt179.2.2.2.2.2.2.2.1 bt179.2.2.2.2.2.2.2.2 2).bind fun bt190 => ((metrolablaw18_Hole.f).bind fun bt194 => ((feature_Turn.f bt194.1 bt194.2.1 bt194.2.2.1 bt194.2.2.2.1 bt194.2.2.2.2.1 bt194.2.2.2.2.2.1 bt194.2.2.2.2.2.2.1 bt194.2.2.2.2.2.2.2.1 bt194.2.2.2.2.2.2.2.2 2).bind fun bt205 => ((metrolablaw18_Hole.f).bind fun bt218 => ((feature_Turn.f bt218.1 bt218.2.1 bt218.2.2.1 bt218.2.2.2.1 bt218.2.2.2.2.1 bt218.2.2.2.2.2.1 bt218.2.2.2.2.2.2.1 bt218.2.2.2.2.2.2.2.1 bt218.2.2.2.2.2.2.2.2 0).bind fun bt229 => ((metrolablaw18_Hole.f).bind fun bt243 => ((feature_Separate.f k bt243.1 bt243.2.1 bt243.2.2.1 bt243.2.2.2.1 bt243.2.2.2.2.1 bt243.2.2.2.2.2.1 bt243.2.2.2.2.2.2.1 bt243.2.2.2.2.2.2.2.1 bt243.2.2.2.2.2.2.2.2 (⟨#[87]⟩ : ByteArray) 0 0 5507 0 0 0 0 ([] : List (S104))).bind fun bt254 => ((metrolablaw18_Hole.f).bind fun bt256 => ((feature_Separate.f k bt256.1 bt256.2.1 bt256.2.2.1 bt256.2.2.2.1 bt256.2.2.2.2.1 bt256.2.2.2.2.2.1 bt256.2.2.2.2.2.2.1 bt256.2.2.2.2.2.2.2.1 bt256.2.2.2.2.2.2.2.2 (⟨#[87]⟩ : ByteArray) 0 0 5506 0 0 0 0 ([] : List (S104))).bind fun bt267 => (if (wrap64 ((wrap64 ((wrap64 ((wrap64 ((wrap64 (t163 + t177)) + bt205.2.2.2.2.2.2.2.2.2)) + bt229.2.2.2.2.2.2.2.2.2)) + bt254.2)) + bt267.2)) = 0 then (if bt190.2.2 = 14 then (if t162 = 1000 then (if bt254.1 = true then (if bt267.1 = true then (some false) else (if (t175 == 4494 && (t176 == 5506)) = true then (if (bt205.2.2.2.1 == 0 && (bt205.2.2.2.2.1 == 5000 && (bt205.2.2.2.2.2.1 == 0))) = true then (if bt205.2.2.1 = 2 then (if (bt229.2.2.2.1 == 5000 && (bt229.2.2.2.2.1 == 0 && (bt229.2.2.2.2.2.1 == 0))) = true then (some (bt229.2.2.1 == 1)) else (some false)) else (some false)) else (some false)) else (some false))) else (some false)) else (some false)) else (some false)) else (some false)))))))))))) = some r := H
 have A4 := zm A40
 clear A40
 replace H := Option.bind_eq_some_iff.mp H
 obtain ⟨⟨t179, t180, t181, t182, t183, t184, t185, t186, t187⟩, A50, H⟩ := H
 replace H : ((feature_Reach.f k t179 t180 t181 t182 t183 t184 t185 t186 t187 2).bind fun bt190 => ((metrolablaw18_Hole.f).bind fun bt194 => ((feature_Turn.f bt194.1 bt194.2.1 bt194.2.2.1 bt194.2.2.2.1 bt194.2.2.2.2.1 bt194.2.2.2.2.2.1 bt194.2.2.2.2.2.2.1 bt194.2.2.2.2.2.2.2.1 bt194.2.2.2.2.2.2.2.2 2).bind fun bt205 => ((metrolablaw18_Hole.f).bind fun bt218 => ((feature_Turn.f bt218.1 bt218.2.1 bt218.2.2.1 bt218.2.2.2.1 bt218.2.2.2.2.1 bt218.2.2.2.2.2.1 bt218.2.2.2.2.2.2.1 bt218.2.2.2.2.2.2.2.1 bt218.2.2.2.2.2.2.2.2 0).bind fun bt229 => ((metrolablaw18_Hole.f).bind fun bt243 => ((feature_Separate.f k bt243.1 bt243.2.1 bt243.2.2.1 bt243.2.2.2.1 bt243.2.2.2.2.1 bt243.2.2.2.2.2.1 bt243.2.2.2.2.2.2.1 bt243.2.2.2.2.2.2.2.1 bt243.2.2.2.2.2.2.2.2 (⟨#[87]⟩ : ByteArray) 0 0 5507 0 0 0 0 ([] : List (S104))).bind fun bt254 => ((metrolablaw18_Hole.f).bind fun bt256 => ((feature_Separate.f k bt256.1 bt256.2.1 bt256.2.2.1 bt256.2.2.2.1 bt256.2.2.2.2.1 bt256.2.2.2.2.2.1 bt256.2.2.2.2.2.2.1 bt256.2.2.2.2.2.2.2.1 bt256.2.2.2.2.2.2.2.2 (⟨#[87]⟩ : ByteArray) 0 0 5506 0 0 0 0 ([] : List (S104))).bind fun bt267 => (if (wrap64 ((wrap64 ((wrap64 ((wrap64 ((wrap64 (t163 + t177)) + bt205.2.2.2.2.2.2.2.2.2)) + bt229.2.2.2.2.2.2.2.2.2)) + bt254.2)) + bt267.2)) = 0 then (if bt190.2.2 = 14 then (if t162 = 1000 then (if bt254.1 = true then (if bt267.1 = true then (some false) else (if (t175 == 4494 && (t176 == 5506)) = true then (if (bt205.2.2.2.1 == 0 && (bt205.2.2.2.2.1 == 5000 && (bt205.2.2.2.2.2.1 == 0))) = true then (if bt205.2.2.1 = 2 then (if (bt229.2.2.2.1 == 5000 && (bt229.2.2.2.2.1 == 0 && (bt229.2.2.2.2.2.1 == 0))) = true then (some (bt229.2.2.1 == 1)) else (some false)) else (some false)) else (some false)) else (some false))) else (some false)) else (some false)) else (some false)) else (some false))))))))))) = some r := H
 have A5 := zm A50
 clear A50
 replace H := Option.bind_eq_some_iff.mp H
 obtain ⟨⟨t190, t191, t192⟩, A60, H⟩ := H
 replace H : ((metrolablaw18_Hole.f).bind fun bt194 => ((feature_Turn.f bt194.1 bt194.2.1 bt194.2.2.1 bt194.2.2.2.1 bt194.2.2.2.2.1 bt194.2.2.2.2.2.1 bt194.2.2.2.2.2.2.1 bt194.2.2.2.2.2.2.2.1 bt194.2.2.2.2.2.2.2.2 2).bind fun bt205 => ((metrolablaw18_Hole.f).bind fun bt218 => ((feature_Turn.f bt218.1 bt218.2.1 bt218.2.2.1 bt218.2.2.2.1 bt218.2.2.2.2.1 bt218.2.2.2.2.2.1 bt218.2.2.2.2.2.2.1 bt218.2.2.2.2.2.2.2.1 bt218.2.2.2.2.2.2.2.2 0).bind fun bt229 => ((metrolablaw18_Hole.f).bind fun bt243 => ((feature_Separate.f k bt243.1 bt243.2.1 bt243.2.2.1 bt243.2.2.2.1 bt243.2.2.2.2.1 bt243.2.2.2.2.2.1 bt243.2.2.2.2.2.2.1 bt243.2.2.2.2.2.2.2.1 bt243.2.2.2.2.2.2.2.2 (⟨#[87]⟩ : ByteArray) 0 0 5507 0 0 0 0 ([] : List (S104))).bind fun bt254 => ((metrolablaw18_Hole.f).bind fun bt256 => ((feature_Separate.f k bt256.1 bt256.2.1 bt256.2.2.1 bt256.2.2.2.1 bt256.2.2.2.2.1 bt256.2.2.2.2.2.1 bt256.2.2.2.2.2.2.1 bt256.2.2.2.2.2.2.2.1 bt256.2.2.2.2.2.2.2.2 (⟨#[87]⟩ : ByteArray) 0 0 5506 0 0 0 0 ([] : List (S104))).bind fun bt267 => (if (wrap64 ((wrap64 ((wrap64 ((wrap64 ((wrap64 (t163 + t177)) + bt205.2.2.2.2.2.2.2.2.2)) + bt229.2.2.2.2.2.2.2.2.2)) + bt254.2)) + bt267.2)) = 0 then (if t192 = 14 then (if t162 = 1000 then (if bt254.1 = true then (if bt267.1 = true then (some false) else (if (t175 == 4494 && (t176 == 5506)) = true then (if (bt205.2.2.2.1 == 0 && (bt205.2.2.2.2.1 == 5000 && (bt205.2.2.2.2.2.1 == 0))) = true then (if bt205.2.2.1 = 2 then (if (bt229.2.2.2.1 == 5000 && (bt229.2.2.2.2.1 == 0 && (bt229.2.2.2.2.2.1 == 0))) = true then (some (bt229.2.2.1 == 1)) else (some false)) else (some false)) else (some false)) else (some false))) else (some false)) else (some false)) else (some false)) else (some false)))))))))) = some r := H
 have A6 := zm A60
 clear A60
 replace H := Option.bind_eq_some_iff.mp H
 obtain ⟨⟨t194, t195, t196, t197, t198, t199, t200, t201, t202⟩, A70, H⟩ := H
 replace H : ((feature_Turn.f t194 t195 t196 t197 t198 t199 t200 t201 t202 2).bind fun bt205 => ((metrolablaw18_Hole.f).bind fun bt218 => ((feature_Turn.f bt218.1 bt218.2.1 bt218.2.2.1 bt218.2.2.2.1 bt218.2.2.2.2.1 bt218.2.2.2.2.2.1 bt218.2.2.2.2.2.2.1 bt218.2.2.2.2.2.2.2.1 bt218.2.2.2.2.2.2.2.2 0).bind fun bt229 => ((metrolablaw18_Hole.f).bind fun bt243 => ((feature_Separate.f k bt243.1 bt243.2.1 bt243.2.2.1 bt243.2.2.2.1 bt243.2.2.2.2.1 bt243.2.2.2.2.2.1 bt243.2.2.2.2.2.2.1 bt243.2.2.2.2.2.2.2.1 bt243.2.2.2.2.2.2.2.2 (⟨#[87]⟩ : ByteArray) 0 0 5507 0 0 0 0 ([] : List (S104))).bind fun bt254 => ((metrolablaw18_Hole.f).bind fun bt256 => ((feature_Separate.f k bt256.1 bt256.2.1 bt256.2.2.1 bt256.2.2.2.1 bt256.2.2.2.2.1 bt256.2.2.2.2.2.1 bt256.2.2.2.2.2.2.1 bt256.2.2.2.2.2.2.2.1 bt256.2.2.2.2.2.2.2.2 (⟨#[87]⟩ : ByteArray) 0 0 5506 0 0 0 0 ([] : List (S104))).bind fun bt267 => (if (wrap64 ((wrap64 ((wrap64 ((wrap64 ((wrap64 (t163 + t177)) + bt205.2.2.2.2.2.2.2.2.2)) + bt229.2.2.2.2.2.2.2.2.2)) + bt254.2)) + bt267.2)) = 0 then (if t192 = 14 then (if t162 = 1000 then (if bt254.1 = true then (if bt267.1 = true then (some false) else (if (t175 == 4494 && (t176 == 5506)) = true then (if (bt205.2.2.2.1 == 0 && (bt205.2.2.2.2.1 == 5000 && (bt205.2.2.2.2.2.1 == 0))) = true then (if bt205.2.2.1 = 2 then (if (bt229.2.2.2.1 == 5000 && (bt229.2.2.2.2.1 == 0 && (bt229.2.2.2.2.2.1 == 0))) = true then (some (bt229.2.2.1 == 1)) else (some false)) else (some false)) else (some false)) else (some false))) else (some false)) else (some false)) else (some false)) else (some false))))))))) = some r := H
 have A7 := zm A70
 clear A70
 replace H := Option.bind_eq_some_iff.mp H
 obtain ⟨⟨t205, t206, t207, t208, t209, t210, t211, t212, t213, t216⟩, A80, H⟩ := H
 replace H : ((metrolablaw18_Hole.f).bind fun bt218 => ((feature_Turn.f bt218.1 bt218.2.1 bt218.2.2.1 bt218.2.2.2.1 bt218.2.2.2.2.1 bt218.2.2.2.2.2.1 bt218.2.2.2.2.2.2.1 bt218.2.2.2.2.2.2.2.1 bt218.2.2.2.2.2.2.2.2 0).bind fun bt229 => ((metrolablaw18_Hole.f).bind fun bt243 => ((feature_Separate.f k bt243.1 bt243.2.1 bt243.2.2.1 bt243.2.2.2.1 bt243.2.2.2.2.1 bt243.2.2.2.2.2.1 bt243.2.2.2.2.2.2.1 bt243.2.2.2.2.2.2.2.1 bt243.2.2.2.2.2.2.2.2 (⟨#[87]⟩ : ByteArray) 0 0 5507 0 0 0 0 ([] : List (S104))).bind fun bt254 => ((metrolablaw18_Hole.f).bind fun bt256 => ((feature_Separate.f k bt256.1 bt256.2.1 bt256.2.2.1 bt256.2.2.2.1 bt256.2.2.2.2.1 bt256.2.2.2.2.2.1 bt256.2.2.2.2.2.2.1 bt256.2.2.2.2.2.2.2.1 bt256.2.2.2.2.2.2.2.2 (⟨#[87]⟩ : ByteArray) 0 0 5506 0 0 0 0 ([] : List (S104))).bind fun bt267 => (if (wrap64 ((wrap64 ((wrap64 ((wrap64 ((wrap64 (t163 + t177)) + t216)) + bt229.2.2.2.2.2.2.2.2.2)) + bt254.2)) + bt267.2)) = 0 then (if t192 = 14 then (if t162 = 1000 then (if bt254.1 = true then (if bt267.1 = true then (some false) else (if (t175 == 4494 && (t176 == 5506)) = true then (if (t208 == 0 && (t209 == 5000 && (t210 == 0))) = true then (if t207 = 2 then (if (bt229.2.2.2.1 == 5000 && (bt229.2.2.2.2.1 == 0 && (bt229.2.2.2.2.2.1 == 0))) = true then (some (bt229.2.2.1 == 1)) else (some false)) else (some false)) else (some false)) else (some false))) else (some false)) else (some false)) else (some false)) else (some false)))))))) = some r := H
 have A8 := zm A80
 clear A80
 replace H := Option.bind_eq_some_iff.mp H
 obtain ⟨⟨t218, t219, t220, t221, t222, t223, t224, t225, t226⟩, A90, H⟩ := H
 replace H : ((feature_Turn.f t218 t219 t220 t221 t222 t223 t224 t225 t226 0).bind fun bt229 => ((metrolablaw18_Hole.f).bind fun bt243 => ((feature_Separate.f k bt243.1 bt243.2.1 bt243.2.2.1 bt243.2.2.2.1 bt243.2.2.2.2.1 bt243.2.2.2.2.2.1 bt243.2.2.2.2.2.2.1 bt243.2.2.2.2.2.2.2.1 bt243.2.2.2.2.2.2.2.2 (⟨#[87]⟩ : ByteArray) 0 0 5507 0 0 0 0 ([] : List (S104))).bind fun bt254 => ((metrolablaw18_Hole.f).bind fun bt256 => ((feature_Separate.f k bt256.1 bt256.2.1 bt256.2.2.1 bt256.2.2.2.1 bt256.2.2.2.2.1 bt256.2.2.2.2.2.1 bt256.2.2.2.2.2.2.1 bt256.2.2.2.2.2.2.2.1 bt256.2.2.2.2.2.2.2.2 (⟨#[87]⟩ : ByteArray) 0 0 5506 0 0 0 0 ([] : List (S104))).bind fun bt267 => (if (wrap64 ((wrap64 ((wrap64 ((wrap64 ((wrap64 (t163 + t177)) + t216)) + bt229.2.2.2.2.2.2.2.2.2)) + bt254.2)) + bt267.2)) = 0 then (if t192 = 14 then (if t162 = 1000 then (if bt254.1 = true then (if bt267.1 = true then (some false) else (if (t175 == 4494 && (t176 == 5506)) = true then (if (t208 == 0 && (t209 == 5000 && (t210 == 0))) = true then (if t207 = 2 then (if (bt229.2.2.2.1 == 5000 && (bt229.2.2.2.2.1 == 0 && (bt229.2.2.2.2.2.1 == 0))) = true then (some (bt229.2.2.1 == 1)) else (some false)) else (some false)) else (some false)) else (some false))) else (some false)) else (some false)) else (some false)) else (some false))))))) = some r := H
 have A9 := zm A90
 clear A90
 replace H := Option.bind_eq_some_iff.mp H
 obtain ⟨⟨t229, t230, t231, t232, t233, t234, t235, t236, t237, t240⟩, A100, H⟩ := H
 replace H : ((metrolablaw18_Hole.f).bind fun bt243 => ((feature_Separate.f k bt243.1 bt243.2.1 bt243.2.2.1 bt243.2.2.2.1 bt243.2.2.2.2.1 bt243.2.2.2.2.2.1 bt243.2.2.2.2.2.2.1 bt243.2.2.2.2.2.2.2.1 bt243.2.2.2.2.2.2.2.2 (⟨#[87]⟩ : ByteArray) 0 0 5507 0 0 0 0 ([] : List (S104))).bind fun bt254 => ((metrolablaw18_Hole.f).bind fun bt256 => ((feature_Separate.f k bt256.1 bt256.2.1 bt256.2.2.1 bt256.2.2.2.1 bt256.2.2.2.2.1 bt256.2.2.2.2.2.1 bt256.2.2.2.2.2.2.1 bt256.2.2.2.2.2.2.2.1 bt256.2.2.2.2.2.2.2.2 (⟨#[87]⟩ : ByteArray) 0 0 5506 0 0 0 0 ([] : List (S104))).bind fun bt267 => (if (wrap64 ((wrap64 ((wrap64 ((wrap64 ((wrap64 (t163 + t177)) + t216)) + t240)) + bt254.2)) + bt267.2)) = 0 then (if t192 = 14 then (if t162 = 1000 then (if bt254.1 = true then (if bt267.1 = true then (some false) else (if (t175 == 4494 && (t176 == 5506)) = true then (if (t208 == 0 && (t209 == 5000 && (t210 == 0))) = true then (if t207 = 2 then (if (t232 == 5000 && (t233 == 0 && (t234 == 0))) = true then (some (t231 == 1)) else (some false)) else (some false)) else (some false)) else (some false))) else (some false)) else (some false)) else (some false)) else (some false)))))) = some r := H
 have A10 := zm A100
 clear A100
 replace H := Option.bind_eq_some_iff.mp H
 obtain ⟨⟨t243, t244, t245, t246, t247, t248, t249, t250, t251⟩, A110, H⟩ := H
 replace H : ((feature_Separate.f k t243 t244 t245 t246 t247 t248 t249 t250 t251 (⟨#[87]⟩ : ByteArray) 0 0 5507 0 0 0 0 ([] : List (S104))).bind fun bt254 => ((metrolablaw18_Hole.f).bind fun bt256 => ((feature_Separate.f k bt256.1 bt256.2.1 bt256.2.2.1 bt256.2.2.2.1 bt256.2.2.2.2.1 bt256.2.2.2.2.2.1 bt256.2.2.2.2.2.2.1 bt256.2.2.2.2.2.2.2.1 bt256.2.2.2.2.2.2.2.2 (⟨#[87]⟩ : ByteArray) 0 0 5506 0 0 0 0 ([] : List (S104))).bind fun bt267 => (if (wrap64 ((wrap64 ((wrap64 ((wrap64 ((wrap64 (t163 + t177)) + t216)) + t240)) + bt254.2)) + bt267.2)) = 0 then (if t192 = 14 then (if t162 = 1000 then (if bt254.1 = true then (if bt267.1 = true then (some false) else (if (t175 == 4494 && (t176 == 5506)) = true then (if (t208 == 0 && (t209 == 5000 && (t210 == 0))) = true then (if t207 = 2 then (if (t232 == 5000 && (t233 == 0 && (t234 == 0))) = true then (some (t231 == 1)) else (some false)) else (some false)) else (some false)) else (some false))) else (some false)) else (some false)) else (some false)) else (some false))))) = some r := H
 have A11 := zm A110
 clear A110
 replace H := Option.bind_eq_some_iff.mp H
 obtain ⟨⟨t254, t255⟩, A120, H⟩ := H
 replace H : ((metrolablaw18_Hole.f).bind fun bt256 => ((feature_Separate.f k bt256.1 bt256.2.1 bt256.2.2.1 bt256.2.2.2.1 bt256.2.2.2.2.1 bt256.2.2.2.2.2.1 bt256.2.2.2.2.2.2.1 bt256.2.2.2.2.2.2.2.1 bt256.2.2.2.2.2.2.2.2 (⟨#[87]⟩ : ByteArray) 0 0 5506 0 0 0 0 ([] : List (S104))).bind fun bt267 => (if (wrap64 ((wrap64 ((wrap64 ((wrap64 ((wrap64 (t163 + t177)) + t216)) + t240)) + t255)) + bt267.2)) = 0 then (if t192 = 14 then (if t162 = 1000 then (if t254 = true then (if bt267.1 = true then (some false) else (if (t175 == 4494 && (t176 == 5506)) = true then (if (t208 == 0 && (t209 == 5000 && (t210 == 0))) = true then (if t207 = 2 then (if (t232 == 5000 && (t233 == 0 && (t234 == 0))) = true then (some (t231 == 1)) else (some false)) else (some false)) else (some false)) else (some false))) else (some false)) else (some false)) else (some false)) else (some false)))) = some r := H
 have A12 := zm A120
 clear A120
 replace H := Option.bind_eq_some_iff.mp H
 obtain ⟨⟨t256, t257, t258, t259, t260, t261, t262, t263, t264⟩, A130, H⟩ := H
 replace H : ((feature_Separate.f k t256 t257 t258 t259 t260 t261 t262 t263 t264 (⟨#[87]⟩ : ByteArray) 0 0 5506 0 0 0 0 ([] : List (S104))).bind fun bt267 => (if (wrap64 ((wrap64 ((wrap64 ((wrap64 ((wrap64 (t163 + t177)) + t216)) + t240)) + t255)) + bt267.2)) = 0 then (if t192 = 14 then (if t162 = 1000 then (if t254 = true then (if bt267.1 = true then (some false) else (if (t175 == 4494 && (t176 == 5506)) = true then (if (t208 == 0 && (t209 == 5000 && (t210 == 0))) = true then (if t207 = 2 then (if (t232 == 5000 && (t233 == 0 && (t234 == 0))) = true then (some (t231 == 1)) else (some false)) else (some false)) else (some false)) else (some false))) else (some false)) else (some false)) else (some false)) else (some false))) = some r := H
 have A13 := zm A130
 clear A130
 replace H := Option.bind_eq_some_iff.mp H
 obtain ⟨⟨t267, t268⟩, A140, H⟩ := H
 replace H : (if (wrap64 ((wrap64 ((wrap64 ((wrap64 ((wrap64 (t163 + t177)) + t216)) + t240)) + t255)) + t268)) = 0 then (if t192 = 14 then (if t162 = 1000 then (if t254 = true then (if t267 = true then (some false) else (if (t175 == 4494 && (t176 == 5506)) = true then (if (t208 == 0 && (t209 == 5000 && (t210 == 0))) = true then (if t207 = 2 then (if (t232 == 5000 && (t233 == 0 && (t234 == 0))) = true then (some (t231 == 1)) else (some false)) else (some false)) else (some false)) else (some false))) else (some false)) else (some false)) else (some false)) else (some false)) = some r := H
 have A14 := zm A140
 clear A140
 by_cases c15 : (wrap64 ((wrap64 ((wrap64 ((wrap64 ((wrap64 (t163 + t177)) + t216)) + t240)) + t255)) + t268)) = 0
 ·rw [if_pos c15] at H
  have c15b0 : ((wrap64 ((wrap64 ((wrap64 ((wrap64 ((wrap64 (t163 + t177)) + t216)) + t240)) + t255)) + t268)) == 0) = true := beq_iff_eq.mpr c15
  have c15b1 : ((wrap64 ((wrap64 ((wrap64 ((wrap64 ((wrap64 (t163 + t177)) + t216)) + t240)) + t255)) + t268)) != 0) = false := bne_eq_false_iff_eq.mpr c15
  clear c15
  by_cases c16 : t192 = 14
  ·rw [if_pos c16] at H
   have c16b0 : (t192 == 14) = true := beq_iff_eq.mpr c16
   have c16b1 : (t192 != 14) = false := bne_eq_false_iff_eq.mpr c16
   clear c16
   by_cases c17 : t162 = 1000
   ·rw [if_pos c17] at H
    have c17b0 : (t162 == 1000) = true := beq_iff_eq.mpr c17
    have c17b1 : (t162 != 1000) = false := bne_eq_false_iff_eq.mpr c17
    clear c17
    by_cases c18 : t254 = true
    ·subst c18
     have H1 : (if t267 = true then (some false) else (if (t175 == 4494 && (t176 == 5506)) = true then (if (t208 == 0 && (t209 == 5000 && (t210 == 0))) = true then (if t207 = 2 then (if (t232 == 5000 && (t233 == 0 && (t234 == 0))) = true then (some (t231 == 1)) else (some false)) else (some false)) else (some false)) else (some false))) = some r := by rw [if_pos rfl] at H; exact H
     clear H
     have H := H1
     clear H1
     by_cases c19 : t267 = true
     ·rw [if_pos c19] at H
      exact absurd ((Option.some.inj H).trans HRT.out) (by decide)
     ·replace c19 := Bool.eq_false_iff.mpr c19
      subst c19
      have H1 : (if (t175 == 4494 && (t176 == 5506)) = true then (if (t208 == 0 && (t209 == 5000 && (t210 == 0))) = true then (if t207 = 2 then (if (t232 == 5000 && (t233 == 0 && (t234 == 0))) = true then (some (t231 == 1)) else (some false)) else (some false)) else (some false)) else (some false)) = some r := by rw [if_neg (show ¬ (false = true) by decide)] at H; exact H
      clear H
      have H := H1
      clear H1
      by_cases c68 : (t175 == 4494 && (t176 == 5506)) = true
      ·rw [if_pos c68] at H
       have c68b0 : (t175 == 4494 && (t176 == 5506)) = true := c68
       (try (have c68b1 : decide (t175 = 4494 && (t176 == 5506)) = true := by simpa using c68))
       (try (have c68b2 : (t175 == 4494 && (t176 == 5506)) = true := by simpa using c68))
       clear c68
       by_cases c69 : (t208 == 0 && (t209 == 5000 && (t210 == 0))) = true
       ·rw [if_pos c69] at H
        have c69b0 : (t208 == 0 && (t209 == 5000 && (t210 == 0))) = true := c69
        (try (have c69b1 : decide (t208 = 0 && (t209 == 5000 && (t210 == 0))) = true := by simpa using c69))
        (try (have c69b2 : (t208 == 0 && (t209 == 5000 && (t210 == 0))) = true := by simpa using c69))
        clear c69
        by_cases c70 : t207 = 2
        ·rw [if_pos c70] at H
         have c70b0 : (t207 == 2) = true := beq_iff_eq.mpr c70
         have c70b1 : (t207 != 2) = false := bne_eq_false_iff_eq.mpr c70
         clear c70
         by_cases c71 : (t232 == 5000 && (t233 == 0 && (t234 == 0))) = true
         ·rw [if_pos c71] at H
          have c71b0 : (t232 == 5000 && (t233 == 0 && (t234 == 0))) = true := c71
          (try (have c71b1 : decide (t232 = 5000 && (t233 == 0 && (t234 == 0))) = true := by simpa using c71))
          (try (have c71b2 : (t232 == 5000 && (t233 == 0 && (t234 == 0))) = true := by simpa using c71))
          clear c71
          obtain rfl := Option.some.inj H
          go_enter Try.func18, Try.ntmps18
          try go_wp2_with (first | ((with_reducible refine gate_callee (f := 67) rfl ?_); refine goesL_ (some 17) rfl rfl Try.func67 (by kernel_rfl) rfl #[] rfl (by (try simp only [List.map_toArray, List.map_cons, List.map_nil]); first | done | rfl | (simp only [List.length_drop, List.length_take]; rfl)) ?_; (with_reducible refine (metrolablaw18_Hole.calls  t151 t152 t153 t154 t155 t156 t157 t158 t159 _ A1.out).mono ?_); rintro e w72 ⟨v160, rfl, ho0, hb⟩; refine ⟨_, rfl, ?_⟩; have n0_ := zm (Kd.S_lower ho0 (below_size (by repeat (first | (with_reducible first | exact HB.out | apply zA | apply zD | apply zE) | exact HB.out)))); have n1_ := zm (below_step (by repeat (first | (with_reducible first | exact HB.out | apply zA | apply zD | apply zE) | exact HB.out)) hb); clear HB; have HO161 := n0_; have HB := n1_; clear n0_ n1_; (try clear hb); (try clear hb2); (try clear hk); (try clear hi); (try clear ho0); obtain ⟨Ao73, co73, eo73⟩ := Kd.S_slice HO161.out; subst eo73) | ((with_reducible refine gate_callee (f := 25) rfl ?_); refine goesL_ (some 18) rfl rfl Try.func25 (by kernel_rfl) rfl #[.agg #[.string t151, .int .i64 t152, .int .i64 t153, .int .i64 t154, .int .i64 t155, .int .i64 t156, .int .i64 t157, .int .i64 t158, .slice Ao73 t159.length co73]] rfl (by (try simp only [List.map_toArray, List.map_cons, List.map_nil]); first | done | rfl | (simp only [List.length_drop, List.length_take]; rfl)) ?_; (with_reducible refine (feature_Maximum.calls k t151 t152 t153 t154 t155 t156 t157 t158 _ _ t159 t162 t163 _ ?side1 ?side2 A2.out).mono ?_); (case side1 => repeat (first | exact (Kd.S_reads' HO161.out).2.2 | (with_reducible refine Kd.C_alloc ?_ _) | (with_reducible refine Kd.C_drewN ?_ _) | (with_reducible refine Kd.C_drew ?_))); (case side2 => exact (Kd.S_reads' HO161.out).2.1); rintro e w74 ⟨rfl, hb⟩; refine ⟨_, rfl, ?_⟩; have n0_ := zm (Kd.S_below (by (with_reducible repeat (first | apply Kd.S_alloc | apply Kd.S_drewN | apply Kd.S_drew)); exact HO161.out) hb); have n1_ := zm (below_step (by repeat (first | (with_reducible first | exact HB.out | apply zA | apply zD | apply zE) | exact HB.out)) hb); clear HO161 HB; have HO161 := n0_; have HB := n1_; clear n0_ n1_; (try clear hb); (try clear hb2); (try clear hk); (try clear hi)) | ((with_reducible refine gate_callee (f := 67) rfl ?_); refine goesL_ (some 22) rfl rfl Try.func67 (by kernel_rfl) rfl #[] rfl (by (try simp only [List.map_toArray, List.map_cons, List.map_nil]); first | done | rfl | (simp only [List.length_drop, List.length_take]; rfl)) ?_; (with_reducible refine (metrolablaw18_Hole.calls  t164 t165 t166 t167 t168 t169 t170 t171 t172 _ A3.out).mono ?_); rintro e w75 ⟨v173, rfl, ho0, hb⟩; refine ⟨_, rfl, ?_⟩; have n0_ := zm (Kd.S_elder' (by (with_reducible repeat (first | apply Kd.S_alloc | apply Kd.S_drewN | apply Kd.S_drew)); exact HO161.out) (Kd.S_base ho0) hb); have n1_ := zm (Kd.S_lower (Kd.S_new' ho0 (Kd.S_lt (by (with_reducible repeat (first | apply Kd.S_alloc | apply Kd.S_drewN | apply Kd.S_drew)); exact HO161.out))) (below_size (by repeat (first | (with_reducible first | exact HB.out | apply zA | apply zD | apply zE) | exact HB.out)))); have n2_ := zm (below_step (by repeat (first | (with_reducible first | exact HB.out | apply zA | apply zD | apply zE) | exact HB.out)) hb); clear HO161 HB; have HO161 := n0_; have HO174 := n1_; have HB := n2_; clear n0_ n1_ n2_; (try clear hb); (try clear hb2); (try clear hk); (try clear hi); (try clear ho0); obtain ⟨Ao76, co76, eo76⟩ := Kd.S_slice HO174.out; subst eo76) | ((with_reducible refine gate_callee (f := 19) rfl ?_); refine goesL_ (some 23) rfl rfl Try.func19 (by kernel_rfl) rfl #[.agg #[.string t164, .int .i64 t165, .int .i64 t166, .int .i64 t167, .int .i64 t168, .int .i64 t169, .int .i64 t170, .int .i64 t171, .slice Ao76 t172.length co76], .int .i64 0] rfl (by (try simp only [List.map_toArray, List.map_cons, List.map_nil]); first | done | rfl | (simp only [List.length_drop, List.length_take]; rfl)) ?_; (with_reducible refine (feature_Reach.calls k t164 t165 t166 t167 t168 t169 t170 t171 _ _ t172 0 t175 t176 t177 _ ?side1 ?side2 A4.out).mono ?_); (case side1 => repeat (first | exact (Kd.S_reads' HO174.out).2.2 | (with_reducible refine Kd.C_alloc ?_ _) | (with_reducible refine Kd.C_drewN ?_ _) | (with_reducible refine Kd.C_drew ?_))); (case side2 => exact (Kd.S_reads' HO174.out).2.1); rintro e w77 ⟨rfl, hb⟩; refine ⟨_, rfl, ?_⟩; have n0_ := zm (Kd.S_below (by (with_reducible repeat (first | apply Kd.S_alloc | apply Kd.S_drewN | apply Kd.S_drew)); exact HO161.out) hb); have n1_ := zm (Kd.S_below (by (with_reducible repeat (first | apply Kd.S_alloc | apply Kd.S_drewN | apply Kd.S_drew)); exact HO174.out) hb); have n2_ := zm (below_step (by repeat (first | (with_reducible first | exact HB.out | apply zA | apply zD | apply zE) | exact HB.out)) hb); clear HO161 HO174 HB; have HO161 := n0_; have HO174 := n1_; have HB := n2_; clear n0_ n1_ n2_; (try clear hb); (try clear hb2); (try clear hk); (try clear hi)) | ((with_reducible refine gate_dst (N := 3) rfl ?_); refine box_event ?hg (N := 3) ?hd (cs := #[.int .i64 0, .int .i64 0]) (t := 25) ?hr ?_; (case hd => rfl); (case hg => rfl); (case hr => first | (go_simp; done) | (go_simp; rfl)); intro gb178 hg w78 hbox hb; have n0_ := zm (Kd.S_below (by (with_reducible repeat (first | apply Kd.S_alloc | apply Kd.S_drewN | apply Kd.S_drew)); exact HO161.out) hb); have n1_ := zm (Kd.S_below (by (with_reducible repeat (first | apply Kd.S_alloc | apply Kd.S_drewN | apply Kd.S_drew)); exact HO174.out) hb); have n2_ := zm (below_step (by repeat (first | (with_reducible first | exact HB.out | apply zA | apply zD | apply zE) | exact HB.out)) hb); have n3_ := zm (hbox); have n4_ := zm ((by rw [hg]; exact (below_size (by repeat (first | (with_reducible first | exact HB.out | apply zA | apply zD | apply zE) | exact HB.out))) : w.heap.size ≤ gb178)); have n5_ := zm ((by rw [hg]; exact (below_size (by repeat (first | (with_reducible first | exact HB.out | apply zA | apply zD | apply zE) | exact HB.out))) : w.heap.size ≤ gb178)); clear HO161 HO174 HB; have HO161 := n0_; have HO174 := n1_; have HB := n2_; have BK178 := n3_; have GW178 := n4_; have GE178 := n5_; clear n0_ n1_ n2_ n3_ n4_ n5_; clear hb hbox hg; have hcz79_0 := zc BK178.out 0 (.int .i64 0) rfl; have hcz79_1 := zc BK178.out 1 (.int .i64 0) rfl; have hfz79_0 := zf BK178.out 0; have hfz79_1 := zf BK178.out 1) | ((with_reducible refine gate_callee (f := 67) rfl ?_); refine goesL_ (some 27) rfl rfl Try.func67 (by kernel_rfl) rfl #[] rfl (by (try simp only [List.map_toArray, List.map_cons, List.map_nil]); first | done | rfl | (simp only [List.length_drop, List.length_take]; rfl)) ?_; (with_reducible refine (metrolablaw18_Hole.calls  t179 t180 t181 t182 t183 t184 t185 t186 t187 _ A5.out).mono ?_); rintro e w80 ⟨v188, rfl, ho0, hb⟩; refine ⟨_, rfl, ?_⟩; have n0_ := zm (Kd.S_elder' (by (with_reducible repeat (first | apply Kd.S_alloc | apply Kd.S_drewN | apply Kd.S_drew)); exact (Kd.S_mono (Kd.S_far (p := ⟨gb178, 1, none⟩) (Kd.S_far (p := ⟨gb178, 0, none⟩) (Kd.S_types HO161.out BK178.out (by decide)) (fun _ hk => hk.2) (.int .i64 t175)) (fun _ hk => hk.2) (.int .i64 t176)) (fun _ h_ => h_.1))) (Kd.S_base ho0) hb); have n1_ := zm (Kd.S_elder' (by (with_reducible repeat (first | apply Kd.S_alloc | apply Kd.S_drewN | apply Kd.S_drew)); exact (Kd.S_mono (Kd.S_far (p := ⟨gb178, 1, none⟩) (Kd.S_far (p := ⟨gb178, 0, none⟩) (Kd.S_types HO174.out BK178.out (by decide)) (fun _ hk => hk.2) (.int .i64 t175)) (fun _ hk => hk.2) (.int .i64 t176)) (fun _ h_ => h_.1))) (Kd.S_base ho0) hb); have n2_ := zm (Kd.S_lower (Kd.S_new' (Kd.S_new' ho0 (Kd.S_lt (by (with_reducible repeat (first | apply Kd.S_alloc | apply Kd.S_drewN | apply Kd.S_drew)); exact (Kd.S_mono (Kd.S_far (p := ⟨gb178, 1, none⟩) (Kd.S_far (p := ⟨gb178, 0, none⟩) (Kd.S_types HO161.out BK178.out (by decide)) (fun _ hk => hk.2) (.int .i64 t175)) (fun _ hk => hk.2) (.int .i64 t176)) (fun _ h_ => h_.1))))) (Kd.S_lt (by (with_reducible repeat (first | apply Kd.S_alloc | apply Kd.S_drewN | apply Kd.S_drew)); exact (Kd.S_mono (Kd.S_far (p := ⟨gb178, 1, none⟩) (Kd.S_far (p := ⟨gb178, 0, none⟩) (Kd.S_types HO174.out BK178.out (by decide)) (fun _ hk => hk.2) (.int .i64 t175)) (fun _ hk => hk.2) (.int .i64 t176)) (fun _ h_ => h_.1))))) (below_size (by repeat (first | (with_reducible first | exact HB.out | apply zA | apply zD | apply zE | refine zS ?_ GE178.out) | exact HB.out)))); have n3_ := zm (zb (g := gb178) (o := .cells #[.int .i64 t175, .int .i64 t176] 25 (0, 0)) (by (with_reducible repeat first | apply zd | apply ze | apply za); refine blk_put (cs := #[.int .i64 t175, .int .i64 0]) ?_ 1 _ rfl; (with_reducible repeat first | apply zd | apply ze | apply za); refine blk_put (cs := #[.int .i64 0, .int .i64 0]) ?_ 0 _ rfl; (with_reducible repeat first | apply zd | apply ze | apply za); exact BK178.out) hb); have n4_ := zm (below_step (by repeat (first | (with_reducible first | exact HB.out | apply zA | apply zD | apply zE | refine zS ?_ GE178.out) | exact HB.out)) hb); clear HO161 HO174 BK178 HB; have HO161 := n0_; have HO174 := n1_; have HO189 := n2_; have BK178 := n3_; have HB := n4_; clear n0_ n1_ n2_ n3_ n4_; (try clear hb); (try clear hb2); (try clear hk); (try clear hi); (try clear ho0); obtain ⟨Ao81, co81, eo81⟩ := Kd.S_slice HO189.out; subst eo81) | ((with_reducible refine gate_callee (f := 19) rfl ?_); refine goesL_ (some 28) rfl rfl Try.func19 (by kernel_rfl) rfl #[.agg #[.string t179, .int .i64 t180, .int .i64 t181, .int .i64 t182, .int .i64 t183, .int .i64 t184, .int .i64 t185, .int .i64 t186, .slice Ao81 t187.length co81], .int .i64 2] rfl (by (try simp only [List.map_toArray, List.map_cons, List.map_nil]); first | done | rfl | (simp only [List.length_drop, List.length_take]; rfl)) ?_; (with_reducible refine (feature_Reach.calls k t179 t180 t181 t182 t183 t184 t185 t186 _ _ t187 2 t190 t191 t192 _ ?side1 ?side2 A6.out).mono ?_); (case side1 => repeat (first | exact (Kd.S_reads' HO189.out).2.2 | (with_reducible refine Kd.C_alloc ?_ _) | (with_reducible refine Kd.C_drewN ?_ _) | (with_reducible refine Kd.C_drew ?_))); (case side2 => exact (Kd.S_reads' HO189.out).2.1); rintro e w82 ⟨rfl, hb⟩; refine ⟨_, rfl, ?_⟩; have n0_ := zm (Kd.S_below (by (with_reducible repeat (first | apply Kd.S_alloc | apply Kd.S_drewN | apply Kd.S_drew)); exact HO161.out) hb); have n1_ := zm (Kd.S_below (by (with_reducible repeat (first | apply Kd.S_alloc | apply Kd.S_drewN | apply Kd.S_drew)); exact HO174.out) hb); have n2_ := zm (Kd.S_below (by (with_reducible repeat (first | apply Kd.S_alloc | apply Kd.S_drewN | apply Kd.S_drew)); exact HO189.out) hb); have n3_ := zm (zb (g := gb178) (o := .cells #[.int .i64 t175, .int .i64 t176] 25 (0, 0)) (by (with_reducible repeat first | apply zd | apply ze | apply za); exact BK178.out) hb); have n4_ := zm (below_step (by repeat (first | (with_reducible first | exact HB.out | apply zA | apply zD | apply zE | refine zS ?_ GE178.out) | exact HB.out)) hb); clear HO161 HO174 HO189 BK178 HB; have HO161 := n0_; have HO174 := n1_; have HO189 := n2_; have BK178 := n3_; have HB := n4_; clear n0_ n1_ n2_ n3_ n4_; (try clear hb); (try clear hb2); (try clear hk); (try clear hi)) | ((with_reducible refine gate_dst (N := 5) rfl ?_); refine box_event ?hg (N := 5) ?hd (cs := #[.int .i64 0, .int .i64 0]) (t := 25) ?hr ?_; (case hd => rfl); (case hg => rfl); (case hr => first | (go_simp; done) | (go_simp; rfl)); intro gb193 hg w83 hbox hb; have n0_ := zm (Kd.S_below (by (with_reducible repeat (first | apply Kd.S_alloc | apply Kd.S_drewN | apply Kd.S_drew)); exact HO161.out) hb); have n1_ := zm (Kd.S_below (by (with_reducible repeat (first | apply Kd.S_alloc | apply Kd.S_drewN | apply Kd.S_drew)); exact HO174.out) hb); have n2_ := zm (Kd.S_below (by (with_reducible repeat (first | apply Kd.S_alloc | apply Kd.S_drewN | apply Kd.S_drew)); exact HO189.out) hb); have n3_ := zm (zb (g := gb178) (o := .cells #[.int .i64 t175, .int .i64 t176] 25 (0, 0)) (by (with_reducible repeat first | apply zd | apply ze | apply za); exact BK178.out) hb); have n4_ := zm (below_step (by repeat (first | (with_reducible first | exact HB.out | apply zA | apply zD | apply zE | refine zS ?_ GE178.out) | exact HB.out)) hb); have n5_ := zm (hbox); have n6_ := zm ((by rw [hg]; exact (below_size (by repeat (first | (with_reducible first | exact HB.out | apply zA | apply zD | apply zE | refine zS ?_ GE178.out) | exact HB.out))) : w.heap.size ≤ gb193)); have n7_ := zm ((by rw [hg]; exact (below_size (by repeat (first | (with_reducible first | exact HB.out | apply zA | apply zD | apply zE | refine zS ?_ GE178.out) | exact HB.out))) : w.heap.size ≤ gb193)); have n8_ := zm ((by rw [hg]; exact Nat.ne_of_lt (blk_lt (g := gb178) (o := .cells #[.int .i64 t175, .int .i64 t176] 25 (0, 0)) (by (with_reducible repeat first | apply zd | apply ze | apply za); exact BK178.out)) : gb178 ≠ gb193)); have n9_ := zm ((by rw [hg]; exact Nat.ne_of_gt (blk_lt (g := gb178) (o := .cells #[.int .i64 t175, .int .i64 t176] 25 (0, 0)) (by (with_reducible repeat first | apply zd | apply ze | apply za); exact BK178.out)) : gb193 ≠ gb178)); clear HO161 HO174 HO189 BK178 HB; have HO161 := n0_; have HO174 := n1_; have HO189 := n2_; have BK178 := n3_; have HB := n4_; have BK193 := n5_; have GW193 := n6_; have GE193 := n7_; have NB178_193 := n8_; have NB193_178 := n9_; clear n0_ n1_ n2_ n3_ n4_ n5_ n6_ n7_ n8_ n9_; clear hb hbox hg; have hnb84 := NB193_178.out; have hnc84 := NB178_193.out; have hcz85_0 := zc BK193.out 0 (.int .i64 0) rfl; have hcz85_1 := zc BK193.out 1 (.int .i64 0) rfl; have hfz85_0 := zf BK193.out 0; have hfz85_1 := zf BK193.out 1) | ((with_reducible refine gate_callee (f := 67) rfl ?_); refine goesL_ (some 32) rfl rfl Try.func67 (by kernel_rfl) rfl #[] rfl (by (try simp only [List.map_toArray, List.map_cons, List.map_nil]); first | done | rfl | (simp only [List.length_drop, List.length_take]; rfl)) ?_; (with_reducible refine (metrolablaw18_Hole.calls  t194 t195 t196 t197 t198 t199 t200 t201 t202 _ A7.out).mono ?_); rintro e w86 ⟨v203, rfl, ho0, hb⟩; refine ⟨_, rfl, ?_⟩; have n0_ := zm (Kd.S_elder' (by (with_reducible repeat (first | apply Kd.S_alloc | apply Kd.S_drewN | apply Kd.S_drew)); exact (Kd.S_mono (Kd.S_far (p := ⟨gb193, 1, none⟩) (Kd.S_far (p := ⟨gb193, 0, none⟩) (Kd.S_types HO161.out BK193.out (by decide)) (fun _ hk => hk.2) (.int .i64 t190)) (fun _ hk => hk.2) (.int .i64 t191)) (fun _ h_ => h_.1))) (Kd.S_base ho0) hb); have n1_ := zm (Kd.S_elder' (by (with_reducible repeat (first | apply Kd.S_alloc | apply Kd.S_drewN | apply Kd.S_drew)); exact (Kd.S_mono (Kd.S_far (p := ⟨gb193, 1, none⟩) (Kd.S_far (p := ⟨gb193, 0, none⟩) (Kd.S_types HO174.out BK193.out (by decide)) (fun _ hk => hk.2) (.int .i64 t190)) (fun _ hk => hk.2) (.int .i64 t191)) (fun _ h_ => h_.1))) (Kd.S_base ho0) hb); have n2_ := zm (Kd.S_elder' (by (with_reducible repeat (first | apply Kd.S_alloc | apply Kd.S_drewN | apply Kd.S_drew)); exact (Kd.S_mono (Kd.S_far (p := ⟨gb193, 1, none⟩) (Kd.S_far (p := ⟨gb193, 0, none⟩) (Kd.S_types HO189.out BK193.out (by decide)) (fun _ hk => hk.2) (.int .i64 t190)) (fun _ hk => hk.2) (.int .i64 t191)) (fun _ h_ => h_.1))) (Kd.S_base ho0) hb); have n3_ := zm (Kd.S_lower (Kd.S_new' (Kd.S_new' (Kd.S_new' ho0 (Kd.S_lt (by (with_reducible repeat (first | apply Kd.S_alloc | apply Kd.S_drewN | apply Kd.S_drew)); exact (Kd.S_mono (Kd.S_far (p := ⟨gb193, 1, none⟩) (Kd.S_far (p := ⟨gb193, 0, none⟩) (Kd.S_types HO161.out BK193.out (by decide)) (fun _ hk => hk.2) (.int .i64 t190)) (fun _ hk => hk.2) (.int .i64 t191)) (fun _ h_ => h_.1))))) (Kd.S_lt (by (with_reducible repeat (first | apply Kd.S_alloc | apply Kd.S_drewN | apply Kd.S_drew)); exact (Kd.S_mono (Kd.S_far (p := ⟨gb193, 1, none⟩) (Kd.S_far (p := ⟨gb193, 0, none⟩) (Kd.S_types HO174.out BK193.out (by decide)) (fun _ hk => hk.2) (.int .i64 t190)) (fun _ hk => hk.2) (.int .i64 t191)) (fun _ h_ => h_.1))))) (Kd.S_lt (by (with_reducible repeat (first | apply Kd.S_alloc | apply Kd.S_drewN | apply Kd.S_drew)); exact (Kd.S_mono (Kd.S_far (p := ⟨gb193, 1, none⟩) (Kd.S_far (p := ⟨gb193, 0, none⟩) (Kd.S_types HO189.out BK193.out (by decide)) (fun _ hk => hk.2) (.int .i64 t190)) (fun _ hk => hk.2) (.int .i64 t191)) (fun _ h_ => h_.1))))) (below_size (by repeat (first | (with_reducible first | exact HB.out | apply zA | apply zD | apply zE | refine zS ?_ GE178.out | refine zS ?_ GE193.out) | exact HB.out)))); have n4_ := zm (zb (g := gb178) (o := .cells #[.int .i64 t175, .int .i64 t176] 25 (0, 0)) (by (with_reducible repeat first | apply zd | apply ze | apply za); refine blk_far ?_ NB178_193.out _; (with_reducible repeat first | apply zd | apply ze | apply za); refine blk_far ?_ NB178_193.out _; (with_reducible repeat first | apply zd | apply ze | apply za); exact BK178.out) hb); have n5_ := zm (zb (g := gb193) (o := .cells #[.int .i64 t190, .int .i64 t191] 25 (0, 0)) (by (with_reducible repeat first | apply zd | apply ze | apply za); refine blk_put (cs := #[.int .i64 t190, .int .i64 0]) ?_ 1 _ rfl; (with_reducible repeat first | apply zd | apply ze | apply za); refine blk_put (cs := #[.int .i64 0, .int .i64 0]) ?_ 0 _ rfl; (with_reducible repeat first | apply zd | apply ze | apply za); exact BK193.out) hb); have n6_ := zm (below_step (by repeat (first | (with_reducible first | exact HB.out | apply zA | apply zD | apply zE | refine zS ?_ GE178.out | refine zS ?_ GE193.out) | exact HB.out)) hb); clear HO161 HO174 HO189 BK178 BK193 HB; have HO161 := n0_; have HO174 := n1_; have HO189 := n2_; have HO204 := n3_; have BK178 := n4_; have BK193 := n5_; have HB := n6_; clear n0_ n1_ n2_ n3_ n4_ n5_ n6_; (try clear hb); (try clear hb2); (try clear hk); (try clear hi); (try clear ho0); obtain ⟨Ao87, co87, eo87⟩ := Kd.S_slice HO204.out; subst eo87) | ((with_reducible refine gate_callee (f := 46) rfl ?_); refine goesL_ (some 33) rfl rfl Try.func46 (by kernel_rfl) rfl #[.agg #[.string t194, .int .i64 t195, .int .i64 t196, .int .i64 t197, .int .i64 t198, .int .i64 t199, .int .i64 t200, .int .i64 t201, .slice Ao87 t202.length co87], .int .i64 2] rfl (by (try simp only [List.map_toArray, List.map_cons, List.map_nil]); first | done | rfl | (simp only [List.length_drop, List.length_take]; rfl)) ?_; (with_reducible refine (feature_Turn.calls t194 t195 t196 t197 t198 t199 t200 t201 _ _ t202 2 t205 t206 t207 t208 t209 t210 t211 t212 t213 t216 _ ?side1 ?side2 A8.out).mono ?_); (case side1 => repeat (first | exact (Kd.S_reads' HO204.out).2.2 | (with_reducible refine Kd.C_alloc ?_ _) | (with_reducible refine Kd.C_drewN ?_ _) | (with_reducible refine Kd.C_drew ?_))); (case side2 => exact (Kd.S_reads' HO204.out).2.1); rintro e w88 ⟨v214, rfl, ho0, hb⟩; refine ⟨_, rfl, ?_⟩; have n0_ := zm (Kd.S_below (by (with_reducible repeat (first | apply Kd.S_alloc | apply Kd.S_drewN | apply Kd.S_drew)); exact HO161.out) hb); have n1_ := zm (Kd.S_below (by (with_reducible repeat (first | apply Kd.S_alloc | apply Kd.S_drewN | apply Kd.S_drew)); exact HO174.out) hb); have n2_ := zm (Kd.S_below (by (with_reducible repeat (first | apply Kd.S_alloc | apply Kd.S_drewN | apply Kd.S_drew)); exact HO189.out) hb); have n3_ := zm (Kd.S_below (by (with_reducible repeat (first | apply Kd.S_alloc | apply Kd.S_drewN | apply Kd.S_drew)); exact HO204.out) hb); have n4_ := zm (Kd.V_lower (Kd.V_mono (ok' := fun k_ => some k_ ≠ (.slice Ao73 t159.length co73 : Value).ownBlock ∧ some k_ ≠ (.slice Ao76 t172.length co76 : Value).ownBlock ∧ some k_ ≠ (.slice Ao81 t187.length co81 : Value).ownBlock ∧ some k_ ≠ (.slice Ao87 t202.length co87 : Value).ownBlock ∧ k_ ≠ gb178 ∧ k_ ≠ gb193) ho0 (fun k_ hk_ => ⟨(Kd.fresh' (Kd.S_lt (by (with_reducible repeat (first | apply Kd.S_alloc | apply Kd.S_drewN | apply Kd.S_drew)); exact HO161.out)) k_ hk_), (Kd.fresh' (Kd.S_lt (by (with_reducible repeat (first | apply Kd.S_alloc | apply Kd.S_drewN | apply Kd.S_drew)); exact HO174.out)) k_ hk_), (Kd.fresh' (Kd.S_lt (by (with_reducible repeat (first | apply Kd.S_alloc | apply Kd.S_drewN | apply Kd.S_drew)); exact HO189.out)) k_ hk_), (Kd.fresh' (Kd.S_lt (by (with_reducible repeat (first | apply Kd.S_alloc | apply Kd.S_drewN | apply Kd.S_drew)); exact HO204.out)) k_ hk_), (Kd.freshB (g := gb178) (o := .cells #[.int .i64 t175, .int .i64 t176] 25 (0, 0)) (by (with_reducible repeat first | apply zd | apply ze | apply za); exact BK178.out) k_ hk_), (Kd.freshB (g := gb193) (o := .cells #[.int .i64 t190, .int .i64 t191] 25 (0, 0)) (by (with_reducible repeat first | apply zd | apply ze | apply za); exact BK193.out) k_ hk_)⟩)) (below_size (by repeat (first | (with_reducible first | exact HB.out | apply zA | apply zD | apply zE | refine zS ?_ GE178.out | refine zS ?_ GE193.out) | exact HB.out)))); have n5_ := zm (zb (g := gb178) (o := .cells #[.int .i64 t175, .int .i64 t176] 25 (0, 0)) (by (with_reducible repeat first | apply zd | apply ze | apply za); exact BK178.out) hb); have n6_ := zm (zb (g := gb193) (o := .cells #[.int .i64 t190, .int .i64 t191] 25 (0, 0)) (by (with_reducible repeat first | apply zd | apply ze | apply za); exact BK193.out) hb); have n7_ := zm (below_step (by repeat (first | (with_reducible first | exact HB.out | apply zA | apply zD | apply zE | refine zS ?_ GE178.out | refine zS ?_ GE193.out) | exact HB.out)) hb); clear HO161 HO174 HO189 HO204 BK178 BK193 HB; have HO161 := n0_; have HO174 := n1_; have HO189 := n2_; have HO204 := n3_; have HO215 := n4_; have BK178 := n5_; have BK193 := n6_; have HB := n7_; clear n0_ n1_ n2_ n3_ n4_ n5_ n6_ n7_; (try clear hb); (try clear hb2); (try clear hk); (try clear hi); (try clear ho0)) | ((with_reducible refine gate_dst (N := 7) rfl ?_); refine box_event ?hg (N := 7) ?hd (cs := #[.string (⟨#[]⟩ : ByteArray), .int .i64 0, .int .i64 0, .int .i64 0, .int .i64 0, .int .i64 0, .int .i64 0, .int .i64 0, .slice none 0 0]) (t := 28) ?hr ?_; (case hd => rfl); (case hg => rfl); (case hr => first | (go_simp; done) | (go_simp; rfl)); intro gb217 hg w89 hbox hb; have n0_ := zm (Kd.S_below (by (with_reducible repeat (first | apply Kd.S_alloc | apply Kd.S_drewN | apply Kd.S_drew)); exact HO161.out) hb); have n1_ := zm (Kd.S_below (by (with_reducible repeat (first | apply Kd.S_alloc | apply Kd.S_drewN | apply Kd.S_drew)); exact HO174.out) hb); have n2_ := zm (Kd.S_below (by (with_reducible repeat (first | apply Kd.S_alloc | apply Kd.S_drewN | apply Kd.S_drew)); exact HO189.out) hb); have n3_ := zm (Kd.S_below (by (with_reducible repeat (first | apply Kd.S_alloc | apply Kd.S_drewN | apply Kd.S_drew)); exact HO204.out) hb); have n4_ := zm (Kd.V_below (Kd.V_elderB (by (with_reducible repeat (first | apply Kd.V_alloc | apply Kd.V_drewN | apply Kd.V_drew)); exact HO215.out) gb217 (Nat.le_of_eq hg.symm)) hb); have n5_ := zm (zb (g := gb178) (o := .cells #[.int .i64 t175, .int .i64 t176] 25 (0, 0)) (by (with_reducible repeat first | apply zd | apply ze | apply za); exact BK178.out) hb); have n6_ := zm (zb (g := gb193) (o := .cells #[.int .i64 t190, .int .i64 t191] 25 (0, 0)) (by (with_reducible repeat first | apply zd | apply ze | apply za); exact BK193.out) hb); have n7_ := zm (below_step (by repeat (first | (with_reducible first | exact HB.out | apply zA | apply zD | apply zE | refine zS ?_ GE178.out | refine zS ?_ GE193.out) | exact HB.out)) hb); have n8_ := zm (hbox); have n9_ := zm ((by rw [hg]; exact (below_size (by repeat (first | (with_reducible first | exact HB.out | apply zA | apply zD | apply zE | refine zS ?_ GE178.out | refine zS ?_ GE193.out) | exact HB.out))) : w.heap.size ≤ gb217)); have n10_ := zm ((by rw [hg]; exact (below_size (by repeat (first | (with_reducible first | exact HB.out | apply zA | apply zD | apply zE | refine zS ?_ GE178.out | refine zS ?_ GE193.out) | exact HB.out))) : w.heap.size ≤ gb217)); have n11_ := zm ((by rw [hg]; exact Nat.ne_of_lt (blk_lt (g := gb178) (o := .cells #[.int .i64 t175, .int .i64 t176] 25 (0, 0)) (by (with_reducible repeat first | apply zd | apply ze | apply za); exact BK178.out)) : gb178 ≠ gb217)); have n12_ := zm ((by rw [hg]; exact Nat.ne_of_gt (blk_lt (g := gb178) (o := .cells #[.int .i64 t175, .int .i64 t176] 25 (0, 0)) (by (with_reducible repeat first | apply zd | apply ze | apply za); exact BK178.out)) : gb217 ≠ gb178)); have n13_ := zm ((by rw [hg]; exact Nat.ne_of_lt (blk_lt (g := gb193) (o := .cells #[.int .i64 t190, .int .i64 t191] 25 (0, 0)) (by (with_reducible repeat first | apply zd | apply ze | apply za); exact BK193.out)) : gb193 ≠ gb217)); have n14_ := zm ((by rw [hg]; exact Nat.ne_of_gt (blk_lt (g := gb193) (o := .cells #[.int .i64 t190, .int .i64 t191] 25 (0, 0)) (by (with_reducible repeat first | apply zd | apply ze | apply za); exact BK193.out)) : gb217 ≠ gb193)); clear HO161 HO174 HO189 HO204 HO215 BK178 BK193 HB; have HO161 := n0_; have HO174 := n1_; have HO189 := n2_; have HO204 := n3_; have HO215 := n4_; have BK178 := n5_; have BK193 := n6_; have HB := n7_; have BK217 := n8_; have GW217 := n9_; have GE217 := n10_; have NB178_217 := n11_; have NB217_178 := n12_; have NB193_217 := n13_; have NB217_193 := n14_; clear n0_ n1_ n2_ n3_ n4_ n5_ n6_ n7_ n8_ n9_ n10_ n11_ n12_ n13_ n14_; clear hb hbox hg; have hnb90 := NB217_178.out; have hnc90 := NB178_217.out; have hnb91 := NB217_193.out; have hnc91 := NB193_217.out; have hcz92_0 := zc BK217.out 0 (.string (⟨#[]⟩ : ByteArray)) rfl; have hcz92_1 := zc BK217.out 1 (.int .i64 0) rfl; have hcz92_2 := zc BK217.out 2 (.int .i64 0) rfl; have hcz92_3 := zc BK217.out 3 (.int .i64 0) rfl; have hcz92_4 := zc BK217.out 4 (.int .i64 0) rfl; have hcz92_5 := zc BK217.out 5 (.int .i64 0) rfl; have hcz92_6 := zc BK217.out 6 (.int .i64 0) rfl; have hcz92_7 := zc BK217.out 7 (.int .i64 0) rfl; have hcz92_8 := zc BK217.out 8 (.slice none 0 0) rfl; have hfz92_0 := zf BK217.out 0; have hfz92_1 := zf BK217.out 1; have hfz92_2 := zf BK217.out 2; have hfz92_3 := zf BK217.out 3; have hfz92_4 := zf BK217.out 4; have hfz92_5 := zf BK217.out 5; have hfz92_6 := zf BK217.out 6; have hfz92_7 := zf BK217.out 7; have hfz92_8 := zf BK217.out 8; obtain ⟨Ao93, co93, eo93⟩ := Kd.V_slice HO215.out; subst eo93) | ((with_reducible refine gate_callee (f := 67) rfl ?_); refine goesL_ (some 37) rfl rfl Try.func67 (by kernel_rfl) rfl #[] rfl (by (try simp only [List.map_toArray, List.map_cons, List.map_nil]); first | done | rfl | (simp only [List.length_drop, List.length_take]; rfl)) ?_; (with_reducible refine (metrolablaw18_Hole.calls  t218 t219 t220 t221 t222 t223 t224 t225 t226 _ A9.out).mono ?_); rintro e w94 ⟨v227, rfl, ho0, hb⟩; refine ⟨_, rfl, ?_⟩; have n0_ := zm (Kd.S_elder' (by (with_reducible repeat (first | apply Kd.S_alloc | apply Kd.S_drewN | apply Kd.S_drew)); exact (Kd.S_mono (Kd.S_far (p := ⟨gb217, 8, none⟩) (Kd.S_far (p := ⟨gb217, 7, none⟩) (Kd.S_far (p := ⟨gb217, 6, none⟩) (Kd.S_far (p := ⟨gb217, 5, none⟩) (Kd.S_far (p := ⟨gb217, 4, none⟩) (Kd.S_far (p := ⟨gb217, 3, none⟩) (Kd.S_far (p := ⟨gb217, 2, none⟩) (Kd.S_far (p := ⟨gb217, 1, none⟩) (Kd.S_far (p := ⟨gb217, 0, none⟩) (Kd.S_types HO161.out BK217.out (by decide)) (fun _ hk => hk.2) (.string t205)) (fun _ hk => hk.2) (.int .i64 t206)) (fun _ hk => hk.2) (.int .i64 t207)) (fun _ hk => hk.2) (.int .i64 t208)) (fun _ hk => hk.2) (.int .i64 t209)) (fun _ hk => hk.2) (.int .i64 t210)) (fun _ hk => hk.2) (.int .i64 t211)) (fun _ hk => hk.2) (.int .i64 t212)) (fun _ hk => hk.2) (.slice Ao93 t213.length co93)) (fun _ h_ => h_.1))) (Kd.S_base ho0) hb); have n1_ := zm (Kd.S_elder' (by (with_reducible repeat (first | apply Kd.S_alloc | apply Kd.S_drewN | apply Kd.S_drew)); exact (Kd.S_mono (Kd.S_far (p := ⟨gb217, 8, none⟩) (Kd.S_far (p := ⟨gb217, 7, none⟩) (Kd.S_far (p := ⟨gb217, 6, none⟩) (Kd.S_far (p := ⟨gb217, 5, none⟩) (Kd.S_far (p := ⟨gb217, 4, none⟩) (Kd.S_far (p := ⟨gb217, 3, none⟩) (Kd.S_far (p := ⟨gb217, 2, none⟩) (Kd.S_far (p := ⟨gb217, 1, none⟩) (Kd.S_far (p := ⟨gb217, 0, none⟩) (Kd.S_types HO174.out BK217.out (by decide)) (fun _ hk => hk.2) (.string t205)) (fun _ hk => hk.2) (.int .i64 t206)) (fun _ hk => hk.2) (.int .i64 t207)) (fun _ hk => hk.2) (.int .i64 t208)) (fun _ hk => hk.2) (.int .i64 t209)) (fun _ hk => hk.2) (.int .i64 t210)) (fun _ hk => hk.2) (.int .i64 t211)) (fun _ hk => hk.2) (.int .i64 t212)) (fun _ hk => hk.2) (.slice Ao93 t213.length co93)) (fun _ h_ => h_.1))) (Kd.S_base ho0) hb); have n2_ := zm (Kd.S_elder' (by (with_reducible repeat (first | apply Kd.S_alloc | apply Kd.S_drewN | apply Kd.S_drew)); exact (Kd.S_mono (Kd.S_far (p := ⟨gb217, 8, none⟩) (Kd.S_far (p := ⟨gb217, 7, none⟩) (Kd.S_far (p := ⟨gb217, 6, none⟩) (Kd.S_far (p := ⟨gb217, 5, none⟩) (Kd.S_far (p := ⟨gb217, 4, none⟩) (Kd.S_far (p := ⟨gb217, 3, none⟩) (Kd.S_far (p := ⟨gb217, 2, none⟩) (Kd.S_far (p := ⟨gb217, 1, none⟩) (Kd.S_far (p := ⟨gb217, 0, none⟩) (Kd.S_types HO189.out BK217.out (by decide)) (fun _ hk => hk.2) (.string t205)) (fun _ hk => hk.2) (.int .i64 t206)) (fun _ hk => hk.2) (.int .i64 t207)) (fun _ hk => hk.2) (.int .i64 t208)) (fun _ hk => hk.2) (.int .i64 t209)) (fun _ hk => hk.2) (.int .i64 t210)) (fun _ hk => hk.2) (.int .i64 t211)) (fun _ hk => hk.2) (.int .i64 t212)) (fun _ hk => hk.2) (.slice Ao93 t213.length co93)) (fun _ h_ => h_.1))) (Kd.S_base ho0) hb); have n3_ := zm (Kd.S_elder' (by (with_reducible repeat (first | apply Kd.S_alloc | apply Kd.S_drewN | apply Kd.S_drew)); exact (Kd.S_mono (Kd.S_far (p := ⟨gb217, 8, none⟩) (Kd.S_far (p := ⟨gb217, 7, none⟩) (Kd.S_far (p := ⟨gb217, 6, none⟩) (Kd.S_far (p := ⟨gb217, 5, none⟩) (Kd.S_far (p := ⟨gb217, 4, none⟩) (Kd.S_far (p := ⟨gb217, 3, none⟩) (Kd.S_far (p := ⟨gb217, 2, none⟩) (Kd.S_far (p := ⟨gb217, 1, none⟩) (Kd.S_far (p := ⟨gb217, 0, none⟩) (Kd.S_types HO204.out BK217.out (by decide)) (fun _ hk => hk.2) (.string t205)) (fun _ hk => hk.2) (.int .i64 t206)) (fun _ hk => hk.2) (.int .i64 t207)) (fun _ hk => hk.2) (.int .i64 t208)) (fun _ hk => hk.2) (.int .i64 t209)) (fun _ hk => hk.2) (.int .i64 t210)) (fun _ hk => hk.2) (.int .i64 t211)) (fun _ hk => hk.2) (.int .i64 t212)) (fun _ hk => hk.2) (.slice Ao93 t213.length co93)) (fun _ h_ => h_.1))) (Kd.S_base ho0) hb); have n4_ := zm (Kd.V_elder' (by (with_reducible repeat (first | apply Kd.V_alloc | apply Kd.V_drewN | apply Kd.V_drew)); exact (Kd.V_mono (zV gb217 (Kd.V_mono HO215.out (fun k_ hk => (⟨hk, hk.2⟩ : _ ∧ k_ ≠ gb217))) (fun _ hk => hk.2) (.string t205) (.int .i64 t206) (.int .i64 t207) (.int .i64 t208) (.int .i64 t209) (.int .i64 t210) (.int .i64 t211) (.int .i64 t212) (.slice Ao93 t213.length co93)) (fun _ h_ => h_.1))) (Kd.S_base ho0) hb); have n5_ := zm (Kd.S_lower (Kd.S_new' (Kd.S_new' (Kd.S_new' (Kd.S_new' ho0 (Kd.S_lt (by (with_reducible repeat (first | apply Kd.S_alloc | apply Kd.S_drewN | apply Kd.S_drew)); exact (Kd.S_mono (Kd.S_far (p := ⟨gb217, 8, none⟩) (Kd.S_far (p := ⟨gb217, 7, none⟩) (Kd.S_far (p := ⟨gb217, 6, none⟩) (Kd.S_far (p := ⟨gb217, 5, none⟩) (Kd.S_far (p := ⟨gb217, 4, none⟩) (Kd.S_far (p := ⟨gb217, 3, none⟩) (Kd.S_far (p := ⟨gb217, 2, none⟩) (Kd.S_far (p := ⟨gb217, 1, none⟩) (Kd.S_far (p := ⟨gb217, 0, none⟩) (Kd.S_types HO161.out BK217.out (by decide)) (fun _ hk => hk.2) (.string t205)) (fun _ hk => hk.2) (.int .i64 t206)) (fun _ hk => hk.2) (.int .i64 t207)) (fun _ hk => hk.2) (.int .i64 t208)) (fun _ hk => hk.2) (.int .i64 t209)) (fun _ hk => hk.2) (.int .i64 t210)) (fun _ hk => hk.2) (.int .i64 t211)) (fun _ hk => hk.2) (.int .i64 t212)) (fun _ hk => hk.2) (.slice Ao93 t213.length co93)) (fun _ h_ => h_.1))))) (Kd.S_lt (by (with_reducible repeat (first | apply Kd.S_alloc | apply Kd.S_drewN | apply Kd.S_drew)); exact (Kd.S_mono (Kd.S_far (p := ⟨gb217, 8, none⟩) (Kd.S_far (p := ⟨gb217, 7, none⟩) (Kd.S_far (p := ⟨gb217, 6, none⟩) (Kd.S_far (p := ⟨gb217, 5, none⟩) (Kd.S_far (p := ⟨gb217, 4, none⟩) (Kd.S_far (p := ⟨gb217, 3, none⟩) (Kd.S_far (p := ⟨gb217, 2, none⟩) (Kd.S_far (p := ⟨gb217, 1, none⟩) (Kd.S_far (p := ⟨gb217, 0, none⟩) (Kd.S_types HO174.out BK217.out (by decide)) (fun _ hk => hk.2) (.string t205)) (fun _ hk => hk.2) (.int .i64 t206)) (fun _ hk => hk.2) (.int .i64 t207)) (fun _ hk => hk.2) (.int .i64 t208)) (fun _ hk => hk.2) (.int .i64 t209)) (fun _ hk => hk.2) (.int .i64 t210)) (fun _ hk => hk.2) (.int .i64 t211)) (fun _ hk => hk.2) (.int .i64 t212)) (fun _ hk => hk.2) (.slice Ao93 t213.length co93)) (fun _ h_ => h_.1))))) (Kd.S_lt (by (with_reducible repeat (first | apply Kd.S_alloc | apply Kd.S_drewN | apply Kd.S_drew)); exact (Kd.S_mono (Kd.S_far (p := ⟨gb217, 8, none⟩) (Kd.S_far (p := ⟨gb217, 7, none⟩) (Kd.S_far (p := ⟨gb217, 6, none⟩) (Kd.S_far (p := ⟨gb217, 5, none⟩) (Kd.S_far (p := ⟨gb217, 4, none⟩) (Kd.S_far (p := ⟨gb217, 3, none⟩) (Kd.S_far (p := ⟨gb217, 2, none⟩) (Kd.S_far (p := ⟨gb217, 1, none⟩) (Kd.S_far (p := ⟨gb217, 0, none⟩) (Kd.S_types HO189.out BK217.out (by decide)) (fun _ hk => hk.2) (.string t205)) (fun _ hk => hk.2) (.int .i64 t206)) (fun _ hk => hk.2) (.int .i64 t207)) (fun _ hk => hk.2) (.int .i64 t208)) (fun _ hk => hk.2) (.int .i64 t209)) (fun _ hk => hk.2) (.int .i64 t210)) (fun _ hk => hk.2) (.int .i64 t211)) (fun _ hk => hk.2) (.int .i64 t212)) (fun _ hk => hk.2) (.slice Ao93 t213.length co93)) (fun _ h_ => h_.1))))) (Kd.S_lt (by (with_reducible repeat (first | apply Kd.S_alloc | apply Kd.S_drewN | apply Kd.S_drew)); exact (Kd.S_mono (Kd.S_far (p := ⟨gb217, 8, none⟩) (Kd.S_far (p := ⟨gb217, 7, none⟩) (Kd.S_far (p := ⟨gb217, 6, none⟩) (Kd.S_far (p := ⟨gb217, 5, none⟩) (Kd.S_far (p := ⟨gb217, 4, none⟩) (Kd.S_far (p := ⟨gb217, 3, none⟩) (Kd.S_far (p := ⟨gb217, 2, none⟩) (Kd.S_far (p := ⟨gb217, 1, none⟩) (Kd.S_far (p := ⟨gb217, 0, none⟩) (Kd.S_types HO204.out BK217.out (by decide)) (fun _ hk => hk.2) (.string t205)) (fun _ hk => hk.2) (.int .i64 t206)) (fun _ hk => hk.2) (.int .i64 t207)) (fun _ hk => hk.2) (.int .i64 t208)) (fun _ hk => hk.2) (.int .i64 t209)) (fun _ hk => hk.2) (.int .i64 t210)) (fun _ hk => hk.2) (.int .i64 t211)) (fun _ hk => hk.2) (.int .i64 t212)) (fun _ hk => hk.2) (.slice Ao93 t213.length co93)) (fun _ h_ => h_.1))))) (below_size (by repeat (first | (with_reducible first | exact HB.out | apply zA | apply zD | apply zE | refine zS ?_ GE178.out | refine zS ?_ GE193.out | refine zS ?_ GE217.out) | exact HB.out)))); have n6_ := zm (zb (g := gb178) (o := .cells #[.int .i64 t175, .int .i64 t176] 25 (0, 0)) (by (with_reducible repeat first | apply zd | apply ze | apply za); refine zF ?_ NB178_217.out _ _ _ _ _ _ _ _ _; (with_reducible repeat first | apply zd | apply ze | apply za); exact BK178.out) hb); have n7_ := zm (zb (g := gb193) (o := .cells #[.int .i64 t190, .int .i64 t191] 25 (0, 0)) (by (with_reducible repeat first | apply zd | apply ze | apply za); refine zF ?_ NB193_217.out _ _ _ _ _ _ _ _ _; (with_reducible repeat first | apply zd | apply ze | apply za); exact BK193.out) hb); have n8_ := zm (zb (g := gb217) (o := .cells #[.string t205, .int .i64 t206, .int .i64 t207, .int .i64 t208, .int .i64 t209, .int .i64 t210, .int .i64 t211, .int .i64 t212, .slice Ao93 t213.length co93] 28 (0, 0)) (by (with_reducible repeat first | apply zd | apply ze | apply za); refine blk_put (cs := #[.string t205, .int .i64 t206, .int .i64 t207, .int .i64 t208, .int .i64 t209, .int .i64 t210, .int .i64 t211, .int .i64 t212, .slice none 0 0]) ?_ 8 _ rfl; (with_reducible repeat first | apply zd | apply ze | apply za); refine blk_put (cs := #[.string t205, .int .i64 t206, .int .i64 t207, .int .i64 t208, .int .i64 t209, .int .i64 t210, .int .i64 t211, .int .i64 0, .slice none 0 0]) ?_ 7 _ rfl; (with_reducible repeat first | apply zd | apply ze | apply za); refine blk_put (cs := #[.string t205, .int .i64 t206, .int .i64 t207, .int .i64 t208, .int .i64 t209, .int .i64 t210, .int .i64 0, .int .i64 0, .slice none 0 0]) ?_ 6 _ rfl; (with_reducible repeat first | apply zd | apply ze | apply za); refine blk_put (cs := #[.string t205, .int .i64 t206, .int .i64 t207, .int .i64 t208, .int .i64 t209, .int .i64 0, .int .i64 0, .int .i64 0, .slice none 0 0]) ?_ 5 _ rfl; (with_reducible repeat first | apply zd | apply ze | apply za); refine blk_put (cs := #[.string t205, .int .i64 t206, .int .i64 t207, .int .i64 t208, .int .i64 0, .int .i64 0, .int .i64 0, .int .i64 0, .slice none 0 0]) ?_ 4 _ rfl; (with_reducible repeat first | apply zd | apply ze | apply za); refine blk_put (cs := #[.string t205, .int .i64 t206, .int .i64 t207, .int .i64 0, .int .i64 0, .int .i64 0, .int .i64 0, .int .i64 0, .slice none 0 0]) ?_ 3 _ rfl; (with_reducible repeat first | apply zd | apply ze | apply za); refine blk_put (cs := #[.string t205, .int .i64 t206, .int .i64 0, .int .i64 0, .int .i64 0, .int .i64 0, .int .i64 0, .int .i64 0, .slice none 0 0]) ?_ 2 _ rfl; (with_reducible repeat first | apply zd | apply ze | apply za); refine blk_put (cs := #[.string t205, .int .i64 0, .int .i64 0, .int .i64 0, .int .i64 0, .int .i64 0, .int .i64 0, .int .i64 0, .slice none 0 0]) ?_ 1 _ rfl; (with_reducible repeat first | apply zd | apply ze | apply za); refine blk_put (cs := #[.string (⟨#[]⟩ : ByteArray), .int .i64 0, .int .i64 0, .int .i64 0, .int .i64 0, .int .i64 0, .int .i64 0, .int .i64 0, .slice none 0 0]) ?_ 0 _ rfl; (with_reducible repeat first | apply zd | apply ze | apply za); exact BK217.out) hb); have n9_ := zm (below_step (by repeat (first | (with_reducible first | exact HB.out | apply zA | apply zD | apply zE | refine zS ?_ GE178.out | refine zS ?_ GE193.out | refine zS ?_ GE217.out) | exact HB.out)) hb); clear HO161 HO174 HO189 HO204 HO215 BK178 BK193 BK217 HB; have HO161 := n0_; have HO174 := n1_; have HO189 := n2_; have HO204 := n3_; have HO215 := n4_; have HO228 := n5_; have BK178 := n6_; have BK193 := n7_; have BK217 := n8_; have HB := n9_; clear n0_ n1_ n2_ n3_ n4_ n5_ n6_ n7_ n8_ n9_; (try clear hb); (try clear hb2); (try clear hk); (try clear hi); (try clear ho0); obtain ⟨Ao95, co95, eo95⟩ := Kd.S_slice HO228.out; subst eo95) | ((with_reducible refine gate_callee (f := 46) rfl ?_); refine goesL_ (some 38) rfl rfl Try.func46 (by kernel_rfl) rfl #[.agg #[.string t218, .int .i64 t219, .int .i64 t220, .int .i64 t221, .int .i64 t222, .int .i64 t223, .int .i64 t224, .int .i64 t225, .slice Ao95 t226.length co95], .int .i64 0] rfl (by (try simp only [List.map_toArray, List.map_cons, List.map_nil]); first | done | rfl | (simp only [List.length_drop, List.length_take]; rfl)) ?_; (with_reducible refine (feature_Turn.calls t218 t219 t220 t221 t222 t223 t224 t225 _ _ t226 0 t229 t230 t231 t232 t233 t234 t235 t236 t237 t240 _ ?side1 ?side2 A10.out).mono ?_); (case side1 => repeat (first | exact (Kd.S_reads' HO228.out).2.2 | (with_reducible refine Kd.C_alloc ?_ _) | (with_reducible refine Kd.C_drewN ?_ _) | (with_reducible refine Kd.C_drew ?_))); (case side2 => exact (Kd.S_reads' HO228.out).2.1); rintro e w96 ⟨v238, rfl, ho0, hb⟩; refine ⟨_, rfl, ?_⟩; have n0_ := zm (Kd.S_below (by (with_reducible repeat (first | apply Kd.S_alloc | apply Kd.S_drewN | apply Kd.S_drew)); exact HO161.out) hb); have n1_ := zm (Kd.S_below (by (with_reducible repeat (first | apply Kd.S_alloc | apply Kd.S_drewN | apply Kd.S_drew)); exact HO174.out) hb); have n2_ := zm (Kd.S_below (by (with_reducible repeat (first | apply Kd.S_alloc | apply Kd.S_drewN | apply Kd.S_drew)); exact HO189.out) hb); have n3_ := zm (Kd.S_below (by (with_reducible repeat (first | apply Kd.S_alloc | apply Kd.S_drewN | apply Kd.S_drew)); exact HO204.out) hb); have n4_ := zm (Kd.V_below (by (with_reducible repeat (first | apply Kd.V_alloc | apply Kd.V_drewN | apply Kd.V_drew)); exact HO215.out) hb); have n5_ := zm (Kd.S_below (by (with_reducible repeat (first | apply Kd.S_alloc | apply Kd.S_drewN | apply Kd.S_drew)); exact HO228.out) hb); have n6_ := zm (Kd.V_lower (Kd.V_mono (ok' := fun k_ => some k_ ≠ (.slice Ao73 t159.length co73 : Value).ownBlock ∧ some k_ ≠ (.slice Ao76 t172.length co76 : Value).ownBlock ∧ some k_ ≠ (.slice Ao81 t187.length co81 : Value).ownBlock ∧ some k_ ≠ (.slice Ao87 t202.length co87 : Value).ownBlock ∧ some k_ ≠ (.slice Ao95 t226.length co95 : Value).ownBlock ∧ k_ ≠ gb178 ∧ k_ ≠ gb193 ∧ k_ ≠ gb217) ho0 (fun k_ hk_ => ⟨(Kd.fresh' (Kd.S_lt (by (with_reducible repeat (first | apply Kd.S_alloc | apply Kd.S_drewN | apply Kd.S_drew)); exact HO161.out)) k_ hk_), (Kd.fresh' (Kd.S_lt (by (with_reducible repeat (first | apply Kd.S_alloc | apply Kd.S_drewN | apply Kd.S_drew)); exact HO174.out)) k_ hk_), (Kd.fresh' (Kd.S_lt (by (with_reducible repeat (first | apply Kd.S_alloc | apply Kd.S_drewN | apply Kd.S_drew)); exact HO189.out)) k_ hk_), (Kd.fresh' (Kd.S_lt (by (with_reducible repeat (first | apply Kd.S_alloc | apply Kd.S_drewN | apply Kd.S_drew)); exact HO204.out)) k_ hk_), (Kd.fresh' (Kd.S_lt (by (with_reducible repeat (first | apply Kd.S_alloc | apply Kd.S_drewN | apply Kd.S_drew)); exact HO228.out)) k_ hk_), (Kd.freshB (g := gb178) (o := .cells #[.int .i64 t175, .int .i64 t176] 25 (0, 0)) (by (with_reducible repeat first | apply zd | apply ze | apply za); exact BK178.out) k_ hk_), (Kd.freshB (g := gb193) (o := .cells #[.int .i64 t190, .int .i64 t191] 25 (0, 0)) (by (with_reducible repeat first | apply zd | apply ze | apply za); exact BK193.out) k_ hk_), (Kd.freshB (g := gb217) (o := .cells #[.string t205, .int .i64 t206, .int .i64 t207, .int .i64 t208, .int .i64 t209, .int .i64 t210, .int .i64 t211, .int .i64 t212, .slice Ao93 t213.length co93] 28 (0, 0)) (by (with_reducible repeat first | apply zd | apply ze | apply za); exact BK217.out) k_ hk_)⟩)) (below_size (by repeat (first | (with_reducible first | exact HB.out | apply zA | apply zD | apply zE | refine zS ?_ GE178.out | refine zS ?_ GE193.out | refine zS ?_ GE217.out) | exact HB.out)))); have n7_ := zm (zb (g := gb178) (o := .cells #[.int .i64 t175, .int .i64 t176] 25 (0, 0)) (by (with_reducible repeat first | apply zd | apply ze | apply za); exact BK178.out) hb); have n8_ := zm (zb (g := gb193) (o := .cells #[.int .i64 t190, .int .i64 t191] 25 (0, 0)) (by (with_reducible repeat first | apply zd | apply ze | apply za); exact BK193.out) hb); have n9_ := zm (zb (g := gb217) (o := .cells #[.string t205, .int .i64 t206, .int .i64 t207, .int .i64 t208, .int .i64 t209, .int .i64 t210, .int .i64 t211, .int .i64 t212, .slice Ao93 t213.length co93] 28 (0, 0)) (by (with_reducible repeat first | apply zd | apply ze | apply za); exact BK217.out) hb); have n10_ := zm (below_step (by repeat (first | (with_reducible first | exact HB.out | apply zA | apply zD | apply zE | refine zS ?_ GE178.out | refine zS ?_ GE193.out | refine zS ?_ GE217.out) | exact HB.out)) hb); clear HO161 HO174 HO189 HO204 HO215 HO228 BK178 BK193 BK217 HB; have HO161 := n0_; have HO174 := n1_; have HO189 := n2_; have HO204 := n3_; have HO215 := n4_; have HO228 := n5_; have HO239 := n6_; have BK178 := n7_; have BK193 := n8_; have BK217 := n9_; have HB := n10_; clear n0_ n1_ n2_ n3_ n4_ n5_ n6_ n7_ n8_ n9_ n10_; (try clear hb); (try clear hb2); (try clear hk); (try clear hi); (try clear ho0)) | ((with_reducible refine gate_dst (N := 9) rfl ?_); refine box_event ?hg (N := 9) ?hd (cs := #[.string (⟨#[]⟩ : ByteArray), .int .i64 0, .int .i64 0, .int .i64 0, .int .i64 0, .int .i64 0, .int .i64 0, .int .i64 0, .slice none 0 0]) (t := 28) ?hr ?_; (case hd => rfl); (case hg => rfl); (case hr => first | (go_simp; done) | (go_simp; rfl)); intro gb241 hg w97 hbox hb; have n0_ := zm (Kd.S_below (by (with_reducible repeat (first | apply Kd.S_alloc | apply Kd.S_drewN | apply Kd.S_drew)); exact HO161.out) hb); have n1_ := zm (Kd.S_below (by (with_reducible repeat (first | apply Kd.S_alloc | apply Kd.S_drewN | apply Kd.S_drew)); exact HO174.out) hb); have n2_ := zm (Kd.S_below (by (with_reducible repeat (first | apply Kd.S_alloc | apply Kd.S_drewN | apply Kd.S_drew)); exact HO189.out) hb); have n3_ := zm (Kd.S_below (by (with_reducible repeat (first | apply Kd.S_alloc | apply Kd.S_drewN | apply Kd.S_drew)); exact HO204.out) hb); have n4_ := zm (Kd.V_below (Kd.V_elderB (by (with_reducible repeat (first | apply Kd.V_alloc | apply Kd.V_drewN | apply Kd.V_drew)); exact HO215.out) gb241 (Nat.le_of_eq hg.symm)) hb); have n5_ := zm (Kd.S_below (by (with_reducible repeat (first | apply Kd.S_alloc | apply Kd.S_drewN | apply Kd.S_drew)); exact HO228.out) hb); have n6_ := zm (Kd.V_below (Kd.V_elderB (by (with_reducible repeat (first | apply Kd.V_alloc | apply Kd.V_drewN | apply Kd.V_drew)); exact HO239.out) gb241 (Nat.le_of_eq hg.symm)) hb); have n7_ := zm (zb (g := gb178) (o := .cells #[.int .i64 t175, .int .i64 t176] 25 (0, 0)) (by (with_reducible repeat first | apply zd | apply ze | apply za); exact BK178.out) hb); have n8_ := zm (zb (g := gb193) (o := .cells #[.int .i64 t190, .int .i64 t191] 25 (0, 0)) (by (with_reducible repeat first | apply zd | apply ze | apply za); exact BK193.out) hb); have n9_ := zm (zb (g := gb217) (o := .cells #[.string t205, .int .i64 t206, .int .i64 t207, .int .i64 t208, .int .i64 t209, .int .i64 t210, .int .i64 t211, .int .i64 t212, .slice Ao93 t213.length co93] 28 (0, 0)) (by (with_reducible repeat first | apply zd | apply ze | apply za); exact BK217.out) hb); have n10_ := zm (below_step (by repeat (first | (with_reducible first | exact HB.out | apply zA | apply zD | apply zE | refine zS ?_ GE178.out | refine zS ?_ GE193.out | refine zS ?_ GE217.out) | exact HB.out)) hb); have n11_ := zm (hbox); have n12_ := zm ((by rw [hg]; exact (below_size (by repeat (first | (with_reducible first | exact HB.out | apply zA | apply zD | apply zE | refine zS ?_ GE178.out | refine zS ?_ GE193.out | refine zS ?_ GE217.out) | exact HB.out))) : w.heap.size ≤ gb241)); have n13_ := zm ((by rw [hg]; exact (below_size (by repeat (first | (with_reducible first | exact HB.out | apply zA | apply zD | apply zE | refine zS ?_ GE178.out | refine zS ?_ GE193.out | refine zS ?_ GE217.out) | exact HB.out))) : w.heap.size ≤ gb241)); have n14_ := zm ((by rw [hg]; exact Nat.ne_of_lt (blk_lt (g := gb178) (o := .cells #[.int .i64 t175, .int .i64 t176] 25 (0, 0)) (by (with_reducible repeat first | apply zd | apply ze | apply za); exact BK178.out)) : gb178 ≠ gb241)); have n15_ := zm ((by rw [hg]; exact Nat.ne_of_gt (blk_lt (g := gb178) (o := .cells #[.int .i64 t175, .int .i64 t176] 25 (0, 0)) (by (with_reducible repeat first | apply zd | apply ze | apply za); exact BK178.out)) : gb241 ≠ gb178)); have n16_ := zm ((by rw [hg]; exact Nat.ne_of_lt (blk_lt (g := gb193) (o := .cells #[.int .i64 t190, .int .i64 t191] 25 (0, 0)) (by (with_reducible repeat first | apply zd | apply ze | apply za); exact BK193.out)) : gb193 ≠ gb241)); have n17_ := zm ((by rw [hg]; exact Nat.ne_of_gt (blk_lt (g := gb193) (o := .cells #[.int .i64 t190, .int .i64 t191] 25 (0, 0)) (by (with_reducible repeat first | apply zd | apply ze | apply za); exact BK193.out)) : gb241 ≠ gb193)); have n18_ := zm ((by rw [hg]; exact Nat.ne_of_lt (blk_lt (g := gb217) (o := .cells #[.string t205, .int .i64 t206, .int .i64 t207, .int .i64 t208, .int .i64 t209, .int .i64 t210, .int .i64 t211, .int .i64 t212, .slice Ao93 t213.length co93] 28 (0, 0)) (by (with_reducible repeat first | apply zd | apply ze | apply za); exact BK217.out)) : gb217 ≠ gb241)); have n19_ := zm ((by rw [hg]; exact Nat.ne_of_gt (blk_lt (g := gb217) (o := .cells #[.string t205, .int .i64 t206, .int .i64 t207, .int .i64 t208, .int .i64 t209, .int .i64 t210, .int .i64 t211, .int .i64 t212, .slice Ao93 t213.length co93] 28 (0, 0)) (by (with_reducible repeat first | apply zd | apply ze | apply za); exact BK217.out)) : gb241 ≠ gb217)); clear HO161 HO174 HO189 HO204 HO215 HO228 HO239 BK178 BK193 BK217 HB; have HO161 := n0_; have HO174 := n1_; have HO189 := n2_; have HO204 := n3_; have HO215 := n4_; have HO228 := n5_; have HO239 := n6_; have BK178 := n7_; have BK193 := n8_; have BK217 := n9_; have HB := n10_; have BK241 := n11_; have GW241 := n12_; have GE241 := n13_; have NB178_241 := n14_; have NB241_178 := n15_; have NB193_241 := n16_; have NB241_193 := n17_; have NB217_241 := n18_; have NB241_217 := n19_; clear n0_ n1_ n2_ n3_ n4_ n5_ n6_ n7_ n8_ n9_ n10_ n11_ n12_ n13_ n14_ n15_ n16_ n17_ n18_ n19_; clear hb hbox hg; have hnb98 := NB241_178.out; have hnc98 := NB178_241.out; have hnb99 := NB241_193.out; have hnc99 := NB193_241.out; have hnb100 := NB241_217.out; have hnc100 := NB217_241.out; have hcz101_0 := zc BK241.out 0 (.string (⟨#[]⟩ : ByteArray)) rfl; have hcz101_1 := zc BK241.out 1 (.int .i64 0) rfl; have hcz101_2 := zc BK241.out 2 (.int .i64 0) rfl; have hcz101_3 := zc BK241.out 3 (.int .i64 0) rfl; have hcz101_4 := zc BK241.out 4 (.int .i64 0) rfl; have hcz101_5 := zc BK241.out 5 (.int .i64 0) rfl; have hcz101_6 := zc BK241.out 6 (.int .i64 0) rfl; have hcz101_7 := zc BK241.out 7 (.int .i64 0) rfl; have hcz101_8 := zc BK241.out 8 (.slice none 0 0) rfl; have hfz101_0 := zf BK241.out 0; have hfz101_1 := zf BK241.out 1; have hfz101_2 := zf BK241.out 2; have hfz101_3 := zf BK241.out 3; have hfz101_4 := zf BK241.out 4; have hfz101_5 := zf BK241.out 5; have hfz101_6 := zf BK241.out 6; have hfz101_7 := zf BK241.out 7; have hfz101_8 := zf BK241.out 8; obtain ⟨Ao102, co102, eo102⟩ := Kd.V_slice HO239.out; subst eo102) | ((with_reducible refine gate_dst (N := 11) rfl ?_); refine box_event ?hg (N := 11) ?hd (cs := #[.string (⟨#[]⟩ : ByteArray), .int .i64 0, .int .i64 0, .int .i64 0, .int .i64 0, .int .i64 0, .int .i64 0, .int .i64 0, .slice none 0 0]) (t := 28) ?hr ?_; (case hd => rfl); (case hg => rfl); (case hr => first | (go_simp; done) | (go_simp; rfl)); intro gb242 hg w103 hbox hb; have n0_ := zm (Kd.S_below (by (with_reducible repeat (first | apply Kd.S_alloc | apply Kd.S_drewN | apply Kd.S_drew)); exact (Kd.S_mono (Kd.S_far (p := ⟨gb241, 8, none⟩) (Kd.S_far (p := ⟨gb241, 7, none⟩) (Kd.S_far (p := ⟨gb241, 6, none⟩) (Kd.S_far (p := ⟨gb241, 5, none⟩) (Kd.S_far (p := ⟨gb241, 4, none⟩) (Kd.S_far (p := ⟨gb241, 3, none⟩) (Kd.S_far (p := ⟨gb241, 2, none⟩) (Kd.S_far (p := ⟨gb241, 1, none⟩) (Kd.S_far (p := ⟨gb241, 0, none⟩) (Kd.S_types HO161.out BK241.out (by decide)) (fun _ hk => hk.2) (.string t229)) (fun _ hk => hk.2) (.int .i64 t230)) (fun _ hk => hk.2) (.int .i64 t231)) (fun _ hk => hk.2) (.int .i64 t232)) (fun _ hk => hk.2) (.int .i64 t233)) (fun _ hk => hk.2) (.int .i64 t234)) (fun _ hk => hk.2) (.int .i64 t235)) (fun _ hk => hk.2) (.int .i64 t236)) (fun _ hk => hk.2) (.slice Ao102 t237.length co102)) (fun _ h_ => h_.1))) hb); have n1_ := zm (Kd.S_below (by (with_reducible repeat (first | apply Kd.S_alloc | apply Kd.S_drewN | apply Kd.S_drew)); exact (Kd.S_mono (Kd.S_far (p := ⟨gb241, 8, none⟩) (Kd.S_far (p := ⟨gb241, 7, none⟩) (Kd.S_far (p := ⟨gb241, 6, none⟩) (Kd.S_far (p := ⟨gb241, 5, none⟩) (Kd.S_far (p := ⟨gb241, 4, none⟩) (Kd.S_far (p := ⟨gb241, 3, none⟩) (Kd.S_far (p := ⟨gb241, 2, none⟩) (Kd.S_far (p := ⟨gb241, 1, none⟩) (Kd.S_far (p := ⟨gb241, 0, none⟩) (Kd.S_types HO174.out BK241.out (by decide)) (fun _ hk => hk.2) (.string t229)) (fun _ hk => hk.2) (.int .i64 t230)) (fun _ hk => hk.2) (.int .i64 t231)) (fun _ hk => hk.2) (.int .i64 t232)) (fun _ hk => hk.2) (.int .i64 t233)) (fun _ hk => hk.2) (.int .i64 t234)) (fun _ hk => hk.2) (.int .i64 t235)) (fun _ hk => hk.2) (.int .i64 t236)) (fun _ hk => hk.2) (.slice Ao102 t237.length co102)) (fun _ h_ => h_.1))) hb); have n2_ := zm (Kd.S_below (by (with_reducible repeat (first | apply Kd.S_alloc | apply Kd.S_drewN | apply Kd.S_drew)); exact (Kd.S_mono (Kd.S_far (p := ⟨gb241, 8, none⟩) (Kd.S_far (p := ⟨gb241, 7, none⟩) (Kd.S_far (p := ⟨gb241, 6, none⟩) (Kd.S_far (p := ⟨gb241, 5, none⟩) (Kd.S_far (p := ⟨gb241, 4, none⟩) (Kd.S_far (p := ⟨gb241, 3, none⟩) (Kd.S_far (p := ⟨gb241, 2, none⟩) (Kd.S_far (p := ⟨gb241, 1, none⟩) (Kd.S_far (p := ⟨gb241, 0, none⟩) (Kd.S_types HO189.out BK241.out (by decide)) (fun _ hk => hk.2) (.string t229)) (fun _ hk => hk.2) (.int .i64 t230)) (fun _ hk => hk.2) (.int .i64 t231)) (fun _ hk => hk.2) (.int .i64 t232)) (fun _ hk => hk.2) (.int .i64 t233)) (fun _ hk => hk.2) (.int .i64 t234)) (fun _ hk => hk.2) (.int .i64 t235)) (fun _ hk => hk.2) (.int .i64 t236)) (fun _ hk => hk.2) (.slice Ao102 t237.length co102)) (fun _ h_ => h_.1))) hb); have n3_ := zm (Kd.S_below (by (with_reducible repeat (first | apply Kd.S_alloc | apply Kd.S_drewN | apply Kd.S_drew)); exact (Kd.S_mono (Kd.S_far (p := ⟨gb241, 8, none⟩) (Kd.S_far (p := ⟨gb241, 7, none⟩) (Kd.S_far (p := ⟨gb241, 6, none⟩) (Kd.S_far (p := ⟨gb241, 5, none⟩) (Kd.S_far (p := ⟨gb241, 4, none⟩) (Kd.S_far (p := ⟨gb241, 3, none⟩) (Kd.S_far (p := ⟨gb241, 2, none⟩) (Kd.S_far (p := ⟨gb241, 1, none⟩) (Kd.S_far (p := ⟨gb241, 0, none⟩) (Kd.S_types HO204.out BK241.out (by decide)) (fun _ hk => hk.2) (.string t229)) (fun _ hk => hk.2) (.int .i64 t230)) (fun _ hk => hk.2) (.int .i64 t231)) (fun _ hk => hk.2) (.int .i64 t232)) (fun _ hk => hk.2) (.int .i64 t233)) (fun _ hk => hk.2) (.int .i64 t234)) (fun _ hk => hk.2) (.int .i64 t235)) (fun _ hk => hk.2) (.int .i64 t236)) (fun _ hk => hk.2) (.slice Ao102 t237.length co102)) (fun _ h_ => h_.1))) hb); have n4_ := zm (Kd.V_below (Kd.V_elderB (by (with_reducible repeat (first | apply Kd.V_alloc | apply Kd.V_drewN | apply Kd.V_drew)); exact (Kd.V_mono (zV gb241 (Kd.V_mono HO215.out (fun k_ hk => (⟨hk, hk.2⟩ : _ ∧ k_ ≠ gb241))) (fun _ hk => hk.2) (.string t229) (.int .i64 t230) (.int .i64 t231) (.int .i64 t232) (.int .i64 t233) (.int .i64 t234) (.int .i64 t235) (.int .i64 t236) (.slice Ao102 t237.length co102)) (fun _ h_ => h_.1))) gb242 (Nat.le_of_eq hg.symm)) hb); have n5_ := zm (Kd.S_below (by (with_reducible repeat (first | apply Kd.S_alloc | apply Kd.S_drewN | apply Kd.S_drew)); exact (Kd.S_mono (Kd.S_far (p := ⟨gb241, 8, none⟩) (Kd.S_far (p := ⟨gb241, 7, none⟩) (Kd.S_far (p := ⟨gb241, 6, none⟩) (Kd.S_far (p := ⟨gb241, 5, none⟩) (Kd.S_far (p := ⟨gb241, 4, none⟩) (Kd.S_far (p := ⟨gb241, 3, none⟩) (Kd.S_far (p := ⟨gb241, 2, none⟩) (Kd.S_far (p := ⟨gb241, 1, none⟩) (Kd.S_far (p := ⟨gb241, 0, none⟩) (Kd.S_types HO228.out BK241.out (by decide)) (fun _ hk => hk.2) (.string t229)) (fun _ hk => hk.2) (.int .i64 t230)) (fun _ hk => hk.2) (.int .i64 t231)) (fun _ hk => hk.2) (.int .i64 t232)) (fun _ hk => hk.2) (.int .i64 t233)) (fun _ hk => hk.2) (.int .i64 t234)) (fun _ hk => hk.2) (.int .i64 t235)) (fun _ hk => hk.2) (.int .i64 t236)) (fun _ hk => hk.2) (.slice Ao102 t237.length co102)) (fun _ h_ => h_.1))) hb); have n6_ := zm (Kd.V_below (Kd.V_elderB (by (with_reducible repeat (first | apply Kd.V_alloc | apply Kd.V_drewN | apply Kd.V_drew)); exact (Kd.V_mono (zV gb241 (Kd.V_mono HO239.out (fun k_ hk => (⟨hk, hk.2⟩ : _ ∧ k_ ≠ gb241))) (fun _ hk => hk.2) (.string t229) (.int .i64 t230) (.int .i64 t231) (.int .i64 t232) (.int .i64 t233) (.int .i64 t234) (.int .i64 t235) (.int .i64 t236) (.slice Ao102 t237.length co102)) (fun _ h_ => h_.1))) gb242 (Nat.le_of_eq hg.symm)) hb); have n7_ := zm (zb (g := gb178) (o := .cells #[.int .i64 t175, .int .i64 t176] 25 (0, 0)) (by (with_reducible repeat first | apply zd | apply ze | apply za); refine zF ?_ NB178_241.out _ _ _ _ _ _ _ _ _; (with_reducible repeat first | apply zd | apply ze | apply za); exact BK178.out) hb); have n8_ := zm (zb (g := gb193) (o := .cells #[.int .i64 t190, .int .i64 t191] 25 (0, 0)) (by (with_reducible repeat first | apply zd | apply ze | apply za); refine zF ?_ NB193_241.out _ _ _ _ _ _ _ _ _; (with_reducible repeat first | apply zd | apply ze | apply za); exact BK193.out) hb); have n9_ := zm (zb (g := gb217) (o := .cells #[.string t205, .int .i64 t206, .int .i64 t207, .int .i64 t208, .int .i64 t209, .int .i64 t210, .int .i64 t211, .int .i64 t212, .slice Ao93 t213.length co93] 28 (0, 0)) (by (with_reducible repeat first | apply zd | apply ze | apply za); refine zF ?_ NB217_241.out _ _ _ _ _ _ _ _ _; (with_reducible repeat first | apply zd | apply ze | apply za); exact BK217.out) hb); have n10_ := zm (zb (g := gb241) (o := .cells #[.string t229, .int .i64 t230, .int .i64 t231, .int .i64 t232, .int .i64 t233, .int .i64 t234, .int .i64 t235, .int .i64 t236, .slice Ao102 t237.length co102] 28 (0, 0)) (by (with_reducible repeat first | apply zd | apply ze | apply za); refine blk_put (cs := #[.string t229, .int .i64 t230, .int .i64 t231, .int .i64 t232, .int .i64 t233, .int .i64 t234, .int .i64 t235, .int .i64 t236, .slice none 0 0]) ?_ 8 _ rfl; (with_reducible repeat first | apply zd | apply ze | apply za); refine blk_put (cs := #[.string t229, .int .i64 t230, .int .i64 t231, .int .i64 t232, .int .i64 t233, .int .i64 t234, .int .i64 t235, .int .i64 0, .slice none 0 0]) ?_ 7 _ rfl; (with_reducible repeat first | apply zd | apply ze | apply za); refine blk_put (cs := #[.string t229, .int .i64 t230, .int .i64 t231, .int .i64 t232, .int .i64 t233, .int .i64 t234, .int .i64 0, .int .i64 0, .slice none 0 0]) ?_ 6 _ rfl; (with_reducible repeat first | apply zd | apply ze | apply za); refine blk_put (cs := #[.string t229, .int .i64 t230, .int .i64 t231, .int .i64 t232, .int .i64 t233, .int .i64 0, .int .i64 0, .int .i64 0, .slice none 0 0]) ?_ 5 _ rfl; (with_reducible repeat first | apply zd | apply ze | apply za); refine blk_put (cs := #[.string t229, .int .i64 t230, .int .i64 t231, .int .i64 t232, .int .i64 0, .int .i64 0, .int .i64 0, .int .i64 0, .slice none 0 0]) ?_ 4 _ rfl; (with_reducible repeat first | apply zd | apply ze | apply za); refine blk_put (cs := #[.string t229, .int .i64 t230, .int .i64 t231, .int .i64 0, .int .i64 0, .int .i64 0, .int .i64 0, .int .i64 0, .slice none 0 0]) ?_ 3 _ rfl; (with_reducible repeat first | apply zd | apply ze | apply za); refine blk_put (cs := #[.string t229, .int .i64 t230, .int .i64 0, .int .i64 0, .int .i64 0, .int .i64 0, .int .i64 0, .int .i64 0, .slice none 0 0]) ?_ 2 _ rfl; (with_reducible repeat first | apply zd | apply ze | apply za); refine blk_put (cs := #[.string t229, .int .i64 0, .int .i64 0, .int .i64 0, .int .i64 0, .int .i64 0, .int .i64 0, .int .i64 0, .slice none 0 0]) ?_ 1 _ rfl; (with_reducible repeat first | apply zd | apply ze | apply za); refine blk_put (cs := #[.string (⟨#[]⟩ : ByteArray), .int .i64 0, .int .i64 0, .int .i64 0, .int .i64 0, .int .i64 0, .int .i64 0, .int .i64 0, .slice none 0 0]) ?_ 0 _ rfl; (with_reducible repeat first | apply zd | apply ze | apply za); exact BK241.out) hb); have n11_ := zm (below_step (by repeat (first | (with_reducible first | exact HB.out | apply zA | apply zD | apply zE | refine zS ?_ GE178.out | refine zS ?_ GE193.out | refine zS ?_ GE217.out | refine zS ?_ GE241.out) | exact HB.out)) hb); have n12_ := zm (hbox); have n13_ := zm ((by rw [hg]; exact (below_size (by repeat (first | (with_reducible first | exact HB.out | apply zA | apply zD | apply zE | refine zS ?_ GE178.out | refine zS ?_ GE193.out | refine zS ?_ GE217.out | refine zS ?_ GE241.out) | exact HB.out))) : w.heap.size ≤ gb242)); have n14_ := zm ((by rw [hg]; exact (below_size (by repeat (first | (with_reducible first | exact HB.out | apply zA | apply zD | apply zE | refine zS ?_ GE178.out | refine zS ?_ GE193.out | refine zS ?_ GE217.out | refine zS ?_ GE241.out) | exact HB.out))) : w.heap.size ≤ gb242)); have n15_ := zm ((by rw [hg]; exact Nat.ne_of_lt (blk_lt (g := gb178) (o := .cells #[.int .i64 t175, .int .i64 t176] 25 (0, 0)) (by (with_reducible repeat first | apply zd | apply ze | apply za); refine zF ?_ NB178_241.out _ _ _ _ _ _ _ _ _; (with_reducible repeat first | apply zd | apply ze | apply za); exact BK178.out)) : gb178 ≠ gb242)); have n16_ := zm ((by rw [hg]; exact Nat.ne_of_gt (blk_lt (g := gb178) (o := .cells #[.int .i64 t175, .int .i64 t176] 25 (0, 0)) (by (with_reducible repeat first | apply zd | apply ze | apply za); refine zF ?_ NB178_241.out _ _ _ _ _ _ _ _ _; (with_reducible repeat first | apply zd | apply ze | apply za); exact BK178.out)) : gb242 ≠ gb178)); have n17_ := zm ((by rw [hg]; exact Nat.ne_of_lt (blk_lt (g := gb193) (o := .cells #[.int .i64 t190, .int .i64 t191] 25 (0, 0)) (by (with_reducible repeat first | apply zd | apply ze | apply za); refine zF ?_ NB193_241.out _ _ _ _ _ _ _ _ _; (with_reducible repeat first | apply zd | apply ze | apply za); exact BK193.out)) : gb193 ≠ gb242)); have n18_ := zm ((by rw [hg]; exact Nat.ne_of_gt (blk_lt (g := gb193) (o := .cells #[.int .i64 t190, .int .i64 t191] 25 (0, 0)) (by (with_reducible repeat first | apply zd | apply ze | apply za); refine zF ?_ NB193_241.out _ _ _ _ _ _ _ _ _; (with_reducible repeat first | apply zd | apply ze | apply za); exact BK193.out)) : gb242 ≠ gb193)); have n19_ := zm ((by rw [hg]; exact Nat.ne_of_lt (blk_lt (g := gb217) (o := .cells #[.string t205, .int .i64 t206, .int .i64 t207, .int .i64 t208, .int .i64 t209, .int .i64 t210, .int .i64 t211, .int .i64 t212, .slice Ao93 t213.length co93] 28 (0, 0)) (by (with_reducible repeat first | apply zd | apply ze | apply za); refine zF ?_ NB217_241.out _ _ _ _ _ _ _ _ _; (with_reducible repeat first | apply zd | apply ze | apply za); exact BK217.out)) : gb217 ≠ gb242)); have n20_ := zm ((by rw [hg]; exact Nat.ne_of_gt (blk_lt (g := gb217) (o := .cells #[.string t205, .int .i64 t206, .int .i64 t207, .int .i64 t208, .int .i64 t209, .int .i64 t210, .int .i64 t211, .int .i64 t212, .slice Ao93 t213.length co93] 28 (0, 0)) (by (with_reducible repeat first | apply zd | apply ze | apply za); refine zF ?_ NB217_241.out _ _ _ _ _ _ _ _ _; (with_reducible repeat first | apply zd | apply ze | apply za); exact BK217.out)) : gb242 ≠ gb217)); have n21_ := zm ((by rw [hg]; exact Nat.ne_of_lt (blk_lt (g := gb241) (o := .cells #[.string t229, .int .i64 t230, .int .i64 t231, .int .i64 t232, .int .i64 t233, .int .i64 t234, .int .i64 t235, .int .i64 t236, .slice Ao102 t237.length co102] 28 (0, 0)) (by (with_reducible repeat first | apply zd | apply ze | apply za); refine blk_put (cs := #[.string t229, .int .i64 t230, .int .i64 t231, .int .i64 t232, .int .i64 t233, .int .i64 t234, .int .i64 t235, .int .i64 t236, .slice none 0 0]) ?_ 8 _ rfl; (with_reducible repeat first | apply zd | apply ze | apply za); refine blk_put (cs := #[.string t229, .int .i64 t230, .int .i64 t231, .int .i64 t232, .int .i64 t233, .int .i64 t234, .int .i64 t235, .int .i64 0, .slice none 0 0]) ?_ 7 _ rfl; (with_reducible repeat first | apply zd | apply ze | apply za); refine blk_put (cs := #[.string t229, .int .i64 t230, .int .i64 t231, .int .i64 t232, .int .i64 t233, .int .i64 t234, .int .i64 0, .int .i64 0, .slice none 0 0]) ?_ 6 _ rfl; (with_reducible repeat first | apply zd | apply ze | apply za); refine blk_put (cs := #[.string t229, .int .i64 t230, .int .i64 t231, .int .i64 t232, .int .i64 t233, .int .i64 0, .int .i64 0, .int .i64 0, .slice none 0 0]) ?_ 5 _ rfl; (with_reducible repeat first | apply zd | apply ze | apply za); refine blk_put (cs := #[.string t229, .int .i64 t230, .int .i64 t231, .int .i64 t232, .int .i64 0, .int .i64 0, .int .i64 0, .int .i64 0, .slice none 0 0]) ?_ 4 _ rfl; (with_reducible repeat first | apply zd | apply ze | apply za); refine blk_put (cs := #[.string t229, .int .i64 t230, .int .i64 t231, .int .i64 0, .int .i64 0, .int .i64 0, .int .i64 0, .int .i64 0, .slice none 0 0]) ?_ 3 _ rfl; (with_reducible repeat first | apply zd | apply ze | apply za); refine blk_put (cs := #[.string t229, .int .i64 t230, .int .i64 0, .int .i64 0, .int .i64 0, .int .i64 0, .int .i64 0, .int .i64 0, .slice none 0 0]) ?_ 2 _ rfl; (with_reducible repeat first | apply zd | apply ze | apply za); refine blk_put (cs := #[.string t229, .int .i64 0, .int .i64 0, .int .i64 0, .int .i64 0, .int .i64 0, .int .i64 0, .int .i64 0, .slice none 0 0]) ?_ 1 _ rfl; (with_reducible repeat first | apply zd | apply ze | apply za); refine blk_put (cs := #[.string (⟨#[]⟩ : ByteArray), .int .i64 0, .int .i64 0, .int .i64 0, .int .i64 0, .int .i64 0, .int .i64 0, .int .i64 0, .slice none 0 0]) ?_ 0 _ rfl; (with_reducible repeat first | apply zd | apply ze | apply za); exact BK241.out)) : gb241 ≠ gb242)); have n22_ := zm ((by rw [hg]; exact Nat.ne_of_gt (blk_lt (g := gb241) (o := .cells #[.string t229, .int .i64 t230, .int .i64 t231, .int .i64 t232, .int .i64 t233, .int .i64 t234, .int .i64 t235, .int .i64 t236, .slice Ao102 t237.length co102] 28 (0, 0)) (by (with_reducible repeat first | apply zd | apply ze | apply za); refine blk_put (cs := #[.string t229, .int .i64 t230, .int .i64 t231, .int .i64 t232, .int .i64 t233, .int .i64 t234, .int .i64 t235, .int .i64 t236, .slice none 0 0]) ?_ 8 _ rfl; (with_reducible repeat first | apply zd | apply ze | apply za); refine blk_put (cs := #[.string t229, .int .i64 t230, .int .i64 t231, .int .i64 t232, .int .i64 t233, .int .i64 t234, .int .i64 t235, .int .i64 0, .slice none 0 0]) ?_ 7 _ rfl; (with_reducible repeat first | apply zd | apply ze | apply za); refine blk_put (cs := #[.string t229, .int .i64 t230, .int .i64 t231, .int .i64 t232, .int .i64 t233, .int .i64 t234, .int .i64 0, .int .i64 0, .slice none 0 0]) ?_ 6 _ rfl; (with_reducible repeat first | apply zd | apply ze | apply za); refine blk_put (cs := #[.string t229, .int .i64 t230, .int .i64 t231, .int .i64 t232, .int .i64 t233, .int .i64 0, .int .i64 0, .int .i64 0, .slice none 0 0]) ?_ 5 _ rfl; (with_reducible repeat first | apply zd | apply ze | apply za); refine blk_put (cs := #[.string t229, .int .i64 t230, .int .i64 t231, .int .i64 t232, .int .i64 0, .int .i64 0, .int .i64 0, .int .i64 0, .slice none 0 0]) ?_ 4 _ rfl; (with_reducible repeat first | apply zd | apply ze | apply za); refine blk_put (cs := #[.string t229, .int .i64 t230, .int .i64 t231, .int .i64 0, .int .i64 0, .int .i64 0, .int .i64 0, .int .i64 0, .slice none 0 0]) ?_ 3 _ rfl; (with_reducible repeat first | apply zd | apply ze | apply za); refine blk_put (cs := #[.string t229, .int .i64 t230, .int .i64 0, .int .i64 0, .int .i64 0, .int .i64 0, .int .i64 0, .int .i64 0, .slice none 0 0]) ?_ 2 _ rfl; (with_reducible repeat first | apply zd | apply ze | apply za); refine blk_put (cs := #[.string t229, .int .i64 0, .int .i64 0, .int .i64 0, .int .i64 0, .int .i64 0, .int .i64 0, .int .i64 0, .slice none 0 0]) ?_ 1 _ rfl; (with_reducible repeat first | apply zd | apply ze | apply za); refine blk_put (cs := #[.string (⟨#[]⟩ : ByteArray), .int .i64 0, .int .i64 0, .int .i64 0, .int .i64 0, .int .i64 0, .int .i64 0, .int .i64 0, .slice none 0 0]) ?_ 0 _ rfl; (with_reducible repeat first | apply zd | apply ze | apply za); exact BK241.out)) : gb242 ≠ gb241)); clear HO161 HO174 HO189 HO204 HO215 HO228 HO239 BK178 BK193 BK217 BK241 HB; have HO161 := n0_; have HO174 := n1_; have HO189 := n2_; have HO204 := n3_; have HO215 := n4_; have HO228 := n5_; have HO239 := n6_; have BK178 := n7_; have BK193 := n8_; have BK217 := n9_; have BK241 := n10_; have HB := n11_; have BK242 := n12_; have GW242 := n13_; have GE242 := n14_; have NB178_242 := n15_; have NB242_178 := n16_; have NB193_242 := n17_; have NB242_193 := n18_; have NB217_242 := n19_; have NB242_217 := n20_; have NB241_242 := n21_; have NB242_241 := n22_; clear n0_ n1_ n2_ n3_ n4_ n5_ n6_ n7_ n8_ n9_ n10_ n11_ n12_ n13_ n14_ n15_ n16_ n17_ n18_ n19_ n20_ n21_ n22_; clear hb hbox hg; have hnb104 := NB242_178.out; have hnc104 := NB178_242.out; have hnb105 := NB242_193.out; have hnc105 := NB193_242.out; have hnb106 := NB242_217.out; have hnc106 := NB217_242.out; have hnb107 := NB242_241.out; have hnc107 := NB241_242.out; have hcz108_0 := zc BK242.out 0 (.string (⟨#[]⟩ : ByteArray)) rfl; have hcz108_1 := zc BK242.out 1 (.int .i64 0) rfl; have hcz108_2 := zc BK242.out 2 (.int .i64 0) rfl; have hcz108_3 := zc BK242.out 3 (.int .i64 0) rfl; have hcz108_4 := zc BK242.out 4 (.int .i64 0) rfl; have hcz108_5 := zc BK242.out 5 (.int .i64 0) rfl; have hcz108_6 := zc BK242.out 6 (.int .i64 0) rfl; have hcz108_7 := zc BK242.out 7 (.int .i64 0) rfl; have hcz108_8 := zc BK242.out 8 (.slice none 0 0) rfl; have hfz108_0 := zf BK242.out 0; have hfz108_1 := zf BK242.out 1; have hfz108_2 := zf BK242.out 2; have hfz108_3 := zf BK242.out 3; have hfz108_4 := zf BK242.out 4; have hfz108_5 := zf BK242.out 5; have hfz108_6 := zf BK242.out 6; have hfz108_7 := zf BK242.out 7; have hfz108_8 := zf BK242.out 8))
          have n0_ : Aside0 (Kd.S k104 104 (((((((((w103.setCell ⟨gb242, 0, none⟩ (.string (⟨#[87]⟩ : ByteArray))).setCell ⟨gb242, 1, none⟩ (.int .i64 0)).setCell ⟨gb242, 2, none⟩ (.int .i64 0)).setCell ⟨gb242, 3, none⟩ (.int .i64 5507)).setCell ⟨gb242, 4, none⟩ (.int .i64 0)).setCell ⟨gb242, 5, none⟩ (.int .i64 0)).setCell ⟨gb242, 6, none⟩ (.int .i64 0)).setCell ⟨gb242, 7, none⟩ (.int .i64 0)).setCell ⟨gb242, 8, none⟩ (.slice none 0 0)) w.heap.size (fun k_ => some k_ ≠ (.slice Ao76 t172.length co76 : Value).ownBlock ∧ some k_ ≠ (.slice Ao81 t187.length co81 : Value).ownBlock ∧ some k_ ≠ (.slice Ao87 t202.length co87 : Value).ownBlock ∧ some k_ ≠ (.slice Ao95 t226.length co95 : Value).ownBlock) (.slice Ao73 t159.length co73) t159) := ⟨by (with_reducible repeat (first | apply Kd.S_alloc | apply Kd.S_drewN | apply Kd.S_drew)); exact Kd.S_mono (Kd.S_far (p := ⟨gb242, 8, none⟩) (Kd.S_far (p := ⟨gb242, 7, none⟩) (Kd.S_far (p := ⟨gb242, 6, none⟩) (Kd.S_far (p := ⟨gb242, 5, none⟩) (Kd.S_far (p := ⟨gb242, 4, none⟩) (Kd.S_far (p := ⟨gb242, 3, none⟩) (Kd.S_far (p := ⟨gb242, 2, none⟩) (Kd.S_far (p := ⟨gb242, 1, none⟩) (Kd.S_far (p := ⟨gb242, 0, none⟩) (Kd.S_types HO161.out BK242.out (by decide)) (fun _ hk => hk.2) (.string (⟨#[87]⟩ : ByteArray))) (fun _ hk => hk.2) (.int .i64 0)) (fun _ hk => hk.2) (.int .i64 0)) (fun _ hk => hk.2) (.int .i64 5507)) (fun _ hk => hk.2) (.int .i64 0)) (fun _ hk => hk.2) (.int .i64 0)) (fun _ hk => hk.2) (.int .i64 0)) (fun _ hk => hk.2) (.int .i64 0)) (fun _ hk => hk.2) (.slice none 0 0)) (fun _ hk => ⟨hk.1.1.1.1.2, ⟨hk.1.1.1.2, ⟨hk.1.1.2, hk.1.2⟩⟩⟩)⟩
          have n1_ : Aside0 (Kd.S k104 104 (((((((((w103.setCell ⟨gb242, 0, none⟩ (.string (⟨#[87]⟩ : ByteArray))).setCell ⟨gb242, 1, none⟩ (.int .i64 0)).setCell ⟨gb242, 2, none⟩ (.int .i64 0)).setCell ⟨gb242, 3, none⟩ (.int .i64 5507)).setCell ⟨gb242, 4, none⟩ (.int .i64 0)).setCell ⟨gb242, 5, none⟩ (.int .i64 0)).setCell ⟨gb242, 6, none⟩ (.int .i64 0)).setCell ⟨gb242, 7, none⟩ (.int .i64 0)).setCell ⟨gb242, 8, none⟩ (.slice none 0 0)) w.heap.size (fun k_ => some k_ ≠ (.slice Ao73 t159.length co73 : Value).ownBlock ∧ some k_ ≠ (.slice Ao81 t187.length co81 : Value).ownBlock ∧ some k_ ≠ (.slice Ao87 t202.length co87 : Value).ownBlock ∧ some k_ ≠ (.slice Ao95 t226.length co95 : Value).ownBlock) (.slice Ao76 t172.length co76) t172) := ⟨by (with_reducible repeat (first | apply Kd.S_alloc | apply Kd.S_drewN | apply Kd.S_drew)); exact Kd.S_mono (Kd.S_far (p := ⟨gb242, 8, none⟩) (Kd.S_far (p := ⟨gb242, 7, none⟩) (Kd.S_far (p := ⟨gb242, 6, none⟩) (Kd.S_far (p := ⟨gb242, 5, none⟩) (Kd.S_far (p := ⟨gb242, 4, none⟩) (Kd.S_far (p := ⟨gb242, 3, none⟩) (Kd.S_far (p := ⟨gb242, 2, none⟩) (Kd.S_far (p := ⟨gb242, 1, none⟩) (Kd.S_far (p := ⟨gb242, 0, none⟩) (Kd.S_types HO174.out BK242.out (by decide)) (fun _ hk => hk.2) (.string (⟨#[87]⟩ : ByteArray))) (fun _ hk => hk.2) (.int .i64 0)) (fun _ hk => hk.2) (.int .i64 0)) (fun _ hk => hk.2) (.int .i64 5507)) (fun _ hk => hk.2) (.int .i64 0)) (fun _ hk => hk.2) (.int .i64 0)) (fun _ hk => hk.2) (.int .i64 0)) (fun _ hk => hk.2) (.int .i64 0)) (fun _ hk => hk.2) (.slice none 0 0)) (fun _ hk => ⟨hk.1.1.1.1.2, ⟨hk.1.1.1.2, ⟨hk.1.1.2, hk.1.2⟩⟩⟩)⟩
          have n2_ : Aside0 (Kd.S k104 104 (((((((((w103.setCell ⟨gb242, 0, none⟩ (.string (⟨#[87]⟩ : ByteArray))).setCell ⟨gb242, 1, none⟩ (.int .i64 0)).setCell ⟨gb242, 2, none⟩ (.int .i64 0)).setCell ⟨gb242, 3, none⟩ (.int .i64 5507)).setCell ⟨gb242, 4, none⟩ (.int .i64 0)).setCell ⟨gb242, 5, none⟩ (.int .i64 0)).setCell ⟨gb242, 6, none⟩ (.int .i64 0)).setCell ⟨gb242, 7, none⟩ (.int .i64 0)).setCell ⟨gb242, 8, none⟩ (.slice none 0 0)) w.heap.size (fun k_ => some k_ ≠ (.slice Ao73 t159.length co73 : Value).ownBlock ∧ some k_ ≠ (.slice Ao76 t172.length co76 : Value).ownBlock ∧ some k_ ≠ (.slice Ao87 t202.length co87 : Value).ownBlock ∧ some k_ ≠ (.slice Ao95 t226.length co95 : Value).ownBlock) (.slice Ao81 t187.length co81) t187) := ⟨by (with_reducible repeat (first | apply Kd.S_alloc | apply Kd.S_drewN | apply Kd.S_drew)); exact Kd.S_mono (Kd.S_far (p := ⟨gb242, 8, none⟩) (Kd.S_far (p := ⟨gb242, 7, none⟩) (Kd.S_far (p := ⟨gb242, 6, none⟩) (Kd.S_far (p := ⟨gb242, 5, none⟩) (Kd.S_far (p := ⟨gb242, 4, none⟩) (Kd.S_far (p := ⟨gb242, 3, none⟩) (Kd.S_far (p := ⟨gb242, 2, none⟩) (Kd.S_far (p := ⟨gb242, 1, none⟩) (Kd.S_far (p := ⟨gb242, 0, none⟩) (Kd.S_types HO189.out BK242.out (by decide)) (fun _ hk => hk.2) (.string (⟨#[87]⟩ : ByteArray))) (fun _ hk => hk.2) (.int .i64 0)) (fun _ hk => hk.2) (.int .i64 0)) (fun _ hk => hk.2) (.int .i64 5507)) (fun _ hk => hk.2) (.int .i64 0)) (fun _ hk => hk.2) (.int .i64 0)) (fun _ hk => hk.2) (.int .i64 0)) (fun _ hk => hk.2) (.int .i64 0)) (fun _ hk => hk.2) (.slice none 0 0)) (fun _ hk => ⟨hk.1.1.1.1.2, ⟨hk.1.1.1.2, ⟨hk.1.1.2, hk.1.2⟩⟩⟩)⟩
          have n3_ : Aside0 (Kd.S k104 104 (((((((((w103.setCell ⟨gb242, 0, none⟩ (.string (⟨#[87]⟩ : ByteArray))).setCell ⟨gb242, 1, none⟩ (.int .i64 0)).setCell ⟨gb242, 2, none⟩ (.int .i64 0)).setCell ⟨gb242, 3, none⟩ (.int .i64 5507)).setCell ⟨gb242, 4, none⟩ (.int .i64 0)).setCell ⟨gb242, 5, none⟩ (.int .i64 0)).setCell ⟨gb242, 6, none⟩ (.int .i64 0)).setCell ⟨gb242, 7, none⟩ (.int .i64 0)).setCell ⟨gb242, 8, none⟩ (.slice none 0 0)) w.heap.size (fun k_ => some k_ ≠ (.slice Ao73 t159.length co73 : Value).ownBlock ∧ some k_ ≠ (.slice Ao76 t172.length co76 : Value).ownBlock ∧ some k_ ≠ (.slice Ao81 t187.length co81 : Value).ownBlock ∧ some k_ ≠ (.slice Ao95 t226.length co95 : Value).ownBlock) (.slice Ao87 t202.length co87) t202) := ⟨by (with_reducible repeat (first | apply Kd.S_alloc | apply Kd.S_drewN | apply Kd.S_drew)); exact Kd.S_mono (Kd.S_far (p := ⟨gb242, 8, none⟩) (Kd.S_far (p := ⟨gb242, 7, none⟩) (Kd.S_far (p := ⟨gb242, 6, none⟩) (Kd.S_far (p := ⟨gb242, 5, none⟩) (Kd.S_far (p := ⟨gb242, 4, none⟩) (Kd.S_far (p := ⟨gb242, 3, none⟩) (Kd.S_far (p := ⟨gb242, 2, none⟩) (Kd.S_far (p := ⟨gb242, 1, none⟩) (Kd.S_far (p := ⟨gb242, 0, none⟩) (Kd.S_types HO204.out BK242.out (by decide)) (fun _ hk => hk.2) (.string (⟨#[87]⟩ : ByteArray))) (fun _ hk => hk.2) (.int .i64 0)) (fun _ hk => hk.2) (.int .i64 0)) (fun _ hk => hk.2) (.int .i64 5507)) (fun _ hk => hk.2) (.int .i64 0)) (fun _ hk => hk.2) (.int .i64 0)) (fun _ hk => hk.2) (.int .i64 0)) (fun _ hk => hk.2) (.int .i64 0)) (fun _ hk => hk.2) (.slice none 0 0)) (fun _ hk => ⟨hk.1.1.1.1.2, ⟨hk.1.1.1.2, ⟨hk.1.1.2, hk.1.2⟩⟩⟩)⟩
          have n4_ : Aside0 (Kd.V k104 104 (((((((((w103.setCell ⟨gb242, 0, none⟩ (.string (⟨#[87]⟩ : ByteArray))).setCell ⟨gb242, 1, none⟩ (.int .i64 0)).setCell ⟨gb242, 2, none⟩ (.int .i64 0)).setCell ⟨gb242, 3, none⟩ (.int .i64 5507)).setCell ⟨gb242, 4, none⟩ (.int .i64 0)).setCell ⟨gb242, 5, none⟩ (.int .i64 0)).setCell ⟨gb242, 6, none⟩ (.int .i64 0)).setCell ⟨gb242, 7, none⟩ (.int .i64 0)).setCell ⟨gb242, 8, none⟩ (.slice none 0 0)) w.heap.size (fun k_ => some k_ ≠ (.slice Ao73 t159.length co73 : Value).ownBlock ∧ some k_ ≠ (.slice Ao76 t172.length co76 : Value).ownBlock ∧ some k_ ≠ (.slice Ao81 t187.length co81 : Value).ownBlock ∧ some k_ ≠ (.slice Ao87 t202.length co87 : Value).ownBlock ∧ some k_ ≠ (.slice Ao95 t226.length co95 : Value).ownBlock ∧ k_ ≠ gb178 ∧ k_ ≠ gb193 ∧ k_ ≠ gb217 ∧ k_ ≠ gb241 ∧ k_ ≠ gb242) (.slice Ao93 t213.length co93) t213) := ⟨by (with_reducible repeat (first | apply Kd.V_alloc | apply Kd.V_drewN | apply Kd.V_drew)); exact Kd.V_mono (zV gb242 (Kd.V_mono HO215.out (fun k_ hk => (⟨hk, hk.2⟩ : _ ∧ k_ ≠ gb242))) (fun _ hk => hk.2) (.string (⟨#[87]⟩ : ByteArray)) (.int .i64 0) (.int .i64 0) (.int .i64 5507) (.int .i64 0) (.int .i64 0) (.int .i64 0) (.int .i64 0) (.slice none 0 0)) (fun _ hk => ⟨hk.1.1.1.1.1.1, ⟨hk.1.1.1.1.1.2.1, ⟨hk.1.1.1.1.1.2.2.1, ⟨hk.1.1.1.1.1.2.2.2.1, ⟨hk.1.1.1.2, ⟨hk.1.1.1.1.1.2.2.2.2.1, ⟨hk.1.1.1.1.1.2.2.2.2.2, ⟨hk.1.1.1.1.2, ⟨hk.1.1.2, hk.1.2⟩⟩⟩⟩⟩⟩⟩⟩⟩)⟩
          have n5_ : Aside0 (Kd.S k104 104 (((((((((w103.setCell ⟨gb242, 0, none⟩ (.string (⟨#[87]⟩ : ByteArray))).setCell ⟨gb242, 1, none⟩ (.int .i64 0)).setCell ⟨gb242, 2, none⟩ (.int .i64 0)).setCell ⟨gb242, 3, none⟩ (.int .i64 5507)).setCell ⟨gb242, 4, none⟩ (.int .i64 0)).setCell ⟨gb242, 5, none⟩ (.int .i64 0)).setCell ⟨gb242, 6, none⟩ (.int .i64 0)).setCell ⟨gb242, 7, none⟩ (.int .i64 0)).setCell ⟨gb242, 8, none⟩ (.slice none 0 0)) w.heap.size (fun k_ => some k_ ≠ (.slice Ao73 t159.length co73 : Value).ownBlock ∧ some k_ ≠ (.slice Ao76 t172.length co76 : Value).ownBlock ∧ some k_ ≠ (.slice Ao81 t187.length co81 : Value).ownBlock ∧ some k_ ≠ (.slice Ao87 t202.length co87 : Value).ownBlock) (.slice Ao95 t226.length co95) t226) := ⟨by (with_reducible repeat (first | apply Kd.S_alloc | apply Kd.S_drewN | apply Kd.S_drew)); exact Kd.S_mono (Kd.S_far (p := ⟨gb242, 8, none⟩) (Kd.S_far (p := ⟨gb242, 7, none⟩) (Kd.S_far (p := ⟨gb242, 6, none⟩) (Kd.S_far (p := ⟨gb242, 5, none⟩) (Kd.S_far (p := ⟨gb242, 4, none⟩) (Kd.S_far (p := ⟨gb242, 3, none⟩) (Kd.S_far (p := ⟨gb242, 2, none⟩) (Kd.S_far (p := ⟨gb242, 1, none⟩) (Kd.S_far (p := ⟨gb242, 0, none⟩) (Kd.S_types HO228.out BK242.out (by decide)) (fun _ hk => hk.2) (.string (⟨#[87]⟩ : ByteArray))) (fun _ hk => hk.2) (.int .i64 0)) (fun _ hk => hk.2) (.int .i64 0)) (fun _ hk => hk.2) (.int .i64 5507)) (fun _ hk => hk.2) (.int .i64 0)) (fun _ hk => hk.2) (.int .i64 0)) (fun _ hk => hk.2) (.int .i64 0)) (fun _ hk => hk.2) (.int .i64 0)) (fun _ hk => hk.2) (.slice none 0 0)) (fun _ hk => ⟨hk.1.1.1.1.2, ⟨hk.1.1.1.2, ⟨hk.1.1.2, hk.1.2⟩⟩⟩)⟩
          have n6_ : Aside0 (Kd.V k104 104 (((((((((w103.setCell ⟨gb242, 0, none⟩ (.string (⟨#[87]⟩ : ByteArray))).setCell ⟨gb242, 1, none⟩ (.int .i64 0)).setCell ⟨gb242, 2, none⟩ (.int .i64 0)).setCell ⟨gb242, 3, none⟩ (.int .i64 5507)).setCell ⟨gb242, 4, none⟩ (.int .i64 0)).setCell ⟨gb242, 5, none⟩ (.int .i64 0)).setCell ⟨gb242, 6, none⟩ (.int .i64 0)).setCell ⟨gb242, 7, none⟩ (.int .i64 0)).setCell ⟨gb242, 8, none⟩ (.slice none 0 0)) w.heap.size (fun k_ => some k_ ≠ (.slice Ao73 t159.length co73 : Value).ownBlock ∧ some k_ ≠ (.slice Ao76 t172.length co76 : Value).ownBlock ∧ some k_ ≠ (.slice Ao81 t187.length co81 : Value).ownBlock ∧ some k_ ≠ (.slice Ao87 t202.length co87 : Value).ownBlock ∧ some k_ ≠ (.slice Ao95 t226.length co95 : Value).ownBlock ∧ k_ ≠ gb178 ∧ k_ ≠ gb193 ∧ k_ ≠ gb217 ∧ k_ ≠ gb241 ∧ k_ ≠ gb242) (.slice Ao102 t237.length co102) t237) := ⟨by (with_reducible repeat (first | apply Kd.V_alloc | apply Kd.V_drewN | apply Kd.V_drew)); exact Kd.V_mono (zV gb242 (Kd.V_mono HO239.out (fun k_ hk => (⟨hk, hk.2⟩ : _ ∧ k_ ≠ gb242))) (fun _ hk => hk.2) (.string (⟨#[87]⟩ : ByteArray)) (.int .i64 0) (.int .i64 0) (.int .i64 5507) (.int .i64 0) (.int .i64 0) (.int .i64 0) (.int .i64 0) (.slice none 0 0)) (fun _ hk => ⟨hk.1.1.1.1, ⟨hk.1.1.1.2.1, ⟨hk.1.1.1.2.2.1, ⟨hk.1.1.1.2.2.2.1, ⟨hk.1.1.1.2.2.2.2.1, ⟨hk.1.1.1.2.2.2.2.2.1, ⟨hk.1.1.1.2.2.2.2.2.2.1, ⟨hk.1.1.1.2.2.2.2.2.2.2, ⟨hk.1.1.2, hk.1.2⟩⟩⟩⟩⟩⟩⟩⟩⟩)⟩
          have n7_ : Aside0 ((((((((((w103.setCell ⟨gb242, 0, none⟩ (.string (⟨#[87]⟩ : ByteArray))).setCell ⟨gb242, 1, none⟩ (.int .i64 0)).setCell ⟨gb242, 2, none⟩ (.int .i64 0)).setCell ⟨gb242, 3, none⟩ (.int .i64 5507)).setCell ⟨gb242, 4, none⟩ (.int .i64 0)).setCell ⟨gb242, 5, none⟩ (.int .i64 0)).setCell ⟨gb242, 6, none⟩ (.int .i64 0)).setCell ⟨gb242, 7, none⟩ (.int .i64 0)).setCell ⟨gb242, 8, none⟩ (.slice none 0 0)).heap[gb178]? = some (.cells #[.int .i64 t175, .int .i64 t176] 25 (0, 0))) := ⟨by (with_reducible repeat first | apply zd | apply ze | apply za); refine zF ?_ NB178_242.out _ _ _ _ _ _ _ _ _; (with_reducible repeat first | apply zd | apply ze | apply za); exact BK178.out⟩
          have n8_ : Aside0 ((((((((((w103.setCell ⟨gb242, 0, none⟩ (.string (⟨#[87]⟩ : ByteArray))).setCell ⟨gb242, 1, none⟩ (.int .i64 0)).setCell ⟨gb242, 2, none⟩ (.int .i64 0)).setCell ⟨gb242, 3, none⟩ (.int .i64 5507)).setCell ⟨gb242, 4, none⟩ (.int .i64 0)).setCell ⟨gb242, 5, none⟩ (.int .i64 0)).setCell ⟨gb242, 6, none⟩ (.int .i64 0)).setCell ⟨gb242, 7, none⟩ (.int .i64 0)).setCell ⟨gb242, 8, none⟩ (.slice none 0 0)).heap[gb193]? = some (.cells #[.int .i64 t190, .int .i64 t191] 25 (0, 0))) := ⟨by (with_reducible repeat first | apply zd | apply ze | apply za); refine zF ?_ NB193_242.out _ _ _ _ _ _ _ _ _; (with_reducible repeat first | apply zd | apply ze | apply za); exact BK193.out⟩
          have n9_ : Aside0 ((((((((((w103.setCell ⟨gb242, 0, none⟩ (.string (⟨#[87]⟩ : ByteArray))).setCell ⟨gb242, 1, none⟩ (.int .i64 0)).setCell ⟨gb242, 2, none⟩ (.int .i64 0)).setCell ⟨gb242, 3, none⟩ (.int .i64 5507)).setCell ⟨gb242, 4, none⟩ (.int .i64 0)).setCell ⟨gb242, 5, none⟩ (.int .i64 0)).setCell ⟨gb242, 6, none⟩ (.int .i64 0)).setCell ⟨gb242, 7, none⟩ (.int .i64 0)).setCell ⟨gb242, 8, none⟩ (.slice none 0 0)).heap[gb217]? = some (.cells #[.string t205, .int .i64 t206, .int .i64 t207, .int .i64 t208, .int .i64 t209, .int .i64 t210, .int .i64 t211, .int .i64 t212, .slice Ao93 t213.length co93] 28 (0, 0))) := ⟨by (with_reducible repeat first | apply zd | apply ze | apply za); refine zF ?_ NB217_242.out _ _ _ _ _ _ _ _ _; (with_reducible repeat first | apply zd | apply ze | apply za); exact BK217.out⟩
          have n10_ : Aside0 ((((((((((w103.setCell ⟨gb242, 0, none⟩ (.string (⟨#[87]⟩ : ByteArray))).setCell ⟨gb242, 1, none⟩ (.int .i64 0)).setCell ⟨gb242, 2, none⟩ (.int .i64 0)).setCell ⟨gb242, 3, none⟩ (.int .i64 5507)).setCell ⟨gb242, 4, none⟩ (.int .i64 0)).setCell ⟨gb242, 5, none⟩ (.int .i64 0)).setCell ⟨gb242, 6, none⟩ (.int .i64 0)).setCell ⟨gb242, 7, none⟩ (.int .i64 0)).setCell ⟨gb242, 8, none⟩ (.slice none 0 0)).heap[gb241]? = some (.cells #[.string t229, .int .i64 t230, .int .i64 t231, .int .i64 t232, .int .i64 t233, .int .i64 t234, .int .i64 t235, .int .i64 t236, .slice Ao102 t237.length co102] 28 (0, 0))) := ⟨by (with_reducible repeat first | apply zd | apply ze | apply za); refine zF ?_ NB241_242.out _ _ _ _ _ _ _ _ _; (with_reducible repeat first | apply zd | apply ze | apply za); exact BK241.out⟩
          have n11_ : Aside0 ((((((((((w103.setCell ⟨gb242, 0, none⟩ (.string (⟨#[87]⟩ : ByteArray))).setCell ⟨gb242, 1, none⟩ (.int .i64 0)).setCell ⟨gb242, 2, none⟩ (.int .i64 0)).setCell ⟨gb242, 3, none⟩ (.int .i64 5507)).setCell ⟨gb242, 4, none⟩ (.int .i64 0)).setCell ⟨gb242, 5, none⟩ (.int .i64 0)).setCell ⟨gb242, 6, none⟩ (.int .i64 0)).setCell ⟨gb242, 7, none⟩ (.int .i64 0)).setCell ⟨gb242, 8, none⟩ (.slice none 0 0)).heap[gb242]? = some (.cells #[.string (⟨#[87]⟩ : ByteArray), .int .i64 0, .int .i64 0, .int .i64 5507, .int .i64 0, .int .i64 0, .int .i64 0, .int .i64 0, .slice none 0 0] 28 (0, 0))) := ⟨by (with_reducible repeat first | apply zd | apply ze | apply za); refine blk_put (cs := #[.string (⟨#[87]⟩ : ByteArray), .int .i64 0, .int .i64 0, .int .i64 5507, .int .i64 0, .int .i64 0, .int .i64 0, .int .i64 0, .slice none 0 0]) ?_ 8 _ rfl; (with_reducible repeat first | apply zd | apply ze | apply za); refine blk_put (cs := #[.string (⟨#[87]⟩ : ByteArray), .int .i64 0, .int .i64 0, .int .i64 5507, .int .i64 0, .int .i64 0, .int .i64 0, .int .i64 0, .slice none 0 0]) ?_ 7 _ rfl; (with_reducible repeat first | apply zd | apply ze | apply za); refine blk_put (cs := #[.string (⟨#[87]⟩ : ByteArray), .int .i64 0, .int .i64 0, .int .i64 5507, .int .i64 0, .int .i64 0, .int .i64 0, .int .i64 0, .slice none 0 0]) ?_ 6 _ rfl; (with_reducible repeat first | apply zd | apply ze | apply za); refine blk_put (cs := #[.string (⟨#[87]⟩ : ByteArray), .int .i64 0, .int .i64 0, .int .i64 5507, .int .i64 0, .int .i64 0, .int .i64 0, .int .i64 0, .slice none 0 0]) ?_ 5 _ rfl; (with_reducible repeat first | apply zd | apply ze | apply za); refine blk_put (cs := #[.string (⟨#[87]⟩ : ByteArray), .int .i64 0, .int .i64 0, .int .i64 5507, .int .i64 0, .int .i64 0, .int .i64 0, .int .i64 0, .slice none 0 0]) ?_ 4 _ rfl; (with_reducible repeat first | apply zd | apply ze | apply za); refine blk_put (cs := #[.string (⟨#[87]⟩ : ByteArray), .int .i64 0, .int .i64 0, .int .i64 0, .int .i64 0, .int .i64 0, .int .i64 0, .int .i64 0, .slice none 0 0]) ?_ 3 _ rfl; (with_reducible repeat first | apply zd | apply ze | apply za); refine blk_put (cs := #[.string (⟨#[87]⟩ : ByteArray), .int .i64 0, .int .i64 0, .int .i64 0, .int .i64 0, .int .i64 0, .int .i64 0, .int .i64 0, .slice none 0 0]) ?_ 2 _ rfl; (with_reducible repeat first | apply zd | apply ze | apply za); refine blk_put (cs := #[.string (⟨#[87]⟩ : ByteArray), .int .i64 0, .int .i64 0, .int .i64 0, .int .i64 0, .int .i64 0, .int .i64 0, .int .i64 0, .slice none 0 0]) ?_ 1 _ rfl; (with_reducible repeat first | apply zd | apply ze | apply za); refine blk_put (cs := #[.string (⟨#[]⟩ : ByteArray), .int .i64 0, .int .i64 0, .int .i64 0, .int .i64 0, .int .i64 0, .int .i64 0, .int .i64 0, .slice none 0 0]) ?_ 0 _ rfl; (with_reducible repeat first | apply zd | apply ze | apply za); exact BK242.out⟩
          have n12_ : Aside0 (Below w.heap.size w (((((((((w103.setCell ⟨gb242, 0, none⟩ (.string (⟨#[87]⟩ : ByteArray))).setCell ⟨gb242, 1, none⟩ (.int .i64 0)).setCell ⟨gb242, 2, none⟩ (.int .i64 0)).setCell ⟨gb242, 3, none⟩ (.int .i64 5507)).setCell ⟨gb242, 4, none⟩ (.int .i64 0)).setCell ⟨gb242, 5, none⟩ (.int .i64 0)).setCell ⟨gb242, 6, none⟩ (.int .i64 0)).setCell ⟨gb242, 7, none⟩ (.int .i64 0)).setCell ⟨gb242, 8, none⟩ (.slice none 0 0))) := ⟨by repeat (first | (with_reducible first | exact HB.out | apply zA | apply zD | apply zE | refine zS ?_ GE178.out | refine zS ?_ GE193.out | refine zS ?_ GE217.out | refine zS ?_ GE241.out | refine zS ?_ GE242.out) | exact HB.out)⟩
          (try clear HO161)
          (try clear HO174)
          (try clear HO189)
          (try clear HO204)
          (try clear HO215)
          (try clear HO228)
          (try clear HO239)
          (try clear BK178)
          (try clear BK193)
          (try clear BK217)
          (try clear BK241)
          (try clear BK242)
          (try clear HB)
          generalize (((((((((w103.setCell ⟨gb242, 0, none⟩ (.string (⟨#[87]⟩ : ByteArray))).setCell ⟨gb242, 1, none⟩ (.int .i64 0)).setCell ⟨gb242, 2, none⟩ (.int .i64 0)).setCell ⟨gb242, 3, none⟩ (.int .i64 5507)).setCell ⟨gb242, 4, none⟩ (.int .i64 0)).setCell ⟨gb242, 5, none⟩ (.int .i64 0)).setCell ⟨gb242, 6, none⟩ (.int .i64 0)).setCell ⟨gb242, 7, none⟩ (.int .i64 0)).setCell ⟨gb242, 8, none⟩ (.slice none 0 0)) = w109 at n0_ n1_ n2_ n3_ n4_ n5_ n6_ n7_ n8_ n9_ n10_ n11_ n12_ ⊢
          have HO161 := n0_
          have HO174 := n1_
          have HO189 := n2_
          have HO204 := n3_
          have HO215 := n4_
          have HO228 := n5_
          have HO239 := n6_
          have BK178 := n7_
          have BK193 := n8_
          have BK217 := n9_
          have BK241 := n10_
          have BK242 := n11_
          have HB := n12_
          clear n0_ n1_ n2_ n3_ n4_ n5_ n6_ n7_ n8_ n9_ n10_ n11_ n12_
          have n0_ := zm (Kd.S_drew HO161.out)
          have n1_ := zm (Kd.S_drew HO174.out)
          have n2_ := zm (Kd.S_drew HO189.out)
          have n3_ := zm (Kd.S_drew HO204.out)
          have n4_ := zm (Kd.V_drew HO215.out)
          have n5_ := zm (Kd.S_drew HO228.out)
          have n6_ := zm (Kd.V_drew HO239.out)
          have n7_ := zm (ze BK178.out)
          have n8_ := zm (ze BK193.out)
          have n9_ := zm (ze BK217.out)
          have n10_ := zm (ze BK241.out)
          have n11_ := zm (ze BK242.out)
          have n12_ := zm (zE HB.out)
          clear HO161 HO174 HO189 HO204 HO215 HO228 HO239 BK178 BK193 BK217 BK241 BK242 HB
          have HO161 := n0_
          have HO174 := n1_
          have HO189 := n2_
          have HO204 := n3_
          have HO215 := n4_
          have HO228 := n5_
          have HO239 := n6_
          have BK178 := n7_
          have BK193 := n8_
          have BK217 := n9_
          have BK241 := n10_
          have BK242 := n11_
          have HB := n12_
          clear n0_ n1_ n2_ n3_ n4_ n5_ n6_ n7_ n8_ n9_ n10_ n11_ n12_
          refine start_ (n := 8) (S := fun w' => w'.cell? ⟨gb242, 0, none⟩ = some (.string (⟨#[87]⟩ : ByteArray)) ∧ w'.cell? ⟨gb242, 1, none⟩ = some (.int .i64 0) ∧ w'.cell? ⟨gb242, 2, none⟩ = some (.int .i64 0) ∧ w'.cell? ⟨gb242, 3, none⟩ = some (.int .i64 5507) ∧ w'.cell? ⟨gb242, 4, none⟩ = some (.int .i64 0) ∧ w'.cell? ⟨gb242, 5, none⟩ = some (.int .i64 0) ∧ w'.cell? ⟨gb242, 6, none⟩ = some (.int .i64 0) ∧ w'.cell? ⟨gb242, 7, none⟩ = some (.int .i64 0) ∧ w'.cell? ⟨gb242, 8, none⟩ = some (.slice none 0 0)) (ds := []) #[false, false, false, false, false, false, false, false] (by kernel_rfl) rfl rfl ⟨(blk_cell BK242.out 0).trans rfl, (blk_cell BK242.out 1).trans rfl, (blk_cell BK242.out 2).trans rfl, (blk_cell BK242.out 3).trans rfl, (blk_cell BK242.out 4).trans rfl, (blk_cell BK242.out 5).trans rfl, (blk_cell BK242.out 6).trans rfl, (blk_cell BK242.out 7).trans rfl, (blk_cell BK242.out 8).trans rfl⟩ (fun hHeld => ?_); refine with_tabW awk0.tab7 awk0.bits7 (fun HT_ HW_ => ?_)
          generalize w109.drew = w110 at HO161 HO174 HO189 HO204 HO215 HO228 HO239 BK178 BK193 BK217 BK241 BK242 HB hHeld ⊢
          refine take_ (i := 1) (N := some 45) (v := ?_) (a' := ?_) #[false, true, false, false, false, false, false, false] rfl rfl (take_ofW HT_.out HW_.out (by kernel_rfl)) (fun _ _ _ h => h) (Or.inl ⟨by rfl, ?_⟩) hHeld ?_ ?_
          rotate_left
          ·rintro w' ⟨s0, s1, s2, s3, s4, s5, s6, s7, s8⟩
           go_simp
           with_reducible rfl
          rotate_left
          ·simp only [Act.put, zx, zy, zz, i64_w, i32_w]
           rfl
          refine one_ (i := 0) (N := some 44) #[true, true, false, false, false, false, false, false] rfl rfl (one_of HT_.out (by kernel_rfl)) (by decide) (fun K hK => ?_)
          refine goes_ Try.func67 (by kernel_rfl) rfl #[] (by rfl) rfl rfl (by (try simp only [List.map_toArray, List.map_cons, List.map_nil]); first | done | rfl | (simp only [List.length_drop, List.length_take]; rfl)) ?_
          with_reducible refine (metrolablaw18_Hole.calls  t243 t244 t245 t246 t247 t248 t249 t250 t251 _ A11.out).mono ?_
          rintro e w111 ⟨v252, rfl, ho0, hb⟩
          refine ⟨_, rfl, ?_⟩
          have n0_ := zm (Kd.S_elder' (by (with_reducible repeat (first | apply Kd.S_alloc | apply Kd.S_drewN | apply Kd.S_drew)); exact HO161.out) (Kd.S_base ho0) hb)
          have n1_ := zm (Kd.S_elder' (by (with_reducible repeat (first | apply Kd.S_alloc | apply Kd.S_drewN | apply Kd.S_drew)); exact HO174.out) (Kd.S_base ho0) hb)
          have n2_ := zm (Kd.S_elder' (by (with_reducible repeat (first | apply Kd.S_alloc | apply Kd.S_drewN | apply Kd.S_drew)); exact HO189.out) (Kd.S_base ho0) hb)
          have n3_ := zm (Kd.S_elder' (by (with_reducible repeat (first | apply Kd.S_alloc | apply Kd.S_drewN | apply Kd.S_drew)); exact HO204.out) (Kd.S_base ho0) hb)
          have n4_ := zm (Kd.V_elder' (by (with_reducible repeat (first | apply Kd.V_alloc | apply Kd.V_drewN | apply Kd.V_drew)); exact HO215.out) (Kd.S_base ho0) hb)
          have n5_ := zm (Kd.S_elder' (by (with_reducible repeat (first | apply Kd.S_alloc | apply Kd.S_drewN | apply Kd.S_drew)); exact HO228.out) (Kd.S_base ho0) hb)
          have n6_ := zm (Kd.V_elder' (by (with_reducible repeat (first | apply Kd.V_alloc | apply Kd.V_drewN | apply Kd.V_drew)); exact HO239.out) (Kd.S_base ho0) hb)
          have n7_ := zm (Kd.S_lower (Kd.S_new' (Kd.S_new' (Kd.S_new' (Kd.S_new' (Kd.S_new' ho0 (Kd.S_lt (by (with_reducible repeat (first | apply Kd.S_alloc | apply Kd.S_drewN | apply Kd.S_drew)); exact HO161.out))) (Kd.S_lt (by (with_reducible repeat (first | apply Kd.S_alloc | apply Kd.S_drewN | apply Kd.S_drew)); exact HO174.out))) (Kd.S_lt (by (with_reducible repeat (first | apply Kd.S_alloc | apply Kd.S_drewN | apply Kd.S_drew)); exact HO189.out))) (Kd.S_lt (by (with_reducible repeat (first | apply Kd.S_alloc | apply Kd.S_drewN | apply Kd.S_drew)); exact HO204.out))) (Kd.S_lt (by (with_reducible repeat (first | apply Kd.S_alloc | apply Kd.S_drewN | apply Kd.S_drew)); exact HO228.out))) (below_size (by repeat (first | (with_reducible first | exact HB.out | apply zA | apply zD | apply zE | refine zS ?_ GE178.out | refine zS ?_ GE193.out | refine zS ?_ GE217.out | refine zS ?_ GE241.out | refine zS ?_ GE242.out) | exact HB.out))))
          have n8_ := zm (zb (g := gb178) (by (with_reducible repeat first | apply zd | apply ze | apply za); exact BK178.out) hb)
          have n9_ := zm (zb (g := gb193) (by (with_reducible repeat first | apply zd | apply ze | apply za); exact BK193.out) hb)
          have n10_ := zm (zb (g := gb217) (by (with_reducible repeat first | apply zd | apply ze | apply za); exact BK217.out) hb)
          have n11_ := zm (zb (g := gb241) (by (with_reducible repeat first | apply zd | apply ze | apply za); exact BK241.out) hb)
          have n12_ := zm (zb (g := gb242) (o := .cells #[.string (⟨#[87]⟩ : ByteArray), .int .i64 0, .int .i64 0, .int .i64 5507, .int .i64 0, .int .i64 0, .int .i64 0, .int .i64 0, .slice none 0 0] 28 (0, 0)) (by (with_reducible repeat first | apply zd | apply ze | apply za); exact BK242.out) hb)
          have n13_ := zm (below_step (by repeat (first | (with_reducible first | exact HB.out | apply zA | apply zD | apply zE | refine zS ?_ GE178.out | refine zS ?_ GE193.out | refine zS ?_ GE217.out | refine zS ?_ GE241.out | refine zS ?_ GE242.out) | exact HB.out)) hb)
          clear HO161 HO174 HO189 HO204 HO215 HO228 HO239 BK178 BK193 BK217 BK241 BK242 HB
          have HO161 := n0_
          have HO174 := n1_
          have HO189 := n2_
          have HO204 := n3_
          have HO215 := n4_
          have HO228 := n5_
          have HO239 := n6_
          have HO253 := n7_
          have BK178 := n8_
          have BK193 := n9_
          have BK217 := n10_
          have BK241 := n11_
          have BK242 := n12_
          have HB := n13_
          clear n0_ n1_ n2_ n3_ n4_ n5_ n6_ n7_ n8_ n9_ n10_ n11_ n12_ n13_
          (try clear hb)
          (try clear hb2)
          (try clear hk)
          (try clear hi)
          (try clear ho0)
          obtain ⟨Ao112, co112, eo112⟩ := Kd.S_slice HO253.out
          (first | subst eo112 | (injection eo112 with f1_ f2_ f3_; have f4_ := f1_.symm; have f5_ := f3_.symm; clear f1_ f2_ f3_; subst f4_; subst f5_))
          refine hK.out _ _ ⟨(blk_cell BK242.out 0).trans rfl, (blk_cell BK242.out 1).trans rfl, (blk_cell BK242.out 2).trans rfl, (blk_cell BK242.out 3).trans rfl, (blk_cell BK242.out 4).trans rfl, (blk_cell BK242.out 5).trans rfl, (blk_cell BK242.out 6).trans rfl, (blk_cell BK242.out 7).trans rfl, (blk_cell BK242.out 8).trans rfl⟩ (fun hHeld => ?_)
          clear hK K
          refine norm_ (a' := ?_) ?_ ?_
          rotate_left
          ·show Act.put _ (some 44) _ = _
           simp only [Act.put, zx, zy, zz, i64_w, i32_w]
           rfl
          refine one_ (i := 2) (N := some 46) #[true, true, true, false, false, false, false, false] rfl rfl (one_of HT_.out (by kernel_rfl)) (by decide) (fun K hK => ?_)
          refine goes_ Try.func21 (by kernel_rfl) rfl #[.agg #[.string t243, .int .i64 t244, .int .i64 t245, .int .i64 t246, .int .i64 t247, .int .i64 t248, .int .i64 t249, .int .i64 t250, .slice Ao112 t251.length co112], .agg #[.string (⟨#[87]⟩ : ByteArray), .int .i64 0, .int .i64 0, .int .i64 5507, .int .i64 0, .int .i64 0, .int .i64 0, .int .i64 0, .slice none 0 0]] (by rfl) rfl rfl (by (try simp only [List.map_toArray, List.map_cons, List.map_nil]); first | done | rfl | (simp only [List.length_drop, List.length_take]; rfl)) ?_
          refine (feature_Separate.calls k t243 t244 t245 t246 t247 t248 t249 t250 (fun k_ => ((((((((((True ∧ some k_ ≠ (.slice Ao73 t159.length co73 : Value).ownBlock) ∧ some k_ ≠ (.slice Ao76 t172.length co76 : Value).ownBlock) ∧ some k_ ≠ (.slice Ao81 t187.length co81 : Value).ownBlock) ∧ some k_ ≠ (.slice Ao87 t202.length co87 : Value).ownBlock) ∧ some k_ ≠ (.slice Ao95 t226.length co95 : Value).ownBlock) ∧ k_ ≠ gb178) ∧ k_ ≠ gb193) ∧ k_ ≠ gb217) ∧ k_ ≠ gb241) ∧ k_ ≠ gb242)) _ _ t251 (⟨#[87]⟩ : ByteArray) 0 0 5507 0 0 0 0 (fun k_ => False) _ _ ([] : List (S104)) true t255 _ ?side1 ?side2 A12.out).mono ?_
          (case side1 => exact Kd.S_V (Kd.S_types (Kd.S_types (Kd.S_types (Kd.S_types (Kd.S_types (HO253.out) BK178.out (by decide)) BK193.out (by decide)) BK217.out (by decide)) BK241.out (by decide)) BK242.out (by decide)))
          (case side2 => exact Kd.V_nil _ _ _ _ _)
          rintro e w113 ⟨rfl, hb⟩
          refine ⟨_, rfl, ?_⟩
          have n0_ := zm (Kd.S_below (by (with_reducible repeat (first | apply Kd.S_alloc | apply Kd.S_drewN | apply Kd.S_drew)); exact HO161.out) hb)
          have n1_ := zm (Kd.S_below (by (with_reducible repeat (first | apply Kd.S_alloc | apply Kd.S_drewN | apply Kd.S_drew)); exact HO174.out) hb)
          have n2_ := zm (Kd.S_below (by (with_reducible repeat (first | apply Kd.S_alloc | apply Kd.S_drewN | apply Kd.S_drew)); exact HO189.out) hb)
          have n3_ := zm (Kd.S_below (by (with_reducible repeat (first | apply Kd.S_alloc | apply Kd.S_drewN | apply Kd.S_drew)); exact HO204.out) hb)
          have n4_ := zm (Kd.V_below (by (with_reducible repeat (first | apply Kd.V_alloc | apply Kd.V_drewN | apply Kd.V_drew)); exact HO215.out) hb)
          have n5_ := zm (Kd.S_below (by (with_reducible repeat (first | apply Kd.S_alloc | apply Kd.S_drewN | apply Kd.S_drew)); exact HO228.out) hb)
          have n6_ := zm (Kd.V_below (by (with_reducible repeat (first | apply Kd.V_alloc | apply Kd.V_drewN | apply Kd.V_drew)); exact HO239.out) hb)
          have n7_ := zm (Kd.S_below (by (with_reducible repeat (first | apply Kd.S_alloc | apply Kd.S_drewN | apply Kd.S_drew)); exact HO253.out) hb)
          have n8_ := zm (zb (g := gb178) (by (with_reducible repeat first | apply zd | apply ze | apply za); exact BK178.out) hb)
          have n9_ := zm (zb (g := gb193) (by (with_reducible repeat first | apply zd | apply ze | apply za); exact BK193.out) hb)
          have n10_ := zm (zb (g := gb217) (by (with_reducible repeat first | apply zd | apply ze | apply za); exact BK217.out) hb)
          have n11_ := zm (zb (g := gb241) (by (with_reducible repeat first | apply zd | apply ze | apply za); exact BK241.out) hb)
          have n12_ := zm (zb (g := gb242) (o := .cells #[.string (⟨#[87]⟩ : ByteArray), .int .i64 0, .int .i64 0, .int .i64 5507, .int .i64 0, .int .i64 0, .int .i64 0, .int .i64 0, .slice none 0 0] 28 (0, 0)) (by (with_reducible repeat first | apply zd | apply ze | apply za); exact BK242.out) hb)
          have n13_ := zm (below_step (by repeat (first | (with_reducible first | exact HB.out | apply zA | apply zD | apply zE | refine zS ?_ GE178.out | refine zS ?_ GE193.out | refine zS ?_ GE217.out | refine zS ?_ GE241.out | refine zS ?_ GE242.out) | exact HB.out)) hb)
          clear HO161 HO174 HO189 HO204 HO215 HO228 HO239 HO253 BK178 BK193 BK217 BK241 BK242 HB
          have HO161 := n0_
          have HO174 := n1_
          have HO189 := n2_
          have HO204 := n3_
          have HO215 := n4_
          have HO228 := n5_
          have HO239 := n6_
          have HO253 := n7_
          have BK178 := n8_
          have BK193 := n9_
          have BK217 := n10_
          have BK241 := n11_
          have BK242 := n12_
          have HB := n13_
          clear n0_ n1_ n2_ n3_ n4_ n5_ n6_ n7_ n8_ n9_ n10_ n11_ n12_ n13_
          (try clear hb)
          (try clear hb2)
          (try clear hk)
          (try clear hi)
          refine hK.out _ _ ⟨(blk_cell BK242.out 0).trans rfl, (blk_cell BK242.out 1).trans rfl, (blk_cell BK242.out 2).trans rfl, (blk_cell BK242.out 3).trans rfl, (blk_cell BK242.out 4).trans rfl, (blk_cell BK242.out 5).trans rfl, (blk_cell BK242.out 6).trans rfl, (blk_cell BK242.out 7).trans rfl, (blk_cell BK242.out 8).trans rfl⟩ (fun hHeld => ?_)
          clear hK K
          refine norm_ (a' := ?_) ?_ ?_
          rotate_left
          ·show Act.put _ (some 46) _ = _
           simp only [Act.put, zx, zy, zz, i64_w, i32_w]
           rfl
          refine pure_ (i := 3) (N := some 43) (v := ?_) (a' := ?_) #[true, true, true, true, false, false, false, false] rfl rfl (any_of HT_.out (by kernel_rfl)) (fun _ _ _ h => h) (Or.inl ⟨by rfl, ?_⟩) ?_ ?_
          rotate_left
          ·intro w'
           go_simp
           with_reducible rfl
          rotate_left
          ·simp only [Act.put, zx, zy, zz, i64_w, i32_w]
           rfl
          refine pure_ (i := 4) (N := some 47) (v := ?_) (a' := ?_) #[true, true, true, true, true, false, false, false] rfl rfl (any_of HT_.out (by kernel_rfl)) (fun _ _ _ h => h) (Or.inl ⟨by rfl, ?_⟩) ?_ ?_
          rotate_left
          ·intro w'
           go_simp
           with_reducible rfl
          rotate_left
          ·simp only [Act.put, zx, zy, zz, i64_w, i32_w]
           rfl
          refine pure_ (i := 5) (N := some 48) (v := ?_) (a' := ?_) #[true, true, true, true, true, true, false, false] rfl rfl (any_of HT_.out (by kernel_rfl)) (fun _ _ _ h => h) (Or.inl ⟨by rfl, ?_⟩) ?_ ?_
          rotate_left
          ·intro w'
           go_simp
           with_reducible rfl
          rotate_left
          ·simp only [Act.put, zx, zy, zz, i64_w, i32_w]
           rfl
          refine pure_ (i := 6) (N := some 12) (v := ?_) (a' := ?_) #[true, true, true, true, true, true, true, false] rfl rfl (any_of HT_.out (by kernel_rfl)) (fun _ _ _ h => h) (Or.inl ⟨by rfl, ?_⟩) ?_ ?_
          rotate_left
          ·intro w'
           go_simp
           with_reducible rfl
          rotate_left
          ·simp only [Act.put, zx, zy, zz, i64_w, i32_w]
           rfl
          refine pure_ (i := 7) (N := some 13) (v := ?_) (a' := ?_) #[true, true, true, true, true, true, true, true] rfl rfl (any_of HT_.out (by kernel_rfl)) (fun _ _ _ h => h) (Or.inl ⟨by rfl, ?_⟩) ?_ ?_
          rotate_left
          ·intro w'
           go_simp
           with_reducible rfl
          rotate_left
          ·simp only [Act.put, zx, zy, zz, i64_w, i32_w]
           rfl
          refine done_ (done_of HT_.out (by kernel_rfl)) ?_
          have hcz114_0 := zc BK242.out 0 (.string (⟨#[87]⟩ : ByteArray)) rfl
          have hcz114_1 := zc BK242.out 1 (.int .i64 0) rfl
          have hcz114_2 := zc BK242.out 2 (.int .i64 0) rfl
          have hcz114_3 := zc BK242.out 3 (.int .i64 5507) rfl
          have hcz114_4 := zc BK242.out 4 (.int .i64 0) rfl
          have hcz114_5 := zc BK242.out 5 (.int .i64 0) rfl
          have hcz114_6 := zc BK242.out 6 (.int .i64 0) rfl
          have hcz114_7 := zc BK242.out 7 (.int .i64 0) rfl
          have hcz114_8 := zc BK242.out 8 (.slice none 0 0) rfl
          have hfz114_0 := zf BK242.out 0
          have hfz114_1 := zf BK242.out 1
          have hfz114_2 := zf BK242.out 2
          have hfz114_3 := zf BK242.out 3
          have hfz114_4 := zf BK242.out 4
          have hfz114_5 := zf BK242.out 5
          have hfz114_6 := zf BK242.out 6
          have hfz114_7 := zf BK242.out 7
          have hfz114_8 := zf BK242.out 8
          try go_wp2
          have n0_ : Aside0 (Kd.S k104 104 (w113.setCell ⟨gb242, 3, none⟩ (.int .i64 5506)) w.heap.size (fun k_ => some k_ ≠ (.slice Ao76 t172.length co76 : Value).ownBlock ∧ some k_ ≠ (.slice Ao81 t187.length co81 : Value).ownBlock ∧ some k_ ≠ (.slice Ao87 t202.length co87 : Value).ownBlock ∧ some k_ ≠ (.slice Ao95 t226.length co95 : Value).ownBlock ∧ some k_ ≠ (.slice Ao112 t251.length co112 : Value).ownBlock) (.slice Ao73 t159.length co73) t159) := ⟨by (with_reducible repeat (first | apply Kd.S_alloc | apply Kd.S_drewN | apply Kd.S_drew)); exact Kd.S_mono (Kd.S_far (p := ⟨gb242, 3, none⟩) (Kd.S_types HO161.out BK242.out (by decide)) (fun _ hk => hk.2) (.int .i64 5506)) (fun _ hk => ⟨hk.1.1.1, ⟨hk.1.1.2.1, ⟨hk.1.1.2.2.1, ⟨hk.1.1.2.2.2, hk.1.2⟩⟩⟩⟩)⟩
          have n1_ : Aside0 (Kd.S k104 104 (w113.setCell ⟨gb242, 3, none⟩ (.int .i64 5506)) w.heap.size (fun k_ => some k_ ≠ (.slice Ao73 t159.length co73 : Value).ownBlock ∧ some k_ ≠ (.slice Ao81 t187.length co81 : Value).ownBlock ∧ some k_ ≠ (.slice Ao87 t202.length co87 : Value).ownBlock ∧ some k_ ≠ (.slice Ao95 t226.length co95 : Value).ownBlock ∧ some k_ ≠ (.slice Ao112 t251.length co112 : Value).ownBlock) (.slice Ao76 t172.length co76) t172) := ⟨by (with_reducible repeat (first | apply Kd.S_alloc | apply Kd.S_drewN | apply Kd.S_drew)); exact Kd.S_mono (Kd.S_far (p := ⟨gb242, 3, none⟩) (Kd.S_types HO174.out BK242.out (by decide)) (fun _ hk => hk.2) (.int .i64 5506)) (fun _ hk => ⟨hk.1.1.1, ⟨hk.1.1.2.1, ⟨hk.1.1.2.2.1, ⟨hk.1.1.2.2.2, hk.1.2⟩⟩⟩⟩)⟩
          have n2_ : Aside0 (Kd.S k104 104 (w113.setCell ⟨gb242, 3, none⟩ (.int .i64 5506)) w.heap.size (fun k_ => some k_ ≠ (.slice Ao73 t159.length co73 : Value).ownBlock ∧ some k_ ≠ (.slice Ao76 t172.length co76 : Value).ownBlock ∧ some k_ ≠ (.slice Ao87 t202.length co87 : Value).ownBlock ∧ some k_ ≠ (.slice Ao95 t226.length co95 : Value).ownBlock ∧ some k_ ≠ (.slice Ao112 t251.length co112 : Value).ownBlock) (.slice Ao81 t187.length co81) t187) := ⟨by (with_reducible repeat (first | apply Kd.S_alloc | apply Kd.S_drewN | apply Kd.S_drew)); exact Kd.S_mono (Kd.S_far (p := ⟨gb242, 3, none⟩) (Kd.S_types HO189.out BK242.out (by decide)) (fun _ hk => hk.2) (.int .i64 5506)) (fun _ hk => ⟨hk.1.1.1, ⟨hk.1.1.2.1, ⟨hk.1.1.2.2.1, ⟨hk.1.1.2.2.2, hk.1.2⟩⟩⟩⟩)⟩
          have n3_ : Aside0 (Kd.S k104 104 (w113.setCell ⟨gb242, 3, none⟩ (.int .i64 5506)) w.heap.size (fun k_ => some k_ ≠ (.slice Ao73 t159.length co73 : Value).ownBlock ∧ some k_ ≠ (.slice Ao76 t172.length co76 : Value).ownBlock ∧ some k_ ≠ (.slice Ao81 t187.length co81 : Value).ownBlock ∧ some k_ ≠ (.slice Ao95 t226.length co95 : Value).ownBlock ∧ some k_ ≠ (.slice Ao112 t251.length co112 : Value).ownBlock) (.slice Ao87 t202.length co87) t202) := ⟨by (with_reducible repeat (first | apply Kd.S_alloc | apply Kd.S_drewN | apply Kd.S_drew)); exact Kd.S_mono (Kd.S_far (p := ⟨gb242, 3, none⟩) (Kd.S_types HO204.out BK242.out (by decide)) (fun _ hk => hk.2) (.int .i64 5506)) (fun _ hk => ⟨hk.1.1.1, ⟨hk.1.1.2.1, ⟨hk.1.1.2.2.1, ⟨hk.1.1.2.2.2, hk.1.2⟩⟩⟩⟩)⟩
          have n4_ : Aside0 (Kd.V k104 104 (w113.setCell ⟨gb242, 3, none⟩ (.int .i64 5506)) w.heap.size (fun k_ => some k_ ≠ (.slice Ao73 t159.length co73 : Value).ownBlock ∧ some k_ ≠ (.slice Ao76 t172.length co76 : Value).ownBlock ∧ some k_ ≠ (.slice Ao81 t187.length co81 : Value).ownBlock ∧ some k_ ≠ (.slice Ao87 t202.length co87 : Value).ownBlock ∧ some k_ ≠ (.slice Ao95 t226.length co95 : Value).ownBlock ∧ some k_ ≠ (.slice Ao112 t251.length co112 : Value).ownBlock ∧ k_ ≠ gb178 ∧ k_ ≠ gb193 ∧ k_ ≠ gb217 ∧ k_ ≠ gb241 ∧ k_ ≠ gb242) (.slice Ao93 t213.length co93) t213) := ⟨by (with_reducible repeat (first | apply Kd.V_alloc | apply Kd.V_drewN | apply Kd.V_drew)); exact Kd.V_mono (Kd.V_far (p := ⟨gb242, 3, none⟩) (Kd.V_mono HO215.out (fun k_ hk => (⟨hk, hk.1.2.2.2.2.2.2.2.2.2⟩ : _ ∧ k_ ≠ gb242))) (fun _ hk => hk.2) (.int .i64 5506)) (fun _ hk => ⟨hk.1.1.1, ⟨hk.1.1.2.1, ⟨hk.1.1.2.2.1, ⟨hk.1.1.2.2.2.1, ⟨hk.1.1.2.2.2.2.1, ⟨hk.1.2, ⟨hk.1.1.2.2.2.2.2.1, ⟨hk.1.1.2.2.2.2.2.2.1, ⟨hk.1.1.2.2.2.2.2.2.2.1, ⟨hk.1.1.2.2.2.2.2.2.2.2.1, hk.1.1.2.2.2.2.2.2.2.2.2⟩⟩⟩⟩⟩⟩⟩⟩⟩⟩)⟩
          have n5_ : Aside0 (Kd.S k104 104 (w113.setCell ⟨gb242, 3, none⟩ (.int .i64 5506)) w.heap.size (fun k_ => some k_ ≠ (.slice Ao73 t159.length co73 : Value).ownBlock ∧ some k_ ≠ (.slice Ao76 t172.length co76 : Value).ownBlock ∧ some k_ ≠ (.slice Ao81 t187.length co81 : Value).ownBlock ∧ some k_ ≠ (.slice Ao87 t202.length co87 : Value).ownBlock ∧ some k_ ≠ (.slice Ao112 t251.length co112 : Value).ownBlock) (.slice Ao95 t226.length co95) t226) := ⟨by (with_reducible repeat (first | apply Kd.S_alloc | apply Kd.S_drewN | apply Kd.S_drew)); exact Kd.S_mono (Kd.S_far (p := ⟨gb242, 3, none⟩) (Kd.S_types HO228.out BK242.out (by decide)) (fun _ hk => hk.2) (.int .i64 5506)) (fun _ hk => ⟨hk.1.1.1, ⟨hk.1.1.2.1, ⟨hk.1.1.2.2.1, ⟨hk.1.1.2.2.2, hk.1.2⟩⟩⟩⟩)⟩
          have n6_ : Aside0 (Kd.V k104 104 (w113.setCell ⟨gb242, 3, none⟩ (.int .i64 5506)) w.heap.size (fun k_ => some k_ ≠ (.slice Ao73 t159.length co73 : Value).ownBlock ∧ some k_ ≠ (.slice Ao76 t172.length co76 : Value).ownBlock ∧ some k_ ≠ (.slice Ao81 t187.length co81 : Value).ownBlock ∧ some k_ ≠ (.slice Ao87 t202.length co87 : Value).ownBlock ∧ some k_ ≠ (.slice Ao95 t226.length co95 : Value).ownBlock ∧ some k_ ≠ (.slice Ao112 t251.length co112 : Value).ownBlock ∧ k_ ≠ gb178 ∧ k_ ≠ gb193 ∧ k_ ≠ gb217 ∧ k_ ≠ gb241 ∧ k_ ≠ gb242) (.slice Ao102 t237.length co102) t237) := ⟨by (with_reducible repeat (first | apply Kd.V_alloc | apply Kd.V_drewN | apply Kd.V_drew)); exact Kd.V_mono (Kd.V_far (p := ⟨gb242, 3, none⟩) (Kd.V_mono HO239.out (fun k_ hk => (⟨hk, hk.1.2.2.2.2.2.2.2.2.2⟩ : _ ∧ k_ ≠ gb242))) (fun _ hk => hk.2) (.int .i64 5506)) (fun _ hk => ⟨hk.1.1.1, ⟨hk.1.1.2.1, ⟨hk.1.1.2.2.1, ⟨hk.1.1.2.2.2.1, ⟨hk.1.1.2.2.2.2.1, ⟨hk.1.2, ⟨hk.1.1.2.2.2.2.2.1, ⟨hk.1.1.2.2.2.2.2.2.1, ⟨hk.1.1.2.2.2.2.2.2.2.1, ⟨hk.1.1.2.2.2.2.2.2.2.2.1, hk.1.1.2.2.2.2.2.2.2.2.2⟩⟩⟩⟩⟩⟩⟩⟩⟩⟩)⟩
          have n7_ : Aside0 (Kd.S k104 104 (w113.setCell ⟨gb242, 3, none⟩ (.int .i64 5506)) w.heap.size (fun k_ => some k_ ≠ (.slice Ao73 t159.length co73 : Value).ownBlock ∧ some k_ ≠ (.slice Ao76 t172.length co76 : Value).ownBlock ∧ some k_ ≠ (.slice Ao81 t187.length co81 : Value).ownBlock ∧ some k_ ≠ (.slice Ao87 t202.length co87 : Value).ownBlock ∧ some k_ ≠ (.slice Ao95 t226.length co95 : Value).ownBlock) (.slice Ao112 t251.length co112) t251) := ⟨by (with_reducible repeat (first | apply Kd.S_alloc | apply Kd.S_drewN | apply Kd.S_drew)); exact Kd.S_mono (Kd.S_far (p := ⟨gb242, 3, none⟩) (Kd.S_types HO253.out BK242.out (by decide)) (fun _ hk => hk.2) (.int .i64 5506)) (fun _ hk => ⟨hk.1.1.1.1.1.2, ⟨hk.1.1.1.1.2, ⟨hk.1.1.1.2, ⟨hk.1.1.2, hk.1.2⟩⟩⟩⟩)⟩
          have n8_ : Aside0 ((w113.setCell ⟨gb242, 3, none⟩ (.int .i64 5506)).heap[gb178]? = some (.cells #[.int .i64 t175, .int .i64 t176] 25 (0, 0))) := ⟨by (with_reducible repeat first | apply zd | apply ze | apply za); refine blk_far ?_ NB178_242.out _; (with_reducible repeat first | apply zd | apply ze | apply za); exact BK178.out⟩
          have n9_ : Aside0 ((w113.setCell ⟨gb242, 3, none⟩ (.int .i64 5506)).heap[gb193]? = some (.cells #[.int .i64 t190, .int .i64 t191] 25 (0, 0))) := ⟨by (with_reducible repeat first | apply zd | apply ze | apply za); refine blk_far ?_ NB193_242.out _; (with_reducible repeat first | apply zd | apply ze | apply za); exact BK193.out⟩
          have n10_ : Aside0 ((w113.setCell ⟨gb242, 3, none⟩ (.int .i64 5506)).heap[gb217]? = some (.cells #[.string t205, .int .i64 t206, .int .i64 t207, .int .i64 t208, .int .i64 t209, .int .i64 t210, .int .i64 t211, .int .i64 t212, .slice Ao93 t213.length co93] 28 (0, 0))) := ⟨by (with_reducible repeat first | apply zd | apply ze | apply za); refine blk_far ?_ NB217_242.out _; (with_reducible repeat first | apply zd | apply ze | apply za); exact BK217.out⟩
          have n11_ : Aside0 ((w113.setCell ⟨gb242, 3, none⟩ (.int .i64 5506)).heap[gb241]? = some (.cells #[.string t229, .int .i64 t230, .int .i64 t231, .int .i64 t232, .int .i64 t233, .int .i64 t234, .int .i64 t235, .int .i64 t236, .slice Ao102 t237.length co102] 28 (0, 0))) := ⟨by (with_reducible repeat first | apply zd | apply ze | apply za); refine blk_far ?_ NB241_242.out _; (with_reducible repeat first | apply zd | apply ze | apply za); exact BK241.out⟩
          have n12_ : Aside0 ((w113.setCell ⟨gb242, 3, none⟩ (.int .i64 5506)).heap[gb242]? = some (.cells #[.string (⟨#[87]⟩ : ByteArray), .int .i64 0, .int .i64 0, .int .i64 5506, .int .i64 0, .int .i64 0, .int .i64 0, .int .i64 0, .slice none 0 0] 28 (0, 0))) := ⟨by (with_reducible repeat first | apply zd | apply ze | apply za); refine blk_put (cs := #[.string (⟨#[87]⟩ : ByteArray), .int .i64 0, .int .i64 0, .int .i64 5507, .int .i64 0, .int .i64 0, .int .i64 0, .int .i64 0, .slice none 0 0]) ?_ 3 _ rfl; (with_reducible repeat first | apply zd | apply ze | apply za); exact BK242.out⟩
          have n13_ : Aside0 (Below w.heap.size w (w113.setCell ⟨gb242, 3, none⟩ (.int .i64 5506))) := ⟨by repeat (first | (with_reducible first | exact HB.out | apply zA | apply zD | apply zE | refine zS ?_ GE178.out | refine zS ?_ GE193.out | refine zS ?_ GE217.out | refine zS ?_ GE241.out | refine zS ?_ GE242.out) | exact HB.out)⟩
          (try clear HO161)
          (try clear HO174)
          (try clear HO189)
          (try clear HO204)
          (try clear HO215)
          (try clear HO228)
          (try clear HO239)
          (try clear HO253)
          (try clear BK178)
          (try clear BK193)
          (try clear BK217)
          (try clear BK241)
          (try clear BK242)
          (try clear HB)
          generalize (w113.setCell ⟨gb242, 3, none⟩ (.int .i64 5506)) = w115 at n0_ n1_ n2_ n3_ n4_ n5_ n6_ n7_ n8_ n9_ n10_ n11_ n12_ n13_ ⊢
          have HO161 := n0_
          have HO174 := n1_
          have HO189 := n2_
          have HO204 := n3_
          have HO215 := n4_
          have HO228 := n5_
          have HO239 := n6_
          have HO253 := n7_
          have BK178 := n8_
          have BK193 := n9_
          have BK217 := n10_
          have BK241 := n11_
          have BK242 := n12_
          have HB := n13_
          clear n0_ n1_ n2_ n3_ n4_ n5_ n6_ n7_ n8_ n9_ n10_ n11_ n12_ n13_
          have n0_ := zm (Kd.S_drew HO161.out)
          have n1_ := zm (Kd.S_drew HO174.out)
          have n2_ := zm (Kd.S_drew HO189.out)
          have n3_ := zm (Kd.S_drew HO204.out)
          have n4_ := zm (Kd.V_drew HO215.out)
          have n5_ := zm (Kd.S_drew HO228.out)
          have n6_ := zm (Kd.V_drew HO239.out)
          have n7_ := zm (Kd.S_drew HO253.out)
          have n8_ := zm (ze BK178.out)
          have n9_ := zm (ze BK193.out)
          have n10_ := zm (ze BK217.out)
          have n11_ := zm (ze BK241.out)
          have n12_ := zm (ze BK242.out)
          have n13_ := zm (zE HB.out)
          clear HO161 HO174 HO189 HO204 HO215 HO228 HO239 HO253 BK178 BK193 BK217 BK241 BK242 HB
          have HO161 := n0_
          have HO174 := n1_
          have HO189 := n2_
          have HO204 := n3_
          have HO215 := n4_
          have HO228 := n5_
          have HO239 := n6_
          have HO253 := n7_
          have BK178 := n8_
          have BK193 := n9_
          have BK217 := n10_
          have BK241 := n11_
          have BK242 := n12_
          have HB := n13_
          clear n0_ n1_ n2_ n3_ n4_ n5_ n6_ n7_ n8_ n9_ n10_ n11_ n12_ n13_
          refine start_ (n := 8) (S := fun w' => w'.cell? ⟨gb242, 0, none⟩ = some (.string (⟨#[87]⟩ : ByteArray)) ∧ w'.cell? ⟨gb242, 1, none⟩ = some (.int .i64 0) ∧ w'.cell? ⟨gb242, 2, none⟩ = some (.int .i64 0) ∧ w'.cell? ⟨gb242, 3, none⟩ = some (.int .i64 5506) ∧ w'.cell? ⟨gb242, 4, none⟩ = some (.int .i64 0) ∧ w'.cell? ⟨gb242, 5, none⟩ = some (.int .i64 0) ∧ w'.cell? ⟨gb242, 6, none⟩ = some (.int .i64 0) ∧ w'.cell? ⟨gb242, 7, none⟩ = some (.int .i64 0) ∧ w'.cell? ⟨gb242, 8, none⟩ = some (.slice none 0 0)) (ds := []) #[false, false, false, false, false, false, false, false] (by kernel_rfl) rfl rfl ⟨(blk_cell BK242.out 0).trans rfl, (blk_cell BK242.out 1).trans rfl, (blk_cell BK242.out 2).trans rfl, (blk_cell BK242.out 3).trans rfl, (blk_cell BK242.out 4).trans rfl, (blk_cell BK242.out 5).trans rfl, (blk_cell BK242.out 6).trans rfl, (blk_cell BK242.out 7).trans rfl, (blk_cell BK242.out 8).trans rfl⟩ (fun hHeld => ?_); refine with_tabW awk0.tab9 awk0.bits9 (fun HT_ HW_ => ?_)
          generalize w115.drew = w116 at HO161 HO174 HO189 HO204 HO215 HO228 HO239 HO253 BK178 BK193 BK217 BK241 BK242 HB hHeld ⊢
          refine take_ (i := 1) (N := some 57) (v := ?_) (a' := ?_) #[false, true, false, false, false, false, false, false] rfl rfl (take_ofW HT_.out HW_.out (by kernel_rfl)) (fun _ _ _ h => h) (Or.inl ⟨by rfl, ?_⟩) hHeld ?_ ?_
          rotate_left
          ·rintro w' ⟨s0, s1, s2, s3, s4, s5, s6, s7, s8⟩
           go_simp
           with_reducible rfl
          rotate_left
          ·simp only [Act.put, zx, zy, zz, i64_w, i32_w]
           rfl
          refine one_ (i := 0) (N := some 56) #[true, true, false, false, false, false, false, false] rfl rfl (one_of HT_.out (by kernel_rfl)) (by decide) (fun K hK => ?_)
          refine goes_ Try.func67 (by kernel_rfl) rfl #[] (by rfl) rfl rfl (by (try simp only [List.map_toArray, List.map_cons, List.map_nil]); first | done | rfl | (simp only [List.length_drop, List.length_take]; rfl)) ?_
          with_reducible refine (metrolablaw18_Hole.calls  t256 t257 t258 t259 t260 t261 t262 t263 t264 _ A13.out).mono ?_
          rintro e w117 ⟨v265, rfl, ho0, hb⟩
          refine ⟨_, rfl, ?_⟩
          have n0_ := zm (Kd.S_elder' (by (with_reducible repeat (first | apply Kd.S_alloc | apply Kd.S_drewN | apply Kd.S_drew)); exact HO161.out) (Kd.S_base ho0) hb)
          have n1_ := zm (Kd.S_elder' (by (with_reducible repeat (first | apply Kd.S_alloc | apply Kd.S_drewN | apply Kd.S_drew)); exact HO174.out) (Kd.S_base ho0) hb)
          have n2_ := zm (Kd.S_elder' (by (with_reducible repeat (first | apply Kd.S_alloc | apply Kd.S_drewN | apply Kd.S_drew)); exact HO189.out) (Kd.S_base ho0) hb)
          have n3_ := zm (Kd.S_elder' (by (with_reducible repeat (first | apply Kd.S_alloc | apply Kd.S_drewN | apply Kd.S_drew)); exact HO204.out) (Kd.S_base ho0) hb)
          have n4_ := zm (Kd.V_elder' (by (with_reducible repeat (first | apply Kd.V_alloc | apply Kd.V_drewN | apply Kd.V_drew)); exact HO215.out) (Kd.S_base ho0) hb)
          have n5_ := zm (Kd.S_elder' (by (with_reducible repeat (first | apply Kd.S_alloc | apply Kd.S_drewN | apply Kd.S_drew)); exact HO228.out) (Kd.S_base ho0) hb)
          have n6_ := zm (Kd.V_elder' (by (with_reducible repeat (first | apply Kd.V_alloc | apply Kd.V_drewN | apply Kd.V_drew)); exact HO239.out) (Kd.S_base ho0) hb)
          have n7_ := zm (Kd.S_elder' (by (with_reducible repeat (first | apply Kd.S_alloc | apply Kd.S_drewN | apply Kd.S_drew)); exact HO253.out) (Kd.S_base ho0) hb)
          have n8_ := zm (Kd.S_lower (Kd.S_new' (Kd.S_new' (Kd.S_new' (Kd.S_new' (Kd.S_new' (Kd.S_new' ho0 (Kd.S_lt (by (with_reducible repeat (first | apply Kd.S_alloc | apply Kd.S_drewN | apply Kd.S_drew)); exact HO161.out))) (Kd.S_lt (by (with_reducible repeat (first | apply Kd.S_alloc | apply Kd.S_drewN | apply Kd.S_drew)); exact HO174.out))) (Kd.S_lt (by (with_reducible repeat (first | apply Kd.S_alloc | apply Kd.S_drewN | apply Kd.S_drew)); exact HO189.out))) (Kd.S_lt (by (with_reducible repeat (first | apply Kd.S_alloc | apply Kd.S_drewN | apply Kd.S_drew)); exact HO204.out))) (Kd.S_lt (by (with_reducible repeat (first | apply Kd.S_alloc | apply Kd.S_drewN | apply Kd.S_drew)); exact HO228.out))) (Kd.S_lt (by (with_reducible repeat (first | apply Kd.S_alloc | apply Kd.S_drewN | apply Kd.S_drew)); exact HO253.out))) (below_size (by repeat (first | (with_reducible first | exact HB.out | apply zA | apply zD | apply zE | refine zS ?_ GE178.out | refine zS ?_ GE193.out | refine zS ?_ GE217.out | refine zS ?_ GE241.out | refine zS ?_ GE242.out) | exact HB.out))))
          have n9_ := zm (zb (g := gb178) (by (with_reducible repeat first | apply zd | apply ze | apply za); exact BK178.out) hb)
          have n10_ := zm (zb (g := gb193) (by (with_reducible repeat first | apply zd | apply ze | apply za); exact BK193.out) hb)
          have n11_ := zm (zb (g := gb217) (by (with_reducible repeat first | apply zd | apply ze | apply za); exact BK217.out) hb)
          have n12_ := zm (zb (g := gb241) (by (with_reducible repeat first | apply zd | apply ze | apply za); exact BK241.out) hb)
          have n13_ := zm (zb (g := gb242) (o := .cells #[.string (⟨#[87]⟩ : ByteArray), .int .i64 0, .int .i64 0, .int .i64 5506, .int .i64 0, .int .i64 0, .int .i64 0, .int .i64 0, .slice none 0 0] 28 (0, 0)) (by (with_reducible repeat first | apply zd | apply ze | apply za); exact BK242.out) hb)
          have n14_ := zm (below_step (by repeat (first | (with_reducible first | exact HB.out | apply zA | apply zD | apply zE | refine zS ?_ GE178.out | refine zS ?_ GE193.out | refine zS ?_ GE217.out | refine zS ?_ GE241.out | refine zS ?_ GE242.out) | exact HB.out)) hb)
          clear HO161 HO174 HO189 HO204 HO215 HO228 HO239 HO253 BK178 BK193 BK217 BK241 BK242 HB
          have HO161 := n0_
          have HO174 := n1_
          have HO189 := n2_
          have HO204 := n3_
          have HO215 := n4_
          have HO228 := n5_
          have HO239 := n6_
          have HO253 := n7_
          have HO266 := n8_
          have BK178 := n9_
          have BK193 := n10_
          have BK217 := n11_
          have BK241 := n12_
          have BK242 := n13_
          have HB := n14_
          clear n0_ n1_ n2_ n3_ n4_ n5_ n6_ n7_ n8_ n9_ n10_ n11_ n12_ n13_ n14_
          (try clear hb)
          (try clear hb2)
          (try clear hk)
          (try clear hi)
          (try clear ho0)
          obtain ⟨Ao118, co118, eo118⟩ := Kd.S_slice HO266.out
          (first | subst eo118 | (injection eo118 with f1_ f2_ f3_; have f4_ := f1_.symm; have f5_ := f3_.symm; clear f1_ f2_ f3_; subst f4_; subst f5_))
          refine hK.out _ _ ⟨(blk_cell BK242.out 0).trans rfl, (blk_cell BK242.out 1).trans rfl, (blk_cell BK242.out 2).trans rfl, (blk_cell BK242.out 3).trans rfl, (blk_cell BK242.out 4).trans rfl, (blk_cell BK242.out 5).trans rfl, (blk_cell BK242.out 6).trans rfl, (blk_cell BK242.out 7).trans rfl, (blk_cell BK242.out 8).trans rfl⟩ (fun hHeld => ?_)
          clear hK K
          refine norm_ (a' := ?_) ?_ ?_
          rotate_left
          ·show Act.put _ (some 56) _ = _
           simp only [Act.put, zx, zy, zz, i64_w, i32_w]
           rfl
          refine one_ (i := 2) (N := some 58) #[true, true, true, false, false, false, false, false] rfl rfl (one_of HT_.out (by kernel_rfl)) (by decide) (fun K hK => ?_)
          refine goes_ Try.func21 (by kernel_rfl) rfl #[.agg #[.string t256, .int .i64 t257, .int .i64 t258, .int .i64 t259, .int .i64 t260, .int .i64 t261, .int .i64 t262, .int .i64 t263, .slice Ao118 t264.length co118], .agg #[.string (⟨#[87]⟩ : ByteArray), .int .i64 0, .int .i64 0, .int .i64 5506, .int .i64 0, .int .i64 0, .int .i64 0, .int .i64 0, .slice none 0 0]] (by rfl) rfl rfl (by (try simp only [List.map_toArray, List.map_cons, List.map_nil]); first | done | rfl | (simp only [List.length_drop, List.length_take]; rfl)) ?_
          refine (feature_Separate.calls k t256 t257 t258 t259 t260 t261 t262 t263 (fun k_ => (((((((((((True ∧ some k_ ≠ (.slice Ao73 t159.length co73 : Value).ownBlock) ∧ some k_ ≠ (.slice Ao76 t172.length co76 : Value).ownBlock) ∧ some k_ ≠ (.slice Ao81 t187.length co81 : Value).ownBlock) ∧ some k_ ≠ (.slice Ao87 t202.length co87 : Value).ownBlock) ∧ some k_ ≠ (.slice Ao95 t226.length co95 : Value).ownBlock) ∧ some k_ ≠ (.slice Ao112 t251.length co112 : Value).ownBlock) ∧ k_ ≠ gb178) ∧ k_ ≠ gb193) ∧ k_ ≠ gb217) ∧ k_ ≠ gb241) ∧ k_ ≠ gb242)) _ _ t264 (⟨#[87]⟩ : ByteArray) 0 0 5506 0 0 0 0 (fun k_ => False) _ _ ([] : List (S104)) false t268 _ ?side1 ?side2 A14.out).mono ?_
          (case side1 => exact Kd.S_V (Kd.S_types (Kd.S_types (Kd.S_types (Kd.S_types (Kd.S_types (HO266.out) BK178.out (by decide)) BK193.out (by decide)) BK217.out (by decide)) BK241.out (by decide)) BK242.out (by decide)))
          (case side2 => exact Kd.V_nil _ _ _ _ _)
          rintro e w119 ⟨rfl, hb⟩
          refine ⟨_, rfl, ?_⟩
          have n0_ := zm (Kd.S_below (by (with_reducible repeat (first | apply Kd.S_alloc | apply Kd.S_drewN | apply Kd.S_drew)); exact HO161.out) hb)
          have n1_ := zm (Kd.S_below (by (with_reducible repeat (first | apply Kd.S_alloc | apply Kd.S_drewN | apply Kd.S_drew)); exact HO174.out) hb)
          have n2_ := zm (Kd.S_below (by (with_reducible repeat (first | apply Kd.S_alloc | apply Kd.S_drewN | apply Kd.S_drew)); exact HO189.out) hb)
          have n3_ := zm (Kd.S_below (by (with_reducible repeat (first | apply Kd.S_alloc | apply Kd.S_drewN | apply Kd.S_drew)); exact HO204.out) hb)
          have n4_ := zm (Kd.V_below (by (with_reducible repeat (first | apply Kd.V_alloc | apply Kd.V_drewN | apply Kd.V_drew)); exact HO215.out) hb)
          have n5_ := zm (Kd.S_below (by (with_reducible repeat (first | apply Kd.S_alloc | apply Kd.S_drewN | apply Kd.S_drew)); exact HO228.out) hb)
          have n6_ := zm (Kd.V_below (by (with_reducible repeat (first | apply Kd.V_alloc | apply Kd.V_drewN | apply Kd.V_drew)); exact HO239.out) hb)
          have n7_ := zm (Kd.S_below (by (with_reducible repeat (first | apply Kd.S_alloc | apply Kd.S_drewN | apply Kd.S_drew)); exact HO253.out) hb)
          have n8_ := zm (Kd.S_below (by (with_reducible repeat (first | apply Kd.S_alloc | apply Kd.S_drewN | apply Kd.S_drew)); exact HO266.out) hb)
          have n9_ := zm (zb (g := gb178) (by (with_reducible repeat first | apply zd | apply ze | apply za); exact BK178.out) hb)
          have n10_ := zm (zb (g := gb193) (by (with_reducible repeat first | apply zd | apply ze | apply za); exact BK193.out) hb)
          have n11_ := zm (zb (g := gb217) (by (with_reducible repeat first | apply zd | apply ze | apply za); exact BK217.out) hb)
          have n12_ := zm (zb (g := gb241) (by (with_reducible repeat first | apply zd | apply ze | apply za); exact BK241.out) hb)
          have n13_ := zm (zb (g := gb242) (o := .cells #[.string (⟨#[87]⟩ : ByteArray), .int .i64 0, .int .i64 0, .int .i64 5506, .int .i64 0, .int .i64 0, .int .i64 0, .int .i64 0, .slice none 0 0] 28 (0, 0)) (by (with_reducible repeat first | apply zd | apply ze | apply za); exact BK242.out) hb)
          have n14_ := zm (below_step (by repeat (first | (with_reducible first | exact HB.out | apply zA | apply zD | apply zE | refine zS ?_ GE178.out | refine zS ?_ GE193.out | refine zS ?_ GE217.out | refine zS ?_ GE241.out | refine zS ?_ GE242.out) | exact HB.out)) hb)
          clear HO161 HO174 HO189 HO204 HO215 HO228 HO239 HO253 HO266 BK178 BK193 BK217 BK241 BK242 HB
          have HO161 := n0_
          have HO174 := n1_
          have HO189 := n2_
          have HO204 := n3_
          have HO215 := n4_
          have HO228 := n5_
          have HO239 := n6_
          have HO253 := n7_
          have HO266 := n8_
          have BK178 := n9_
          have BK193 := n10_
          have BK217 := n11_
          have BK241 := n12_
          have BK242 := n13_
          have HB := n14_
          clear n0_ n1_ n2_ n3_ n4_ n5_ n6_ n7_ n8_ n9_ n10_ n11_ n12_ n13_ n14_
          (try clear hb)
          (try clear hb2)
          (try clear hk)
          (try clear hi)
          refine hK.out _ _ ⟨(blk_cell BK242.out 0).trans rfl, (blk_cell BK242.out 1).trans rfl, (blk_cell BK242.out 2).trans rfl, (blk_cell BK242.out 3).trans rfl, (blk_cell BK242.out 4).trans rfl, (blk_cell BK242.out 5).trans rfl, (blk_cell BK242.out 6).trans rfl, (blk_cell BK242.out 7).trans rfl, (blk_cell BK242.out 8).trans rfl⟩ (fun hHeld => ?_)
          clear hK K
          refine norm_ (a' := ?_) ?_ ?_
          rotate_left
          ·show Act.put _ (some 58) _ = _
           simp only [Act.put, zx, zy, zz, i64_w, i32_w]
           rfl
          refine pure_ (i := 3) (N := some 55) (v := ?_) (a' := ?_) #[true, true, true, true, false, false, false, false] rfl rfl (any_of HT_.out (by kernel_rfl)) (fun _ _ _ h => h) (Or.inl ⟨by rfl, ?_⟩) ?_ ?_
          rotate_left
          ·intro w'
           go_simp
           with_reducible rfl
          rotate_left
          ·simp only [Act.put, zx, zy, zz, i64_w, i32_w]
           rfl
          refine pure_ (i := 4) (N := some 59) (v := ?_) (a' := ?_) #[true, true, true, true, true, false, false, false] rfl rfl (any_of HT_.out (by kernel_rfl)) (fun _ _ _ h => h) (Or.inl ⟨by rfl, ?_⟩) ?_ ?_
          rotate_left
          ·intro w'
           go_simp
           with_reducible rfl
          rotate_left
          ·simp only [Act.put, zx, zy, zz, i64_w, i32_w]
           rfl
          refine pure_ (i := 5) (N := some 60) (v := ?_) (a' := ?_) #[true, true, true, true, true, true, false, false] rfl rfl (any_of HT_.out (by kernel_rfl)) (fun _ _ _ h => h) (Or.inl ⟨by rfl, ?_⟩) ?_ ?_
          rotate_left
          ·intro w'
           go_simp
           with_reducible rfl
          rotate_left
          ·simp only [Act.put, zx, zy, zz, i64_w, i32_w]
           rfl
          refine pure_ (i := 6) (N := some 14) (v := ?_) (a' := ?_) #[true, true, true, true, true, true, true, false] rfl rfl (any_of HT_.out (by kernel_rfl)) (fun _ _ _ h => h) (Or.inl ⟨by rfl, ?_⟩) ?_ ?_
          rotate_left
          ·intro w'
           go_simp
           with_reducible rfl
          rotate_left
          ·simp only [Act.put, zx, zy, zz, i64_w, i32_w]
           rfl
          refine pure_ (i := 7) (N := some 15) (v := ?_) (a' := ?_) #[true, true, true, true, true, true, true, true] rfl rfl (any_of HT_.out (by kernel_rfl)) (fun _ _ _ h => h) (Or.inl ⟨by rfl, ?_⟩) ?_ ?_
          rotate_left
          ·intro w'
           go_simp
           with_reducible rfl
          rotate_left
          ·simp only [Act.put, zx, zy, zz, i64_w, i32_w]
           rfl
          refine done_ (done_of HT_.out (by kernel_rfl)) ?_
          have hcz120_0 := zc BK178.out 0 (.int .i64 t175) rfl
          have hcz120_1 := zc BK178.out 1 (.int .i64 t176) rfl
          have hfz120_0 := zf BK178.out 0
          have hfz120_1 := zf BK178.out 1
          have hcz121_0 := zc BK217.out 0 (.string t205) rfl
          have hcz121_1 := zc BK217.out 1 (.int .i64 t206) rfl
          have hcz121_2 := zc BK217.out 2 (.int .i64 t207) rfl
          have hcz121_3 := zc BK217.out 3 (.int .i64 t208) rfl
          have hcz121_4 := zc BK217.out 4 (.int .i64 t209) rfl
          have hcz121_5 := zc BK217.out 5 (.int .i64 t210) rfl
          have hcz121_6 := zc BK217.out 6 (.int .i64 t211) rfl
          have hcz121_7 := zc BK217.out 7 (.int .i64 t212) rfl
          have hcz121_8 := zc BK217.out 8 (.slice Ao93 t213.length co93) rfl
          have hfz121_0 := zf BK217.out 0
          have hfz121_1 := zf BK217.out 1
          have hfz121_2 := zf BK217.out 2
          have hfz121_3 := zf BK217.out 3
          have hfz121_4 := zf BK217.out 4
          have hfz121_5 := zf BK217.out 5
          have hfz121_6 := zf BK217.out 6
          have hfz121_7 := zf BK217.out 7
          have hfz121_8 := zf BK217.out 8
          have hcz122_0 := zc BK241.out 0 (.string t229) rfl
          have hcz122_1 := zc BK241.out 1 (.int .i64 t230) rfl
          have hcz122_2 := zc BK241.out 2 (.int .i64 t231) rfl
          have hcz122_3 := zc BK241.out 3 (.int .i64 t232) rfl
          have hcz122_4 := zc BK241.out 4 (.int .i64 t233) rfl
          have hcz122_5 := zc BK241.out 5 (.int .i64 t234) rfl
          have hcz122_6 := zc BK241.out 6 (.int .i64 t235) rfl
          have hcz122_7 := zc BK241.out 7 (.int .i64 t236) rfl
          have hcz122_8 := zc BK241.out 8 (.slice Ao102 t237.length co102) rfl
          have hfz122_0 := zf BK241.out 0
          have hfz122_1 := zf BK241.out 1
          have hfz122_2 := zf BK241.out 2
          have hfz122_3 := zf BK241.out 3
          have hfz122_4 := zf BK241.out 4
          have hfz122_5 := zf BK241.out 5
          have hfz122_6 := zf BK241.out 6
          have hfz122_7 := zf BK241.out 7
          have hfz122_8 := zf BK241.out 8
          try go_wp2
          go_ret
          exact ⟨by first | rfl | (simp [errW_none, errW_some] <;> rfl) | (simp [*, errW_none, errW_some] <;> rfl), by repeat (first | (with_reducible first | exact HB.out | apply zA | apply zD | apply zE | refine zS ?_ GE178.out | refine zS ?_ GE193.out | refine zS ?_ GE217.out | refine zS ?_ GE241.out | refine zS ?_ GE242.out) | exact HB.out)⟩
         ·rw [if_neg c71] at H
          exact absurd ((Option.some.inj H).trans HRT.out) (by decide)
        ·rw [if_neg c70] at H
         exact absurd ((Option.some.inj H).trans HRT.out) (by decide)
       ·rw [if_neg c69] at H
        exact absurd ((Option.some.inj H).trans HRT.out) (by decide)
      ·rw [if_neg c68] at H
       exact absurd ((Option.some.inj H).trans HRT.out) (by decide)
    ·rw [if_neg c18] at H
     exact absurd ((Option.some.inj H).trans HRT.out) (by decide)
   ·rw [if_neg c17] at H
    exact absurd ((Option.some.inj H).trans HRT.out) (by decide)
  ·rw [if_neg c16] at H
   exact absurd ((Option.some.inj H).trans HRT.out) (by decide)
 ·rw [if_neg c15] at H
  exact absurd ((Option.some.inj H).trans HRT.out) (by decide)
end Go.Proofs.Ytkgdlbepjmgaiaa.Fea
namespace Go.Proofs.Ytkgdlbepjmgaiaa.Fea
open Go.RowKit Go.Proofs.YtkgdlbepjmgaiaaW.PrintWords Go.Proofs.YtkgdlbepjmgaiaaW.PrintLast Go.Proofs.YtkgdlbepjmgaiaaW.PrintMore
set_option maxRecDepth 100000 in
theorem awk0_val : awk0.f 100 = some true := by kernel_rfl
theorem awake_calls (w : World) : Calls Try.prog 18 #[] w fun e w' => e = .returned (.bool true) ∧ Below w.heap.size w w' := awk0.calls 100 true w rfl awk0_val
end Go.Proofs.Ytkgdlbepjmgaiaa.Fea
namespace Go.Proofs.Ytkgdlbepjmgaiaa.Fea
open Go.RowKit Go.Proofs.YtkgdlbepjmgaiaaW.PrintWords Go.Proofs.YtkgdlbepjmgaiaaW.PrintLast Go.Proofs.YtkgdlbepjmgaiaaW.PrintMore
attribute [local go_sem] max2_int min2_int max_two min_two max_three min_three max_four min_four
set_option linter.unusedVariables false
set_option linter.unusedSimpArgs false
def metrolablaw18_awake.f : Option (Bool) := some true
theorem metrolablaw18_awake.calls (r : Bool) (w : World) (h : metrolablaw18_awake.f = some r) :
    Calls Try.prog 18 #[] w fun e w' => e = .returned (.bool r) ∧ Below w.heap.size w w' := by
  obtain rfl := Option.some.inj h
  exact awake_calls w
end Go.Proofs.Ytkgdlbepjmgaiaa.Fea
