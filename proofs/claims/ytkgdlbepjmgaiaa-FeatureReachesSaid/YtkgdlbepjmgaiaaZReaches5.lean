/- Part 5 of the texts behind the last one of this claim. -/
import Derived.Test.YtkgdlbepjmgaiaaZReaches4
namespace Go.Proofs.Ytkgdlbepjmgaiaa.Fea
open Go.RowKit Go.Proofs.YtkgdlbepjmgaiaaW.PrintWords Go.Proofs.YtkgdlbepjmgaiaaW.PrintLast Go.Proofs.YtkgdlbepjmgaiaaW.PrintMore
attribute [local go_sem] max2_int min2_int max_two min_two max_three min_three max_four min_four
set_option linter.unusedVariables false
set_option linter.unusedSimpArgs false
def metrolabref18_given.f (k : Nat) (a0_0 : ByteArray) (a0_1 : Int) (a0_2 : Int) (a0_3 : Int) (a0_4 : Int) (a0_5 : Int) (a0_6 : Int) (a0_7 : Int) (l0_8 : List (S104)) (a1 : Int) : Option (Int) := (metrolabref18_Check.f k a0_0 a0_1 a0_2 a0_3 a0_4 a0_5 a0_6 a0_7 l0_8).bind fun t163 => (if t163 = 0 then ((metrolabref18_Axis.f a1).bind fun t164 => (some t164)) else (some t163))
theorem metrolabref18_given.mono : ∀ a0 a1 a2 a3 a4 a5 a6 a7 a8 a9 k, LeO (metrolabref18_given.f k a0 a1 a2 a3 a4 a5 a6 a7 a8 a9) (metrolabref18_given.f (k + 1) a0 a1 a2 a3 a4 a5 a6 a7 a8 a9) := by
 intro a0 a1 a2 a3 a4 a5 a6 a7 a8 a9 k
 unfold metrolabref18_given.f
 repeat' first
  | (with_reducible exact metrolabref18_Check.mono _ _ _ _ _ _ _ _ _ _)
  | (with_reducible exact LeO.refl _)
  | (with_reducible exact LeO.none _)
  | (with_reducible refine LeO.ite ?_ ?_)
  | (with_reducible refine LeO.bind ?_ (fun _ => ?_))
  | exact metrolabref18_Check.mono _ _ _ _ _ _ _ _ _ _
  | exact LeO.none _
  | refine LeO.ite ?_ ?_
  | refine LeO.bind ?_ (fun _ => ?_)
set_option maxHeartbeats 8000000 in
set_option maxRecDepth 100000 in
theorem metrolabref18_given.calls (k : Nat) (a0_0 : ByteArray) (a0_1 : Int) (a0_2 : Int) (a0_3 : Int) (a0_4 : Int) (a0_5 : Int) (a0_6 : Int) (a0_7 : Int) (A0_8 : Option Addr) (c0_8 : Nat) (l0_8 : List (S104)) (a1 : Int) (r : Int) (w : World) (hr0_8 : Kd.C k104 w A0_8 l0_8.length l0_8) (hc0_8 : l0_8.length ≤ c0_8) (h : metrolabref18_given.f k a0_0 a0_1 a0_2 a0_3 a0_4 a0_5 a0_6 a0_7 l0_8 a1 = some r) :
 Calls Try.prog 72 #[.agg #[.string a0_0, .int .i64 a0_1, .int .i64 a0_2, .int .i64 a0_3, .int .i64 a0_4, .int .i64 a0_5, .int .i64 a0_6, .int .i64 a0_7, .slice A0_8 l0_8.length c0_8], .int .i64 a1] w fun e w' => e = .returned (.int .i64 r) ∧ Below w.heap.size w w' := by
 have hu28 := Try.underlying28
 have HR0_8 := zm hr0_8
 have HC0_8 := zm hc0_8
 clear hr0_8 hc0_8
 have HB := zm (Below.refl w.heap.size w)
 have H : ((metrolabref18_Check.f k a0_0 a0_1 a0_2 a0_3 a0_4 a0_5 a0_6 a0_7 l0_8).bind fun t163 => (if t163 = 0 then ((metrolabref18_Axis.f a1).bind fun t164 => (some t164)) else (some t163))) = some r := h
 clear h
 replace H := Option.bind_eq_some_iff.mp H
 obtain ⟨t163, A30, H⟩ := H
 replace H : (if t163 = 0 then ((metrolabref18_Axis.f a1).bind fun t164 => (some t164)) else (some t163)) = some r := H
 have A3 := zm A30
 clear A30
 by_cases c4 : t163 = 0
 ·rw [if_pos c4] at H
  have c4b0 : (t163 == 0) = true := beq_iff_eq.mpr c4
  have c4b1 : (t163 != 0) = false := bne_eq_false_iff_eq.mpr c4
  clear c4
  replace H := Option.bind_eq_some_iff.mp H
  obtain ⟨t164, A50, H⟩ := H
  replace H : (some t164) = some r := H
  have A5 := zm A50
  clear A50
  obtain rfl := Option.some.inj H
  go_enter Try.func72, Try.ntmps72
  go_wp2_with (first | ((with_reducible refine gate_dst (N := 2) rfl ?_); refine box_event ?hg (N := 2) ?hd (cs := #[.string a0_0, .int .i64 a0_1, .int .i64 a0_2, .int .i64 a0_3, .int .i64 a0_4, .int .i64 a0_5, .int .i64 a0_6, .int .i64 a0_7, .slice A0_8 l0_8.length c0_8]) (t := 28) ?hr ?_; (case hd => rfl); (case hg => rfl); (case hr => first | (go_simp; done) | (go_simp; rfl)); intro gb162 hg w6 hbox hb; have n0_ := zm (below_step (by repeat (first | (with_reducible first | exact HB.out | apply zA | apply zD | apply zE) | exact HB.out)) hb); have n1_ := zm (hbox); have n2_ := zm ((by rw [hg]; exact (below_size (by repeat (first | (with_reducible first | exact HB.out | apply zA | apply zD | apply zE) | exact HB.out))) : w.heap.size ≤ gb162)); have n3_ := zm ((by rw [hg]; exact (below_size (by repeat (first | (with_reducible first | exact HB.out | apply zA | apply zD | apply zE) | exact HB.out))) : w.heap.size ≤ gb162)); clear HB; have HB := n0_; have BK162 := n1_; have GW162 := n2_; have GE162 := n3_; clear n0_ n1_ n2_ n3_; clear hb hbox hg; have hcz7_0 := zc BK162.out 0 (.string a0_0) rfl; have hcz7_1 := zc BK162.out 1 (.int .i64 a0_1) rfl; have hcz7_2 := zc BK162.out 2 (.int .i64 a0_2) rfl; have hcz7_3 := zc BK162.out 3 (.int .i64 a0_3) rfl; have hcz7_4 := zc BK162.out 4 (.int .i64 a0_4) rfl; have hcz7_5 := zc BK162.out 5 (.int .i64 a0_5) rfl; have hcz7_6 := zc BK162.out 6 (.int .i64 a0_6) rfl; have hcz7_7 := zc BK162.out 7 (.int .i64 a0_7) rfl; have hcz7_8 := zc BK162.out 8 (.slice A0_8 l0_8.length c0_8) rfl; have hfz7_0 := zf BK162.out 0; have hfz7_1 := zf BK162.out 1; have hfz7_2 := zf BK162.out 2; have hfz7_3 := zf BK162.out 3; have hfz7_4 := zf BK162.out 4; have hfz7_5 := zf BK162.out 5; have hfz7_6 := zf BK162.out 6; have hfz7_7 := zf BK162.out 7; have hfz7_8 := zf BK162.out 8) | ((with_reducible refine gate_callee (f := 30) rfl ?_); refine goesL_ (some 7) rfl rfl Try.func30 (by kernel_rfl) rfl #[.agg #[.string a0_0, .int .i64 a0_1, .int .i64 a0_2, .int .i64 a0_3, .int .i64 a0_4, .int .i64 a0_5, .int .i64 a0_6, .int .i64 a0_7, .slice A0_8 l0_8.length c0_8]] rfl (by (try simp only [List.map_toArray, List.map_cons, List.map_nil]); first | done | rfl | (simp only [List.length_drop, List.length_take]; rfl)) ?_; (with_reducible refine (metrolabref18_Check.calls k a0_0 a0_1 a0_2 a0_3 a0_4 a0_5 a0_6 a0_7 _ _ l0_8 t163 _ ?side1 ?side2 A3.out).mono ?_); (case side1 => repeat (first | exact (Kd.C_below HR0_8.out HB.out) | (with_reducible refine Kd.C_alloc ?_ _) | (with_reducible refine Kd.C_drewN ?_ _) | (with_reducible refine Kd.C_drew ?_))); (case side2 => exact HC0_8.out); rintro e w8 ⟨rfl, hb⟩; refine ⟨_, rfl, ?_⟩; have n0_ := zm (zb (g := gb162) (o := .cells #[.string a0_0, .int .i64 a0_1, .int .i64 a0_2, .int .i64 a0_3, .int .i64 a0_4, .int .i64 a0_5, .int .i64 a0_6, .int .i64 a0_7, .slice A0_8 l0_8.length c0_8] 28 (0, 0)) (by (with_reducible repeat first | apply zd | apply ze | apply za); exact BK162.out) hb); have n1_ := zm (below_step (by repeat (first | (with_reducible first | exact HB.out | apply zA | apply zD | apply zE | refine zS ?_ GE162.out) | exact HB.out)) hb); clear BK162 HB; have BK162 := n0_; have HB := n1_; clear n0_ n1_; (try clear hb); (try clear hb2); (try clear hk); (try clear hi)) | ((with_reducible refine gate_callee (f := 114) rfl ?_); refine goesL_ (some 12) rfl rfl Try.func114 (by kernel_rfl) rfl #[.int .i64 a1] rfl (by (try simp only [List.map_toArray, List.map_cons, List.map_nil]); first | done | rfl | (simp only [List.length_drop, List.length_take]; rfl)) ?_; (with_reducible refine (metrolabref18_Axis.calls a1 t164 _ A5.out).mono ?_); rintro e w' ⟨rfl, ⟨nd, rfl⟩⟩; refine ⟨_, rfl, ?_⟩))
  go_ret
  exact ⟨by first | rfl | (simp [errW_none, errW_some] <;> rfl) | (simp [*, errW_none, errW_some] <;> rfl), by repeat (first | (with_reducible first | exact HB.out | apply zA | apply zD | apply zE | refine zS ?_ GE162.out) | exact HB.out)⟩
 ·rw [if_neg c4] at H
  have c4b0 : (t163 == 0) = false := beq_eq_false_iff_ne.mpr c4
  have c4b1 : (t163 != 0) = true := bne_iff_ne.mpr c4
  obtain rfl := Option.some.inj H
  go_enter Try.func72, Try.ntmps72
  go_wp2_with (first | ((with_reducible refine gate_dst (N := 2) rfl ?_); refine box_event ?hg (N := 2) ?hd (cs := #[.string a0_0, .int .i64 a0_1, .int .i64 a0_2, .int .i64 a0_3, .int .i64 a0_4, .int .i64 a0_5, .int .i64 a0_6, .int .i64 a0_7, .slice A0_8 l0_8.length c0_8]) (t := 28) ?hr ?_; (case hd => rfl); (case hg => rfl); (case hr => first | (go_simp; done) | (go_simp; rfl)); intro gb162 hg w9 hbox hb; have n0_ := zm (below_step (by repeat (first | (with_reducible first | exact HB.out | apply zA | apply zD | apply zE) | exact HB.out)) hb); have n1_ := zm (hbox); have n2_ := zm ((by rw [hg]; exact (below_size (by repeat (first | (with_reducible first | exact HB.out | apply zA | apply zD | apply zE) | exact HB.out))) : w.heap.size ≤ gb162)); have n3_ := zm ((by rw [hg]; exact (below_size (by repeat (first | (with_reducible first | exact HB.out | apply zA | apply zD | apply zE) | exact HB.out))) : w.heap.size ≤ gb162)); clear HB; have HB := n0_; have BK162 := n1_; have GW162 := n2_; have GE162 := n3_; clear n0_ n1_ n2_ n3_; clear hb hbox hg; have hcz10_0 := zc BK162.out 0 (.string a0_0) rfl; have hcz10_1 := zc BK162.out 1 (.int .i64 a0_1) rfl; have hcz10_2 := zc BK162.out 2 (.int .i64 a0_2) rfl; have hcz10_3 := zc BK162.out 3 (.int .i64 a0_3) rfl; have hcz10_4 := zc BK162.out 4 (.int .i64 a0_4) rfl; have hcz10_5 := zc BK162.out 5 (.int .i64 a0_5) rfl; have hcz10_6 := zc BK162.out 6 (.int .i64 a0_6) rfl; have hcz10_7 := zc BK162.out 7 (.int .i64 a0_7) rfl; have hcz10_8 := zc BK162.out 8 (.slice A0_8 l0_8.length c0_8) rfl; have hfz10_0 := zf BK162.out 0; have hfz10_1 := zf BK162.out 1; have hfz10_2 := zf BK162.out 2; have hfz10_3 := zf BK162.out 3; have hfz10_4 := zf BK162.out 4; have hfz10_5 := zf BK162.out 5; have hfz10_6 := zf BK162.out 6; have hfz10_7 := zf BK162.out 7; have hfz10_8 := zf BK162.out 8) | ((with_reducible refine gate_callee (f := 30) rfl ?_); refine goesL_ (some 7) rfl rfl Try.func30 (by kernel_rfl) rfl #[.agg #[.string a0_0, .int .i64 a0_1, .int .i64 a0_2, .int .i64 a0_3, .int .i64 a0_4, .int .i64 a0_5, .int .i64 a0_6, .int .i64 a0_7, .slice A0_8 l0_8.length c0_8]] rfl (by (try simp only [List.map_toArray, List.map_cons, List.map_nil]); first | done | rfl | (simp only [List.length_drop, List.length_take]; rfl)) ?_; (with_reducible refine (metrolabref18_Check.calls k a0_0 a0_1 a0_2 a0_3 a0_4 a0_5 a0_6 a0_7 _ _ l0_8 t163 _ ?side1 ?side2 A3.out).mono ?_); (case side1 => repeat (first | exact (Kd.C_below HR0_8.out HB.out) | (with_reducible refine Kd.C_alloc ?_ _) | (with_reducible refine Kd.C_drewN ?_ _) | (with_reducible refine Kd.C_drew ?_))); (case side2 => exact HC0_8.out); rintro e w11 ⟨rfl, hb⟩; refine ⟨_, rfl, ?_⟩; have n0_ := zm (zb (g := gb162) (o := .cells #[.string a0_0, .int .i64 a0_1, .int .i64 a0_2, .int .i64 a0_3, .int .i64 a0_4, .int .i64 a0_5, .int .i64 a0_6, .int .i64 a0_7, .slice A0_8 l0_8.length c0_8] 28 (0, 0)) (by (with_reducible repeat first | apply zd | apply ze | apply za); exact BK162.out) hb); have n1_ := zm (below_step (by repeat (first | (with_reducible first | exact HB.out | apply zA | apply zD | apply zE | refine zS ?_ GE162.out) | exact HB.out)) hb); clear BK162 HB; have BK162 := n0_; have HB := n1_; clear n0_ n1_; (try clear hb); (try clear hb2); (try clear hk); (try clear hi)))
  go_ret
  exact ⟨by first | rfl | (simp [errW_none, errW_some] <;> rfl) | (simp [*, errW_none, errW_some] <;> rfl), by repeat (first | (with_reducible first | exact HB.out | apply zA | apply zD | apply zE | refine zS ?_ GE162.out) | exact HB.out)⟩
end Go.Proofs.Ytkgdlbepjmgaiaa.Fea
namespace Go.Proofs.Ytkgdlbepjmgaiaa.Fea
open Go.RowKit Go.Proofs.YtkgdlbepjmgaiaaW.PrintWords Go.Proofs.YtkgdlbepjmgaiaaW.PrintLast Go.Proofs.YtkgdlbepjmgaiaaW.PrintMore
attribute [local go_sem] max2_int min2_int max_two min_two max_three min_three max_four min_four
set_option linter.unusedVariables false
set_option linter.unusedSimpArgs false
def metrolabref18_Bounded.f (a0_0 : ByteArray) (a0_1 : Int) (a0_2 : Int) (a0_3 : Int) (a0_4 : Int) (a0_5 : Int) (a0_6 : Int) (a0_7 : Int) (l0_8 : List (S104)) (a1 : Int) : Option (Bool) := if a0_1 = 4 then (some true) else (if a0_1 = 1 then (some (a1 != a0_2)) else (if a0_1 = 2 then (some (a1 != a0_2)) else (some (a1 == a0_2))))
set_option maxHeartbeats 8000000 in
set_option maxRecDepth 100000 in
theorem metrolabref18_Bounded.calls (a0_0 : ByteArray) (a0_1 : Int) (a0_2 : Int) (a0_3 : Int) (a0_4 : Int) (a0_5 : Int) (a0_6 : Int) (a0_7 : Int) (A0_8 : Option Addr) (c0_8 : Nat) (l0_8 : List (S104)) (a1 : Int) (r : Bool) (w : World) (hr0_8 : Kd.C k104 w A0_8 l0_8.length l0_8) (hc0_8 : l0_8.length ≤ c0_8) (h : metrolabref18_Bounded.f a0_0 a0_1 a0_2 a0_3 a0_4 a0_5 a0_6 a0_7 l0_8 a1 = some r) :
 Calls Try.prog 73 #[.agg #[.string a0_0, .int .i64 a0_1, .int .i64 a0_2, .int .i64 a0_3, .int .i64 a0_4, .int .i64 a0_5, .int .i64 a0_6, .int .i64 a0_7, .slice A0_8 l0_8.length c0_8], .int .i64 a1] w fun e w' => e = .returned (.bool r) ∧ Below w.heap.size w w' := by
 have hu28 := Try.underlying28
 have HR0_8 := zm hr0_8
 have HC0_8 := zm hc0_8
 clear hr0_8 hc0_8
 have HB := zm (Below.refl w.heap.size w)
 have H : (if a0_1 = 4 then (some true) else (if a0_1 = 1 then (some (a1 != a0_2)) else (if a0_1 = 2 then (some (a1 != a0_2)) else (some (a1 == a0_2))))) = some r := h
 clear h
 by_cases c3 : a0_1 = 4
 ·rw [if_pos c3] at H
  have c3b0 : (a0_1 == 4) = true := beq_iff_eq.mpr c3
  have c3b1 : (a0_1 != 4) = false := bne_eq_false_iff_eq.mpr c3
  clear c3
  obtain rfl := Option.some.inj H
  go_enter Try.func73, Try.ntmps73
  go_wp2_with (first | ((with_reducible refine gate_dst (N := 2) rfl ?_); refine box_event ?hg (N := 2) ?hd (cs := #[.string a0_0, .int .i64 a0_1, .int .i64 a0_2, .int .i64 a0_3, .int .i64 a0_4, .int .i64 a0_5, .int .i64 a0_6, .int .i64 a0_7, .slice A0_8 l0_8.length c0_8]) (t := 28) ?hr ?_; (case hd => rfl); (case hg => rfl); (case hr => first | (go_simp; done) | (go_simp; rfl)); intro gb165 hg w4 hbox hb; have n0_ := zm (below_step (by repeat (first | (with_reducible first | exact HB.out | apply zA | apply zD | apply zE) | exact HB.out)) hb); have n1_ := zm (hbox); have n2_ := zm ((by rw [hg]; exact (below_size (by repeat (first | (with_reducible first | exact HB.out | apply zA | apply zD | apply zE) | exact HB.out))) : w.heap.size ≤ gb165)); have n3_ := zm ((by rw [hg]; exact (below_size (by repeat (first | (with_reducible first | exact HB.out | apply zA | apply zD | apply zE) | exact HB.out))) : w.heap.size ≤ gb165)); clear HB; have HB := n0_; have BK165 := n1_; have GW165 := n2_; have GE165 := n3_; clear n0_ n1_ n2_ n3_; clear hb hbox hg; have hcz5_0 := zc BK165.out 0 (.string a0_0) rfl; have hcz5_1 := zc BK165.out 1 (.int .i64 a0_1) rfl; have hcz5_2 := zc BK165.out 2 (.int .i64 a0_2) rfl; have hcz5_3 := zc BK165.out 3 (.int .i64 a0_3) rfl; have hcz5_4 := zc BK165.out 4 (.int .i64 a0_4) rfl; have hcz5_5 := zc BK165.out 5 (.int .i64 a0_5) rfl; have hcz5_6 := zc BK165.out 6 (.int .i64 a0_6) rfl; have hcz5_7 := zc BK165.out 7 (.int .i64 a0_7) rfl; have hcz5_8 := zc BK165.out 8 (.slice A0_8 l0_8.length c0_8) rfl; have hfz5_0 := zf BK165.out 0; have hfz5_1 := zf BK165.out 1; have hfz5_2 := zf BK165.out 2; have hfz5_3 := zf BK165.out 3; have hfz5_4 := zf BK165.out 4; have hfz5_5 := zf BK165.out 5; have hfz5_6 := zf BK165.out 6; have hfz5_7 := zf BK165.out 7; have hfz5_8 := zf BK165.out 8))
  go_ret
  exact ⟨by first | rfl | (simp [errW_none, errW_some] <;> rfl) | (simp [*, errW_none, errW_some] <;> rfl), by repeat (first | (with_reducible first | exact HB.out | apply zA | apply zD | apply zE | refine zS ?_ GE165.out) | exact HB.out)⟩
 ·rw [if_neg c3] at H
  have c3b0 : (a0_1 == 4) = false := beq_eq_false_iff_ne.mpr c3
  have c3b1 : (a0_1 != 4) = true := bne_iff_ne.mpr c3
  by_cases c6 : a0_1 = 1
  ·rw [if_pos c6] at H
   have c6b0 : (a0_1 == 1) = true := beq_iff_eq.mpr c6
   have c6b1 : (a0_1 != 1) = false := bne_eq_false_iff_eq.mpr c6
   clear c6
   obtain rfl := Option.some.inj H
   go_enter Try.func73, Try.ntmps73
   go_wp2_with (first | ((with_reducible refine gate_dst (N := 2) rfl ?_); refine box_event ?hg (N := 2) ?hd (cs := #[.string a0_0, .int .i64 a0_1, .int .i64 a0_2, .int .i64 a0_3, .int .i64 a0_4, .int .i64 a0_5, .int .i64 a0_6, .int .i64 a0_7, .slice A0_8 l0_8.length c0_8]) (t := 28) ?hr ?_; (case hd => rfl); (case hg => rfl); (case hr => first | (go_simp; done) | (go_simp; rfl)); intro gb165 hg w7 hbox hb; have n0_ := zm (below_step (by repeat (first | (with_reducible first | exact HB.out | apply zA | apply zD | apply zE) | exact HB.out)) hb); have n1_ := zm (hbox); have n2_ := zm ((by rw [hg]; exact (below_size (by repeat (first | (with_reducible first | exact HB.out | apply zA | apply zD | apply zE) | exact HB.out))) : w.heap.size ≤ gb165)); have n3_ := zm ((by rw [hg]; exact (below_size (by repeat (first | (with_reducible first | exact HB.out | apply zA | apply zD | apply zE) | exact HB.out))) : w.heap.size ≤ gb165)); clear HB; have HB := n0_; have BK165 := n1_; have GW165 := n2_; have GE165 := n3_; clear n0_ n1_ n2_ n3_; clear hb hbox hg; have hcz8_0 := zc BK165.out 0 (.string a0_0) rfl; have hcz8_1 := zc BK165.out 1 (.int .i64 a0_1) rfl; have hcz8_2 := zc BK165.out 2 (.int .i64 a0_2) rfl; have hcz8_3 := zc BK165.out 3 (.int .i64 a0_3) rfl; have hcz8_4 := zc BK165.out 4 (.int .i64 a0_4) rfl; have hcz8_5 := zc BK165.out 5 (.int .i64 a0_5) rfl; have hcz8_6 := zc BK165.out 6 (.int .i64 a0_6) rfl; have hcz8_7 := zc BK165.out 7 (.int .i64 a0_7) rfl; have hcz8_8 := zc BK165.out 8 (.slice A0_8 l0_8.length c0_8) rfl; have hfz8_0 := zf BK165.out 0; have hfz8_1 := zf BK165.out 1; have hfz8_2 := zf BK165.out 2; have hfz8_3 := zf BK165.out 3; have hfz8_4 := zf BK165.out 4; have hfz8_5 := zf BK165.out 5; have hfz8_6 := zf BK165.out 6; have hfz8_7 := zf BK165.out 7; have hfz8_8 := zf BK165.out 8))
   go_ret
   exact ⟨by first | rfl | (simp [errW_none, errW_some] <;> rfl) | (simp [*, errW_none, errW_some] <;> rfl), by repeat (first | (with_reducible first | exact HB.out | apply zA | apply zD | apply zE | refine zS ?_ GE165.out) | exact HB.out)⟩
  ·rw [if_neg c6] at H
   have c6b0 : (a0_1 == 1) = false := beq_eq_false_iff_ne.mpr c6
   have c6b1 : (a0_1 != 1) = true := bne_iff_ne.mpr c6
   by_cases c9 : a0_1 = 2
   ·rw [if_pos c9] at H
    have c9b0 : (a0_1 == 2) = true := beq_iff_eq.mpr c9
    have c9b1 : (a0_1 != 2) = false := bne_eq_false_iff_eq.mpr c9
    clear c9
    obtain rfl := Option.some.inj H
    go_enter Try.func73, Try.ntmps73
    go_wp2_with (first | ((with_reducible refine gate_dst (N := 2) rfl ?_); refine box_event ?hg (N := 2) ?hd (cs := #[.string a0_0, .int .i64 a0_1, .int .i64 a0_2, .int .i64 a0_3, .int .i64 a0_4, .int .i64 a0_5, .int .i64 a0_6, .int .i64 a0_7, .slice A0_8 l0_8.length c0_8]) (t := 28) ?hr ?_; (case hd => rfl); (case hg => rfl); (case hr => first | (go_simp; done) | (go_simp; rfl)); intro gb165 hg w10 hbox hb; have n0_ := zm (below_step (by repeat (first | (with_reducible first | exact HB.out | apply zA | apply zD | apply zE) | exact HB.out)) hb); have n1_ := zm (hbox); have n2_ := zm ((by rw [hg]; exact (below_size (by repeat (first | (with_reducible first | exact HB.out | apply zA | apply zD | apply zE) | exact HB.out))) : w.heap.size ≤ gb165)); have n3_ := zm ((by rw [hg]; exact (below_size (by repeat (first | (with_reducible first | exact HB.out | apply zA | apply zD | apply zE) | exact HB.out))) : w.heap.size ≤ gb165)); clear HB; have HB := n0_; have BK165 := n1_; have GW165 := n2_; have GE165 := n3_; clear n0_ n1_ n2_ n3_; clear hb hbox hg; have hcz11_0 := zc BK165.out 0 (.string a0_0) rfl; have hcz11_1 := zc BK165.out 1 (.int .i64 a0_1) rfl; have hcz11_2 := zc BK165.out 2 (.int .i64 a0_2) rfl; have hcz11_3 := zc BK165.out 3 (.int .i64 a0_3) rfl; have hcz11_4 := zc BK165.out 4 (.int .i64 a0_4) rfl; have hcz11_5 := zc BK165.out 5 (.int .i64 a0_5) rfl; have hcz11_6 := zc BK165.out 6 (.int .i64 a0_6) rfl; have hcz11_7 := zc BK165.out 7 (.int .i64 a0_7) rfl; have hcz11_8 := zc BK165.out 8 (.slice A0_8 l0_8.length c0_8) rfl; have hfz11_0 := zf BK165.out 0; have hfz11_1 := zf BK165.out 1; have hfz11_2 := zf BK165.out 2; have hfz11_3 := zf BK165.out 3; have hfz11_4 := zf BK165.out 4; have hfz11_5 := zf BK165.out 5; have hfz11_6 := zf BK165.out 6; have hfz11_7 := zf BK165.out 7; have hfz11_8 := zf BK165.out 8))
    go_ret
    exact ⟨by first | rfl | (simp [errW_none, errW_some] <;> rfl) | (simp [*, errW_none, errW_some] <;> rfl), by repeat (first | (with_reducible first | exact HB.out | apply zA | apply zD | apply zE | refine zS ?_ GE165.out) | exact HB.out)⟩
   ·rw [if_neg c9] at H
    have c9b0 : (a0_1 == 2) = false := beq_eq_false_iff_ne.mpr c9
    have c9b1 : (a0_1 != 2) = true := bne_iff_ne.mpr c9
    obtain rfl := Option.some.inj H
    go_enter Try.func73, Try.ntmps73
    go_wp2_with (first | ((with_reducible refine gate_dst (N := 2) rfl ?_); refine box_event ?hg (N := 2) ?hd (cs := #[.string a0_0, .int .i64 a0_1, .int .i64 a0_2, .int .i64 a0_3, .int .i64 a0_4, .int .i64 a0_5, .int .i64 a0_6, .int .i64 a0_7, .slice A0_8 l0_8.length c0_8]) (t := 28) ?hr ?_; (case hd => rfl); (case hg => rfl); (case hr => first | (go_simp; done) | (go_simp; rfl)); intro gb165 hg w12 hbox hb; have n0_ := zm (below_step (by repeat (first | (with_reducible first | exact HB.out | apply zA | apply zD | apply zE) | exact HB.out)) hb); have n1_ := zm (hbox); have n2_ := zm ((by rw [hg]; exact (below_size (by repeat (first | (with_reducible first | exact HB.out | apply zA | apply zD | apply zE) | exact HB.out))) : w.heap.size ≤ gb165)); have n3_ := zm ((by rw [hg]; exact (below_size (by repeat (first | (with_reducible first | exact HB.out | apply zA | apply zD | apply zE) | exact HB.out))) : w.heap.size ≤ gb165)); clear HB; have HB := n0_; have BK165 := n1_; have GW165 := n2_; have GE165 := n3_; clear n0_ n1_ n2_ n3_; clear hb hbox hg; have hcz13_0 := zc BK165.out 0 (.string a0_0) rfl; have hcz13_1 := zc BK165.out 1 (.int .i64 a0_1) rfl; have hcz13_2 := zc BK165.out 2 (.int .i64 a0_2) rfl; have hcz13_3 := zc BK165.out 3 (.int .i64 a0_3) rfl; have hcz13_4 := zc BK165.out 4 (.int .i64 a0_4) rfl; have hcz13_5 := zc BK165.out 5 (.int .i64 a0_5) rfl; have hcz13_6 := zc BK165.out 6 (.int .i64 a0_6) rfl; have hcz13_7 := zc BK165.out 7 (.int .i64 a0_7) rfl; have hcz13_8 := zc BK165.out 8 (.slice A0_8 l0_8.length c0_8) rfl; have hfz13_0 := zf BK165.out 0; have hfz13_1 := zf BK165.out 1; have hfz13_2 := zf BK165.out 2; have hfz13_3 := zf BK165.out 3; have hfz13_4 := zf BK165.out 4; have hfz13_5 := zf BK165.out 5; have hfz13_6 := zf BK165.out 6; have hfz13_7 := zf BK165.out 7; have hfz13_8 := zf BK165.out 8))
    go_ret
    exact ⟨by first | rfl | (simp [errW_none, errW_some] <;> rfl) | (simp [*, errW_none, errW_some] <;> rfl), by repeat (first | (with_reducible first | exact HB.out | apply zA | apply zD | apply zE | refine zS ?_ GE165.out) | exact HB.out)⟩
end Go.Proofs.Ytkgdlbepjmgaiaa.Fea
namespace Go.Proofs.Ytkgdlbepjmgaiaa.Fea
open Go.RowKit Go.Proofs.YtkgdlbepjmgaiaaW.PrintWords Go.Proofs.YtkgdlbepjmgaiaaW.PrintLast Go.Proofs.YtkgdlbepjmgaiaaW.PrintMore
attribute [local go_sem] max2_int min2_int max_two min_two max_three min_three max_four min_four
set_option linter.unusedVariables false
set_option linter.unusedSimpArgs false
def metrolabref18_Along.f (a0_0 : ByteArray) (a0_1 : Int) (a0_2 : Int) (a0_3 : Int) (a0_4 : Int) (a0_5 : Int) (a0_6 : Int) (a0_7 : Int) (l0_8 : List (S104)) (a1 : Int) : Option (Int × Int) :=
  if (-100000 ≤ a0_3 ∧ a0_3 ≤ 100000) ∧ (-100000 ≤ a0_4 ∧ a0_4 ≤ 100000) ∧ (-100000 ≤ a0_5 ∧ a0_5 ≤ 100000) ∧ (-100000 ≤ a0_7 ∧ a0_7 ≤ 100000) ∧ 0 ≤ a1 ∧ a1 < 3 then some (sel3 a0_3 a0_4 a0_5 a1 - halfV a0_7, sel3 a0_3 a0_4 a0_5 a1 + halfV a0_7) else none
theorem metrolabref18_Along.calls (a0_0 : ByteArray) (a0_1 : Int) (a0_2 : Int) (a0_3 : Int) (a0_4 : Int) (a0_5 : Int) (a0_6 : Int) (a0_7 : Int) (A0_8 : Option Addr) (c0_8 : Nat) (l0_8 : List (S104)) (a1 : Int) (r1 : Int) (r2 : Int) (w : World) (hr0_8 : Kd.C k104 w A0_8 l0_8.length l0_8) (hc0_8 : l0_8.length ≤ c0_8) (h : metrolabref18_Along.f a0_0 a0_1 a0_2 a0_3 a0_4 a0_5 a0_6 a0_7 l0_8 a1 = some (r1, r2)) :
    Calls Try.prog 74 #[.agg #[.string a0_0, .int .i64 a0_1, .int .i64 a0_2, .int .i64 a0_3, .int .i64 a0_4, .int .i64 a0_5, .int .i64 a0_6, .int .i64 a0_7, .slice A0_8 l0_8.length c0_8], .int .i64 a1] w fun e w' => e = .returned (.agg #[.int .i64 r1, .int .i64 r2]) ∧ Below w.heap.size w w' := by
  unfold metrolabref18_Along.f at h
  split at h
  · rename_i g
    simp only [Option.some.injEq, Prod.mk.injEq] at h
    obtain ⟨rfl, rfl⟩ := h
    exact along_calls a0_0 a0_1 a0_2 a0_3 a0_4 a0_5 a0_6 a0_7 A0_8 l0_8.length c0_8 a1 w g.1 g.2.1 g.2.2.1 g.2.2.2.1 g.2.2.2.2
  · cases h
end Go.Proofs.Ytkgdlbepjmgaiaa.Fea
namespace Go.Proofs.Ytkgdlbepjmgaiaa.Fea
open Go.RowKit Go.Proofs.YtkgdlbepjmgaiaaW.PrintWords Go.Proofs.YtkgdlbepjmgaiaaW.PrintLast Go.Proofs.YtkgdlbepjmgaiaaW.PrintMore
attribute [local go_sem] max2_int min2_int max_two min_two max_three min_three max_four min_four
set_option linter.unusedVariables false
set_option linter.unusedSimpArgs false
def metrolabref18_Reach.f (k : Nat) (a0_0 : ByteArray) (a0_1 : Int) (a0_2 : Int) (a0_3 : Int) (a0_4 : Int) (a0_5 : Int) (a0_6 : Int) (a0_7 : Int) (l0_8 : List (S104)) (a1 : Int) : Option (Int × Int × Int) := (metrolabref18_given.f k a0_0 a0_1 a0_2 a0_3 a0_4 a0_5 a0_6 a0_7 l0_8 a1).bind fun t168 => (if t168 = 0 then ((metrolabref18_Bounded.f a0_0 a0_1 a0_2 a0_3 a0_4 a0_5 a0_6 a0_7 l0_8 a1).bind fun t169 => (if t169 = true then ((metrolabref18_Along.f a0_0 a0_1 a0_2 a0_3 a0_4 a0_5 a0_6 a0_7 l0_8 a1).bind fun bt170 => ((metrolabref17_Check.f k bt170.1 bt170.2).bind fun t173 => (if t173 = 0 then (some (bt170.1, bt170.2, 0)) else (some (0, 0, 2))))) else (some (0, 0, 14)))) else (some (0, 0, t168)))
theorem metrolabref18_Reach.mono : ∀ a0 a1 a2 a3 a4 a5 a6 a7 a8 a9 k, LeO (metrolabref18_Reach.f k a0 a1 a2 a3 a4 a5 a6 a7 a8 a9) (metrolabref18_Reach.f (k + 1) a0 a1 a2 a3 a4 a5 a6 a7 a8 a9) := by
 intro a0 a1 a2 a3 a4 a5 a6 a7 a8 a9 k
 unfold metrolabref18_Reach.f
 repeat' first
  | (with_reducible exact metrolabref17_Check.mono _ _ _)
  | (with_reducible exact metrolabref18_given.mono _ _ _ _ _ _ _ _ _ _ _)
  | (with_reducible exact LeO.refl _)
  | (with_reducible exact LeO.none _)
  | (with_reducible refine LeO.ite ?_ ?_)
  | (with_reducible refine LeO.bind ?_ (fun _ => ?_))
  | exact metrolabref17_Check.mono _ _ _
  | exact metrolabref18_given.mono _ _ _ _ _ _ _ _ _ _ _
  | exact LeO.none _
  | refine LeO.ite ?_ ?_
  | refine LeO.bind ?_ (fun _ => ?_)
set_option maxHeartbeats 8000000 in
set_option maxRecDepth 100000 in
theorem metrolabref18_Reach.calls (k : Nat) (a0_0 : ByteArray) (a0_1 : Int) (a0_2 : Int) (a0_3 : Int) (a0_4 : Int) (a0_5 : Int) (a0_6 : Int) (a0_7 : Int) (A0_8 : Option Addr) (c0_8 : Nat) (l0_8 : List (S104)) (a1 : Int) (r1 : Int) (r2 : Int) (r3 : Int) (w : World) (hr0_8 : Kd.C k104 w A0_8 l0_8.length l0_8) (hc0_8 : l0_8.length ≤ c0_8) (h : metrolabref18_Reach.f k a0_0 a0_1 a0_2 a0_3 a0_4 a0_5 a0_6 a0_7 l0_8 a1 = some (r1, r2, r3)) :
 Calls Try.prog 20 #[.agg #[.string a0_0, .int .i64 a0_1, .int .i64 a0_2, .int .i64 a0_3, .int .i64 a0_4, .int .i64 a0_5, .int .i64 a0_6, .int .i64 a0_7, .slice A0_8 l0_8.length c0_8], .int .i64 a1] w fun e w' => e = .returned (.tuple #[.agg #[.int .i64 r1, .int .i64 r2], .int .i64 r3]) ∧ Below w.heap.size w w' := by
 have hu28 := Try.underlying28
 have hu25 := Try.underlying25
 have HR0_8 := zm hr0_8
 have HC0_8 := zm hc0_8
 clear hr0_8 hc0_8
 have HB := zm (Below.refl w.heap.size w)
 have H : ((metrolabref18_given.f k a0_0 a0_1 a0_2 a0_3 a0_4 a0_5 a0_6 a0_7 l0_8 a1).bind fun t168 => (if t168 = 0 then ((metrolabref18_Bounded.f a0_0 a0_1 a0_2 a0_3 a0_4 a0_5 a0_6 a0_7 l0_8 a1).bind fun t169 => (if t169 = true then ((metrolabref18_Along.f a0_0 a0_1 a0_2 a0_3 a0_4 a0_5 a0_6 a0_7 l0_8 a1).bind fun bt170 => ((metrolabref17_Check.f k bt170.1 bt170.2).bind fun t173 => (if t173 = 0 then (some (bt170.1, bt170.2, 0)) else (some (0, 0, 2))))) else (some (0, 0, 14)))) else (some (0, 0, t168)))) = some (r1, r2, r3) := h
 clear h
 replace H := Option.bind_eq_some_iff.mp H
 obtain ⟨t168, A30, H⟩ := H
 replace H : (if t168 = 0 then ((metrolabref18_Bounded.f a0_0 a0_1 a0_2 a0_3 a0_4 a0_5 a0_6 a0_7 l0_8 a1).bind fun t169 => (if t169 = true then ((metrolabref18_Along.f a0_0 a0_1 a0_2 a0_3 a0_4 a0_5 a0_6 a0_7 l0_8 a1).bind fun bt170 => ((metrolabref17_Check.f k bt170.1 bt170.2).bind fun t173 => (if t173 = 0 then (some (bt170.1, bt170.2, 0)) else (some (0, 0, 2))))) else (some (0, 0, 14)))) else (some (0, 0, t168))) = some (r1, r2, r3) := H
 have A3 := zm A30
 clear A30
 by_cases c4 : t168 = 0
 ·rw [if_pos c4] at H
  have c4b0 : (t168 == 0) = true := beq_iff_eq.mpr c4
  have c4b1 : (t168 != 0) = false := bne_eq_false_iff_eq.mpr c4
  clear c4
  replace H := Option.bind_eq_some_iff.mp H
  obtain ⟨t169, A50, H⟩ := H
  replace H : (if t169 = true then ((metrolabref18_Along.f a0_0 a0_1 a0_2 a0_3 a0_4 a0_5 a0_6 a0_7 l0_8 a1).bind fun bt170 => ((metrolabref17_Check.f k bt170.1 bt170.2).bind fun t173 => (if t173 = 0 then (some (bt170.1, bt170.2, 0)) else (some (0, 0, 2))))) else (some (0, 0, 14))) = some (r1, r2, r3) := H
  have A5 := zm A50
  clear A50
  by_cases c6 : t169 = true
  ·subst c6
   have H1 : ((metrolabref18_Along.f a0_0 a0_1 a0_2 a0_3 a0_4 a0_5 a0_6 a0_7 l0_8 a1).bind fun bt170 => ((metrolabref17_Check.f k bt170.1 bt170.2).bind fun t173 => (if t173 = 0 then (some (bt170.1, bt170.2, 0)) else (some (0, 0, 2))))) = some (r1, r2, r3) := by rw [if_pos rfl] at H; exact H
   clear H
   have H := H1
   clear H1
   replace H := Option.bind_eq_some_iff.mp H
   obtain ⟨⟨t170, t171⟩, A70, H⟩ := H
   replace H : ((metrolabref17_Check.f k t170 t171).bind fun t173 => (if t173 = 0 then (some (t170, t171, 0)) else (some (0, 0, 2)))) = some (r1, r2, r3) := H
   have A7 := zm A70
   clear A70
   replace H := Option.bind_eq_some_iff.mp H
   obtain ⟨t173, A80, H⟩ := H
   replace H : (if t173 = 0 then (some (t170, t171, 0)) else (some (0, 0, 2))) = some (r1, r2, r3) := H
   have A8 := zm A80
   clear A80
   by_cases c9 : t173 = 0
   ·rw [if_pos c9] at H
    have c9b0 : (t173 == 0) = true := beq_iff_eq.mpr c9
    have c9b1 : (t173 != 0) = false := bne_eq_false_iff_eq.mpr c9
    clear c9
    simp only [Option.some.injEq, Prod.mk.injEq] at H
    obtain ⟨rfl, rfl, rfl⟩ := H
    go_enter Try.func20, Try.ntmps20
    go_wp2_with (first | ((with_reducible refine gate_dst (N := 2) rfl ?_); refine box_event ?hg (N := 2) ?hd (cs := #[.string a0_0, .int .i64 a0_1, .int .i64 a0_2, .int .i64 a0_3, .int .i64 a0_4, .int .i64 a0_5, .int .i64 a0_6, .int .i64 a0_7, .slice A0_8 l0_8.length c0_8]) (t := 28) ?hr ?_; (case hd => rfl); (case hg => rfl); (case hr => first | (go_simp; done) | (go_simp; rfl)); intro gb166 hg w10 hbox hb; have n0_ := zm (below_step (by repeat (first | (with_reducible first | exact HB.out | apply zA | apply zD | apply zE) | exact HB.out)) hb); have n1_ := zm (hbox); have n2_ := zm ((by rw [hg]; exact (below_size (by repeat (first | (with_reducible first | exact HB.out | apply zA | apply zD | apply zE) | exact HB.out))) : w.heap.size ≤ gb166)); have n3_ := zm ((by rw [hg]; exact (below_size (by repeat (first | (with_reducible first | exact HB.out | apply zA | apply zD | apply zE) | exact HB.out))) : w.heap.size ≤ gb166)); clear HB; have HB := n0_; have BK166 := n1_; have GW166 := n2_; have GE166 := n3_; clear n0_ n1_ n2_ n3_; clear hb hbox hg) | ((with_reducible refine gate_dst (N := 4) rfl ?_); refine box_event ?hg (N := 4) ?hd (cs := #[.int .i64 0, .int .i64 0]) (t := 25) ?hr ?_; (case hd => rfl); (case hg => rfl); (case hr => first | (go_simp; done) | (go_simp; rfl)); intro gb167 hg w11 hbox hb; have n0_ := zm (zb (g := gb166) (o := .cells #[.string a0_0, .int .i64 a0_1, .int .i64 a0_2, .int .i64 a0_3, .int .i64 a0_4, .int .i64 a0_5, .int .i64 a0_6, .int .i64 a0_7, .slice A0_8 l0_8.length c0_8] 28 (0, 0)) (by (with_reducible repeat first | apply zd | apply ze | apply za); exact BK166.out) hb); have n1_ := zm (below_step (by repeat (first | (with_reducible first | exact HB.out | apply zA | apply zD | apply zE | refine zS ?_ GE166.out) | exact HB.out)) hb); have n2_ := zm (hbox); have n3_ := zm ((by rw [hg]; exact (below_size (by repeat (first | (with_reducible first | exact HB.out | apply zA | apply zD | apply zE | refine zS ?_ GE166.out) | exact HB.out))) : w.heap.size ≤ gb167)); have n4_ := zm ((by rw [hg]; exact (below_size (by repeat (first | (with_reducible first | exact HB.out | apply zA | apply zD | apply zE | refine zS ?_ GE166.out) | exact HB.out))) : w.heap.size ≤ gb167)); have n5_ := zm ((by rw [hg]; exact Nat.ne_of_lt (blk_lt (g := gb166) (o := .cells #[.string a0_0, .int .i64 a0_1, .int .i64 a0_2, .int .i64 a0_3, .int .i64 a0_4, .int .i64 a0_5, .int .i64 a0_6, .int .i64 a0_7, .slice A0_8 l0_8.length c0_8] 28 (0, 0)) (by (with_reducible repeat first | apply zd | apply ze | apply za); exact BK166.out)) : gb166 ≠ gb167)); have n6_ := zm ((by rw [hg]; exact Nat.ne_of_gt (blk_lt (g := gb166) (o := .cells #[.string a0_0, .int .i64 a0_1, .int .i64 a0_2, .int .i64 a0_3, .int .i64 a0_4, .int .i64 a0_5, .int .i64 a0_6, .int .i64 a0_7, .slice A0_8 l0_8.length c0_8] 28 (0, 0)) (by (with_reducible repeat first | apply zd | apply ze | apply za); exact BK166.out)) : gb167 ≠ gb166)); clear BK166 HB; have BK166 := n0_; have HB := n1_; have BK167 := n2_; have GW167 := n3_; have GE167 := n4_; have NB166_167 := n5_; have NB167_166 := n6_; clear n0_ n1_ n2_ n3_ n4_ n5_ n6_; clear hb hbox hg; have hnb12 := NB166_167.out; have hnc12 := NB167_166.out; have hcz13_0 := zc BK166.out 0 (.string a0_0) rfl; have hcz13_1 := zc BK166.out 1 (.int .i64 a0_1) rfl; have hcz13_2 := zc BK166.out 2 (.int .i64 a0_2) rfl; have hcz13_3 := zc BK166.out 3 (.int .i64 a0_3) rfl; have hcz13_4 := zc BK166.out 4 (.int .i64 a0_4) rfl; have hcz13_5 := zc BK166.out 5 (.int .i64 a0_5) rfl; have hcz13_6 := zc BK166.out 6 (.int .i64 a0_6) rfl; have hcz13_7 := zc BK166.out 7 (.int .i64 a0_7) rfl; have hcz13_8 := zc BK166.out 8 (.slice A0_8 l0_8.length c0_8) rfl; have hfz13_0 := zf BK166.out 0; have hfz13_1 := zf BK166.out 1; have hfz13_2 := zf BK166.out 2; have hfz13_3 := zf BK166.out 3; have hfz13_4 := zf BK166.out 4; have hfz13_5 := zf BK166.out 5; have hfz13_6 := zf BK166.out 6; have hfz13_7 := zf BK166.out 7; have hfz13_8 := zf BK166.out 8) | ((with_reducible refine gate_callee (f := 72) rfl ?_); refine goesL_ (some 10) rfl rfl Try.func72 (by kernel_rfl) rfl #[.agg #[.string a0_0, .int .i64 a0_1, .int .i64 a0_2, .int .i64 a0_3, .int .i64 a0_4, .int .i64 a0_5, .int .i64 a0_6, .int .i64 a0_7, .slice A0_8 l0_8.length c0_8], .int .i64 a1] rfl (by (try simp only [List.map_toArray, List.map_cons, List.map_nil]); first | done | rfl | (simp only [List.length_drop, List.length_take]; rfl)) ?_; (with_reducible refine (metrolabref18_given.calls k a0_0 a0_1 a0_2 a0_3 a0_4 a0_5 a0_6 a0_7 _ _ l0_8 a1 t168 _ ?side1 ?side2 A3.out).mono ?_); (case side1 => repeat (first | exact (Kd.C_below HR0_8.out HB.out) | (with_reducible refine Kd.C_alloc ?_ _) | (with_reducible refine Kd.C_drewN ?_ _) | (with_reducible refine Kd.C_drew ?_))); (case side2 => exact HC0_8.out); rintro e w14 ⟨rfl, hb⟩; refine ⟨_, rfl, ?_⟩; have n0_ := zm (zb (g := gb166) (o := .cells #[.string a0_0, .int .i64 a0_1, .int .i64 a0_2, .int .i64 a0_3, .int .i64 a0_4, .int .i64 a0_5, .int .i64 a0_6, .int .i64 a0_7, .slice A0_8 l0_8.length c0_8] 28 (0, 0)) (by (with_reducible repeat first | apply zd | apply ze | apply za); exact BK166.out) hb); have n1_ := zm (zb (g := gb167) (o := .cells #[.int .i64 0, .int .i64 0] 25 (0, 0)) (by (with_reducible repeat first | apply zd | apply ze | apply za); exact BK167.out) hb); have n2_ := zm (below_step (by repeat (first | (with_reducible first | exact HB.out | apply zA | apply zD | apply zE | refine zS ?_ GE166.out | refine zS ?_ GE167.out) | exact HB.out)) hb); clear BK166 BK167 HB; have BK166 := n0_; have BK167 := n1_; have HB := n2_; clear n0_ n1_ n2_; (try clear hb); (try clear hb2); (try clear hk); (try clear hi); have hcz15_0 := zc BK166.out 0 (.string a0_0) rfl; have hcz15_1 := zc BK166.out 1 (.int .i64 a0_1) rfl; have hcz15_2 := zc BK166.out 2 (.int .i64 a0_2) rfl; have hcz15_3 := zc BK166.out 3 (.int .i64 a0_3) rfl; have hcz15_4 := zc BK166.out 4 (.int .i64 a0_4) rfl; have hcz15_5 := zc BK166.out 5 (.int .i64 a0_5) rfl; have hcz15_6 := zc BK166.out 6 (.int .i64 a0_6) rfl; have hcz15_7 := zc BK166.out 7 (.int .i64 a0_7) rfl; have hcz15_8 := zc BK166.out 8 (.slice A0_8 l0_8.length c0_8) rfl; have hfz15_0 := zf BK166.out 0; have hfz15_1 := zf BK166.out 1; have hfz15_2 := zf BK166.out 2; have hfz15_3 := zf BK166.out 3; have hfz15_4 := zf BK166.out 4; have hfz15_5 := zf BK166.out 5; have hfz15_6 := zf BK166.out 6; have hfz15_7 := zf BK166.out 7; have hfz15_8 := zf BK166.out 8) | ((with_reducible refine gate_callee (f := 73) rfl ?_); refine goesL_ (some 17) rfl rfl Try.func73 (by kernel_rfl) rfl #[.agg #[.string a0_0, .int .i64 a0_1, .int .i64 a0_2, .int .i64 a0_3, .int .i64 a0_4, .int .i64 a0_5, .int .i64 a0_6, .int .i64 a0_7, .slice A0_8 l0_8.length c0_8], .int .i64 a1] rfl (by (try simp only [List.map_toArray, List.map_cons, List.map_nil]); first | done | rfl | (simp only [List.length_drop, List.length_take]; rfl)) ?_; (with_reducible refine (metrolabref18_Bounded.calls a0_0 a0_1 a0_2 a0_3 a0_4 a0_5 a0_6 a0_7 _ _ l0_8 a1 true _ ?side1 ?side2 A5.out).mono ?_); (case side1 => repeat (first | exact (Kd.C_below HR0_8.out HB.out) | (with_reducible refine Kd.C_alloc ?_ _) | (with_reducible refine Kd.C_drewN ?_ _) | (with_reducible refine Kd.C_drew ?_))); (case side2 => exact HC0_8.out); rintro e w16 ⟨rfl, hb⟩; refine ⟨_, rfl, ?_⟩; have n0_ := zm (zb (g := gb166) (o := .cells #[.string a0_0, .int .i64 a0_1, .int .i64 a0_2, .int .i64 a0_3, .int .i64 a0_4, .int .i64 a0_5, .int .i64 a0_6, .int .i64 a0_7, .slice A0_8 l0_8.length c0_8] 28 (0, 0)) (by (with_reducible repeat first | apply zd | apply ze | apply za); exact BK166.out) hb); have n1_ := zm (zb (g := gb167) (o := .cells #[.int .i64 0, .int .i64 0] 25 (0, 0)) (by (with_reducible repeat first | apply zd | apply ze | apply za); exact BK167.out) hb); have n2_ := zm (below_step (by repeat (first | (with_reducible first | exact HB.out | apply zA | apply zD | apply zE | refine zS ?_ GE166.out | refine zS ?_ GE167.out) | exact HB.out)) hb); clear BK166 BK167 HB; have BK166 := n0_; have BK167 := n1_; have HB := n2_; clear n0_ n1_ n2_; (try clear hb); (try clear hb2); (try clear hk); (try clear hi); have hcz17_0 := zc BK166.out 0 (.string a0_0) rfl; have hcz17_1 := zc BK166.out 1 (.int .i64 a0_1) rfl; have hcz17_2 := zc BK166.out 2 (.int .i64 a0_2) rfl; have hcz17_3 := zc BK166.out 3 (.int .i64 a0_3) rfl; have hcz17_4 := zc BK166.out 4 (.int .i64 a0_4) rfl; have hcz17_5 := zc BK166.out 5 (.int .i64 a0_5) rfl; have hcz17_6 := zc BK166.out 6 (.int .i64 a0_6) rfl; have hcz17_7 := zc BK166.out 7 (.int .i64 a0_7) rfl; have hcz17_8 := zc BK166.out 8 (.slice A0_8 l0_8.length c0_8) rfl; have hfz17_0 := zf BK166.out 0; have hfz17_1 := zf BK166.out 1; have hfz17_2 := zf BK166.out 2; have hfz17_3 := zf BK166.out 3; have hfz17_4 := zf BK166.out 4; have hfz17_5 := zf BK166.out 5; have hfz17_6 := zf BK166.out 6; have hfz17_7 := zf BK166.out 7; have hfz17_8 := zf BK166.out 8) | ((with_reducible refine gate_callee (f := 74) rfl ?_); refine goesL_ (some 22) rfl rfl Try.func74 (by kernel_rfl) rfl #[.agg #[.string a0_0, .int .i64 a0_1, .int .i64 a0_2, .int .i64 a0_3, .int .i64 a0_4, .int .i64 a0_5, .int .i64 a0_6, .int .i64 a0_7, .slice A0_8 l0_8.length c0_8], .int .i64 a1] rfl (by (try simp only [List.map_toArray, List.map_cons, List.map_nil]); first | done | rfl | (simp only [List.length_drop, List.length_take]; rfl)) ?_; (with_reducible refine (metrolabref18_Along.calls a0_0 a0_1 a0_2 a0_3 a0_4 a0_5 a0_6 a0_7 _ _ l0_8 a1 t170 t171 _ ?side1 ?side2 A7.out).mono ?_); (case side1 => repeat (first | exact (Kd.C_below HR0_8.out HB.out) | (with_reducible refine Kd.C_alloc ?_ _) | (with_reducible refine Kd.C_drewN ?_ _) | (with_reducible refine Kd.C_drew ?_))); (case side2 => exact HC0_8.out); rintro e w18 ⟨rfl, hb⟩; refine ⟨_, rfl, ?_⟩; have n0_ := zm (zb (g := gb166) (o := .cells #[.string a0_0, .int .i64 a0_1, .int .i64 a0_2, .int .i64 a0_3, .int .i64 a0_4, .int .i64 a0_5, .int .i64 a0_6, .int .i64 a0_7, .slice A0_8 l0_8.length c0_8] 28 (0, 0)) (by (with_reducible repeat first | apply zd | apply ze | apply za); exact BK166.out) hb); have n1_ := zm (zb (g := gb167) (o := .cells #[.int .i64 0, .int .i64 0] 25 (0, 0)) (by (with_reducible repeat first | apply zd | apply ze | apply za); exact BK167.out) hb); have n2_ := zm (below_step (by repeat (first | (with_reducible first | exact HB.out | apply zA | apply zD | apply zE | refine zS ?_ GE166.out | refine zS ?_ GE167.out) | exact HB.out)) hb); clear BK166 BK167 HB; have BK166 := n0_; have BK167 := n1_; have HB := n2_; clear n0_ n1_ n2_; (try clear hb); (try clear hb2); (try clear hk); (try clear hi)) | ((with_reducible refine gate_dst (N := 7) rfl ?_); refine box_event ?hg (N := 7) ?hd (cs := #[.int .i64 0, .int .i64 0]) (t := 25) ?hr ?_; (case hd => rfl); (case hg => rfl); (case hr => first | (go_simp; done) | (go_simp; rfl)); intro gb172 hg w19 hbox hb; have n0_ := zm (zb (g := gb166) (o := .cells #[.string a0_0, .int .i64 a0_1, .int .i64 a0_2, .int .i64 a0_3, .int .i64 a0_4, .int .i64 a0_5, .int .i64 a0_6, .int .i64 a0_7, .slice A0_8 l0_8.length c0_8] 28 (0, 0)) (by (with_reducible repeat first | apply zd | apply ze | apply za); exact BK166.out) hb); have n1_ := zm (zb (g := gb167) (o := .cells #[.int .i64 0, .int .i64 0] 25 (0, 0)) (by (with_reducible repeat first | apply zd | apply ze | apply za); exact BK167.out) hb); have n2_ := zm (below_step (by repeat (first | (with_reducible first | exact HB.out | apply zA | apply zD | apply zE | refine zS ?_ GE166.out | refine zS ?_ GE167.out) | exact HB.out)) hb); have n3_ := zm (hbox); have n4_ := zm ((by rw [hg]; exact (below_size (by repeat (first | (with_reducible first | exact HB.out | apply zA | apply zD | apply zE | refine zS ?_ GE166.out | refine zS ?_ GE167.out) | exact HB.out))) : w.heap.size ≤ gb172)); have n5_ := zm ((by rw [hg]; exact (below_size (by repeat (first | (with_reducible first | exact HB.out | apply zA | apply zD | apply zE | refine zS ?_ GE166.out | refine zS ?_ GE167.out) | exact HB.out))) : w.heap.size ≤ gb172)); have n6_ := zm ((by rw [hg]; exact Nat.ne_of_lt (blk_lt (g := gb166) (o := .cells #[.string a0_0, .int .i64 a0_1, .int .i64 a0_2, .int .i64 a0_3, .int .i64 a0_4, .int .i64 a0_5, .int .i64 a0_6, .int .i64 a0_7, .slice A0_8 l0_8.length c0_8] 28 (0, 0)) (by (with_reducible repeat first | apply zd | apply ze | apply za); exact BK166.out)) : gb166 ≠ gb172)); have n7_ := zm ((by rw [hg]; exact Nat.ne_of_gt (blk_lt (g := gb166) (o := .cells #[.string a0_0, .int .i64 a0_1, .int .i64 a0_2, .int .i64 a0_3, .int .i64 a0_4, .int .i64 a0_5, .int .i64 a0_6, .int .i64 a0_7, .slice A0_8 l0_8.length c0_8] 28 (0, 0)) (by (with_reducible repeat first | apply zd | apply ze | apply za); exact BK166.out)) : gb172 ≠ gb166)); have n8_ := zm ((by rw [hg]; exact Nat.ne_of_lt (blk_lt (g := gb167) (o := .cells #[.int .i64 0, .int .i64 0] 25 (0, 0)) (by (with_reducible repeat first | apply zd | apply ze | apply za); exact BK167.out)) : gb167 ≠ gb172)); have n9_ := zm ((by rw [hg]; exact Nat.ne_of_gt (blk_lt (g := gb167) (o := .cells #[.int .i64 0, .int .i64 0] 25 (0, 0)) (by (with_reducible repeat first | apply zd | apply ze | apply za); exact BK167.out)) : gb172 ≠ gb167)); clear BK166 BK167 HB; have BK166 := n0_; have BK167 := n1_; have HB := n2_; have BK172 := n3_; have GW172 := n4_; have GE172 := n5_; have NB166_172 := n6_; have NB172_166 := n7_; have NB167_172 := n8_; have NB172_167 := n9_; clear n0_ n1_ n2_ n3_ n4_ n5_ n6_ n7_ n8_ n9_; clear hb hbox hg; have hnb20 := NB172_166.out; have hnc20 := NB166_172.out; have hnb21 := NB172_167.out; have hnc21 := NB167_172.out; have hcz22_0 := zc BK172.out 0 (.int .i64 0) rfl; have hcz22_1 := zc BK172.out 1 (.int .i64 0) rfl; have hfz22_0 := zf BK172.out 0; have hfz22_1 := zf BK172.out 1) | ((with_reducible refine gate_callee (f := 33) rfl ?_); refine goesL_ (some 24) rfl rfl Try.func33 (by kernel_rfl) rfl #[.agg #[.int .i64 t170, .int .i64 t171]] rfl (by (try simp only [List.map_toArray, List.map_cons, List.map_nil]); first | done | rfl | (simp only [List.length_drop, List.length_take]; rfl)) ?_; (with_reducible refine (metrolabref17_Check.calls k t170 t171 t173 _ A8.out).mono ?_); rintro e w23 ⟨rfl, hb⟩; refine ⟨_, rfl, ?_⟩; have n0_ := zm (zb (g := gb166) (o := .cells #[.string a0_0, .int .i64 a0_1, .int .i64 a0_2, .int .i64 a0_3, .int .i64 a0_4, .int .i64 a0_5, .int .i64 a0_6, .int .i64 a0_7, .slice A0_8 l0_8.length c0_8] 28 (0, 0)) (by (with_reducible repeat first | apply zd | apply ze | apply za); refine blk_far ?_ NB166_172.out _; (with_reducible repeat first | apply zd | apply ze | apply za); refine blk_far ?_ NB166_172.out _; (with_reducible repeat first | apply zd | apply ze | apply za); exact BK166.out) hb); have n1_ := zm (zb (g := gb167) (o := .cells #[.int .i64 0, .int .i64 0] 25 (0, 0)) (by (with_reducible repeat first | apply zd | apply ze | apply za); refine blk_far ?_ NB167_172.out _; (with_reducible repeat first | apply zd | apply ze | apply za); refine blk_far ?_ NB167_172.out _; (with_reducible repeat first | apply zd | apply ze | apply za); exact BK167.out) hb); have n2_ := zm (zb (g := gb172) (o := .cells #[.int .i64 t170, .int .i64 t171] 25 (0, 0)) (by (with_reducible repeat first | apply zd | apply ze | apply za); refine blk_put (cs := #[.int .i64 t170, .int .i64 0]) ?_ 1 _ rfl; (with_reducible repeat first | apply zd | apply ze | apply za); refine blk_put (cs := #[.int .i64 0, .int .i64 0]) ?_ 0 _ rfl; (with_reducible repeat first | apply zd | apply ze | apply za); exact BK172.out) hb); have n3_ := zm (below_step (by repeat (first | (with_reducible first | exact HB.out | apply zA | apply zD | apply zE | refine zS ?_ GE166.out | refine zS ?_ GE167.out | refine zS ?_ GE172.out) | exact HB.out)) hb); clear BK166 BK167 BK172 HB; have BK166 := n0_; have BK167 := n1_; have BK172 := n2_; have HB := n3_; clear n0_ n1_ n2_ n3_; (try clear hb); (try clear hb2); (try clear hk); (try clear hi); have hcz24_0 := zc BK172.out 0 (.int .i64 t170) rfl; have hcz24_1 := zc BK172.out 1 (.int .i64 t171) rfl; have hfz24_0 := zf BK172.out 0; have hfz24_1 := zf BK172.out 1; have hcz25_0 := zc BK167.out 0 (.int .i64 0) rfl; have hcz25_1 := zc BK167.out 1 (.int .i64 0) rfl; have hfz25_0 := zf BK167.out 0; have hfz25_1 := zf BK167.out 1))
    refine bodyPost_ret (results_ct rfl _ _ gb167 25 #[.int .i64 t170, .int .i64 t171] (0, 0) _ rfl (by (with_reducible repeat first | apply zd | apply ze | apply za); refine blk_put (cs := #[.int .i64 t170, .int .i64 0]) ?_ 1 _ rfl; (with_reducible repeat first | apply zd | apply ze | apply za); refine blk_put (cs := #[.int .i64 0, .int .i64 0]) ?_ 0 _ rfl; (with_reducible repeat first | apply zd | apply ze | apply za); exact BK167.out) Try.underlying25 rfl (by kernel_rfl)) rfl ?_
    exact ⟨by first | rfl | (simp [errW_none, errW_some] <;> rfl) | (simp [*, errW_none, errW_some] <;> rfl), by repeat (first | (with_reducible first | exact HB.out | apply zA | apply zD | apply zE | refine zS ?_ GE166.out | refine zS ?_ GE167.out | refine zS ?_ GE172.out) | exact HB.out)⟩
   ·rw [if_neg c9] at H
    have c9b0 : (t173 == 0) = false := beq_eq_false_iff_ne.mpr c9
    have c9b1 : (t173 != 0) = true := bne_iff_ne.mpr c9
    simp only [Option.some.injEq, Prod.mk.injEq] at H
    obtain ⟨rfl, rfl, rfl⟩ := H
    go_enter Try.func20, Try.ntmps20
    go_wp2_with (first | ((with_reducible refine gate_dst (N := 2) rfl ?_); refine box_event ?hg (N := 2) ?hd (cs := #[.string a0_0, .int .i64 a0_1, .int .i64 a0_2, .int .i64 a0_3, .int .i64 a0_4, .int .i64 a0_5, .int .i64 a0_6, .int .i64 a0_7, .slice A0_8 l0_8.length c0_8]) (t := 28) ?hr ?_; (case hd => rfl); (case hg => rfl); (case hr => first | (go_simp; done) | (go_simp; rfl)); intro gb166 hg w26 hbox hb; have n0_ := zm (below_step (by repeat (first | (with_reducible first | exact HB.out | apply zA | apply zD | apply zE) | exact HB.out)) hb); have n1_ := zm (hbox); have n2_ := zm ((by rw [hg]; exact (below_size (by repeat (first | (with_reducible first | exact HB.out | apply zA | apply zD | apply zE) | exact HB.out))) : w.heap.size ≤ gb166)); have n3_ := zm ((by rw [hg]; exact (below_size (by repeat (first | (with_reducible first | exact HB.out | apply zA | apply zD | apply zE) | exact HB.out))) : w.heap.size ≤ gb166)); clear HB; have HB := n0_; have BK166 := n1_; have GW166 := n2_; have GE166 := n3_; clear n0_ n1_ n2_ n3_; clear hb hbox hg) | ((with_reducible refine gate_dst (N := 4) rfl ?_); refine box_event ?hg (N := 4) ?hd (cs := #[.int .i64 0, .int .i64 0]) (t := 25) ?hr ?_; (case hd => rfl); (case hg => rfl); (case hr => first | (go_simp; done) | (go_simp; rfl)); intro gb167 hg w27 hbox hb; have n0_ := zm (zb (g := gb166) (o := .cells #[.string a0_0, .int .i64 a0_1, .int .i64 a0_2, .int .i64 a0_3, .int .i64 a0_4, .int .i64 a0_5, .int .i64 a0_6, .int .i64 a0_7, .slice A0_8 l0_8.length c0_8] 28 (0, 0)) (by (with_reducible repeat first | apply zd | apply ze | apply za); exact BK166.out) hb); have n1_ := zm (below_step (by repeat (first | (with_reducible first | exact HB.out | apply zA | apply zD | apply zE | refine zS ?_ GE166.out) | exact HB.out)) hb); have n2_ := zm (hbox); have n3_ := zm ((by rw [hg]; exact (below_size (by repeat (first | (with_reducible first | exact HB.out | apply zA | apply zD | apply zE | refine zS ?_ GE166.out) | exact HB.out))) : w.heap.size ≤ gb167)); have n4_ := zm ((by rw [hg]; exact (below_size (by repeat (first | (with_reducible first | exact HB.out | apply zA | apply zD | apply zE | refine zS ?_ GE166.out) | exact HB.out))) : w.heap.size ≤ gb167)); have n5_ := zm ((by rw [hg]; exact Nat.ne_of_lt (blk_lt (g := gb166) (o := .cells #[.string a0_0, .int .i64 a0_1, .int .i64 a0_2, .int .i64 a0_3, .int .i64 a0_4, .int .i64 a0_5, .int .i64 a0_6, .int .i64 a0_7, .slice A0_8 l0_8.length c0_8] 28 (0, 0)) (by (with_reducible repeat first | apply zd | apply ze | apply za); exact BK166.out)) : gb166 ≠ gb167)); have n6_ := zm ((by rw [hg]; exact Nat.ne_of_gt (blk_lt (g := gb166) (o := .cells #[.string a0_0, .int .i64 a0_1, .int .i64 a0_2, .int .i64 a0_3, .int .i64 a0_4, .int .i64 a0_5, .int .i64 a0_6, .int .i64 a0_7, .slice A0_8 l0_8.length c0_8] 28 (0, 0)) (by (with_reducible repeat first | apply zd | apply ze | apply za); exact BK166.out)) : gb167 ≠ gb166)); clear BK166 HB; have BK166 := n0_; have HB := n1_; have BK167 := n2_; have GW167 := n3_; have GE167 := n4_; have NB166_167 := n5_; have NB167_166 := n6_; clear n0_ n1_ n2_ n3_ n4_ n5_ n6_; clear hb hbox hg; have hnb28 := NB166_167.out; have hnc28 := NB167_166.out; have hcz29_0 := zc BK166.out 0 (.string a0_0) rfl; have hcz29_1 := zc BK166.out 1 (.int .i64 a0_1) rfl; have hcz29_2 := zc BK166.out 2 (.int .i64 a0_2) rfl; have hcz29_3 := zc BK166.out 3 (.int .i64 a0_3) rfl; have hcz29_4 := zc BK166.out 4 (.int .i64 a0_4) rfl; have hcz29_5 := zc BK166.out 5 (.int .i64 a0_5) rfl; have hcz29_6 := zc BK166.out 6 (.int .i64 a0_6) rfl; have hcz29_7 := zc BK166.out 7 (.int .i64 a0_7) rfl; have hcz29_8 := zc BK166.out 8 (.slice A0_8 l0_8.length c0_8) rfl; have hfz29_0 := zf BK166.out 0; have hfz29_1 := zf BK166.out 1; have hfz29_2 := zf BK166.out 2; have hfz29_3 := zf BK166.out 3; have hfz29_4 := zf BK166.out 4; have hfz29_5 := zf BK166.out 5; have hfz29_6 := zf BK166.out 6; have hfz29_7 := zf BK166.out 7; have hfz29_8 := zf BK166.out 8) | ((with_reducible refine gate_callee (f := 72) rfl ?_); refine goesL_ (some 10) rfl rfl Try.func72 (by kernel_rfl) rfl #[.agg #[.string a0_0, .int .i64 a0_1, .int .i64 a0_2, .int .i64 a0_3, .int .i64 a0_4, .int .i64 a0_5, .int .i64 a0_6, .int .i64 a0_7, .slice A0_8 l0_8.length c0_8], .int .i64 a1] rfl (by (try simp only [List.map_toArray, List.map_cons, List.map_nil]); first | done | rfl | (simp only [List.length_drop, List.length_take]; rfl)) ?_; (with_reducible refine (metrolabref18_given.calls k a0_0 a0_1 a0_2 a0_3 a0_4 a0_5 a0_6 a0_7 _ _ l0_8 a1 t168 _ ?side1 ?side2 A3.out).mono ?_); (case side1 => repeat (first | exact (Kd.C_below HR0_8.out HB.out) | (with_reducible refine Kd.C_alloc ?_ _) | (with_reducible refine Kd.C_drewN ?_ _) | (with_reducible refine Kd.C_drew ?_))); (case side2 => exact HC0_8.out); rintro e w30 ⟨rfl, hb⟩; refine ⟨_, rfl, ?_⟩; have n0_ := zm (zb (g := gb166) (o := .cells #[.string a0_0, .int .i64 a0_1, .int .i64 a0_2, .int .i64 a0_3, .int .i64 a0_4, .int .i64 a0_5, .int .i64 a0_6, .int .i64 a0_7, .slice A0_8 l0_8.length c0_8] 28 (0, 0)) (by (with_reducible repeat first | apply zd | apply ze | apply za); exact BK166.out) hb); have n1_ := zm (zb (g := gb167) (o := .cells #[.int .i64 0, .int .i64 0] 25 (0, 0)) (by (with_reducible repeat first | apply zd | apply ze | apply za); exact BK167.out) hb); have n2_ := zm (below_step (by repeat (first | (with_reducible first | exact HB.out | apply zA | apply zD | apply zE | refine zS ?_ GE166.out | refine zS ?_ GE167.out) | exact HB.out)) hb); clear BK166 BK167 HB; have BK166 := n0_; have BK167 := n1_; have HB := n2_; clear n0_ n1_ n2_; (try clear hb); (try clear hb2); (try clear hk); (try clear hi); have hcz31_0 := zc BK166.out 0 (.string a0_0) rfl; have hcz31_1 := zc BK166.out 1 (.int .i64 a0_1) rfl; have hcz31_2 := zc BK166.out 2 (.int .i64 a0_2) rfl; have hcz31_3 := zc BK166.out 3 (.int .i64 a0_3) rfl; have hcz31_4 := zc BK166.out 4 (.int .i64 a0_4) rfl; have hcz31_5 := zc BK166.out 5 (.int .i64 a0_5) rfl; have hcz31_6 := zc BK166.out 6 (.int .i64 a0_6) rfl; have hcz31_7 := zc BK166.out 7 (.int .i64 a0_7) rfl; have hcz31_8 := zc BK166.out 8 (.slice A0_8 l0_8.length c0_8) rfl; have hfz31_0 := zf BK166.out 0; have hfz31_1 := zf BK166.out 1; have hfz31_2 := zf BK166.out 2; have hfz31_3 := zf BK166.out 3; have hfz31_4 := zf BK166.out 4; have hfz31_5 := zf BK166.out 5; have hfz31_6 := zf BK166.out 6; have hfz31_7 := zf BK166.out 7; have hfz31_8 := zf BK166.out 8) | ((with_reducible refine gate_callee (f := 73) rfl ?_); refine goesL_ (some 17) rfl rfl Try.func73 (by kernel_rfl) rfl #[.agg #[.string a0_0, .int .i64 a0_1, .int .i64 a0_2, .int .i64 a0_3, .int .i64 a0_4, .int .i64 a0_5, .int .i64 a0_6, .int .i64 a0_7, .slice A0_8 l0_8.length c0_8], .int .i64 a1] rfl (by (try simp only [List.map_toArray, List.map_cons, List.map_nil]); first | done | rfl | (simp only [List.length_drop, List.length_take]; rfl)) ?_; (with_reducible refine (metrolabref18_Bounded.calls a0_0 a0_1 a0_2 a0_3 a0_4 a0_5 a0_6 a0_7 _ _ l0_8 a1 true _ ?side1 ?side2 A5.out).mono ?_); (case side1 => repeat (first | exact (Kd.C_below HR0_8.out HB.out) | (with_reducible refine Kd.C_alloc ?_ _) | (with_reducible refine Kd.C_drewN ?_ _) | (with_reducible refine Kd.C_drew ?_))); (case side2 => exact HC0_8.out); rintro e w32 ⟨rfl, hb⟩; refine ⟨_, rfl, ?_⟩; have n0_ := zm (zb (g := gb166) (o := .cells #[.string a0_0, .int .i64 a0_1, .int .i64 a0_2, .int .i64 a0_3, .int .i64 a0_4, .int .i64 a0_5, .int .i64 a0_6, .int .i64 a0_7, .slice A0_8 l0_8.length c0_8] 28 (0, 0)) (by (with_reducible repeat first | apply zd | apply ze | apply za); exact BK166.out) hb); have n1_ := zm (zb (g := gb167) (o := .cells #[.int .i64 0, .int .i64 0] 25 (0, 0)) (by (with_reducible repeat first | apply zd | apply ze | apply za); exact BK167.out) hb); have n2_ := zm (below_step (by repeat (first | (with_reducible first | exact HB.out | apply zA | apply zD | apply zE | refine zS ?_ GE166.out | refine zS ?_ GE167.out) | exact HB.out)) hb); clear BK166 BK167 HB; have BK166 := n0_; have BK167 := n1_; have HB := n2_; clear n0_ n1_ n2_; (try clear hb); (try clear hb2); (try clear hk); (try clear hi); have hcz33_0 := zc BK166.out 0 (.string a0_0) rfl; have hcz33_1 := zc BK166.out 1 (.int .i64 a0_1) rfl; have hcz33_2 := zc BK166.out 2 (.int .i64 a0_2) rfl; have hcz33_3 := zc BK166.out 3 (.int .i64 a0_3) rfl; have hcz33_4 := zc BK166.out 4 (.int .i64 a0_4) rfl; have hcz33_5 := zc BK166.out 5 (.int .i64 a0_5) rfl; have hcz33_6 := zc BK166.out 6 (.int .i64 a0_6) rfl; have hcz33_7 := zc BK166.out 7 (.int .i64 a0_7) rfl; have hcz33_8 := zc BK166.out 8 (.slice A0_8 l0_8.length c0_8) rfl; have hfz33_0 := zf BK166.out 0; have hfz33_1 := zf BK166.out 1; have hfz33_2 := zf BK166.out 2; have hfz33_3 := zf BK166.out 3; have hfz33_4 := zf BK166.out 4; have hfz33_5 := zf BK166.out 5; have hfz33_6 := zf BK166.out 6; have hfz33_7 := zf BK166.out 7; have hfz33_8 := zf BK166.out 8) | ((with_reducible refine gate_callee (f := 74) rfl ?_); refine goesL_ (some 22) rfl rfl Try.func74 (by kernel_rfl) rfl #[.agg #[.string a0_0, .int .i64 a0_1, .int .i64 a0_2, .int .i64 a0_3, .int .i64 a0_4, .int .i64 a0_5, .int .i64 a0_6, .int .i64 a0_7, .slice A0_8 l0_8.length c0_8], .int .i64 a1] rfl (by (try simp only [List.map_toArray, List.map_cons, List.map_nil]); first | done | rfl | (simp only [List.length_drop, List.length_take]; rfl)) ?_; (with_reducible refine (metrolabref18_Along.calls a0_0 a0_1 a0_2 a0_3 a0_4 a0_5 a0_6 a0_7 _ _ l0_8 a1 t170 t171 _ ?side1 ?side2 A7.out).mono ?_); (case side1 => repeat (first | exact (Kd.C_below HR0_8.out HB.out) | (with_reducible refine Kd.C_alloc ?_ _) | (with_reducible refine Kd.C_drewN ?_ _) | (with_reducible refine Kd.C_drew ?_))); (case side2 => exact HC0_8.out); rintro e w34 ⟨rfl, hb⟩; refine ⟨_, rfl, ?_⟩; have n0_ := zm (zb (g := gb166) (o := .cells #[.string a0_0, .int .i64 a0_1, .int .i64 a0_2, .int .i64 a0_3, .int .i64 a0_4, .int .i64 a0_5, .int .i64 a0_6, .int .i64 a0_7, .slice A0_8 l0_8.length c0_8] 28 (0, 0)) (by (with_reducible repeat first | apply zd | apply ze | apply za); exact BK166.out) hb); have n1_ := zm (zb (g := gb167) (o := .cells #[.int .i64 0, .int .i64 0] 25 (0, 0)) (by (with_reducible repeat first | apply zd | apply ze | apply za); exact BK167.out) hb); have n2_ := zm (below_step (by repeat (first | (with_reducible first | exact HB.out | apply zA | apply zD | apply zE | refine zS ?_ GE166.out | refine zS ?_ GE167.out) | exact HB.out)) hb); clear BK166 BK167 HB; have BK166 := n0_; have BK167 := n1_; have HB := n2_; clear n0_ n1_ n2_; (try clear hb); (try clear hb2); (try clear hk); (try clear hi)) | ((with_reducible refine gate_dst (N := 7) rfl ?_); refine box_event ?hg (N := 7) ?hd (cs := #[.int .i64 0, .int .i64 0]) (t := 25) ?hr ?_; (case hd => rfl); (case hg => rfl); (case hr => first | (go_simp; done) | (go_simp; rfl)); intro gb172 hg w35 hbox hb; have n0_ := zm (zb (g := gb166) (o := .cells #[.string a0_0, .int .i64 a0_1, .int .i64 a0_2, .int .i64 a0_3, .int .i64 a0_4, .int .i64 a0_5, .int .i64 a0_6, .int .i64 a0_7, .slice A0_8 l0_8.length c0_8] 28 (0, 0)) (by (with_reducible repeat first | apply zd | apply ze | apply za); exact BK166.out) hb); have n1_ := zm (zb (g := gb167) (o := .cells #[.int .i64 0, .int .i64 0] 25 (0, 0)) (by (with_reducible repeat first | apply zd | apply ze | apply za); exact BK167.out) hb); have n2_ := zm (below_step (by repeat (first | (with_reducible first | exact HB.out | apply zA | apply zD | apply zE | refine zS ?_ GE166.out | refine zS ?_ GE167.out) | exact HB.out)) hb); have n3_ := zm (hbox); have n4_ := zm ((by rw [hg]; exact (below_size (by repeat (first | (with_reducible first | exact HB.out | apply zA | apply zD | apply zE | refine zS ?_ GE166.out | refine zS ?_ GE167.out) | exact HB.out))) : w.heap.size ≤ gb172)); have n5_ := zm ((by rw [hg]; exact (below_size (by repeat (first | (with_reducible first | exact HB.out | apply zA | apply zD | apply zE | refine zS ?_ GE166.out | refine zS ?_ GE167.out) | exact HB.out))) : w.heap.size ≤ gb172)); have n6_ := zm ((by rw [hg]; exact Nat.ne_of_lt (blk_lt (g := gb166) (o := .cells #[.string a0_0, .int .i64 a0_1, .int .i64 a0_2, .int .i64 a0_3, .int .i64 a0_4, .int .i64 a0_5, .int .i64 a0_6, .int .i64 a0_7, .slice A0_8 l0_8.length c0_8] 28 (0, 0)) (by (with_reducible repeat first | apply zd | apply ze | apply za); exact BK166.out)) : gb166 ≠ gb172)); have n7_ := zm ((by rw [hg]; exact Nat.ne_of_gt (blk_lt (g := gb166) (o := .cells #[.string a0_0, .int .i64 a0_1, .int .i64 a0_2, .int .i64 a0_3, .int .i64 a0_4, .int .i64 a0_5, .int .i64 a0_6, .int .i64 a0_7, .slice A0_8 l0_8.length c0_8] 28 (0, 0)) (by (with_reducible repeat first | apply zd | apply ze | apply za); exact BK166.out)) : gb172 ≠ gb166)); have n8_ := zm ((by rw [hg]; exact Nat.ne_of_lt (blk_lt (g := gb167) (o := .cells #[.int .i64 0, .int .i64 0] 25 (0, 0)) (by (with_reducible repeat first | apply zd | apply ze | apply za); exact BK167.out)) : gb167 ≠ gb172)); have n9_ := zm ((by rw [hg]; exact Nat.ne_of_gt (blk_lt (g := gb167) (o := .cells #[.int .i64 0, .int .i64 0] 25 (0, 0)) (by (with_reducible repeat first | apply zd | apply ze | apply za); exact BK167.out)) : gb172 ≠ gb167)); clear BK166 BK167 HB; have BK166 := n0_; have BK167 := n1_; have HB := n2_; have BK172 := n3_; have GW172 := n4_; have GE172 := n5_; have NB166_172 := n6_; have NB172_166 := n7_; have NB167_172 := n8_; have NB172_167 := n9_; clear n0_ n1_ n2_ n3_ n4_ n5_ n6_ n7_ n8_ n9_; clear hb hbox hg; have hnb36 := NB172_166.out; have hnc36 := NB166_172.out; have hnb37 := NB172_167.out; have hnc37 := NB167_172.out; have hcz38_0 := zc BK172.out 0 (.int .i64 0) rfl; have hcz38_1 := zc BK172.out 1 (.int .i64 0) rfl; have hfz38_0 := zf BK172.out 0; have hfz38_1 := zf BK172.out 1) | ((with_reducible refine gate_callee (f := 33) rfl ?_); refine goesL_ (some 24) rfl rfl Try.func33 (by kernel_rfl) rfl #[.agg #[.int .i64 t170, .int .i64 t171]] rfl (by (try simp only [List.map_toArray, List.map_cons, List.map_nil]); first | done | rfl | (simp only [List.length_drop, List.length_take]; rfl)) ?_; (with_reducible refine (metrolabref17_Check.calls k t170 t171 t173 _ A8.out).mono ?_); rintro e w39 ⟨rfl, hb⟩; refine ⟨_, rfl, ?_⟩; have n0_ := zm (zb (g := gb166) (o := .cells #[.string a0_0, .int .i64 a0_1, .int .i64 a0_2, .int .i64 a0_3, .int .i64 a0_4, .int .i64 a0_5, .int .i64 a0_6, .int .i64 a0_7, .slice A0_8 l0_8.length c0_8] 28 (0, 0)) (by (with_reducible repeat first | apply zd | apply ze | apply za); refine blk_far ?_ NB166_172.out _; (with_reducible repeat first | apply zd | apply ze | apply za); refine blk_far ?_ NB166_172.out _; (with_reducible repeat first | apply zd | apply ze | apply za); exact BK166.out) hb); have n1_ := zm (zb (g := gb167) (o := .cells #[.int .i64 0, .int .i64 0] 25 (0, 0)) (by (with_reducible repeat first | apply zd | apply ze | apply za); refine blk_far ?_ NB167_172.out _; (with_reducible repeat first | apply zd | apply ze | apply za); refine blk_far ?_ NB167_172.out _; (with_reducible repeat first | apply zd | apply ze | apply za); exact BK167.out) hb); have n2_ := zm (zb (g := gb172) (o := .cells #[.int .i64 t170, .int .i64 t171] 25 (0, 0)) (by (with_reducible repeat first | apply zd | apply ze | apply za); refine blk_put (cs := #[.int .i64 t170, .int .i64 0]) ?_ 1 _ rfl; (with_reducible repeat first | apply zd | apply ze | apply za); refine blk_put (cs := #[.int .i64 0, .int .i64 0]) ?_ 0 _ rfl; (with_reducible repeat first | apply zd | apply ze | apply za); exact BK172.out) hb); have n3_ := zm (below_step (by repeat (first | (with_reducible first | exact HB.out | apply zA | apply zD | apply zE | refine zS ?_ GE166.out | refine zS ?_ GE167.out | refine zS ?_ GE172.out) | exact HB.out)) hb); clear BK166 BK167 BK172 HB; have BK166 := n0_; have BK167 := n1_; have BK172 := n2_; have HB := n3_; clear n0_ n1_ n2_ n3_; (try clear hb); (try clear hb2); (try clear hk); (try clear hi); have hcz40_0 := zc BK167.out 0 (.int .i64 0) rfl; have hcz40_1 := zc BK167.out 1 (.int .i64 0) rfl; have hfz40_0 := zf BK167.out 0; have hfz40_1 := zf BK167.out 1))
    refine bodyPost_ret (results_ct rfl _ _ gb167 25 #[.int .i64 0, .int .i64 0] (0, 0) _ rfl (by (with_reducible repeat first | apply zd | apply ze | apply za); refine blk_put (cs := #[.int .i64 0, .int .i64 0]) ?_ 1 _ rfl; (with_reducible repeat first | apply zd | apply ze | apply za); refine blk_put (cs := #[.int .i64 0, .int .i64 0]) ?_ 0 _ rfl; (with_reducible repeat first | apply zd | apply ze | apply za); exact BK167.out) Try.underlying25 rfl (by kernel_rfl)) rfl ?_
    exact ⟨by first | rfl | (simp [errW_none, errW_some] <;> rfl) | (simp [*, errW_none, errW_some] <;> rfl), by repeat (first | (with_reducible first | exact HB.out | apply zA | apply zD | apply zE | refine zS ?_ GE166.out | refine zS ?_ GE167.out | refine zS ?_ GE172.out) | exact HB.out)⟩
  ·replace c6 := Bool.eq_false_iff.mpr c6
   subst c6
   have H1 : (some (0, 0, 14)) = some (r1, r2, r3) := by rw [if_neg (show ¬ (false = true) by decide)] at H; exact H
   clear H
   have H := H1
   clear H1
   simp only [Option.some.injEq, Prod.mk.injEq] at H
   obtain ⟨rfl, rfl, rfl⟩ := H
   go_enter Try.func20, Try.ntmps20
   go_wp2_with (first | ((with_reducible refine gate_dst (N := 2) rfl ?_); refine box_event ?hg (N := 2) ?hd (cs := #[.string a0_0, .int .i64 a0_1, .int .i64 a0_2, .int .i64 a0_3, .int .i64 a0_4, .int .i64 a0_5, .int .i64 a0_6, .int .i64 a0_7, .slice A0_8 l0_8.length c0_8]) (t := 28) ?hr ?_; (case hd => rfl); (case hg => rfl); (case hr => first | (go_simp; done) | (go_simp; rfl)); intro gb166 hg w41 hbox hb; have n0_ := zm (below_step (by repeat (first | (with_reducible first | exact HB.out | apply zA | apply zD | apply zE) | exact HB.out)) hb); have n1_ := zm (hbox); have n2_ := zm ((by rw [hg]; exact (below_size (by repeat (first | (with_reducible first | exact HB.out | apply zA | apply zD | apply zE) | exact HB.out))) : w.heap.size ≤ gb166)); have n3_ := zm ((by rw [hg]; exact (below_size (by repeat (first | (with_reducible first | exact HB.out | apply zA | apply zD | apply zE) | exact HB.out))) : w.heap.size ≤ gb166)); clear HB; have HB := n0_; have BK166 := n1_; have GW166 := n2_; have GE166 := n3_; clear n0_ n1_ n2_ n3_; clear hb hbox hg) | ((with_reducible refine gate_dst (N := 4) rfl ?_); refine box_event ?hg (N := 4) ?hd (cs := #[.int .i64 0, .int .i64 0]) (t := 25) ?hr ?_; (case hd => rfl); (case hg => rfl); (case hr => first | (go_simp; done) | (go_simp; rfl)); intro gb167 hg w42 hbox hb; have n0_ := zm (zb (g := gb166) (o := .cells #[.string a0_0, .int .i64 a0_1, .int .i64 a0_2, .int .i64 a0_3, .int .i64 a0_4, .int .i64 a0_5, .int .i64 a0_6, .int .i64 a0_7, .slice A0_8 l0_8.length c0_8] 28 (0, 0)) (by (with_reducible repeat first | apply zd | apply ze | apply za); exact BK166.out) hb); have n1_ := zm (below_step (by repeat (first | (with_reducible first | exact HB.out | apply zA | apply zD | apply zE | refine zS ?_ GE166.out) | exact HB.out)) hb); have n2_ := zm (hbox); have n3_ := zm ((by rw [hg]; exact (below_size (by repeat (first | (with_reducible first | exact HB.out | apply zA | apply zD | apply zE | refine zS ?_ GE166.out) | exact HB.out))) : w.heap.size ≤ gb167)); have n4_ := zm ((by rw [hg]; exact (below_size (by repeat (first | (with_reducible first | exact HB.out | apply zA | apply zD | apply zE | refine zS ?_ GE166.out) | exact HB.out))) : w.heap.size ≤ gb167)); have n5_ := zm ((by rw [hg]; exact Nat.ne_of_lt (blk_lt (g := gb166) (o := .cells #[.string a0_0, .int .i64 a0_1, .int .i64 a0_2, .int .i64 a0_3, .int .i64 a0_4, .int .i64 a0_5, .int .i64 a0_6, .int .i64 a0_7, .slice A0_8 l0_8.length c0_8] 28 (0, 0)) (by (with_reducible repeat first | apply zd | apply ze | apply za); exact BK166.out)) : gb166 ≠ gb167)); have n6_ := zm ((by rw [hg]; exact Nat.ne_of_gt (blk_lt (g := gb166) (o := .cells #[.string a0_0, .int .i64 a0_1, .int .i64 a0_2, .int .i64 a0_3, .int .i64 a0_4, .int .i64 a0_5, .int .i64 a0_6, .int .i64 a0_7, .slice A0_8 l0_8.length c0_8] 28 (0, 0)) (by (with_reducible repeat first | apply zd | apply ze | apply za); exact BK166.out)) : gb167 ≠ gb166)); clear BK166 HB; have BK166 := n0_; have HB := n1_; have BK167 := n2_; have GW167 := n3_; have GE167 := n4_; have NB166_167 := n5_; have NB167_166 := n6_; clear n0_ n1_ n2_ n3_ n4_ n5_ n6_; clear hb hbox hg; have hnb43 := NB166_167.out; have hnc43 := NB167_166.out; have hcz44_0 := zc BK166.out 0 (.string a0_0) rfl; have hcz44_1 := zc BK166.out 1 (.int .i64 a0_1) rfl; have hcz44_2 := zc BK166.out 2 (.int .i64 a0_2) rfl; have hcz44_3 := zc BK166.out 3 (.int .i64 a0_3) rfl; have hcz44_4 := zc BK166.out 4 (.int .i64 a0_4) rfl; have hcz44_5 := zc BK166.out 5 (.int .i64 a0_5) rfl; have hcz44_6 := zc BK166.out 6 (.int .i64 a0_6) rfl; have hcz44_7 := zc BK166.out 7 (.int .i64 a0_7) rfl; have hcz44_8 := zc BK166.out 8 (.slice A0_8 l0_8.length c0_8) rfl; have hfz44_0 := zf BK166.out 0; have hfz44_1 := zf BK166.out 1; have hfz44_2 := zf BK166.out 2; have hfz44_3 := zf BK166.out 3; have hfz44_4 := zf BK166.out 4; have hfz44_5 := zf BK166.out 5; have hfz44_6 := zf BK166.out 6; have hfz44_7 := zf BK166.out 7; have hfz44_8 := zf BK166.out 8) | ((with_reducible refine gate_callee (f := 72) rfl ?_); refine goesL_ (some 10) rfl rfl Try.func72 (by kernel_rfl) rfl #[.agg #[.string a0_0, .int .i64 a0_1, .int .i64 a0_2, .int .i64 a0_3, .int .i64 a0_4, .int .i64 a0_5, .int .i64 a0_6, .int .i64 a0_7, .slice A0_8 l0_8.length c0_8], .int .i64 a1] rfl (by (try simp only [List.map_toArray, List.map_cons, List.map_nil]); first | done | rfl | (simp only [List.length_drop, List.length_take]; rfl)) ?_; (with_reducible refine (metrolabref18_given.calls k a0_0 a0_1 a0_2 a0_3 a0_4 a0_5 a0_6 a0_7 _ _ l0_8 a1 t168 _ ?side1 ?side2 A3.out).mono ?_); (case side1 => repeat (first | exact (Kd.C_below HR0_8.out HB.out) | (with_reducible refine Kd.C_alloc ?_ _) | (with_reducible refine Kd.C_drewN ?_ _) | (with_reducible refine Kd.C_drew ?_))); (case side2 => exact HC0_8.out); rintro e w45 ⟨rfl, hb⟩; refine ⟨_, rfl, ?_⟩; have n0_ := zm (zb (g := gb166) (o := .cells #[.string a0_0, .int .i64 a0_1, .int .i64 a0_2, .int .i64 a0_3, .int .i64 a0_4, .int .i64 a0_5, .int .i64 a0_6, .int .i64 a0_7, .slice A0_8 l0_8.length c0_8] 28 (0, 0)) (by (with_reducible repeat first | apply zd | apply ze | apply za); exact BK166.out) hb); have n1_ := zm (zb (g := gb167) (o := .cells #[.int .i64 0, .int .i64 0] 25 (0, 0)) (by (with_reducible repeat first | apply zd | apply ze | apply za); exact BK167.out) hb); have n2_ := zm (below_step (by repeat (first | (with_reducible first | exact HB.out | apply zA | apply zD | apply zE | refine zS ?_ GE166.out | refine zS ?_ GE167.out) | exact HB.out)) hb); clear BK166 BK167 HB; have BK166 := n0_; have BK167 := n1_; have HB := n2_; clear n0_ n1_ n2_; (try clear hb); (try clear hb2); (try clear hk); (try clear hi); have hcz46_0 := zc BK166.out 0 (.string a0_0) rfl; have hcz46_1 := zc BK166.out 1 (.int .i64 a0_1) rfl; have hcz46_2 := zc BK166.out 2 (.int .i64 a0_2) rfl; have hcz46_3 := zc BK166.out 3 (.int .i64 a0_3) rfl; have hcz46_4 := zc BK166.out 4 (.int .i64 a0_4) rfl; have hcz46_5 := zc BK166.out 5 (.int .i64 a0_5) rfl; have hcz46_6 := zc BK166.out 6 (.int .i64 a0_6) rfl; have hcz46_7 := zc BK166.out 7 (.int .i64 a0_7) rfl; have hcz46_8 := zc BK166.out 8 (.slice A0_8 l0_8.length c0_8) rfl; have hfz46_0 := zf BK166.out 0; have hfz46_1 := zf BK166.out 1; have hfz46_2 := zf BK166.out 2; have hfz46_3 := zf BK166.out 3; have hfz46_4 := zf BK166.out 4; have hfz46_5 := zf BK166.out 5; have hfz46_6 := zf BK166.out 6; have hfz46_7 := zf BK166.out 7; have hfz46_8 := zf BK166.out 8) | ((with_reducible refine gate_callee (f := 73) rfl ?_); refine goesL_ (some 17) rfl rfl Try.func73 (by kernel_rfl) rfl #[.agg #[.string a0_0, .int .i64 a0_1, .int .i64 a0_2, .int .i64 a0_3, .int .i64 a0_4, .int .i64 a0_5, .int .i64 a0_6, .int .i64 a0_7, .slice A0_8 l0_8.length c0_8], .int .i64 a1] rfl (by (try simp only [List.map_toArray, List.map_cons, List.map_nil]); first | done | rfl | (simp only [List.length_drop, List.length_take]; rfl)) ?_; (with_reducible refine (metrolabref18_Bounded.calls a0_0 a0_1 a0_2 a0_3 a0_4 a0_5 a0_6 a0_7 _ _ l0_8 a1 false _ ?side1 ?side2 A5.out).mono ?_); (case side1 => repeat (first | exact (Kd.C_below HR0_8.out HB.out) | (with_reducible refine Kd.C_alloc ?_ _) | (with_reducible refine Kd.C_drewN ?_ _) | (with_reducible refine Kd.C_drew ?_))); (case side2 => exact HC0_8.out); rintro e w47 ⟨rfl, hb⟩; refine ⟨_, rfl, ?_⟩; have n0_ := zm (zb (g := gb166) (o := .cells #[.string a0_0, .int .i64 a0_1, .int .i64 a0_2, .int .i64 a0_3, .int .i64 a0_4, .int .i64 a0_5, .int .i64 a0_6, .int .i64 a0_7, .slice A0_8 l0_8.length c0_8] 28 (0, 0)) (by (with_reducible repeat first | apply zd | apply ze | apply za); exact BK166.out) hb); have n1_ := zm (zb (g := gb167) (o := .cells #[.int .i64 0, .int .i64 0] 25 (0, 0)) (by (with_reducible repeat first | apply zd | apply ze | apply za); exact BK167.out) hb); have n2_ := zm (below_step (by repeat (first | (with_reducible first | exact HB.out | apply zA | apply zD | apply zE | refine zS ?_ GE166.out | refine zS ?_ GE167.out) | exact HB.out)) hb); clear BK166 BK167 HB; have BK166 := n0_; have BK167 := n1_; have HB := n2_; clear n0_ n1_ n2_; (try clear hb); (try clear hb2); (try clear hk); (try clear hi); have hcz48_0 := zc BK167.out 0 (.int .i64 0) rfl; have hcz48_1 := zc BK167.out 1 (.int .i64 0) rfl; have hfz48_0 := zf BK167.out 0; have hfz48_1 := zf BK167.out 1))
   refine bodyPost_ret (results_ct rfl _ _ gb167 25 #[.int .i64 0, .int .i64 0] (0, 0) _ rfl (by (with_reducible repeat first | apply zd | apply ze | apply za); refine blk_put (cs := #[.int .i64 0, .int .i64 0]) ?_ 1 _ rfl; (with_reducible repeat first | apply zd | apply ze | apply za); refine blk_put (cs := #[.int .i64 0, .int .i64 0]) ?_ 0 _ rfl; (with_reducible repeat first | apply zd | apply ze | apply za); exact BK167.out) Try.underlying25 rfl (by kernel_rfl)) rfl ?_
   exact ⟨by first | rfl | (simp [errW_none, errW_some] <;> rfl) | (simp [*, errW_none, errW_some] <;> rfl), by repeat (first | (with_reducible first | exact HB.out | apply zA | apply zD | apply zE | refine zS ?_ GE166.out | refine zS ?_ GE167.out) | exact HB.out)⟩
 ·rw [if_neg c4] at H
  have c4b0 : (t168 == 0) = false := beq_eq_false_iff_ne.mpr c4
  have c4b1 : (t168 != 0) = true := bne_iff_ne.mpr c4
  simp only [Option.some.injEq, Prod.mk.injEq] at H
  obtain ⟨rfl, rfl, rfl⟩ := H
  go_enter Try.func20, Try.ntmps20
  go_wp2_with (first | ((with_reducible refine gate_dst (N := 2) rfl ?_); refine box_event ?hg (N := 2) ?hd (cs := #[.string a0_0, .int .i64 a0_1, .int .i64 a0_2, .int .i64 a0_3, .int .i64 a0_4, .int .i64 a0_5, .int .i64 a0_6, .int .i64 a0_7, .slice A0_8 l0_8.length c0_8]) (t := 28) ?hr ?_; (case hd => rfl); (case hg => rfl); (case hr => first | (go_simp; done) | (go_simp; rfl)); intro gb166 hg w49 hbox hb; have n0_ := zm (below_step (by repeat (first | (with_reducible first | exact HB.out | apply zA | apply zD | apply zE) | exact HB.out)) hb); have n1_ := zm (hbox); have n2_ := zm ((by rw [hg]; exact (below_size (by repeat (first | (with_reducible first | exact HB.out | apply zA | apply zD | apply zE) | exact HB.out))) : w.heap.size ≤ gb166)); have n3_ := zm ((by rw [hg]; exact (below_size (by repeat (first | (with_reducible first | exact HB.out | apply zA | apply zD | apply zE) | exact HB.out))) : w.heap.size ≤ gb166)); clear HB; have HB := n0_; have BK166 := n1_; have GW166 := n2_; have GE166 := n3_; clear n0_ n1_ n2_ n3_; clear hb hbox hg) | ((with_reducible refine gate_dst (N := 4) rfl ?_); refine box_event ?hg (N := 4) ?hd (cs := #[.int .i64 0, .int .i64 0]) (t := 25) ?hr ?_; (case hd => rfl); (case hg => rfl); (case hr => first | (go_simp; done) | (go_simp; rfl)); intro gb167 hg w50 hbox hb; have n0_ := zm (zb (g := gb166) (o := .cells #[.string a0_0, .int .i64 a0_1, .int .i64 a0_2, .int .i64 a0_3, .int .i64 a0_4, .int .i64 a0_5, .int .i64 a0_6, .int .i64 a0_7, .slice A0_8 l0_8.length c0_8] 28 (0, 0)) (by (with_reducible repeat first | apply zd | apply ze | apply za); exact BK166.out) hb); have n1_ := zm (below_step (by repeat (first | (with_reducible first | exact HB.out | apply zA | apply zD | apply zE | refine zS ?_ GE166.out) | exact HB.out)) hb); have n2_ := zm (hbox); have n3_ := zm ((by rw [hg]; exact (below_size (by repeat (first | (with_reducible first | exact HB.out | apply zA | apply zD | apply zE | refine zS ?_ GE166.out) | exact HB.out))) : w.heap.size ≤ gb167)); have n4_ := zm ((by rw [hg]; exact (below_size (by repeat (first | (with_reducible first | exact HB.out | apply zA | apply zD | apply zE | refine zS ?_ GE166.out) | exact HB.out))) : w.heap.size ≤ gb167)); have n5_ := zm ((by rw [hg]; exact Nat.ne_of_lt (blk_lt (g := gb166) (o := .cells #[.string a0_0, .int .i64 a0_1, .int .i64 a0_2, .int .i64 a0_3, .int .i64 a0_4, .int .i64 a0_5, .int .i64 a0_6, .int .i64 a0_7, .slice A0_8 l0_8.length c0_8] 28 (0, 0)) (by (with_reducible repeat first | apply zd | apply ze | apply za); exact BK166.out)) : gb166 ≠ gb167)); have n6_ := zm ((by rw [hg]; exact Nat.ne_of_gt (blk_lt (g := gb166) (o := .cells #[.string a0_0, .int .i64 a0_1, .int .i64 a0_2, .int .i64 a0_3, .int .i64 a0_4, .int .i64 a0_5, .int .i64 a0_6, .int .i64 a0_7, .slice A0_8 l0_8.length c0_8] 28 (0, 0)) (by (with_reducible repeat first | apply zd | apply ze | apply za); exact BK166.out)) : gb167 ≠ gb166)); clear BK166 HB; have BK166 := n0_; have HB := n1_; have BK167 := n2_; have GW167 := n3_; have GE167 := n4_; have NB166_167 := n5_; have NB167_166 := n6_; clear n0_ n1_ n2_ n3_ n4_ n5_ n6_; clear hb hbox hg; have hnb51 := NB166_167.out; have hnc51 := NB167_166.out; have hcz52_0 := zc BK166.out 0 (.string a0_0) rfl; have hcz52_1 := zc BK166.out 1 (.int .i64 a0_1) rfl; have hcz52_2 := zc BK166.out 2 (.int .i64 a0_2) rfl; have hcz52_3 := zc BK166.out 3 (.int .i64 a0_3) rfl; have hcz52_4 := zc BK166.out 4 (.int .i64 a0_4) rfl; have hcz52_5 := zc BK166.out 5 (.int .i64 a0_5) rfl; have hcz52_6 := zc BK166.out 6 (.int .i64 a0_6) rfl; have hcz52_7 := zc BK166.out 7 (.int .i64 a0_7) rfl; have hcz52_8 := zc BK166.out 8 (.slice A0_8 l0_8.length c0_8) rfl; have hfz52_0 := zf BK166.out 0; have hfz52_1 := zf BK166.out 1; have hfz52_2 := zf BK166.out 2; have hfz52_3 := zf BK166.out 3; have hfz52_4 := zf BK166.out 4; have hfz52_5 := zf BK166.out 5; have hfz52_6 := zf BK166.out 6; have hfz52_7 := zf BK166.out 7; have hfz52_8 := zf BK166.out 8) | ((with_reducible refine gate_callee (f := 72) rfl ?_); refine goesL_ (some 10) rfl rfl Try.func72 (by kernel_rfl) rfl #[.agg #[.string a0_0, .int .i64 a0_1, .int .i64 a0_2, .int .i64 a0_3, .int .i64 a0_4, .int .i64 a0_5, .int .i64 a0_6, .int .i64 a0_7, .slice A0_8 l0_8.length c0_8], .int .i64 a1] rfl (by (try simp only [List.map_toArray, List.map_cons, List.map_nil]); first | done | rfl | (simp only [List.length_drop, List.length_take]; rfl)) ?_; (with_reducible refine (metrolabref18_given.calls k a0_0 a0_1 a0_2 a0_3 a0_4 a0_5 a0_6 a0_7 _ _ l0_8 a1 t168 _ ?side1 ?side2 A3.out).mono ?_); (case side1 => repeat (first | exact (Kd.C_below HR0_8.out HB.out) | (with_reducible refine Kd.C_alloc ?_ _) | (with_reducible refine Kd.C_drewN ?_ _) | (with_reducible refine Kd.C_drew ?_))); (case side2 => exact HC0_8.out); rintro e w53 ⟨rfl, hb⟩; refine ⟨_, rfl, ?_⟩; have n0_ := zm (zb (g := gb166) (o := .cells #[.string a0_0, .int .i64 a0_1, .int .i64 a0_2, .int .i64 a0_3, .int .i64 a0_4, .int .i64 a0_5, .int .i64 a0_6, .int .i64 a0_7, .slice A0_8 l0_8.length c0_8] 28 (0, 0)) (by (with_reducible repeat first | apply zd | apply ze | apply za); exact BK166.out) hb); have n1_ := zm (zb (g := gb167) (o := .cells #[.int .i64 0, .int .i64 0] 25 (0, 0)) (by (with_reducible repeat first | apply zd | apply ze | apply za); exact BK167.out) hb); have n2_ := zm (below_step (by repeat (first | (with_reducible first | exact HB.out | apply zA | apply zD | apply zE | refine zS ?_ GE166.out | refine zS ?_ GE167.out) | exact HB.out)) hb); clear BK166 BK167 HB; have BK166 := n0_; have BK167 := n1_; have HB := n2_; clear n0_ n1_ n2_; (try clear hb); (try clear hb2); (try clear hk); (try clear hi); have hcz54_0 := zc BK167.out 0 (.int .i64 0) rfl; have hcz54_1 := zc BK167.out 1 (.int .i64 0) rfl; have hfz54_0 := zf BK167.out 0; have hfz54_1 := zf BK167.out 1))
  refine bodyPost_ret (results_ct rfl _ _ gb167 25 #[.int .i64 0, .int .i64 0] (0, 0) _ rfl (by (with_reducible repeat first | apply zd | apply ze | apply za); refine blk_put (cs := #[.int .i64 0, .int .i64 0]) ?_ 1 _ rfl; (with_reducible repeat first | apply zd | apply ze | apply za); refine blk_put (cs := #[.int .i64 0, .int .i64 0]) ?_ 0 _ rfl; (with_reducible repeat first | apply zd | apply ze | apply za); exact BK167.out) Try.underlying25 rfl (by kernel_rfl)) rfl ?_
  exact ⟨by first | rfl | (simp [errW_none, errW_some] <;> rfl) | (simp [*, errW_none, errW_some] <;> rfl), by repeat (first | (with_reducible first | exact HB.out | apply zA | apply zD | apply zE | refine zS ?_ GE166.out | refine zS ?_ GE167.out) | exact HB.out)⟩
end Go.Proofs.Ytkgdlbepjmgaiaa.Fea
namespace Go.Proofs.Ytkgdlbepjmgaiaa.Fea
open Go.RowKit Go.Proofs.YtkgdlbepjmgaiaaW.PrintWords Go.Proofs.YtkgdlbepjmgaiaaW.PrintLast Go.Proofs.YtkgdlbepjmgaiaaW.PrintMore
attribute [local go_sem] max2_int min2_int max_two min_two max_three min_three max_four min_four
set_option linter.unusedVariables false
set_option linter.unusedSimpArgs false
mutual
def metrolabref18_Apart.l0 : Nat → Int → ByteArray → Int → Int → Int → Int → Int → Int → Int → List (S104) → ByteArray → Int → Int → Int → Int → Int → Int → Int → List (S104) → Option (Bool)
  | 0, _, _, _, _, _, _, _, _, _, _, _, _, _, _, _, _, _, _, _ => none
  | k + 1, x5, x175000, x175001, x175002, x175003, x175004, x175005, x175006, x175007, x175008, x176000, x176001, x176002, x176003, x176004, x176005, x176006, x176007, x176008 => if x5 < 3 then ((metrolabref18_Bounded.f x175000 x175001 x175002 x175003 x175004 x175005 x175006 x175007 x175008 x5).bind fun t176 => (if t176 = true then ((metrolabref18_Bounded.f x176000 x176001 x176002 x176003 x176004 x176005 x176006 x176007 x176008 x5).bind fun t177 => (metrolabref18_Apart.j1 k x5 (!t177) x175000 x175001 x175002 x175003 x175004 x175005 x175006 x175007 x175008 x176000 x176001 x176002 x176003 x176004 x176005 x176006 x176007 x176008)) else (metrolabref18_Apart.j1 k x5 true x175000 x175001 x175002 x175003 x175004 x175005 x175006 x175007 x175008 x176000 x176001 x176002 x176003 x176004 x176005 x176006 x176007 x176008))) else (some false)
def metrolabref18_Apart.j1 : Nat → Int → Bool → ByteArray → Int → Int → Int → Int → Int → Int → Int → List (S104) → ByteArray → Int → Int → Int → Int → Int → Int → Int → List (S104) → Option (Bool)
  | 0, _, _, _, _, _, _, _, _, _, _, _, _, _, _, _, _, _, _, _, _ => none
  | k + 1, x5, x21, x175000, x175001, x175002, x175003, x175004, x175005, x175006, x175007, x175008, x176000, x176001, x176002, x176003, x176004, x176005, x176006, x176007, x176008 => if x21 = true then (metrolabref18_Apart.l0 k (wrap64 (x5 + 1)) x175000 x175001 x175002 x175003 x175004 x175005 x175006 x175007 x175008 x176000 x176001 x176002 x176003 x176004 x176005 x176006 x176007 x176008) else ((metrolabref18_Along.f x175000 x175001 x175002 x175003 x175004 x175005 x175006 x175007 x175008 x5).bind fun bt178 => ((metrolabref18_Along.f x176000 x176001 x176002 x176003 x176004 x176005 x176006 x176007 x176008 x5).bind fun bt180 => (if bt178.2 < bt180.1 then (some true) else (if bt180.2 < bt178.1 then (some true) else (metrolabref18_Apart.l0 k (wrap64 (x5 + 1)) x175000 x175001 x175002 x175003 x175004 x175005 x175006 x175007 x175008 x176000 x176001 x176002 x176003 x176004 x176005 x176006 x176007 x176008)))))
end
def metrolabref18_Apart.f (k : Nat) (a0_0 : ByteArray) (a0_1 : Int) (a0_2 : Int) (a0_3 : Int) (a0_4 : Int) (a0_5 : Int) (a0_6 : Int) (a0_7 : Int) (l0_8 : List (S104)) (a1_0 : ByteArray) (a1_1 : Int) (a1_2 : Int) (a1_3 : Int) (a1_4 : Int) (a1_5 : Int) (a1_6 : Int) (a1_7 : Int) (l1_8 : List (S104)) : Option (Bool) := metrolabref18_Apart.l0 k 0 a0_0 a0_1 a0_2 a0_3 a0_4 a0_5 a0_6 a0_7 l0_8 a1_0 a1_1 a1_2 a1_3 a1_4 a1_5 a1_6 a1_7 l1_8
theorem metrolabref18_Apart.mono_l : ∀ k, (∀ y0 y1 y2 y3 y4 y5 y6 y7 y8 y9 y10 y11 y12 y13 y14 y15 y16 y17 y18, LeO (metrolabref18_Apart.l0 k y0 y1 y2 y3 y4 y5 y6 y7 y8 y9 y10 y11 y12 y13 y14 y15 y16 y17 y18) (metrolabref18_Apart.l0 (k + 1) y0 y1 y2 y3 y4 y5 y6 y7 y8 y9 y10 y11 y12 y13 y14 y15 y16 y17 y18)) ∧ (∀ y0 y1 y2 y3 y4 y5 y6 y7 y8 y9 y10 y11 y12 y13 y14 y15 y16 y17 y18 y19, LeO (metrolabref18_Apart.j1 k y0 y1 y2 y3 y4 y5 y6 y7 y8 y9 y10 y11 y12 y13 y14 y15 y16 y17 y18 y19) (metrolabref18_Apart.j1 (k + 1) y0 y1 y2 y3 y4 y5 y6 y7 y8 y9 y10 y11 y12 y13 y14 y15 y16 y17 y18 y19))
 | 0 => ⟨fun _ _ _ _ _ _ _ _ _ _ _ _ _ _ _ _ _ _ _ r h => by simp [metrolabref18_Apart.l0] at h, fun _ _ _ _ _ _ _ _ _ _ _ _ _ _ _ _ _ _ _ _ r h => by simp [metrolabref18_Apart.j1] at h⟩
 | k + 1 => by
  obtain ⟨ih0, ih1⟩ := metrolabref18_Apart.mono_l k
  refine ⟨?_, ?_⟩
  ·intro y0 y1 y2 y3 y4 y5 y6 y7 y8 y9 y10 y11 y12 y13 y14 y15 y16 y17 y18
   unfold metrolabref18_Apart.l0
   repeat' first
   | (with_reducible exact ih0 _ _ _ _ _ _ _ _ _ _ _ _ _ _ _ _ _ _ _)
   | (with_reducible exact ih1 _ _ _ _ _ _ _ _ _ _ _ _ _ _ _ _ _ _ _ _)
   | (with_reducible exact LeO.refl _)
   | (with_reducible exact LeO.none _)
   | (with_reducible refine LeO.ite ?_ ?_)
   | (with_reducible refine LeO.bind ?_ (fun _ => ?_))
   | exact ih0 _ _ _ _ _ _ _ _ _ _ _ _ _ _ _ _ _ _ _
   | exact ih1 _ _ _ _ _ _ _ _ _ _ _ _ _ _ _ _ _ _ _ _
   | exact LeO.none _
   | refine LeO.ite ?_ ?_
   | refine LeO.bind ?_ (fun _ => ?_)
  ·intro y0 y1 y2 y3 y4 y5 y6 y7 y8 y9 y10 y11 y12 y13 y14 y15 y16 y17 y18 y19
   unfold metrolabref18_Apart.j1
   repeat' first
   | (with_reducible exact ih0 _ _ _ _ _ _ _ _ _ _ _ _ _ _ _ _ _ _ _)
   | (with_reducible exact ih1 _ _ _ _ _ _ _ _ _ _ _ _ _ _ _ _ _ _ _ _)
   | (with_reducible exact LeO.refl _)
   | (with_reducible exact LeO.none _)
   | (with_reducible refine LeO.ite ?_ ?_)
   | (with_reducible refine LeO.bind ?_ (fun _ => ?_))
   | exact ih0 _ _ _ _ _ _ _ _ _ _ _ _ _ _ _ _ _ _ _
   | exact ih1 _ _ _ _ _ _ _ _ _ _ _ _ _ _ _ _ _ _ _ _
   | exact LeO.none _
   | refine LeO.ite ?_ ?_
   | refine LeO.bind ?_ (fun _ => ?_)
theorem metrolabref18_Apart.mono : ∀ a0 a1 a2 a3 a4 a5 a6 a7 a8 a9 a10 a11 a12 a13 a14 a15 a16 a17 k, LeO (metrolabref18_Apart.f k a0 a1 a2 a3 a4 a5 a6 a7 a8 a9 a10 a11 a12 a13 a14 a15 a16 a17) (metrolabref18_Apart.f (k + 1) a0 a1 a2 a3 a4 a5 a6 a7 a8 a9 a10 a11 a12 a13 a14 a15 a16 a17) := by
 intro a0 a1 a2 a3 a4 a5 a6 a7 a8 a9 a10 a11 a12 a13 a14 a15 a16 a17 k
 obtain ⟨ih0, ih1⟩ := metrolabref18_Apart.mono_l k
 unfold metrolabref18_Apart.f
 repeat' first
  | (with_reducible exact ih0 _ _ _ _ _ _ _ _ _ _ _ _ _ _ _ _ _ _ _)
  | (with_reducible exact ih1 _ _ _ _ _ _ _ _ _ _ _ _ _ _ _ _ _ _ _ _)
  | (with_reducible exact LeO.refl _)
  | (with_reducible exact LeO.none _)
  | (with_reducible refine LeO.ite ?_ ?_)
  | (with_reducible refine LeO.bind ?_ (fun _ => ?_))
  | exact ih0 _ _ _ _ _ _ _ _ _ _ _ _ _ _ _ _ _ _ _
  | exact ih1 _ _ _ _ _ _ _ _ _ _ _ _ _ _ _ _ _ _ _ _
  | exact LeO.none _
  | refine LeO.ite ?_ ?_
  | refine LeO.bind ?_ (fun _ => ?_)
def metrolabref18_Apart.T5 : Bool × List (List Nat × List Nat) := (true, [([], []), ([], []), ([0, 1], [0, 1]), ([], []), ([], []), ([3, 4, 2], [3, 4]), ([], []), ([], []), ([6, 2, 5, 0, 1, 2, 6, 7], [2, 6]), ([7, 5, 8, 0, 1, 2, 3, 4, 5, 6, 7, 8], [5, 7])])
def metrolabref18_Apart.B5 : List Nat := [0, 0, 3, 0, 0, 31, 0, 0, 255, 511]
theorem metrolabref18_Apart.tab5 : rtab .any (opsOf Try.f75 5) = metrolabref18_Apart.T5 := by kernel_rfl
theorem metrolabref18_Apart.bits5 : waitsOk metrolabref18_Apart.T5.2 metrolabref18_Apart.B5 = true := by kernel_rfl
set_option maxHeartbeats 8000000 in
set_option maxRecDepth 100000 in
theorem metrolabref18_Apart.calls (k : Nat) (a0_0 : ByteArray) (a0_1 : Int) (a0_2 : Int) (a0_3 : Int) (a0_4 : Int) (a0_5 : Int) (a0_6 : Int) (a0_7 : Int) (A0_8 : Option Addr) (c0_8 : Nat) (l0_8 : List (S104)) (a1_0 : ByteArray) (a1_1 : Int) (a1_2 : Int) (a1_3 : Int) (a1_4 : Int) (a1_5 : Int) (a1_6 : Int) (a1_7 : Int) (A1_8 : Option Addr) (c1_8 : Nat) (l1_8 : List (S104)) (r : Bool) (w : World) (hr0_8 : Kd.C k104 w A0_8 l0_8.length l0_8) (hc0_8 : l0_8.length ≤ c0_8) (hr1_8 : Kd.C k104 w A1_8 l1_8.length l1_8) (hc1_8 : l1_8.length ≤ c1_8) (h : metrolabref18_Apart.f k a0_0 a0_1 a0_2 a0_3 a0_4 a0_5 a0_6 a0_7 l0_8 a1_0 a1_1 a1_2 a1_3 a1_4 a1_5 a1_6 a1_7 l1_8 = some r) :
 Calls Try.prog 75 #[.agg #[.string a0_0, .int .i64 a0_1, .int .i64 a0_2, .int .i64 a0_3, .int .i64 a0_4, .int .i64 a0_5, .int .i64 a0_6, .int .i64 a0_7, .slice A0_8 l0_8.length c0_8], .agg #[.string a1_0, .int .i64 a1_1, .int .i64 a1_2, .int .i64 a1_3, .int .i64 a1_4, .int .i64 a1_5, .int .i64 a1_6, .int .i64 a1_7, .slice A1_8 l1_8.length c1_8]] w fun e w' => e = .returned (.bool r) ∧ Below w.heap.size w w' := by
 have hu28 := Try.underlying28
 have hu25 := Try.underlying25
 have HR0_8 := zm hr0_8
 have HC0_8 := zm hc0_8
 clear hr0_8 hc0_8
 have HR1_8 := zm hr1_8
 have HC1_8 := zm hc1_8
 clear hr1_8 hc1_8
 have HB := zm (Below.refl w.heap.size w)
 have H : (metrolabref18_Apart.l0 k 0 a0_0 a0_1 a0_2 a0_3 a0_4 a0_5 a0_6 a0_7 l0_8 a1_0 a1_1 a1_2 a1_3 a1_4 a1_5 a1_6 a1_7 l1_8) = some r := h
 clear h
 have H' := zm H
 clear H
 go_enter Try.func75, Try.ntmps75
 go_wp2_with (first | ((with_reducible refine gate_dst (N := 2) rfl ?_); refine box_event ?hg (N := 2) ?hd (cs := #[.string a0_0, .int .i64 a0_1, .int .i64 a0_2, .int .i64 a0_3, .int .i64 a0_4, .int .i64 a0_5, .int .i64 a0_6, .int .i64 a0_7, .slice A0_8 l0_8.length c0_8]) (t := 28) ?hr ?_; (case hd => rfl); (case hg => rfl); (case hr => first | (go_simp; done) | (go_simp; rfl)); intro gb174 hg w3 hbox hb; have n0_ := zm (below_step (by repeat (first | (with_reducible first | exact HB.out | apply zA | apply zD | apply zE) | exact HB.out)) hb); have n1_ := zm (hbox); have n2_ := zm ((by rw [hg]; exact (below_size (by repeat (first | (with_reducible first | exact HB.out | apply zA | apply zD | apply zE) | exact HB.out))) : w.heap.size ≤ gb174)); have n3_ := zm ((by rw [hg]; exact (below_size (by repeat (first | (with_reducible first | exact HB.out | apply zA | apply zD | apply zE) | exact HB.out))) : w.heap.size ≤ gb174)); clear HB; have HB := n0_; have BK174 := n1_; have GW174 := n2_; have GE174 := n3_; clear n0_ n1_ n2_ n3_; clear hb hbox hg) | ((with_reducible refine gate_dst (N := 3) rfl ?_); refine box_event ?hg (N := 3) ?hd (cs := #[.string a1_0, .int .i64 a1_1, .int .i64 a1_2, .int .i64 a1_3, .int .i64 a1_4, .int .i64 a1_5, .int .i64 a1_6, .int .i64 a1_7, .slice A1_8 l1_8.length c1_8]) (t := 28) ?hr ?_; (case hd => rfl); (case hg => rfl); (case hr => first | (go_simp; done) | (go_simp; rfl)); intro gb175 hg w4 hbox hb; have n0_ := zm (zb (g := gb174) (o := .cells #[.string a0_0, .int .i64 a0_1, .int .i64 a0_2, .int .i64 a0_3, .int .i64 a0_4, .int .i64 a0_5, .int .i64 a0_6, .int .i64 a0_7, .slice A0_8 l0_8.length c0_8] 28 (0, 0)) (by (with_reducible repeat first | apply zd | apply ze | apply za); exact BK174.out) hb); have n1_ := zm (below_step (by repeat (first | (with_reducible first | exact HB.out | apply zA | apply zD | apply zE | refine zS ?_ GE174.out) | exact HB.out)) hb); have n2_ := zm (hbox); have n3_ := zm ((by rw [hg]; exact (below_size (by repeat (first | (with_reducible first | exact HB.out | apply zA | apply zD | apply zE | refine zS ?_ GE174.out) | exact HB.out))) : w.heap.size ≤ gb175)); have n4_ := zm ((by rw [hg]; exact (below_size (by repeat (first | (with_reducible first | exact HB.out | apply zA | apply zD | apply zE | refine zS ?_ GE174.out) | exact HB.out))) : w.heap.size ≤ gb175)); have n5_ := zm ((by rw [hg]; exact Nat.ne_of_lt (blk_lt (g := gb174) (o := .cells #[.string a0_0, .int .i64 a0_1, .int .i64 a0_2, .int .i64 a0_3, .int .i64 a0_4, .int .i64 a0_5, .int .i64 a0_6, .int .i64 a0_7, .slice A0_8 l0_8.length c0_8] 28 (0, 0)) (by (with_reducible repeat first | apply zd | apply ze | apply za); exact BK174.out)) : gb174 ≠ gb175)); have n6_ := zm ((by rw [hg]; exact Nat.ne_of_gt (blk_lt (g := gb174) (o := .cells #[.string a0_0, .int .i64 a0_1, .int .i64 a0_2, .int .i64 a0_3, .int .i64 a0_4, .int .i64 a0_5, .int .i64 a0_6, .int .i64 a0_7, .slice A0_8 l0_8.length c0_8] 28 (0, 0)) (by (with_reducible repeat first | apply zd | apply ze | apply za); exact BK174.out)) : gb175 ≠ gb174)); clear BK174 HB; have BK174 := n0_; have HB := n1_; have BK175 := n2_; have GW175 := n3_; have GE175 := n4_; have NB174_175 := n5_; have NB175_174 := n6_; clear n0_ n1_ n2_ n3_ n4_ n5_ n6_; clear hb hbox hg))
 go_loopg [5] k (fun kq v5 w' => ∃ (x5_1 : Int), v5 = .int .i64 x5_1 ∧ Aside0 (metrolabref18_Apart.l0 kq x5_1 a0_0 a0_1 a0_2 a0_3 a0_4 a0_5 a0_6 a0_7 l0_8 a1_0 a1_1 a1_2 a1_3 a1_4 a1_5 a1_6 a1_7 l1_8 = some r) ∧ Aside0 (kq ≤ k) ∧ Aside0 (w'.heap[gb174]? = some (.cells #[.string a0_0, .int .i64 a0_1, .int .i64 a0_2, .int .i64 a0_3, .int .i64 a0_4, .int .i64 a0_5, .int .i64 a0_6, .int .i64 a0_7, (.slice A0_8 l0_8.length c0_8)] 28 (0, 0))) ∧ Aside0 (w'.heap[gb175]? = some (.cells #[.string a1_0, .int .i64 a1_1, .int .i64 a1_2, .int .i64 a1_3, .int .i64 a1_4, .int .i64 a1_5, .int .i64 a1_6, .int .i64 a1_7, (.slice A1_8 l1_8.length c1_8)] 28 (0, 0))) ∧ Aside0 (Below w.heap.size w w'))
 case atStart => exact ⟨(0), (by first | rfl | (simp; done) | (simp [*]; done)), H', ⟨Nat.le_refl _⟩, ⟨by (with_reducible repeat first | apply zd | apply ze | apply za); exact BK174.out⟩, ⟨by (with_reducible repeat first | apply zd | apply ze | apply za); exact BK175.out⟩, ⟨by repeat (first | (with_reducible first | exact HB.out | apply zA | apply zD | apply zE | refine zS ?_ GE174.out | refine zS ?_ GE175.out) | exact HB.out)⟩⟩
 case round =>
  clear H'
  try clear c1
  try clear p2
  obtain ⟨x5_1, rfl, HA, HK1, BK174, BK175, HB⟩ := hrel
  cases gk with
  | zero => exact absurd HA.out (by simp [metrolabref18_Apart.l0])
  | succ k1 =>
   have H := HA.out
   clear HA
   simp only [metrolabref18_Apart.l0] at H
   by_cases c5 : x5_1 < 3
   ·rw [if_pos c5] at H
    have c5b0 : decide (x5_1 < 3) = true := decide_eq_true c5
    clear c5
    have HC6 := zm H
    clear H
    go_upto_region 4 with (fail)
    go_cut [21] (fun v21 wc => ∃ (kq : Nat) (x21_5 : Bool), v21 = .bool x21_5 ∧ Aside0 (metrolabref18_Apart.j1 kq x5_1 x21_5 a0_0 a0_1 a0_2 a0_3 a0_4 a0_5 a0_6 a0_7 l0_8 a1_0 a1_1 a1_2 a1_3 a1_4 a1_5 a1_6 a1_7 l1_8 = some r) ∧ Aside0 (kq ≤ k1) ∧ Aside0 (wc.heap[gb174]? = some (.cells #[.string a0_0, .int .i64 a0_1, .int .i64 a0_2, .int .i64 a0_3, .int .i64 a0_4, .int .i64 a0_5, .int .i64 a0_6, .int .i64 a0_7, (.slice A0_8 l0_8.length c0_8)] 28 (0, 0))) ∧ Aside0 (wc.heap[gb175]? = some (.cells #[.string a1_0, .int .i64 a1_1, .int .i64 a1_2, .int .i64 a1_3, .int .i64 a1_4, .int .i64 a1_5, .int .i64 a1_6, .int .i64 a1_7, (.slice A1_8 l1_8.length c1_8)] 28 (0, 0))) ∧ Aside0 (Below w.heap.size w wc))
    case first =>
     have H := HC6.out
     clear HC6
     replace H := Option.bind_eq_some_iff.mp H
     obtain ⟨t176, A70, H⟩ := H
     replace H : (if t176 = true then ((metrolabref18_Bounded.f a1_0 a1_1 a1_2 a1_3 a1_4 a1_5 a1_6 a1_7 l1_8 x5_1).bind fun t177 => (metrolabref18_Apart.j1 k1 x5_1 (!t177) a0_0 a0_1 a0_2 a0_3 a0_4 a0_5 a0_6 a0_7 l0_8 a1_0 a1_1 a1_2 a1_3 a1_4 a1_5 a1_6 a1_7 l1_8)) else (metrolabref18_Apart.j1 k1 x5_1 true a0_0 a0_1 a0_2 a0_3 a0_4 a0_5 a0_6 a0_7 l0_8 a1_0 a1_1 a1_2 a1_3 a1_4 a1_5 a1_6 a1_7 l1_8)) = some r := H
     have A7 := zm A70
     clear A70
     by_cases c8 : t176 = true
     ·subst c8
      have H1 : ((metrolabref18_Bounded.f a1_0 a1_1 a1_2 a1_3 a1_4 a1_5 a1_6 a1_7 l1_8 x5_1).bind fun t177 => (metrolabref18_Apart.j1 k1 x5_1 (!t177) a0_0 a0_1 a0_2 a0_3 a0_4 a0_5 a0_6 a0_7 l0_8 a1_0 a1_1 a1_2 a1_3 a1_4 a1_5 a1_6 a1_7 l1_8)) = some r := by rw [if_pos rfl] at H; exact H
      clear H
      have H := H1
      clear H1
      replace H := Option.bind_eq_some_iff.mp H
      obtain ⟨t177, A90, H⟩ := H
      replace H : (metrolabref18_Apart.j1 k1 x5_1 (!t177) a0_0 a0_1 a0_2 a0_3 a0_4 a0_5 a0_6 a0_7 l0_8 a1_0 a1_1 a1_2 a1_3 a1_4 a1_5 a1_6 a1_7 l1_8) = some r := H
      have A9 := zm A90
      clear A90
      have H' := zm H
      clear H
      have hnb10 := NB174_175.out
      have hnc10 := NB175_174.out
      have hcz11_0 := zc BK174.out 0 (.string a0_0) rfl
      have hcz11_1 := zc BK174.out 1 (.int .i64 a0_1) rfl
      have hcz11_2 := zc BK174.out 2 (.int .i64 a0_2) rfl
      have hcz11_3 := zc BK174.out 3 (.int .i64 a0_3) rfl
      have hcz11_4 := zc BK174.out 4 (.int .i64 a0_4) rfl
      have hcz11_5 := zc BK174.out 5 (.int .i64 a0_5) rfl
      have hcz11_6 := zc BK174.out 6 (.int .i64 a0_6) rfl
      have hcz11_7 := zc BK174.out 7 (.int .i64 a0_7) rfl
      have hcz11_8 := zc BK174.out 8 (.slice A0_8 l0_8.length c0_8) rfl
      have hfz11_0 := zf BK174.out 0
      have hfz11_1 := zf BK174.out 1
      have hfz11_2 := zf BK174.out 2
      have hfz11_3 := zf BK174.out 3
      have hfz11_4 := zf BK174.out 4
      have hfz11_5 := zf BK174.out 5
      have hfz11_6 := zf BK174.out 6
      have hfz11_7 := zf BK174.out 7
      have hfz11_8 := zf BK174.out 8
      go_wp2_with (first | ((with_reducible refine gate_callee (f := 73) rfl ?_); refine goesL_ (some 14) rfl rfl Try.func73 (by kernel_rfl) rfl #[.agg #[.string a0_0, .int .i64 a0_1, .int .i64 a0_2, .int .i64 a0_3, .int .i64 a0_4, .int .i64 a0_5, .int .i64 a0_6, .int .i64 a0_7, .slice A0_8 l0_8.length c0_8], .int .i64 x5_1] rfl (by (try simp only [List.map_toArray, List.map_cons, List.map_nil]); first | done | rfl | (simp only [List.length_drop, List.length_take]; rfl)) ?_; (with_reducible refine (metrolabref18_Bounded.calls a0_0 a0_1 a0_2 a0_3 a0_4 a0_5 a0_6 a0_7 _ _ l0_8 x5_1 true _ ?side1 ?side2 A7.out).mono ?_); (case side1 => repeat (first | exact (Kd.C_below HR0_8.out HB.out) | (with_reducible refine Kd.C_alloc ?_ _) | (with_reducible refine Kd.C_drewN ?_ _) | (with_reducible refine Kd.C_drew ?_))); (case side2 => exact HC0_8.out); rintro e w12 ⟨rfl, hb⟩; refine ⟨_, rfl, ?_⟩; have n0_ := zm (zb (g := gb174) (o := .cells #[.string a0_0, .int .i64 a0_1, .int .i64 a0_2, .int .i64 a0_3, .int .i64 a0_4, .int .i64 a0_5, .int .i64 a0_6, .int .i64 a0_7, .slice A0_8 l0_8.length c0_8] 28 (0, 0)) (by (with_reducible repeat first | apply zd | apply ze | apply za); exact BK174.out) hb); have n1_ := zm (zb (g := gb175) (o := .cells #[.string a1_0, .int .i64 a1_1, .int .i64 a1_2, .int .i64 a1_3, .int .i64 a1_4, .int .i64 a1_5, .int .i64 a1_6, .int .i64 a1_7, .slice A1_8 l1_8.length c1_8] 28 (0, 0)) (by (with_reducible repeat first | apply zd | apply ze | apply za); exact BK175.out) hb); have n2_ := zm (below_step (by repeat (first | (with_reducible first | exact HB.out | apply zA | apply zD | apply zE | refine zS ?_ GE174.out | refine zS ?_ GE175.out) | exact HB.out)) hb); clear BK174 BK175 HB; have BK174 := n0_; have BK175 := n1_; have HB := n2_; clear n0_ n1_ n2_; (try clear hb); (try clear hb2); (try clear hk); (try clear hi); have hcz13_0 := zc BK175.out 0 (.string a1_0) rfl; have hcz13_1 := zc BK175.out 1 (.int .i64 a1_1) rfl; have hcz13_2 := zc BK175.out 2 (.int .i64 a1_2) rfl; have hcz13_3 := zc BK175.out 3 (.int .i64 a1_3) rfl; have hcz13_4 := zc BK175.out 4 (.int .i64 a1_4) rfl; have hcz13_5 := zc BK175.out 5 (.int .i64 a1_5) rfl; have hcz13_6 := zc BK175.out 6 (.int .i64 a1_6) rfl; have hcz13_7 := zc BK175.out 7 (.int .i64 a1_7) rfl; have hcz13_8 := zc BK175.out 8 (.slice A1_8 l1_8.length c1_8) rfl; have hfz13_0 := zf BK175.out 0; have hfz13_1 := zf BK175.out 1; have hfz13_2 := zf BK175.out 2; have hfz13_3 := zf BK175.out 3; have hfz13_4 := zf BK175.out 4; have hfz13_5 := zf BK175.out 5; have hfz13_6 := zf BK175.out 6; have hfz13_7 := zf BK175.out 7; have hfz13_8 := zf BK175.out 8) | (go_at_call 73; (with_reducible refine (metrolabref18_Bounded.calls a1_0 a1_1 a1_2 a1_3 a1_4 a1_5 a1_6 a1_7 _ _ l1_8 x5_1 t177 _ ?side1 ?side2 A9.out).mono ?_); (case side1 => repeat (first | exact (Kd.C_below HR1_8.out HB.out) | (with_reducible refine Kd.C_alloc ?_ _) | (with_reducible refine Kd.C_drewN ?_ _) | (with_reducible refine Kd.C_drew ?_))); (case side2 => exact HC1_8.out); rintro e w14 ⟨rfl, hb⟩; have n0_ := zm (zb (g := gb174) (o := .cells #[.string a0_0, .int .i64 a0_1, .int .i64 a0_2, .int .i64 a0_3, .int .i64 a0_4, .int .i64 a0_5, .int .i64 a0_6, .int .i64 a0_7, .slice A0_8 l0_8.length c0_8] 28 (0, 0)) (by (with_reducible repeat first | apply zd | apply ze | apply za); exact BK174.out) hb); have n1_ := zm (zb (g := gb175) (o := .cells #[.string a1_0, .int .i64 a1_1, .int .i64 a1_2, .int .i64 a1_3, .int .i64 a1_4, .int .i64 a1_5, .int .i64 a1_6, .int .i64 a1_7, .slice A1_8 l1_8.length c1_8] 28 (0, 0)) (by (with_reducible repeat first | apply zd | apply ze | apply za); exact BK175.out) hb); have n2_ := zm (below_step (by repeat (first | (with_reducible first | exact HB.out | apply zA | apply zD | apply zE | refine zS ?_ GE174.out | refine zS ?_ GE175.out) | exact HB.out)) hb); clear BK174 BK175 HB; have BK174 := n0_; have BK175 := n1_; have HB := n2_; clear n0_ n1_ n2_; (try clear hb); (try clear hb2); (try clear hk); (try clear hi)))
      go_meet
      case rel => exact ⟨_, (!t177), (by first | rfl | (simp; done) | (simp [*]; done)), H', ⟨by have := HK1.out; first | omega | exact Nat.le_refl _⟩, ⟨by (with_reducible repeat first | apply zd | apply ze | apply za); exact BK174.out⟩, ⟨by (with_reducible repeat first | apply zd | apply ze | apply za); exact BK175.out⟩, ⟨by repeat (first | (with_reducible first | exact HB.out | apply zA | apply zD | apply zE | refine zS ?_ GE174.out | refine zS ?_ GE175.out) | exact HB.out)⟩⟩
     ·replace c8 := Bool.eq_false_iff.mpr c8
      subst c8
      have H1 : (metrolabref18_Apart.j1 k1 x5_1 true a0_0 a0_1 a0_2 a0_3 a0_4 a0_5 a0_6 a0_7 l0_8 a1_0 a1_1 a1_2 a1_3 a1_4 a1_5 a1_6 a1_7 l1_8) = some r := by rw [if_neg (show ¬ (false = true) by decide)] at H; exact H
      clear H
      have H := H1
      clear H1
      have H' := zm H
      clear H
      have hnb15 := NB174_175.out
      have hnc15 := NB175_174.out
      have hcz16_0 := zc BK174.out 0 (.string a0_0) rfl
      have hcz16_1 := zc BK174.out 1 (.int .i64 a0_1) rfl
      have hcz16_2 := zc BK174.out 2 (.int .i64 a0_2) rfl
      have hcz16_3 := zc BK174.out 3 (.int .i64 a0_3) rfl
      have hcz16_4 := zc BK174.out 4 (.int .i64 a0_4) rfl
      have hcz16_5 := zc BK174.out 5 (.int .i64 a0_5) rfl
      have hcz16_6 := zc BK174.out 6 (.int .i64 a0_6) rfl
      have hcz16_7 := zc BK174.out 7 (.int .i64 a0_7) rfl
      have hcz16_8 := zc BK174.out 8 (.slice A0_8 l0_8.length c0_8) rfl
      have hfz16_0 := zf BK174.out 0
      have hfz16_1 := zf BK174.out 1
      have hfz16_2 := zf BK174.out 2
      have hfz16_3 := zf BK174.out 3
      have hfz16_4 := zf BK174.out 4
      have hfz16_5 := zf BK174.out 5
      have hfz16_6 := zf BK174.out 6
      have hfz16_7 := zf BK174.out 7
      have hfz16_8 := zf BK174.out 8
      go_wp2_with (first | ((with_reducible refine gate_callee (f := 73) rfl ?_); refine goesL_ (some 14) rfl rfl Try.func73 (by kernel_rfl) rfl #[.agg #[.string a0_0, .int .i64 a0_1, .int .i64 a0_2, .int .i64 a0_3, .int .i64 a0_4, .int .i64 a0_5, .int .i64 a0_6, .int .i64 a0_7, .slice A0_8 l0_8.length c0_8], .int .i64 x5_1] rfl (by (try simp only [List.map_toArray, List.map_cons, List.map_nil]); first | done | rfl | (simp only [List.length_drop, List.length_take]; rfl)) ?_; (with_reducible refine (metrolabref18_Bounded.calls a0_0 a0_1 a0_2 a0_3 a0_4 a0_5 a0_6 a0_7 _ _ l0_8 x5_1 false _ ?side1 ?side2 A7.out).mono ?_); (case side1 => repeat (first | exact (Kd.C_below HR0_8.out HB.out) | (with_reducible refine Kd.C_alloc ?_ _) | (with_reducible refine Kd.C_drewN ?_ _) | (with_reducible refine Kd.C_drew ?_))); (case side2 => exact HC0_8.out); rintro e w17 ⟨rfl, hb⟩; refine ⟨_, rfl, ?_⟩; have n0_ := zm (zb (g := gb174) (o := .cells #[.string a0_0, .int .i64 a0_1, .int .i64 a0_2, .int .i64 a0_3, .int .i64 a0_4, .int .i64 a0_5, .int .i64 a0_6, .int .i64 a0_7, .slice A0_8 l0_8.length c0_8] 28 (0, 0)) (by (with_reducible repeat first | apply zd | apply ze | apply za); exact BK174.out) hb); have n1_ := zm (zb (g := gb175) (o := .cells #[.string a1_0, .int .i64 a1_1, .int .i64 a1_2, .int .i64 a1_3, .int .i64 a1_4, .int .i64 a1_5, .int .i64 a1_6, .int .i64 a1_7, .slice A1_8 l1_8.length c1_8] 28 (0, 0)) (by (with_reducible repeat first | apply zd | apply ze | apply za); exact BK175.out) hb); have n2_ := zm (below_step (by repeat (first | (with_reducible first | exact HB.out | apply zA | apply zD | apply zE | refine zS ?_ GE174.out | refine zS ?_ GE175.out) | exact HB.out)) hb); clear BK174 BK175 HB; have BK174 := n0_; have BK175 := n1_; have HB := n2_; clear n0_ n1_ n2_; (try clear hb); (try clear hb2); (try clear hk); (try clear hi)))
      go_meet
      case rel => exact ⟨_, (true), (by first | rfl | (simp; done) | (simp [*]; done)), H', ⟨by have := HK1.out; first | omega | exact Nat.le_refl _⟩, ⟨by (with_reducible repeat first | apply zd | apply ze | apply za); exact BK174.out⟩, ⟨by (with_reducible repeat first | apply zd | apply ze | apply za); exact BK175.out⟩, ⟨by repeat (first | (with_reducible first | exact HB.out | apply zA | apply zD | apply zE | refine zS ?_ GE174.out | refine zS ?_ GE175.out) | exact HB.out)⟩⟩
    case rest =>
     clear HC6
     try clear c1
     try clear p2
     try clear c5
     try clear c5b0
     try clear c7
     try clear c8
     try clear c10
     try clear c15
     try clear hcz11_0
     try clear hcz11_1
     try clear hcz11_2
     try clear hcz11_3
     try clear hcz11_4
     try clear hcz11_5
     try clear hcz11_6
     try clear hcz11_7
     try clear hcz11_8
     try clear hcz13_0
     try clear hcz13_1
     try clear hcz13_2
     try clear hcz13_3
     try clear hcz13_4
     try clear hcz13_5
     try clear hcz13_6
     try clear hcz13_7
     try clear hcz13_8
     try clear hcz16_0
     try clear hcz16_1
     try clear hcz16_2
     try clear hcz16_3
     try clear hcz16_4
     try clear hcz16_5
     try clear hcz16_6
     try clear hcz16_7
     try clear hcz16_8
     try clear hfz11_0
     try clear hfz11_1
     try clear hfz11_2
     try clear hfz11_3
     try clear hfz11_4
     try clear hfz11_5
     try clear hfz11_6
     try clear hfz11_7
     try clear hfz11_8
     try clear hfz13_0
     try clear hfz13_1
     try clear hfz13_2
     try clear hfz13_3
     try clear hfz13_4
     try clear hfz13_5
     try clear hfz13_6
     try clear hfz13_7
     try clear hfz13_8
     try clear hfz16_0
     try clear hfz16_1
     try clear hfz16_2
     try clear hfz16_3
     try clear hfz16_4
     try clear hfz16_5
     try clear hfz16_6
     try clear hfz16_7
     try clear hfz16_8
     try clear p2
     obtain ⟨kq, x21_5, rfl, HA, HJ5, BK174, BK175, HB⟩ := hcut
     cases kq with
     | zero => exact absurd HA.out (by simp [metrolabref18_Apart.j1])
     | succ kj5 =>
      have H := HA.out
      clear HA
      simp only [metrolabref18_Apart.j1] at H
      by_cases c18 : x21_5 = true
      ·subst c18
       have H1 : (metrolabref18_Apart.l0 kj5 (wrap64 (x5_1 + 1)) a0_0 a0_1 a0_2 a0_3 a0_4 a0_5 a0_6 a0_7 l0_8 a1_0 a1_1 a1_2 a1_3 a1_4 a1_5 a1_6 a1_7 l1_8) = some r := by rw [if_pos rfl] at H; exact H
       clear H
       have H := H1
       clear H1
       have H' := zm H
       clear H
       go_wp2
       go_roundg kj5
       case measure => have := HK1.out; have := HJ5.out; omega
       case rel => exact ⟨(wrap64 (x5_1 + 1)), (by first | rfl | (simp; done) | (simp [*]; done)), H', ⟨by have := HK1.out; have := HJ5.out; omega⟩, ⟨by (with_reducible repeat first | apply zd | apply ze | apply za); exact BK174.out⟩, ⟨by (with_reducible repeat first | apply zd | apply ze | apply za); exact BK175.out⟩, ⟨by repeat (first | (with_reducible first | exact HB.out | apply zA | apply zD | apply zE | refine zS ?_ GE174.out | refine zS ?_ GE175.out) | exact HB.out)⟩⟩
      ·replace c18 := Bool.eq_false_iff.mpr c18
       subst c18
       have H1 : ((metrolabref18_Along.f a0_0 a0_1 a0_2 a0_3 a0_4 a0_5 a0_6 a0_7 l0_8 x5_1).bind fun bt178 => ((metrolabref18_Along.f a1_0 a1_1 a1_2 a1_3 a1_4 a1_5 a1_6 a1_7 l1_8 x5_1).bind fun bt180 => (if bt178.2 < bt180.1 then (some true) else (if bt180.2 < bt178.1 then (some true) else (metrolabref18_Apart.l0 kj5 (wrap64 (x5_1 + 1)) a0_0 a0_1 a0_2 a0_3 a0_4 a0_5 a0_6 a0_7 l0_8 a1_0 a1_1 a1_2 a1_3 a1_4 a1_5 a1_6 a1_7 l1_8))))) = some r := by rw [if_neg (show ¬ (false = true) by decide)] at H; exact H
       clear H
       have H := H1
       clear H1
       replace H := Option.bind_eq_some_iff.mp H
       obtain ⟨⟨t178, t179⟩, A190, H⟩ := H
       replace H : ((metrolabref18_Along.f a1_0 a1_1 a1_2 a1_3 a1_4 a1_5 a1_6 a1_7 l1_8 x5_1).bind fun bt180 => (if t179 < bt180.1 then (some true) else (if bt180.2 < t178 then (some true) else (metrolabref18_Apart.l0 kj5 (wrap64 (x5_1 + 1)) a0_0 a0_1 a0_2 a0_3 a0_4 a0_5 a0_6 a0_7 l0_8 a1_0 a1_1 a1_2 a1_3 a1_4 a1_5 a1_6 a1_7 l1_8)))) = some r := H
       have A19 := zm A190
       clear A190
       replace H := Option.bind_eq_some_iff.mp H
       obtain ⟨⟨t180, t181⟩, A200, H⟩ := H
       replace H : (if t179 < t180 then (some true) else (if t181 < t178 then (some true) else (metrolabref18_Apart.l0 kj5 (wrap64 (x5_1 + 1)) a0_0 a0_1 a0_2 a0_3 a0_4 a0_5 a0_6 a0_7 l0_8 a1_0 a1_1 a1_2 a1_3 a1_4 a1_5 a1_6 a1_7 l1_8))) = some r := H
       have A20 := zm A200
       clear A200
       have HX_ := zm H
       clear H
       try go_wp2
       have n0_ := zm (ze BK174.out)
       have n1_ := zm (ze BK175.out)
       have n2_ := zm (zE HB.out)
       clear BK174 BK175 HB
       have BK174 := n0_
       have BK175 := n1_
       have HB := n2_
       clear n0_ n1_ n2_
       refine start_ (n := 10) (S := fun w' => w'.cell? ⟨gb174, 0, none⟩ = some (.string a0_0) ∧ w'.cell? ⟨gb174, 1, none⟩ = some (.int .i64 a0_1) ∧ w'.cell? ⟨gb174, 2, none⟩ = some (.int .i64 a0_2) ∧ w'.cell? ⟨gb174, 3, none⟩ = some (.int .i64 a0_3) ∧ w'.cell? ⟨gb174, 4, none⟩ = some (.int .i64 a0_4) ∧ w'.cell? ⟨gb174, 5, none⟩ = some (.int .i64 a0_5) ∧ w'.cell? ⟨gb174, 6, none⟩ = some (.int .i64 a0_6) ∧ w'.cell? ⟨gb174, 7, none⟩ = some (.int .i64 a0_7) ∧ w'.cell? ⟨gb174, 8, none⟩ = some (.slice A0_8 l0_8.length c0_8) ∧ w'.cell? ⟨gb175, 0, none⟩ = some (.string a1_0) ∧ w'.cell? ⟨gb175, 1, none⟩ = some (.int .i64 a1_1) ∧ w'.cell? ⟨gb175, 2, none⟩ = some (.int .i64 a1_2) ∧ w'.cell? ⟨gb175, 3, none⟩ = some (.int .i64 a1_3) ∧ w'.cell? ⟨gb175, 4, none⟩ = some (.int .i64 a1_4) ∧ w'.cell? ⟨gb175, 5, none⟩ = some (.int .i64 a1_5) ∧ w'.cell? ⟨gb175, 6, none⟩ = some (.int .i64 a1_6) ∧ w'.cell? ⟨gb175, 7, none⟩ = some (.int .i64 a1_7) ∧ w'.cell? ⟨gb175, 8, none⟩ = some (.slice A1_8 l1_8.length c1_8)) (ds := []) #[false, false, false, false, false, false, false, false, false, false] (by kernel_rfl) rfl rfl ⟨(blk_cell BK174.out 0).trans rfl, (blk_cell BK174.out 1).trans rfl, (blk_cell BK174.out 2).trans rfl, (blk_cell BK174.out 3).trans rfl, (blk_cell BK174.out 4).trans rfl, (blk_cell BK174.out 5).trans rfl, (blk_cell BK174.out 6).trans rfl, (blk_cell BK174.out 7).trans rfl, (blk_cell BK174.out 8).trans rfl, (blk_cell BK175.out 0).trans rfl, (blk_cell BK175.out 1).trans rfl, (blk_cell BK175.out 2).trans rfl, (blk_cell BK175.out 3).trans rfl, (blk_cell BK175.out 4).trans rfl, (blk_cell BK175.out 5).trans rfl, (blk_cell BK175.out 6).trans rfl, (blk_cell BK175.out 7).trans rfl, (blk_cell BK175.out 8).trans rfl⟩ (fun hHeld => ?_); refine with_tabW metrolabref18_Apart.tab5 metrolabref18_Apart.bits5 (fun HT_ HW_ => ?_)
       generalize wc.drew = w22 at BK174 BK175 HB hHeld ⊢
       refine pure_ (i := 1) (N := some 23) (v := ?_) (a' := ?_) #[false, true, false, false, false, false, false, false, false, false] rfl rfl (any_of HT_.out (by kernel_rfl)) (fun _ _ _ h => h) (Or.inl ⟨by rfl, ?_⟩) ?_ ?_
       rotate_left
       ·intro w'
        go_simp
        with_reducible rfl
       rotate_left
       ·simp only [Act.put, zx, zy, zz, i64_w, i32_w]
        rfl
       refine pure_ (i := 4) (N := some 26) (v := ?_) (a' := ?_) #[false, true, false, false, true, false, false, false, false, false] rfl rfl (any_of HT_.out (by kernel_rfl)) (fun _ _ _ h => h) (Or.inl ⟨by rfl, ?_⟩) ?_ ?_
       rotate_left
       ·intro w'
        go_simp
        with_reducible rfl
       rotate_left
       ·simp only [Act.put, zx, zy, zz, i64_w, i32_w]
        rfl
       refine take_ (i := 0) (N := some 22) (v := ?_) (a' := ?_) #[true, true, false, false, true, false, false, false, false, false] rfl rfl (take_ofW HT_.out HW_.out (by kernel_rfl)) (fun _ _ _ h => h) (Or.inl ⟨by rfl, ?_⟩) hHeld ?_ ?_
       rotate_left
       ·rintro w' ⟨s0, s1, s2, s3, s4, s5, s6, s7, s8, s9, s10, s11, s12, s13, s14, s15, s16, s17⟩
        go_simp
        with_reducible rfl
       rotate_left
       ·simp only [Act.put, zx, zy, zz, i64_w, i32_w]
        rfl
       refine take_ (i := 3) (N := some 25) (v := ?_) (a' := ?_) #[true, true, false, true, true, false, false, false, false, false] rfl rfl (take_ofW HT_.out HW_.out (by kernel_rfl)) (fun _ _ _ h => h) (Or.inl ⟨by rfl, ?_⟩) hHeld ?_ ?_
       rotate_left
       ·rintro w' ⟨s0, s1, s2, s3, s4, s5, s6, s7, s8, s9, s10, s11, s12, s13, s14, s15, s16, s17⟩
        go_simp
        with_reducible rfl
       rotate_left
       ·simp only [Act.put, zx, zy, zz, i64_w, i32_w]
        rfl
       refine join_ (σ := Nat × Nat) 2 #[true, true, true, true, true, true, true, true, false, false] (fun s_ => [(24, .agg #[.int .i64 t178, .int .i64 t179]), (27, .agg #[.int .i64 t180, .int .i64 t181]), (6, .pointer (some ⟨s_.1, 0, none⟩)), (7, .pointer (some ⟨s_.2, 0, none⟩))]) (fun s_ w' => (w'.cell? ⟨gb174, 0, none⟩ = some (.string a0_0) ∧ w'.cell? ⟨gb174, 1, none⟩ = some (.int .i64 a0_1) ∧ w'.cell? ⟨gb174, 2, none⟩ = some (.int .i64 a0_2) ∧ w'.cell? ⟨gb174, 3, none⟩ = some (.int .i64 a0_3) ∧ w'.cell? ⟨gb174, 4, none⟩ = some (.int .i64 a0_4) ∧ w'.cell? ⟨gb174, 5, none⟩ = some (.int .i64 a0_5) ∧ w'.cell? ⟨gb174, 6, none⟩ = some (.int .i64 a0_6) ∧ w'.cell? ⟨gb174, 7, none⟩ = some (.int .i64 a0_7) ∧ w'.cell? ⟨gb174, 8, none⟩ = some (.slice A0_8 l0_8.length c0_8) ∧ w'.cell? ⟨gb175, 0, none⟩ = some (.string a1_0) ∧ w'.cell? ⟨gb175, 1, none⟩ = some (.int .i64 a1_1) ∧ w'.cell? ⟨gb175, 2, none⟩ = some (.int .i64 a1_2) ∧ w'.cell? ⟨gb175, 3, none⟩ = some (.int .i64 a1_3) ∧ w'.cell? ⟨gb175, 4, none⟩ = some (.int .i64 a1_4) ∧ w'.cell? ⟨gb175, 5, none⟩ = some (.int .i64 a1_5) ∧ w'.cell? ⟨gb175, 6, none⟩ = some (.int .i64 a1_6) ∧ w'.cell? ⟨gb175, 7, none⟩ = some (.int .i64 a1_7) ∧ w'.cell? ⟨gb175, 8, none⟩ = some (.slice A1_8 l1_8.length c1_8)) ∧ (w'.heap[gb174]? = some (.cells #[.string a0_0, .int .i64 a0_1, .int .i64 a0_2, .int .i64 a0_3, .int .i64 a0_4, .int .i64 a0_5, .int .i64 a0_6, .int .i64 a0_7, .slice A0_8 l0_8.length c0_8] 28 (0, 0))) ∧ (w'.heap[gb175]? = some (.cells #[.string a1_0, .int .i64 a1_1, .int .i64 a1_2, .int .i64 a1_3, .int .i64 a1_4, .int .i64 a1_5, .int .i64 a1_6, .int .i64 a1_7, .slice A1_8 l1_8.length c1_8] 28 (0, 0))) ∧ (w'.heap[s_.1]? = some (.cells #[.int .i64 0, .int .i64 0] 25 (0, 0))) ∧ (w'.heap[s_.2]? = some (.cells #[.int .i64 0, .int .i64 0] 25 (0, 0))) ∧ (w.heap.size ≤ s_.1) ∧ (w.heap.size ≤ s_.1) ∧ (gb174 ≠ s_.1) ∧ (s_.1 ≠ gb174) ∧ (gb175 ≠ s_.1) ∧ (s_.1 ≠ gb175) ∧ (s_.2 ≠ s_.1) ∧ (s_.1 ≠ s_.2) ∧ (w.heap.size ≤ s_.2) ∧ (w.heap.size ≤ s_.2) ∧ (gb174 ≠ s_.2) ∧ (s_.2 ≠ gb174) ∧ (gb175 ≠ s_.2) ∧ (s_.2 ≠ gb175) ∧ (Below w.heap.size w w')) ?_ ?_
       rotate_left
       ·intro hJ2_5_6_7
        refine join_ (σ := Nat) 3 #[true, true, true, true, true, true, true, false, false, false] (fun s_ => [(24, .agg #[.int .i64 t178, .int .i64 t179]), (27, .agg #[.int .i64 t180, .int .i64 t181]), (6, .pointer (some ⟨s_, 0, none⟩))]) (fun s_ w' => (w'.cell? ⟨gb174, 0, none⟩ = some (.string a0_0) ∧ w'.cell? ⟨gb174, 1, none⟩ = some (.int .i64 a0_1) ∧ w'.cell? ⟨gb174, 2, none⟩ = some (.int .i64 a0_2) ∧ w'.cell? ⟨gb174, 3, none⟩ = some (.int .i64 a0_3) ∧ w'.cell? ⟨gb174, 4, none⟩ = some (.int .i64 a0_4) ∧ w'.cell? ⟨gb174, 5, none⟩ = some (.int .i64 a0_5) ∧ w'.cell? ⟨gb174, 6, none⟩ = some (.int .i64 a0_6) ∧ w'.cell? ⟨gb174, 7, none⟩ = some (.int .i64 a0_7) ∧ w'.cell? ⟨gb174, 8, none⟩ = some (.slice A0_8 l0_8.length c0_8) ∧ w'.cell? ⟨gb175, 0, none⟩ = some (.string a1_0) ∧ w'.cell? ⟨gb175, 1, none⟩ = some (.int .i64 a1_1) ∧ w'.cell? ⟨gb175, 2, none⟩ = some (.int .i64 a1_2) ∧ w'.cell? ⟨gb175, 3, none⟩ = some (.int .i64 a1_3) ∧ w'.cell? ⟨gb175, 4, none⟩ = some (.int .i64 a1_4) ∧ w'.cell? ⟨gb175, 5, none⟩ = some (.int .i64 a1_5) ∧ w'.cell? ⟨gb175, 6, none⟩ = some (.int .i64 a1_6) ∧ w'.cell? ⟨gb175, 7, none⟩ = some (.int .i64 a1_7) ∧ w'.cell? ⟨gb175, 8, none⟩ = some (.slice A1_8 l1_8.length c1_8)) ∧ (w'.heap[gb174]? = some (.cells #[.string a0_0, .int .i64 a0_1, .int .i64 a0_2, .int .i64 a0_3, .int .i64 a0_4, .int .i64 a0_5, .int .i64 a0_6, .int .i64 a0_7, .slice A0_8 l0_8.length c0_8] 28 (0, 0))) ∧ (w'.heap[gb175]? = some (.cells #[.string a1_0, .int .i64 a1_1, .int .i64 a1_2, .int .i64 a1_3, .int .i64 a1_4, .int .i64 a1_5, .int .i64 a1_6, .int .i64 a1_7, .slice A1_8 l1_8.length c1_8] 28 (0, 0))) ∧ (w'.heap[s_]? = some (.cells #[.int .i64 0, .int .i64 0] 25 (0, 0))) ∧ (w.heap.size ≤ s_) ∧ (w.heap.size ≤ s_) ∧ (gb174 ≠ s_) ∧ (s_ ≠ gb174) ∧ (gb175 ≠ s_) ∧ (s_ ≠ gb175) ∧ (Below w.heap.size w w')) ?_ ?_
        rotate_left
        ·intro hJ2_5_6
         refine join_ (σ := Nat) 3 #[true, true, true, true, true, true, false, true, false, false] (fun s_ => [(24, .agg #[.int .i64 t178, .int .i64 t179]), (27, .agg #[.int .i64 t180, .int .i64 t181]), (7, .pointer (some ⟨s_, 0, none⟩))]) (fun s_ w' => (w'.cell? ⟨gb174, 0, none⟩ = some (.string a0_0) ∧ w'.cell? ⟨gb174, 1, none⟩ = some (.int .i64 a0_1) ∧ w'.cell? ⟨gb174, 2, none⟩ = some (.int .i64 a0_2) ∧ w'.cell? ⟨gb174, 3, none⟩ = some (.int .i64 a0_3) ∧ w'.cell? ⟨gb174, 4, none⟩ = some (.int .i64 a0_4) ∧ w'.cell? ⟨gb174, 5, none⟩ = some (.int .i64 a0_5) ∧ w'.cell? ⟨gb174, 6, none⟩ = some (.int .i64 a0_6) ∧ w'.cell? ⟨gb174, 7, none⟩ = some (.int .i64 a0_7) ∧ w'.cell? ⟨gb174, 8, none⟩ = some (.slice A0_8 l0_8.length c0_8) ∧ w'.cell? ⟨gb175, 0, none⟩ = some (.string a1_0) ∧ w'.cell? ⟨gb175, 1, none⟩ = some (.int .i64 a1_1) ∧ w'.cell? ⟨gb175, 2, none⟩ = some (.int .i64 a1_2) ∧ w'.cell? ⟨gb175, 3, none⟩ = some (.int .i64 a1_3) ∧ w'.cell? ⟨gb175, 4, none⟩ = some (.int .i64 a1_4) ∧ w'.cell? ⟨gb175, 5, none⟩ = some (.int .i64 a1_5) ∧ w'.cell? ⟨gb175, 6, none⟩ = some (.int .i64 a1_6) ∧ w'.cell? ⟨gb175, 7, none⟩ = some (.int .i64 a1_7) ∧ w'.cell? ⟨gb175, 8, none⟩ = some (.slice A1_8 l1_8.length c1_8)) ∧ (w'.heap[gb174]? = some (.cells #[.string a0_0, .int .i64 a0_1, .int .i64 a0_2, .int .i64 a0_3, .int .i64 a0_4, .int .i64 a0_5, .int .i64 a0_6, .int .i64 a0_7, .slice A0_8 l0_8.length c0_8] 28 (0, 0))) ∧ (w'.heap[gb175]? = some (.cells #[.string a1_0, .int .i64 a1_1, .int .i64 a1_2, .int .i64 a1_3, .int .i64 a1_4, .int .i64 a1_5, .int .i64 a1_6, .int .i64 a1_7, .slice A1_8 l1_8.length c1_8] 28 (0, 0))) ∧ (w'.heap[s_]? = some (.cells #[.int .i64 0, .int .i64 0] 25 (0, 0))) ∧ (w.heap.size ≤ s_) ∧ (w.heap.size ≤ s_) ∧ (gb174 ≠ s_) ∧ (s_ ≠ gb174) ∧ (gb175 ≠ s_) ∧ (s_ ≠ gb175) ∧ (Below w.heap.size w w')) ?_ ?_
         rotate_left
         ·intro hJ2_5_7
          refine join_ (σ := Nat × Nat) 3 #[true, true, true, true, true, false, true, true, false, false] (fun s_ => [(24, .agg #[.int .i64 t178, .int .i64 t179]), (6, .pointer (some ⟨s_.1, 0, none⟩)), (7, .pointer (some ⟨s_.2, 0, none⟩))]) (fun s_ w' => (w'.cell? ⟨gb174, 0, none⟩ = some (.string a0_0) ∧ w'.cell? ⟨gb174, 1, none⟩ = some (.int .i64 a0_1) ∧ w'.cell? ⟨gb174, 2, none⟩ = some (.int .i64 a0_2) ∧ w'.cell? ⟨gb174, 3, none⟩ = some (.int .i64 a0_3) ∧ w'.cell? ⟨gb174, 4, none⟩ = some (.int .i64 a0_4) ∧ w'.cell? ⟨gb174, 5, none⟩ = some (.int .i64 a0_5) ∧ w'.cell? ⟨gb174, 6, none⟩ = some (.int .i64 a0_6) ∧ w'.cell? ⟨gb174, 7, none⟩ = some (.int .i64 a0_7) ∧ w'.cell? ⟨gb174, 8, none⟩ = some (.slice A0_8 l0_8.length c0_8) ∧ w'.cell? ⟨gb175, 0, none⟩ = some (.string a1_0) ∧ w'.cell? ⟨gb175, 1, none⟩ = some (.int .i64 a1_1) ∧ w'.cell? ⟨gb175, 2, none⟩ = some (.int .i64 a1_2) ∧ w'.cell? ⟨gb175, 3, none⟩ = some (.int .i64 a1_3) ∧ w'.cell? ⟨gb175, 4, none⟩ = some (.int .i64 a1_4) ∧ w'.cell? ⟨gb175, 5, none⟩ = some (.int .i64 a1_5) ∧ w'.cell? ⟨gb175, 6, none⟩ = some (.int .i64 a1_6) ∧ w'.cell? ⟨gb175, 7, none⟩ = some (.int .i64 a1_7) ∧ w'.cell? ⟨gb175, 8, none⟩ = some (.slice A1_8 l1_8.length c1_8)) ∧ (w'.heap[gb174]? = some (.cells #[.string a0_0, .int .i64 a0_1, .int .i64 a0_2, .int .i64 a0_3, .int .i64 a0_4, .int .i64 a0_5, .int .i64 a0_6, .int .i64 a0_7, .slice A0_8 l0_8.length c0_8] 28 (0, 0))) ∧ (w'.heap[gb175]? = some (.cells #[.string a1_0, .int .i64 a1_1, .int .i64 a1_2, .int .i64 a1_3, .int .i64 a1_4, .int .i64 a1_5, .int .i64 a1_6, .int .i64 a1_7, .slice A1_8 l1_8.length c1_8] 28 (0, 0))) ∧ (w'.heap[s_.1]? = some (.cells #[.int .i64 0, .int .i64 0] 25 (0, 0))) ∧ (w'.heap[s_.2]? = some (.cells #[.int .i64 0, .int .i64 0] 25 (0, 0))) ∧ (w.heap.size ≤ s_.1) ∧ (w.heap.size ≤ s_.1) ∧ (gb174 ≠ s_.1) ∧ (s_.1 ≠ gb174) ∧ (gb175 ≠ s_.1) ∧ (s_.1 ≠ gb175) ∧ (s_.2 ≠ s_.1) ∧ (s_.1 ≠ s_.2) ∧ (w.heap.size ≤ s_.2) ∧ (w.heap.size ≤ s_.2) ∧ (gb174 ≠ s_.2) ∧ (s_.2 ≠ gb174) ∧ (gb175 ≠ s_.2) ∧ (s_.2 ≠ gb175) ∧ (Below w.heap.size w w')) ?_ ?_
          rotate_left
          ·intro hJ2_6_7
           refine join_ (σ := Unit) 4 #[true, true, true, true, true, true, false, false, false, false] (fun s_ => [(24, .agg #[.int .i64 t178, .int .i64 t179]), (27, .agg #[.int .i64 t180, .int .i64 t181])]) (fun s_ w' => (w'.cell? ⟨gb174, 0, none⟩ = some (.string a0_0) ∧ w'.cell? ⟨gb174, 1, none⟩ = some (.int .i64 a0_1) ∧ w'.cell? ⟨gb174, 2, none⟩ = some (.int .i64 a0_2) ∧ w'.cell? ⟨gb174, 3, none⟩ = some (.int .i64 a0_3) ∧ w'.cell? ⟨gb174, 4, none⟩ = some (.int .i64 a0_4) ∧ w'.cell? ⟨gb174, 5, none⟩ = some (.int .i64 a0_5) ∧ w'.cell? ⟨gb174, 6, none⟩ = some (.int .i64 a0_6) ∧ w'.cell? ⟨gb174, 7, none⟩ = some (.int .i64 a0_7) ∧ w'.cell? ⟨gb174, 8, none⟩ = some (.slice A0_8 l0_8.length c0_8) ∧ w'.cell? ⟨gb175, 0, none⟩ = some (.string a1_0) ∧ w'.cell? ⟨gb175, 1, none⟩ = some (.int .i64 a1_1) ∧ w'.cell? ⟨gb175, 2, none⟩ = some (.int .i64 a1_2) ∧ w'.cell? ⟨gb175, 3, none⟩ = some (.int .i64 a1_3) ∧ w'.cell? ⟨gb175, 4, none⟩ = some (.int .i64 a1_4) ∧ w'.cell? ⟨gb175, 5, none⟩ = some (.int .i64 a1_5) ∧ w'.cell? ⟨gb175, 6, none⟩ = some (.int .i64 a1_6) ∧ w'.cell? ⟨gb175, 7, none⟩ = some (.int .i64 a1_7) ∧ w'.cell? ⟨gb175, 8, none⟩ = some (.slice A1_8 l1_8.length c1_8)) ∧ (w'.heap[gb174]? = some (.cells #[.string a0_0, .int .i64 a0_1, .int .i64 a0_2, .int .i64 a0_3, .int .i64 a0_4, .int .i64 a0_5, .int .i64 a0_6, .int .i64 a0_7, .slice A0_8 l0_8.length c0_8] 28 (0, 0))) ∧ (w'.heap[gb175]? = some (.cells #[.string a1_0, .int .i64 a1_1, .int .i64 a1_2, .int .i64 a1_3, .int .i64 a1_4, .int .i64 a1_5, .int .i64 a1_6, .int .i64 a1_7, .slice A1_8 l1_8.length c1_8] 28 (0, 0))) ∧ (Below w.heap.size w w')) ?_ ?_
           rotate_left
           ·intro hJ2_5
            refine join_ (σ := Nat) 4 #[true, true, true, true, true, false, true, false, false, false] (fun s_ => [(24, .agg #[.int .i64 t178, .int .i64 t179]), (6, .pointer (some ⟨s_, 0, none⟩))]) (fun s_ w' => (w'.cell? ⟨gb174, 0, none⟩ = some (.string a0_0) ∧ w'.cell? ⟨gb174, 1, none⟩ = some (.int .i64 a0_1) ∧ w'.cell? ⟨gb174, 2, none⟩ = some (.int .i64 a0_2) ∧ w'.cell? ⟨gb174, 3, none⟩ = some (.int .i64 a0_3) ∧ w'.cell? ⟨gb174, 4, none⟩ = some (.int .i64 a0_4) ∧ w'.cell? ⟨gb174, 5, none⟩ = some (.int .i64 a0_5) ∧ w'.cell? ⟨gb174, 6, none⟩ = some (.int .i64 a0_6) ∧ w'.cell? ⟨gb174, 7, none⟩ = some (.int .i64 a0_7) ∧ w'.cell? ⟨gb174, 8, none⟩ = some (.slice A0_8 l0_8.length c0_8) ∧ w'.cell? ⟨gb175, 0, none⟩ = some (.string a1_0) ∧ w'.cell? ⟨gb175, 1, none⟩ = some (.int .i64 a1_1) ∧ w'.cell? ⟨gb175, 2, none⟩ = some (.int .i64 a1_2) ∧ w'.cell? ⟨gb175, 3, none⟩ = some (.int .i64 a1_3) ∧ w'.cell? ⟨gb175, 4, none⟩ = some (.int .i64 a1_4) ∧ w'.cell? ⟨gb175, 5, none⟩ = some (.int .i64 a1_5) ∧ w'.cell? ⟨gb175, 6, none⟩ = some (.int .i64 a1_6) ∧ w'.cell? ⟨gb175, 7, none⟩ = some (.int .i64 a1_7) ∧ w'.cell? ⟨gb175, 8, none⟩ = some (.slice A1_8 l1_8.length c1_8)) ∧ (w'.heap[gb174]? = some (.cells #[.string a0_0, .int .i64 a0_1, .int .i64 a0_2, .int .i64 a0_3, .int .i64 a0_4, .int .i64 a0_5, .int .i64 a0_6, .int .i64 a0_7, .slice A0_8 l0_8.length c0_8] 28 (0, 0))) ∧ (w'.heap[gb175]? = some (.cells #[.string a1_0, .int .i64 a1_1, .int .i64 a1_2, .int .i64 a1_3, .int .i64 a1_4, .int .i64 a1_5, .int .i64 a1_6, .int .i64 a1_7, .slice A1_8 l1_8.length c1_8] 28 (0, 0))) ∧ (w'.heap[s_]? = some (.cells #[.int .i64 0, .int .i64 0] 25 (0, 0))) ∧ (w.heap.size ≤ s_) ∧ (w.heap.size ≤ s_) ∧ (gb174 ≠ s_) ∧ (s_ ≠ gb174) ∧ (gb175 ≠ s_) ∧ (s_ ≠ gb175) ∧ (Below w.heap.size w w')) ?_ ?_
            rotate_left
            ·intro hJ2_6
             refine join_ (σ := Nat) 4 #[true, true, true, true, true, false, false, true, false, false] (fun s_ => [(24, .agg #[.int .i64 t178, .int .i64 t179]), (7, .pointer (some ⟨s_, 0, none⟩))]) (fun s_ w' => (w'.cell? ⟨gb174, 0, none⟩ = some (.string a0_0) ∧ w'.cell? ⟨gb174, 1, none⟩ = some (.int .i64 a0_1) ∧ w'.cell? ⟨gb174, 2, none⟩ = some (.int .i64 a0_2) ∧ w'.cell? ⟨gb174, 3, none⟩ = some (.int .i64 a0_3) ∧ w'.cell? ⟨gb174, 4, none⟩ = some (.int .i64 a0_4) ∧ w'.cell? ⟨gb174, 5, none⟩ = some (.int .i64 a0_5) ∧ w'.cell? ⟨gb174, 6, none⟩ = some (.int .i64 a0_6) ∧ w'.cell? ⟨gb174, 7, none⟩ = some (.int .i64 a0_7) ∧ w'.cell? ⟨gb174, 8, none⟩ = some (.slice A0_8 l0_8.length c0_8) ∧ w'.cell? ⟨gb175, 0, none⟩ = some (.string a1_0) ∧ w'.cell? ⟨gb175, 1, none⟩ = some (.int .i64 a1_1) ∧ w'.cell? ⟨gb175, 2, none⟩ = some (.int .i64 a1_2) ∧ w'.cell? ⟨gb175, 3, none⟩ = some (.int .i64 a1_3) ∧ w'.cell? ⟨gb175, 4, none⟩ = some (.int .i64 a1_4) ∧ w'.cell? ⟨gb175, 5, none⟩ = some (.int .i64 a1_5) ∧ w'.cell? ⟨gb175, 6, none⟩ = some (.int .i64 a1_6) ∧ w'.cell? ⟨gb175, 7, none⟩ = some (.int .i64 a1_7) ∧ w'.cell? ⟨gb175, 8, none⟩ = some (.slice A1_8 l1_8.length c1_8)) ∧ (w'.heap[gb174]? = some (.cells #[.string a0_0, .int .i64 a0_1, .int .i64 a0_2, .int .i64 a0_3, .int .i64 a0_4, .int .i64 a0_5, .int .i64 a0_6, .int .i64 a0_7, .slice A0_8 l0_8.length c0_8] 28 (0, 0))) ∧ (w'.heap[gb175]? = some (.cells #[.string a1_0, .int .i64 a1_1, .int .i64 a1_2, .int .i64 a1_3, .int .i64 a1_4, .int .i64 a1_5, .int .i64 a1_6, .int .i64 a1_7, .slice A1_8 l1_8.length c1_8] 28 (0, 0))) ∧ (w'.heap[s_]? = some (.cells #[.int .i64 0, .int .i64 0] 25 (0, 0))) ∧ (w.heap.size ≤ s_) ∧ (w.heap.size ≤ s_) ∧ (gb174 ≠ s_) ∧ (s_ ≠ gb174) ∧ (gb175 ≠ s_) ∧ (s_ ≠ gb175) ∧ (Below w.heap.size w w')) ?_ ?_
             rotate_left
             ·intro hJ2_7
              refine join_ (σ := Nat × Nat) 4 #[true, true, false, true, true, false, true, true, false, false] (fun s_ => [(6, .pointer (some ⟨s_.1, 0, none⟩)), (7, .pointer (some ⟨s_.2, 0, none⟩))]) (fun s_ w' => (w'.cell? ⟨gb174, 0, none⟩ = some (.string a0_0) ∧ w'.cell? ⟨gb174, 1, none⟩ = some (.int .i64 a0_1) ∧ w'.cell? ⟨gb174, 2, none⟩ = some (.int .i64 a0_2) ∧ w'.cell? ⟨gb174, 3, none⟩ = some (.int .i64 a0_3) ∧ w'.cell? ⟨gb174, 4, none⟩ = some (.int .i64 a0_4) ∧ w'.cell? ⟨gb174, 5, none⟩ = some (.int .i64 a0_5) ∧ w'.cell? ⟨gb174, 6, none⟩ = some (.int .i64 a0_6) ∧ w'.cell? ⟨gb174, 7, none⟩ = some (.int .i64 a0_7) ∧ w'.cell? ⟨gb174, 8, none⟩ = some (.slice A0_8 l0_8.length c0_8) ∧ w'.cell? ⟨gb175, 0, none⟩ = some (.string a1_0) ∧ w'.cell? ⟨gb175, 1, none⟩ = some (.int .i64 a1_1) ∧ w'.cell? ⟨gb175, 2, none⟩ = some (.int .i64 a1_2) ∧ w'.cell? ⟨gb175, 3, none⟩ = some (.int .i64 a1_3) ∧ w'.cell? ⟨gb175, 4, none⟩ = some (.int .i64 a1_4) ∧ w'.cell? ⟨gb175, 5, none⟩ = some (.int .i64 a1_5) ∧ w'.cell? ⟨gb175, 6, none⟩ = some (.int .i64 a1_6) ∧ w'.cell? ⟨gb175, 7, none⟩ = some (.int .i64 a1_7) ∧ w'.cell? ⟨gb175, 8, none⟩ = some (.slice A1_8 l1_8.length c1_8)) ∧ (w'.heap[gb174]? = some (.cells #[.string a0_0, .int .i64 a0_1, .int .i64 a0_2, .int .i64 a0_3, .int .i64 a0_4, .int .i64 a0_5, .int .i64 a0_6, .int .i64 a0_7, .slice A0_8 l0_8.length c0_8] 28 (0, 0))) ∧ (w'.heap[gb175]? = some (.cells #[.string a1_0, .int .i64 a1_1, .int .i64 a1_2, .int .i64 a1_3, .int .i64 a1_4, .int .i64 a1_5, .int .i64 a1_6, .int .i64 a1_7, .slice A1_8 l1_8.length c1_8] 28 (0, 0))) ∧ (w'.heap[s_.1]? = some (.cells #[.int .i64 0, .int .i64 0] 25 (0, 0))) ∧ (w'.heap[s_.2]? = some (.cells #[.int .i64 0, .int .i64 0] 25 (0, 0))) ∧ (w.heap.size ≤ s_.1) ∧ (w.heap.size ≤ s_.1) ∧ (gb174 ≠ s_.1) ∧ (s_.1 ≠ gb174) ∧ (gb175 ≠ s_.1) ∧ (s_.1 ≠ gb175) ∧ (s_.2 ≠ s_.1) ∧ (s_.1 ≠ s_.2) ∧ (w.heap.size ≤ s_.2) ∧ (w.heap.size ≤ s_.2) ∧ (gb174 ≠ s_.2) ∧ (s_.2 ≠ gb174) ∧ (gb175 ≠ s_.2) ∧ (s_.2 ≠ gb175) ∧ (Below w.heap.size w w')) ?_ ?_
              rotate_left
              ·intro hJ6_7
               refine join_ (σ := Unit) 5 #[true, true, true, true, true, false, false, false, false, false] (fun s_ => [(24, .agg #[.int .i64 t178, .int .i64 t179])]) (fun s_ w' => (w'.cell? ⟨gb174, 0, none⟩ = some (.string a0_0) ∧ w'.cell? ⟨gb174, 1, none⟩ = some (.int .i64 a0_1) ∧ w'.cell? ⟨gb174, 2, none⟩ = some (.int .i64 a0_2) ∧ w'.cell? ⟨gb174, 3, none⟩ = some (.int .i64 a0_3) ∧ w'.cell? ⟨gb174, 4, none⟩ = some (.int .i64 a0_4) ∧ w'.cell? ⟨gb174, 5, none⟩ = some (.int .i64 a0_5) ∧ w'.cell? ⟨gb174, 6, none⟩ = some (.int .i64 a0_6) ∧ w'.cell? ⟨gb174, 7, none⟩ = some (.int .i64 a0_7) ∧ w'.cell? ⟨gb174, 8, none⟩ = some (.slice A0_8 l0_8.length c0_8) ∧ w'.cell? ⟨gb175, 0, none⟩ = some (.string a1_0) ∧ w'.cell? ⟨gb175, 1, none⟩ = some (.int .i64 a1_1) ∧ w'.cell? ⟨gb175, 2, none⟩ = some (.int .i64 a1_2) ∧ w'.cell? ⟨gb175, 3, none⟩ = some (.int .i64 a1_3) ∧ w'.cell? ⟨gb175, 4, none⟩ = some (.int .i64 a1_4) ∧ w'.cell? ⟨gb175, 5, none⟩ = some (.int .i64 a1_5) ∧ w'.cell? ⟨gb175, 6, none⟩ = some (.int .i64 a1_6) ∧ w'.cell? ⟨gb175, 7, none⟩ = some (.int .i64 a1_7) ∧ w'.cell? ⟨gb175, 8, none⟩ = some (.slice A1_8 l1_8.length c1_8)) ∧ (w'.heap[gb174]? = some (.cells #[.string a0_0, .int .i64 a0_1, .int .i64 a0_2, .int .i64 a0_3, .int .i64 a0_4, .int .i64 a0_5, .int .i64 a0_6, .int .i64 a0_7, .slice A0_8 l0_8.length c0_8] 28 (0, 0))) ∧ (w'.heap[gb175]? = some (.cells #[.string a1_0, .int .i64 a1_1, .int .i64 a1_2, .int .i64 a1_3, .int .i64 a1_4, .int .i64 a1_5, .int .i64 a1_6, .int .i64 a1_7, .slice A1_8 l1_8.length c1_8] 28 (0, 0))) ∧ (Below w.heap.size w w')) ?_ ?_
               rotate_left
               ·intro hJ2
                refine join_ (σ := Nat) 5 #[true, true, false, true, true, false, true, false, false, false] (fun s_ => [(6, .pointer (some ⟨s_, 0, none⟩))]) (fun s_ w' => (w'.cell? ⟨gb174, 0, none⟩ = some (.string a0_0) ∧ w'.cell? ⟨gb174, 1, none⟩ = some (.int .i64 a0_1) ∧ w'.cell? ⟨gb174, 2, none⟩ = some (.int .i64 a0_2) ∧ w'.cell? ⟨gb174, 3, none⟩ = some (.int .i64 a0_3) ∧ w'.cell? ⟨gb174, 4, none⟩ = some (.int .i64 a0_4) ∧ w'.cell? ⟨gb174, 5, none⟩ = some (.int .i64 a0_5) ∧ w'.cell? ⟨gb174, 6, none⟩ = some (.int .i64 a0_6) ∧ w'.cell? ⟨gb174, 7, none⟩ = some (.int .i64 a0_7) ∧ w'.cell? ⟨gb174, 8, none⟩ = some (.slice A0_8 l0_8.length c0_8) ∧ w'.cell? ⟨gb175, 0, none⟩ = some (.string a1_0) ∧ w'.cell? ⟨gb175, 1, none⟩ = some (.int .i64 a1_1) ∧ w'.cell? ⟨gb175, 2, none⟩ = some (.int .i64 a1_2) ∧ w'.cell? ⟨gb175, 3, none⟩ = some (.int .i64 a1_3) ∧ w'.cell? ⟨gb175, 4, none⟩ = some (.int .i64 a1_4) ∧ w'.cell? ⟨gb175, 5, none⟩ = some (.int .i64 a1_5) ∧ w'.cell? ⟨gb175, 6, none⟩ = some (.int .i64 a1_6) ∧ w'.cell? ⟨gb175, 7, none⟩ = some (.int .i64 a1_7) ∧ w'.cell? ⟨gb175, 8, none⟩ = some (.slice A1_8 l1_8.length c1_8)) ∧ (w'.heap[gb174]? = some (.cells #[.string a0_0, .int .i64 a0_1, .int .i64 a0_2, .int .i64 a0_3, .int .i64 a0_4, .int .i64 a0_5, .int .i64 a0_6, .int .i64 a0_7, .slice A0_8 l0_8.length c0_8] 28 (0, 0))) ∧ (w'.heap[gb175]? = some (.cells #[.string a1_0, .int .i64 a1_1, .int .i64 a1_2, .int .i64 a1_3, .int .i64 a1_4, .int .i64 a1_5, .int .i64 a1_6, .int .i64 a1_7, .slice A1_8 l1_8.length c1_8] 28 (0, 0))) ∧ (w'.heap[s_]? = some (.cells #[.int .i64 0, .int .i64 0] 25 (0, 0))) ∧ (w.heap.size ≤ s_) ∧ (w.heap.size ≤ s_) ∧ (gb174 ≠ s_) ∧ (s_ ≠ gb174) ∧ (gb175 ≠ s_) ∧ (s_ ≠ gb175) ∧ (Below w.heap.size w w')) ?_ ?_
                rotate_left
                ·intro hJ6
                 refine join_ (σ := Nat) 5 #[true, true, false, true, true, false, false, true, false, false] (fun s_ => [(7, .pointer (some ⟨s_, 0, none⟩))]) (fun s_ w' => (w'.cell? ⟨gb174, 0, none⟩ = some (.string a0_0) ∧ w'.cell? ⟨gb174, 1, none⟩ = some (.int .i64 a0_1) ∧ w'.cell? ⟨gb174, 2, none⟩ = some (.int .i64 a0_2) ∧ w'.cell? ⟨gb174, 3, none⟩ = some (.int .i64 a0_3) ∧ w'.cell? ⟨gb174, 4, none⟩ = some (.int .i64 a0_4) ∧ w'.cell? ⟨gb174, 5, none⟩ = some (.int .i64 a0_5) ∧ w'.cell? ⟨gb174, 6, none⟩ = some (.int .i64 a0_6) ∧ w'.cell? ⟨gb174, 7, none⟩ = some (.int .i64 a0_7) ∧ w'.cell? ⟨gb174, 8, none⟩ = some (.slice A0_8 l0_8.length c0_8) ∧ w'.cell? ⟨gb175, 0, none⟩ = some (.string a1_0) ∧ w'.cell? ⟨gb175, 1, none⟩ = some (.int .i64 a1_1) ∧ w'.cell? ⟨gb175, 2, none⟩ = some (.int .i64 a1_2) ∧ w'.cell? ⟨gb175, 3, none⟩ = some (.int .i64 a1_3) ∧ w'.cell? ⟨gb175, 4, none⟩ = some (.int .i64 a1_4) ∧ w'.cell? ⟨gb175, 5, none⟩ = some (.int .i64 a1_5) ∧ w'.cell? ⟨gb175, 6, none⟩ = some (.int .i64 a1_6) ∧ w'.cell? ⟨gb175, 7, none⟩ = some (.int .i64 a1_7) ∧ w'.cell? ⟨gb175, 8, none⟩ = some (.slice A1_8 l1_8.length c1_8)) ∧ (w'.heap[gb174]? = some (.cells #[.string a0_0, .int .i64 a0_1, .int .i64 a0_2, .int .i64 a0_3, .int .i64 a0_4, .int .i64 a0_5, .int .i64 a0_6, .int .i64 a0_7, .slice A0_8 l0_8.length c0_8] 28 (0, 0))) ∧ (w'.heap[gb175]? = some (.cells #[.string a1_0, .int .i64 a1_1, .int .i64 a1_2, .int .i64 a1_3, .int .i64 a1_4, .int .i64 a1_5, .int .i64 a1_6, .int .i64 a1_7, .slice A1_8 l1_8.length c1_8] 28 (0, 0))) ∧ (w'.heap[s_]? = some (.cells #[.int .i64 0, .int .i64 0] 25 (0, 0))) ∧ (w.heap.size ≤ s_) ∧ (w.heap.size ≤ s_) ∧ (gb174 ≠ s_) ∧ (s_ ≠ gb174) ∧ (gb175 ≠ s_) ∧ (s_ ≠ gb175) ∧ (Below w.heap.size w w')) ?_ ?_
                 rotate_left
                 ·intro hJ7
                  refine three_ (i := 2) (j := 6) (k := 7) (Ni := some 24) (Nj := some 6) (Nk := some 7) #[true, true, true, true, true, false, false, false, false, false] #[true, true, false, true, true, false, true, false, false, false] #[true, true, false, true, true, false, false, true, false, false] rfl rfl rfl rfl rfl rfl (three_of HT_.out (by kernel_rfl)) (by decide) (by decide) (by decide) (fun K hK => ?_) (fun K hK => ?_) (fun K hK => ?_)
                  ·skip
                   refine goes_ Try.func74 (by kernel_rfl) rfl #[.agg #[.string a0_0, .int .i64 a0_1, .int .i64 a0_2, .int .i64 a0_3, .int .i64 a0_4, .int .i64 a0_5, .int .i64 a0_6, .int .i64 a0_7, .slice A0_8 l0_8.length c0_8], .int .i64 x5_1] (by rfl) rfl rfl (by (try simp only [List.map_toArray, List.map_cons, List.map_nil]); first | done | rfl | (simp only [List.length_drop, List.length_take]; rfl)) ?_
                   with_reducible refine (metrolabref18_Along.calls a0_0 a0_1 a0_2 a0_3 a0_4 a0_5 a0_6 a0_7 _ _ l0_8 x5_1 t178 t179 _ ?side1 ?side2 A19.out).mono ?_
                   (case side1 => repeat (first | exact (Kd.C_below HR0_8.out HB.out) | (with_reducible refine Kd.C_alloc ?_ _) | (with_reducible refine Kd.C_drewN ?_ _) | (with_reducible refine Kd.C_drew ?_)))
                   (case side2 => exact HC0_8.out)
                   rintro e w23 ⟨rfl, hb⟩
                   refine ⟨_, rfl, ?_⟩
                   have n0_ := zm (zb (g := gb174) (by (with_reducible repeat first | apply zd | apply ze | apply za); exact BK174.out) hb)
                   have n1_ := zm (zb (g := gb175) (by (with_reducible repeat first | apply zd | apply ze | apply za); exact BK175.out) hb)
                   have n2_ := zm (below_step (by repeat (first | (with_reducible first | exact HB.out | apply zA | apply zD | apply zE | refine zS ?_ GE174.out | refine zS ?_ GE175.out) | exact HB.out)) hb)
                   clear BK174 BK175 HB
                   have BK174 := n0_
                   have BK175 := n1_
                   have HB := n2_
                   clear n0_ n1_ n2_
                   (try clear hb)
                   (try clear hb2)
                   (try clear hk)
                   (try clear hi)
                   refine hK.out _ _ ⟨(blk_cell BK174.out 0).trans rfl, (blk_cell BK174.out 1).trans rfl, (blk_cell BK174.out 2).trans rfl, (blk_cell BK174.out 3).trans rfl, (blk_cell BK174.out 4).trans rfl, (blk_cell BK174.out 5).trans rfl, (blk_cell BK174.out 6).trans rfl, (blk_cell BK174.out 7).trans rfl, (blk_cell BK174.out 8).trans rfl, (blk_cell BK175.out 0).trans rfl, (blk_cell BK175.out 1).trans rfl, (blk_cell BK175.out 2).trans rfl, (blk_cell BK175.out 3).trans rfl, (blk_cell BK175.out 4).trans rfl, (blk_cell BK175.out 5).trans rfl, (blk_cell BK175.out 6).trans rfl, (blk_cell BK175.out 7).trans rfl, (blk_cell BK175.out 8).trans rfl⟩ (fun hHeld => ?_)
                   clear hK K
                   refine norm_ (a' := ?_) ?_ ?_
                   rotate_left
                   ·show Act.put _ (some 24) _ = _
                    simp only [Act.put, zx, zy, zz, i64_w, i32_w]
                    rfl
                   exact norm_ (by first | (simp only [putAll, Act.put, zx, zy, zz]; done) | (simp only [putAll, Act.put, zx, zy, zz]; rfl)) (hJ2 () _ ⟨hHeld, (by (with_reducible repeat first | apply zd | apply ze | apply za); exact BK174.out), (by (with_reducible repeat first | apply zd | apply ze | apply za); exact BK175.out), (by repeat (first | (with_reducible first | exact HB.out | apply zA | apply zD | apply zE | refine zS ?_ GE174.out | refine zS ?_ GE175.out) | exact HB.out))⟩)
                  ·skip
                   refine box_step ?hg (N := 6) ?hd (cs := #[.int .i64 0, .int .i64 0]) (t := 25) ?hr ?_; (case hd => rfl); (case hg => rfl); (case hr => first | (go_simp; done) | (go_simp; rfl))
                   intro gb182 hg w23 hbox hb
                   have n0_ := zm (zb (g := gb174) (by (with_reducible repeat first | apply zd | apply ze | apply za); exact BK174.out) hb)
                   have n1_ := zm (zb (g := gb175) (by (with_reducible repeat first | apply zd | apply ze | apply za); exact BK175.out) hb)
                   have n2_ := zm (below_step (by repeat (first | (with_reducible first | exact HB.out | apply zA | apply zD | apply zE | refine zS ?_ GE174.out | refine zS ?_ GE175.out) | exact HB.out)) hb)
                   have n3_ := zm (hbox)
                   have n4_ := zm ((by rw [hg]; exact (below_size (by repeat (first | (with_reducible first | exact HB.out | apply zA | apply zD | apply zE | refine zS ?_ GE174.out | refine zS ?_ GE175.out) | exact HB.out))) : w.heap.size ≤ gb182))
                   have n5_ := zm ((by rw [hg]; exact (below_size (by repeat (first | (with_reducible first | exact HB.out | apply zA | apply zD | apply zE | refine zS ?_ GE174.out | refine zS ?_ GE175.out) | exact HB.out))) : w.heap.size ≤ gb182))
                   have n6_ := zm ((by rw [hg]; exact Nat.ne_of_lt (blk_lt (g := gb174) (by (with_reducible repeat first | apply zd | apply ze | apply za); exact BK174.out)) : gb174 ≠ gb182))
                   have n7_ := zm ((by rw [hg]; exact Nat.ne_of_gt (blk_lt (g := gb174) (by (with_reducible repeat first | apply zd | apply ze | apply za); exact BK174.out)) : gb182 ≠ gb174))
                   have n8_ := zm ((by rw [hg]; exact Nat.ne_of_lt (blk_lt (g := gb175) (by (with_reducible repeat first | apply zd | apply ze | apply za); exact BK175.out)) : gb175 ≠ gb182))
                   have n9_ := zm ((by rw [hg]; exact Nat.ne_of_gt (blk_lt (g := gb175) (by (with_reducible repeat first | apply zd | apply ze | apply za); exact BK175.out)) : gb182 ≠ gb175))
                   clear BK174 BK175 HB
                   have BK174 := n0_
                   have BK175 := n1_
                   have HB := n2_
                   have BK182 := n3_
                   have GW182 := n4_
                   have GE182 := n5_
                   have NB174_182 := n6_
                   have NB182_174 := n7_
                   have NB175_182 := n8_
                   have NB182_175 := n9_
                   clear n0_ n1_ n2_ n3_ n4_ n5_ n6_ n7_ n8_ n9_ hb hbox hg
                   refine hK.out _ _ ⟨(blk_cell BK174.out 0).trans rfl, (blk_cell BK174.out 1).trans rfl, (blk_cell BK174.out 2).trans rfl, (blk_cell BK174.out 3).trans rfl, (blk_cell BK174.out 4).trans rfl, (blk_cell BK174.out 5).trans rfl, (blk_cell BK174.out 6).trans rfl, (blk_cell BK174.out 7).trans rfl, (blk_cell BK174.out 8).trans rfl, (blk_cell BK175.out 0).trans rfl, (blk_cell BK175.out 1).trans rfl, (blk_cell BK175.out 2).trans rfl, (blk_cell BK175.out 3).trans rfl, (blk_cell BK175.out 4).trans rfl, (blk_cell BK175.out 5).trans rfl, (blk_cell BK175.out 6).trans rfl, (blk_cell BK175.out 7).trans rfl, (blk_cell BK175.out 8).trans rfl⟩ (fun hHeld => ?_)
                   clear hK K
                   refine norm_ (a' := ?_) ?_ ?_
                   rotate_left
                   ·show Act.put _ (some 6) _ = _
                    simp only [Act.put, zx, zy, zz, i64_w, i32_w]
                    rfl
                   exact norm_ (by first | (simp only [putAll, Act.put, zx, zy, zz]; done) | (simp only [putAll, Act.put, zx, zy, zz]; rfl)) (hJ6 (gb182) _ ⟨hHeld, (by (with_reducible repeat first | apply zd | apply ze | apply za); exact BK174.out), (by (with_reducible repeat first | apply zd | apply ze | apply za); exact BK175.out), (by (with_reducible repeat first | apply zd | apply ze | apply za); exact BK182.out), GW182.out, GE182.out, NB174_182.out, NB182_174.out, NB175_182.out, NB182_175.out, (by repeat (first | (with_reducible first | exact HB.out | apply zA | apply zD | apply zE | refine zS ?_ GE174.out | refine zS ?_ GE175.out | refine zS ?_ GE182.out) | exact HB.out))⟩)
                  ·skip
                   refine box_step ?hg (N := 7) ?hd (cs := #[.int .i64 0, .int .i64 0]) (t := 25) ?hr ?_; (case hd => rfl); (case hg => rfl); (case hr => first | (go_simp; done) | (go_simp; rfl))
                   intro gb183 hg w23 hbox hb
                   have n0_ := zm (zb (g := gb174) (by (with_reducible repeat first | apply zd | apply ze | apply za); exact BK174.out) hb)
                   have n1_ := zm (zb (g := gb175) (by (with_reducible repeat first | apply zd | apply ze | apply za); exact BK175.out) hb)
                   have n2_ := zm (below_step (by repeat (first | (with_reducible first | exact HB.out | apply zA | apply zD | apply zE | refine zS ?_ GE174.out | refine zS ?_ GE175.out) | exact HB.out)) hb)
                   have n3_ := zm (hbox)
                   have n4_ := zm ((by rw [hg]; exact (below_size (by repeat (first | (with_reducible first | exact HB.out | apply zA | apply zD | apply zE | refine zS ?_ GE174.out | refine zS ?_ GE175.out) | exact HB.out))) : w.heap.size ≤ gb183))
                   have n5_ := zm ((by rw [hg]; exact (below_size (by repeat (first | (with_reducible first | exact HB.out | apply zA | apply zD | apply zE | refine zS ?_ GE174.out | refine zS ?_ GE175.out) | exact HB.out))) : w.heap.size ≤ gb183))
                   have n6_ := zm ((by rw [hg]; exact Nat.ne_of_lt (blk_lt (g := gb174) (by (with_reducible repeat first | apply zd | apply ze | apply za); exact BK174.out)) : gb174 ≠ gb183))
                   have n7_ := zm ((by rw [hg]; exact Nat.ne_of_gt (blk_lt (g := gb174) (by (with_reducible repeat first | apply zd | apply ze | apply za); exact BK174.out)) : gb183 ≠ gb174))
                   have n8_ := zm ((by rw [hg]; exact Nat.ne_of_lt (blk_lt (g := gb175) (by (with_reducible repeat first | apply zd | apply ze | apply za); exact BK175.out)) : gb175 ≠ gb183))
                   have n9_ := zm ((by rw [hg]; exact Nat.ne_of_gt (blk_lt (g := gb175) (by (with_reducible repeat first | apply zd | apply ze | apply za); exact BK175.out)) : gb183 ≠ gb175))
                   clear BK174 BK175 HB
                   have BK174 := n0_
                   have BK175 := n1_
                   have HB := n2_
                   have BK183 := n3_
                   have GW183 := n4_
                   have GE183 := n5_
                   have NB174_183 := n6_
                   have NB183_174 := n7_
                   have NB175_183 := n8_
                   have NB183_175 := n9_
                   clear n0_ n1_ n2_ n3_ n4_ n5_ n6_ n7_ n8_ n9_ hb hbox hg
                   refine hK.out _ _ ⟨(blk_cell BK174.out 0).trans rfl, (blk_cell BK174.out 1).trans rfl, (blk_cell BK174.out 2).trans rfl, (blk_cell BK174.out 3).trans rfl, (blk_cell BK174.out 4).trans rfl, (blk_cell BK174.out 5).trans rfl, (blk_cell BK174.out 6).trans rfl, (blk_cell BK174.out 7).trans rfl, (blk_cell BK174.out 8).trans rfl, (blk_cell BK175.out 0).trans rfl, (blk_cell BK175.out 1).trans rfl, (blk_cell BK175.out 2).trans rfl, (blk_cell BK175.out 3).trans rfl, (blk_cell BK175.out 4).trans rfl, (blk_cell BK175.out 5).trans rfl, (blk_cell BK175.out 6).trans rfl, (blk_cell BK175.out 7).trans rfl, (blk_cell BK175.out 8).trans rfl⟩ (fun hHeld => ?_)
                   clear hK K
                   refine norm_ (a' := ?_) ?_ ?_
                   rotate_left
                   ·show Act.put _ (some 7) _ = _
                    simp only [Act.put, zx, zy, zz, i64_w, i32_w]
                    rfl
                   exact norm_ (by first | (simp only [putAll, Act.put, zx, zy, zz]; done) | (simp only [putAll, Act.put, zx, zy, zz]; rfl)) (hJ7 (gb183) _ ⟨hHeld, (by (with_reducible repeat first | apply zd | apply ze | apply za); exact BK174.out), (by (with_reducible repeat first | apply zd | apply ze | apply za); exact BK175.out), (by (with_reducible repeat first | apply zd | apply ze | apply za); exact BK183.out), GW183.out, GE183.out, NB174_183.out, NB183_174.out, NB175_183.out, NB183_175.out, (by repeat (first | (with_reducible first | exact HB.out | apply zA | apply zD | apply zE | refine zS ?_ GE174.out | refine zS ?_ GE175.out | refine zS ?_ GE183.out) | exact HB.out))⟩)
                 ·skip
                  rintro gb183 w24 ⟨hS_, h0_, h1_, h2_, h3_, h4_, h5_, h6_, h7_, h8_, h9_⟩
                  have n0_ : Aside0 (w24.heap[gb174]? = some (.cells #[.string a0_0, .int .i64 a0_1, .int .i64 a0_2, .int .i64 a0_3, .int .i64 a0_4, .int .i64 a0_5, .int .i64 a0_6, .int .i64 a0_7, .slice A0_8 l0_8.length c0_8] 28 (0, 0))) := ⟨h0_⟩
                  have n1_ : Aside0 (w24.heap[gb175]? = some (.cells #[.string a1_0, .int .i64 a1_1, .int .i64 a1_2, .int .i64 a1_3, .int .i64 a1_4, .int .i64 a1_5, .int .i64 a1_6, .int .i64 a1_7, .slice A1_8 l1_8.length c1_8] 28 (0, 0))) := ⟨h1_⟩
                  have n2_ : Aside0 (w24.heap[gb183]? = some (.cells #[.int .i64 0, .int .i64 0] 25 (0, 0))) := ⟨h2_⟩
                  have n3_ : Aside0 (w.heap.size ≤ gb183) := ⟨h3_⟩
                  have n4_ : Aside0 (w.heap.size ≤ gb183) := ⟨h4_⟩
                  have n5_ : Aside0 (gb174 ≠ gb183) := ⟨h5_⟩
                  have n6_ : Aside0 (gb183 ≠ gb174) := ⟨h6_⟩
                  have n7_ : Aside0 (gb175 ≠ gb183) := ⟨h7_⟩
                  have n8_ : Aside0 (gb183 ≠ gb175) := ⟨h8_⟩
                  have n9_ : Aside0 (Below w.heap.size w w24) := ⟨h9_⟩
                  clear BK174 BK175 HB h0_ h1_ h2_ h3_ h4_ h5_ h6_ h7_ h8_ h9_
                  have BK174 := n0_
                  have BK175 := n1_
                  have BK183 := n2_
                  have GW183 := n3_
                  have GE183 := n4_
                  have NB174_183 := n5_
                  have NB183_174 := n6_
                  have NB175_183 := n7_
                  have NB183_175 := n8_
                  have HB := n9_
                  clear n0_ n1_ n2_ n3_ n4_ n5_ n6_ n7_ n8_ n9_
                  have hHeld : w24.cell? ⟨gb174, 0, none⟩ = some (.string a0_0) ∧ w24.cell? ⟨gb174, 1, none⟩ = some (.int .i64 a0_1) ∧ w24.cell? ⟨gb174, 2, none⟩ = some (.int .i64 a0_2) ∧ w24.cell? ⟨gb174, 3, none⟩ = some (.int .i64 a0_3) ∧ w24.cell? ⟨gb174, 4, none⟩ = some (.int .i64 a0_4) ∧ w24.cell? ⟨gb174, 5, none⟩ = some (.int .i64 a0_5) ∧ w24.cell? ⟨gb174, 6, none⟩ = some (.int .i64 a0_6) ∧ w24.cell? ⟨gb174, 7, none⟩ = some (.int .i64 a0_7) ∧ w24.cell? ⟨gb174, 8, none⟩ = some (.slice A0_8 l0_8.length c0_8) ∧ w24.cell? ⟨gb175, 0, none⟩ = some (.string a1_0) ∧ w24.cell? ⟨gb175, 1, none⟩ = some (.int .i64 a1_1) ∧ w24.cell? ⟨gb175, 2, none⟩ = some (.int .i64 a1_2) ∧ w24.cell? ⟨gb175, 3, none⟩ = some (.int .i64 a1_3) ∧ w24.cell? ⟨gb175, 4, none⟩ = some (.int .i64 a1_4) ∧ w24.cell? ⟨gb175, 5, none⟩ = some (.int .i64 a1_5) ∧ w24.cell? ⟨gb175, 6, none⟩ = some (.int .i64 a1_6) ∧ w24.cell? ⟨gb175, 7, none⟩ = some (.int .i64 a1_7) ∧ w24.cell? ⟨gb175, 8, none⟩ = some (.slice A1_8 l1_8.length c1_8) := hS_
                  refine norm_ (a' := ?_) ?_ ?_
                  rotate_left
                  ·simp only [putAll, Act.put, zx, zy, zz]
                   rfl
                  refine two_ (i := 2) (j := 6) (Ni := some 24) (Nj := some 6) #[true, true, true, true, true, false, false, true, false, false] #[true, true, false, true, true, false, true, true, false, false] rfl rfl rfl rfl (two_of HT_.out (by kernel_rfl)) (by decide) (by decide) (fun K hK => ?_) (fun K hK => ?_)
                  ·skip
                   refine goes_ Try.func74 (by kernel_rfl) rfl #[.agg #[.string a0_0, .int .i64 a0_1, .int .i64 a0_2, .int .i64 a0_3, .int .i64 a0_4, .int .i64 a0_5, .int .i64 a0_6, .int .i64 a0_7, .slice A0_8 l0_8.length c0_8], .int .i64 x5_1] (by rfl) rfl rfl (by (try simp only [List.map_toArray, List.map_cons, List.map_nil]); first | done | rfl | (simp only [List.length_drop, List.length_take]; rfl)) ?_
                   with_reducible refine (metrolabref18_Along.calls a0_0 a0_1 a0_2 a0_3 a0_4 a0_5 a0_6 a0_7 _ _ l0_8 x5_1 t178 t179 _ ?side1 ?side2 A19.out).mono ?_
                   (case side1 => repeat (first | exact (Kd.C_below HR0_8.out HB.out) | (with_reducible refine Kd.C_alloc ?_ _) | (with_reducible refine Kd.C_drewN ?_ _) | (with_reducible refine Kd.C_drew ?_)))
                   (case side2 => exact HC0_8.out)
                   rintro e w25 ⟨rfl, hb⟩
                   refine ⟨_, rfl, ?_⟩
                   have n0_ := zm (zb (g := gb174) (by (with_reducible repeat first | apply zd | apply ze | apply za); exact BK174.out) hb)
                   have n1_ := zm (zb (g := gb175) (by (with_reducible repeat first | apply zd | apply ze | apply za); exact BK175.out) hb)
                   have n2_ := zm (zb (g := gb183) (by (with_reducible repeat first | apply zd | apply ze | apply za); exact BK183.out) hb)
                   have n3_ := zm (below_step (by repeat (first | (with_reducible first | exact HB.out | apply zA | apply zD | apply zE | refine zS ?_ GE174.out | refine zS ?_ GE175.out | refine zS ?_ GE183.out) | exact HB.out)) hb)
                   clear BK174 BK175 BK183 HB
                   have BK174 := n0_
                   have BK175 := n1_
                   have BK183 := n2_
                   have HB := n3_
                   clear n0_ n1_ n2_ n3_
                   (try clear hb)
                   (try clear hb2)
                   (try clear hk)
                   (try clear hi)
                   refine hK.out _ _ ⟨(blk_cell BK174.out 0).trans rfl, (blk_cell BK174.out 1).trans rfl, (blk_cell BK174.out 2).trans rfl, (blk_cell BK174.out 3).trans rfl, (blk_cell BK174.out 4).trans rfl, (blk_cell BK174.out 5).trans rfl, (blk_cell BK174.out 6).trans rfl, (blk_cell BK174.out 7).trans rfl, (blk_cell BK174.out 8).trans rfl, (blk_cell BK175.out 0).trans rfl, (blk_cell BK175.out 1).trans rfl, (blk_cell BK175.out 2).trans rfl, (blk_cell BK175.out 3).trans rfl, (blk_cell BK175.out 4).trans rfl, (blk_cell BK175.out 5).trans rfl, (blk_cell BK175.out 6).trans rfl, (blk_cell BK175.out 7).trans rfl, (blk_cell BK175.out 8).trans rfl⟩ (fun hHeld => ?_)
                   clear hK K
                   refine norm_ (a' := ?_) ?_ ?_
                   rotate_left
                   ·show Act.put _ (some 24) _ = _
                    simp only [Act.put, zx, zy, zz, i64_w, i32_w]
                    rfl
                   exact norm_ (by first | (simp only [putAll, Act.put, zx, zy, zz]; done) | (simp only [putAll, Act.put, zx, zy, zz]; rfl)) (hJ2_7 (gb183) _ ⟨hHeld, (by (with_reducible repeat first | apply zd | apply ze | apply za); exact BK174.out), (by (with_reducible repeat first | apply zd | apply ze | apply za); exact BK175.out), (by (with_reducible repeat first | apply zd | apply ze | apply za); exact BK183.out), GW183.out, GE183.out, NB174_183.out, NB183_174.out, NB175_183.out, NB183_175.out, (by repeat (first | (with_reducible first | exact HB.out | apply zA | apply zD | apply zE | refine zS ?_ GE174.out | refine zS ?_ GE175.out | refine zS ?_ GE183.out) | exact HB.out))⟩)
                  ·skip
                   refine box_step ?hg (N := 6) ?hd (cs := #[.int .i64 0, .int .i64 0]) (t := 25) ?hr ?_; (case hd => rfl); (case hg => rfl); (case hr => first | (go_simp; done) | (go_simp; rfl))
                   intro gb182 hg w25 hbox hb
                   have n0_ := zm (zb (g := gb174) (by (with_reducible repeat first | apply zd | apply ze | apply za); exact BK174.out) hb)
                   have n1_ := zm (zb (g := gb175) (by (with_reducible repeat first | apply zd | apply ze | apply za); exact BK175.out) hb)
                   have n2_ := zm (zb (g := gb183) (by (with_reducible repeat first | apply zd | apply ze | apply za); exact BK183.out) hb)
                   have n3_ := zm (below_step (by repeat (first | (with_reducible first | exact HB.out | apply zA | apply zD | apply zE | refine zS ?_ GE174.out | refine zS ?_ GE175.out | refine zS ?_ GE183.out) | exact HB.out)) hb)
                   have n4_ := zm (hbox)
                   have n5_ := zm ((by rw [hg]; exact (below_size (by repeat (first | (with_reducible first | exact HB.out | apply zA | apply zD | apply zE | refine zS ?_ GE174.out | refine zS ?_ GE175.out | refine zS ?_ GE183.out) | exact HB.out))) : w.heap.size ≤ gb182))
                   have n6_ := zm ((by rw [hg]; exact (below_size (by repeat (first | (with_reducible first | exact HB.out | apply zA | apply zD | apply zE | refine zS ?_ GE174.out | refine zS ?_ GE175.out | refine zS ?_ GE183.out) | exact HB.out))) : w.heap.size ≤ gb182))
                   have n7_ := zm ((by rw [hg]; exact Nat.ne_of_lt (blk_lt (g := gb174) (by (with_reducible repeat first | apply zd | apply ze | apply za); exact BK174.out)) : gb174 ≠ gb182))
                   have n8_ := zm ((by rw [hg]; exact Nat.ne_of_gt (blk_lt (g := gb174) (by (with_reducible repeat first | apply zd | apply ze | apply za); exact BK174.out)) : gb182 ≠ gb174))
                   have n9_ := zm ((by rw [hg]; exact Nat.ne_of_lt (blk_lt (g := gb175) (by (with_reducible repeat first | apply zd | apply ze | apply za); exact BK175.out)) : gb175 ≠ gb182))
                   have n10_ := zm ((by rw [hg]; exact Nat.ne_of_gt (blk_lt (g := gb175) (by (with_reducible repeat first | apply zd | apply ze | apply za); exact BK175.out)) : gb182 ≠ gb175))
                   have n11_ := zm ((by rw [hg]; exact Nat.ne_of_lt (blk_lt (g := gb183) (by (with_reducible repeat first | apply zd | apply ze | apply za); exact BK183.out)) : gb183 ≠ gb182))
                   have n12_ := zm ((by rw [hg]; exact Nat.ne_of_gt (blk_lt (g := gb183) (by (with_reducible repeat first | apply zd | apply ze | apply za); exact BK183.out)) : gb182 ≠ gb183))
                   clear BK174 BK175 BK183 HB
                   have BK174 := n0_
                   have BK175 := n1_
                   have BK183 := n2_
                   have HB := n3_
                   have BK182 := n4_
                   have GW182 := n5_
                   have GE182 := n6_
                   have NB174_182 := n7_
                   have NB182_174 := n8_
                   have NB175_182 := n9_
                   have NB182_175 := n10_
                   have NB183_182 := n11_
                   have NB182_183 := n12_
                   clear n0_ n1_ n2_ n3_ n4_ n5_ n6_ n7_ n8_ n9_ n10_ n11_ n12_ hb hbox hg
                   refine hK.out _ _ ⟨(blk_cell BK174.out 0).trans rfl, (blk_cell BK174.out 1).trans rfl, (blk_cell BK174.out 2).trans rfl, (blk_cell BK174.out 3).trans rfl, (blk_cell BK174.out 4).trans rfl, (blk_cell BK174.out 5).trans rfl, (blk_cell BK174.out 6).trans rfl, (blk_cell BK174.out 7).trans rfl, (blk_cell BK174.out 8).trans rfl, (blk_cell BK175.out 0).trans rfl, (blk_cell BK175.out 1).trans rfl, (blk_cell BK175.out 2).trans rfl, (blk_cell BK175.out 3).trans rfl, (blk_cell BK175.out 4).trans rfl, (blk_cell BK175.out 5).trans rfl, (blk_cell BK175.out 6).trans rfl, (blk_cell BK175.out 7).trans rfl, (blk_cell BK175.out 8).trans rfl⟩ (fun hHeld => ?_)
                   clear hK K
                   refine norm_ (a' := ?_) ?_ ?_
                   rotate_left
                   ·show Act.put _ (some 6) _ = _
                    simp only [Act.put, zx, zy, zz, i64_w, i32_w]
                    rfl
                   exact norm_ (by first | (simp only [putAll, Act.put, zx, zy, zz]; done) | (simp only [putAll, Act.put, zx, zy, zz]; rfl)) (hJ6_7 (gb182, gb183) _ ⟨hHeld, (by (with_reducible repeat first | apply zd | apply ze | apply za); exact BK174.out), (by (with_reducible repeat first | apply zd | apply ze | apply za); exact BK175.out), (by (with_reducible repeat first | apply zd | apply ze | apply za); exact BK182.out), (by (with_reducible repeat first | apply zd | apply ze | apply za); exact BK183.out), GW182.out, GE182.out, NB174_182.out, NB182_174.out, NB175_182.out, NB182_175.out, NB183_182.out, NB182_183.out, GW183.out, GE183.out, NB174_183.out, NB183_174.out, NB175_183.out, NB183_175.out, (by repeat (first | (with_reducible first | exact HB.out | apply zA | apply zD | apply zE | refine zS ?_ GE174.out | refine zS ?_ GE175.out | refine zS ?_ GE183.out | refine zS ?_ GE182.out) | exact HB.out))⟩)
                ·skip
                 rintro gb182 w24 ⟨hS_, h0_, h1_, h2_, h3_, h4_, h5_, h6_, h7_, h8_, h9_⟩
                 have n0_ : Aside0 (w24.heap[gb174]? = some (.cells #[.string a0_0, .int .i64 a0_1, .int .i64 a0_2, .int .i64 a0_3, .int .i64 a0_4, .int .i64 a0_5, .int .i64 a0_6, .int .i64 a0_7, .slice A0_8 l0_8.length c0_8] 28 (0, 0))) := ⟨h0_⟩
                 have n1_ : Aside0 (w24.heap[gb175]? = some (.cells #[.string a1_0, .int .i64 a1_1, .int .i64 a1_2, .int .i64 a1_3, .int .i64 a1_4, .int .i64 a1_5, .int .i64 a1_6, .int .i64 a1_7, .slice A1_8 l1_8.length c1_8] 28 (0, 0))) := ⟨h1_⟩
                 have n2_ : Aside0 (w24.heap[gb182]? = some (.cells #[.int .i64 0, .int .i64 0] 25 (0, 0))) := ⟨h2_⟩
                 have n3_ : Aside0 (w.heap.size ≤ gb182) := ⟨h3_⟩
                 have n4_ : Aside0 (w.heap.size ≤ gb182) := ⟨h4_⟩
                 have n5_ : Aside0 (gb174 ≠ gb182) := ⟨h5_⟩
                 have n6_ : Aside0 (gb182 ≠ gb174) := ⟨h6_⟩
                 have n7_ : Aside0 (gb175 ≠ gb182) := ⟨h7_⟩
                 have n8_ : Aside0 (gb182 ≠ gb175) := ⟨h8_⟩
                 have n9_ : Aside0 (Below w.heap.size w w24) := ⟨h9_⟩
                 clear BK174 BK175 HB h0_ h1_ h2_ h3_ h4_ h5_ h6_ h7_ h8_ h9_
                 have BK174 := n0_
                 have BK175 := n1_
                 have BK182 := n2_
                 have GW182 := n3_
                 have GE182 := n4_
                 have NB174_182 := n5_
                 have NB182_174 := n6_
                 have NB175_182 := n7_
                 have NB182_175 := n8_
                 have HB := n9_
                 clear n0_ n1_ n2_ n3_ n4_ n5_ n6_ n7_ n8_ n9_
                 have hHeld : w24.cell? ⟨gb174, 0, none⟩ = some (.string a0_0) ∧ w24.cell? ⟨gb174, 1, none⟩ = some (.int .i64 a0_1) ∧ w24.cell? ⟨gb174, 2, none⟩ = some (.int .i64 a0_2) ∧ w24.cell? ⟨gb174, 3, none⟩ = some (.int .i64 a0_3) ∧ w24.cell? ⟨gb174, 4, none⟩ = some (.int .i64 a0_4) ∧ w24.cell? ⟨gb174, 5, none⟩ = some (.int .i64 a0_5) ∧ w24.cell? ⟨gb174, 6, none⟩ = some (.int .i64 a0_6) ∧ w24.cell? ⟨gb174, 7, none⟩ = some (.int .i64 a0_7) ∧ w24.cell? ⟨gb174, 8, none⟩ = some (.slice A0_8 l0_8.length c0_8) ∧ w24.cell? ⟨gb175, 0, none⟩ = some (.string a1_0) ∧ w24.cell? ⟨gb175, 1, none⟩ = some (.int .i64 a1_1) ∧ w24.cell? ⟨gb175, 2, none⟩ = some (.int .i64 a1_2) ∧ w24.cell? ⟨gb175, 3, none⟩ = some (.int .i64 a1_3) ∧ w24.cell? ⟨gb175, 4, none⟩ = some (.int .i64 a1_4) ∧ w24.cell? ⟨gb175, 5, none⟩ = some (.int .i64 a1_5) ∧ w24.cell? ⟨gb175, 6, none⟩ = some (.int .i64 a1_6) ∧ w24.cell? ⟨gb175, 7, none⟩ = some (.int .i64 a1_7) ∧ w24.cell? ⟨gb175, 8, none⟩ = some (.slice A1_8 l1_8.length c1_8) := hS_
                 refine norm_ (a' := ?_) ?_ ?_
                 rotate_left
                 ·simp only [putAll, Act.put, zx, zy, zz]
                  rfl
                 refine two_ (i := 2) (j := 7) (Ni := some 24) (Nj := some 7) #[true, true, true, true, true, false, true, false, false, false] #[true, true, false, true, true, false, true, true, false, false] rfl rfl rfl rfl (two_of HT_.out (by kernel_rfl)) (by decide) (by decide) (fun K hK => ?_) (fun K hK => ?_)
                 ·skip
                  refine goes_ Try.func74 (by kernel_rfl) rfl #[.agg #[.string a0_0, .int .i64 a0_1, .int .i64 a0_2, .int .i64 a0_3, .int .i64 a0_4, .int .i64 a0_5, .int .i64 a0_6, .int .i64 a0_7, .slice A0_8 l0_8.length c0_8], .int .i64 x5_1] (by rfl) rfl rfl (by (try simp only [List.map_toArray, List.map_cons, List.map_nil]); first | done | rfl | (simp only [List.length_drop, List.length_take]; rfl)) ?_
                  with_reducible refine (metrolabref18_Along.calls a0_0 a0_1 a0_2 a0_3 a0_4 a0_5 a0_6 a0_7 _ _ l0_8 x5_1 t178 t179 _ ?side1 ?side2 A19.out).mono ?_
                  (case side1 => repeat (first | exact (Kd.C_below HR0_8.out HB.out) | (with_reducible refine Kd.C_alloc ?_ _) | (with_reducible refine Kd.C_drewN ?_ _) | (with_reducible refine Kd.C_drew ?_)))
                  (case side2 => exact HC0_8.out)
                  rintro e w25 ⟨rfl, hb⟩
                  refine ⟨_, rfl, ?_⟩
                  have n0_ := zm (zb (g := gb174) (by (with_reducible repeat first | apply zd | apply ze | apply za); exact BK174.out) hb)
                  have n1_ := zm (zb (g := gb175) (by (with_reducible repeat first | apply zd | apply ze | apply za); exact BK175.out) hb)
                  have n2_ := zm (zb (g := gb182) (by (with_reducible repeat first | apply zd | apply ze | apply za); exact BK182.out) hb)
                  have n3_ := zm (below_step (by repeat (first | (with_reducible first | exact HB.out | apply zA | apply zD | apply zE | refine zS ?_ GE174.out | refine zS ?_ GE175.out | refine zS ?_ GE182.out) | exact HB.out)) hb)
                  clear BK174 BK175 BK182 HB
                  have BK174 := n0_
                  have BK175 := n1_
                  have BK182 := n2_
                  have HB := n3_
                  clear n0_ n1_ n2_ n3_
                  (try clear hb)
                  (try clear hb2)
                  (try clear hk)
                  (try clear hi)
                  refine hK.out _ _ ⟨(blk_cell BK174.out 0).trans rfl, (blk_cell BK174.out 1).trans rfl, (blk_cell BK174.out 2).trans rfl, (blk_cell BK174.out 3).trans rfl, (blk_cell BK174.out 4).trans rfl, (blk_cell BK174.out 5).trans rfl, (blk_cell BK174.out 6).trans rfl, (blk_cell BK174.out 7).trans rfl, (blk_cell BK174.out 8).trans rfl, (blk_cell BK175.out 0).trans rfl, (blk_cell BK175.out 1).trans rfl, (blk_cell BK175.out 2).trans rfl, (blk_cell BK175.out 3).trans rfl, (blk_cell BK175.out 4).trans rfl, (blk_cell BK175.out 5).trans rfl, (blk_cell BK175.out 6).trans rfl, (blk_cell BK175.out 7).trans rfl, (blk_cell BK175.out 8).trans rfl⟩ (fun hHeld => ?_)
                  clear hK K
                  refine norm_ (a' := ?_) ?_ ?_
                  rotate_left
                  ·show Act.put _ (some 24) _ = _
                   simp only [Act.put, zx, zy, zz, i64_w, i32_w]
                   rfl
                  exact norm_ (by first | (simp only [putAll, Act.put, zx, zy, zz]; done) | (simp only [putAll, Act.put, zx, zy, zz]; rfl)) (hJ2_6 (gb182) _ ⟨hHeld, (by (with_reducible repeat first | apply zd | apply ze | apply za); exact BK174.out), (by (with_reducible repeat first | apply zd | apply ze | apply za); exact BK175.out), (by (with_reducible repeat first | apply zd | apply ze | apply za); exact BK182.out), GW182.out, GE182.out, NB174_182.out, NB182_174.out, NB175_182.out, NB182_175.out, (by repeat (first | (with_reducible first | exact HB.out | apply zA | apply zD | apply zE | refine zS ?_ GE174.out | refine zS ?_ GE175.out | refine zS ?_ GE182.out) | exact HB.out))⟩)
                 ·skip
                  refine box_step ?hg (N := 7) ?hd (cs := #[.int .i64 0, .int .i64 0]) (t := 25) ?hr ?_; (case hd => rfl); (case hg => rfl); (case hr => first | (go_simp; done) | (go_simp; rfl))
                  intro gb183 hg w25 hbox hb
                  have n0_ := zm (zb (g := gb174) (by (with_reducible repeat first | apply zd | apply ze | apply za); exact BK174.out) hb)
                  have n1_ := zm (zb (g := gb175) (by (with_reducible repeat first | apply zd | apply ze | apply za); exact BK175.out) hb)
                  have n2_ := zm (zb (g := gb182) (by (with_reducible repeat first | apply zd | apply ze | apply za); exact BK182.out) hb)
                  have n3_ := zm (below_step (by repeat (first | (with_reducible first | exact HB.out | apply zA | apply zD | apply zE | refine zS ?_ GE174.out | refine zS ?_ GE175.out | refine zS ?_ GE182.out) | exact HB.out)) hb)
                  have n4_ := zm (hbox)
                  have n5_ := zm ((by rw [hg]; exact (below_size (by repeat (first | (with_reducible first | exact HB.out | apply zA | apply zD | apply zE | refine zS ?_ GE174.out | refine zS ?_ GE175.out | refine zS ?_ GE182.out) | exact HB.out))) : w.heap.size ≤ gb183))
                  have n6_ := zm ((by rw [hg]; exact (below_size (by repeat (first | (with_reducible first | exact HB.out | apply zA | apply zD | apply zE | refine zS ?_ GE174.out | refine zS ?_ GE175.out | refine zS ?_ GE182.out) | exact HB.out))) : w.heap.size ≤ gb183))
                  have n7_ := zm ((by rw [hg]; exact Nat.ne_of_lt (blk_lt (g := gb174) (by (with_reducible repeat first | apply zd | apply ze | apply za); exact BK174.out)) : gb174 ≠ gb183))
                  have n8_ := zm ((by rw [hg]; exact Nat.ne_of_gt (blk_lt (g := gb174) (by (with_reducible repeat first | apply zd | apply ze | apply za); exact BK174.out)) : gb183 ≠ gb174))
                  have n9_ := zm ((by rw [hg]; exact Nat.ne_of_lt (blk_lt (g := gb175) (by (with_reducible repeat first | apply zd | apply ze | apply za); exact BK175.out)) : gb175 ≠ gb183))
                  have n10_ := zm ((by rw [hg]; exact Nat.ne_of_gt (blk_lt (g := gb175) (by (with_reducible repeat first | apply zd | apply ze | apply za); exact BK175.out)) : gb183 ≠ gb175))
                  have n11_ := zm ((by rw [hg]; exact Nat.ne_of_lt (blk_lt (g := gb182) (by (with_reducible repeat first | apply zd | apply ze | apply za); exact BK182.out)) : gb182 ≠ gb183))
                  have n12_ := zm ((by rw [hg]; exact Nat.ne_of_gt (blk_lt (g := gb182) (by (with_reducible repeat first | apply zd | apply ze | apply za); exact BK182.out)) : gb183 ≠ gb182))
                  clear BK174 BK175 BK182 HB
                  have BK174 := n0_
                  have BK175 := n1_
                  have BK182 := n2_
                  have HB := n3_
                  have BK183 := n4_
                  have GW183 := n5_
                  have GE183 := n6_
                  have NB174_183 := n7_
                  have NB183_174 := n8_
                  have NB175_183 := n9_
                  have NB183_175 := n10_
                  have NB182_183 := n11_
                  have NB183_182 := n12_
                  clear n0_ n1_ n2_ n3_ n4_ n5_ n6_ n7_ n8_ n9_ n10_ n11_ n12_ hb hbox hg
                  refine hK.out _ _ ⟨(blk_cell BK174.out 0).trans rfl, (blk_cell BK174.out 1).trans rfl, (blk_cell BK174.out 2).trans rfl, (blk_cell BK174.out 3).trans rfl, (blk_cell BK174.out 4).trans rfl, (blk_cell BK174.out 5).trans rfl, (blk_cell BK174.out 6).trans rfl, (blk_cell BK174.out 7).trans rfl, (blk_cell BK174.out 8).trans rfl, (blk_cell BK175.out 0).trans rfl, (blk_cell BK175.out 1).trans rfl, (blk_cell BK175.out 2).trans rfl, (blk_cell BK175.out 3).trans rfl, (blk_cell BK175.out 4).trans rfl, (blk_cell BK175.out 5).trans rfl, (blk_cell BK175.out 6).trans rfl, (blk_cell BK175.out 7).trans rfl, (blk_cell BK175.out 8).trans rfl⟩ (fun hHeld => ?_)
                  clear hK K
                  refine norm_ (a' := ?_) ?_ ?_
                  rotate_left
                  ·show Act.put _ (some 7) _ = _
                   simp only [Act.put, zx, zy, zz, i64_w, i32_w]
                   rfl
                  exact norm_ (by first | (simp only [putAll, Act.put, zx, zy, zz]; done) | (simp only [putAll, Act.put, zx, zy, zz]; rfl)) (hJ6_7 (gb182, gb183) _ ⟨hHeld, (by (with_reducible repeat first | apply zd | apply ze | apply za); exact BK174.out), (by (with_reducible repeat first | apply zd | apply ze | apply za); exact BK175.out), (by (with_reducible repeat first | apply zd | apply ze | apply za); exact BK182.out), (by (with_reducible repeat first | apply zd | apply ze | apply za); exact BK183.out), GW182.out, GE182.out, NB174_182.out, NB182_174.out, NB175_182.out, NB182_175.out, NB183_182.out, NB182_183.out, GW183.out, GE183.out, NB174_183.out, NB183_174.out, NB175_183.out, NB183_175.out, (by repeat (first | (with_reducible first | exact HB.out | apply zA | apply zD | apply zE | refine zS ?_ GE174.out | refine zS ?_ GE175.out | refine zS ?_ GE182.out | refine zS ?_ GE183.out) | exact HB.out))⟩)
               ·skip
                rintro _ w24 ⟨hS_, h0_, h1_, h2_⟩
                have n0_ : Aside0 (w24.heap[gb174]? = some (.cells #[.string a0_0, .int .i64 a0_1, .int .i64 a0_2, .int .i64 a0_3, .int .i64 a0_4, .int .i64 a0_5, .int .i64 a0_6, .int .i64 a0_7, .slice A0_8 l0_8.length c0_8] 28 (0, 0))) := ⟨h0_⟩
                have n1_ : Aside0 (w24.heap[gb175]? = some (.cells #[.string a1_0, .int .i64 a1_1, .int .i64 a1_2, .int .i64 a1_3, .int .i64 a1_4, .int .i64 a1_5, .int .i64 a1_6, .int .i64 a1_7, .slice A1_8 l1_8.length c1_8] 28 (0, 0))) := ⟨h1_⟩
                have n2_ : Aside0 (Below w.heap.size w w24) := ⟨h2_⟩
                clear BK174 BK175 HB h0_ h1_ h2_
                have BK174 := n0_
                have BK175 := n1_
                have HB := n2_
                clear n0_ n1_ n2_
                have hHeld : w24.cell? ⟨gb174, 0, none⟩ = some (.string a0_0) ∧ w24.cell? ⟨gb174, 1, none⟩ = some (.int .i64 a0_1) ∧ w24.cell? ⟨gb174, 2, none⟩ = some (.int .i64 a0_2) ∧ w24.cell? ⟨gb174, 3, none⟩ = some (.int .i64 a0_3) ∧ w24.cell? ⟨gb174, 4, none⟩ = some (.int .i64 a0_4) ∧ w24.cell? ⟨gb174, 5, none⟩ = some (.int .i64 a0_5) ∧ w24.cell? ⟨gb174, 6, none⟩ = some (.int .i64 a0_6) ∧ w24.cell? ⟨gb174, 7, none⟩ = some (.int .i64 a0_7) ∧ w24.cell? ⟨gb174, 8, none⟩ = some (.slice A0_8 l0_8.length c0_8) ∧ w24.cell? ⟨gb175, 0, none⟩ = some (.string a1_0) ∧ w24.cell? ⟨gb175, 1, none⟩ = some (.int .i64 a1_1) ∧ w24.cell? ⟨gb175, 2, none⟩ = some (.int .i64 a1_2) ∧ w24.cell? ⟨gb175, 3, none⟩ = some (.int .i64 a1_3) ∧ w24.cell? ⟨gb175, 4, none⟩ = some (.int .i64 a1_4) ∧ w24.cell? ⟨gb175, 5, none⟩ = some (.int .i64 a1_5) ∧ w24.cell? ⟨gb175, 6, none⟩ = some (.int .i64 a1_6) ∧ w24.cell? ⟨gb175, 7, none⟩ = some (.int .i64 a1_7) ∧ w24.cell? ⟨gb175, 8, none⟩ = some (.slice A1_8 l1_8.length c1_8) := hS_
                refine norm_ (a' := ?_) ?_ ?_
                rotate_left
                ·simp only [putAll, Act.put, zx, zy, zz]
                 rfl
                refine three_ (i := 5) (j := 6) (k := 7) (Ni := some 27) (Nj := some 6) (Nk := some 7) #[true, true, true, true, true, true, false, false, false, false] #[true, true, true, true, true, false, true, false, false, false] #[true, true, true, true, true, false, false, true, false, false] rfl rfl rfl rfl rfl rfl (three_of HT_.out (by kernel_rfl)) (by decide) (by decide) (by decide) (fun K hK => ?_) (fun K hK => ?_) (fun K hK => ?_)
                ·skip
                 refine goes_ Try.func74 (by kernel_rfl) rfl #[.agg #[.string a1_0, .int .i64 a1_1, .int .i64 a1_2, .int .i64 a1_3, .int .i64 a1_4, .int .i64 a1_5, .int .i64 a1_6, .int .i64 a1_7, .slice A1_8 l1_8.length c1_8], .int .i64 x5_1] (by rfl) rfl rfl (by (try simp only [List.map_toArray, List.map_cons, List.map_nil]); first | done | rfl | (simp only [List.length_drop, List.length_take]; rfl)) ?_
                 with_reducible refine (metrolabref18_Along.calls a1_0 a1_1 a1_2 a1_3 a1_4 a1_5 a1_6 a1_7 _ _ l1_8 x5_1 t180 t181 _ ?side1 ?side2 A20.out).mono ?_
                 (case side1 => repeat (first | exact (Kd.C_below HR1_8.out HB.out) | (with_reducible refine Kd.C_alloc ?_ _) | (with_reducible refine Kd.C_drewN ?_ _) | (with_reducible refine Kd.C_drew ?_)))
                 (case side2 => exact HC1_8.out)
                 rintro e w25 ⟨rfl, hb⟩
                 refine ⟨_, rfl, ?_⟩
                 have n0_ := zm (zb (g := gb174) (by (with_reducible repeat first | apply zd | apply ze | apply za); exact BK174.out) hb)
                 have n1_ := zm (zb (g := gb175) (by (with_reducible repeat first | apply zd | apply ze | apply za); exact BK175.out) hb)
                 have n2_ := zm (below_step (by repeat (first | (with_reducible first | exact HB.out | apply zA | apply zD | apply zE | refine zS ?_ GE174.out | refine zS ?_ GE175.out) | exact HB.out)) hb)
                 clear BK174 BK175 HB
                 have BK174 := n0_
                 have BK175 := n1_
                 have HB := n2_
                 clear n0_ n1_ n2_
                 (try clear hb)
                 (try clear hb2)
                 (try clear hk)
                 (try clear hi)
                 refine hK.out _ _ ⟨(blk_cell BK174.out 0).trans rfl, (blk_cell BK174.out 1).trans rfl, (blk_cell BK174.out 2).trans rfl, (blk_cell BK174.out 3).trans rfl, (blk_cell BK174.out 4).trans rfl, (blk_cell BK174.out 5).trans rfl, (blk_cell BK174.out 6).trans rfl, (blk_cell BK174.out 7).trans rfl, (blk_cell BK174.out 8).trans rfl, (blk_cell BK175.out 0).trans rfl, (blk_cell BK175.out 1).trans rfl, (blk_cell BK175.out 2).trans rfl, (blk_cell BK175.out 3).trans rfl, (blk_cell BK175.out 4).trans rfl, (blk_cell BK175.out 5).trans rfl, (blk_cell BK175.out 6).trans rfl, (blk_cell BK175.out 7).trans rfl, (blk_cell BK175.out 8).trans rfl⟩ (fun hHeld => ?_)
                 clear hK K
                 refine norm_ (a' := ?_) ?_ ?_
                 rotate_left
                 ·show Act.put _ (some 27) _ = _
                  simp only [Act.put, zx, zy, zz, i64_w, i32_w]
                  rfl
                 exact norm_ (by first | (simp only [putAll, Act.put, zx, zy, zz]; done) | (simp only [putAll, Act.put, zx, zy, zz]; rfl)) (hJ2_5 () _ ⟨hHeld, (by (with_reducible repeat first | apply zd | apply ze | apply za); exact BK174.out), (by (with_reducible repeat first | apply zd | apply ze | apply za); exact BK175.out), (by repeat (first | (with_reducible first | exact HB.out | apply zA | apply zD | apply zE | refine zS ?_ GE174.out | refine zS ?_ GE175.out) | exact HB.out))⟩)
                ·skip
                 refine box_step ?hg (N := 6) ?hd (cs := #[.int .i64 0, .int .i64 0]) (t := 25) ?hr ?_; (case hd => rfl); (case hg => rfl); (case hr => first | (go_simp; done) | (go_simp; rfl))
                 intro gb182 hg w25 hbox hb
                 have n0_ := zm (zb (g := gb174) (by (with_reducible repeat first | apply zd | apply ze | apply za); exact BK174.out) hb)
                 have n1_ := zm (zb (g := gb175) (by (with_reducible repeat first | apply zd | apply ze | apply za); exact BK175.out) hb)
                 have n2_ := zm (below_step (by repeat (first | (with_reducible first | exact HB.out | apply zA | apply zD | apply zE | refine zS ?_ GE174.out | refine zS ?_ GE175.out) | exact HB.out)) hb)
                 have n3_ := zm (hbox)
                 have n4_ := zm ((by rw [hg]; exact (below_size (by repeat (first | (with_reducible first | exact HB.out | apply zA | apply zD | apply zE | refine zS ?_ GE174.out | refine zS ?_ GE175.out) | exact HB.out))) : w.heap.size ≤ gb182))
                 have n5_ := zm ((by rw [hg]; exact (below_size (by repeat (first | (with_reducible first | exact HB.out | apply zA | apply zD | apply zE | refine zS ?_ GE174.out | refine zS ?_ GE175.out) | exact HB.out))) : w.heap.size ≤ gb182))
                 have n6_ := zm ((by rw [hg]; exact Nat.ne_of_lt (blk_lt (g := gb174) (by (with_reducible repeat first | apply zd | apply ze | apply za); exact BK174.out)) : gb174 ≠ gb182))
                 have n7_ := zm ((by rw [hg]; exact Nat.ne_of_gt (blk_lt (g := gb174) (by (with_reducible repeat first | apply zd | apply ze | apply za); exact BK174.out)) : gb182 ≠ gb174))
                 have n8_ := zm ((by rw [hg]; exact Nat.ne_of_lt (blk_lt (g := gb175) (by (with_reducible repeat first | apply zd | apply ze | apply za); exact BK175.out)) : gb175 ≠ gb182))
                 have n9_ := zm ((by rw [hg]; exact Nat.ne_of_gt (blk_lt (g := gb175) (by (with_reducible repeat first | apply zd | apply ze | apply za); exact BK175.out)) : gb182 ≠ gb175))
                 clear BK174 BK175 HB
                 have BK174 := n0_
                 have BK175 := n1_
                 have HB := n2_
                 have BK182 := n3_
                 have GW182 := n4_
                 have GE182 := n5_
                 have NB174_182 := n6_
                 have NB182_174 := n7_
                 have NB175_182 := n8_
                 have NB182_175 := n9_
                 clear n0_ n1_ n2_ n3_ n4_ n5_ n6_ n7_ n8_ n9_ hb hbox hg
                 refine hK.out _ _ ⟨(blk_cell BK174.out 0).trans rfl, (blk_cell BK174.out 1).trans rfl, (blk_cell BK174.out 2).trans rfl, (blk_cell BK174.out 3).trans rfl, (blk_cell BK174.out 4).trans rfl, (blk_cell BK174.out 5).trans rfl, (blk_cell BK174.out 6).trans rfl, (blk_cell BK174.out 7).trans rfl, (blk_cell BK174.out 8).trans rfl, (blk_cell BK175.out 0).trans rfl, (blk_cell BK175.out 1).trans rfl, (blk_cell BK175.out 2).trans rfl, (blk_cell BK175.out 3).trans rfl, (blk_cell BK175.out 4).trans rfl, (blk_cell BK175.out 5).trans rfl, (blk_cell BK175.out 6).trans rfl, (blk_cell BK175.out 7).trans rfl, (blk_cell BK175.out 8).trans rfl⟩ (fun hHeld => ?_)
                 clear hK K
                 refine norm_ (a' := ?_) ?_ ?_
                 rotate_left
                 ·show Act.put _ (some 6) _ = _
                  simp only [Act.put, zx, zy, zz, i64_w, i32_w]
                  rfl
                 exact norm_ (by first | (simp only [putAll, Act.put, zx, zy, zz]; done) | (simp only [putAll, Act.put, zx, zy, zz]; rfl)) (hJ2_6 (gb182) _ ⟨hHeld, (by (with_reducible repeat first | apply zd | apply ze | apply za); exact BK174.out), (by (with_reducible repeat first | apply zd | apply ze | apply za); exact BK175.out), (by (with_reducible repeat first | apply zd | apply ze | apply za); exact BK182.out), GW182.out, GE182.out, NB174_182.out, NB182_174.out, NB175_182.out, NB182_175.out, (by repeat (first | (with_reducible first | exact HB.out | apply zA | apply zD | apply zE | refine zS ?_ GE174.out | refine zS ?_ GE175.out | refine zS ?_ GE182.out) | exact HB.out))⟩)
                ·skip
                 refine box_step ?hg (N := 7) ?hd (cs := #[.int .i64 0, .int .i64 0]) (t := 25) ?hr ?_; (case hd => rfl); (case hg => rfl); (case hr => first | (go_simp; done) | (go_simp; rfl))
                 intro gb183 hg w25 hbox hb
                 have n0_ := zm (zb (g := gb174) (by (with_reducible repeat first | apply zd | apply ze | apply za); exact BK174.out) hb)
                 have n1_ := zm (zb (g := gb175) (by (with_reducible repeat first | apply zd | apply ze | apply za); exact BK175.out) hb)
                 have n2_ := zm (below_step (by repeat (first | (with_reducible first | exact HB.out | apply zA | apply zD | apply zE | refine zS ?_ GE174.out | refine zS ?_ GE175.out) | exact HB.out)) hb)
                 have n3_ := zm (hbox)
                 have n4_ := zm ((by rw [hg]; exact (below_size (by repeat (first | (with_reducible first | exact HB.out | apply zA | apply zD | apply zE | refine zS ?_ GE174.out | refine zS ?_ GE175.out) | exact HB.out))) : w.heap.size ≤ gb183))
                 have n5_ := zm ((by rw [hg]; exact (below_size (by repeat (first | (with_reducible first | exact HB.out | apply zA | apply zD | apply zE | refine zS ?_ GE174.out | refine zS ?_ GE175.out) | exact HB.out))) : w.heap.size ≤ gb183))
                 have n6_ := zm ((by rw [hg]; exact Nat.ne_of_lt (blk_lt (g := gb174) (by (with_reducible repeat first | apply zd | apply ze | apply za); exact BK174.out)) : gb174 ≠ gb183))
                 have n7_ := zm ((by rw [hg]; exact Nat.ne_of_gt (blk_lt (g := gb174) (by (with_reducible repeat first | apply zd | apply ze | apply za); exact BK174.out)) : gb183 ≠ gb174))
                 have n8_ := zm ((by rw [hg]; exact Nat.ne_of_lt (blk_lt (g := gb175) (by (with_reducible repeat first | apply zd | apply ze | apply za); exact BK175.out)) : gb175 ≠ gb183))
                 have n9_ := zm ((by rw [hg]; exact Nat.ne_of_gt (blk_lt (g := gb175) (by (with_reducible repeat first | apply zd | apply ze | apply za); exact BK175.out)) : gb183 ≠ gb175))
                 clear BK174 BK175 HB
                 have BK174 := n0_
                 have BK175 := n1_
                 have HB := n2_
                 have BK183 := n3_
                 have GW183 := n4_
                 have GE183 := n5_
                 have NB174_183 := n6_
                 have NB183_174 := n7_
                 have NB175_183 := n8_
                 have NB183_175 := n9_
                 clear n0_ n1_ n2_ n3_ n4_ n5_ n6_ n7_ n8_ n9_ hb hbox hg
                 refine hK.out _ _ ⟨(blk_cell BK174.out 0).trans rfl, (blk_cell BK174.out 1).trans rfl, (blk_cell BK174.out 2).trans rfl, (blk_cell BK174.out 3).trans rfl, (blk_cell BK174.out 4).trans rfl, (blk_cell BK174.out 5).trans rfl, (blk_cell BK174.out 6).trans rfl, (blk_cell BK174.out 7).trans rfl, (blk_cell BK174.out 8).trans rfl, (blk_cell BK175.out 0).trans rfl, (blk_cell BK175.out 1).trans rfl, (blk_cell BK175.out 2).trans rfl, (blk_cell BK175.out 3).trans rfl, (blk_cell BK175.out 4).trans rfl, (blk_cell BK175.out 5).trans rfl, (blk_cell BK175.out 6).trans rfl, (blk_cell BK175.out 7).trans rfl, (blk_cell BK175.out 8).trans rfl⟩ (fun hHeld => ?_)
                 clear hK K
                 refine norm_ (a' := ?_) ?_ ?_
                 rotate_left
                 ·show Act.put _ (some 7) _ = _
                  simp only [Act.put, zx, zy, zz, i64_w, i32_w]
                  rfl
                 exact norm_ (by first | (simp only [putAll, Act.put, zx, zy, zz]; done) | (simp only [putAll, Act.put, zx, zy, zz]; rfl)) (hJ2_7 (gb183) _ ⟨hHeld, (by (with_reducible repeat first | apply zd | apply ze | apply za); exact BK174.out), (by (with_reducible repeat first | apply zd | apply ze | apply za); exact BK175.out), (by (with_reducible repeat first | apply zd | apply ze | apply za); exact BK183.out), GW183.out, GE183.out, NB174_183.out, NB183_174.out, NB175_183.out, NB183_175.out, (by repeat (first | (with_reducible first | exact HB.out | apply zA | apply zD | apply zE | refine zS ?_ GE174.out | refine zS ?_ GE175.out | refine zS ?_ GE183.out) | exact HB.out))⟩)
              ·skip
               rintro ⟨gb182, gb183⟩ w25 ⟨hS_, h0_, h1_, h2_, h3_, h4_, h5_, h6_, h7_, h8_, h9_, h10_, h11_, h12_, h13_, h14_, h15_, h16_, h17_, h18_⟩
               have n0_ : Aside0 (w25.heap[gb174]? = some (.cells #[.string a0_0, .int .i64 a0_1, .int .i64 a0_2, .int .i64 a0_3, .int .i64 a0_4, .int .i64 a0_5, .int .i64 a0_6, .int .i64 a0_7, .slice A0_8 l0_8.length c0_8] 28 (0, 0))) := ⟨h0_⟩
               have n1_ : Aside0 (w25.heap[gb175]? = some (.cells #[.string a1_0, .int .i64 a1_1, .int .i64 a1_2, .int .i64 a1_3, .int .i64 a1_4, .int .i64 a1_5, .int .i64 a1_6, .int .i64 a1_7, .slice A1_8 l1_8.length c1_8] 28 (0, 0))) := ⟨h1_⟩
               have n2_ : Aside0 (w25.heap[gb182]? = some (.cells #[.int .i64 0, .int .i64 0] 25 (0, 0))) := ⟨h2_⟩
               have n3_ : Aside0 (w25.heap[gb183]? = some (.cells #[.int .i64 0, .int .i64 0] 25 (0, 0))) := ⟨h3_⟩
               have n4_ : Aside0 (w.heap.size ≤ gb182) := ⟨h4_⟩
               have n5_ : Aside0 (w.heap.size ≤ gb182) := ⟨h5_⟩
               have n6_ : Aside0 (gb174 ≠ gb182) := ⟨h6_⟩
               have n7_ : Aside0 (gb182 ≠ gb174) := ⟨h7_⟩
               have n8_ : Aside0 (gb175 ≠ gb182) := ⟨h8_⟩
               have n9_ : Aside0 (gb182 ≠ gb175) := ⟨h9_⟩
               have n10_ : Aside0 (gb183 ≠ gb182) := ⟨h10_⟩
               have n11_ : Aside0 (gb182 ≠ gb183) := ⟨h11_⟩
               have n12_ : Aside0 (w.heap.size ≤ gb183) := ⟨h12_⟩
               have n13_ : Aside0 (w.heap.size ≤ gb183) := ⟨h13_⟩
               have n14_ : Aside0 (gb174 ≠ gb183) := ⟨h14_⟩
               have n15_ : Aside0 (gb183 ≠ gb174) := ⟨h15_⟩
               have n16_ : Aside0 (gb175 ≠ gb183) := ⟨h16_⟩
               have n17_ : Aside0 (gb183 ≠ gb175) := ⟨h17_⟩
               have n18_ : Aside0 (Below w.heap.size w w25) := ⟨h18_⟩
               clear BK174 BK175 HB h0_ h1_ h2_ h3_ h4_ h5_ h6_ h7_ h8_ h9_ h10_ h11_ h12_ h13_ h14_ h15_ h16_ h17_ h18_
               have BK174 := n0_
               have BK175 := n1_
               have BK182 := n2_
               have BK183 := n3_
               have GW182 := n4_
               have GE182 := n5_
               have NB174_182 := n6_
               have NB182_174 := n7_
               have NB175_182 := n8_
               have NB182_175 := n9_
               have NB183_182 := n10_
               have NB182_183 := n11_
               have GW183 := n12_
               have GE183 := n13_
               have NB174_183 := n14_
               have NB183_174 := n15_
               have NB175_183 := n16_
               have NB183_175 := n17_
               have HB := n18_
               clear n0_ n1_ n2_ n3_ n4_ n5_ n6_ n7_ n8_ n9_ n10_ n11_ n12_ n13_ n14_ n15_ n16_ n17_ n18_
               have hHeld : w25.cell? ⟨gb174, 0, none⟩ = some (.string a0_0) ∧ w25.cell? ⟨gb174, 1, none⟩ = some (.int .i64 a0_1) ∧ w25.cell? ⟨gb174, 2, none⟩ = some (.int .i64 a0_2) ∧ w25.cell? ⟨gb174, 3, none⟩ = some (.int .i64 a0_3) ∧ w25.cell? ⟨gb174, 4, none⟩ = some (.int .i64 a0_4) ∧ w25.cell? ⟨gb174, 5, none⟩ = some (.int .i64 a0_5) ∧ w25.cell? ⟨gb174, 6, none⟩ = some (.int .i64 a0_6) ∧ w25.cell? ⟨gb174, 7, none⟩ = some (.int .i64 a0_7) ∧ w25.cell? ⟨gb174, 8, none⟩ = some (.slice A0_8 l0_8.length c0_8) ∧ w25.cell? ⟨gb175, 0, none⟩ = some (.string a1_0) ∧ w25.cell? ⟨gb175, 1, none⟩ = some (.int .i64 a1_1) ∧ w25.cell? ⟨gb175, 2, none⟩ = some (.int .i64 a1_2) ∧ w25.cell? ⟨gb175, 3, none⟩ = some (.int .i64 a1_3) ∧ w25.cell? ⟨gb175, 4, none⟩ = some (.int .i64 a1_4) ∧ w25.cell? ⟨gb175, 5, none⟩ = some (.int .i64 a1_5) ∧ w25.cell? ⟨gb175, 6, none⟩ = some (.int .i64 a1_6) ∧ w25.cell? ⟨gb175, 7, none⟩ = some (.int .i64 a1_7) ∧ w25.cell? ⟨gb175, 8, none⟩ = some (.slice A1_8 l1_8.length c1_8) := hS_
               refine norm_ (a' := ?_) ?_ ?_
               rotate_left
               ·simp only [putAll, Act.put, zx, zy, zz]
                rfl
               refine one_ (i := 2) (N := some 24) #[true, true, true, true, true, false, true, true, false, false] rfl rfl (one_of HT_.out (by kernel_rfl)) (by decide) (fun K hK => ?_)
               refine goes_ Try.func74 (by kernel_rfl) rfl #[.agg #[.string a0_0, .int .i64 a0_1, .int .i64 a0_2, .int .i64 a0_3, .int .i64 a0_4, .int .i64 a0_5, .int .i64 a0_6, .int .i64 a0_7, .slice A0_8 l0_8.length c0_8], .int .i64 x5_1] (by rfl) rfl rfl (by (try simp only [List.map_toArray, List.map_cons, List.map_nil]); first | done | rfl | (simp only [List.length_drop, List.length_take]; rfl)) ?_
               with_reducible refine (metrolabref18_Along.calls a0_0 a0_1 a0_2 a0_3 a0_4 a0_5 a0_6 a0_7 _ _ l0_8 x5_1 t178 t179 _ ?side1 ?side2 A19.out).mono ?_
               (case side1 => repeat (first | exact (Kd.C_below HR0_8.out HB.out) | (with_reducible refine Kd.C_alloc ?_ _) | (with_reducible refine Kd.C_drewN ?_ _) | (with_reducible refine Kd.C_drew ?_)))
               (case side2 => exact HC0_8.out)
               rintro e w26 ⟨rfl, hb⟩
               refine ⟨_, rfl, ?_⟩
               have n0_ := zm (zb (g := gb174) (by (with_reducible repeat first | apply zd | apply ze | apply za); exact BK174.out) hb)
               have n1_ := zm (zb (g := gb175) (by (with_reducible repeat first | apply zd | apply ze | apply za); exact BK175.out) hb)
               have n2_ := zm (zb (g := gb182) (by (with_reducible repeat first | apply zd | apply ze | apply za); exact BK182.out) hb)
               have n3_ := zm (zb (g := gb183) (by (with_reducible repeat first | apply zd | apply ze | apply za); exact BK183.out) hb)
               have n4_ := zm (below_step (by repeat (first | (with_reducible first | exact HB.out | apply zA | apply zD | apply zE | refine zS ?_ GE174.out | refine zS ?_ GE175.out | refine zS ?_ GE182.out | refine zS ?_ GE183.out) | exact HB.out)) hb)
               clear BK174 BK175 BK182 BK183 HB
               have BK174 := n0_
               have BK175 := n1_
               have BK182 := n2_
               have BK183 := n3_
               have HB := n4_
               clear n0_ n1_ n2_ n3_ n4_
               (try clear hb)
               (try clear hb2)
               (try clear hk)
               (try clear hi)
               refine hK.out _ _ ⟨(blk_cell BK174.out 0).trans rfl, (blk_cell BK174.out 1).trans rfl, (blk_cell BK174.out 2).trans rfl, (blk_cell BK174.out 3).trans rfl, (blk_cell BK174.out 4).trans rfl, (blk_cell BK174.out 5).trans rfl, (blk_cell BK174.out 6).trans rfl, (blk_cell BK174.out 7).trans rfl, (blk_cell BK174.out 8).trans rfl, (blk_cell BK175.out 0).trans rfl, (blk_cell BK175.out 1).trans rfl, (blk_cell BK175.out 2).trans rfl, (blk_cell BK175.out 3).trans rfl, (blk_cell BK175.out 4).trans rfl, (blk_cell BK175.out 5).trans rfl, (blk_cell BK175.out 6).trans rfl, (blk_cell BK175.out 7).trans rfl, (blk_cell BK175.out 8).trans rfl⟩ (fun hHeld => ?_)
               clear hK K
               refine norm_ (a' := ?_) ?_ ?_
               rotate_left
               ·show Act.put _ (some 24) _ = _
                simp only [Act.put, zx, zy, zz, i64_w, i32_w]
                rfl
               exact norm_ (by first | (simp only [putAll, Act.put, zx, zy, zz]; done) | (simp only [putAll, Act.put, zx, zy, zz]; rfl)) (hJ2_6_7 (gb182, gb183) _ ⟨hHeld, (by (with_reducible repeat first | apply zd | apply ze | apply za); exact BK174.out), (by (with_reducible repeat first | apply zd | apply ze | apply za); exact BK175.out), (by (with_reducible repeat first | apply zd | apply ze | apply za); exact BK182.out), (by (with_reducible repeat first | apply zd | apply ze | apply za); exact BK183.out), GW182.out, GE182.out, NB174_182.out, NB182_174.out, NB175_182.out, NB182_175.out, NB183_182.out, NB182_183.out, GW183.out, GE183.out, NB174_183.out, NB183_174.out, NB175_183.out, NB183_175.out, (by repeat (first | (with_reducible first | exact HB.out | apply zA | apply zD | apply zE | refine zS ?_ GE174.out | refine zS ?_ GE175.out | refine zS ?_ GE182.out | refine zS ?_ GE183.out) | exact HB.out))⟩)
             ·skip
              rintro gb183 w25 ⟨hS_, h0_, h1_, h2_, h3_, h4_, h5_, h6_, h7_, h8_, h9_⟩
              have n0_ : Aside0 (w25.heap[gb174]? = some (.cells #[.string a0_0, .int .i64 a0_1, .int .i64 a0_2, .int .i64 a0_3, .int .i64 a0_4, .int .i64 a0_5, .int .i64 a0_6, .int .i64 a0_7, .slice A0_8 l0_8.length c0_8] 28 (0, 0))) := ⟨h0_⟩
              have n1_ : Aside0 (w25.heap[gb175]? = some (.cells #[.string a1_0, .int .i64 a1_1, .int .i64 a1_2, .int .i64 a1_3, .int .i64 a1_4, .int .i64 a1_5, .int .i64 a1_6, .int .i64 a1_7, .slice A1_8 l1_8.length c1_8] 28 (0, 0))) := ⟨h1_⟩
              have n2_ : Aside0 (w25.heap[gb183]? = some (.cells #[.int .i64 0, .int .i64 0] 25 (0, 0))) := ⟨h2_⟩
              have n3_ : Aside0 (w.heap.size ≤ gb183) := ⟨h3_⟩
              have n4_ : Aside0 (w.heap.size ≤ gb183) := ⟨h4_⟩
              have n5_ : Aside0 (gb174 ≠ gb183) := ⟨h5_⟩
              have n6_ : Aside0 (gb183 ≠ gb174) := ⟨h6_⟩
              have n7_ : Aside0 (gb175 ≠ gb183) := ⟨h7_⟩
              have n8_ : Aside0 (gb183 ≠ gb175) := ⟨h8_⟩
              have n9_ : Aside0 (Below w.heap.size w w25) := ⟨h9_⟩
              clear BK174 BK175 HB h0_ h1_ h2_ h3_ h4_ h5_ h6_ h7_ h8_ h9_
              have BK174 := n0_
              have BK175 := n1_
              have BK183 := n2_
              have GW183 := n3_
              have GE183 := n4_
              have NB174_183 := n5_
              have NB183_174 := n6_
              have NB175_183 := n7_
              have NB183_175 := n8_
              have HB := n9_
              clear n0_ n1_ n2_ n3_ n4_ n5_ n6_ n7_ n8_ n9_
              have hHeld : w25.cell? ⟨gb174, 0, none⟩ = some (.string a0_0) ∧ w25.cell? ⟨gb174, 1, none⟩ = some (.int .i64 a0_1) ∧ w25.cell? ⟨gb174, 2, none⟩ = some (.int .i64 a0_2) ∧ w25.cell? ⟨gb174, 3, none⟩ = some (.int .i64 a0_3) ∧ w25.cell? ⟨gb174, 4, none⟩ = some (.int .i64 a0_4) ∧ w25.cell? ⟨gb174, 5, none⟩ = some (.int .i64 a0_5) ∧ w25.cell? ⟨gb174, 6, none⟩ = some (.int .i64 a0_6) ∧ w25.cell? ⟨gb174, 7, none⟩ = some (.int .i64 a0_7) ∧ w25.cell? ⟨gb174, 8, none⟩ = some (.slice A0_8 l0_8.length c0_8) ∧ w25.cell? ⟨gb175, 0, none⟩ = some (.string a1_0) ∧ w25.cell? ⟨gb175, 1, none⟩ = some (.int .i64 a1_1) ∧ w25.cell? ⟨gb175, 2, none⟩ = some (.int .i64 a1_2) ∧ w25.cell? ⟨gb175, 3, none⟩ = some (.int .i64 a1_3) ∧ w25.cell? ⟨gb175, 4, none⟩ = some (.int .i64 a1_4) ∧ w25.cell? ⟨gb175, 5, none⟩ = some (.int .i64 a1_5) ∧ w25.cell? ⟨gb175, 6, none⟩ = some (.int .i64 a1_6) ∧ w25.cell? ⟨gb175, 7, none⟩ = some (.int .i64 a1_7) ∧ w25.cell? ⟨gb175, 8, none⟩ = some (.slice A1_8 l1_8.length c1_8) := hS_
              refine norm_ (a' := ?_) ?_ ?_
              rotate_left
              ·simp only [putAll, Act.put, zx, zy, zz]
               rfl
              refine two_ (i := 5) (j := 6) (Ni := some 27) (Nj := some 6) #[true, true, true, true, true, true, false, true, false, false] #[true, true, true, true, true, false, true, true, false, false] rfl rfl rfl rfl (two_of HT_.out (by kernel_rfl)) (by decide) (by decide) (fun K hK => ?_) (fun K hK => ?_)
              ·skip
               refine goes_ Try.func74 (by kernel_rfl) rfl #[.agg #[.string a1_0, .int .i64 a1_1, .int .i64 a1_2, .int .i64 a1_3, .int .i64 a1_4, .int .i64 a1_5, .int .i64 a1_6, .int .i64 a1_7, .slice A1_8 l1_8.length c1_8], .int .i64 x5_1] (by rfl) rfl rfl (by (try simp only [List.map_toArray, List.map_cons, List.map_nil]); first | done | rfl | (simp only [List.length_drop, List.length_take]; rfl)) ?_
               with_reducible refine (metrolabref18_Along.calls a1_0 a1_1 a1_2 a1_3 a1_4 a1_5 a1_6 a1_7 _ _ l1_8 x5_1 t180 t181 _ ?side1 ?side2 A20.out).mono ?_
               (case side1 => repeat (first | exact (Kd.C_below HR1_8.out HB.out) | (with_reducible refine Kd.C_alloc ?_ _) | (with_reducible refine Kd.C_drewN ?_ _) | (with_reducible refine Kd.C_drew ?_)))
               (case side2 => exact HC1_8.out)
               rintro e w26 ⟨rfl, hb⟩
               refine ⟨_, rfl, ?_⟩
               have n0_ := zm (zb (g := gb174) (by (with_reducible repeat first | apply zd | apply ze | apply za); exact BK174.out) hb)
               have n1_ := zm (zb (g := gb175) (by (with_reducible repeat first | apply zd | apply ze | apply za); exact BK175.out) hb)
               have n2_ := zm (zb (g := gb183) (by (with_reducible repeat first | apply zd | apply ze | apply za); exact BK183.out) hb)
               have n3_ := zm (below_step (by repeat (first | (with_reducible first | exact HB.out | apply zA | apply zD | apply zE | refine zS ?_ GE174.out | refine zS ?_ GE175.out | refine zS ?_ GE183.out) | exact HB.out)) hb)
               clear BK174 BK175 BK183 HB
               have BK174 := n0_
               have BK175 := n1_
               have BK183 := n2_
               have HB := n3_
               clear n0_ n1_ n2_ n3_
               (try clear hb)
               (try clear hb2)
               (try clear hk)
               (try clear hi)
               refine hK.out _ _ ⟨(blk_cell BK174.out 0).trans rfl, (blk_cell BK174.out 1).trans rfl, (blk_cell BK174.out 2).trans rfl, (blk_cell BK174.out 3).trans rfl, (blk_cell BK174.out 4).trans rfl, (blk_cell BK174.out 5).trans rfl, (blk_cell BK174.out 6).trans rfl, (blk_cell BK174.out 7).trans rfl, (blk_cell BK174.out 8).trans rfl, (blk_cell BK175.out 0).trans rfl, (blk_cell BK175.out 1).trans rfl, (blk_cell BK175.out 2).trans rfl, (blk_cell BK175.out 3).trans rfl, (blk_cell BK175.out 4).trans rfl, (blk_cell BK175.out 5).trans rfl, (blk_cell BK175.out 6).trans rfl, (blk_cell BK175.out 7).trans rfl, (blk_cell BK175.out 8).trans rfl⟩ (fun hHeld => ?_)
               clear hK K
               refine norm_ (a' := ?_) ?_ ?_
               rotate_left
               ·show Act.put _ (some 27) _ = _
                simp only [Act.put, zx, zy, zz, i64_w, i32_w]
                rfl
               exact norm_ (by first | (simp only [putAll, Act.put, zx, zy, zz]; done) | (simp only [putAll, Act.put, zx, zy, zz]; rfl)) (hJ2_5_7 (gb183) _ ⟨hHeld, (by (with_reducible repeat first | apply zd | apply ze | apply za); exact BK174.out), (by (with_reducible repeat first | apply zd | apply ze | apply za); exact BK175.out), (by (with_reducible repeat first | apply zd | apply ze | apply za); exact BK183.out), GW183.out, GE183.out, NB174_183.out, NB183_174.out, NB175_183.out, NB183_175.out, (by repeat (first | (with_reducible first | exact HB.out | apply zA | apply zD | apply zE | refine zS ?_ GE174.out | refine zS ?_ GE175.out | refine zS ?_ GE183.out) | exact HB.out))⟩)
              ·skip
               refine box_step ?hg (N := 6) ?hd (cs := #[.int .i64 0, .int .i64 0]) (t := 25) ?hr ?_; (case hd => rfl); (case hg => rfl); (case hr => first | (go_simp; done) | (go_simp; rfl))
               intro gb182 hg w26 hbox hb
               have n0_ := zm (zb (g := gb174) (by (with_reducible repeat first | apply zd | apply ze | apply za); exact BK174.out) hb)
               have n1_ := zm (zb (g := gb175) (by (with_reducible repeat first | apply zd | apply ze | apply za); exact BK175.out) hb)
               have n2_ := zm (zb (g := gb183) (by (with_reducible repeat first | apply zd | apply ze | apply za); exact BK183.out) hb)
               have n3_ := zm (below_step (by repeat (first | (with_reducible first | exact HB.out | apply zA | apply zD | apply zE | refine zS ?_ GE174.out | refine zS ?_ GE175.out | refine zS ?_ GE183.out) | exact HB.out)) hb)
               have n4_ := zm (hbox)
               have n5_ := zm ((by rw [hg]; exact (below_size (by repeat (first | (with_reducible first | exact HB.out | apply zA | apply zD | apply zE | refine zS ?_ GE174.out | refine zS ?_ GE175.out | refine zS ?_ GE183.out) | exact HB.out))) : w.heap.size ≤ gb182))
               have n6_ := zm ((by rw [hg]; exact (below_size (by repeat (first | (with_reducible first | exact HB.out | apply zA | apply zD | apply zE | refine zS ?_ GE174.out | refine zS ?_ GE175.out | refine zS ?_ GE183.out) | exact HB.out))) : w.heap.size ≤ gb182))
               have n7_ := zm ((by rw [hg]; exact Nat.ne_of_lt (blk_lt (g := gb174) (by (with_reducible repeat first | apply zd | apply ze | apply za); exact BK174.out)) : gb174 ≠ gb182))
               have n8_ := zm ((by rw [hg]; exact Nat.ne_of_gt (blk_lt (g := gb174) (by (with_reducible repeat first | apply zd | apply ze | apply za); exact BK174.out)) : gb182 ≠ gb174))
               have n9_ := zm ((by rw [hg]; exact Nat.ne_of_lt (blk_lt (g := gb175) (by (with_reducible repeat first | apply zd | apply ze | apply za); exact BK175.out)) : gb175 ≠ gb182))
               have n10_ := zm ((by rw [hg]; exact Nat.ne_of_gt (blk_lt (g := gb175) (by (with_reducible repeat first | apply zd | apply ze | apply za); exact BK175.out)) : gb182 ≠ gb175))
               have n11_ := zm ((by rw [hg]; exact Nat.ne_of_lt (blk_lt (g := gb183) (by (with_reducible repeat first | apply zd | apply ze | apply za); exact BK183.out)) : gb183 ≠ gb182))
               have n12_ := zm ((by rw [hg]; exact Nat.ne_of_gt (blk_lt (g := gb183) (by (with_reducible repeat first | apply zd | apply ze | apply za); exact BK183.out)) : gb182 ≠ gb183))
               clear BK174 BK175 BK183 HB
               have BK174 := n0_
               have BK175 := n1_
               have BK183 := n2_
               have HB := n3_
               have BK182 := n4_
               have GW182 := n5_
               have GE182 := n6_
               have NB174_182 := n7_
               have NB182_174 := n8_
               have NB175_182 := n9_
               have NB182_175 := n10_
               have NB183_182 := n11_
               have NB182_183 := n12_
               clear n0_ n1_ n2_ n3_ n4_ n5_ n6_ n7_ n8_ n9_ n10_ n11_ n12_ hb hbox hg
               refine hK.out _ _ ⟨(blk_cell BK174.out 0).trans rfl, (blk_cell BK174.out 1).trans rfl, (blk_cell BK174.out 2).trans rfl, (blk_cell BK174.out 3).trans rfl, (blk_cell BK174.out 4).trans rfl, (blk_cell BK174.out 5).trans rfl, (blk_cell BK174.out 6).trans rfl, (blk_cell BK174.out 7).trans rfl, (blk_cell BK174.out 8).trans rfl, (blk_cell BK175.out 0).trans rfl, (blk_cell BK175.out 1).trans rfl, (blk_cell BK175.out 2).trans rfl, (blk_cell BK175.out 3).trans rfl, (blk_cell BK175.out 4).trans rfl, (blk_cell BK175.out 5).trans rfl, (blk_cell BK175.out 6).trans rfl, (blk_cell BK175.out 7).trans rfl, (blk_cell BK175.out 8).trans rfl⟩ (fun hHeld => ?_)
               clear hK K
               refine norm_ (a' := ?_) ?_ ?_
               rotate_left
               ·show Act.put _ (some 6) _ = _
                simp only [Act.put, zx, zy, zz, i64_w, i32_w]
                rfl
               exact norm_ (by first | (simp only [putAll, Act.put, zx, zy, zz]; done) | (simp only [putAll, Act.put, zx, zy, zz]; rfl)) (hJ2_6_7 (gb182, gb183) _ ⟨hHeld, (by (with_reducible repeat first | apply zd | apply ze | apply za); exact BK174.out), (by (with_reducible repeat first | apply zd | apply ze | apply za); exact BK175.out), (by (with_reducible repeat first | apply zd | apply ze | apply za); exact BK182.out), (by (with_reducible repeat first | apply zd | apply ze | apply za); exact BK183.out), GW182.out, GE182.out, NB174_182.out, NB182_174.out, NB175_182.out, NB182_175.out, NB183_182.out, NB182_183.out, GW183.out, GE183.out, NB174_183.out, NB183_174.out, NB175_183.out, NB183_175.out, (by repeat (first | (with_reducible first | exact HB.out | apply zA | apply zD | apply zE | refine zS ?_ GE174.out | refine zS ?_ GE175.out | refine zS ?_ GE183.out | refine zS ?_ GE182.out) | exact HB.out))⟩)
            ·skip
             rintro gb182 w25 ⟨hS_, h0_, h1_, h2_, h3_, h4_, h5_, h6_, h7_, h8_, h9_⟩
             have n0_ : Aside0 (w25.heap[gb174]? = some (.cells #[.string a0_0, .int .i64 a0_1, .int .i64 a0_2, .int .i64 a0_3, .int .i64 a0_4, .int .i64 a0_5, .int .i64 a0_6, .int .i64 a0_7, .slice A0_8 l0_8.length c0_8] 28 (0, 0))) := ⟨h0_⟩
             have n1_ : Aside0 (w25.heap[gb175]? = some (.cells #[.string a1_0, .int .i64 a1_1, .int .i64 a1_2, .int .i64 a1_3, .int .i64 a1_4, .int .i64 a1_5, .int .i64 a1_6, .int .i64 a1_7, .slice A1_8 l1_8.length c1_8] 28 (0, 0))) := ⟨h1_⟩
             have n2_ : Aside0 (w25.heap[gb182]? = some (.cells #[.int .i64 0, .int .i64 0] 25 (0, 0))) := ⟨h2_⟩
             have n3_ : Aside0 (w.heap.size ≤ gb182) := ⟨h3_⟩
             have n4_ : Aside0 (w.heap.size ≤ gb182) := ⟨h4_⟩
             have n5_ : Aside0 (gb174 ≠ gb182) := ⟨h5_⟩
             have n6_ : Aside0 (gb182 ≠ gb174) := ⟨h6_⟩
             have n7_ : Aside0 (gb175 ≠ gb182) := ⟨h7_⟩
             have n8_ : Aside0 (gb182 ≠ gb175) := ⟨h8_⟩
             have n9_ : Aside0 (Below w.heap.size w w25) := ⟨h9_⟩
             clear BK174 BK175 HB h0_ h1_ h2_ h3_ h4_ h5_ h6_ h7_ h8_ h9_
             have BK174 := n0_
             have BK175 := n1_
             have BK182 := n2_
             have GW182 := n3_
             have GE182 := n4_
             have NB174_182 := n5_
             have NB182_174 := n6_
             have NB175_182 := n7_
             have NB182_175 := n8_
             have HB := n9_
             clear n0_ n1_ n2_ n3_ n4_ n5_ n6_ n7_ n8_ n9_
             have hHeld : w25.cell? ⟨gb174, 0, none⟩ = some (.string a0_0) ∧ w25.cell? ⟨gb174, 1, none⟩ = some (.int .i64 a0_1) ∧ w25.cell? ⟨gb174, 2, none⟩ = some (.int .i64 a0_2) ∧ w25.cell? ⟨gb174, 3, none⟩ = some (.int .i64 a0_3) ∧ w25.cell? ⟨gb174, 4, none⟩ = some (.int .i64 a0_4) ∧ w25.cell? ⟨gb174, 5, none⟩ = some (.int .i64 a0_5) ∧ w25.cell? ⟨gb174, 6, none⟩ = some (.int .i64 a0_6) ∧ w25.cell? ⟨gb174, 7, none⟩ = some (.int .i64 a0_7) ∧ w25.cell? ⟨gb174, 8, none⟩ = some (.slice A0_8 l0_8.length c0_8) ∧ w25.cell? ⟨gb175, 0, none⟩ = some (.string a1_0) ∧ w25.cell? ⟨gb175, 1, none⟩ = some (.int .i64 a1_1) ∧ w25.cell? ⟨gb175, 2, none⟩ = some (.int .i64 a1_2) ∧ w25.cell? ⟨gb175, 3, none⟩ = some (.int .i64 a1_3) ∧ w25.cell? ⟨gb175, 4, none⟩ = some (.int .i64 a1_4) ∧ w25.cell? ⟨gb175, 5, none⟩ = some (.int .i64 a1_5) ∧ w25.cell? ⟨gb175, 6, none⟩ = some (.int .i64 a1_6) ∧ w25.cell? ⟨gb175, 7, none⟩ = some (.int .i64 a1_7) ∧ w25.cell? ⟨gb175, 8, none⟩ = some (.slice A1_8 l1_8.length c1_8) := hS_
             refine norm_ (a' := ?_) ?_ ?_
             rotate_left
             ·simp only [putAll, Act.put, zx, zy, zz]
              rfl
             refine two_ (i := 5) (j := 7) (Ni := some 27) (Nj := some 7) #[true, true, true, true, true, true, true, false, false, false] #[true, true, true, true, true, false, true, true, false, false] rfl rfl rfl rfl (two_of HT_.out (by kernel_rfl)) (by decide) (by decide) (fun K hK => ?_) (fun K hK => ?_)
             ·skip
              refine goes_ Try.func74 (by kernel_rfl) rfl #[.agg #[.string a1_0, .int .i64 a1_1, .int .i64 a1_2, .int .i64 a1_3, .int .i64 a1_4, .int .i64 a1_5, .int .i64 a1_6, .int .i64 a1_7, .slice A1_8 l1_8.length c1_8], .int .i64 x5_1] (by rfl) rfl rfl (by (try simp only [List.map_toArray, List.map_cons, List.map_nil]); first | done | rfl | (simp only [List.length_drop, List.length_take]; rfl)) ?_
              with_reducible refine (metrolabref18_Along.calls a1_0 a1_1 a1_2 a1_3 a1_4 a1_5 a1_6 a1_7 _ _ l1_8 x5_1 t180 t181 _ ?side1 ?side2 A20.out).mono ?_
              (case side1 => repeat (first | exact (Kd.C_below HR1_8.out HB.out) | (with_reducible refine Kd.C_alloc ?_ _) | (with_reducible refine Kd.C_drewN ?_ _) | (with_reducible refine Kd.C_drew ?_)))
              (case side2 => exact HC1_8.out)
              rintro e w26 ⟨rfl, hb⟩
              refine ⟨_, rfl, ?_⟩
              have n0_ := zm (zb (g := gb174) (by (with_reducible repeat first | apply zd | apply ze | apply za); exact BK174.out) hb)
              have n1_ := zm (zb (g := gb175) (by (with_reducible repeat first | apply zd | apply ze | apply za); exact BK175.out) hb)
              have n2_ := zm (zb (g := gb182) (by (with_reducible repeat first | apply zd | apply ze | apply za); exact BK182.out) hb)
              have n3_ := zm (below_step (by repeat (first | (with_reducible first | exact HB.out | apply zA | apply zD | apply zE | refine zS ?_ GE174.out | refine zS ?_ GE175.out | refine zS ?_ GE182.out) | exact HB.out)) hb)
              clear BK174 BK175 BK182 HB
              have BK174 := n0_
              have BK175 := n1_
              have BK182 := n2_
              have HB := n3_
              clear n0_ n1_ n2_ n3_
              (try clear hb)
              (try clear hb2)
              (try clear hk)
              (try clear hi)
              refine hK.out _ _ ⟨(blk_cell BK174.out 0).trans rfl, (blk_cell BK174.out 1).trans rfl, (blk_cell BK174.out 2).trans rfl, (blk_cell BK174.out 3).trans rfl, (blk_cell BK174.out 4).trans rfl, (blk_cell BK174.out 5).trans rfl, (blk_cell BK174.out 6).trans rfl, (blk_cell BK174.out 7).trans rfl, (blk_cell BK174.out 8).trans rfl, (blk_cell BK175.out 0).trans rfl, (blk_cell BK175.out 1).trans rfl, (blk_cell BK175.out 2).trans rfl, (blk_cell BK175.out 3).trans rfl, (blk_cell BK175.out 4).trans rfl, (blk_cell BK175.out 5).trans rfl, (blk_cell BK175.out 6).trans rfl, (blk_cell BK175.out 7).trans rfl, (blk_cell BK175.out 8).trans rfl⟩ (fun hHeld => ?_)
              clear hK K
              refine norm_ (a' := ?_) ?_ ?_
              rotate_left
              ·show Act.put _ (some 27) _ = _
               simp only [Act.put, zx, zy, zz, i64_w, i32_w]
               rfl
              exact norm_ (by first | (simp only [putAll, Act.put, zx, zy, zz]; done) | (simp only [putAll, Act.put, zx, zy, zz]; rfl)) (hJ2_5_6 (gb182) _ ⟨hHeld, (by (with_reducible repeat first | apply zd | apply ze | apply za); exact BK174.out), (by (with_reducible repeat first | apply zd | apply ze | apply za); exact BK175.out), (by (with_reducible repeat first | apply zd | apply ze | apply za); exact BK182.out), GW182.out, GE182.out, NB174_182.out, NB182_174.out, NB175_182.out, NB182_175.out, (by repeat (first | (with_reducible first | exact HB.out | apply zA | apply zD | apply zE | refine zS ?_ GE174.out | refine zS ?_ GE175.out | refine zS ?_ GE182.out) | exact HB.out))⟩)
             ·skip
              refine box_step ?hg (N := 7) ?hd (cs := #[.int .i64 0, .int .i64 0]) (t := 25) ?hr ?_; (case hd => rfl); (case hg => rfl); (case hr => first | (go_simp; done) | (go_simp; rfl))
              intro gb183 hg w26 hbox hb
              have n0_ := zm (zb (g := gb174) (by (with_reducible repeat first | apply zd | apply ze | apply za); exact BK174.out) hb)
              have n1_ := zm (zb (g := gb175) (by (with_reducible repeat first | apply zd | apply ze | apply za); exact BK175.out) hb)
              have n2_ := zm (zb (g := gb182) (by (with_reducible repeat first | apply zd | apply ze | apply za); exact BK182.out) hb)
              have n3_ := zm (below_step (by repeat (first | (with_reducible first | exact HB.out | apply zA | apply zD | apply zE | refine zS ?_ GE174.out | refine zS ?_ GE175.out | refine zS ?_ GE182.out) | exact HB.out)) hb)
              have n4_ := zm (hbox)
              have n5_ := zm ((by rw [hg]; exact (below_size (by repeat (first | (with_reducible first | exact HB.out | apply zA | apply zD | apply zE | refine zS ?_ GE174.out | refine zS ?_ GE175.out | refine zS ?_ GE182.out) | exact HB.out))) : w.heap.size ≤ gb183))
              have n6_ := zm ((by rw [hg]; exact (below_size (by repeat (first | (with_reducible first | exact HB.out | apply zA | apply zD | apply zE | refine zS ?_ GE174.out | refine zS ?_ GE175.out | refine zS ?_ GE182.out) | exact HB.out))) : w.heap.size ≤ gb183))
              have n7_ := zm ((by rw [hg]; exact Nat.ne_of_lt (blk_lt (g := gb174) (by (with_reducible repeat first | apply zd | apply ze | apply za); exact BK174.out)) : gb174 ≠ gb183))
              have n8_ := zm ((by rw [hg]; exact Nat.ne_of_gt (blk_lt (g := gb174) (by (with_reducible repeat first | apply zd | apply ze | apply za); exact BK174.out)) : gb183 ≠ gb174))
              have n9_ := zm ((by rw [hg]; exact Nat.ne_of_lt (blk_lt (g := gb175) (by (with_reducible repeat first | apply zd | apply ze | apply za); exact BK175.out)) : gb175 ≠ gb183))
              have n10_ := zm ((by rw [hg]; exact Nat.ne_of_gt (blk_lt (g := gb175) (by (with_reducible repeat first | apply zd | apply ze | apply za); exact BK175.out)) : gb183 ≠ gb175))
              have n11_ := zm ((by rw [hg]; exact Nat.ne_of_lt (blk_lt (g := gb182) (by (with_reducible repeat first | apply zd | apply ze | apply za); exact BK182.out)) : gb182 ≠ gb183))
              have n12_ := zm ((by rw [hg]; exact Nat.ne_of_gt (blk_lt (g := gb182) (by (with_reducible repeat first | apply zd | apply ze | apply za); exact BK182.out)) : gb183 ≠ gb182))
              clear BK174 BK175 BK182 HB
              have BK174 := n0_
              have BK175 := n1_
              have BK182 := n2_
              have HB := n3_
              have BK183 := n4_
              have GW183 := n5_
              have GE183 := n6_
              have NB174_183 := n7_
              have NB183_174 := n8_
              have NB175_183 := n9_
              have NB183_175 := n10_
              have NB182_183 := n11_
              have NB183_182 := n12_
              clear n0_ n1_ n2_ n3_ n4_ n5_ n6_ n7_ n8_ n9_ n10_ n11_ n12_ hb hbox hg
              refine hK.out _ _ ⟨(blk_cell BK174.out 0).trans rfl, (blk_cell BK174.out 1).trans rfl, (blk_cell BK174.out 2).trans rfl, (blk_cell BK174.out 3).trans rfl, (blk_cell BK174.out 4).trans rfl, (blk_cell BK174.out 5).trans rfl, (blk_cell BK174.out 6).trans rfl, (blk_cell BK174.out 7).trans rfl, (blk_cell BK174.out 8).trans rfl, (blk_cell BK175.out 0).trans rfl, (blk_cell BK175.out 1).trans rfl, (blk_cell BK175.out 2).trans rfl, (blk_cell BK175.out 3).trans rfl, (blk_cell BK175.out 4).trans rfl, (blk_cell BK175.out 5).trans rfl, (blk_cell BK175.out 6).trans rfl, (blk_cell BK175.out 7).trans rfl, (blk_cell BK175.out 8).trans rfl⟩ (fun hHeld => ?_)
              clear hK K
              refine norm_ (a' := ?_) ?_ ?_
              rotate_left
              ·show Act.put _ (some 7) _ = _
               simp only [Act.put, zx, zy, zz, i64_w, i32_w]
               rfl
              exact norm_ (by first | (simp only [putAll, Act.put, zx, zy, zz]; done) | (simp only [putAll, Act.put, zx, zy, zz]; rfl)) (hJ2_6_7 (gb182, gb183) _ ⟨hHeld, (by (with_reducible repeat first | apply zd | apply ze | apply za); exact BK174.out), (by (with_reducible repeat first | apply zd | apply ze | apply za); exact BK175.out), (by (with_reducible repeat first | apply zd | apply ze | apply za); exact BK182.out), (by (with_reducible repeat first | apply zd | apply ze | apply za); exact BK183.out), GW182.out, GE182.out, NB174_182.out, NB182_174.out, NB175_182.out, NB182_175.out, NB183_182.out, NB182_183.out, GW183.out, GE183.out, NB174_183.out, NB183_174.out, NB175_183.out, NB183_175.out, (by repeat (first | (with_reducible first | exact HB.out | apply zA | apply zD | apply zE | refine zS ?_ GE174.out | refine zS ?_ GE175.out | refine zS ?_ GE182.out | refine zS ?_ GE183.out) | exact HB.out))⟩)
           ·skip
            rintro _ w25 ⟨hS_, h0_, h1_, h2_⟩
            have n0_ : Aside0 (w25.heap[gb174]? = some (.cells #[.string a0_0, .int .i64 a0_1, .int .i64 a0_2, .int .i64 a0_3, .int .i64 a0_4, .int .i64 a0_5, .int .i64 a0_6, .int .i64 a0_7, .slice A0_8 l0_8.length c0_8] 28 (0, 0))) := ⟨h0_⟩
            have n1_ : Aside0 (w25.heap[gb175]? = some (.cells #[.string a1_0, .int .i64 a1_1, .int .i64 a1_2, .int .i64 a1_3, .int .i64 a1_4, .int .i64 a1_5, .int .i64 a1_6, .int .i64 a1_7, .slice A1_8 l1_8.length c1_8] 28 (0, 0))) := ⟨h1_⟩
            have n2_ : Aside0 (Below w.heap.size w w25) := ⟨h2_⟩
            clear BK174 BK175 HB h0_ h1_ h2_
            have BK174 := n0_
            have BK175 := n1_
            have HB := n2_
            clear n0_ n1_ n2_
            have hHeld : w25.cell? ⟨gb174, 0, none⟩ = some (.string a0_0) ∧ w25.cell? ⟨gb174, 1, none⟩ = some (.int .i64 a0_1) ∧ w25.cell? ⟨gb174, 2, none⟩ = some (.int .i64 a0_2) ∧ w25.cell? ⟨gb174, 3, none⟩ = some (.int .i64 a0_3) ∧ w25.cell? ⟨gb174, 4, none⟩ = some (.int .i64 a0_4) ∧ w25.cell? ⟨gb174, 5, none⟩ = some (.int .i64 a0_5) ∧ w25.cell? ⟨gb174, 6, none⟩ = some (.int .i64 a0_6) ∧ w25.cell? ⟨gb174, 7, none⟩ = some (.int .i64 a0_7) ∧ w25.cell? ⟨gb174, 8, none⟩ = some (.slice A0_8 l0_8.length c0_8) ∧ w25.cell? ⟨gb175, 0, none⟩ = some (.string a1_0) ∧ w25.cell? ⟨gb175, 1, none⟩ = some (.int .i64 a1_1) ∧ w25.cell? ⟨gb175, 2, none⟩ = some (.int .i64 a1_2) ∧ w25.cell? ⟨gb175, 3, none⟩ = some (.int .i64 a1_3) ∧ w25.cell? ⟨gb175, 4, none⟩ = some (.int .i64 a1_4) ∧ w25.cell? ⟨gb175, 5, none⟩ = some (.int .i64 a1_5) ∧ w25.cell? ⟨gb175, 6, none⟩ = some (.int .i64 a1_6) ∧ w25.cell? ⟨gb175, 7, none⟩ = some (.int .i64 a1_7) ∧ w25.cell? ⟨gb175, 8, none⟩ = some (.slice A1_8 l1_8.length c1_8) := hS_
            refine norm_ (a' := ?_) ?_ ?_
            rotate_left
            ·simp only [putAll, Act.put, zx, zy, zz]
             rfl
            refine two_ (i := 6) (j := 7) (Ni := some 6) (Nj := some 7) #[true, true, true, true, true, true, true, false, false, false] #[true, true, true, true, true, true, false, true, false, false] rfl rfl rfl rfl (two_of HT_.out (by kernel_rfl)) (by decide) (by decide) (fun K hK => ?_) (fun K hK => ?_)
            ·skip
             refine box_step ?hg (N := 6) ?hd (cs := #[.int .i64 0, .int .i64 0]) (t := 25) ?hr ?_; (case hd => rfl); (case hg => rfl); (case hr => first | (go_simp; done) | (go_simp; rfl))
             intro gb182 hg w26 hbox hb
             have n0_ := zm (zb (g := gb174) (by (with_reducible repeat first | apply zd | apply ze | apply za); exact BK174.out) hb)
             have n1_ := zm (zb (g := gb175) (by (with_reducible repeat first | apply zd | apply ze | apply za); exact BK175.out) hb)
             have n2_ := zm (below_step (by repeat (first | (with_reducible first | exact HB.out | apply zA | apply zD | apply zE | refine zS ?_ GE174.out | refine zS ?_ GE175.out) | exact HB.out)) hb)
             have n3_ := zm (hbox)
             have n4_ := zm ((by rw [hg]; exact (below_size (by repeat (first | (with_reducible first | exact HB.out | apply zA | apply zD | apply zE | refine zS ?_ GE174.out | refine zS ?_ GE175.out) | exact HB.out))) : w.heap.size ≤ gb182))
             have n5_ := zm ((by rw [hg]; exact (below_size (by repeat (first | (with_reducible first | exact HB.out | apply zA | apply zD | apply zE | refine zS ?_ GE174.out | refine zS ?_ GE175.out) | exact HB.out))) : w.heap.size ≤ gb182))
             have n6_ := zm ((by rw [hg]; exact Nat.ne_of_lt (blk_lt (g := gb174) (by (with_reducible repeat first | apply zd | apply ze | apply za); exact BK174.out)) : gb174 ≠ gb182))
             have n7_ := zm ((by rw [hg]; exact Nat.ne_of_gt (blk_lt (g := gb174) (by (with_reducible repeat first | apply zd | apply ze | apply za); exact BK174.out)) : gb182 ≠ gb174))
             have n8_ := zm ((by rw [hg]; exact Nat.ne_of_lt (blk_lt (g := gb175) (by (with_reducible repeat first | apply zd | apply ze | apply za); exact BK175.out)) : gb175 ≠ gb182))
             have n9_ := zm ((by rw [hg]; exact Nat.ne_of_gt (blk_lt (g := gb175) (by (with_reducible repeat first | apply zd | apply ze | apply za); exact BK175.out)) : gb182 ≠ gb175))
             clear BK174 BK175 HB
             have BK174 := n0_
             have BK175 := n1_
             have HB := n2_
             have BK182 := n3_
             have GW182 := n4_
             have GE182 := n5_
             have NB174_182 := n6_
             have NB182_174 := n7_
             have NB175_182 := n8_
             have NB182_175 := n9_
             clear n0_ n1_ n2_ n3_ n4_ n5_ n6_ n7_ n8_ n9_ hb hbox hg
             refine hK.out _ _ ⟨(blk_cell BK174.out 0).trans rfl, (blk_cell BK174.out 1).trans rfl, (blk_cell BK174.out 2).trans rfl, (blk_cell BK174.out 3).trans rfl, (blk_cell BK174.out 4).trans rfl, (blk_cell BK174.out 5).trans rfl, (blk_cell BK174.out 6).trans rfl, (blk_cell BK174.out 7).trans rfl, (blk_cell BK174.out 8).trans rfl, (blk_cell BK175.out 0).trans rfl, (blk_cell BK175.out 1).trans rfl, (blk_cell BK175.out 2).trans rfl, (blk_cell BK175.out 3).trans rfl, (blk_cell BK175.out 4).trans rfl, (blk_cell BK175.out 5).trans rfl, (blk_cell BK175.out 6).trans rfl, (blk_cell BK175.out 7).trans rfl, (blk_cell BK175.out 8).trans rfl⟩ (fun hHeld => ?_)
             clear hK K
             refine norm_ (a' := ?_) ?_ ?_
             rotate_left
             ·show Act.put _ (some 6) _ = _
              simp only [Act.put, zx, zy, zz, i64_w, i32_w]
              rfl
             exact norm_ (by first | (simp only [putAll, Act.put, zx, zy, zz]; done) | (simp only [putAll, Act.put, zx, zy, zz]; rfl)) (hJ2_5_6 (gb182) _ ⟨hHeld, (by (with_reducible repeat first | apply zd | apply ze | apply za); exact BK174.out), (by (with_reducible repeat first | apply zd | apply ze | apply za); exact BK175.out), (by (with_reducible repeat first | apply zd | apply ze | apply za); exact BK182.out), GW182.out, GE182.out, NB174_182.out, NB182_174.out, NB175_182.out, NB182_175.out, (by repeat (first | (with_reducible first | exact HB.out | apply zA | apply zD | apply zE | refine zS ?_ GE174.out | refine zS ?_ GE175.out | refine zS ?_ GE182.out) | exact HB.out))⟩)
            ·skip
             refine box_step ?hg (N := 7) ?hd (cs := #[.int .i64 0, .int .i64 0]) (t := 25) ?hr ?_; (case hd => rfl); (case hg => rfl); (case hr => first | (go_simp; done) | (go_simp; rfl))
             intro gb183 hg w26 hbox hb
             have n0_ := zm (zb (g := gb174) (by (with_reducible repeat first | apply zd | apply ze | apply za); exact BK174.out) hb)
             have n1_ := zm (zb (g := gb175) (by (with_reducible repeat first | apply zd | apply ze | apply za); exact BK175.out) hb)
             have n2_ := zm (below_step (by repeat (first | (with_reducible first | exact HB.out | apply zA | apply zD | apply zE | refine zS ?_ GE174.out | refine zS ?_ GE175.out) | exact HB.out)) hb)
             have n3_ := zm (hbox)
             have n4_ := zm ((by rw [hg]; exact (below_size (by repeat (first | (with_reducible first | exact HB.out | apply zA | apply zD | apply zE | refine zS ?_ GE174.out | refine zS ?_ GE175.out) | exact HB.out))) : w.heap.size ≤ gb183))
             have n5_ := zm ((by rw [hg]; exact (below_size (by repeat (first | (with_reducible first | exact HB.out | apply zA | apply zD | apply zE | refine zS ?_ GE174.out | refine zS ?_ GE175.out) | exact HB.out))) : w.heap.size ≤ gb183))
             have n6_ := zm ((by rw [hg]; exact Nat.ne_of_lt (blk_lt (g := gb174) (by (with_reducible repeat first | apply zd | apply ze | apply za); exact BK174.out)) : gb174 ≠ gb183))
             have n7_ := zm ((by rw [hg]; exact Nat.ne_of_gt (blk_lt (g := gb174) (by (with_reducible repeat first | apply zd | apply ze | apply za); exact BK174.out)) : gb183 ≠ gb174))
             have n8_ := zm ((by rw [hg]; exact Nat.ne_of_lt (blk_lt (g := gb175) (by (with_reducible repeat first | apply zd | apply ze | apply za); exact BK175.out)) : gb175 ≠ gb183))
             have n9_ := zm ((by rw [hg]; exact Nat.ne_of_gt (blk_lt (g := gb175) (by (with_reducible repeat first | apply zd | apply ze | apply za); exact BK175.out)) : gb183 ≠ gb175))
             clear BK174 BK175 HB
             have BK174 := n0_
             have BK175 := n1_
             have HB := n2_
             have BK183 := n3_
             have GW183 := n4_
             have GE183 := n5_
             have NB174_183 := n6_
             have NB183_174 := n7_
             have NB175_183 := n8_
             have NB183_175 := n9_
             clear n0_ n1_ n2_ n3_ n4_ n5_ n6_ n7_ n8_ n9_ hb hbox hg
             refine hK.out _ _ ⟨(blk_cell BK174.out 0).trans rfl, (blk_cell BK174.out 1).trans rfl, (blk_cell BK174.out 2).trans rfl, (blk_cell BK174.out 3).trans rfl, (blk_cell BK174.out 4).trans rfl, (blk_cell BK174.out 5).trans rfl, (blk_cell BK174.out 6).trans rfl, (blk_cell BK174.out 7).trans rfl, (blk_cell BK174.out 8).trans rfl, (blk_cell BK175.out 0).trans rfl, (blk_cell BK175.out 1).trans rfl, (blk_cell BK175.out 2).trans rfl, (blk_cell BK175.out 3).trans rfl, (blk_cell BK175.out 4).trans rfl, (blk_cell BK175.out 5).trans rfl, (blk_cell BK175.out 6).trans rfl, (blk_cell BK175.out 7).trans rfl, (blk_cell BK175.out 8).trans rfl⟩ (fun hHeld => ?_)
             clear hK K
             refine norm_ (a' := ?_) ?_ ?_
             rotate_left
             ·show Act.put _ (some 7) _ = _
              simp only [Act.put, zx, zy, zz, i64_w, i32_w]
              rfl
             exact norm_ (by first | (simp only [putAll, Act.put, zx, zy, zz]; done) | (simp only [putAll, Act.put, zx, zy, zz]; rfl)) (hJ2_5_7 (gb183) _ ⟨hHeld, (by (with_reducible repeat first | apply zd | apply ze | apply za); exact BK174.out), (by (with_reducible repeat first | apply zd | apply ze | apply za); exact BK175.out), (by (with_reducible repeat first | apply zd | apply ze | apply za); exact BK183.out), GW183.out, GE183.out, NB174_183.out, NB183_174.out, NB175_183.out, NB183_175.out, (by repeat (first | (with_reducible first | exact HB.out | apply zA | apply zD | apply zE | refine zS ?_ GE174.out | refine zS ?_ GE175.out | refine zS ?_ GE183.out) | exact HB.out))⟩)
          ·skip
           rintro ⟨gb182, gb183⟩ w26 ⟨hS_, h0_, h1_, h2_, h3_, h4_, h5_, h6_, h7_, h8_, h9_, h10_, h11_, h12_, h13_, h14_, h15_, h16_, h17_, h18_⟩
           have n0_ : Aside0 (w26.heap[gb174]? = some (.cells #[.string a0_0, .int .i64 a0_1, .int .i64 a0_2, .int .i64 a0_3, .int .i64 a0_4, .int .i64 a0_5, .int .i64 a0_6, .int .i64 a0_7, .slice A0_8 l0_8.length c0_8] 28 (0, 0))) := ⟨h0_⟩
           have n1_ : Aside0 (w26.heap[gb175]? = some (.cells #[.string a1_0, .int .i64 a1_1, .int .i64 a1_2, .int .i64 a1_3, .int .i64 a1_4, .int .i64 a1_5, .int .i64 a1_6, .int .i64 a1_7, .slice A1_8 l1_8.length c1_8] 28 (0, 0))) := ⟨h1_⟩
           have n2_ : Aside0 (w26.heap[gb182]? = some (.cells #[.int .i64 0, .int .i64 0] 25 (0, 0))) := ⟨h2_⟩
           have n3_ : Aside0 (w26.heap[gb183]? = some (.cells #[.int .i64 0, .int .i64 0] 25 (0, 0))) := ⟨h3_⟩
           have n4_ : Aside0 (w.heap.size ≤ gb182) := ⟨h4_⟩
           have n5_ : Aside0 (w.heap.size ≤ gb182) := ⟨h5_⟩
           have n6_ : Aside0 (gb174 ≠ gb182) := ⟨h6_⟩
           have n7_ : Aside0 (gb182 ≠ gb174) := ⟨h7_⟩
           have n8_ : Aside0 (gb175 ≠ gb182) := ⟨h8_⟩
           have n9_ : Aside0 (gb182 ≠ gb175) := ⟨h9_⟩
           have n10_ : Aside0 (gb183 ≠ gb182) := ⟨h10_⟩
           have n11_ : Aside0 (gb182 ≠ gb183) := ⟨h11_⟩
           have n12_ : Aside0 (w.heap.size ≤ gb183) := ⟨h12_⟩
           have n13_ : Aside0 (w.heap.size ≤ gb183) := ⟨h13_⟩
           have n14_ : Aside0 (gb174 ≠ gb183) := ⟨h14_⟩
           have n15_ : Aside0 (gb183 ≠ gb174) := ⟨h15_⟩
           have n16_ : Aside0 (gb175 ≠ gb183) := ⟨h16_⟩
           have n17_ : Aside0 (gb183 ≠ gb175) := ⟨h17_⟩
           have n18_ : Aside0 (Below w.heap.size w w26) := ⟨h18_⟩
           clear BK174 BK175 HB h0_ h1_ h2_ h3_ h4_ h5_ h6_ h7_ h8_ h9_ h10_ h11_ h12_ h13_ h14_ h15_ h16_ h17_ h18_
           have BK174 := n0_
           have BK175 := n1_
           have BK182 := n2_
           have BK183 := n3_
           have GW182 := n4_
           have GE182 := n5_
           have NB174_182 := n6_
           have NB182_174 := n7_
           have NB175_182 := n8_
           have NB182_175 := n9_
           have NB183_182 := n10_
           have NB182_183 := n11_
           have GW183 := n12_
           have GE183 := n13_
           have NB174_183 := n14_
           have NB183_174 := n15_
           have NB175_183 := n16_
           have NB183_175 := n17_
           have HB := n18_
           clear n0_ n1_ n2_ n3_ n4_ n5_ n6_ n7_ n8_ n9_ n10_ n11_ n12_ n13_ n14_ n15_ n16_ n17_ n18_
           have hHeld : w26.cell? ⟨gb174, 0, none⟩ = some (.string a0_0) ∧ w26.cell? ⟨gb174, 1, none⟩ = some (.int .i64 a0_1) ∧ w26.cell? ⟨gb174, 2, none⟩ = some (.int .i64 a0_2) ∧ w26.cell? ⟨gb174, 3, none⟩ = some (.int .i64 a0_3) ∧ w26.cell? ⟨gb174, 4, none⟩ = some (.int .i64 a0_4) ∧ w26.cell? ⟨gb174, 5, none⟩ = some (.int .i64 a0_5) ∧ w26.cell? ⟨gb174, 6, none⟩ = some (.int .i64 a0_6) ∧ w26.cell? ⟨gb174, 7, none⟩ = some (.int .i64 a0_7) ∧ w26.cell? ⟨gb174, 8, none⟩ = some (.slice A0_8 l0_8.length c0_8) ∧ w26.cell? ⟨gb175, 0, none⟩ = some (.string a1_0) ∧ w26.cell? ⟨gb175, 1, none⟩ = some (.int .i64 a1_1) ∧ w26.cell? ⟨gb175, 2, none⟩ = some (.int .i64 a1_2) ∧ w26.cell? ⟨gb175, 3, none⟩ = some (.int .i64 a1_3) ∧ w26.cell? ⟨gb175, 4, none⟩ = some (.int .i64 a1_4) ∧ w26.cell? ⟨gb175, 5, none⟩ = some (.int .i64 a1_5) ∧ w26.cell? ⟨gb175, 6, none⟩ = some (.int .i64 a1_6) ∧ w26.cell? ⟨gb175, 7, none⟩ = some (.int .i64 a1_7) ∧ w26.cell? ⟨gb175, 8, none⟩ = some (.slice A1_8 l1_8.length c1_8) := hS_
           refine norm_ (a' := ?_) ?_ ?_
           rotate_left
           ·simp only [putAll, Act.put, zx, zy, zz]
            rfl
           refine one_ (i := 5) (N := some 27) #[true, true, true, true, true, true, true, true, false, false] rfl rfl (one_of HT_.out (by kernel_rfl)) (by decide) (fun K hK => ?_)
           refine goes_ Try.func74 (by kernel_rfl) rfl #[.agg #[.string a1_0, .int .i64 a1_1, .int .i64 a1_2, .int .i64 a1_3, .int .i64 a1_4, .int .i64 a1_5, .int .i64 a1_6, .int .i64 a1_7, .slice A1_8 l1_8.length c1_8], .int .i64 x5_1] (by rfl) rfl rfl (by (try simp only [List.map_toArray, List.map_cons, List.map_nil]); first | done | rfl | (simp only [List.length_drop, List.length_take]; rfl)) ?_
           with_reducible refine (metrolabref18_Along.calls a1_0 a1_1 a1_2 a1_3 a1_4 a1_5 a1_6 a1_7 _ _ l1_8 x5_1 t180 t181 _ ?side1 ?side2 A20.out).mono ?_
           (case side1 => repeat (first | exact (Kd.C_below HR1_8.out HB.out) | (with_reducible refine Kd.C_alloc ?_ _) | (with_reducible refine Kd.C_drewN ?_ _) | (with_reducible refine Kd.C_drew ?_)))
           (case side2 => exact HC1_8.out)
           rintro e w27 ⟨rfl, hb⟩
           refine ⟨_, rfl, ?_⟩
           have n0_ := zm (zb (g := gb174) (by (with_reducible repeat first | apply zd | apply ze | apply za); exact BK174.out) hb)
           have n1_ := zm (zb (g := gb175) (by (with_reducible repeat first | apply zd | apply ze | apply za); exact BK175.out) hb)
           have n2_ := zm (zb (g := gb182) (by (with_reducible repeat first | apply zd | apply ze | apply za); exact BK182.out) hb)
           have n3_ := zm (zb (g := gb183) (by (with_reducible repeat first | apply zd | apply ze | apply za); exact BK183.out) hb)
           have n4_ := zm (below_step (by repeat (first | (with_reducible first | exact HB.out | apply zA | apply zD | apply zE | refine zS ?_ GE174.out | refine zS ?_ GE175.out | refine zS ?_ GE182.out | refine zS ?_ GE183.out) | exact HB.out)) hb)
           clear BK174 BK175 BK182 BK183 HB
           have BK174 := n0_
           have BK175 := n1_
           have BK182 := n2_
           have BK183 := n3_
           have HB := n4_
           clear n0_ n1_ n2_ n3_ n4_
           (try clear hb)
           (try clear hb2)
           (try clear hk)
           (try clear hi)
           refine hK.out _ _ ⟨(blk_cell BK174.out 0).trans rfl, (blk_cell BK174.out 1).trans rfl, (blk_cell BK174.out 2).trans rfl, (blk_cell BK174.out 3).trans rfl, (blk_cell BK174.out 4).trans rfl, (blk_cell BK174.out 5).trans rfl, (blk_cell BK174.out 6).trans rfl, (blk_cell BK174.out 7).trans rfl, (blk_cell BK174.out 8).trans rfl, (blk_cell BK175.out 0).trans rfl, (blk_cell BK175.out 1).trans rfl, (blk_cell BK175.out 2).trans rfl, (blk_cell BK175.out 3).trans rfl, (blk_cell BK175.out 4).trans rfl, (blk_cell BK175.out 5).trans rfl, (blk_cell BK175.out 6).trans rfl, (blk_cell BK175.out 7).trans rfl, (blk_cell BK175.out 8).trans rfl⟩ (fun hHeld => ?_)
           clear hK K
           refine norm_ (a' := ?_) ?_ ?_
           rotate_left
           ·show Act.put _ (some 27) _ = _
            simp only [Act.put, zx, zy, zz, i64_w, i32_w]
            rfl
           exact norm_ (by first | (simp only [putAll, Act.put, zx, zy, zz]; done) | (simp only [putAll, Act.put, zx, zy, zz]; rfl)) (hJ2_5_6_7 (gb182, gb183) _ ⟨hHeld, (by (with_reducible repeat first | apply zd | apply ze | apply za); exact BK174.out), (by (with_reducible repeat first | apply zd | apply ze | apply za); exact BK175.out), (by (with_reducible repeat first | apply zd | apply ze | apply za); exact BK182.out), (by (with_reducible repeat first | apply zd | apply ze | apply za); exact BK183.out), GW182.out, GE182.out, NB174_182.out, NB182_174.out, NB175_182.out, NB182_175.out, NB183_182.out, NB182_183.out, GW183.out, GE183.out, NB174_183.out, NB183_174.out, NB175_183.out, NB183_175.out, (by repeat (first | (with_reducible first | exact HB.out | apply zA | apply zD | apply zE | refine zS ?_ GE174.out | refine zS ?_ GE175.out | refine zS ?_ GE182.out | refine zS ?_ GE183.out) | exact HB.out))⟩)
         ·skip
          rintro gb183 w26 ⟨hS_, h0_, h1_, h2_, h3_, h4_, h5_, h6_, h7_, h8_, h9_⟩
          have n0_ : Aside0 (w26.heap[gb174]? = some (.cells #[.string a0_0, .int .i64 a0_1, .int .i64 a0_2, .int .i64 a0_3, .int .i64 a0_4, .int .i64 a0_5, .int .i64 a0_6, .int .i64 a0_7, .slice A0_8 l0_8.length c0_8] 28 (0, 0))) := ⟨h0_⟩
          have n1_ : Aside0 (w26.heap[gb175]? = some (.cells #[.string a1_0, .int .i64 a1_1, .int .i64 a1_2, .int .i64 a1_3, .int .i64 a1_4, .int .i64 a1_5, .int .i64 a1_6, .int .i64 a1_7, .slice A1_8 l1_8.length c1_8] 28 (0, 0))) := ⟨h1_⟩
          have n2_ : Aside0 (w26.heap[gb183]? = some (.cells #[.int .i64 0, .int .i64 0] 25 (0, 0))) := ⟨h2_⟩
          have n3_ : Aside0 (w.heap.size ≤ gb183) := ⟨h3_⟩
          have n4_ : Aside0 (w.heap.size ≤ gb183) := ⟨h4_⟩
          have n5_ : Aside0 (gb174 ≠ gb183) := ⟨h5_⟩
          have n6_ : Aside0 (gb183 ≠ gb174) := ⟨h6_⟩
          have n7_ : Aside0 (gb175 ≠ gb183) := ⟨h7_⟩
          have n8_ : Aside0 (gb183 ≠ gb175) := ⟨h8_⟩
          have n9_ : Aside0 (Below w.heap.size w w26) := ⟨h9_⟩
          clear BK174 BK175 HB h0_ h1_ h2_ h3_ h4_ h5_ h6_ h7_ h8_ h9_
          have BK174 := n0_
          have BK175 := n1_
          have BK183 := n2_
          have GW183 := n3_
          have GE183 := n4_
          have NB174_183 := n5_
          have NB183_174 := n6_
          have NB175_183 := n7_
          have NB183_175 := n8_
          have HB := n9_
          clear n0_ n1_ n2_ n3_ n4_ n5_ n6_ n7_ n8_ n9_
          have hHeld : w26.cell? ⟨gb174, 0, none⟩ = some (.string a0_0) ∧ w26.cell? ⟨gb174, 1, none⟩ = some (.int .i64 a0_1) ∧ w26.cell? ⟨gb174, 2, none⟩ = some (.int .i64 a0_2) ∧ w26.cell? ⟨gb174, 3, none⟩ = some (.int .i64 a0_3) ∧ w26.cell? ⟨gb174, 4, none⟩ = some (.int .i64 a0_4) ∧ w26.cell? ⟨gb174, 5, none⟩ = some (.int .i64 a0_5) ∧ w26.cell? ⟨gb174, 6, none⟩ = some (.int .i64 a0_6) ∧ w26.cell? ⟨gb174, 7, none⟩ = some (.int .i64 a0_7) ∧ w26.cell? ⟨gb174, 8, none⟩ = some (.slice A0_8 l0_8.length c0_8) ∧ w26.cell? ⟨gb175, 0, none⟩ = some (.string a1_0) ∧ w26.cell? ⟨gb175, 1, none⟩ = some (.int .i64 a1_1) ∧ w26.cell? ⟨gb175, 2, none⟩ = some (.int .i64 a1_2) ∧ w26.cell? ⟨gb175, 3, none⟩ = some (.int .i64 a1_3) ∧ w26.cell? ⟨gb175, 4, none⟩ = some (.int .i64 a1_4) ∧ w26.cell? ⟨gb175, 5, none⟩ = some (.int .i64 a1_5) ∧ w26.cell? ⟨gb175, 6, none⟩ = some (.int .i64 a1_6) ∧ w26.cell? ⟨gb175, 7, none⟩ = some (.int .i64 a1_7) ∧ w26.cell? ⟨gb175, 8, none⟩ = some (.slice A1_8 l1_8.length c1_8) := hS_
          refine norm_ (a' := ?_) ?_ ?_
          rotate_left
          ·simp only [putAll, Act.put, zx, zy, zz]
           rfl
          refine one_ (i := 6) (N := some 6) #[true, true, true, true, true, true, true, true, false, false] rfl rfl (one_of HT_.out (by kernel_rfl)) (by decide) (fun K hK => ?_)
          refine box_step ?hg (N := 6) ?hd (cs := #[.int .i64 0, .int .i64 0]) (t := 25) ?hr ?_; (case hd => rfl); (case hg => rfl); (case hr => first | (go_simp; done) | (go_simp; rfl))
          intro gb182 hg w27 hbox hb
          have n0_ := zm (zb (g := gb174) (by (with_reducible repeat first | apply zd | apply ze | apply za); exact BK174.out) hb)
          have n1_ := zm (zb (g := gb175) (by (with_reducible repeat first | apply zd | apply ze | apply za); exact BK175.out) hb)
          have n2_ := zm (zb (g := gb183) (by (with_reducible repeat first | apply zd | apply ze | apply za); exact BK183.out) hb)
          have n3_ := zm (below_step (by repeat (first | (with_reducible first | exact HB.out | apply zA | apply zD | apply zE | refine zS ?_ GE174.out | refine zS ?_ GE175.out | refine zS ?_ GE183.out) | exact HB.out)) hb)
          have n4_ := zm (hbox)
          have n5_ := zm ((by rw [hg]; exact (below_size (by repeat (first | (with_reducible first | exact HB.out | apply zA | apply zD | apply zE | refine zS ?_ GE174.out | refine zS ?_ GE175.out | refine zS ?_ GE183.out) | exact HB.out))) : w.heap.size ≤ gb182))
          have n6_ := zm ((by rw [hg]; exact (below_size (by repeat (first | (with_reducible first | exact HB.out | apply zA | apply zD | apply zE | refine zS ?_ GE174.out | refine zS ?_ GE175.out | refine zS ?_ GE183.out) | exact HB.out))) : w.heap.size ≤ gb182))
          have n7_ := zm ((by rw [hg]; exact Nat.ne_of_lt (blk_lt (g := gb174) (by (with_reducible repeat first | apply zd | apply ze | apply za); exact BK174.out)) : gb174 ≠ gb182))
          have n8_ := zm ((by rw [hg]; exact Nat.ne_of_gt (blk_lt (g := gb174) (by (with_reducible repeat first | apply zd | apply ze | apply za); exact BK174.out)) : gb182 ≠ gb174))
          have n9_ := zm ((by rw [hg]; exact Nat.ne_of_lt (blk_lt (g := gb175) (by (with_reducible repeat first | apply zd | apply ze | apply za); exact BK175.out)) : gb175 ≠ gb182))
          have n10_ := zm ((by rw [hg]; exact Nat.ne_of_gt (blk_lt (g := gb175) (by (with_reducible repeat first | apply zd | apply ze | apply za); exact BK175.out)) : gb182 ≠ gb175))
          have n11_ := zm ((by rw [hg]; exact Nat.ne_of_lt (blk_lt (g := gb183) (by (with_reducible repeat first | apply zd | apply ze | apply za); exact BK183.out)) : gb183 ≠ gb182))
          have n12_ := zm ((by rw [hg]; exact Nat.ne_of_gt (blk_lt (g := gb183) (by (with_reducible repeat first | apply zd | apply ze | apply za); exact BK183.out)) : gb182 ≠ gb183))
          clear BK174 BK175 BK183 HB
          have BK174 := n0_
          have BK175 := n1_
          have BK183 := n2_
          have HB := n3_
          have BK182 := n4_
          have GW182 := n5_
          have GE182 := n6_
          have NB174_182 := n7_
          have NB182_174 := n8_
          have NB175_182 := n9_
          have NB182_175 := n10_
          have NB183_182 := n11_
          have NB182_183 := n12_
          clear n0_ n1_ n2_ n3_ n4_ n5_ n6_ n7_ n8_ n9_ n10_ n11_ n12_ hb hbox hg
          refine hK.out _ _ ⟨(blk_cell BK174.out 0).trans rfl, (blk_cell BK174.out 1).trans rfl, (blk_cell BK174.out 2).trans rfl, (blk_cell BK174.out 3).trans rfl, (blk_cell BK174.out 4).trans rfl, (blk_cell BK174.out 5).trans rfl, (blk_cell BK174.out 6).trans rfl, (blk_cell BK174.out 7).trans rfl, (blk_cell BK174.out 8).trans rfl, (blk_cell BK175.out 0).trans rfl, (blk_cell BK175.out 1).trans rfl, (blk_cell BK175.out 2).trans rfl, (blk_cell BK175.out 3).trans rfl, (blk_cell BK175.out 4).trans rfl, (blk_cell BK175.out 5).trans rfl, (blk_cell BK175.out 6).trans rfl, (blk_cell BK175.out 7).trans rfl, (blk_cell BK175.out 8).trans rfl⟩ (fun hHeld => ?_)
          clear hK K
          refine norm_ (a' := ?_) ?_ ?_
          rotate_left
          ·show Act.put _ (some 6) _ = _
           simp only [Act.put, zx, zy, zz, i64_w, i32_w]
           rfl
          exact norm_ (by first | (simp only [putAll, Act.put, zx, zy, zz]; done) | (simp only [putAll, Act.put, zx, zy, zz]; rfl)) (hJ2_5_6_7 (gb182, gb183) _ ⟨hHeld, (by (with_reducible repeat first | apply zd | apply ze | apply za); exact BK174.out), (by (with_reducible repeat first | apply zd | apply ze | apply za); exact BK175.out), (by (with_reducible repeat first | apply zd | apply ze | apply za); exact BK182.out), (by (with_reducible repeat first | apply zd | apply ze | apply za); exact BK183.out), GW182.out, GE182.out, NB174_182.out, NB182_174.out, NB175_182.out, NB182_175.out, NB183_182.out, NB182_183.out, GW183.out, GE183.out, NB174_183.out, NB183_174.out, NB175_183.out, NB183_175.out, (by repeat (first | (with_reducible first | exact HB.out | apply zA | apply zD | apply zE | refine zS ?_ GE174.out | refine zS ?_ GE175.out | refine zS ?_ GE183.out | refine zS ?_ GE182.out) | exact HB.out))⟩)
        ·skip
         rintro gb182 w26 ⟨hS_, h0_, h1_, h2_, h3_, h4_, h5_, h6_, h7_, h8_, h9_⟩
         have n0_ : Aside0 (w26.heap[gb174]? = some (.cells #[.string a0_0, .int .i64 a0_1, .int .i64 a0_2, .int .i64 a0_3, .int .i64 a0_4, .int .i64 a0_5, .int .i64 a0_6, .int .i64 a0_7, .slice A0_8 l0_8.length c0_8] 28 (0, 0))) := ⟨h0_⟩
         have n1_ : Aside0 (w26.heap[gb175]? = some (.cells #[.string a1_0, .int .i64 a1_1, .int .i64 a1_2, .int .i64 a1_3, .int .i64 a1_4, .int .i64 a1_5, .int .i64 a1_6, .int .i64 a1_7, .slice A1_8 l1_8.length c1_8] 28 (0, 0))) := ⟨h1_⟩
         have n2_ : Aside0 (w26.heap[gb182]? = some (.cells #[.int .i64 0, .int .i64 0] 25 (0, 0))) := ⟨h2_⟩
         have n3_ : Aside0 (w.heap.size ≤ gb182) := ⟨h3_⟩
         have n4_ : Aside0 (w.heap.size ≤ gb182) := ⟨h4_⟩
         have n5_ : Aside0 (gb174 ≠ gb182) := ⟨h5_⟩
         have n6_ : Aside0 (gb182 ≠ gb174) := ⟨h6_⟩
         have n7_ : Aside0 (gb175 ≠ gb182) := ⟨h7_⟩
         have n8_ : Aside0 (gb182 ≠ gb175) := ⟨h8_⟩
         have n9_ : Aside0 (Below w.heap.size w w26) := ⟨h9_⟩
         clear BK174 BK175 HB h0_ h1_ h2_ h3_ h4_ h5_ h6_ h7_ h8_ h9_
         have BK174 := n0_
         have BK175 := n1_
         have BK182 := n2_
         have GW182 := n3_
         have GE182 := n4_
         have NB174_182 := n5_
         have NB182_174 := n6_
         have NB175_182 := n7_
         have NB182_175 := n8_
         have HB := n9_
         clear n0_ n1_ n2_ n3_ n4_ n5_ n6_ n7_ n8_ n9_
         have hHeld : w26.cell? ⟨gb174, 0, none⟩ = some (.string a0_0) ∧ w26.cell? ⟨gb174, 1, none⟩ = some (.int .i64 a0_1) ∧ w26.cell? ⟨gb174, 2, none⟩ = some (.int .i64 a0_2) ∧ w26.cell? ⟨gb174, 3, none⟩ = some (.int .i64 a0_3) ∧ w26.cell? ⟨gb174, 4, none⟩ = some (.int .i64 a0_4) ∧ w26.cell? ⟨gb174, 5, none⟩ = some (.int .i64 a0_5) ∧ w26.cell? ⟨gb174, 6, none⟩ = some (.int .i64 a0_6) ∧ w26.cell? ⟨gb174, 7, none⟩ = some (.int .i64 a0_7) ∧ w26.cell? ⟨gb174, 8, none⟩ = some (.slice A0_8 l0_8.length c0_8) ∧ w26.cell? ⟨gb175, 0, none⟩ = some (.string a1_0) ∧ w26.cell? ⟨gb175, 1, none⟩ = some (.int .i64 a1_1) ∧ w26.cell? ⟨gb175, 2, none⟩ = some (.int .i64 a1_2) ∧ w26.cell? ⟨gb175, 3, none⟩ = some (.int .i64 a1_3) ∧ w26.cell? ⟨gb175, 4, none⟩ = some (.int .i64 a1_4) ∧ w26.cell? ⟨gb175, 5, none⟩ = some (.int .i64 a1_5) ∧ w26.cell? ⟨gb175, 6, none⟩ = some (.int .i64 a1_6) ∧ w26.cell? ⟨gb175, 7, none⟩ = some (.int .i64 a1_7) ∧ w26.cell? ⟨gb175, 8, none⟩ = some (.slice A1_8 l1_8.length c1_8) := hS_
         refine norm_ (a' := ?_) ?_ ?_
         rotate_left
         ·simp only [putAll, Act.put, zx, zy, zz]
          rfl
         refine one_ (i := 7) (N := some 7) #[true, true, true, true, true, true, true, true, false, false] rfl rfl (one_of HT_.out (by kernel_rfl)) (by decide) (fun K hK => ?_)
         refine box_step ?hg (N := 7) ?hd (cs := #[.int .i64 0, .int .i64 0]) (t := 25) ?hr ?_; (case hd => rfl); (case hg => rfl); (case hr => first | (go_simp; done) | (go_simp; rfl))
         intro gb183 hg w27 hbox hb
         have n0_ := zm (zb (g := gb174) (by (with_reducible repeat first | apply zd | apply ze | apply za); exact BK174.out) hb)
         have n1_ := zm (zb (g := gb175) (by (with_reducible repeat first | apply zd | apply ze | apply za); exact BK175.out) hb)
         have n2_ := zm (zb (g := gb182) (by (with_reducible repeat first | apply zd | apply ze | apply za); exact BK182.out) hb)
         have n3_ := zm (below_step (by repeat (first | (with_reducible first | exact HB.out | apply zA | apply zD | apply zE | refine zS ?_ GE174.out | refine zS ?_ GE175.out | refine zS ?_ GE182.out) | exact HB.out)) hb)
         have n4_ := zm (hbox)
         have n5_ := zm ((by rw [hg]; exact (below_size (by repeat (first | (with_reducible first | exact HB.out | apply zA | apply zD | apply zE | refine zS ?_ GE174.out | refine zS ?_ GE175.out | refine zS ?_ GE182.out) | exact HB.out))) : w.heap.size ≤ gb183))
         have n6_ := zm ((by rw [hg]; exact (below_size (by repeat (first | (with_reducible first | exact HB.out | apply zA | apply zD | apply zE | refine zS ?_ GE174.out | refine zS ?_ GE175.out | refine zS ?_ GE182.out) | exact HB.out))) : w.heap.size ≤ gb183))
         have n7_ := zm ((by rw [hg]; exact Nat.ne_of_lt (blk_lt (g := gb174) (by (with_reducible repeat first | apply zd | apply ze | apply za); exact BK174.out)) : gb174 ≠ gb183))
         have n8_ := zm ((by rw [hg]; exact Nat.ne_of_gt (blk_lt (g := gb174) (by (with_reducible repeat first | apply zd | apply ze | apply za); exact BK174.out)) : gb183 ≠ gb174))
         have n9_ := zm ((by rw [hg]; exact Nat.ne_of_lt (blk_lt (g := gb175) (by (with_reducible repeat first | apply zd | apply ze | apply za); exact BK175.out)) : gb175 ≠ gb183))
         have n10_ := zm ((by rw [hg]; exact Nat.ne_of_gt (blk_lt (g := gb175) (by (with_reducible repeat first | apply zd | apply ze | apply za); exact BK175.out)) : gb183 ≠ gb175))
         have n11_ := zm ((by rw [hg]; exact Nat.ne_of_lt (blk_lt (g := gb182) (by (with_reducible repeat first | apply zd | apply ze | apply za); exact BK182.out)) : gb182 ≠ gb183))
         have n12_ := zm ((by rw [hg]; exact Nat.ne_of_gt (blk_lt (g := gb182) (by (with_reducible repeat first | apply zd | apply ze | apply za); exact BK182.out)) : gb183 ≠ gb182))
         clear BK174 BK175 BK182 HB
         have BK174 := n0_
         have BK175 := n1_
         have BK182 := n2_
         have HB := n3_
         have BK183 := n4_
         have GW183 := n5_
         have GE183 := n6_
         have NB174_183 := n7_
         have NB183_174 := n8_
         have NB175_183 := n9_
         have NB183_175 := n10_
         have NB182_183 := n11_
         have NB183_182 := n12_
         clear n0_ n1_ n2_ n3_ n4_ n5_ n6_ n7_ n8_ n9_ n10_ n11_ n12_ hb hbox hg
         refine hK.out _ _ ⟨(blk_cell BK174.out 0).trans rfl, (blk_cell BK174.out 1).trans rfl, (blk_cell BK174.out 2).trans rfl, (blk_cell BK174.out 3).trans rfl, (blk_cell BK174.out 4).trans rfl, (blk_cell BK174.out 5).trans rfl, (blk_cell BK174.out 6).trans rfl, (blk_cell BK174.out 7).trans rfl, (blk_cell BK174.out 8).trans rfl, (blk_cell BK175.out 0).trans rfl, (blk_cell BK175.out 1).trans rfl, (blk_cell BK175.out 2).trans rfl, (blk_cell BK175.out 3).trans rfl, (blk_cell BK175.out 4).trans rfl, (blk_cell BK175.out 5).trans rfl, (blk_cell BK175.out 6).trans rfl, (blk_cell BK175.out 7).trans rfl, (blk_cell BK175.out 8).trans rfl⟩ (fun hHeld => ?_)
         clear hK K
         refine norm_ (a' := ?_) ?_ ?_
         rotate_left
         ·show Act.put _ (some 7) _ = _
          simp only [Act.put, zx, zy, zz, i64_w, i32_w]
          rfl
         exact norm_ (by first | (simp only [putAll, Act.put, zx, zy, zz]; done) | (simp only [putAll, Act.put, zx, zy, zz]; rfl)) (hJ2_5_6_7 (gb182, gb183) _ ⟨hHeld, (by (with_reducible repeat first | apply zd | apply ze | apply za); exact BK174.out), (by (with_reducible repeat first | apply zd | apply ze | apply za); exact BK175.out), (by (with_reducible repeat first | apply zd | apply ze | apply za); exact BK182.out), (by (with_reducible repeat first | apply zd | apply ze | apply za); exact BK183.out), GW182.out, GE182.out, NB174_182.out, NB182_174.out, NB175_182.out, NB182_175.out, NB183_182.out, NB182_183.out, GW183.out, GE183.out, NB174_183.out, NB183_174.out, NB175_183.out, NB183_175.out, (by repeat (first | (with_reducible first | exact HB.out | apply zA | apply zD | apply zE | refine zS ?_ GE174.out | refine zS ?_ GE175.out | refine zS ?_ GE182.out | refine zS ?_ GE183.out) | exact HB.out))⟩)
       rintro ⟨gb182, gb183⟩ w27 ⟨hS_, h0_, h1_, h2_, h3_, h4_, h5_, h6_, h7_, h8_, h9_, h10_, h11_, h12_, h13_, h14_, h15_, h16_, h17_, h18_⟩
       have n0_ : Aside0 (w27.heap[gb174]? = some (.cells #[.string a0_0, .int .i64 a0_1, .int .i64 a0_2, .int .i64 a0_3, .int .i64 a0_4, .int .i64 a0_5, .int .i64 a0_6, .int .i64 a0_7, .slice A0_8 l0_8.length c0_8] 28 (0, 0))) := ⟨h0_⟩
       have n1_ : Aside0 (w27.heap[gb175]? = some (.cells #[.string a1_0, .int .i64 a1_1, .int .i64 a1_2, .int .i64 a1_3, .int .i64 a1_4, .int .i64 a1_5, .int .i64 a1_6, .int .i64 a1_7, .slice A1_8 l1_8.length c1_8] 28 (0, 0))) := ⟨h1_⟩
       have n2_ : Aside0 (w27.heap[gb182]? = some (.cells #[.int .i64 0, .int .i64 0] 25 (0, 0))) := ⟨h2_⟩
       have n3_ : Aside0 (w27.heap[gb183]? = some (.cells #[.int .i64 0, .int .i64 0] 25 (0, 0))) := ⟨h3_⟩
       have n4_ : Aside0 (w.heap.size ≤ gb182) := ⟨h4_⟩
       have n5_ : Aside0 (w.heap.size ≤ gb182) := ⟨h5_⟩
       have n6_ : Aside0 (gb174 ≠ gb182) := ⟨h6_⟩
       have n7_ : Aside0 (gb182 ≠ gb174) := ⟨h7_⟩
       have n8_ : Aside0 (gb175 ≠ gb182) := ⟨h8_⟩
       have n9_ : Aside0 (gb182 ≠ gb175) := ⟨h9_⟩
       have n10_ : Aside0 (gb183 ≠ gb182) := ⟨h10_⟩
       have n11_ : Aside0 (gb182 ≠ gb183) := ⟨h11_⟩
       have n12_ : Aside0 (w.heap.size ≤ gb183) := ⟨h12_⟩
       have n13_ : Aside0 (w.heap.size ≤ gb183) := ⟨h13_⟩
       have n14_ : Aside0 (gb174 ≠ gb183) := ⟨h14_⟩
       have n15_ : Aside0 (gb183 ≠ gb174) := ⟨h15_⟩
       have n16_ : Aside0 (gb175 ≠ gb183) := ⟨h16_⟩
       have n17_ : Aside0 (gb183 ≠ gb175) := ⟨h17_⟩
       have n18_ : Aside0 (Below w.heap.size w w27) := ⟨h18_⟩
       clear BK174 BK175 HB h0_ h1_ h2_ h3_ h4_ h5_ h6_ h7_ h8_ h9_ h10_ h11_ h12_ h13_ h14_ h15_ h16_ h17_ h18_
       have BK174 := n0_
       have BK175 := n1_
       have BK182 := n2_
       have BK183 := n3_
       have GW182 := n4_
       have GE182 := n5_
       have NB174_182 := n6_
       have NB182_174 := n7_
       have NB175_182 := n8_
       have NB182_175 := n9_
       have NB183_182 := n10_
       have NB182_183 := n11_
       have GW183 := n12_
       have GE183 := n13_
       have NB174_183 := n14_
       have NB183_174 := n15_
       have NB175_183 := n16_
       have NB183_175 := n17_
       have HB := n18_
       clear n0_ n1_ n2_ n3_ n4_ n5_ n6_ n7_ n8_ n9_ n10_ n11_ n12_ n13_ n14_ n15_ n16_ n17_ n18_
       have hHeld : w27.cell? ⟨gb174, 0, none⟩ = some (.string a0_0) ∧ w27.cell? ⟨gb174, 1, none⟩ = some (.int .i64 a0_1) ∧ w27.cell? ⟨gb174, 2, none⟩ = some (.int .i64 a0_2) ∧ w27.cell? ⟨gb174, 3, none⟩ = some (.int .i64 a0_3) ∧ w27.cell? ⟨gb174, 4, none⟩ = some (.int .i64 a0_4) ∧ w27.cell? ⟨gb174, 5, none⟩ = some (.int .i64 a0_5) ∧ w27.cell? ⟨gb174, 6, none⟩ = some (.int .i64 a0_6) ∧ w27.cell? ⟨gb174, 7, none⟩ = some (.int .i64 a0_7) ∧ w27.cell? ⟨gb174, 8, none⟩ = some (.slice A0_8 l0_8.length c0_8) ∧ w27.cell? ⟨gb175, 0, none⟩ = some (.string a1_0) ∧ w27.cell? ⟨gb175, 1, none⟩ = some (.int .i64 a1_1) ∧ w27.cell? ⟨gb175, 2, none⟩ = some (.int .i64 a1_2) ∧ w27.cell? ⟨gb175, 3, none⟩ = some (.int .i64 a1_3) ∧ w27.cell? ⟨gb175, 4, none⟩ = some (.int .i64 a1_4) ∧ w27.cell? ⟨gb175, 5, none⟩ = some (.int .i64 a1_5) ∧ w27.cell? ⟨gb175, 6, none⟩ = some (.int .i64 a1_6) ∧ w27.cell? ⟨gb175, 7, none⟩ = some (.int .i64 a1_7) ∧ w27.cell? ⟨gb175, 8, none⟩ = some (.slice A1_8 l1_8.length c1_8) := hS_
       refine norm_ (a' := ?_) ?_ ?_
       rotate_left
       ·simp only [putAll, Act.put, zx, zy, zz]
        rfl
       refine one_ (i := 8) (N := none) #[true, true, true, true, true, true, true, true, true, false] rfl rfl (one_of HT_.out (by kernel_rfl)) (by decide) (fun K hK => ?_)
       have hs28 := zc BK182.out 0 (.int .i64 0) rfl
       have hfs28 := zf BK182.out 0
       have hns28_0 := NB174_182.out
       have hns28_1 := NB175_182.out
       have hns28_3 := NB183_182.out
       have hms28_0 := NB182_174.out
       have hms28_1 := NB182_175.out
       have hms28_3 := NB182_183.out
       have hs29 := zc BK182.out 1 (.int .i64 0) rfl
       have hfs29 := zf BK182.out 1
       have hns29_0 := NB174_182.out
       have hns29_1 := NB175_182.out
       have hns29_3 := NB183_182.out
       have hms29_0 := NB182_174.out
       have hms29_1 := NB182_175.out
       have hms29_3 := NB182_183.out
       refine skip_ (w1 := ?_) (by rfl) rfl ?_ ?_
       rotate_left
       ·go_simp
        rfl
       refine hK.out _ _ ⟨((cell_far (p := ⟨gb182, _, none⟩) NB174_182.out _).trans (((cell_far (p := ⟨gb182, _, none⟩) NB174_182.out _).trans (hHeld.1)))), ((cell_far (p := ⟨gb182, _, none⟩) NB174_182.out _).trans (((cell_far (p := ⟨gb182, _, none⟩) NB174_182.out _).trans (hHeld.2.1)))), ((cell_far (p := ⟨gb182, _, none⟩) NB174_182.out _).trans (((cell_far (p := ⟨gb182, _, none⟩) NB174_182.out _).trans (hHeld.2.2.1)))), ((cell_far (p := ⟨gb182, _, none⟩) NB174_182.out _).trans (((cell_far (p := ⟨gb182, _, none⟩) NB174_182.out _).trans (hHeld.2.2.2.1)))), ((cell_far (p := ⟨gb182, _, none⟩) NB174_182.out _).trans (((cell_far (p := ⟨gb182, _, none⟩) NB174_182.out _).trans (hHeld.2.2.2.2.1)))), ((cell_far (p := ⟨gb182, _, none⟩) NB174_182.out _).trans (((cell_far (p := ⟨gb182, _, none⟩) NB174_182.out _).trans (hHeld.2.2.2.2.2.1)))), ((cell_far (p := ⟨gb182, _, none⟩) NB174_182.out _).trans (((cell_far (p := ⟨gb182, _, none⟩) NB174_182.out _).trans (hHeld.2.2.2.2.2.2.1)))), ((cell_far (p := ⟨gb182, _, none⟩) NB174_182.out _).trans (((cell_far (p := ⟨gb182, _, none⟩) NB174_182.out _).trans (hHeld.2.2.2.2.2.2.2.1)))), ((cell_far (p := ⟨gb182, _, none⟩) NB174_182.out _).trans (((cell_far (p := ⟨gb182, _, none⟩) NB174_182.out _).trans (hHeld.2.2.2.2.2.2.2.2.1)))), ((cell_far (p := ⟨gb182, _, none⟩) NB175_182.out _).trans (((cell_far (p := ⟨gb182, _, none⟩) NB175_182.out _).trans (hHeld.2.2.2.2.2.2.2.2.2.1)))), ((cell_far (p := ⟨gb182, _, none⟩) NB175_182.out _).trans (((cell_far (p := ⟨gb182, _, none⟩) NB175_182.out _).trans (hHeld.2.2.2.2.2.2.2.2.2.2.1)))), ((cell_far (p := ⟨gb182, _, none⟩) NB175_182.out _).trans (((cell_far (p := ⟨gb182, _, none⟩) NB175_182.out _).trans (hHeld.2.2.2.2.2.2.2.2.2.2.2.1)))), ((cell_far (p := ⟨gb182, _, none⟩) NB175_182.out _).trans (((cell_far (p := ⟨gb182, _, none⟩) NB175_182.out _).trans (hHeld.2.2.2.2.2.2.2.2.2.2.2.2.1)))), ((cell_far (p := ⟨gb182, _, none⟩) NB175_182.out _).trans (((cell_far (p := ⟨gb182, _, none⟩) NB175_182.out _).trans (hHeld.2.2.2.2.2.2.2.2.2.2.2.2.2.1)))), ((cell_far (p := ⟨gb182, _, none⟩) NB175_182.out _).trans (((cell_far (p := ⟨gb182, _, none⟩) NB175_182.out _).trans (hHeld.2.2.2.2.2.2.2.2.2.2.2.2.2.2.1)))), ((cell_far (p := ⟨gb182, _, none⟩) NB175_182.out _).trans (((cell_far (p := ⟨gb182, _, none⟩) NB175_182.out _).trans (hHeld.2.2.2.2.2.2.2.2.2.2.2.2.2.2.2.1)))), ((cell_far (p := ⟨gb182, _, none⟩) NB175_182.out _).trans (((cell_far (p := ⟨gb182, _, none⟩) NB175_182.out _).trans (hHeld.2.2.2.2.2.2.2.2.2.2.2.2.2.2.2.2.1)))), ((cell_far (p := ⟨gb182, _, none⟩) NB175_182.out _).trans (((cell_far (p := ⟨gb182, _, none⟩) NB175_182.out _).trans (hHeld.2.2.2.2.2.2.2.2.2.2.2.2.2.2.2.2.2))))⟩ (fun hHeld => ?_)
       clear hK K
       refine one_ (i := 9) (N := none) #[true, true, true, true, true, true, true, true, true, true] rfl rfl (one_of HT_.out (by kernel_rfl)) (by decide) (fun K hK => ?_)
       have hs30 := zc BK183.out 0 (.int .i64 0) rfl
       have hfs30 := zf BK183.out 0
       have hns30_0 := NB174_183.out
       have hns30_1 := NB175_183.out
       have hns30_2 := NB182_183.out
       have hms30_0 := NB183_174.out
       have hms30_1 := NB183_175.out
       have hms30_2 := NB183_182.out
       have hs31 := zc BK183.out 1 (.int .i64 0) rfl
       have hfs31 := zf BK183.out 1
       have hns31_0 := NB174_183.out
       have hns31_1 := NB175_183.out
       have hns31_2 := NB182_183.out
       have hms31_0 := NB183_174.out
       have hms31_1 := NB183_175.out
       have hms31_2 := NB183_182.out
       refine skip_ (w1 := ?_) (by rfl) rfl ?_ ?_
       rotate_left
       ·go_simp
        rfl
       refine hK.out _ _ ⟨((cell_far (p := ⟨gb183, _, none⟩) NB174_183.out _).trans (((cell_far (p := ⟨gb183, _, none⟩) NB174_183.out _).trans (hHeld.1)))), ((cell_far (p := ⟨gb183, _, none⟩) NB174_183.out _).trans (((cell_far (p := ⟨gb183, _, none⟩) NB174_183.out _).trans (hHeld.2.1)))), ((cell_far (p := ⟨gb183, _, none⟩) NB174_183.out _).trans (((cell_far (p := ⟨gb183, _, none⟩) NB174_183.out _).trans (hHeld.2.2.1)))), ((cell_far (p := ⟨gb183, _, none⟩) NB174_183.out _).trans (((cell_far (p := ⟨gb183, _, none⟩) NB174_183.out _).trans (hHeld.2.2.2.1)))), ((cell_far (p := ⟨gb183, _, none⟩) NB174_183.out _).trans (((cell_far (p := ⟨gb183, _, none⟩) NB174_183.out _).trans (hHeld.2.2.2.2.1)))), ((cell_far (p := ⟨gb183, _, none⟩) NB174_183.out _).trans (((cell_far (p := ⟨gb183, _, none⟩) NB174_183.out _).trans (hHeld.2.2.2.2.2.1)))), ((cell_far (p := ⟨gb183, _, none⟩) NB174_183.out _).trans (((cell_far (p := ⟨gb183, _, none⟩) NB174_183.out _).trans (hHeld.2.2.2.2.2.2.1)))), ((cell_far (p := ⟨gb183, _, none⟩) NB174_183.out _).trans (((cell_far (p := ⟨gb183, _, none⟩) NB174_183.out _).trans (hHeld.2.2.2.2.2.2.2.1)))), ((cell_far (p := ⟨gb183, _, none⟩) NB174_183.out _).trans (((cell_far (p := ⟨gb183, _, none⟩) NB174_183.out _).trans (hHeld.2.2.2.2.2.2.2.2.1)))), ((cell_far (p := ⟨gb183, _, none⟩) NB175_183.out _).trans (((cell_far (p := ⟨gb183, _, none⟩) NB175_183.out _).trans (hHeld.2.2.2.2.2.2.2.2.2.1)))), ((cell_far (p := ⟨gb183, _, none⟩) NB175_183.out _).trans (((cell_far (p := ⟨gb183, _, none⟩) NB175_183.out _).trans (hHeld.2.2.2.2.2.2.2.2.2.2.1)))), ((cell_far (p := ⟨gb183, _, none⟩) NB175_183.out _).trans (((cell_far (p := ⟨gb183, _, none⟩) NB175_183.out _).trans (hHeld.2.2.2.2.2.2.2.2.2.2.2.1)))), ((cell_far (p := ⟨gb183, _, none⟩) NB175_183.out _).trans (((cell_far (p := ⟨gb183, _, none⟩) NB175_183.out _).trans (hHeld.2.2.2.2.2.2.2.2.2.2.2.2.1)))), ((cell_far (p := ⟨gb183, _, none⟩) NB175_183.out _).trans (((cell_far (p := ⟨gb183, _, none⟩) NB175_183.out _).trans (hHeld.2.2.2.2.2.2.2.2.2.2.2.2.2.1)))), ((cell_far (p := ⟨gb183, _, none⟩) NB175_183.out _).trans (((cell_far (p := ⟨gb183, _, none⟩) NB175_183.out _).trans (hHeld.2.2.2.2.2.2.2.2.2.2.2.2.2.2.1)))), ((cell_far (p := ⟨gb183, _, none⟩) NB175_183.out _).trans (((cell_far (p := ⟨gb183, _, none⟩) NB175_183.out _).trans (hHeld.2.2.2.2.2.2.2.2.2.2.2.2.2.2.2.1)))), ((cell_far (p := ⟨gb183, _, none⟩) NB175_183.out _).trans (((cell_far (p := ⟨gb183, _, none⟩) NB175_183.out _).trans (hHeld.2.2.2.2.2.2.2.2.2.2.2.2.2.2.2.2.1)))), ((cell_far (p := ⟨gb183, _, none⟩) NB175_183.out _).trans (((cell_far (p := ⟨gb183, _, none⟩) NB175_183.out _).trans (hHeld.2.2.2.2.2.2.2.2.2.2.2.2.2.2.2.2.2))))⟩ (fun hHeld => ?_)
       clear hK K
       refine done_ (done_of HT_.out (by kernel_rfl)) ?_
       have H := HX_.out
       clear HX_
       by_cases c21 : t179 < t180
       ·rw [if_pos c21] at H
        have c21b0 : decide (t179 < t180) = true := decide_eq_true c21
        clear c21
        obtain rfl := Option.some.inj H
        have hnb32 := NB182_174.out
        have hnc32 := NB174_182.out
        have hnb33 := NB182_175.out
        have hnc33 := NB175_182.out
        have hnb34 := NB182_183.out
        have hnc34 := NB183_182.out
        have hcz35_0 := zc BK182.out 0 (.int .i64 0) rfl
        have hcz35_1 := zc BK182.out 1 (.int .i64 0) rfl
        have hfz35_0 := zf BK182.out 0
        have hfz35_1 := zf BK182.out 1
        have hnb36 := NB183_174.out
        have hnc36 := NB174_183.out
        have hnb37 := NB183_175.out
        have hnc37 := NB175_183.out
        have hcz38_0 := zc BK183.out 0 (.int .i64 0) rfl
        have hcz38_1 := zc BK183.out 1 (.int .i64 0) rfl
        have hfz38_0 := zf BK183.out 0
        have hfz38_1 := zf BK183.out 1
        try go_wp2
        go_ret
        exact ⟨by first | rfl | (simp [errW_none, errW_some] <;> rfl) | (simp [*, errW_none, errW_some] <;> rfl), by repeat (first | (with_reducible first | exact HB.out | apply zA | apply zD | apply zE | refine zS ?_ GE174.out | refine zS ?_ GE175.out | refine zS ?_ GE182.out | refine zS ?_ GE183.out) | exact HB.out)⟩
       ·rw [if_neg c21] at H
        have c21b0 : decide (t179 < t180) = false := decide_eq_false c21
        clear c21
        by_cases c39 : t181 < t178
        ·rw [if_pos c39] at H
         have c39b0 : decide (t181 < t178) = true := decide_eq_true c39
         clear c39
         obtain rfl := Option.some.inj H
         have hnb50 := NB182_174.out
         have hnc50 := NB174_182.out
         have hnb51 := NB182_175.out
         have hnc51 := NB175_182.out
         have hnb52 := NB182_183.out
         have hnc52 := NB183_182.out
         have hcz53_0 := zc BK182.out 0 (.int .i64 0) rfl
         have hcz53_1 := zc BK182.out 1 (.int .i64 0) rfl
         have hfz53_0 := zf BK182.out 0
         have hfz53_1 := zf BK182.out 1
         have hnb54 := NB183_174.out
         have hnc54 := NB174_183.out
         have hnb55 := NB183_175.out
         have hnc55 := NB175_183.out
         have hcz56_0 := zc BK183.out 0 (.int .i64 0) rfl
         have hcz56_1 := zc BK183.out 1 (.int .i64 0) rfl
         have hfz56_0 := zf BK183.out 0
         have hfz56_1 := zf BK183.out 1
         try go_wp2
         go_ret
         exact ⟨by first | rfl | (simp [errW_none, errW_some] <;> rfl) | (simp [*, errW_none, errW_some] <;> rfl), by repeat (first | (with_reducible first | exact HB.out | apply zA | apply zD | apply zE | refine zS ?_ GE174.out | refine zS ?_ GE175.out | refine zS ?_ GE182.out | refine zS ?_ GE183.out) | exact HB.out)⟩
        ·rw [if_neg c39] at H
         have c39b0 : decide (t181 < t178) = false := decide_eq_false c39
         clear c39
         have H' := zm H
         clear H
         have hnb67 := NB182_174.out
         have hnc67 := NB174_182.out
         have hnb68 := NB182_175.out
         have hnc68 := NB175_182.out
         have hnb69 := NB182_183.out
         have hnc69 := NB183_182.out
         have hcz70_0 := zc BK182.out 0 (.int .i64 0) rfl
         have hcz70_1 := zc BK182.out 1 (.int .i64 0) rfl
         have hfz70_0 := zf BK182.out 0
         have hfz70_1 := zf BK182.out 1
         have hnb71 := NB183_174.out
         have hnc71 := NB174_183.out
         have hnb72 := NB183_175.out
         have hnc72 := NB175_183.out
         have hcz73_0 := zc BK183.out 0 (.int .i64 0) rfl
         have hcz73_1 := zc BK183.out 1 (.int .i64 0) rfl
         have hfz73_0 := zf BK183.out 0
         have hfz73_1 := zf BK183.out 1
         try go_wp2
         go_roundg kj5
         case measure => have := HK1.out; have := HJ5.out; omega
         case rel => exact ⟨(wrap64 (x5_1 + 1)), (by first | rfl | (simp; done) | (simp [*]; done)), H', ⟨by have := HK1.out; have := HJ5.out; omega⟩, ⟨by (with_reducible repeat first | apply zd | apply ze | apply za); refine blk_far ?_ NB174_183.out _; (with_reducible repeat first | apply zd | apply ze | apply za); refine blk_far ?_ NB174_183.out _; (with_reducible repeat first | apply zd | apply ze | apply za); refine blk_far ?_ NB174_182.out _; (with_reducible repeat first | apply zd | apply ze | apply za); refine blk_far ?_ NB174_182.out _; (with_reducible repeat first | apply zd | apply ze | apply za); exact BK174.out⟩, ⟨by (with_reducible repeat first | apply zd | apply ze | apply za); refine blk_far ?_ NB175_183.out _; (with_reducible repeat first | apply zd | apply ze | apply za); refine blk_far ?_ NB175_183.out _; (with_reducible repeat first | apply zd | apply ze | apply za); refine blk_far ?_ NB175_182.out _; (with_reducible repeat first | apply zd | apply ze | apply za); refine blk_far ?_ NB175_182.out _; (with_reducible repeat first | apply zd | apply ze | apply za); exact BK175.out⟩, ⟨by repeat (first | (with_reducible first | exact HB.out | apply zA | apply zD | apply zE | refine zS ?_ GE174.out | refine zS ?_ GE175.out | refine zS ?_ GE182.out | refine zS ?_ GE183.out) | exact HB.out)⟩⟩
   ·rw [if_neg c5] at H
    have c5b0 : decide (x5_1 < 3) = false := decide_eq_false c5
    clear c5
    obtain rfl := Option.some.inj H
    go_wp2
    go_ret
    exact ⟨by first | rfl | (simp [errW_none, errW_some] <;> rfl) | (simp [*, errW_none, errW_some] <;> rfl), by repeat (first | (with_reducible first | exact HB.out | apply zA | apply zD | apply zE | refine zS ?_ GE174.out | refine zS ?_ GE175.out) | exact HB.out)⟩
end Go.Proofs.Ytkgdlbepjmgaiaa.Fea
