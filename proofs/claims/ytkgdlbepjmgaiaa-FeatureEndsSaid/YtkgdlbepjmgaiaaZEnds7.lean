/- FeatureEnds: for every input the law returns true, and each argument reads behind the call as it read before: the row, out of the walk and the plain law. No condition. -/
import Derived.Test.YtkgdlbepjmgaiaaProg
import Derived.WalkKit
import Derived.ProofKit
import Derived.ChangeArms
import Derived.SizedLaws
import Derived.Test.YtkgdlbepjmgaiaaRows
import Derived.OpenShut
import Derived.ShutString
import Derived.ChangeOld
import Derived.Below
import Derived.Test.YtkgdlbepjmgaiaaZEnds6
namespace Go.Proofs.Ytkgdlbepjmgaiaa.Fea
open Go.RowKit Go.Proofs.YtkgdlbepjmgaiaaW.PrintWords Go.Proofs.YtkgdlbepjmgaiaaW.PrintLast Go.Proofs.YtkgdlbepjmgaiaaW.PrintMore
attribute [local go_sem] max2_int min2_int max_two min_two max_three min_three max_four min_four
set_option linter.unusedVariables false
set_option linter.unusedSimpArgs false
def metrolablaw18_right.f (k : Nat) (a0_0 : ByteArray) (a0_1 : Int) (a0_2 : Int) (a0_3 : Int) (a0_4 : Int) (a0_5 : Int) (a0_6 : Int) (a0_7 : Int) (l0_8 : List (S104)) : Option (Bool) := (metrolabref18_Few.f k a0_0 a0_1 a0_2 a0_3 a0_4 a0_5 a0_6 a0_7 l0_8).bind fun t245 => (if t245 = true then ((metrolabref18_Check.f k a0_0 a0_1 a0_2 a0_3 a0_4 a0_5 a0_6 a0_7 l0_8).bind fun t246 => (some (t246 == 0))) else (some false))
theorem metrolablaw18_right.mono : ∀ a0 a1 a2 a3 a4 a5 a6 a7 a8 k, LeO (metrolablaw18_right.f k a0 a1 a2 a3 a4 a5 a6 a7 a8) (metrolablaw18_right.f (k + 1) a0 a1 a2 a3 a4 a5 a6 a7 a8) := by
 intro a0 a1 a2 a3 a4 a5 a6 a7 a8 k
 unfold metrolablaw18_right.f
 repeat' first
  | (with_reducible exact metrolabref18_Check.mono _ _ _ _ _ _ _ _ _ _)
  | (with_reducible exact metrolabref18_Few.mono _ _ _ _ _ _ _ _ _ _)
  | (with_reducible exact LeO.refl _)
  | (with_reducible exact LeO.none _)
  | (with_reducible refine LeO.ite ?_ ?_)
  | (with_reducible refine LeO.bind ?_ (fun _ => ?_))
  | exact metrolabref18_Check.mono _ _ _ _ _ _ _ _ _ _
  | exact metrolabref18_Few.mono _ _ _ _ _ _ _ _ _ _
  | exact LeO.none _
  | refine LeO.ite ?_ ?_
  | refine LeO.bind ?_ (fun _ => ?_)
set_option maxHeartbeats 8000000 in
set_option maxRecDepth 100000 in
theorem metrolablaw18_right.calls (k : Nat) (a0_0 : ByteArray) (a0_1 : Int) (a0_2 : Int) (a0_3 : Int) (a0_4 : Int) (a0_5 : Int) (a0_6 : Int) (a0_7 : Int) (A0_8 : Option Addr) (c0_8 : Nat) (l0_8 : List (S104)) (r : Bool) (w : World) (hr0_8 : Kd.C k104 w A0_8 l0_8.length l0_8) (hc0_8 : l0_8.length ≤ c0_8) (h : metrolablaw18_right.f k a0_0 a0_1 a0_2 a0_3 a0_4 a0_5 a0_6 a0_7 l0_8 = some r) :
 Calls Try.prog 31 #[.agg #[.string a0_0, .int .i64 a0_1, .int .i64 a0_2, .int .i64 a0_3, .int .i64 a0_4, .int .i64 a0_5, .int .i64 a0_6, .int .i64 a0_7, .slice A0_8 l0_8.length c0_8]] w fun e w' => e = .returned (.bool r) ∧ Below w.heap.size w w' := by
 have hu28 := Try.underlying28
 have HR0_8 := Aside0.mk hr0_8
 have HC0_8 := Aside0.mk hc0_8
 clear hr0_8 hc0_8
 have HB := Aside0.mk (Below.refl w.heap.size w)
 have H : ((metrolabref18_Few.f k a0_0 a0_1 a0_2 a0_3 a0_4 a0_5 a0_6 a0_7 l0_8).bind fun t245 => (if t245 = true then ((metrolabref18_Check.f k a0_0 a0_1 a0_2 a0_3 a0_4 a0_5 a0_6 a0_7 l0_8).bind fun t246 => (some (t246 == 0))) else (some false))) = some r := h
 clear h
 replace H := Option.bind_eq_some_iff.mp H
 obtain ⟨t245, A20, H⟩ := H
 replace H : (if t245 = true then ((metrolabref18_Check.f k a0_0 a0_1 a0_2 a0_3 a0_4 a0_5 a0_6 a0_7 l0_8).bind fun t246 => (some (t246 == 0))) else (some false)) = some r := H
 have A2 := Aside0.mk A20
 clear A20
 by_cases c3 : t245 = true
 ·subst c3
  have H1 : ((metrolabref18_Check.f k a0_0 a0_1 a0_2 a0_3 a0_4 a0_5 a0_6 a0_7 l0_8).bind fun t246 => (some (t246 == 0))) = some r := by rw [if_pos rfl] at H; exact H
  clear H
  have H := H1
  clear H1
  replace H := Option.bind_eq_some_iff.mp H
  obtain ⟨t246, A40, H⟩ := H
  replace H : (some (t246 == 0)) = some r := H
  have A4 := Aside0.mk A40
  clear A40
  obtain rfl := Option.some.inj H
  go_enter Try.func31, Try.ntmps31
  go_wp2_with (first | ((with_reducible refine gate_dst (N := 1) rfl ?_); refine box_event ?hg (N := 1) ?hd (cs := #[.string a0_0, .int .i64 a0_1, .int .i64 a0_2, .int .i64 a0_3, .int .i64 a0_4, .int .i64 a0_5, .int .i64 a0_6, .int .i64 a0_7, .slice A0_8 l0_8.length c0_8]) (t := 28) ?hr ?_; (case hd => rfl); (case hg => rfl); (case hr => first | (go_simp; done) | (go_simp; rfl)); intro gb244 hg w5 hbox hb; have n0_ := Aside0.mk (below_step (by repeat (first | (with_reducible first | exact HB.out | apply below_alloc | apply pw_below_drewN | apply below_drew1) | exact HB.out)) hb); have n1_ := Aside0.mk (hbox); have n2_ := Aside0.mk ((by rw [hg]; exact (below_size (by repeat (first | (with_reducible first | exact HB.out | apply below_alloc | apply pw_below_drewN | apply below_drew1) | exact HB.out))) : w.heap.size ≤ gb244)); have n3_ := Aside0.mk ((by rw [hg]; exact (below_size (by repeat (first | (with_reducible first | exact HB.out | apply below_alloc | apply pw_below_drewN | apply below_drew1) | exact HB.out))) : w.heap.size ≤ gb244)); clear HB; have HB := n0_; have BK244 := n1_; have GW244 := n2_; have GE244 := n3_; clear n0_ n1_ n2_ n3_; clear hb hbox hg; have hcz6_0 : w5.cell? ⟨gb244, 0, none⟩ = some (.string a0_0) := (blk_cell BK244.out 0).trans rfl; have hcz6_1 : w5.cell? ⟨gb244, 1, none⟩ = some (.int .i64 a0_1) := (blk_cell BK244.out 1).trans rfl; have hcz6_2 : w5.cell? ⟨gb244, 2, none⟩ = some (.int .i64 a0_2) := (blk_cell BK244.out 2).trans rfl; have hcz6_3 : w5.cell? ⟨gb244, 3, none⟩ = some (.int .i64 a0_3) := (blk_cell BK244.out 3).trans rfl; have hcz6_4 : w5.cell? ⟨gb244, 4, none⟩ = some (.int .i64 a0_4) := (blk_cell BK244.out 4).trans rfl; have hcz6_5 : w5.cell? ⟨gb244, 5, none⟩ = some (.int .i64 a0_5) := (blk_cell BK244.out 5).trans rfl; have hcz6_6 : w5.cell? ⟨gb244, 6, none⟩ = some (.int .i64 a0_6) := (blk_cell BK244.out 6).trans rfl; have hcz6_7 : w5.cell? ⟨gb244, 7, none⟩ = some (.int .i64 a0_7) := (blk_cell BK244.out 7).trans rfl; have hcz6_8 : w5.cell? ⟨gb244, 8, none⟩ = some (.slice A0_8 l0_8.length c0_8) := (blk_cell BK244.out 8).trans rfl; have hfz6_0 := blk_frozen BK244.out 0; have hfz6_1 := blk_frozen BK244.out 1; have hfz6_2 := blk_frozen BK244.out 2; have hfz6_3 := blk_frozen BK244.out 3; have hfz6_4 := blk_frozen BK244.out 4; have hfz6_5 := blk_frozen BK244.out 5; have hfz6_6 := blk_frozen BK244.out 6; have hfz6_7 := blk_frozen BK244.out 7; have hfz6_8 := blk_frozen BK244.out 8) | ((with_reducible refine gate_callee (f := 17) rfl ?_); refine goesL_ (some 4) rfl rfl Try.func17 (by kernel_rfl) rfl #[.agg #[.string a0_0, .int .i64 a0_1, .int .i64 a0_2, .int .i64 a0_3, .int .i64 a0_4, .int .i64 a0_5, .int .i64 a0_6, .int .i64 a0_7, .slice A0_8 l0_8.length c0_8]] rfl (by (try simp only [List.map_toArray, List.map_cons, List.map_nil]); first | done | rfl | (simp only [List.length_drop, List.length_take]; rfl)) ?_; (with_reducible refine (metrolabref18_Few.calls k a0_0 a0_1 a0_2 a0_3 a0_4 a0_5 a0_6 a0_7 _ _ l0_8 true _ ?side1 ?side2 A2.out).mono ?_); (case side1 => repeat (first | exact (Kd.C_below HR0_8.out HB.out) | (with_reducible refine Kd.C_alloc ?_ _) | (with_reducible refine Kd.C_drewN ?_ _) | (with_reducible refine Kd.C_drew ?_))); (case side2 => exact HC0_8.out); rintro e w7 ⟨rfl, hb⟩; refine ⟨_, rfl, ?_⟩; have n0_ := Aside0.mk (blk_below (g := gb244) (o := .cells #[.string a0_0, .int .i64 a0_1, .int .i64 a0_2, .int .i64 a0_3, .int .i64 a0_4, .int .i64 a0_5, .int .i64 a0_6, .int .i64 a0_7, .slice A0_8 l0_8.length c0_8] 28 (0, 0)) (by (with_reducible repeat first | apply blk_drewN | apply blk_drew | apply blk_alloc); exact BK244.out) hb); have n1_ := Aside0.mk (below_step (by repeat (first | (with_reducible first | exact HB.out | apply below_alloc | apply pw_below_drewN | apply below_drew1 | refine below_set ?_ GE244.out) | exact HB.out)) hb); clear BK244; clear HB; have BK244 := n0_; have HB := n1_; clear n0_ n1_; (try clear hb); (try clear hb2); (try clear hk); (try clear hi); have hcz8_0 : w7.cell? ⟨gb244, 0, none⟩ = some (.string a0_0) := (blk_cell BK244.out 0).trans rfl; have hcz8_1 : w7.cell? ⟨gb244, 1, none⟩ = some (.int .i64 a0_1) := (blk_cell BK244.out 1).trans rfl; have hcz8_2 : w7.cell? ⟨gb244, 2, none⟩ = some (.int .i64 a0_2) := (blk_cell BK244.out 2).trans rfl; have hcz8_3 : w7.cell? ⟨gb244, 3, none⟩ = some (.int .i64 a0_3) := (blk_cell BK244.out 3).trans rfl; have hcz8_4 : w7.cell? ⟨gb244, 4, none⟩ = some (.int .i64 a0_4) := (blk_cell BK244.out 4).trans rfl; have hcz8_5 : w7.cell? ⟨gb244, 5, none⟩ = some (.int .i64 a0_5) := (blk_cell BK244.out 5).trans rfl; have hcz8_6 : w7.cell? ⟨gb244, 6, none⟩ = some (.int .i64 a0_6) := (blk_cell BK244.out 6).trans rfl; have hcz8_7 : w7.cell? ⟨gb244, 7, none⟩ = some (.int .i64 a0_7) := (blk_cell BK244.out 7).trans rfl; have hcz8_8 : w7.cell? ⟨gb244, 8, none⟩ = some (.slice A0_8 l0_8.length c0_8) := (blk_cell BK244.out 8).trans rfl; have hfz8_0 := blk_frozen BK244.out 0; have hfz8_1 := blk_frozen BK244.out 1; have hfz8_2 := blk_frozen BK244.out 2; have hfz8_3 := blk_frozen BK244.out 3; have hfz8_4 := blk_frozen BK244.out 4; have hfz8_5 := blk_frozen BK244.out 5; have hfz8_6 := blk_frozen BK244.out 6; have hfz8_7 := blk_frozen BK244.out 7; have hfz8_8 := blk_frozen BK244.out 8) | (go_at_call 30; (with_reducible refine (metrolabref18_Check.calls k a0_0 a0_1 a0_2 a0_3 a0_4 a0_5 a0_6 a0_7 _ _ l0_8 t246 _ ?side1 ?side2 A4.out).mono ?_); (case side1 => repeat (first | exact (Kd.C_below HR0_8.out HB.out) | (with_reducible refine Kd.C_alloc ?_ _) | (with_reducible refine Kd.C_drewN ?_ _) | (with_reducible refine Kd.C_drew ?_))); (case side2 => exact HC0_8.out); rintro e w9 ⟨rfl, hb⟩; have n0_ := Aside0.mk (blk_below (g := gb244) (o := .cells #[.string a0_0, .int .i64 a0_1, .int .i64 a0_2, .int .i64 a0_3, .int .i64 a0_4, .int .i64 a0_5, .int .i64 a0_6, .int .i64 a0_7, .slice A0_8 l0_8.length c0_8] 28 (0, 0)) (by (with_reducible repeat first | apply blk_drewN | apply blk_drew | apply blk_alloc); exact BK244.out) hb); have n1_ := Aside0.mk (below_step (by repeat (first | (with_reducible first | exact HB.out | apply below_alloc | apply pw_below_drewN | apply below_drew1 | refine below_set ?_ GE244.out) | exact HB.out)) hb); clear BK244; clear HB; have BK244 := n0_; have HB := n1_; clear n0_ n1_; (try clear hb); (try clear hb2); (try clear hk); (try clear hi)))
  go_ret
  exact ⟨by first | rfl | (simp [errW_none, errW_some] <;> rfl) | (simp [*, errW_none, errW_some] <;> rfl), by repeat (first | (with_reducible first | exact HB.out | apply below_alloc | apply pw_below_drewN | apply below_drew1 | refine below_set ?_ GE244.out) | exact HB.out)⟩
 ·replace c3 := Bool.eq_false_iff.mpr c3
  subst c3
  have H1 : (some false) = some r := by rw [if_neg (show ¬ (false = true) by decide)] at H; exact H
  clear H
  have H := H1
  clear H1
  obtain rfl := Option.some.inj H
  go_enter Try.func31, Try.ntmps31
  go_wp2_with (first | ((with_reducible refine gate_dst (N := 1) rfl ?_); refine box_event ?hg (N := 1) ?hd (cs := #[.string a0_0, .int .i64 a0_1, .int .i64 a0_2, .int .i64 a0_3, .int .i64 a0_4, .int .i64 a0_5, .int .i64 a0_6, .int .i64 a0_7, .slice A0_8 l0_8.length c0_8]) (t := 28) ?hr ?_; (case hd => rfl); (case hg => rfl); (case hr => first | (go_simp; done) | (go_simp; rfl)); intro gb244 hg w10 hbox hb; have n0_ := Aside0.mk (below_step (by repeat (first | (with_reducible first | exact HB.out | apply below_alloc | apply pw_below_drewN | apply below_drew1) | exact HB.out)) hb); have n1_ := Aside0.mk (hbox); have n2_ := Aside0.mk ((by rw [hg]; exact (below_size (by repeat (first | (with_reducible first | exact HB.out | apply below_alloc | apply pw_below_drewN | apply below_drew1) | exact HB.out))) : w.heap.size ≤ gb244)); have n3_ := Aside0.mk ((by rw [hg]; exact (below_size (by repeat (first | (with_reducible first | exact HB.out | apply below_alloc | apply pw_below_drewN | apply below_drew1) | exact HB.out))) : w.heap.size ≤ gb244)); clear HB; have HB := n0_; have BK244 := n1_; have GW244 := n2_; have GE244 := n3_; clear n0_ n1_ n2_ n3_; clear hb hbox hg; have hcz11_0 : w10.cell? ⟨gb244, 0, none⟩ = some (.string a0_0) := (blk_cell BK244.out 0).trans rfl; have hcz11_1 : w10.cell? ⟨gb244, 1, none⟩ = some (.int .i64 a0_1) := (blk_cell BK244.out 1).trans rfl; have hcz11_2 : w10.cell? ⟨gb244, 2, none⟩ = some (.int .i64 a0_2) := (blk_cell BK244.out 2).trans rfl; have hcz11_3 : w10.cell? ⟨gb244, 3, none⟩ = some (.int .i64 a0_3) := (blk_cell BK244.out 3).trans rfl; have hcz11_4 : w10.cell? ⟨gb244, 4, none⟩ = some (.int .i64 a0_4) := (blk_cell BK244.out 4).trans rfl; have hcz11_5 : w10.cell? ⟨gb244, 5, none⟩ = some (.int .i64 a0_5) := (blk_cell BK244.out 5).trans rfl; have hcz11_6 : w10.cell? ⟨gb244, 6, none⟩ = some (.int .i64 a0_6) := (blk_cell BK244.out 6).trans rfl; have hcz11_7 : w10.cell? ⟨gb244, 7, none⟩ = some (.int .i64 a0_7) := (blk_cell BK244.out 7).trans rfl; have hcz11_8 : w10.cell? ⟨gb244, 8, none⟩ = some (.slice A0_8 l0_8.length c0_8) := (blk_cell BK244.out 8).trans rfl; have hfz11_0 := blk_frozen BK244.out 0; have hfz11_1 := blk_frozen BK244.out 1; have hfz11_2 := blk_frozen BK244.out 2; have hfz11_3 := blk_frozen BK244.out 3; have hfz11_4 := blk_frozen BK244.out 4; have hfz11_5 := blk_frozen BK244.out 5; have hfz11_6 := blk_frozen BK244.out 6; have hfz11_7 := blk_frozen BK244.out 7; have hfz11_8 := blk_frozen BK244.out 8) | ((with_reducible refine gate_callee (f := 17) rfl ?_); refine goesL_ (some 4) rfl rfl Try.func17 (by kernel_rfl) rfl #[.agg #[.string a0_0, .int .i64 a0_1, .int .i64 a0_2, .int .i64 a0_3, .int .i64 a0_4, .int .i64 a0_5, .int .i64 a0_6, .int .i64 a0_7, .slice A0_8 l0_8.length c0_8]] rfl (by (try simp only [List.map_toArray, List.map_cons, List.map_nil]); first | done | rfl | (simp only [List.length_drop, List.length_take]; rfl)) ?_; (with_reducible refine (metrolabref18_Few.calls k a0_0 a0_1 a0_2 a0_3 a0_4 a0_5 a0_6 a0_7 _ _ l0_8 false _ ?side1 ?side2 A2.out).mono ?_); (case side1 => repeat (first | exact (Kd.C_below HR0_8.out HB.out) | (with_reducible refine Kd.C_alloc ?_ _) | (with_reducible refine Kd.C_drewN ?_ _) | (with_reducible refine Kd.C_drew ?_))); (case side2 => exact HC0_8.out); rintro e w12 ⟨rfl, hb⟩; refine ⟨_, rfl, ?_⟩; have n0_ := Aside0.mk (blk_below (g := gb244) (o := .cells #[.string a0_0, .int .i64 a0_1, .int .i64 a0_2, .int .i64 a0_3, .int .i64 a0_4, .int .i64 a0_5, .int .i64 a0_6, .int .i64 a0_7, .slice A0_8 l0_8.length c0_8] 28 (0, 0)) (by (with_reducible repeat first | apply blk_drewN | apply blk_drew | apply blk_alloc); exact BK244.out) hb); have n1_ := Aside0.mk (below_step (by repeat (first | (with_reducible first | exact HB.out | apply below_alloc | apply pw_below_drewN | apply below_drew1 | refine below_set ?_ GE244.out) | exact HB.out)) hb); clear BK244; clear HB; have BK244 := n0_; have HB := n1_; clear n0_ n1_; (try clear hb); (try clear hb2); (try clear hk); (try clear hi)))
  go_ret
  exact ⟨by first | rfl | (simp [errW_none, errW_some] <;> rfl) | (simp [*, errW_none, errW_some] <;> rfl), by repeat (first | (with_reducible first | exact HB.out | apply below_alloc | apply pw_below_drewN | apply below_drew1 | refine below_set ?_ GE244.out) | exact HB.out)⟩
end Go.Proofs.Ytkgdlbepjmgaiaa.Fea
namespace Go.Proofs.Ytkgdlbepjmgaiaa.Fea
open Go.RowKit Go.Proofs.YtkgdlbepjmgaiaaW.PrintWords Go.Proofs.YtkgdlbepjmgaiaaW.PrintLast Go.Proofs.YtkgdlbepjmgaiaaW.PrintMore
attribute [local go_sem] max2_int min2_int max_two min_two max_three min_three max_four min_four
set_option linter.unusedVariables false
set_option linter.unusedSimpArgs false
def metrolablaw18_FeatureEnds.j0 : Nat → Bool → ByteArray → Int → Int → Int → Int → Int → Int → Int → List (S104) → Option (Bool)
  | 0, _, _, _, _, _, _, _, _, _, _ => none
  | k + 1, x16, x248000, x248001, x248002, x248003, x248004, x248005, x248006, x248007, x248008 => if x16 = true then ((metrolablaw18_awake.f).bind fun t249 => (some t249)) else ((feature_Maximum.f k x248000 x248001 x248002 x248003 x248004 x248005 x248006 x248007 x248008).bind fun bt250 => ((feature_Least.f k x248000 x248001 x248002 x248003 x248004 x248005 x248006 x248007 x248008).bind fun bt252 => ((feature_Inner.f k x248000 x248001 x248002 x248003 x248004 x248005 x248006 x248007 x248008).bind fun bt254 => (if (wrap64 ((wrap64 (bt250.2 + bt252.2)) + bt254.2)) = 0 then (if x248001 = 1 then (if (bt254.1 != true) = true then (some false) else (if (mn bt250.1 bt252.1) = x248006 then (if (mx bt250.1 bt252.1) = x248007 then (if bt250.1 ≤ bt252.1 then (if bt250.1 ≥ bt252.1 then ((metrolablaw18_awake.f).bind fun t256 => (some t256)) else (if bt254.1 = true then ((metrolablaw18_awake.f).bind fun t257 => (some t257)) else (some false))) else (if bt254.1 = true then (some false) else (if bt250.1 ≥ bt252.1 then ((metrolablaw18_awake.f).bind fun t258 => (some t258)) else (some false)))) else (some false)) else (some false))) else (if (bt254.1 != (x248001 == 3)) = true then (some false) else (if (mn bt250.1 bt252.1) = x248006 then (if (mx bt250.1 bt252.1) = x248007 then (if bt250.1 ≤ bt252.1 then (if bt250.1 ≥ bt252.1 then ((metrolablaw18_awake.f).bind fun t259 => (some t259)) else (if bt254.1 = true then ((metrolablaw18_awake.f).bind fun t260 => (some t260)) else (some false))) else (if bt254.1 = true then (some false) else (if bt250.1 ≥ bt252.1 then ((metrolablaw18_awake.f).bind fun t261 => (some t261)) else (some false)))) else (some false)) else (some false)))) else (some false)))))
def metrolablaw18_FeatureEnds.f (k : Nat) (a0_0 : ByteArray) (a0_1 : Int) (a0_2 : Int) (a0_3 : Int) (a0_4 : Int) (a0_5 : Int) (a0_6 : Int) (a0_7 : Int) (l0_8 : List (S104)) : Option (Bool) := (metrolablaw18_right.f k a0_0 a0_1 a0_2 a0_3 a0_4 a0_5 a0_6 a0_7 l0_8).bind fun t248 => (if t248 = true then (metrolablaw18_FeatureEnds.j0 k (a0_1 == 0) a0_0 a0_1 a0_2 a0_3 a0_4 a0_5 a0_6 a0_7 l0_8) else (metrolablaw18_FeatureEnds.j0 k true a0_0 a0_1 a0_2 a0_3 a0_4 a0_5 a0_6 a0_7 l0_8))
theorem metrolablaw18_FeatureEnds.mono_l : ∀ k, (∀ y0 y1 y2 y3 y4 y5 y6 y7 y8 y9, LeO (metrolablaw18_FeatureEnds.j0 k y0 y1 y2 y3 y4 y5 y6 y7 y8 y9) (metrolablaw18_FeatureEnds.j0 (k + 1) y0 y1 y2 y3 y4 y5 y6 y7 y8 y9))
 | 0 => fun _ _ _ _ _ _ _ _ _ _ r h => by simp [metrolablaw18_FeatureEnds.j0] at h
 | k + 1 => by
  have ih0 := metrolablaw18_FeatureEnds.mono_l k
  ·intro y0 y1 y2 y3 y4 y5 y6 y7 y8 y9
   unfold metrolablaw18_FeatureEnds.j0
   repeat' first
   | (with_reducible exact ih0 _ _ _ _ _ _ _ _ _ _)
   | (with_reducible exact feature_Inner.mono _ _ _ _ _ _ _ _ _ _)
   | (with_reducible exact feature_Least.mono _ _ _ _ _ _ _ _ _ _)
   | (with_reducible exact feature_Maximum.mono _ _ _ _ _ _ _ _ _ _)
   | (with_reducible exact metrolablaw18_right.mono _ _ _ _ _ _ _ _ _ _)
   | (with_reducible exact LeO.refl _)
   | (with_reducible exact LeO.none _)
   | (with_reducible refine LeO.ite ?_ ?_)
   | (with_reducible refine LeO.bind ?_ (fun _ => ?_))
   | exact ih0 _ _ _ _ _ _ _ _ _ _
   | exact feature_Inner.mono _ _ _ _ _ _ _ _ _ _
   | exact feature_Least.mono _ _ _ _ _ _ _ _ _ _
   | exact feature_Maximum.mono _ _ _ _ _ _ _ _ _ _
   | exact metrolablaw18_right.mono _ _ _ _ _ _ _ _ _ _
   | exact LeO.none _
   | refine LeO.ite ?_ ?_
   | refine LeO.bind ?_ (fun _ => ?_)
theorem metrolablaw18_FeatureEnds.mono : ∀ a0 a1 a2 a3 a4 a5 a6 a7 a8 k, LeO (metrolablaw18_FeatureEnds.f k a0 a1 a2 a3 a4 a5 a6 a7 a8) (metrolablaw18_FeatureEnds.f (k + 1) a0 a1 a2 a3 a4 a5 a6 a7 a8) := by
 intro a0 a1 a2 a3 a4 a5 a6 a7 a8 k
 have ih0 := metrolablaw18_FeatureEnds.mono_l k
 unfold metrolablaw18_FeatureEnds.f
 repeat' first
  | (with_reducible exact ih0 _ _ _ _ _ _ _ _ _ _)
  | (with_reducible exact feature_Inner.mono _ _ _ _ _ _ _ _ _ _)
  | (with_reducible exact feature_Least.mono _ _ _ _ _ _ _ _ _ _)
  | (with_reducible exact feature_Maximum.mono _ _ _ _ _ _ _ _ _ _)
  | (with_reducible exact metrolablaw18_right.mono _ _ _ _ _ _ _ _ _ _)
  | (with_reducible exact LeO.refl _)
  | (with_reducible exact LeO.none _)
  | (with_reducible refine LeO.ite ?_ ?_)
  | (with_reducible refine LeO.bind ?_ (fun _ => ?_))
  | exact ih0 _ _ _ _ _ _ _ _ _ _
  | exact feature_Inner.mono _ _ _ _ _ _ _ _ _ _
  | exact feature_Least.mono _ _ _ _ _ _ _ _ _ _
  | exact feature_Maximum.mono _ _ _ _ _ _ _ _ _ _
  | exact metrolablaw18_right.mono _ _ _ _ _ _ _ _ _ _
  | exact LeO.none _
  | refine LeO.ite ?_ ?_
  | refine LeO.bind ?_ (fun _ => ?_)
set_option maxHeartbeats 8000000 in
set_option maxRecDepth 100000 in
theorem metrolablaw18_FeatureEnds.calls (k : Nat) (a0_0 : ByteArray) (a0_1 : Int) (a0_2 : Int) (a0_3 : Int) (a0_4 : Int) (a0_5 : Int) (a0_6 : Int) (a0_7 : Int) (A0_8 : Option Addr) (c0_8 : Nat) (l0_8 : List (S104)) (r : Bool) (w : World) (hr0_8 : Kd.C k104 w A0_8 l0_8.length l0_8) (hc0_8 : l0_8.length ≤ c0_8) (hrt : r = true) (h : metrolablaw18_FeatureEnds.f k a0_0 a0_1 a0_2 a0_3 a0_4 a0_5 a0_6 a0_7 l0_8 = some r) :
 Calls Try.prog 5 #[.agg #[.string a0_0, .int .i64 a0_1, .int .i64 a0_2, .int .i64 a0_3, .int .i64 a0_4, .int .i64 a0_5, .int .i64 a0_6, .int .i64 a0_7, .slice A0_8 l0_8.length c0_8]] w fun e w' => e = .returned (.bool r) ∧ Below w.heap.size w w' := by
 have HRT := Aside0.mk hrt
 clear hrt
 have hu28 := Try.underlying28
 have HR0_8 := Aside0.mk hr0_8
 have HC0_8 := Aside0.mk hc0_8
 clear hr0_8 hc0_8
 have HB := Aside0.mk (Below.refl w.heap.size w)
 have H : ((metrolablaw18_right.f k a0_0 a0_1 a0_2 a0_3 a0_4 a0_5 a0_6 a0_7 l0_8).bind fun t248 => (if t248 = true then (metrolablaw18_FeatureEnds.j0 k (a0_1 == 0) a0_0 a0_1 a0_2 a0_3 a0_4 a0_5 a0_6 a0_7 l0_8) else (metrolablaw18_FeatureEnds.j0 k true a0_0 a0_1 a0_2 a0_3 a0_4 a0_5 a0_6 a0_7 l0_8))) = some r := h
 clear h
 have HC2 := Aside0.mk H
 clear H
 go_enter Try.func5, Try.ntmps5
 go_upto_region 1 with (first | ((with_reducible refine gate_dst (N := 1) rfl ?_); (try (refine gate_guard (by rfl) ?_; dsimp only)); refine box_event ?hg (N := 1) ?hd (cs := #[.string a0_0, .int .i64 a0_1, .int .i64 a0_2, .int .i64 a0_3, .int .i64 a0_4, .int .i64 a0_5, .int .i64 a0_6, .int .i64 a0_7, .slice A0_8 l0_8.length c0_8]) (t := 28) ?hr ?_; (case hd => rfl); (case hg => rfl); (case hr => first | (go_simp; done) | (go_simp; rfl)); intro gb247 hg w3 hbox hb; have n0_ := Aside0.mk (below_step (by repeat (first | (with_reducible first | exact HB.out | apply below_alloc | apply pw_below_drewN | apply below_drew1) | exact HB.out)) hb); have n1_ := Aside0.mk (hbox); have n2_ := Aside0.mk ((by rw [hg]; exact (below_size (by repeat (first | (with_reducible first | exact HB.out | apply below_alloc | apply pw_below_drewN | apply below_drew1) | exact HB.out))) : w.heap.size ≤ gb247)); have n3_ := Aside0.mk ((by rw [hg]; exact (below_size (by repeat (first | (with_reducible first | exact HB.out | apply below_alloc | apply pw_below_drewN | apply below_drew1) | exact HB.out))) : w.heap.size ≤ gb247)); clear HB; have HB := n0_; have BK247 := n1_; have GW247 := n2_; have GE247 := n3_; clear n0_ n1_ n2_ n3_; clear hb hbox hg))
 (try simp only [Act.put, List.setIfInBounds_toArray, List.set_cons_zero, List.set_cons_succ])
 go_cut [16] (fun v16 wc => ∃ (kq : Nat) (x16_1 : Bool), v16 = .bool x16_1 ∧ Aside0 (metrolablaw18_FeatureEnds.j0 kq x16_1 a0_0 a0_1 a0_2 a0_3 a0_4 a0_5 a0_6 a0_7 l0_8 = some r) ∧ Aside0 (kq ≤ k) ∧ Aside0 (wc.heap[gb247]? = some (.cells #[.string a0_0, .int .i64 a0_1, .int .i64 a0_2, .int .i64 a0_3, .int .i64 a0_4, .int .i64 a0_5, .int .i64 a0_6, .int .i64 a0_7, (.slice A0_8 l0_8.length c0_8)] 28 (0, 0))) ∧ Aside0 (Below w.heap.size w wc))
 case first =>
  have H := HC2.out
  clear HC2
  replace H := Option.bind_eq_some_iff.mp H
  obtain ⟨t248, A40, H⟩ := H
  replace H : (if t248 = true then (metrolablaw18_FeatureEnds.j0 k (a0_1 == 0) a0_0 a0_1 a0_2 a0_3 a0_4 a0_5 a0_6 a0_7 l0_8) else (metrolablaw18_FeatureEnds.j0 k true a0_0 a0_1 a0_2 a0_3 a0_4 a0_5 a0_6 a0_7 l0_8)) = some r := H
  have A4 := Aside0.mk A40
  clear A40
  by_cases c5 : t248 = true
  ·subst c5
   have H1 : (metrolablaw18_FeatureEnds.j0 k (a0_1 == 0) a0_0 a0_1 a0_2 a0_3 a0_4 a0_5 a0_6 a0_7 l0_8) = some r := by rw [if_pos rfl] at H; exact H
   clear H
   have H := H1
   clear H1
   have H' := Aside0.mk H
   clear H
   have hcz6_0 : w3.cell? ⟨gb247, 0, none⟩ = some (.string a0_0) := (blk_cell BK247.out 0).trans rfl
   have hcz6_1 : w3.cell? ⟨gb247, 1, none⟩ = some (.int .i64 a0_1) := (blk_cell BK247.out 1).trans rfl
   have hcz6_2 : w3.cell? ⟨gb247, 2, none⟩ = some (.int .i64 a0_2) := (blk_cell BK247.out 2).trans rfl
   have hcz6_3 : w3.cell? ⟨gb247, 3, none⟩ = some (.int .i64 a0_3) := (blk_cell BK247.out 3).trans rfl
   have hcz6_4 : w3.cell? ⟨gb247, 4, none⟩ = some (.int .i64 a0_4) := (blk_cell BK247.out 4).trans rfl
   have hcz6_5 : w3.cell? ⟨gb247, 5, none⟩ = some (.int .i64 a0_5) := (blk_cell BK247.out 5).trans rfl
   have hcz6_6 : w3.cell? ⟨gb247, 6, none⟩ = some (.int .i64 a0_6) := (blk_cell BK247.out 6).trans rfl
   have hcz6_7 : w3.cell? ⟨gb247, 7, none⟩ = some (.int .i64 a0_7) := (blk_cell BK247.out 7).trans rfl
   have hcz6_8 : w3.cell? ⟨gb247, 8, none⟩ = some (.slice A0_8 l0_8.length c0_8) := (blk_cell BK247.out 8).trans rfl
   have hfz6_0 := blk_frozen BK247.out 0
   have hfz6_1 := blk_frozen BK247.out 1
   have hfz6_2 := blk_frozen BK247.out 2
   have hfz6_3 := blk_frozen BK247.out 3
   have hfz6_4 := blk_frozen BK247.out 4
   have hfz6_5 := blk_frozen BK247.out 5
   have hfz6_6 := blk_frozen BK247.out 6
   have hfz6_7 := blk_frozen BK247.out 7
   have hfz6_8 := blk_frozen BK247.out 8
   go_wp2_with (first | ((with_reducible refine gate_callee (f := 31) rfl ?_); refine goesL_ (some 10) rfl rfl Try.func31 (by kernel_rfl) rfl #[.agg #[.string a0_0, .int .i64 a0_1, .int .i64 a0_2, .int .i64 a0_3, .int .i64 a0_4, .int .i64 a0_5, .int .i64 a0_6, .int .i64 a0_7, .slice A0_8 l0_8.length c0_8]] rfl (by (try simp only [List.map_toArray, List.map_cons, List.map_nil]); first | done | rfl | (simp only [List.length_drop, List.length_take]; rfl)) ?_; (with_reducible refine (metrolablaw18_right.calls k a0_0 a0_1 a0_2 a0_3 a0_4 a0_5 a0_6 a0_7 _ _ l0_8 true _ ?side1 ?side2 A4.out).mono ?_); (case side1 => repeat (first | exact (Kd.C_below HR0_8.out HB.out) | (with_reducible refine Kd.C_alloc ?_ _) | (with_reducible refine Kd.C_drewN ?_ _) | (with_reducible refine Kd.C_drew ?_))); (case side2 => exact HC0_8.out); rintro e w7 ⟨rfl, hb⟩; refine ⟨_, rfl, ?_⟩; have n0_ := Aside0.mk (blk_below (g := gb247) (o := .cells #[.string a0_0, .int .i64 a0_1, .int .i64 a0_2, .int .i64 a0_3, .int .i64 a0_4, .int .i64 a0_5, .int .i64 a0_6, .int .i64 a0_7, .slice A0_8 l0_8.length c0_8] 28 (0, 0)) (by (with_reducible repeat first | apply blk_drewN | apply blk_drew | apply blk_alloc); exact BK247.out) hb); have n1_ := Aside0.mk (below_step (by repeat (first | (with_reducible first | exact HB.out | apply below_alloc | apply pw_below_drewN | apply below_drew1 | refine below_set ?_ GE247.out) | exact HB.out)) hb); clear BK247; clear HB; have BK247 := n0_; have HB := n1_; clear n0_ n1_; (try clear hb); (try clear hb2); (try clear hk); (try clear hi); have hcz8_0 : w7.cell? ⟨gb247, 0, none⟩ = some (.string a0_0) := (blk_cell BK247.out 0).trans rfl; have hcz8_1 : w7.cell? ⟨gb247, 1, none⟩ = some (.int .i64 a0_1) := (blk_cell BK247.out 1).trans rfl; have hcz8_2 : w7.cell? ⟨gb247, 2, none⟩ = some (.int .i64 a0_2) := (blk_cell BK247.out 2).trans rfl; have hcz8_3 : w7.cell? ⟨gb247, 3, none⟩ = some (.int .i64 a0_3) := (blk_cell BK247.out 3).trans rfl; have hcz8_4 : w7.cell? ⟨gb247, 4, none⟩ = some (.int .i64 a0_4) := (blk_cell BK247.out 4).trans rfl; have hcz8_5 : w7.cell? ⟨gb247, 5, none⟩ = some (.int .i64 a0_5) := (blk_cell BK247.out 5).trans rfl; have hcz8_6 : w7.cell? ⟨gb247, 6, none⟩ = some (.int .i64 a0_6) := (blk_cell BK247.out 6).trans rfl; have hcz8_7 : w7.cell? ⟨gb247, 7, none⟩ = some (.int .i64 a0_7) := (blk_cell BK247.out 7).trans rfl; have hcz8_8 : w7.cell? ⟨gb247, 8, none⟩ = some (.slice A0_8 l0_8.length c0_8) := (blk_cell BK247.out 8).trans rfl; have hfz8_0 := blk_frozen BK247.out 0; have hfz8_1 := blk_frozen BK247.out 1; have hfz8_2 := blk_frozen BK247.out 2; have hfz8_3 := blk_frozen BK247.out 3; have hfz8_4 := blk_frozen BK247.out 4; have hfz8_5 := blk_frozen BK247.out 5; have hfz8_6 := blk_frozen BK247.out 6; have hfz8_7 := blk_frozen BK247.out 7; have hfz8_8 := blk_frozen BK247.out 8))
   go_meet
   case rel => exact ⟨_, ((a0_1 == 0)), (by first | rfl | (simp; done) | (simp [*]; done)), H', ⟨by first | omega | exact Nat.le_refl _⟩, ⟨by (with_reducible repeat first | apply blk_drewN | apply blk_drew | apply blk_alloc); exact BK247.out⟩, ⟨by repeat (first | (with_reducible first | exact HB.out | apply below_alloc | apply pw_below_drewN | apply below_drew1 | refine below_set ?_ GE247.out) | exact HB.out)⟩⟩
  ·replace c5 := Bool.eq_false_iff.mpr c5
   subst c5
   have H1 : (metrolablaw18_FeatureEnds.j0 k true a0_0 a0_1 a0_2 a0_3 a0_4 a0_5 a0_6 a0_7 l0_8) = some r := by rw [if_neg (show ¬ (false = true) by decide)] at H; exact H
   clear H
   have H := H1
   clear H1
   have H' := Aside0.mk H
   clear H
   have hcz9_0 : w3.cell? ⟨gb247, 0, none⟩ = some (.string a0_0) := (blk_cell BK247.out 0).trans rfl
   have hcz9_1 : w3.cell? ⟨gb247, 1, none⟩ = some (.int .i64 a0_1) := (blk_cell BK247.out 1).trans rfl
   have hcz9_2 : w3.cell? ⟨gb247, 2, none⟩ = some (.int .i64 a0_2) := (blk_cell BK247.out 2).trans rfl
   have hcz9_3 : w3.cell? ⟨gb247, 3, none⟩ = some (.int .i64 a0_3) := (blk_cell BK247.out 3).trans rfl
   have hcz9_4 : w3.cell? ⟨gb247, 4, none⟩ = some (.int .i64 a0_4) := (blk_cell BK247.out 4).trans rfl
   have hcz9_5 : w3.cell? ⟨gb247, 5, none⟩ = some (.int .i64 a0_5) := (blk_cell BK247.out 5).trans rfl
   have hcz9_6 : w3.cell? ⟨gb247, 6, none⟩ = some (.int .i64 a0_6) := (blk_cell BK247.out 6).trans rfl
   have hcz9_7 : w3.cell? ⟨gb247, 7, none⟩ = some (.int .i64 a0_7) := (blk_cell BK247.out 7).trans rfl
   have hcz9_8 : w3.cell? ⟨gb247, 8, none⟩ = some (.slice A0_8 l0_8.length c0_8) := (blk_cell BK247.out 8).trans rfl
   have hfz9_0 := blk_frozen BK247.out 0
   have hfz9_1 := blk_frozen BK247.out 1
   have hfz9_2 := blk_frozen BK247.out 2
   have hfz9_3 := blk_frozen BK247.out 3
   have hfz9_4 := blk_frozen BK247.out 4
   have hfz9_5 := blk_frozen BK247.out 5
   have hfz9_6 := blk_frozen BK247.out 6
   have hfz9_7 := blk_frozen BK247.out 7
   have hfz9_8 := blk_frozen BK247.out 8
   go_wp2_with (first | ((with_reducible refine gate_callee (f := 31) rfl ?_); refine goesL_ (some 10) rfl rfl Try.func31 (by kernel_rfl) rfl #[.agg #[.string a0_0, .int .i64 a0_1, .int .i64 a0_2, .int .i64 a0_3, .int .i64 a0_4, .int .i64 a0_5, .int .i64 a0_6, .int .i64 a0_7, .slice A0_8 l0_8.length c0_8]] rfl (by (try simp only [List.map_toArray, List.map_cons, List.map_nil]); first | done | rfl | (simp only [List.length_drop, List.length_take]; rfl)) ?_; (with_reducible refine (metrolablaw18_right.calls k a0_0 a0_1 a0_2 a0_3 a0_4 a0_5 a0_6 a0_7 _ _ l0_8 false _ ?side1 ?side2 A4.out).mono ?_); (case side1 => repeat (first | exact (Kd.C_below HR0_8.out HB.out) | (with_reducible refine Kd.C_alloc ?_ _) | (with_reducible refine Kd.C_drewN ?_ _) | (with_reducible refine Kd.C_drew ?_))); (case side2 => exact HC0_8.out); rintro e w10 ⟨rfl, hb⟩; refine ⟨_, rfl, ?_⟩; have n0_ := Aside0.mk (blk_below (g := gb247) (o := .cells #[.string a0_0, .int .i64 a0_1, .int .i64 a0_2, .int .i64 a0_3, .int .i64 a0_4, .int .i64 a0_5, .int .i64 a0_6, .int .i64 a0_7, .slice A0_8 l0_8.length c0_8] 28 (0, 0)) (by (with_reducible repeat first | apply blk_drewN | apply blk_drew | apply blk_alloc); exact BK247.out) hb); have n1_ := Aside0.mk (below_step (by repeat (first | (with_reducible first | exact HB.out | apply below_alloc | apply pw_below_drewN | apply below_drew1 | refine below_set ?_ GE247.out) | exact HB.out)) hb); clear BK247; clear HB; have BK247 := n0_; have HB := n1_; clear n0_ n1_; (try clear hb); (try clear hb2); (try clear hk); (try clear hi)))
   go_meet
   case rel => exact ⟨_, (true), (by first | rfl | (simp; done) | (simp [*]; done)), H', ⟨by first | omega | exact Nat.le_refl _⟩, ⟨by (with_reducible repeat first | apply blk_drewN | apply blk_drew | apply blk_alloc); exact BK247.out⟩, ⟨by repeat (first | (with_reducible first | exact HB.out | apply below_alloc | apply pw_below_drewN | apply below_drew1 | refine below_set ?_ GE247.out) | exact HB.out)⟩⟩
 case rest =>
  clear HC2
  try clear p2
  try clear c3
  try clear c5
  try clear hcz6_0
  try clear hcz6_1
  try clear hcz6_2
  try clear hcz6_3
  try clear hcz6_4
  try clear hcz6_5
  try clear hcz6_6
  try clear hcz6_7
  try clear hcz6_8
  try clear hcz8_0
  try clear hcz8_1
  try clear hcz8_2
  try clear hcz8_3
  try clear hcz8_4
  try clear hcz8_5
  try clear hcz8_6
  try clear hcz8_7
  try clear hcz8_8
  try clear hcz9_0
  try clear hcz9_1
  try clear hcz9_2
  try clear hcz9_3
  try clear hcz9_4
  try clear hcz9_5
  try clear hcz9_6
  try clear hcz9_7
  try clear hcz9_8
  try clear hfz6_0
  try clear hfz6_1
  try clear hfz6_2
  try clear hfz6_3
  try clear hfz6_4
  try clear hfz6_5
  try clear hfz6_6
  try clear hfz6_7
  try clear hfz6_8
  try clear hfz8_0
  try clear hfz8_1
  try clear hfz8_2
  try clear hfz8_3
  try clear hfz8_4
  try clear hfz8_5
  try clear hfz8_6
  try clear hfz8_7
  try clear hfz8_8
  try clear hfz9_0
  try clear hfz9_1
  try clear hfz9_2
  try clear hfz9_3
  try clear hfz9_4
  try clear hfz9_5
  try clear hfz9_6
  try clear hfz9_7
  try clear hfz9_8
  obtain ⟨kq, x16_1, rfl, HA, HJ1, BK247, HB⟩ := hcut
  cases kq with
  | zero => exact absurd HA.out (by simp [metrolablaw18_FeatureEnds.j0])
  | succ kj1 =>
   have H := HA.out
   clear HA
   simp only [metrolablaw18_FeatureEnds.j0] at H
   by_cases c11 : x16_1 = true
   ·subst c11
    have H1 : ((metrolablaw18_awake.f).bind fun t249 => (some t249)) = some r := by rw [if_pos rfl] at H; exact H
    clear H
    have H := H1
    clear H1
    replace H := Option.bind_eq_some_iff.mp H
    obtain ⟨t249, A120, H⟩ := H
    replace H : (some t249) = some r := H
    have A12 := Aside0.mk A120
    clear A120
    obtain rfl := Option.some.inj H
    go_wp2_with (first | ((with_reducible refine gate_callee (f := 18) rfl ?_); refine goesL_ (some 17) rfl rfl Try.func18 (by kernel_rfl) rfl #[] rfl (by (try simp only [List.map_toArray, List.map_cons, List.map_nil]); first | done | rfl | (simp only [List.length_drop, List.length_take]; rfl)) ?_; (with_reducible refine (metrolablaw18_awake.calls  t249 _ A12.out).mono ?_); rintro e w13 ⟨rfl, hb⟩; refine ⟨_, rfl, ?_⟩; have n0_ := Aside0.mk (blk_below (g := gb247) (o := .cells #[.string a0_0, .int .i64 a0_1, .int .i64 a0_2, .int .i64 a0_3, .int .i64 a0_4, .int .i64 a0_5, .int .i64 a0_6, .int .i64 a0_7, .slice A0_8 l0_8.length c0_8] 28 (0, 0)) (by (with_reducible repeat first | apply blk_drewN | apply blk_drew | apply blk_alloc); exact BK247.out) hb); have n1_ := Aside0.mk (below_step (by repeat (first | (with_reducible first | exact HB.out | apply below_alloc | apply pw_below_drewN | apply below_drew1 | refine below_set ?_ GE247.out) | exact HB.out)) hb); clear BK247; clear HB; have BK247 := n0_; have HB := n1_; clear n0_ n1_; (try clear hb); (try clear hb2); (try clear hk); (try clear hi)))
    go_ret
    exact ⟨by first | rfl | (simp [errW_none, errW_some] <;> rfl) | (simp [*, errW_none, errW_some] <;> rfl), by repeat (first | (with_reducible first | exact HB.out | apply below_alloc | apply pw_below_drewN | apply below_drew1 | refine below_set ?_ GE247.out) | exact HB.out)⟩
   ·replace c11 := Bool.eq_false_iff.mpr c11
    subst c11
    have H1 : ((feature_Maximum.f kj1 a0_0 a0_1 a0_2 a0_3 a0_4 a0_5 a0_6 a0_7 l0_8).bind fun bt250 => ((feature_Least.f kj1 a0_0 a0_1 a0_2 a0_3 a0_4 a0_5 a0_6 a0_7 l0_8).bind fun bt252 => ((feature_Inner.f kj1 a0_0 a0_1 a0_2 a0_3 a0_4 a0_5 a0_6 a0_7 l0_8).bind fun bt254 => (if (wrap64 ((wrap64 (bt250.2 + bt252.2)) + bt254.2)) = 0 then (if a0_1 = 1 then (if (bt254.1 != true) = true then (some false) else (if (mn bt250.1 bt252.1) = a0_6 then (if (mx bt250.1 bt252.1) = a0_7 then (if bt250.1 ≤ bt252.1 then (if bt250.1 ≥ bt252.1 then ((metrolablaw18_awake.f).bind fun t256 => (some t256)) else (if bt254.1 = true then ((metrolablaw18_awake.f).bind fun t257 => (some t257)) else (some false))) else (if bt254.1 = true then (some false) else (if bt250.1 ≥ bt252.1 then ((metrolablaw18_awake.f).bind fun t258 => (some t258)) else (some false)))) else (some false)) else (some false))) else (if (bt254.1 != (a0_1 == 3)) = true then (some false) else (if (mn bt250.1 bt252.1) = a0_6 then (if (mx bt250.1 bt252.1) = a0_7 then (if bt250.1 ≤ bt252.1 then (if bt250.1 ≥ bt252.1 then ((metrolablaw18_awake.f).bind fun t259 => (some t259)) else (if bt254.1 = true then ((metrolablaw18_awake.f).bind fun t260 => (some t260)) else (some false))) else (if bt254.1 = true then (some false) else (if bt250.1 ≥ bt252.1 then ((metrolablaw18_awake.f).bind fun t261 => (some t261)) else (some false)))) else (some false)) else (some false)))) else (some false))))) = some r := by rw [if_neg (show ¬ (false = true) by decide)] at H; exact H
    clear H
    have H := H1
    clear H1
    replace H := Option.bind_eq_some_iff.mp H
    obtain ⟨⟨t250, t251⟩, A140, H⟩ := H
    replace H : ((feature_Least.f kj1 a0_0 a0_1 a0_2 a0_3 a0_4 a0_5 a0_6 a0_7 l0_8).bind fun bt252 => ((feature_Inner.f kj1 a0_0 a0_1 a0_2 a0_3 a0_4 a0_5 a0_6 a0_7 l0_8).bind fun bt254 => (if (wrap64 ((wrap64 (t251 + bt252.2)) + bt254.2)) = 0 then (if a0_1 = 1 then (if (bt254.1 != true) = true then (some false) else (if (mn t250 bt252.1) = a0_6 then (if (mx t250 bt252.1) = a0_7 then (if t250 ≤ bt252.1 then (if t250 ≥ bt252.1 then ((metrolablaw18_awake.f).bind fun t256 => (some t256)) else (if bt254.1 = true then ((metrolablaw18_awake.f).bind fun t257 => (some t257)) else (some false))) else (if bt254.1 = true then (some false) else (if t250 ≥ bt252.1 then ((metrolablaw18_awake.f).bind fun t258 => (some t258)) else (some false)))) else (some false)) else (some false))) else (if (bt254.1 != (a0_1 == 3)) = true then (some false) else (if (mn t250 bt252.1) = a0_6 then (if (mx t250 bt252.1) = a0_7 then (if t250 ≤ bt252.1 then (if t250 ≥ bt252.1 then ((metrolablaw18_awake.f).bind fun t259 => (some t259)) else (if bt254.1 = true then ((metrolablaw18_awake.f).bind fun t260 => (some t260)) else (some false))) else (if bt254.1 = true then (some false) else (if t250 ≥ bt252.1 then ((metrolablaw18_awake.f).bind fun t261 => (some t261)) else (some false)))) else (some false)) else (some false)))) else (some false)))) = some r := H
    have A14 := Aside0.mk A140
    clear A140
    replace H := Option.bind_eq_some_iff.mp H
    obtain ⟨⟨t252, t253⟩, A150, H⟩ := H
    replace H : ((feature_Inner.f kj1 a0_0 a0_1 a0_2 a0_3 a0_4 a0_5 a0_6 a0_7 l0_8).bind fun bt254 => (if (wrap64 ((wrap64 (t251 + t253)) + bt254.2)) = 0 then (if a0_1 = 1 then (if (bt254.1 != true) = true then (some false) else (if (mn t250 t252) = a0_6 then (if (mx t250 t252) = a0_7 then (if t250 ≤ t252 then (if t250 ≥ t252 then ((metrolablaw18_awake.f).bind fun t256 => (some t256)) else (if bt254.1 = true then ((metrolablaw18_awake.f).bind fun t257 => (some t257)) else (some false))) else (if bt254.1 = true then (some false) else (if t250 ≥ t252 then ((metrolablaw18_awake.f).bind fun t258 => (some t258)) else (some false)))) else (some false)) else (some false))) else (if (bt254.1 != (a0_1 == 3)) = true then (some false) else (if (mn t250 t252) = a0_6 then (if (mx t250 t252) = a0_7 then (if t250 ≤ t252 then (if t250 ≥ t252 then ((metrolablaw18_awake.f).bind fun t259 => (some t259)) else (if bt254.1 = true then ((metrolablaw18_awake.f).bind fun t260 => (some t260)) else (some false))) else (if bt254.1 = true then (some false) else (if t250 ≥ t252 then ((metrolablaw18_awake.f).bind fun t261 => (some t261)) else (some false)))) else (some false)) else (some false)))) else (some false))) = some r := H
    have A15 := Aside0.mk A150
    clear A150
    replace H := Option.bind_eq_some_iff.mp H
    obtain ⟨⟨t254, t255⟩, A160, H⟩ := H
    replace H : (if (wrap64 ((wrap64 (t251 + t253)) + t255)) = 0 then (if a0_1 = 1 then (if (t254 != true) = true then (some false) else (if (mn t250 t252) = a0_6 then (if (mx t250 t252) = a0_7 then (if t250 ≤ t252 then (if t250 ≥ t252 then ((metrolablaw18_awake.f).bind fun t256 => (some t256)) else (if t254 = true then ((metrolablaw18_awake.f).bind fun t257 => (some t257)) else (some false))) else (if t254 = true then (some false) else (if t250 ≥ t252 then ((metrolablaw18_awake.f).bind fun t258 => (some t258)) else (some false)))) else (some false)) else (some false))) else (if (t254 != (a0_1 == 3)) = true then (some false) else (if (mn t250 t252) = a0_6 then (if (mx t250 t252) = a0_7 then (if t250 ≤ t252 then (if t250 ≥ t252 then ((metrolablaw18_awake.f).bind fun t259 => (some t259)) else (if t254 = true then ((metrolablaw18_awake.f).bind fun t260 => (some t260)) else (some false))) else (if t254 = true then (some false) else (if t250 ≥ t252 then ((metrolablaw18_awake.f).bind fun t261 => (some t261)) else (some false)))) else (some false)) else (some false)))) else (some false)) = some r := H
    have A16 := Aside0.mk A160
    clear A160
    by_cases c17 : (wrap64 ((wrap64 (t251 + t253)) + t255)) = 0
    ·rw [if_pos c17] at H
     have c17b0 : ((wrap64 ((wrap64 (t251 + t253)) + t255)) == 0) = true := beq_iff_eq.mpr c17
     have c17b1 : ((wrap64 ((wrap64 (t251 + t253)) + t255)) != 0) = false := bne_eq_false_iff_eq.mpr c17
     clear c17
     by_cases c18 : a0_1 = 1
     ·rw [if_pos c18] at H
      have c18b0 : (a0_1 == 1) = true := beq_iff_eq.mpr c18
      have c18b1 : (a0_1 != 1) = false := bne_eq_false_iff_eq.mpr c18
      clear c18
      by_cases c19 : (t254 != true) = true
      ·rw [if_pos c19] at H
       exact absurd ((Option.some.inj H).trans HRT.out) (by decide)
      ·rw [if_neg c19] at H
       have c19b0 : (t254 != true) = false := by simpa using c19
       (try (have c19b1 : decide (t254 = true) = true := by simpa using c19))
       (try (have c19b2 : (t254 == true) = true := by simpa using c19))
       clear c19
       obtain ⟨ji27, hji27⟩ : ∃ j_ : Int, (mn t250 t252) = j_ := ⟨_, rfl⟩
       replace H : (if (ji27) = a0_6 then (if (mx t250 t252) = a0_7 then (if t250 ≤ t252 then (if t250 ≥ t252 then ((metrolablaw18_awake.f).bind fun t256 => (some t256)) else (if t254 = true then ((metrolablaw18_awake.f).bind fun t257 => (some t257)) else (some false))) else (if t254 = true then (some false) else (if t250 ≥ t252 then ((metrolablaw18_awake.f).bind fun t258 => (some t258)) else (some false)))) else (some false)) else (some false)) = some r := by first | (rw [hji27] at H; exact H) | (simp only [hji27] at H ⊢; exact H)
       (try rw [hji27] at A14)
       (try rw [hji27] at A15)
       (try rw [hji27] at A16)
       have hji27_ : (if t252 < t250 then t252 else t250) = ji27 := hji27
       by_cases c28 : (ji27) = a0_6
       ·rw [if_pos c28] at H
        have c28b0 : ((ji27) == a0_6) = true := beq_iff_eq.mpr c28
        have c28b1 : ((ji27) != a0_6) = false := bne_eq_false_iff_eq.mpr c28
        clear c28
        obtain ⟨ji29, hji29⟩ : ∃ j_ : Int, (mx t250 t252) = j_ := ⟨_, rfl⟩
        replace H : (if (ji29) = a0_7 then (if t250 ≤ t252 then (if t250 ≥ t252 then ((metrolablaw18_awake.f).bind fun t256 => (some t256)) else (if t254 = true then ((metrolablaw18_awake.f).bind fun t257 => (some t257)) else (some false))) else (if t254 = true then (some false) else (if t250 ≥ t252 then ((metrolablaw18_awake.f).bind fun t258 => (some t258)) else (some false)))) else (some false)) = some r := by first | (rw [hji29] at H; exact H) | (simp only [hji29] at H ⊢; exact H)
        (try rw [hji29] at A14)
        (try rw [hji29] at A15)
        (try rw [hji29] at A16)
        have hji29_ : (if t250 < t252 then t252 else t250) = ji29 := hji29
        by_cases c30 : (ji29) = a0_7
        ·rw [if_pos c30] at H
         have c30b0 : ((ji29) == a0_7) = true := beq_iff_eq.mpr c30
         have c30b1 : ((ji29) != a0_7) = false := bne_eq_false_iff_eq.mpr c30
         clear c30
         by_cases c31 : t250 ≤ t252
         ·rw [if_pos c31] at H
          have c31b0 : decide (t250 ≤ t252) = true := decide_eq_true c31
          clear c31
          by_cases c32 : t250 ≥ t252
          ·rw [if_pos c32] at H
           have c32b0 : decide (t252 ≤ t250) = true := decide_eq_true c32
           clear c32
           replace H := Option.bind_eq_some_iff.mp H
           obtain ⟨t256, A330, H⟩ := H
           replace H : (some t256) = some r := H
           have A33 := Aside0.mk A330
           clear A330
           obtain rfl := Option.some.inj H
           have hcz34_0 : wc.cell? ⟨gb247, 0, none⟩ = some (.string a0_0) := (blk_cell BK247.out 0).trans rfl
           have hcz34_1 : wc.cell? ⟨gb247, 1, none⟩ = some (.int .i64 a0_1) := (blk_cell BK247.out 1).trans rfl
           have hcz34_2 : wc.cell? ⟨gb247, 2, none⟩ = some (.int .i64 a0_2) := (blk_cell BK247.out 2).trans rfl
           have hcz34_3 : wc.cell? ⟨gb247, 3, none⟩ = some (.int .i64 a0_3) := (blk_cell BK247.out 3).trans rfl
           have hcz34_4 : wc.cell? ⟨gb247, 4, none⟩ = some (.int .i64 a0_4) := (blk_cell BK247.out 4).trans rfl
           have hcz34_5 : wc.cell? ⟨gb247, 5, none⟩ = some (.int .i64 a0_5) := (blk_cell BK247.out 5).trans rfl
           have hcz34_6 : wc.cell? ⟨gb247, 6, none⟩ = some (.int .i64 a0_6) := (blk_cell BK247.out 6).trans rfl
           have hcz34_7 : wc.cell? ⟨gb247, 7, none⟩ = some (.int .i64 a0_7) := (blk_cell BK247.out 7).trans rfl
           have hcz34_8 : wc.cell? ⟨gb247, 8, none⟩ = some (.slice A0_8 l0_8.length c0_8) := (blk_cell BK247.out 8).trans rfl
           have hfz34_0 := blk_frozen BK247.out 0
           have hfz34_1 := blk_frozen BK247.out 1
           have hfz34_2 := blk_frozen BK247.out 2
           have hfz34_3 := blk_frozen BK247.out 3
           have hfz34_4 := blk_frozen BK247.out 4
           have hfz34_5 := blk_frozen BK247.out 5
           have hfz34_6 := blk_frozen BK247.out 6
           have hfz34_7 := blk_frozen BK247.out 7
           have hfz34_8 := blk_frozen BK247.out 8
           go_wp2_with (first | ((with_reducible refine gate_callee (f := 25) rfl ?_); refine goesL_ (some 20) rfl rfl Try.func25 (by kernel_rfl) rfl #[.agg #[.string a0_0, .int .i64 a0_1, .int .i64 a0_2, .int .i64 a0_3, .int .i64 a0_4, .int .i64 a0_5, .int .i64 a0_6, .int .i64 a0_7, .slice A0_8 l0_8.length c0_8]] rfl (by (try simp only [List.map_toArray, List.map_cons, List.map_nil]); first | done | rfl | (simp only [List.length_drop, List.length_take]; rfl)) ?_; (with_reducible refine (feature_Maximum.calls kj1 a0_0 a0_1 a0_2 a0_3 a0_4 a0_5 a0_6 a0_7 _ _ l0_8 t250 t251 _ ?side1 ?side2 A14.out).mono ?_); (case side1 => repeat (first | exact (Kd.C_below HR0_8.out HB.out) | (with_reducible refine Kd.C_alloc ?_ _) | (with_reducible refine Kd.C_drewN ?_ _) | (with_reducible refine Kd.C_drew ?_))); (case side2 => exact HC0_8.out); rintro e w35 ⟨rfl, hb⟩; refine ⟨_, rfl, ?_⟩; have n0_ := Aside0.mk (blk_below (g := gb247) (o := .cells #[.string a0_0, .int .i64 a0_1, .int .i64 a0_2, .int .i64 a0_3, .int .i64 a0_4, .int .i64 a0_5, .int .i64 a0_6, .int .i64 a0_7, .slice A0_8 l0_8.length c0_8] 28 (0, 0)) (by (with_reducible repeat first | apply blk_drewN | apply blk_drew | apply blk_alloc); exact BK247.out) hb); have n1_ := Aside0.mk (below_step (by repeat (first | (with_reducible first | exact HB.out | apply below_alloc | apply pw_below_drewN | apply below_drew1 | refine below_set ?_ GE247.out) | exact HB.out)) hb); clear BK247; clear HB; have BK247 := n0_; have HB := n1_; clear n0_ n1_; (try clear hb); (try clear hb2); (try clear hk); (try clear hi); have hcz36_0 : w35.cell? ⟨gb247, 0, none⟩ = some (.string a0_0) := (blk_cell BK247.out 0).trans rfl; have hcz36_1 : w35.cell? ⟨gb247, 1, none⟩ = some (.int .i64 a0_1) := (blk_cell BK247.out 1).trans rfl; have hcz36_2 : w35.cell? ⟨gb247, 2, none⟩ = some (.int .i64 a0_2) := (blk_cell BK247.out 2).trans rfl; have hcz36_3 : w35.cell? ⟨gb247, 3, none⟩ = some (.int .i64 a0_3) := (blk_cell BK247.out 3).trans rfl; have hcz36_4 : w35.cell? ⟨gb247, 4, none⟩ = some (.int .i64 a0_4) := (blk_cell BK247.out 4).trans rfl; have hcz36_5 : w35.cell? ⟨gb247, 5, none⟩ = some (.int .i64 a0_5) := (blk_cell BK247.out 5).trans rfl; have hcz36_6 : w35.cell? ⟨gb247, 6, none⟩ = some (.int .i64 a0_6) := (blk_cell BK247.out 6).trans rfl; have hcz36_7 : w35.cell? ⟨gb247, 7, none⟩ = some (.int .i64 a0_7) := (blk_cell BK247.out 7).trans rfl; have hcz36_8 : w35.cell? ⟨gb247, 8, none⟩ = some (.slice A0_8 l0_8.length c0_8) := (blk_cell BK247.out 8).trans rfl; have hfz36_0 := blk_frozen BK247.out 0; have hfz36_1 := blk_frozen BK247.out 1; have hfz36_2 := blk_frozen BK247.out 2; have hfz36_3 := blk_frozen BK247.out 3; have hfz36_4 := blk_frozen BK247.out 4; have hfz36_5 := blk_frozen BK247.out 5; have hfz36_6 := blk_frozen BK247.out 6; have hfz36_7 := blk_frozen BK247.out 7; have hfz36_8 := blk_frozen BK247.out 8) | ((with_reducible refine gate_callee (f := 27) rfl ?_); refine goesL_ (some 25) rfl rfl Try.func27 (by kernel_rfl) rfl #[.agg #[.string a0_0, .int .i64 a0_1, .int .i64 a0_2, .int .i64 a0_3, .int .i64 a0_4, .int .i64 a0_5, .int .i64 a0_6, .int .i64 a0_7, .slice A0_8 l0_8.length c0_8]] rfl (by (try simp only [List.map_toArray, List.map_cons, List.map_nil]); first | done | rfl | (simp only [List.length_drop, List.length_take]; rfl)) ?_; (with_reducible refine (feature_Least.calls kj1 a0_0 a0_1 a0_2 a0_3 a0_4 a0_5 a0_6 a0_7 _ _ l0_8 t252 t253 _ ?side1 ?side2 A15.out).mono ?_); (case side1 => repeat (first | exact (Kd.C_below HR0_8.out HB.out) | (with_reducible refine Kd.C_alloc ?_ _) | (with_reducible refine Kd.C_drewN ?_ _) | (with_reducible refine Kd.C_drew ?_))); (case side2 => exact HC0_8.out); rintro e w37 ⟨rfl, hb⟩; refine ⟨_, rfl, ?_⟩; have n0_ := Aside0.mk (blk_below (g := gb247) (o := .cells #[.string a0_0, .int .i64 a0_1, .int .i64 a0_2, .int .i64 a0_3, .int .i64 a0_4, .int .i64 a0_5, .int .i64 a0_6, .int .i64 a0_7, .slice A0_8 l0_8.length c0_8] 28 (0, 0)) (by (with_reducible repeat first | apply blk_drewN | apply blk_drew | apply blk_alloc); exact BK247.out) hb); have n1_ := Aside0.mk (below_step (by repeat (first | (with_reducible first | exact HB.out | apply below_alloc | apply pw_below_drewN | apply below_drew1 | refine below_set ?_ GE247.out) | exact HB.out)) hb); clear BK247; clear HB; have BK247 := n0_; have HB := n1_; clear n0_ n1_; (try clear hb); (try clear hb2); (try clear hk); (try clear hi); have hcz38_0 : w37.cell? ⟨gb247, 0, none⟩ = some (.string a0_0) := (blk_cell BK247.out 0).trans rfl; have hcz38_1 : w37.cell? ⟨gb247, 1, none⟩ = some (.int .i64 a0_1) := (blk_cell BK247.out 1).trans rfl; have hcz38_2 : w37.cell? ⟨gb247, 2, none⟩ = some (.int .i64 a0_2) := (blk_cell BK247.out 2).trans rfl; have hcz38_3 : w37.cell? ⟨gb247, 3, none⟩ = some (.int .i64 a0_3) := (blk_cell BK247.out 3).trans rfl; have hcz38_4 : w37.cell? ⟨gb247, 4, none⟩ = some (.int .i64 a0_4) := (blk_cell BK247.out 4).trans rfl; have hcz38_5 : w37.cell? ⟨gb247, 5, none⟩ = some (.int .i64 a0_5) := (blk_cell BK247.out 5).trans rfl; have hcz38_6 : w37.cell? ⟨gb247, 6, none⟩ = some (.int .i64 a0_6) := (blk_cell BK247.out 6).trans rfl; have hcz38_7 : w37.cell? ⟨gb247, 7, none⟩ = some (.int .i64 a0_7) := (blk_cell BK247.out 7).trans rfl; have hcz38_8 : w37.cell? ⟨gb247, 8, none⟩ = some (.slice A0_8 l0_8.length c0_8) := (blk_cell BK247.out 8).trans rfl; have hfz38_0 := blk_frozen BK247.out 0; have hfz38_1 := blk_frozen BK247.out 1; have hfz38_2 := blk_frozen BK247.out 2; have hfz38_3 := blk_frozen BK247.out 3; have hfz38_4 := blk_frozen BK247.out 4; have hfz38_5 := blk_frozen BK247.out 5; have hfz38_6 := blk_frozen BK247.out 6; have hfz38_7 := blk_frozen BK247.out 7; have hfz38_8 := blk_frozen BK247.out 8) | ((with_reducible refine gate_callee (f := 23) rfl ?_); refine goesL_ (some 30) rfl rfl Try.func23 (by kernel_rfl) rfl #[.agg #[.string a0_0, .int .i64 a0_1, .int .i64 a0_2, .int .i64 a0_3, .int .i64 a0_4, .int .i64 a0_5, .int .i64 a0_6, .int .i64 a0_7, .slice A0_8 l0_8.length c0_8]] rfl (by (try simp only [List.map_toArray, List.map_cons, List.map_nil]); first | done | rfl | (simp only [List.length_drop, List.length_take]; rfl)) ?_; (with_reducible refine (feature_Inner.calls kj1 a0_0 a0_1 a0_2 a0_3 a0_4 a0_5 a0_6 a0_7 _ _ l0_8 t254 t255 _ ?side1 ?side2 A16.out).mono ?_); (case side1 => repeat (first | exact (Kd.C_below HR0_8.out HB.out) | (with_reducible refine Kd.C_alloc ?_ _) | (with_reducible refine Kd.C_drewN ?_ _) | (with_reducible refine Kd.C_drew ?_))); (case side2 => exact HC0_8.out); rintro e w39 ⟨rfl, hb⟩; refine ⟨_, rfl, ?_⟩; have n0_ := Aside0.mk (blk_below (g := gb247) (o := .cells #[.string a0_0, .int .i64 a0_1, .int .i64 a0_2, .int .i64 a0_3, .int .i64 a0_4, .int .i64 a0_5, .int .i64 a0_6, .int .i64 a0_7, .slice A0_8 l0_8.length c0_8] 28 (0, 0)) (by (with_reducible repeat first | apply blk_drewN | apply blk_drew | apply blk_alloc); exact BK247.out) hb); have n1_ := Aside0.mk (below_step (by repeat (first | (with_reducible first | exact HB.out | apply below_alloc | apply pw_below_drewN | apply below_drew1 | refine below_set ?_ GE247.out) | exact HB.out)) hb); clear BK247; clear HB; have BK247 := n0_; have HB := n1_; clear n0_ n1_; (try clear hb); (try clear hb2); (try clear hk); (try clear hi); have hcz40_0 : w39.cell? ⟨gb247, 0, none⟩ = some (.string a0_0) := (blk_cell BK247.out 0).trans rfl; have hcz40_1 : w39.cell? ⟨gb247, 1, none⟩ = some (.int .i64 a0_1) := (blk_cell BK247.out 1).trans rfl; have hcz40_2 : w39.cell? ⟨gb247, 2, none⟩ = some (.int .i64 a0_2) := (blk_cell BK247.out 2).trans rfl; have hcz40_3 : w39.cell? ⟨gb247, 3, none⟩ = some (.int .i64 a0_3) := (blk_cell BK247.out 3).trans rfl; have hcz40_4 : w39.cell? ⟨gb247, 4, none⟩ = some (.int .i64 a0_4) := (blk_cell BK247.out 4).trans rfl; have hcz40_5 : w39.cell? ⟨gb247, 5, none⟩ = some (.int .i64 a0_5) := (blk_cell BK247.out 5).trans rfl; have hcz40_6 : w39.cell? ⟨gb247, 6, none⟩ = some (.int .i64 a0_6) := (blk_cell BK247.out 6).trans rfl; have hcz40_7 : w39.cell? ⟨gb247, 7, none⟩ = some (.int .i64 a0_7) := (blk_cell BK247.out 7).trans rfl; have hcz40_8 : w39.cell? ⟨gb247, 8, none⟩ = some (.slice A0_8 l0_8.length c0_8) := (blk_cell BK247.out 8).trans rfl; have hfz40_0 := blk_frozen BK247.out 0; have hfz40_1 := blk_frozen BK247.out 1; have hfz40_2 := blk_frozen BK247.out 2; have hfz40_3 := blk_frozen BK247.out 3; have hfz40_4 := blk_frozen BK247.out 4; have hfz40_5 := blk_frozen BK247.out 5; have hfz40_6 := blk_frozen BK247.out 6; have hfz40_7 := blk_frozen BK247.out 7; have hfz40_8 := blk_frozen BK247.out 8) | (go_at_call 18; (with_reducible refine (metrolablaw18_awake.calls  t256 _ A33.out).mono ?_); rintro e w41 ⟨rfl, hb⟩; have n0_ := Aside0.mk (blk_below (g := gb247) (o := .cells #[.string a0_0, .int .i64 a0_1, .int .i64 a0_2, .int .i64 a0_3, .int .i64 a0_4, .int .i64 a0_5, .int .i64 a0_6, .int .i64 a0_7, .slice A0_8 l0_8.length c0_8] 28 (0, 0)) (by (with_reducible repeat first | apply blk_drewN | apply blk_drew | apply blk_alloc); exact BK247.out) hb); have n1_ := Aside0.mk (below_step (by repeat (first | (with_reducible first | exact HB.out | apply below_alloc | apply pw_below_drewN | apply below_drew1 | refine below_set ?_ GE247.out) | exact HB.out)) hb); clear BK247; clear HB; have BK247 := n0_; have HB := n1_; clear n0_ n1_; (try clear hb); (try clear hb2); (try clear hk); (try clear hi)))
           go_ret
           exact ⟨by first | rfl | (simp [errW_none, errW_some] <;> rfl) | (simp only [← hji27, ← hji29]; first | rfl | (simp [errW_none, errW_some] <;> rfl)) | (simp [*, errW_none, errW_some] <;> rfl), by repeat (first | (with_reducible first | exact HB.out | apply below_alloc | apply pw_below_drewN | apply below_drew1 | refine below_set ?_ GE247.out) | exact HB.out)⟩
          ·rw [if_neg c32] at H
           have c32b0 : decide (t252 ≤ t250) = false := decide_eq_false c32
           clear c32
           by_cases c42 : t254 = true
           ·subst c42
            have H1 : ((metrolablaw18_awake.f).bind fun t257 => (some t257)) = some r := by rw [if_pos rfl] at H; exact H
            clear H
            have H := H1
            clear H1
            replace H := Option.bind_eq_some_iff.mp H
            obtain ⟨t257, A430, H⟩ := H
            replace H : (some t257) = some r := H
            have A43 := Aside0.mk A430
            clear A430
            obtain rfl := Option.some.inj H
            have hcz44_0 : wc.cell? ⟨gb247, 0, none⟩ = some (.string a0_0) := (blk_cell BK247.out 0).trans rfl
            have hcz44_1 : wc.cell? ⟨gb247, 1, none⟩ = some (.int .i64 a0_1) := (blk_cell BK247.out 1).trans rfl
            have hcz44_2 : wc.cell? ⟨gb247, 2, none⟩ = some (.int .i64 a0_2) := (blk_cell BK247.out 2).trans rfl
            have hcz44_3 : wc.cell? ⟨gb247, 3, none⟩ = some (.int .i64 a0_3) := (blk_cell BK247.out 3).trans rfl
            have hcz44_4 : wc.cell? ⟨gb247, 4, none⟩ = some (.int .i64 a0_4) := (blk_cell BK247.out 4).trans rfl
            have hcz44_5 : wc.cell? ⟨gb247, 5, none⟩ = some (.int .i64 a0_5) := (blk_cell BK247.out 5).trans rfl
            have hcz44_6 : wc.cell? ⟨gb247, 6, none⟩ = some (.int .i64 a0_6) := (blk_cell BK247.out 6).trans rfl
            have hcz44_7 : wc.cell? ⟨gb247, 7, none⟩ = some (.int .i64 a0_7) := (blk_cell BK247.out 7).trans rfl
            have hcz44_8 : wc.cell? ⟨gb247, 8, none⟩ = some (.slice A0_8 l0_8.length c0_8) := (blk_cell BK247.out 8).trans rfl
            have hfz44_0 := blk_frozen BK247.out 0
            have hfz44_1 := blk_frozen BK247.out 1
            have hfz44_2 := blk_frozen BK247.out 2
            have hfz44_3 := blk_frozen BK247.out 3
            have hfz44_4 := blk_frozen BK247.out 4
            have hfz44_5 := blk_frozen BK247.out 5
            have hfz44_6 := blk_frozen BK247.out 6
            have hfz44_7 := blk_frozen BK247.out 7
            have hfz44_8 := blk_frozen BK247.out 8
            go_wp2_with (first | ((with_reducible refine gate_callee (f := 25) rfl ?_); refine goesL_ (some 20) rfl rfl Try.func25 (by kernel_rfl) rfl #[.agg #[.string a0_0, .int .i64 a0_1, .int .i64 a0_2, .int .i64 a0_3, .int .i64 a0_4, .int .i64 a0_5, .int .i64 a0_6, .int .i64 a0_7, .slice A0_8 l0_8.length c0_8]] rfl (by (try simp only [List.map_toArray, List.map_cons, List.map_nil]); first | done | rfl | (simp only [List.length_drop, List.length_take]; rfl)) ?_; (with_reducible refine (feature_Maximum.calls kj1 a0_0 a0_1 a0_2 a0_3 a0_4 a0_5 a0_6 a0_7 _ _ l0_8 t250 t251 _ ?side1 ?side2 A14.out).mono ?_); (case side1 => repeat (first | exact (Kd.C_below HR0_8.out HB.out) | (with_reducible refine Kd.C_alloc ?_ _) | (with_reducible refine Kd.C_drewN ?_ _) | (with_reducible refine Kd.C_drew ?_))); (case side2 => exact HC0_8.out); rintro e w45 ⟨rfl, hb⟩; refine ⟨_, rfl, ?_⟩; have n0_ := Aside0.mk (blk_below (g := gb247) (o := .cells #[.string a0_0, .int .i64 a0_1, .int .i64 a0_2, .int .i64 a0_3, .int .i64 a0_4, .int .i64 a0_5, .int .i64 a0_6, .int .i64 a0_7, .slice A0_8 l0_8.length c0_8] 28 (0, 0)) (by (with_reducible repeat first | apply blk_drewN | apply blk_drew | apply blk_alloc); exact BK247.out) hb); have n1_ := Aside0.mk (below_step (by repeat (first | (with_reducible first | exact HB.out | apply below_alloc | apply pw_below_drewN | apply below_drew1 | refine below_set ?_ GE247.out) | exact HB.out)) hb); clear BK247; clear HB; have BK247 := n0_; have HB := n1_; clear n0_ n1_; (try clear hb); (try clear hb2); (try clear hk); (try clear hi); have hcz46_0 : w45.cell? ⟨gb247, 0, none⟩ = some (.string a0_0) := (blk_cell BK247.out 0).trans rfl; have hcz46_1 : w45.cell? ⟨gb247, 1, none⟩ = some (.int .i64 a0_1) := (blk_cell BK247.out 1).trans rfl; have hcz46_2 : w45.cell? ⟨gb247, 2, none⟩ = some (.int .i64 a0_2) := (blk_cell BK247.out 2).trans rfl; have hcz46_3 : w45.cell? ⟨gb247, 3, none⟩ = some (.int .i64 a0_3) := (blk_cell BK247.out 3).trans rfl; have hcz46_4 : w45.cell? ⟨gb247, 4, none⟩ = some (.int .i64 a0_4) := (blk_cell BK247.out 4).trans rfl; have hcz46_5 : w45.cell? ⟨gb247, 5, none⟩ = some (.int .i64 a0_5) := (blk_cell BK247.out 5).trans rfl; have hcz46_6 : w45.cell? ⟨gb247, 6, none⟩ = some (.int .i64 a0_6) := (blk_cell BK247.out 6).trans rfl; have hcz46_7 : w45.cell? ⟨gb247, 7, none⟩ = some (.int .i64 a0_7) := (blk_cell BK247.out 7).trans rfl; have hcz46_8 : w45.cell? ⟨gb247, 8, none⟩ = some (.slice A0_8 l0_8.length c0_8) := (blk_cell BK247.out 8).trans rfl; have hfz46_0 := blk_frozen BK247.out 0; have hfz46_1 := blk_frozen BK247.out 1; have hfz46_2 := blk_frozen BK247.out 2; have hfz46_3 := blk_frozen BK247.out 3; have hfz46_4 := blk_frozen BK247.out 4; have hfz46_5 := blk_frozen BK247.out 5; have hfz46_6 := blk_frozen BK247.out 6; have hfz46_7 := blk_frozen BK247.out 7; have hfz46_8 := blk_frozen BK247.out 8) | ((with_reducible refine gate_callee (f := 27) rfl ?_); refine goesL_ (some 25) rfl rfl Try.func27 (by kernel_rfl) rfl #[.agg #[.string a0_0, .int .i64 a0_1, .int .i64 a0_2, .int .i64 a0_3, .int .i64 a0_4, .int .i64 a0_5, .int .i64 a0_6, .int .i64 a0_7, .slice A0_8 l0_8.length c0_8]] rfl (by (try simp only [List.map_toArray, List.map_cons, List.map_nil]); first | done | rfl | (simp only [List.length_drop, List.length_take]; rfl)) ?_; (with_reducible refine (feature_Least.calls kj1 a0_0 a0_1 a0_2 a0_3 a0_4 a0_5 a0_6 a0_7 _ _ l0_8 t252 t253 _ ?side1 ?side2 A15.out).mono ?_); (case side1 => repeat (first | exact (Kd.C_below HR0_8.out HB.out) | (with_reducible refine Kd.C_alloc ?_ _) | (with_reducible refine Kd.C_drewN ?_ _) | (with_reducible refine Kd.C_drew ?_))); (case side2 => exact HC0_8.out); rintro e w47 ⟨rfl, hb⟩; refine ⟨_, rfl, ?_⟩; have n0_ := Aside0.mk (blk_below (g := gb247) (o := .cells #[.string a0_0, .int .i64 a0_1, .int .i64 a0_2, .int .i64 a0_3, .int .i64 a0_4, .int .i64 a0_5, .int .i64 a0_6, .int .i64 a0_7, .slice A0_8 l0_8.length c0_8] 28 (0, 0)) (by (with_reducible repeat first | apply blk_drewN | apply blk_drew | apply blk_alloc); exact BK247.out) hb); have n1_ := Aside0.mk (below_step (by repeat (first | (with_reducible first | exact HB.out | apply below_alloc | apply pw_below_drewN | apply below_drew1 | refine below_set ?_ GE247.out) | exact HB.out)) hb); clear BK247; clear HB; have BK247 := n0_; have HB := n1_; clear n0_ n1_; (try clear hb); (try clear hb2); (try clear hk); (try clear hi); have hcz48_0 : w47.cell? ⟨gb247, 0, none⟩ = some (.string a0_0) := (blk_cell BK247.out 0).trans rfl; have hcz48_1 : w47.cell? ⟨gb247, 1, none⟩ = some (.int .i64 a0_1) := (blk_cell BK247.out 1).trans rfl; have hcz48_2 : w47.cell? ⟨gb247, 2, none⟩ = some (.int .i64 a0_2) := (blk_cell BK247.out 2).trans rfl; have hcz48_3 : w47.cell? ⟨gb247, 3, none⟩ = some (.int .i64 a0_3) := (blk_cell BK247.out 3).trans rfl; have hcz48_4 : w47.cell? ⟨gb247, 4, none⟩ = some (.int .i64 a0_4) := (blk_cell BK247.out 4).trans rfl; have hcz48_5 : w47.cell? ⟨gb247, 5, none⟩ = some (.int .i64 a0_5) := (blk_cell BK247.out 5).trans rfl; have hcz48_6 : w47.cell? ⟨gb247, 6, none⟩ = some (.int .i64 a0_6) := (blk_cell BK247.out 6).trans rfl; have hcz48_7 : w47.cell? ⟨gb247, 7, none⟩ = some (.int .i64 a0_7) := (blk_cell BK247.out 7).trans rfl; have hcz48_8 : w47.cell? ⟨gb247, 8, none⟩ = some (.slice A0_8 l0_8.length c0_8) := (blk_cell BK247.out 8).trans rfl; have hfz48_0 := blk_frozen BK247.out 0; have hfz48_1 := blk_frozen BK247.out 1; have hfz48_2 := blk_frozen BK247.out 2; have hfz48_3 := blk_frozen BK247.out 3; have hfz48_4 := blk_frozen BK247.out 4; have hfz48_5 := blk_frozen BK247.out 5; have hfz48_6 := blk_frozen BK247.out 6; have hfz48_7 := blk_frozen BK247.out 7; have hfz48_8 := blk_frozen BK247.out 8) | ((with_reducible refine gate_callee (f := 23) rfl ?_); refine goesL_ (some 30) rfl rfl Try.func23 (by kernel_rfl) rfl #[.agg #[.string a0_0, .int .i64 a0_1, .int .i64 a0_2, .int .i64 a0_3, .int .i64 a0_4, .int .i64 a0_5, .int .i64 a0_6, .int .i64 a0_7, .slice A0_8 l0_8.length c0_8]] rfl (by (try simp only [List.map_toArray, List.map_cons, List.map_nil]); first | done | rfl | (simp only [List.length_drop, List.length_take]; rfl)) ?_; (with_reducible refine (feature_Inner.calls kj1 a0_0 a0_1 a0_2 a0_3 a0_4 a0_5 a0_6 a0_7 _ _ l0_8 true t255 _ ?side1 ?side2 A16.out).mono ?_); (case side1 => repeat (first | exact (Kd.C_below HR0_8.out HB.out) | (with_reducible refine Kd.C_alloc ?_ _) | (with_reducible refine Kd.C_drewN ?_ _) | (with_reducible refine Kd.C_drew ?_))); (case side2 => exact HC0_8.out); rintro e w49 ⟨rfl, hb⟩; refine ⟨_, rfl, ?_⟩; have n0_ := Aside0.mk (blk_below (g := gb247) (o := .cells #[.string a0_0, .int .i64 a0_1, .int .i64 a0_2, .int .i64 a0_3, .int .i64 a0_4, .int .i64 a0_5, .int .i64 a0_6, .int .i64 a0_7, .slice A0_8 l0_8.length c0_8] 28 (0, 0)) (by (with_reducible repeat first | apply blk_drewN | apply blk_drew | apply blk_alloc); exact BK247.out) hb); have n1_ := Aside0.mk (below_step (by repeat (first | (with_reducible first | exact HB.out | apply below_alloc | apply pw_below_drewN | apply below_drew1 | refine below_set ?_ GE247.out) | exact HB.out)) hb); clear BK247; clear HB; have BK247 := n0_; have HB := n1_; clear n0_ n1_; (try clear hb); (try clear hb2); (try clear hk); (try clear hi); have hcz50_0 : w49.cell? ⟨gb247, 0, none⟩ = some (.string a0_0) := (blk_cell BK247.out 0).trans rfl; have hcz50_1 : w49.cell? ⟨gb247, 1, none⟩ = some (.int .i64 a0_1) := (blk_cell BK247.out 1).trans rfl; have hcz50_2 : w49.cell? ⟨gb247, 2, none⟩ = some (.int .i64 a0_2) := (blk_cell BK247.out 2).trans rfl; have hcz50_3 : w49.cell? ⟨gb247, 3, none⟩ = some (.int .i64 a0_3) := (blk_cell BK247.out 3).trans rfl; have hcz50_4 : w49.cell? ⟨gb247, 4, none⟩ = some (.int .i64 a0_4) := (blk_cell BK247.out 4).trans rfl; have hcz50_5 : w49.cell? ⟨gb247, 5, none⟩ = some (.int .i64 a0_5) := (blk_cell BK247.out 5).trans rfl; have hcz50_6 : w49.cell? ⟨gb247, 6, none⟩ = some (.int .i64 a0_6) := (blk_cell BK247.out 6).trans rfl; have hcz50_7 : w49.cell? ⟨gb247, 7, none⟩ = some (.int .i64 a0_7) := (blk_cell BK247.out 7).trans rfl; have hcz50_8 : w49.cell? ⟨gb247, 8, none⟩ = some (.slice A0_8 l0_8.length c0_8) := (blk_cell BK247.out 8).trans rfl; have hfz50_0 := blk_frozen BK247.out 0; have hfz50_1 := blk_frozen BK247.out 1; have hfz50_2 := blk_frozen BK247.out 2; have hfz50_3 := blk_frozen BK247.out 3; have hfz50_4 := blk_frozen BK247.out 4; have hfz50_5 := blk_frozen BK247.out 5; have hfz50_6 := blk_frozen BK247.out 6; have hfz50_7 := blk_frozen BK247.out 7; have hfz50_8 := blk_frozen BK247.out 8) | (go_at_call 18; (with_reducible refine (metrolablaw18_awake.calls  t257 _ A43.out).mono ?_); rintro e w51 ⟨rfl, hb⟩; have n0_ := Aside0.mk (blk_below (g := gb247) (o := .cells #[.string a0_0, .int .i64 a0_1, .int .i64 a0_2, .int .i64 a0_3, .int .i64 a0_4, .int .i64 a0_5, .int .i64 a0_6, .int .i64 a0_7, .slice A0_8 l0_8.length c0_8] 28 (0, 0)) (by (with_reducible repeat first | apply blk_drewN | apply blk_drew | apply blk_alloc); exact BK247.out) hb); have n1_ := Aside0.mk (below_step (by repeat (first | (with_reducible first | exact HB.out | apply below_alloc | apply pw_below_drewN | apply below_drew1 | refine below_set ?_ GE247.out) | exact HB.out)) hb); clear BK247; clear HB; have BK247 := n0_; have HB := n1_; clear n0_ n1_; (try clear hb); (try clear hb2); (try clear hk); (try clear hi)))
            go_ret
            exact ⟨by first | rfl | (simp [errW_none, errW_some] <;> rfl) | (simp only [← hji27, ← hji29]; first | rfl | (simp [errW_none, errW_some] <;> rfl)) | (simp [*, errW_none, errW_some] <;> rfl), by repeat (first | (with_reducible first | exact HB.out | apply below_alloc | apply pw_below_drewN | apply below_drew1 | refine below_set ?_ GE247.out) | exact HB.out)⟩
           ·rw [if_neg c42] at H
            exact absurd ((Option.some.inj H).trans HRT.out) (by decide)
         ·rw [if_neg c31] at H
          have c31b0 : decide (t250 ≤ t252) = false := decide_eq_false c31
          clear c31
          by_cases c59 : t254 = true
          ·rw [if_pos c59] at H
           exact absurd ((Option.some.inj H).trans HRT.out) (by decide)
          ·replace c59 := Bool.eq_false_iff.mpr c59
           subst c59
           have H1 : (if t250 ≥ t252 then ((metrolablaw18_awake.f).bind fun t258 => (some t258)) else (some false)) = some r := by rw [if_neg (show ¬ (false = true) by decide)] at H; exact H
           clear H
           have H := H1
           clear H1
           by_cases c67 : t250 ≥ t252
           ·rw [if_pos c67] at H
            have c67b0 : decide (t252 ≤ t250) = true := decide_eq_true c67
            clear c67
            replace H := Option.bind_eq_some_iff.mp H
            obtain ⟨t258, A680, H⟩ := H
            replace H : (some t258) = some r := H
            have A68 := Aside0.mk A680
            clear A680
            obtain rfl := Option.some.inj H
            have hcz69_0 : wc.cell? ⟨gb247, 0, none⟩ = some (.string a0_0) := (blk_cell BK247.out 0).trans rfl
            have hcz69_1 : wc.cell? ⟨gb247, 1, none⟩ = some (.int .i64 a0_1) := (blk_cell BK247.out 1).trans rfl
            have hcz69_2 : wc.cell? ⟨gb247, 2, none⟩ = some (.int .i64 a0_2) := (blk_cell BK247.out 2).trans rfl
            have hcz69_3 : wc.cell? ⟨gb247, 3, none⟩ = some (.int .i64 a0_3) := (blk_cell BK247.out 3).trans rfl
            have hcz69_4 : wc.cell? ⟨gb247, 4, none⟩ = some (.int .i64 a0_4) := (blk_cell BK247.out 4).trans rfl
            have hcz69_5 : wc.cell? ⟨gb247, 5, none⟩ = some (.int .i64 a0_5) := (blk_cell BK247.out 5).trans rfl
            have hcz69_6 : wc.cell? ⟨gb247, 6, none⟩ = some (.int .i64 a0_6) := (blk_cell BK247.out 6).trans rfl
            have hcz69_7 : wc.cell? ⟨gb247, 7, none⟩ = some (.int .i64 a0_7) := (blk_cell BK247.out 7).trans rfl
            have hcz69_8 : wc.cell? ⟨gb247, 8, none⟩ = some (.slice A0_8 l0_8.length c0_8) := (blk_cell BK247.out 8).trans rfl
            have hfz69_0 := blk_frozen BK247.out 0
            have hfz69_1 := blk_frozen BK247.out 1
            have hfz69_2 := blk_frozen BK247.out 2
            have hfz69_3 := blk_frozen BK247.out 3
            have hfz69_4 := blk_frozen BK247.out 4
            have hfz69_5 := blk_frozen BK247.out 5
            have hfz69_6 := blk_frozen BK247.out 6
            have hfz69_7 := blk_frozen BK247.out 7
            have hfz69_8 := blk_frozen BK247.out 8
            go_wp2_with (first | ((with_reducible refine gate_callee (f := 25) rfl ?_); refine goesL_ (some 20) rfl rfl Try.func25 (by kernel_rfl) rfl #[.agg #[.string a0_0, .int .i64 a0_1, .int .i64 a0_2, .int .i64 a0_3, .int .i64 a0_4, .int .i64 a0_5, .int .i64 a0_6, .int .i64 a0_7, .slice A0_8 l0_8.length c0_8]] rfl (by (try simp only [List.map_toArray, List.map_cons, List.map_nil]); first | done | rfl | (simp only [List.length_drop, List.length_take]; rfl)) ?_; (with_reducible refine (feature_Maximum.calls kj1 a0_0 a0_1 a0_2 a0_3 a0_4 a0_5 a0_6 a0_7 _ _ l0_8 t250 t251 _ ?side1 ?side2 A14.out).mono ?_); (case side1 => repeat (first | exact (Kd.C_below HR0_8.out HB.out) | (with_reducible refine Kd.C_alloc ?_ _) | (with_reducible refine Kd.C_drewN ?_ _) | (with_reducible refine Kd.C_drew ?_))); (case side2 => exact HC0_8.out); rintro e w70 ⟨rfl, hb⟩; refine ⟨_, rfl, ?_⟩; have n0_ := Aside0.mk (blk_below (g := gb247) (o := .cells #[.string a0_0, .int .i64 a0_1, .int .i64 a0_2, .int .i64 a0_3, .int .i64 a0_4, .int .i64 a0_5, .int .i64 a0_6, .int .i64 a0_7, .slice A0_8 l0_8.length c0_8] 28 (0, 0)) (by (with_reducible repeat first | apply blk_drewN | apply blk_drew | apply blk_alloc); exact BK247.out) hb); have n1_ := Aside0.mk (below_step (by repeat (first | (with_reducible first | exact HB.out | apply below_alloc | apply pw_below_drewN | apply below_drew1 | refine below_set ?_ GE247.out) | exact HB.out)) hb); clear BK247; clear HB; have BK247 := n0_; have HB := n1_; clear n0_ n1_; (try clear hb); (try clear hb2); (try clear hk); (try clear hi); have hcz71_0 : w70.cell? ⟨gb247, 0, none⟩ = some (.string a0_0) := (blk_cell BK247.out 0).trans rfl; have hcz71_1 : w70.cell? ⟨gb247, 1, none⟩ = some (.int .i64 a0_1) := (blk_cell BK247.out 1).trans rfl; have hcz71_2 : w70.cell? ⟨gb247, 2, none⟩ = some (.int .i64 a0_2) := (blk_cell BK247.out 2).trans rfl; have hcz71_3 : w70.cell? ⟨gb247, 3, none⟩ = some (.int .i64 a0_3) := (blk_cell BK247.out 3).trans rfl; have hcz71_4 : w70.cell? ⟨gb247, 4, none⟩ = some (.int .i64 a0_4) := (blk_cell BK247.out 4).trans rfl; have hcz71_5 : w70.cell? ⟨gb247, 5, none⟩ = some (.int .i64 a0_5) := (blk_cell BK247.out 5).trans rfl; have hcz71_6 : w70.cell? ⟨gb247, 6, none⟩ = some (.int .i64 a0_6) := (blk_cell BK247.out 6).trans rfl; have hcz71_7 : w70.cell? ⟨gb247, 7, none⟩ = some (.int .i64 a0_7) := (blk_cell BK247.out 7).trans rfl; have hcz71_8 : w70.cell? ⟨gb247, 8, none⟩ = some (.slice A0_8 l0_8.length c0_8) := (blk_cell BK247.out 8).trans rfl; have hfz71_0 := blk_frozen BK247.out 0; have hfz71_1 := blk_frozen BK247.out 1; have hfz71_2 := blk_frozen BK247.out 2; have hfz71_3 := blk_frozen BK247.out 3; have hfz71_4 := blk_frozen BK247.out 4; have hfz71_5 := blk_frozen BK247.out 5; have hfz71_6 := blk_frozen BK247.out 6; have hfz71_7 := blk_frozen BK247.out 7; have hfz71_8 := blk_frozen BK247.out 8) | ((with_reducible refine gate_callee (f := 27) rfl ?_); refine goesL_ (some 25) rfl rfl Try.func27 (by kernel_rfl) rfl #[.agg #[.string a0_0, .int .i64 a0_1, .int .i64 a0_2, .int .i64 a0_3, .int .i64 a0_4, .int .i64 a0_5, .int .i64 a0_6, .int .i64 a0_7, .slice A0_8 l0_8.length c0_8]] rfl (by (try simp only [List.map_toArray, List.map_cons, List.map_nil]); first | done | rfl | (simp only [List.length_drop, List.length_take]; rfl)) ?_; (with_reducible refine (feature_Least.calls kj1 a0_0 a0_1 a0_2 a0_3 a0_4 a0_5 a0_6 a0_7 _ _ l0_8 t252 t253 _ ?side1 ?side2 A15.out).mono ?_); (case side1 => repeat (first | exact (Kd.C_below HR0_8.out HB.out) | (with_reducible refine Kd.C_alloc ?_ _) | (with_reducible refine Kd.C_drewN ?_ _) | (with_reducible refine Kd.C_drew ?_))); (case side2 => exact HC0_8.out); rintro e w72 ⟨rfl, hb⟩; refine ⟨_, rfl, ?_⟩; have n0_ := Aside0.mk (blk_below (g := gb247) (o := .cells #[.string a0_0, .int .i64 a0_1, .int .i64 a0_2, .int .i64 a0_3, .int .i64 a0_4, .int .i64 a0_5, .int .i64 a0_6, .int .i64 a0_7, .slice A0_8 l0_8.length c0_8] 28 (0, 0)) (by (with_reducible repeat first | apply blk_drewN | apply blk_drew | apply blk_alloc); exact BK247.out) hb); have n1_ := Aside0.mk (below_step (by repeat (first | (with_reducible first | exact HB.out | apply below_alloc | apply pw_below_drewN | apply below_drew1 | refine below_set ?_ GE247.out) | exact HB.out)) hb); clear BK247; clear HB; have BK247 := n0_; have HB := n1_; clear n0_ n1_; (try clear hb); (try clear hb2); (try clear hk); (try clear hi); have hcz73_0 : w72.cell? ⟨gb247, 0, none⟩ = some (.string a0_0) := (blk_cell BK247.out 0).trans rfl; have hcz73_1 : w72.cell? ⟨gb247, 1, none⟩ = some (.int .i64 a0_1) := (blk_cell BK247.out 1).trans rfl; have hcz73_2 : w72.cell? ⟨gb247, 2, none⟩ = some (.int .i64 a0_2) := (blk_cell BK247.out 2).trans rfl; have hcz73_3 : w72.cell? ⟨gb247, 3, none⟩ = some (.int .i64 a0_3) := (blk_cell BK247.out 3).trans rfl; have hcz73_4 : w72.cell? ⟨gb247, 4, none⟩ = some (.int .i64 a0_4) := (blk_cell BK247.out 4).trans rfl; have hcz73_5 : w72.cell? ⟨gb247, 5, none⟩ = some (.int .i64 a0_5) := (blk_cell BK247.out 5).trans rfl; have hcz73_6 : w72.cell? ⟨gb247, 6, none⟩ = some (.int .i64 a0_6) := (blk_cell BK247.out 6).trans rfl; have hcz73_7 : w72.cell? ⟨gb247, 7, none⟩ = some (.int .i64 a0_7) := (blk_cell BK247.out 7).trans rfl; have hcz73_8 : w72.cell? ⟨gb247, 8, none⟩ = some (.slice A0_8 l0_8.length c0_8) := (blk_cell BK247.out 8).trans rfl; have hfz73_0 := blk_frozen BK247.out 0; have hfz73_1 := blk_frozen BK247.out 1; have hfz73_2 := blk_frozen BK247.out 2; have hfz73_3 := blk_frozen BK247.out 3; have hfz73_4 := blk_frozen BK247.out 4; have hfz73_5 := blk_frozen BK247.out 5; have hfz73_6 := blk_frozen BK247.out 6; have hfz73_7 := blk_frozen BK247.out 7; have hfz73_8 := blk_frozen BK247.out 8) | ((with_reducible refine gate_callee (f := 23) rfl ?_); refine goesL_ (some 30) rfl rfl Try.func23 (by kernel_rfl) rfl #[.agg #[.string a0_0, .int .i64 a0_1, .int .i64 a0_2, .int .i64 a0_3, .int .i64 a0_4, .int .i64 a0_5, .int .i64 a0_6, .int .i64 a0_7, .slice A0_8 l0_8.length c0_8]] rfl (by (try simp only [List.map_toArray, List.map_cons, List.map_nil]); first | done | rfl | (simp only [List.length_drop, List.length_take]; rfl)) ?_; (with_reducible refine (feature_Inner.calls kj1 a0_0 a0_1 a0_2 a0_3 a0_4 a0_5 a0_6 a0_7 _ _ l0_8 false t255 _ ?side1 ?side2 A16.out).mono ?_); (case side1 => repeat (first | exact (Kd.C_below HR0_8.out HB.out) | (with_reducible refine Kd.C_alloc ?_ _) | (with_reducible refine Kd.C_drewN ?_ _) | (with_reducible refine Kd.C_drew ?_))); (case side2 => exact HC0_8.out); rintro e w74 ⟨rfl, hb⟩; refine ⟨_, rfl, ?_⟩; have n0_ := Aside0.mk (blk_below (g := gb247) (o := .cells #[.string a0_0, .int .i64 a0_1, .int .i64 a0_2, .int .i64 a0_3, .int .i64 a0_4, .int .i64 a0_5, .int .i64 a0_6, .int .i64 a0_7, .slice A0_8 l0_8.length c0_8] 28 (0, 0)) (by (with_reducible repeat first | apply blk_drewN | apply blk_drew | apply blk_alloc); exact BK247.out) hb); have n1_ := Aside0.mk (below_step (by repeat (first | (with_reducible first | exact HB.out | apply below_alloc | apply pw_below_drewN | apply below_drew1 | refine below_set ?_ GE247.out) | exact HB.out)) hb); clear BK247; clear HB; have BK247 := n0_; have HB := n1_; clear n0_ n1_; (try clear hb); (try clear hb2); (try clear hk); (try clear hi); have hcz75_0 : w74.cell? ⟨gb247, 0, none⟩ = some (.string a0_0) := (blk_cell BK247.out 0).trans rfl; have hcz75_1 : w74.cell? ⟨gb247, 1, none⟩ = some (.int .i64 a0_1) := (blk_cell BK247.out 1).trans rfl; have hcz75_2 : w74.cell? ⟨gb247, 2, none⟩ = some (.int .i64 a0_2) := (blk_cell BK247.out 2).trans rfl; have hcz75_3 : w74.cell? ⟨gb247, 3, none⟩ = some (.int .i64 a0_3) := (blk_cell BK247.out 3).trans rfl; have hcz75_4 : w74.cell? ⟨gb247, 4, none⟩ = some (.int .i64 a0_4) := (blk_cell BK247.out 4).trans rfl; have hcz75_5 : w74.cell? ⟨gb247, 5, none⟩ = some (.int .i64 a0_5) := (blk_cell BK247.out 5).trans rfl; have hcz75_6 : w74.cell? ⟨gb247, 6, none⟩ = some (.int .i64 a0_6) := (blk_cell BK247.out 6).trans rfl; have hcz75_7 : w74.cell? ⟨gb247, 7, none⟩ = some (.int .i64 a0_7) := (blk_cell BK247.out 7).trans rfl; have hcz75_8 : w74.cell? ⟨gb247, 8, none⟩ = some (.slice A0_8 l0_8.length c0_8) := (blk_cell BK247.out 8).trans rfl; have hfz75_0 := blk_frozen BK247.out 0; have hfz75_1 := blk_frozen BK247.out 1; have hfz75_2 := blk_frozen BK247.out 2; have hfz75_3 := blk_frozen BK247.out 3; have hfz75_4 := blk_frozen BK247.out 4; have hfz75_5 := blk_frozen BK247.out 5; have hfz75_6 := blk_frozen BK247.out 6; have hfz75_7 := blk_frozen BK247.out 7; have hfz75_8 := blk_frozen BK247.out 8) | (go_at_call 18; (with_reducible refine (metrolablaw18_awake.calls  t258 _ A68.out).mono ?_); rintro e w76 ⟨rfl, hb⟩; have n0_ := Aside0.mk (blk_below (g := gb247) (o := .cells #[.string a0_0, .int .i64 a0_1, .int .i64 a0_2, .int .i64 a0_3, .int .i64 a0_4, .int .i64 a0_5, .int .i64 a0_6, .int .i64 a0_7, .slice A0_8 l0_8.length c0_8] 28 (0, 0)) (by (with_reducible repeat first | apply blk_drewN | apply blk_drew | apply blk_alloc); exact BK247.out) hb); have n1_ := Aside0.mk (below_step (by repeat (first | (with_reducible first | exact HB.out | apply below_alloc | apply pw_below_drewN | apply below_drew1 | refine below_set ?_ GE247.out) | exact HB.out)) hb); clear BK247; clear HB; have BK247 := n0_; have HB := n1_; clear n0_ n1_; (try clear hb); (try clear hb2); (try clear hk); (try clear hi)))
            go_ret
            exact ⟨by first | rfl | (simp [errW_none, errW_some] <;> rfl) | (simp only [← hji27, ← hji29]; first | rfl | (simp [errW_none, errW_some] <;> rfl)) | (simp [*, errW_none, errW_some] <;> rfl), by repeat (first | (with_reducible first | exact HB.out | apply below_alloc | apply pw_below_drewN | apply below_drew1 | refine below_set ?_ GE247.out) | exact HB.out)⟩
           ·rw [if_neg c67] at H
            exact absurd ((Option.some.inj H).trans HRT.out) (by decide)
        ·rw [if_neg c30] at H
         exact absurd ((Option.some.inj H).trans HRT.out) (by decide)
       ·rw [if_neg c28] at H
        exact absurd ((Option.some.inj H).trans HRT.out) (by decide)
     ·rw [if_neg c18] at H
      have c18b0 : (a0_1 == 1) = false := beq_eq_false_iff_ne.mpr c18
      have c18b1 : (a0_1 != 1) = true := bne_iff_ne.mpr c18
      by_cases c98 : (t254 != (a0_1 == 3)) = true
      ·rw [if_pos c98] at H
       exact absurd ((Option.some.inj H).trans HRT.out) (by decide)
      ·rw [if_neg c98] at H
       have c98b0 : (t254 != (a0_1 == 3)) = false := by simpa using c98
       (try (have c98b1 : decide (t254 = (a0_1 == 3)) = true := by simpa using c98))
       (try (have c98b2 : (t254 == (a0_1 == 3)) = true := by simpa using c98))
       clear c98
       obtain ⟨ji106, hji106⟩ : ∃ j_ : Int, (mn t250 t252) = j_ := ⟨_, rfl⟩
       replace H : (if (ji106) = a0_6 then (if (mx t250 t252) = a0_7 then (if t250 ≤ t252 then (if t250 ≥ t252 then ((metrolablaw18_awake.f).bind fun t259 => (some t259)) else (if t254 = true then ((metrolablaw18_awake.f).bind fun t260 => (some t260)) else (some false))) else (if t254 = true then (some false) else (if t250 ≥ t252 then ((metrolablaw18_awake.f).bind fun t261 => (some t261)) else (some false)))) else (some false)) else (some false)) = some r := by first | (rw [hji106] at H; exact H) | (simp only [hji106] at H ⊢; exact H)
       (try rw [hji106] at A14)
       (try rw [hji106] at A15)
       (try rw [hji106] at A16)
       have hji106_ : (if t252 < t250 then t252 else t250) = ji106 := hji106
       by_cases c107 : (ji106) = a0_6
       ·rw [if_pos c107] at H
        have c107b0 : ((ji106) == a0_6) = true := beq_iff_eq.mpr c107
        have c107b1 : ((ji106) != a0_6) = false := bne_eq_false_iff_eq.mpr c107
        clear c107
        obtain ⟨ji108, hji108⟩ : ∃ j_ : Int, (mx t250 t252) = j_ := ⟨_, rfl⟩
        replace H : (if (ji108) = a0_7 then (if t250 ≤ t252 then (if t250 ≥ t252 then ((metrolablaw18_awake.f).bind fun t259 => (some t259)) else (if t254 = true then ((metrolablaw18_awake.f).bind fun t260 => (some t260)) else (some false))) else (if t254 = true then (some false) else (if t250 ≥ t252 then ((metrolablaw18_awake.f).bind fun t261 => (some t261)) else (some false)))) else (some false)) = some r := by first | (rw [hji108] at H; exact H) | (simp only [hji108] at H ⊢; exact H)
        (try rw [hji108] at A14)
        (try rw [hji108] at A15)
        (try rw [hji108] at A16)
        have hji108_ : (if t250 < t252 then t252 else t250) = ji108 := hji108
        by_cases c109 : (ji108) = a0_7
        ·rw [if_pos c109] at H
         have c109b0 : ((ji108) == a0_7) = true := beq_iff_eq.mpr c109
         have c109b1 : ((ji108) != a0_7) = false := bne_eq_false_iff_eq.mpr c109
         clear c109
         by_cases c110 : t250 ≤ t252
         ·rw [if_pos c110] at H
          have c110b0 : decide (t250 ≤ t252) = true := decide_eq_true c110
          clear c110
          by_cases c111 : t250 ≥ t252
          ·rw [if_pos c111] at H
           have c111b0 : decide (t252 ≤ t250) = true := decide_eq_true c111
           clear c111
           replace H := Option.bind_eq_some_iff.mp H
           obtain ⟨t259, A1120, H⟩ := H
           replace H : (some t259) = some r := H
           have A112 := Aside0.mk A1120
           clear A1120
           obtain rfl := Option.some.inj H
           have hcz113_0 : wc.cell? ⟨gb247, 0, none⟩ = some (.string a0_0) := (blk_cell BK247.out 0).trans rfl
           have hcz113_1 : wc.cell? ⟨gb247, 1, none⟩ = some (.int .i64 a0_1) := (blk_cell BK247.out 1).trans rfl
           have hcz113_2 : wc.cell? ⟨gb247, 2, none⟩ = some (.int .i64 a0_2) := (blk_cell BK247.out 2).trans rfl
           have hcz113_3 : wc.cell? ⟨gb247, 3, none⟩ = some (.int .i64 a0_3) := (blk_cell BK247.out 3).trans rfl
           have hcz113_4 : wc.cell? ⟨gb247, 4, none⟩ = some (.int .i64 a0_4) := (blk_cell BK247.out 4).trans rfl
           have hcz113_5 : wc.cell? ⟨gb247, 5, none⟩ = some (.int .i64 a0_5) := (blk_cell BK247.out 5).trans rfl
           have hcz113_6 : wc.cell? ⟨gb247, 6, none⟩ = some (.int .i64 a0_6) := (blk_cell BK247.out 6).trans rfl
           have hcz113_7 : wc.cell? ⟨gb247, 7, none⟩ = some (.int .i64 a0_7) := (blk_cell BK247.out 7).trans rfl
           have hcz113_8 : wc.cell? ⟨gb247, 8, none⟩ = some (.slice A0_8 l0_8.length c0_8) := (blk_cell BK247.out 8).trans rfl
           have hfz113_0 := blk_frozen BK247.out 0
           have hfz113_1 := blk_frozen BK247.out 1
           have hfz113_2 := blk_frozen BK247.out 2
           have hfz113_3 := blk_frozen BK247.out 3
           have hfz113_4 := blk_frozen BK247.out 4
           have hfz113_5 := blk_frozen BK247.out 5
           have hfz113_6 := blk_frozen BK247.out 6
           have hfz113_7 := blk_frozen BK247.out 7
           have hfz113_8 := blk_frozen BK247.out 8
           go_wp2_with (first | ((with_reducible refine gate_callee (f := 25) rfl ?_); refine goesL_ (some 20) rfl rfl Try.func25 (by kernel_rfl) rfl #[.agg #[.string a0_0, .int .i64 a0_1, .int .i64 a0_2, .int .i64 a0_3, .int .i64 a0_4, .int .i64 a0_5, .int .i64 a0_6, .int .i64 a0_7, .slice A0_8 l0_8.length c0_8]] rfl (by (try simp only [List.map_toArray, List.map_cons, List.map_nil]); first | done | rfl | (simp only [List.length_drop, List.length_take]; rfl)) ?_; (with_reducible refine (feature_Maximum.calls kj1 a0_0 a0_1 a0_2 a0_3 a0_4 a0_5 a0_6 a0_7 _ _ l0_8 t250 t251 _ ?side1 ?side2 A14.out).mono ?_); (case side1 => repeat (first | exact (Kd.C_below HR0_8.out HB.out) | (with_reducible refine Kd.C_alloc ?_ _) | (with_reducible refine Kd.C_drewN ?_ _) | (with_reducible refine Kd.C_drew ?_))); (case side2 => exact HC0_8.out); rintro e w114 ⟨rfl, hb⟩; refine ⟨_, rfl, ?_⟩; have n0_ := Aside0.mk (blk_below (g := gb247) (o := .cells #[.string a0_0, .int .i64 a0_1, .int .i64 a0_2, .int .i64 a0_3, .int .i64 a0_4, .int .i64 a0_5, .int .i64 a0_6, .int .i64 a0_7, .slice A0_8 l0_8.length c0_8] 28 (0, 0)) (by (with_reducible repeat first | apply blk_drewN | apply blk_drew | apply blk_alloc); exact BK247.out) hb); have n1_ := Aside0.mk (below_step (by repeat (first | (with_reducible first | exact HB.out | apply below_alloc | apply pw_below_drewN | apply below_drew1 | refine below_set ?_ GE247.out) | exact HB.out)) hb); clear BK247; clear HB; have BK247 := n0_; have HB := n1_; clear n0_ n1_; (try clear hb); (try clear hb2); (try clear hk); (try clear hi); have hcz115_0 : w114.cell? ⟨gb247, 0, none⟩ = some (.string a0_0) := (blk_cell BK247.out 0).trans rfl; have hcz115_1 : w114.cell? ⟨gb247, 1, none⟩ = some (.int .i64 a0_1) := (blk_cell BK247.out 1).trans rfl; have hcz115_2 : w114.cell? ⟨gb247, 2, none⟩ = some (.int .i64 a0_2) := (blk_cell BK247.out 2).trans rfl; have hcz115_3 : w114.cell? ⟨gb247, 3, none⟩ = some (.int .i64 a0_3) := (blk_cell BK247.out 3).trans rfl; have hcz115_4 : w114.cell? ⟨gb247, 4, none⟩ = some (.int .i64 a0_4) := (blk_cell BK247.out 4).trans rfl; have hcz115_5 : w114.cell? ⟨gb247, 5, none⟩ = some (.int .i64 a0_5) := (blk_cell BK247.out 5).trans rfl; have hcz115_6 : w114.cell? ⟨gb247, 6, none⟩ = some (.int .i64 a0_6) := (blk_cell BK247.out 6).trans rfl; have hcz115_7 : w114.cell? ⟨gb247, 7, none⟩ = some (.int .i64 a0_7) := (blk_cell BK247.out 7).trans rfl; have hcz115_8 : w114.cell? ⟨gb247, 8, none⟩ = some (.slice A0_8 l0_8.length c0_8) := (blk_cell BK247.out 8).trans rfl; have hfz115_0 := blk_frozen BK247.out 0; have hfz115_1 := blk_frozen BK247.out 1; have hfz115_2 := blk_frozen BK247.out 2; have hfz115_3 := blk_frozen BK247.out 3; have hfz115_4 := blk_frozen BK247.out 4; have hfz115_5 := blk_frozen BK247.out 5; have hfz115_6 := blk_frozen BK247.out 6; have hfz115_7 := blk_frozen BK247.out 7; have hfz115_8 := blk_frozen BK247.out 8) | ((with_reducible refine gate_callee (f := 27) rfl ?_); refine goesL_ (some 25) rfl rfl Try.func27 (by kernel_rfl) rfl #[.agg #[.string a0_0, .int .i64 a0_1, .int .i64 a0_2, .int .i64 a0_3, .int .i64 a0_4, .int .i64 a0_5, .int .i64 a0_6, .int .i64 a0_7, .slice A0_8 l0_8.length c0_8]] rfl (by (try simp only [List.map_toArray, List.map_cons, List.map_nil]); first | done | rfl | (simp only [List.length_drop, List.length_take]; rfl)) ?_; (with_reducible refine (feature_Least.calls kj1 a0_0 a0_1 a0_2 a0_3 a0_4 a0_5 a0_6 a0_7 _ _ l0_8 t252 t253 _ ?side1 ?side2 A15.out).mono ?_); (case side1 => repeat (first | exact (Kd.C_below HR0_8.out HB.out) | (with_reducible refine Kd.C_alloc ?_ _) | (with_reducible refine Kd.C_drewN ?_ _) | (with_reducible refine Kd.C_drew ?_))); (case side2 => exact HC0_8.out); rintro e w116 ⟨rfl, hb⟩; refine ⟨_, rfl, ?_⟩; have n0_ := Aside0.mk (blk_below (g := gb247) (o := .cells #[.string a0_0, .int .i64 a0_1, .int .i64 a0_2, .int .i64 a0_3, .int .i64 a0_4, .int .i64 a0_5, .int .i64 a0_6, .int .i64 a0_7, .slice A0_8 l0_8.length c0_8] 28 (0, 0)) (by (with_reducible repeat first | apply blk_drewN | apply blk_drew | apply blk_alloc); exact BK247.out) hb); have n1_ := Aside0.mk (below_step (by repeat (first | (with_reducible first | exact HB.out | apply below_alloc | apply pw_below_drewN | apply below_drew1 | refine below_set ?_ GE247.out) | exact HB.out)) hb); clear BK247; clear HB; have BK247 := n0_; have HB := n1_; clear n0_ n1_; (try clear hb); (try clear hb2); (try clear hk); (try clear hi); have hcz117_0 : w116.cell? ⟨gb247, 0, none⟩ = some (.string a0_0) := (blk_cell BK247.out 0).trans rfl; have hcz117_1 : w116.cell? ⟨gb247, 1, none⟩ = some (.int .i64 a0_1) := (blk_cell BK247.out 1).trans rfl; have hcz117_2 : w116.cell? ⟨gb247, 2, none⟩ = some (.int .i64 a0_2) := (blk_cell BK247.out 2).trans rfl; have hcz117_3 : w116.cell? ⟨gb247, 3, none⟩ = some (.int .i64 a0_3) := (blk_cell BK247.out 3).trans rfl; have hcz117_4 : w116.cell? ⟨gb247, 4, none⟩ = some (.int .i64 a0_4) := (blk_cell BK247.out 4).trans rfl; have hcz117_5 : w116.cell? ⟨gb247, 5, none⟩ = some (.int .i64 a0_5) := (blk_cell BK247.out 5).trans rfl; have hcz117_6 : w116.cell? ⟨gb247, 6, none⟩ = some (.int .i64 a0_6) := (blk_cell BK247.out 6).trans rfl; have hcz117_7 : w116.cell? ⟨gb247, 7, none⟩ = some (.int .i64 a0_7) := (blk_cell BK247.out 7).trans rfl; have hcz117_8 : w116.cell? ⟨gb247, 8, none⟩ = some (.slice A0_8 l0_8.length c0_8) := (blk_cell BK247.out 8).trans rfl; have hfz117_0 := blk_frozen BK247.out 0; have hfz117_1 := blk_frozen BK247.out 1; have hfz117_2 := blk_frozen BK247.out 2; have hfz117_3 := blk_frozen BK247.out 3; have hfz117_4 := blk_frozen BK247.out 4; have hfz117_5 := blk_frozen BK247.out 5; have hfz117_6 := blk_frozen BK247.out 6; have hfz117_7 := blk_frozen BK247.out 7; have hfz117_8 := blk_frozen BK247.out 8) | ((with_reducible refine gate_callee (f := 23) rfl ?_); refine goesL_ (some 30) rfl rfl Try.func23 (by kernel_rfl) rfl #[.agg #[.string a0_0, .int .i64 a0_1, .int .i64 a0_2, .int .i64 a0_3, .int .i64 a0_4, .int .i64 a0_5, .int .i64 a0_6, .int .i64 a0_7, .slice A0_8 l0_8.length c0_8]] rfl (by (try simp only [List.map_toArray, List.map_cons, List.map_nil]); first | done | rfl | (simp only [List.length_drop, List.length_take]; rfl)) ?_; (with_reducible refine (feature_Inner.calls kj1 a0_0 a0_1 a0_2 a0_3 a0_4 a0_5 a0_6 a0_7 _ _ l0_8 t254 t255 _ ?side1 ?side2 A16.out).mono ?_); (case side1 => repeat (first | exact (Kd.C_below HR0_8.out HB.out) | (with_reducible refine Kd.C_alloc ?_ _) | (with_reducible refine Kd.C_drewN ?_ _) | (with_reducible refine Kd.C_drew ?_))); (case side2 => exact HC0_8.out); rintro e w118 ⟨rfl, hb⟩; refine ⟨_, rfl, ?_⟩; have n0_ := Aside0.mk (blk_below (g := gb247) (o := .cells #[.string a0_0, .int .i64 a0_1, .int .i64 a0_2, .int .i64 a0_3, .int .i64 a0_4, .int .i64 a0_5, .int .i64 a0_6, .int .i64 a0_7, .slice A0_8 l0_8.length c0_8] 28 (0, 0)) (by (with_reducible repeat first | apply blk_drewN | apply blk_drew | apply blk_alloc); exact BK247.out) hb); have n1_ := Aside0.mk (below_step (by repeat (first | (with_reducible first | exact HB.out | apply below_alloc | apply pw_below_drewN | apply below_drew1 | refine below_set ?_ GE247.out) | exact HB.out)) hb); clear BK247; clear HB; have BK247 := n0_; have HB := n1_; clear n0_ n1_; (try clear hb); (try clear hb2); (try clear hk); (try clear hi); have hcz119_0 : w118.cell? ⟨gb247, 0, none⟩ = some (.string a0_0) := (blk_cell BK247.out 0).trans rfl; have hcz119_1 : w118.cell? ⟨gb247, 1, none⟩ = some (.int .i64 a0_1) := (blk_cell BK247.out 1).trans rfl; have hcz119_2 : w118.cell? ⟨gb247, 2, none⟩ = some (.int .i64 a0_2) := (blk_cell BK247.out 2).trans rfl; have hcz119_3 : w118.cell? ⟨gb247, 3, none⟩ = some (.int .i64 a0_3) := (blk_cell BK247.out 3).trans rfl; have hcz119_4 : w118.cell? ⟨gb247, 4, none⟩ = some (.int .i64 a0_4) := (blk_cell BK247.out 4).trans rfl; have hcz119_5 : w118.cell? ⟨gb247, 5, none⟩ = some (.int .i64 a0_5) := (blk_cell BK247.out 5).trans rfl; have hcz119_6 : w118.cell? ⟨gb247, 6, none⟩ = some (.int .i64 a0_6) := (blk_cell BK247.out 6).trans rfl; have hcz119_7 : w118.cell? ⟨gb247, 7, none⟩ = some (.int .i64 a0_7) := (blk_cell BK247.out 7).trans rfl; have hcz119_8 : w118.cell? ⟨gb247, 8, none⟩ = some (.slice A0_8 l0_8.length c0_8) := (blk_cell BK247.out 8).trans rfl; have hfz119_0 := blk_frozen BK247.out 0; have hfz119_1 := blk_frozen BK247.out 1; have hfz119_2 := blk_frozen BK247.out 2; have hfz119_3 := blk_frozen BK247.out 3; have hfz119_4 := blk_frozen BK247.out 4; have hfz119_5 := blk_frozen BK247.out 5; have hfz119_6 := blk_frozen BK247.out 6; have hfz119_7 := blk_frozen BK247.out 7; have hfz119_8 := blk_frozen BK247.out 8) | (go_at_call 18; (with_reducible refine (metrolablaw18_awake.calls  t259 _ A112.out).mono ?_); rintro e w120 ⟨rfl, hb⟩; have n0_ := Aside0.mk (blk_below (g := gb247) (o := .cells #[.string a0_0, .int .i64 a0_1, .int .i64 a0_2, .int .i64 a0_3, .int .i64 a0_4, .int .i64 a0_5, .int .i64 a0_6, .int .i64 a0_7, .slice A0_8 l0_8.length c0_8] 28 (0, 0)) (by (with_reducible repeat first | apply blk_drewN | apply blk_drew | apply blk_alloc); exact BK247.out) hb); have n1_ := Aside0.mk (below_step (by repeat (first | (with_reducible first | exact HB.out | apply below_alloc | apply pw_below_drewN | apply below_drew1 | refine below_set ?_ GE247.out) | exact HB.out)) hb); clear BK247; clear HB; have BK247 := n0_; have HB := n1_; clear n0_ n1_; (try clear hb); (try clear hb2); (try clear hk); (try clear hi)))
           go_ret
           exact ⟨by first | rfl | (simp [errW_none, errW_some] <;> rfl) | (simp only [← hji106, ← hji108]; first | rfl | (simp [errW_none, errW_some] <;> rfl)) | (simp [*, errW_none, errW_some] <;> rfl), by repeat (first | (with_reducible first | exact HB.out | apply below_alloc | apply pw_below_drewN | apply below_drew1 | refine below_set ?_ GE247.out) | exact HB.out)⟩
          ·rw [if_neg c111] at H
           have c111b0 : decide (t252 ≤ t250) = false := decide_eq_false c111
           clear c111
           by_cases c121 : t254 = true
           ·subst c121
            have H1 : ((metrolablaw18_awake.f).bind fun t260 => (some t260)) = some r := by rw [if_pos rfl] at H; exact H
            clear H
            have H := H1
            clear H1
            replace H := Option.bind_eq_some_iff.mp H
            obtain ⟨t260, A1220, H⟩ := H
            replace H : (some t260) = some r := H
            have A122 := Aside0.mk A1220
            clear A1220
            obtain rfl := Option.some.inj H
            have hcz123_0 : wc.cell? ⟨gb247, 0, none⟩ = some (.string a0_0) := (blk_cell BK247.out 0).trans rfl
            have hcz123_1 : wc.cell? ⟨gb247, 1, none⟩ = some (.int .i64 a0_1) := (blk_cell BK247.out 1).trans rfl
            have hcz123_2 : wc.cell? ⟨gb247, 2, none⟩ = some (.int .i64 a0_2) := (blk_cell BK247.out 2).trans rfl
            have hcz123_3 : wc.cell? ⟨gb247, 3, none⟩ = some (.int .i64 a0_3) := (blk_cell BK247.out 3).trans rfl
            have hcz123_4 : wc.cell? ⟨gb247, 4, none⟩ = some (.int .i64 a0_4) := (blk_cell BK247.out 4).trans rfl
            have hcz123_5 : wc.cell? ⟨gb247, 5, none⟩ = some (.int .i64 a0_5) := (blk_cell BK247.out 5).trans rfl
            have hcz123_6 : wc.cell? ⟨gb247, 6, none⟩ = some (.int .i64 a0_6) := (blk_cell BK247.out 6).trans rfl
            have hcz123_7 : wc.cell? ⟨gb247, 7, none⟩ = some (.int .i64 a0_7) := (blk_cell BK247.out 7).trans rfl
            have hcz123_8 : wc.cell? ⟨gb247, 8, none⟩ = some (.slice A0_8 l0_8.length c0_8) := (blk_cell BK247.out 8).trans rfl
            have hfz123_0 := blk_frozen BK247.out 0
            have hfz123_1 := blk_frozen BK247.out 1
            have hfz123_2 := blk_frozen BK247.out 2
            have hfz123_3 := blk_frozen BK247.out 3
            have hfz123_4 := blk_frozen BK247.out 4
            have hfz123_5 := blk_frozen BK247.out 5
            have hfz123_6 := blk_frozen BK247.out 6
            have hfz123_7 := blk_frozen BK247.out 7
            have hfz123_8 := blk_frozen BK247.out 8
            go_wp2_with (first | ((with_reducible refine gate_callee (f := 25) rfl ?_); refine goesL_ (some 20) rfl rfl Try.func25 (by kernel_rfl) rfl #[.agg #[.string a0_0, .int .i64 a0_1, .int .i64 a0_2, .int .i64 a0_3, .int .i64 a0_4, .int .i64 a0_5, .int .i64 a0_6, .int .i64 a0_7, .slice A0_8 l0_8.length c0_8]] rfl (by (try simp only [List.map_toArray, List.map_cons, List.map_nil]); first | done | rfl | (simp only [List.length_drop, List.length_take]; rfl)) ?_; (with_reducible refine (feature_Maximum.calls kj1 a0_0 a0_1 a0_2 a0_3 a0_4 a0_5 a0_6 a0_7 _ _ l0_8 t250 t251 _ ?side1 ?side2 A14.out).mono ?_); (case side1 => repeat (first | exact (Kd.C_below HR0_8.out HB.out) | (with_reducible refine Kd.C_alloc ?_ _) | (with_reducible refine Kd.C_drewN ?_ _) | (with_reducible refine Kd.C_drew ?_))); (case side2 => exact HC0_8.out); rintro e w124 ⟨rfl, hb⟩; refine ⟨_, rfl, ?_⟩; have n0_ := Aside0.mk (blk_below (g := gb247) (o := .cells #[.string a0_0, .int .i64 a0_1, .int .i64 a0_2, .int .i64 a0_3, .int .i64 a0_4, .int .i64 a0_5, .int .i64 a0_6, .int .i64 a0_7, .slice A0_8 l0_8.length c0_8] 28 (0, 0)) (by (with_reducible repeat first | apply blk_drewN | apply blk_drew | apply blk_alloc); exact BK247.out) hb); have n1_ := Aside0.mk (below_step (by repeat (first | (with_reducible first | exact HB.out | apply below_alloc | apply pw_below_drewN | apply below_drew1 | refine below_set ?_ GE247.out) | exact HB.out)) hb); clear BK247; clear HB; have BK247 := n0_; have HB := n1_; clear n0_ n1_; (try clear hb); (try clear hb2); (try clear hk); (try clear hi); have hcz125_0 : w124.cell? ⟨gb247, 0, none⟩ = some (.string a0_0) := (blk_cell BK247.out 0).trans rfl; have hcz125_1 : w124.cell? ⟨gb247, 1, none⟩ = some (.int .i64 a0_1) := (blk_cell BK247.out 1).trans rfl; have hcz125_2 : w124.cell? ⟨gb247, 2, none⟩ = some (.int .i64 a0_2) := (blk_cell BK247.out 2).trans rfl; have hcz125_3 : w124.cell? ⟨gb247, 3, none⟩ = some (.int .i64 a0_3) := (blk_cell BK247.out 3).trans rfl; have hcz125_4 : w124.cell? ⟨gb247, 4, none⟩ = some (.int .i64 a0_4) := (blk_cell BK247.out 4).trans rfl; have hcz125_5 : w124.cell? ⟨gb247, 5, none⟩ = some (.int .i64 a0_5) := (blk_cell BK247.out 5).trans rfl; have hcz125_6 : w124.cell? ⟨gb247, 6, none⟩ = some (.int .i64 a0_6) := (blk_cell BK247.out 6).trans rfl; have hcz125_7 : w124.cell? ⟨gb247, 7, none⟩ = some (.int .i64 a0_7) := (blk_cell BK247.out 7).trans rfl; have hcz125_8 : w124.cell? ⟨gb247, 8, none⟩ = some (.slice A0_8 l0_8.length c0_8) := (blk_cell BK247.out 8).trans rfl; have hfz125_0 := blk_frozen BK247.out 0; have hfz125_1 := blk_frozen BK247.out 1; have hfz125_2 := blk_frozen BK247.out 2; have hfz125_3 := blk_frozen BK247.out 3; have hfz125_4 := blk_frozen BK247.out 4; have hfz125_5 := blk_frozen BK247.out 5; have hfz125_6 := blk_frozen BK247.out 6; have hfz125_7 := blk_frozen BK247.out 7; have hfz125_8 := blk_frozen BK247.out 8) | ((with_reducible refine gate_callee (f := 27) rfl ?_); refine goesL_ (some 25) rfl rfl Try.func27 (by kernel_rfl) rfl #[.agg #[.string a0_0, .int .i64 a0_1, .int .i64 a0_2, .int .i64 a0_3, .int .i64 a0_4, .int .i64 a0_5, .int .i64 a0_6, .int .i64 a0_7, .slice A0_8 l0_8.length c0_8]] rfl (by (try simp only [List.map_toArray, List.map_cons, List.map_nil]); first | done | rfl | (simp only [List.length_drop, List.length_take]; rfl)) ?_; (with_reducible refine (feature_Least.calls kj1 a0_0 a0_1 a0_2 a0_3 a0_4 a0_5 a0_6 a0_7 _ _ l0_8 t252 t253 _ ?side1 ?side2 A15.out).mono ?_); (case side1 => repeat (first | exact (Kd.C_below HR0_8.out HB.out) | (with_reducible refine Kd.C_alloc ?_ _) | (with_reducible refine Kd.C_drewN ?_ _) | (with_reducible refine Kd.C_drew ?_))); (case side2 => exact HC0_8.out); rintro e w126 ⟨rfl, hb⟩; refine ⟨_, rfl, ?_⟩; have n0_ := Aside0.mk (blk_below (g := gb247) (o := .cells #[.string a0_0, .int .i64 a0_1, .int .i64 a0_2, .int .i64 a0_3, .int .i64 a0_4, .int .i64 a0_5, .int .i64 a0_6, .int .i64 a0_7, .slice A0_8 l0_8.length c0_8] 28 (0, 0)) (by (with_reducible repeat first | apply blk_drewN | apply blk_drew | apply blk_alloc); exact BK247.out) hb); have n1_ := Aside0.mk (below_step (by repeat (first | (with_reducible first | exact HB.out | apply below_alloc | apply pw_below_drewN | apply below_drew1 | refine below_set ?_ GE247.out) | exact HB.out)) hb); clear BK247; clear HB; have BK247 := n0_; have HB := n1_; clear n0_ n1_; (try clear hb); (try clear hb2); (try clear hk); (try clear hi); have hcz127_0 : w126.cell? ⟨gb247, 0, none⟩ = some (.string a0_0) := (blk_cell BK247.out 0).trans rfl; have hcz127_1 : w126.cell? ⟨gb247, 1, none⟩ = some (.int .i64 a0_1) := (blk_cell BK247.out 1).trans rfl; have hcz127_2 : w126.cell? ⟨gb247, 2, none⟩ = some (.int .i64 a0_2) := (blk_cell BK247.out 2).trans rfl; have hcz127_3 : w126.cell? ⟨gb247, 3, none⟩ = some (.int .i64 a0_3) := (blk_cell BK247.out 3).trans rfl; have hcz127_4 : w126.cell? ⟨gb247, 4, none⟩ = some (.int .i64 a0_4) := (blk_cell BK247.out 4).trans rfl; have hcz127_5 : w126.cell? ⟨gb247, 5, none⟩ = some (.int .i64 a0_5) := (blk_cell BK247.out 5).trans rfl; have hcz127_6 : w126.cell? ⟨gb247, 6, none⟩ = some (.int .i64 a0_6) := (blk_cell BK247.out 6).trans rfl; have hcz127_7 : w126.cell? ⟨gb247, 7, none⟩ = some (.int .i64 a0_7) := (blk_cell BK247.out 7).trans rfl; have hcz127_8 : w126.cell? ⟨gb247, 8, none⟩ = some (.slice A0_8 l0_8.length c0_8) := (blk_cell BK247.out 8).trans rfl; have hfz127_0 := blk_frozen BK247.out 0; have hfz127_1 := blk_frozen BK247.out 1; have hfz127_2 := blk_frozen BK247.out 2; have hfz127_3 := blk_frozen BK247.out 3; have hfz127_4 := blk_frozen BK247.out 4; have hfz127_5 := blk_frozen BK247.out 5; have hfz127_6 := blk_frozen BK247.out 6; have hfz127_7 := blk_frozen BK247.out 7; have hfz127_8 := blk_frozen BK247.out 8) | ((with_reducible refine gate_callee (f := 23) rfl ?_); refine goesL_ (some 30) rfl rfl Try.func23 (by kernel_rfl) rfl #[.agg #[.string a0_0, .int .i64 a0_1, .int .i64 a0_2, .int .i64 a0_3, .int .i64 a0_4, .int .i64 a0_5, .int .i64 a0_6, .int .i64 a0_7, .slice A0_8 l0_8.length c0_8]] rfl (by (try simp only [List.map_toArray, List.map_cons, List.map_nil]); first | done | rfl | (simp only [List.length_drop, List.length_take]; rfl)) ?_; (with_reducible refine (feature_Inner.calls kj1 a0_0 a0_1 a0_2 a0_3 a0_4 a0_5 a0_6 a0_7 _ _ l0_8 true t255 _ ?side1 ?side2 A16.out).mono ?_); (case side1 => repeat (first | exact (Kd.C_below HR0_8.out HB.out) | (with_reducible refine Kd.C_alloc ?_ _) | (with_reducible refine Kd.C_drewN ?_ _) | (with_reducible refine Kd.C_drew ?_))); (case side2 => exact HC0_8.out); rintro e w128 ⟨rfl, hb⟩; refine ⟨_, rfl, ?_⟩; have n0_ := Aside0.mk (blk_below (g := gb247) (o := .cells #[.string a0_0, .int .i64 a0_1, .int .i64 a0_2, .int .i64 a0_3, .int .i64 a0_4, .int .i64 a0_5, .int .i64 a0_6, .int .i64 a0_7, .slice A0_8 l0_8.length c0_8] 28 (0, 0)) (by (with_reducible repeat first | apply blk_drewN | apply blk_drew | apply blk_alloc); exact BK247.out) hb); have n1_ := Aside0.mk (below_step (by repeat (first | (with_reducible first | exact HB.out | apply below_alloc | apply pw_below_drewN | apply below_drew1 | refine below_set ?_ GE247.out) | exact HB.out)) hb); clear BK247; clear HB; have BK247 := n0_; have HB := n1_; clear n0_ n1_; (try clear hb); (try clear hb2); (try clear hk); (try clear hi); have hcz129_0 : w128.cell? ⟨gb247, 0, none⟩ = some (.string a0_0) := (blk_cell BK247.out 0).trans rfl; have hcz129_1 : w128.cell? ⟨gb247, 1, none⟩ = some (.int .i64 a0_1) := (blk_cell BK247.out 1).trans rfl; have hcz129_2 : w128.cell? ⟨gb247, 2, none⟩ = some (.int .i64 a0_2) := (blk_cell BK247.out 2).trans rfl; have hcz129_3 : w128.cell? ⟨gb247, 3, none⟩ = some (.int .i64 a0_3) := (blk_cell BK247.out 3).trans rfl; have hcz129_4 : w128.cell? ⟨gb247, 4, none⟩ = some (.int .i64 a0_4) := (blk_cell BK247.out 4).trans rfl; have hcz129_5 : w128.cell? ⟨gb247, 5, none⟩ = some (.int .i64 a0_5) := (blk_cell BK247.out 5).trans rfl; have hcz129_6 : w128.cell? ⟨gb247, 6, none⟩ = some (.int .i64 a0_6) := (blk_cell BK247.out 6).trans rfl; have hcz129_7 : w128.cell? ⟨gb247, 7, none⟩ = some (.int .i64 a0_7) := (blk_cell BK247.out 7).trans rfl; have hcz129_8 : w128.cell? ⟨gb247, 8, none⟩ = some (.slice A0_8 l0_8.length c0_8) := (blk_cell BK247.out 8).trans rfl; have hfz129_0 := blk_frozen BK247.out 0; have hfz129_1 := blk_frozen BK247.out 1; have hfz129_2 := blk_frozen BK247.out 2; have hfz129_3 := blk_frozen BK247.out 3; have hfz129_4 := blk_frozen BK247.out 4; have hfz129_5 := blk_frozen BK247.out 5; have hfz129_6 := blk_frozen BK247.out 6; have hfz129_7 := blk_frozen BK247.out 7; have hfz129_8 := blk_frozen BK247.out 8) | (go_at_call 18; (with_reducible refine (metrolablaw18_awake.calls  t260 _ A122.out).mono ?_); rintro e w130 ⟨rfl, hb⟩; have n0_ := Aside0.mk (blk_below (g := gb247) (o := .cells #[.string a0_0, .int .i64 a0_1, .int .i64 a0_2, .int .i64 a0_3, .int .i64 a0_4, .int .i64 a0_5, .int .i64 a0_6, .int .i64 a0_7, .slice A0_8 l0_8.length c0_8] 28 (0, 0)) (by (with_reducible repeat first | apply blk_drewN | apply blk_drew | apply blk_alloc); exact BK247.out) hb); have n1_ := Aside0.mk (below_step (by repeat (first | (with_reducible first | exact HB.out | apply below_alloc | apply pw_below_drewN | apply below_drew1 | refine below_set ?_ GE247.out) | exact HB.out)) hb); clear BK247; clear HB; have BK247 := n0_; have HB := n1_; clear n0_ n1_; (try clear hb); (try clear hb2); (try clear hk); (try clear hi)))
            go_ret
            exact ⟨by first | rfl | (simp [errW_none, errW_some] <;> rfl) | (simp only [← hji106, ← hji108]; first | rfl | (simp [errW_none, errW_some] <;> rfl)) | (simp [*, errW_none, errW_some] <;> rfl), by repeat (first | (with_reducible first | exact HB.out | apply below_alloc | apply pw_below_drewN | apply below_drew1 | refine below_set ?_ GE247.out) | exact HB.out)⟩
           ·rw [if_neg c121] at H
            exact absurd ((Option.some.inj H).trans HRT.out) (by decide)
         ·rw [if_neg c110] at H
          have c110b0 : decide (t250 ≤ t252) = false := decide_eq_false c110
          clear c110
          by_cases c138 : t254 = true
          ·rw [if_pos c138] at H
           exact absurd ((Option.some.inj H).trans HRT.out) (by decide)
          ·replace c138 := Bool.eq_false_iff.mpr c138
           subst c138
           have H1 : (if t250 ≥ t252 then ((metrolablaw18_awake.f).bind fun t261 => (some t261)) else (some false)) = some r := by rw [if_neg (show ¬ (false = true) by decide)] at H; exact H
           clear H
           have H := H1
           clear H1
           by_cases c146 : t250 ≥ t252
           ·rw [if_pos c146] at H
            have c146b0 : decide (t252 ≤ t250) = true := decide_eq_true c146
            clear c146
            replace H := Option.bind_eq_some_iff.mp H
            obtain ⟨t261, A1470, H⟩ := H
            replace H : (some t261) = some r := H
            have A147 := Aside0.mk A1470
            clear A1470
            obtain rfl := Option.some.inj H
            have hcz148_0 : wc.cell? ⟨gb247, 0, none⟩ = some (.string a0_0) := (blk_cell BK247.out 0).trans rfl
            have hcz148_1 : wc.cell? ⟨gb247, 1, none⟩ = some (.int .i64 a0_1) := (blk_cell BK247.out 1).trans rfl
            have hcz148_2 : wc.cell? ⟨gb247, 2, none⟩ = some (.int .i64 a0_2) := (blk_cell BK247.out 2).trans rfl
            have hcz148_3 : wc.cell? ⟨gb247, 3, none⟩ = some (.int .i64 a0_3) := (blk_cell BK247.out 3).trans rfl
            have hcz148_4 : wc.cell? ⟨gb247, 4, none⟩ = some (.int .i64 a0_4) := (blk_cell BK247.out 4).trans rfl
            have hcz148_5 : wc.cell? ⟨gb247, 5, none⟩ = some (.int .i64 a0_5) := (blk_cell BK247.out 5).trans rfl
            have hcz148_6 : wc.cell? ⟨gb247, 6, none⟩ = some (.int .i64 a0_6) := (blk_cell BK247.out 6).trans rfl
            have hcz148_7 : wc.cell? ⟨gb247, 7, none⟩ = some (.int .i64 a0_7) := (blk_cell BK247.out 7).trans rfl
            have hcz148_8 : wc.cell? ⟨gb247, 8, none⟩ = some (.slice A0_8 l0_8.length c0_8) := (blk_cell BK247.out 8).trans rfl
            have hfz148_0 := blk_frozen BK247.out 0
            have hfz148_1 := blk_frozen BK247.out 1
            have hfz148_2 := blk_frozen BK247.out 2
            have hfz148_3 := blk_frozen BK247.out 3
            have hfz148_4 := blk_frozen BK247.out 4
            have hfz148_5 := blk_frozen BK247.out 5
            have hfz148_6 := blk_frozen BK247.out 6
            have hfz148_7 := blk_frozen BK247.out 7
            have hfz148_8 := blk_frozen BK247.out 8
            go_wp2_with (first | ((with_reducible refine gate_callee (f := 25) rfl ?_); refine goesL_ (some 20) rfl rfl Try.func25 (by kernel_rfl) rfl #[.agg #[.string a0_0, .int .i64 a0_1, .int .i64 a0_2, .int .i64 a0_3, .int .i64 a0_4, .int .i64 a0_5, .int .i64 a0_6, .int .i64 a0_7, .slice A0_8 l0_8.length c0_8]] rfl (by (try simp only [List.map_toArray, List.map_cons, List.map_nil]); first | done | rfl | (simp only [List.length_drop, List.length_take]; rfl)) ?_; (with_reducible refine (feature_Maximum.calls kj1 a0_0 a0_1 a0_2 a0_3 a0_4 a0_5 a0_6 a0_7 _ _ l0_8 t250 t251 _ ?side1 ?side2 A14.out).mono ?_); (case side1 => repeat (first | exact (Kd.C_below HR0_8.out HB.out) | (with_reducible refine Kd.C_alloc ?_ _) | (with_reducible refine Kd.C_drewN ?_ _) | (with_reducible refine Kd.C_drew ?_))); (case side2 => exact HC0_8.out); rintro e w149 ⟨rfl, hb⟩; refine ⟨_, rfl, ?_⟩; have n0_ := Aside0.mk (blk_below (g := gb247) (o := .cells #[.string a0_0, .int .i64 a0_1, .int .i64 a0_2, .int .i64 a0_3, .int .i64 a0_4, .int .i64 a0_5, .int .i64 a0_6, .int .i64 a0_7, .slice A0_8 l0_8.length c0_8] 28 (0, 0)) (by (with_reducible repeat first | apply blk_drewN | apply blk_drew | apply blk_alloc); exact BK247.out) hb); have n1_ := Aside0.mk (below_step (by repeat (first | (with_reducible first | exact HB.out | apply below_alloc | apply pw_below_drewN | apply below_drew1 | refine below_set ?_ GE247.out) | exact HB.out)) hb); clear BK247; clear HB; have BK247 := n0_; have HB := n1_; clear n0_ n1_; (try clear hb); (try clear hb2); (try clear hk); (try clear hi); have hcz150_0 : w149.cell? ⟨gb247, 0, none⟩ = some (.string a0_0) := (blk_cell BK247.out 0).trans rfl; have hcz150_1 : w149.cell? ⟨gb247, 1, none⟩ = some (.int .i64 a0_1) := (blk_cell BK247.out 1).trans rfl; have hcz150_2 : w149.cell? ⟨gb247, 2, none⟩ = some (.int .i64 a0_2) := (blk_cell BK247.out 2).trans rfl; have hcz150_3 : w149.cell? ⟨gb247, 3, none⟩ = some (.int .i64 a0_3) := (blk_cell BK247.out 3).trans rfl; have hcz150_4 : w149.cell? ⟨gb247, 4, none⟩ = some (.int .i64 a0_4) := (blk_cell BK247.out 4).trans rfl; have hcz150_5 : w149.cell? ⟨gb247, 5, none⟩ = some (.int .i64 a0_5) := (blk_cell BK247.out 5).trans rfl; have hcz150_6 : w149.cell? ⟨gb247, 6, none⟩ = some (.int .i64 a0_6) := (blk_cell BK247.out 6).trans rfl; have hcz150_7 : w149.cell? ⟨gb247, 7, none⟩ = some (.int .i64 a0_7) := (blk_cell BK247.out 7).trans rfl; have hcz150_8 : w149.cell? ⟨gb247, 8, none⟩ = some (.slice A0_8 l0_8.length c0_8) := (blk_cell BK247.out 8).trans rfl; have hfz150_0 := blk_frozen BK247.out 0; have hfz150_1 := blk_frozen BK247.out 1; have hfz150_2 := blk_frozen BK247.out 2; have hfz150_3 := blk_frozen BK247.out 3; have hfz150_4 := blk_frozen BK247.out 4; have hfz150_5 := blk_frozen BK247.out 5; have hfz150_6 := blk_frozen BK247.out 6; have hfz150_7 := blk_frozen BK247.out 7; have hfz150_8 := blk_frozen BK247.out 8) | ((with_reducible refine gate_callee (f := 27) rfl ?_); refine goesL_ (some 25) rfl rfl Try.func27 (by kernel_rfl) rfl #[.agg #[.string a0_0, .int .i64 a0_1, .int .i64 a0_2, .int .i64 a0_3, .int .i64 a0_4, .int .i64 a0_5, .int .i64 a0_6, .int .i64 a0_7, .slice A0_8 l0_8.length c0_8]] rfl (by (try simp only [List.map_toArray, List.map_cons, List.map_nil]); first | done | rfl | (simp only [List.length_drop, List.length_take]; rfl)) ?_; (with_reducible refine (feature_Least.calls kj1 a0_0 a0_1 a0_2 a0_3 a0_4 a0_5 a0_6 a0_7 _ _ l0_8 t252 t253 _ ?side1 ?side2 A15.out).mono ?_); (case side1 => repeat (first | exact (Kd.C_below HR0_8.out HB.out) | (with_reducible refine Kd.C_alloc ?_ _) | (with_reducible refine Kd.C_drewN ?_ _) | (with_reducible refine Kd.C_drew ?_))); (case side2 => exact HC0_8.out); rintro e w151 ⟨rfl, hb⟩; refine ⟨_, rfl, ?_⟩; have n0_ := Aside0.mk (blk_below (g := gb247) (o := .cells #[.string a0_0, .int .i64 a0_1, .int .i64 a0_2, .int .i64 a0_3, .int .i64 a0_4, .int .i64 a0_5, .int .i64 a0_6, .int .i64 a0_7, .slice A0_8 l0_8.length c0_8] 28 (0, 0)) (by (with_reducible repeat first | apply blk_drewN | apply blk_drew | apply blk_alloc); exact BK247.out) hb); have n1_ := Aside0.mk (below_step (by repeat (first | (with_reducible first | exact HB.out | apply below_alloc | apply pw_below_drewN | apply below_drew1 | refine below_set ?_ GE247.out) | exact HB.out)) hb); clear BK247; clear HB; have BK247 := n0_; have HB := n1_; clear n0_ n1_; (try clear hb); (try clear hb2); (try clear hk); (try clear hi); have hcz152_0 : w151.cell? ⟨gb247, 0, none⟩ = some (.string a0_0) := (blk_cell BK247.out 0).trans rfl; have hcz152_1 : w151.cell? ⟨gb247, 1, none⟩ = some (.int .i64 a0_1) := (blk_cell BK247.out 1).trans rfl; have hcz152_2 : w151.cell? ⟨gb247, 2, none⟩ = some (.int .i64 a0_2) := (blk_cell BK247.out 2).trans rfl; have hcz152_3 : w151.cell? ⟨gb247, 3, none⟩ = some (.int .i64 a0_3) := (blk_cell BK247.out 3).trans rfl; have hcz152_4 : w151.cell? ⟨gb247, 4, none⟩ = some (.int .i64 a0_4) := (blk_cell BK247.out 4).trans rfl; have hcz152_5 : w151.cell? ⟨gb247, 5, none⟩ = some (.int .i64 a0_5) := (blk_cell BK247.out 5).trans rfl; have hcz152_6 : w151.cell? ⟨gb247, 6, none⟩ = some (.int .i64 a0_6) := (blk_cell BK247.out 6).trans rfl; have hcz152_7 : w151.cell? ⟨gb247, 7, none⟩ = some (.int .i64 a0_7) := (blk_cell BK247.out 7).trans rfl; have hcz152_8 : w151.cell? ⟨gb247, 8, none⟩ = some (.slice A0_8 l0_8.length c0_8) := (blk_cell BK247.out 8).trans rfl; have hfz152_0 := blk_frozen BK247.out 0; have hfz152_1 := blk_frozen BK247.out 1; have hfz152_2 := blk_frozen BK247.out 2; have hfz152_3 := blk_frozen BK247.out 3; have hfz152_4 := blk_frozen BK247.out 4; have hfz152_5 := blk_frozen BK247.out 5; have hfz152_6 := blk_frozen BK247.out 6; have hfz152_7 := blk_frozen BK247.out 7; have hfz152_8 := blk_frozen BK247.out 8) | ((with_reducible refine gate_callee (f := 23) rfl ?_); refine goesL_ (some 30) rfl rfl Try.func23 (by kernel_rfl) rfl #[.agg #[.string a0_0, .int .i64 a0_1, .int .i64 a0_2, .int .i64 a0_3, .int .i64 a0_4, .int .i64 a0_5, .int .i64 a0_6, .int .i64 a0_7, .slice A0_8 l0_8.length c0_8]] rfl (by (try simp only [List.map_toArray, List.map_cons, List.map_nil]); first | done | rfl | (simp only [List.length_drop, List.length_take]; rfl)) ?_; (with_reducible refine (feature_Inner.calls kj1 a0_0 a0_1 a0_2 a0_3 a0_4 a0_5 a0_6 a0_7 _ _ l0_8 false t255 _ ?side1 ?side2 A16.out).mono ?_); (case side1 => repeat (first | exact (Kd.C_below HR0_8.out HB.out) | (with_reducible refine Kd.C_alloc ?_ _) | (with_reducible refine Kd.C_drewN ?_ _) | (with_reducible refine Kd.C_drew ?_))); (case side2 => exact HC0_8.out); rintro e w153 ⟨rfl, hb⟩; refine ⟨_, rfl, ?_⟩; have n0_ := Aside0.mk (blk_below (g := gb247) (o := .cells #[.string a0_0, .int .i64 a0_1, .int .i64 a0_2, .int .i64 a0_3, .int .i64 a0_4, .int .i64 a0_5, .int .i64 a0_6, .int .i64 a0_7, .slice A0_8 l0_8.length c0_8] 28 (0, 0)) (by (with_reducible repeat first | apply blk_drewN | apply blk_drew | apply blk_alloc); exact BK247.out) hb); have n1_ := Aside0.mk (below_step (by repeat (first | (with_reducible first | exact HB.out | apply below_alloc | apply pw_below_drewN | apply below_drew1 | refine below_set ?_ GE247.out) | exact HB.out)) hb); clear BK247; clear HB; have BK247 := n0_; have HB := n1_; clear n0_ n1_; (try clear hb); (try clear hb2); (try clear hk); (try clear hi); have hcz154_0 : w153.cell? ⟨gb247, 0, none⟩ = some (.string a0_0) := (blk_cell BK247.out 0).trans rfl; have hcz154_1 : w153.cell? ⟨gb247, 1, none⟩ = some (.int .i64 a0_1) := (blk_cell BK247.out 1).trans rfl; have hcz154_2 : w153.cell? ⟨gb247, 2, none⟩ = some (.int .i64 a0_2) := (blk_cell BK247.out 2).trans rfl; have hcz154_3 : w153.cell? ⟨gb247, 3, none⟩ = some (.int .i64 a0_3) := (blk_cell BK247.out 3).trans rfl; have hcz154_4 : w153.cell? ⟨gb247, 4, none⟩ = some (.int .i64 a0_4) := (blk_cell BK247.out 4).trans rfl; have hcz154_5 : w153.cell? ⟨gb247, 5, none⟩ = some (.int .i64 a0_5) := (blk_cell BK247.out 5).trans rfl; have hcz154_6 : w153.cell? ⟨gb247, 6, none⟩ = some (.int .i64 a0_6) := (blk_cell BK247.out 6).trans rfl; have hcz154_7 : w153.cell? ⟨gb247, 7, none⟩ = some (.int .i64 a0_7) := (blk_cell BK247.out 7).trans rfl; have hcz154_8 : w153.cell? ⟨gb247, 8, none⟩ = some (.slice A0_8 l0_8.length c0_8) := (blk_cell BK247.out 8).trans rfl; have hfz154_0 := blk_frozen BK247.out 0; have hfz154_1 := blk_frozen BK247.out 1; have hfz154_2 := blk_frozen BK247.out 2; have hfz154_3 := blk_frozen BK247.out 3; have hfz154_4 := blk_frozen BK247.out 4; have hfz154_5 := blk_frozen BK247.out 5; have hfz154_6 := blk_frozen BK247.out 6; have hfz154_7 := blk_frozen BK247.out 7; have hfz154_8 := blk_frozen BK247.out 8) | (go_at_call 18; (with_reducible refine (metrolablaw18_awake.calls  t261 _ A147.out).mono ?_); rintro e w155 ⟨rfl, hb⟩; have n0_ := Aside0.mk (blk_below (g := gb247) (o := .cells #[.string a0_0, .int .i64 a0_1, .int .i64 a0_2, .int .i64 a0_3, .int .i64 a0_4, .int .i64 a0_5, .int .i64 a0_6, .int .i64 a0_7, .slice A0_8 l0_8.length c0_8] 28 (0, 0)) (by (with_reducible repeat first | apply blk_drewN | apply blk_drew | apply blk_alloc); exact BK247.out) hb); have n1_ := Aside0.mk (below_step (by repeat (first | (with_reducible first | exact HB.out | apply below_alloc | apply pw_below_drewN | apply below_drew1 | refine below_set ?_ GE247.out) | exact HB.out)) hb); clear BK247; clear HB; have BK247 := n0_; have HB := n1_; clear n0_ n1_; (try clear hb); (try clear hb2); (try clear hk); (try clear hi)))
            go_ret
            exact ⟨by first | rfl | (simp [errW_none, errW_some] <;> rfl) | (simp only [← hji106, ← hji108]; first | rfl | (simp [errW_none, errW_some] <;> rfl)) | (simp [*, errW_none, errW_some] <;> rfl), by repeat (first | (with_reducible first | exact HB.out | apply below_alloc | apply pw_below_drewN | apply below_drew1 | refine below_set ?_ GE247.out) | exact HB.out)⟩
           ·rw [if_neg c146] at H
            exact absurd ((Option.some.inj H).trans HRT.out) (by decide)
        ·rw [if_neg c109] at H
         exact absurd ((Option.some.inj H).trans HRT.out) (by decide)
       ·rw [if_neg c107] at H
        exact absurd ((Option.some.inj H).trans HRT.out) (by decide)
    ·rw [if_neg c17] at H
     exact absurd ((Option.some.inj H).trans HRT.out) (by decide)
end Go.Proofs.Ytkgdlbepjmgaiaa.Fea
set_option linter.unusedVariables false
set_option linter.unusedSimpArgs false
namespace Go.Proofs.Ytkgdlbepjmgaiaa.Fea
open Go.RowKit Go.Proofs.YtkgdlbepjmgaiaaW.PrintWords Go.Proofs.YtkgdlbepjmgaiaaW.PrintLast Go.Proofs.YtkgdlbepjmgaiaaW.PrintMore
def rightV (nm : ByteArray) (k ax x y z lo hi : Int) (l : List S104) : Bool := fewV nm l && (chkF nm k ax x y z lo hi == 0)
theorem right_ev (nm : ByteArray) (k ax x y z lo hi : Int) (l : List S104) : Ev (fun n => metrolablaw18_right.f n nm k ax x y z lo hi l) (rightV nm k ax x y z lo hi l) := by
  unfold metrolablaw18_right.f rightV
  refine Ev.bind (Few_ev nm k ax x y z lo hi l) ?_
  cases fewV nm l
  · exact Ev.e (by decide) (Ev.now _)
  · exact Ev.t rfl (Ev.bind (RCheck_ev nm k ax x y z lo hi l) (Ev.now _))
theorem FeatureEnds_pure (nm : ByteArray) (k ax x y z lo hi : Int) (l : List S104) : ∃ n, metrolablaw18_FeatureEnds.f n nm k ax x y z lo hi l = some true := by
  refine Ev.rounds (g := fun n => metrolablaw18_FeatureEnds.f n nm k ax x y z lo hi l) ?_
  have j0 : ∀ b, (b = false → chkF nm k ax x y z lo hi = 0 ∧ k ≠ 0) → Ev (fun n => metrolablaw18_FeatureEnds.j0 n b nm k ax x y z lo hi l) true := by
    intro b hb
    refine Ev.step (fun n => by rw [metrolablaw18_FeatureEnds.j0]) ?_
    unfold metrolablaw18_awake.f
    simp only [Option.bind_some]
    refine Ev.ite (fun _ => Ev.now _) (fun hn => ?_)
    obtain ⟨hc, hk⟩ := hb (Bool.eq_false_iff.2 hn)
    refine Ev.bind (Maximum_ev nm k ax x y z lo hi l) (Ev.bind (Least_ev nm k ax x y z lo hi l) (Ev.bind (Inner_ev nm k ax x y z lo hi l) ?_))
    have hs := (chkF_ok.1 hc).2.size hk
    have hle : lo ≤ hi := hs.2.1
    unfold extV inV
    simp only [if_pos hc, if_neg hk]
    have e1 : mn lo hi = lo := by unfold mn; split <;> omega
    have e2 : mx lo hi = hi := by unfold mx; split <;> omega
    have e3 : mn hi lo = lo := by unfold mn; split <;> omega
    have e4 : mx hi lo = hi := by unfold mx; split <;> omega
    unfold innB
    by_cases h1 : k = 1
    · subst h1
      simp only [if_pos]
      simp [e1, e2, e3, e4, hle, wrap64]
      first | exact Ev.now _ | (split <;> exact Ev.now _)
    · simp only [if_neg h1]
      by_cases h3 : k = 3
      · subst h3
        simp [e1, e2, e3, e4, hle, wrap64]
        first | exact Ev.now _ | (split <;> exact Ev.now _)
      · have hb3 : (k == 3) = false := by simpa using h3
        simp [e1, e2, e3, e4, hle, hb3, wrap64]
        first | exact Ev.now _ | (split <;> exact Ev.now _)
  unfold metrolablaw18_FeatureEnds.f
  refine Ev.bind (right_ev nm k ax x y z lo hi l) (Ev.ite (fun hr => j0 _ (fun h0 => ?_)) (fun _ => j0 true (fun h => by cases h)))
  simp only [rightV, Bool.and_eq_true, beq_iff_eq] at hr
  exact ⟨hr.2, by simpa using h0⟩
end Go.Proofs.Ytkgdlbepjmgaiaa.Fea
set_option linter.unusedVariables false
set_option linter.unusedSimpArgs false
namespace Go.Proofs.Ytkgdlbepjmgaiaa.Row
open Go.RowKit Go.Proofs.YtkgdlbepjmgaiaaW.PrintWords
def Opens {α : Type} (P : Program) (k : Kd α) (t : TypeId) (Q : α → Prop) : Prop :=
  ∀ (H : Type) (enc : TypeId × Value → H) (w : World) (base : Nat) (spare : Nat → Bool) (held : Bool) (fuel : Nat) (cs : List Value) (x : DataW H × List MemPlace),
    DataW.trod enc P w base spare held fuel t cs = some x → ∃ a, k.K w a cs ∧ Q a
variable {P : Program}
theorem opens_int {t : TypeId} {q : IntKind} (ht : P.underlying t = some (.int q)) : Opens P (Kd.int q) t (fun n => (Lit.int q n).wf = true) := by
  intro H enc w base spare held fuel cs x h
  obtain ⟨n, rfl, _, hw⟩ := DataW.trod_int ht h
  exact ⟨n, rfl, hw⟩
theorem opens_bool {t : TypeId} (ht : P.underlying t = some .bool) : Opens P Kd.bool t (fun _ => True) := by
  intro H enc w base spare held fuel cs x h
  obtain ⟨n, rfl, _⟩ := DataW.trod_bool ht h
  exact ⟨n, rfl, trivial⟩
theorem opens_string {t : TypeId} (ht : P.underlying t = some .string) : Opens P Kd.string t (fun s => s.size ≤ maxLen) := by
  intro H enc w base spare held fuel cs x h
  obtain ⟨n, rfl, _, hw⟩ := DataW.trod_string ht h
  exact ⟨n, rfl, hw⟩
theorem cells_get {w : World} {base : Nat} {a : Addr} {n : Nat} {c : List Value} (h : w.cells? base a n = some c) : c.length = n ∧ ∀ i u, c[i]? = some u → w.cell? (a.add i) = some u := by
  unfold World.cells? at h
  split at h
  case isFalse => cases h
  have hl : c.length = n := by simpa using mapM_some_length h
  refine ⟨hl, fun i u hi => ?_⟩
  have hlt : i < n := by rw [← hl]; exact (List.getElem?_eq_some_iff.1 hi).1
  rw [← hi]
  exact mapM_some_get h i i (by simp [hlt])
theorem list_of {α : Type} {R : Nat → α → Prop} : ∀ n, (∀ i, i < n → ∃ a, R i a) → ∃ l : List α, l.length = n ∧ ∀ i a, l[i]? = some a → R i a
  | 0, _ => ⟨[], rfl, fun i a h => by simp at h⟩
  | n + 1, h => by
    obtain ⟨l, hl, hr⟩ := list_of n (fun i hi => h i (by omega))
    obtain ⟨a, ha⟩ := h n (by omega)
    refine ⟨l ++ [a], by simp [hl], fun i b hi => ?_⟩
    rcases Nat.lt_or_ge i n with hlt | hge
    · rw [List.getElem?_append_left (by omega)] at hi
      exact hr i b hi
    · have hi' : i < (l ++ [a]).length := (List.getElem?_eq_some_iff.1 hi).1
      obtain rfl : i = n := by simp [hl] at hi'; omega
      rw [List.getElem?_append_right (by omega), hl] at hi
      simp at hi
      subst hi
      exact ha
theorem opens_slice {α : Type} {d : Kd α} {t e : TypeId} {Q : α → Prop} (ht : P.underlying t = some (.slice e)) (hs : P.cellsOf e = d.sz) (h : Opens P d e Q) : Opens P (Kd.slice e d) t (fun xs => xs.length ≤ maxLen ∧ ∀ x ∈ xs, Q x) := by
  intro H enc w base spare held fuel cs x hx
  rcases DataW.trod_slice ht hx with ⟨rfl, rfl⟩ | ⟨a, len, cap, elems, rest, n, _, rfl, rfl, hb, hl, hm, hlen, hel, _, _⟩
  · exact ⟨[], ⟨none, 0, rfl, Nat.le_refl _, rfl, by simp, fun h => absurd h (by simp)⟩, by simp, by simp⟩
  · have each : ∀ i, i < len → ∃ a', Q a' ∧ ∃ c, c.length = d.sz ∧ d.K w a' c ∧ ∀ j u, c[j]? = some u → w.cell? (a.add (i * d.sz + j)) = some u := by
      intro i hi
      have h1 := hel i hi
      have hy : ∃ y, elems[i]? = some y := ⟨elems[i]'(by omega), List.getElem?_eq_getElem (by omega)⟩
      obtain ⟨y, hy⟩ := hy
      rw [hy, Option.bind_eq_some_iff] at h1
      obtain ⟨c, hc, hr⟩ := h1
      obtain ⟨a', hK, hQ⟩ := h H enc w base spare held n c y hr
      obtain ⟨hcl, hcc⟩ := cells_get hc
      refine ⟨a', hQ, c, d.K_len hK, hK, fun j u hj => ?_⟩
      have := hcc j u hj
      rw [hs, add_add] at this
      exact this
    obtain ⟨xs, hxl, hxs⟩ := list_of len each
    refine ⟨xs, ⟨some a, cap, by rw [hxl], by omega, ⟨rfl, by unfold maxLen at hm; omega, fun _ => ⟨a, rfl, fun j p hp => (hxs j p hp).2⟩⟩⟩, by omega, fun x hx => ?_⟩
    obtain ⟨j, hj⟩ := List.getElem?_of_mem hx
    exact (hxs j x hj).1
def OpensF {α : Type} (P : Program) (k : Kd α) (fs : List Field) (off : Nat) (Q : α → Prop) : Prop :=
  ∀ (H : Type) (enc : TypeId × Value → H) (w : World) (base : Nat) (spare : Nat → Bool) (held : Bool) (n : Nat) (cs : List Value),
    cs.length = off + k.sz → (∀ f ∈ fs, ∃ y, DataW.trod enc P w base spare held n f.type ((cs.drop f.offset).take (P.cellsOf f.type)) = some y) → ∃ a, k.K w a (cs.drop off) ∧ Q a
theorem opensF_one {α : Type} {k : Kd α} {f : Field} {off : Nat} {Q : α → Prop} (ho : f.offset = off) (hs : P.cellsOf f.type = k.sz) (h : Opens P k f.type Q) : OpensF P k [f] off Q := by
  intro H enc w base spare held n cs hl hf
  obtain ⟨y, hy⟩ := hf f (by simp)
  obtain ⟨a, hK, hQ⟩ := h H enc w base spare held n _ y hy
  refine ⟨a, ?_, hQ⟩
  rw [ho, hs, List.take_of_length_le (by simp; omega)] at hK
  exact hK
theorem opensF_cons {α β : Type} {a : Kd α} {b : Kd β} {f : Field} {fs : List Field} {off : Nat} {Q : α → Prop} {R : β → Prop} (ho : f.offset = off) (hs : P.cellsOf f.type = a.sz) (h : Opens P a f.type Q) (hr : OpensF P b fs (off + a.sz) R) :
    OpensF P (Kd.pair a b) (f :: fs) off (fun x => Q x.1 ∧ R x.2) := by
  intro H enc w base spare held n cs hl hf
  have hl' : cs.length = off + (a.sz + b.sz) := hl
  obtain ⟨y, hy⟩ := hf f (by simp)
  obtain ⟨x, hK, hQ⟩ := h H enc w base spare held n _ y hy
  obtain ⟨z, hK2, hR⟩ := hr H enc w base spare held n cs (by omega) (fun g hg => hf g (by simp [hg]))
  refine ⟨(x, z), ⟨(cs.drop off).take a.sz, cs.drop (off + a.sz), ?_, ?_, hK2⟩, hQ, hR⟩
  · rw [← List.drop_drop, List.take_append_drop]
  · rw [ho, hs] at hK; exact hK
theorem opens_struct {α β : Type} {k : Kd α} {t : TypeId} {fs : Array Field} {Q : α → Prop} {g : β → α} {R : β → Prop} (ht : P.underlying t = some (.struct fs)) (hs : P.cellsOf t = k.sz) (h : OpensF P k fs.toList 0 Q)
    (hg : ∀ a, Q a → ∃ b, g b = a ∧ R b) : Opens P (Kd.iso k g) t R := by
  intro H enc w base spare held fuel cs x hx
  obtain ⟨xs, n, _, _, hl, hlen, hf⟩ := DataW.trod_struct ht hx
  obtain ⟨a, hK, hQ⟩ := h H enc w base spare held n cs (by omega) (fun f hf' => by
    obtain ⟨i, hi⟩ := List.getElem?_of_mem hf'
    have h1 := hf i f (by simpa using hi)
    have hlt : i < xs.length := by
      have := (List.getElem?_eq_some_iff.1 hi).1
      rw [hlen]; simpa using this
    exact ⟨xs[i], by rw [h1, List.getElem?_eq_getElem hlt]⟩)
  obtain ⟨b, rfl, hR⟩ := hg a hQ
  refine ⟨b, ?_, hR⟩
  show k.K w (g b) cs
  simpa using hK
theorem sized_rows {H : Type} {enc : TypeId × Value → H} {w : World} {base : Nat} {spare : Nat → Bool} {held : Bool} {ts : List TypeId} {ds : List (DataW H)} {j : Nat} {t e : TypeId} {A : Option Addr} {n c bytes : Nat} {d : DataW H} {p : List MemPlace}
    (hsz : (DataW.weightsEach P ts ds).all (· ≤ reachBytes) = true) (ht : ts[j]? = some t) (hd : ds[j]? = some d) (hu : P.underlying t = some (.slice e)) (hB : P.bytesOf e = bytes)
    (h : DataW.Trod enc P w base spare held t (.slice A n c) d p) : n * bytes ≤ 140737488351232 := by
  obtain ⟨fuel, hf⟩ := h
  rcases DataW.trod_slice hu hf with ⟨hcs, hx⟩ | ⟨a, len, cap, elems, rest, m, _, hcs, hx, _, hl, _, hlen, _⟩
  · simp [Value.cells] at hcs
    obtain ⟨_, rfl, _⟩ := hcs
    simp
  · simp [Value.cells] at hcs
    obtain ⟨_, rfl, rfl⟩ := hcs
    obtain ⟨hx, _⟩ := Prod.mk.inj hx
    subst hx
    have z := sized_slice hsz ht hd hu
    rw [hB] at z
    have h1 : n ≤ (elems.map (·.1)).length + (rest.map (·.1)).length := by simp; omega
    exact Nat.le_trans (Nat.mul_le_mul_right _ h1) z
end Go.Proofs.Ytkgdlbepjmgaiaa.Row
set_option linter.unusedVariables false
namespace Go.Proofs.Ytkgdlbepjmgaiaa.Fea
open Go.RowKit Go.Proofs.YtkgdlbepjmgaiaaW.PrintWords Go.Proofs.Ytkgdlbepjmgaiaa.Row
theorem o106 : Opens Try.prog k106 106 (fun _ => True) :=
  opens_struct Try.underlying106 (by kernel_rfl)
    (opensF_cons rfl (by kernel_rfl) (opens_string Try.underlying9) (opensF_one rfl (by kernel_rfl) (opens_int Try.underlying3)))
    (fun a _ => ⟨⟨a.1, a.2⟩, rfl, trivial⟩)
theorem o104 : Opens Try.prog k104 104 (fun _ => True) :=
  opens_struct Try.underlying104 (by kernel_rfl)
    (opensF_cons rfl (by kernel_rfl) (opens_int Try.underlying3) (opensF_cons rfl (by kernel_rfl) (opens_bool Try.underlying4) (opensF_cons rfl (by kernel_rfl) (opens_int Try.underlying3)
      (opensF_cons rfl (by kernel_rfl) (opens_int Try.underlying3) (opensF_one rfl (by kernel_rfl) (opens_slice Try.underlying102 (by kernel_rfl) o106))))))
    (fun a _ => ⟨⟨a.1, a.2.1, a.2.2.1, a.2.2.2.1, a.2.2.2.2⟩, rfl, trivial⟩)
theorem o23 : Opens Try.prog k23 23 (fun _ => True) :=
  opens_struct Try.underlying23 (by kernel_rfl)
    (opensF_cons rfl (by kernel_rfl) (opens_int Try.underlying3) (opensF_cons rfl (by kernel_rfl) (opens_int Try.underlying3) (opensF_one rfl (by kernel_rfl) (opens_int Try.underlying3))))
    (fun a _ => ⟨⟨a.1, a.2.1, a.2.2⟩, rfl, trivial⟩)
theorem o25 : Opens Try.prog k25 25 (fun _ => True) :=
  opens_struct Try.underlying25 (by kernel_rfl)
    (opensF_cons rfl (by kernel_rfl) (opens_int Try.underlying3) (opensF_one rfl (by kernel_rfl) (opens_int Try.underlying3)))
    (fun a _ => ⟨⟨a.1, a.2⟩, rfl, trivial⟩)
theorem o28 : Opens Try.prog k28 28 (fun _ => True) :=
  opens_struct Try.underlying28 (by kernel_rfl)
    (opensF_cons rfl (by kernel_rfl) (opens_string Try.underlying9) (opensF_cons rfl (by kernel_rfl) (opens_int Try.underlying3) (opensF_cons rfl (by kernel_rfl) (opens_int Try.underlying3)
      (opensF_cons rfl (by kernel_rfl) o23 (opensF_cons rfl (by kernel_rfl) o25 (opensF_one rfl (by kernel_rfl) (opens_slice Try.underlying26 (by kernel_rfl) o104)))))))
    (fun a _ => ⟨⟨a.1, a.2.1, a.2.2.1, a.2.2.2.1, a.2.2.2.2.1, a.2.2.2.2.2⟩, rfl, trivial⟩)
end Go.Proofs.Ytkgdlbepjmgaiaa.Fea
set_option linter.unusedVariables false
set_option linter.unusedSimpArgs false
namespace Go.Proofs.Ytkgdlbepjmgaiaa.featureEnds
open Go.ChangeShapes Go.WideShapes Go.ChangeAt Go.RowKit
open Go.ChangeMaps (open_string shut_string)
open Go.Proofs.YtkgdlbepjmgaiaaW.PrintWords Go.Proofs.Ytkgdlbepjmgaiaa.Row Go.Proofs.Ytkgdlbepjmgaiaa.Fea
theorem own : ownKnob Try.prog.godebug = none := by kernel_rfl
theorem laidOut : laidOutB Try.prog = true := by kernel_rfl
set_option maxRecDepth 100000 in
set_option maxHeartbeats 1000000 in
theorem lifted (os : Os) (started : os.Started) (H : Type) (enc : TypeId × Value → H) :
    ReturnsInHanded {} Try.checked os 5 .any (Rows.featureEndsSpec.pre6 enc Try.prog Try.f5 Rows.featureEndsRow.domain false) (Rows.featureEndsSpec.post enc Try.prog Try.f5 false true false false) := by
  refine returnsInHanded_of_change_sized (C := Try.checked) own started (by kernel_rfl) Try.func5
    (ChangeSpec.witness6 (enc := enc) (C := Try.checked) false ⟨#[], #[.agg #[.string ByteArray.empty, .int .i64 0, .int .i64 0, .int .i64 0, .int .i64 0, .int .i64 0, .int .i64 0, .int .i64 0, .slice none 0 0]], []⟩ 8 (by kernel_rfl) (by kernel_rfl) (by kernel_rfl) (by kernel_rfl)) ?_
  intro W base args ds gs before hval0 hW hcnd hsz0 _
  have hsz : (DataW.weightsEach Try.prog (Try.f5.params.toList ++ Rows.featureEndsSpec.plain.varTypes Try.prog) (ds ++ gs)).all (· ≤ reachBytes) = true := hsz0
  have hval : ∀ (j : Nat) t v, Try.f5.params[j]? = some t → args[j]? = some v → Value.okWide Try.prog W .any base t v := hval0
  have hW' := hW
  obtain ⟨p, q, hA0, hV, rfl, hfz, hnd⟩ := hW
  have hA : DataW.TrodAll enc Try.prog W 0 (fun _ => true) true Try.f5.params.toList args.toList ds p := hA0
  rw [Try.params5] at hA hval hsz
  obtain ⟨v0, vs0, d0, ds0, p0, q0, hargs, rfl, rfl, h0, r0⟩ := trodAll_cons hA
  obtain ⟨rfl, rfl, rfl⟩ := trodAll_nil r0
  obtain rfl : args = #[v0] := by cases args; simp_all
  obtain ⟨rfl, rfl⟩ := trodVars_none hV
  have k0 := h0
  have lt0 : ∀ x ∈ p0, x.block < W.heap.size := by obtain ⟨m, hm⟩ := k0; exact DataW.trod_lt m _ _ _ hm
  obtain ⟨cs0, rfl, hn0⟩ := okWide_struct Try.underlying28 (hval 0 28 v0 rfl rfl)
  obtain ⟨x0, hK0, _⟩ : ∃ x, k28.K W x (Value.agg cs0).cells.toList ∧ True := by obtain ⟨fuel, hf⟩ := h0; exact o28 _ _ _ _ _ _ _ _ _ hf
  obtain ⟨A0, c0, hq0, hlc0, hC0⟩ := k28_open hK0
  obtain rfl : cs0 = #[.string x0.f0, .int .i64 x0.f1, .int .i64 x0.f2, .int .i64 x0.f3.f0, .int .i64 x0.f3.f1, .int .i64 x0.f3.f2, .int .i64 x0.f4.f0, .int .i64 x0.f4.f1, .slice A0 x0.f5.length c0] := Array.toList_inj.1 hq0
  clear hA0 hval0 hsz0 hsz
  obtain ⟨k, hk⟩ := FeatureEnds_pure x0.f0 x0.f1 x0.f2 x0.f3.f0 x0.f3.f1 x0.f3.f2 x0.f4.f0 x0.f4.f1 x0.f5
  refine (metrolablaw18_FeatureEnds.calls k x0.f0 x0.f1 x0.f2 x0.f3.f0 x0.f3.f1 x0.f3.f2 x0.f4.f0 x0.f4.f1 _ _ x0.f5 true W hC0 hlc0 rfl hk).mono fun e W' ⟨he, bel⟩ => ?_
  subst he
  exact ⟨_, rfl, _, _, _, [], _, [], hW', trodAll_mk1 (shut_bool Try.underlying4 _), (trodAll_cons_mk (Below.trod laidOut (by kernel_rfl) (of_decide_eq_true (by kernel_rfl)) k0 bel lt0) trodAll_mk0), rfl, bel.frame _, fun h => by cases h⟩
theorem over : Rows.featureEndsRow.holds Try.pinned (OpenSpec.ofChange Rows.featureEndsSpec) :=
  OpenClaim.holds_of_wide 5 Try.f5 rfl rfl rfl rfl rfl rfl rfl ⟨rfl, rfl, rfl, rfl, rfl⟩ rfl rfl rfl rfl rfl (by kernel_rfl) Try.func5 (by kernel_rfl)
    (of_decide_eq_true (by kernel_rfl)) (by unfold Func.isWrapper; first | (rw [if_pos (by decide +kernel)]; kernel_rfl) | (rw [if_neg (by decide +kernel)]; exact ⟨rfl, rfl⟩))
    (fun os started H enc _ => lifted os started H enc)
theorem proved : Rows.FeatureEndsSaid := over
#print axioms proved
end Go.Proofs.Ytkgdlbepjmgaiaa.featureEnds
namespace Go.Proofs.Ytkgdlbepjmgaiaa
theorem featureEnds_holds : Rows.FeatureEndsSaid := featureEnds.proved
end Go.Proofs.Ytkgdlbepjmgaiaa
