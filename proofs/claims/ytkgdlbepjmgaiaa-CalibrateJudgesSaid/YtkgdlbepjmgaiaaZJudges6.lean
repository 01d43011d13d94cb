/- CalibrateJudges: for every input the law returns true, and each argument reads behind the call as it read before: the row, out of the walk and the plain law. No condition. -/
import Derived.Test.YtkgdlbepjmgaiaaProg
import Derived.WalkKit
import Derived.ProofKit
import Derived.ChangeArms
import Derived.SizedLaws
import Derived.Test.YtkgdlbepjmgaiaaRows
import Derived.OpenShut
import Derived.ShutString
import Derived.ChangeOld
import Derived.Below
import Derived.Test.YtkgdlbepjmgaiaaZJudges5
namespace Go.Proofs.Ytkgdlbepjmgaiaa.Cal
open Go.RowKit Go.Proofs.YtkgdlbepjmgaiaaW.PrintWords Go.Proofs.YtkgdlbepjmgaiaaW.PrintLast Go.Proofs.YtkgdlbepjmgaiaaW.PrintMore
attribute [local go_sem] max2_int min2_int max_two min_two max_three min_three max_four min_four
set_option linter.unusedVariables false
set_option linter.unusedSimpArgs false
def metrolabref52_Judge.j0 : Nat → Bool → Int → Int → Int → Int → Option (Int × Int)
  | 0, _, _, _, _, _ => none
  | k + 1, x36, x442000, x442001, x446000, x446001 => if x36 = true then (some (2, 0)) else (if x446001 < x442000 then (some (0, 0)) else (if x446000 > x442001 then (some (0, 0)) else (some (1, 0))))
def metrolabref52_Judge.f (k : Nat) (l0 : List (S121)) (a1_0 : ByteArray) (a1_1 : Int) (a1_2 : Int) (a2_0 : Int) (a2_1 : Int) : Option (Int × Int) := (metrolabref52_Value.f k l0 a1_0 a1_1 a1_2).bind fun bt442 => (if bt442.2.2 = 0 then ((metrolabref17_Check.f k a2_0 a2_1).bind fun t446 => (if t446 = 0 then (if bt442.1 ≥ a2_0 then (metrolabref52_Judge.j0 k (decide (bt442.2.1 ≤ a2_1)) a2_0 a2_1 bt442.1 bt442.2.1) else (metrolabref52_Judge.j0 k false a2_0 a2_1 bt442.1 bt442.2.1)) else (some (0, t446)))) else (some (0, bt442.2.2)))
theorem metrolabref52_Judge.mono_l : ∀ k, (∀ y0 y1 y2 y3 y4, LeO (metrolabref52_Judge.j0 k y0 y1 y2 y3 y4) (metrolabref52_Judge.j0 (k + 1) y0 y1 y2 y3 y4))
  | 0 => fun _ _ _ _ _ r h => by simp [metrolabref52_Judge.j0] at h
  | k + 1 => by
    have ih0 := metrolabref52_Judge.mono_l k
    · intro y0 y1 y2 y3 y4
      unfold metrolabref52_Judge.j0
      repeat' first
      | (with_reducible exact ih0 _ _ _ _ _)
      | (with_reducible exact metrolabref17_Check.mono _ _ _)
      | (with_reducible exact metrolabref52_Value.mono _ _ _ _ _)
      | (with_reducible exact LeO.refl _)
      | (with_reducible exact LeO.none _)
      | (with_reducible refine LeO.ite ?_ ?_)
      | (with_reducible refine LeO.bind ?_ (fun _ => ?_))
      | exact ih0 _ _ _ _ _
      | exact metrolabref17_Check.mono _ _ _
      | exact metrolabref52_Value.mono _ _ _ _ _
      | exact LeO.none _
      | refine LeO.ite ?_ ?_
      | refine LeO.bind ?_ (fun _ => ?_)
theorem metrolabref52_Judge.mono : ∀ a0 a1 a2 a3 a4 a5 k, LeO (metrolabref52_Judge.f k a0 a1 a2 a3 a4 a5) (metrolabref52_Judge.f (k + 1) a0 a1 a2 a3 a4 a5) := by
  intro a0 a1 a2 a3 a4 a5 k
  have ih0 := metrolabref52_Judge.mono_l k
  unfold metrolabref52_Judge.f
  repeat' first
      | (with_reducible exact ih0 _ _ _ _ _)
      | (with_reducible exact metrolabref17_Check.mono _ _ _)
      | (with_reducible exact metrolabref52_Value.mono _ _ _ _ _)
      | (with_reducible exact LeO.refl _)
      | (with_reducible exact LeO.none _)
      | (with_reducible refine LeO.ite ?_ ?_)
      | (with_reducible refine LeO.bind ?_ (fun _ => ?_))
      | exact ih0 _ _ _ _ _
      | exact metrolabref17_Check.mono _ _ _
      | exact metrolabref52_Value.mono _ _ _ _ _
      | exact LeO.none _
      | refine LeO.ite ?_ ?_
      | refine LeO.bind ?_ (fun _ => ?_)
set_option maxHeartbeats 8000000 in
set_option maxRecDepth 100000 in
theorem metrolabref52_Judge.calls (k : Nat) (A0 : Option Addr) (c0 : Nat) (l0 : List (S121)) (a1_0 : ByteArray) (a1_1 : Int) (a1_2 : Int) (a2_0 : Int) (a2_1 : Int) (r1 : Int) (r2 : Int) (w : World) (hr0 : Kd.C k121 w A0 l0.length l0) (hc0 : l0.length ≤ c0) (h : metrolabref52_Judge.f k l0 a1_0 a1_1 a1_2 a2_0 a2_1 = some (r1, r2)) :
    Calls Try.prog 65 #[.slice A0 l0.length c0, .agg #[.string a1_0, .int .i64 a1_1, .int .i64 a1_2], .agg #[.int .i64 a2_0, .int .i64 a2_1]] w fun e w' => e = .returned (.tuple #[.int .i64 r1, .int .i64 r2]) ∧ Below w.heap.size w w' := by
  have hu98 := Try.underlying98
  have hu25 := Try.underlying25
  have HR0 := Aside0.mk hr0
  have HC0 := Aside0.mk hc0
  clear hr0 hc0
  have HB := Aside0.mk (Below.refl w.heap.size w)
  have H : ((metrolabref52_Value.f k l0 a1_0 a1_1 a1_2).bind fun bt442 => (if bt442.2.2 = 0 then ((metrolabref17_Check.f k a2_0 a2_1).bind fun t446 => (if t446 = 0 then (if bt442.1 ≥ a2_0 then (metrolabref52_Judge.j0 k (decide (bt442.2.1 ≤ a2_1)) a2_0 a2_1 bt442.1 bt442.2.1) else (metrolabref52_Judge.j0 k false a2_0 a2_1 bt442.1 bt442.2.1)) else (some (0, t446)))) else (some (0, bt442.2.2)))) = some (r1, r2) := h
  clear h
  replace H := Option.bind_eq_some_iff.mp H
  obtain ⟨⟨t442, t443, t444⟩, A40, H⟩ := H
  replace H : (if t444 = 0 then ((metrolabref17_Check.f k a2_0 a2_1).bind fun t446 => (if t446 = 0 then (if t442 ≥ a2_0 then (metrolabref52_Judge.j0 k (decide (t443 ≤ a2_1)) a2_0 a2_1 t442 t443) else (metrolabref52_Judge.j0 k false a2_0 a2_1 t442 t443)) else (some (0, t446)))) else (some (0, t444))) = some (r1, r2) := H
  have A4 := Aside0.mk A40
  clear A40
  by_cases c5 : t444 = 0
  · rw [if_pos c5] at H
    have c5b0 : (t444 == 0) = true := beq_iff_eq.mpr c5
    have c5b1 : (t444 != 0) = false := bne_eq_false_iff_eq.mpr c5
    clear c5
    replace H := Option.bind_eq_some_iff.mp H
    obtain ⟨t446, A60, H⟩ := H
    replace H : (if t446 = 0 then (if t442 ≥ a2_0 then (metrolabref52_Judge.j0 k (decide (t443 ≤ a2_1)) a2_0 a2_1 t442 t443) else (metrolabref52_Judge.j0 k false a2_0 a2_1 t442 t443)) else (some (0, t446))) = some (r1, r2) := H
    have A6 := Aside0.mk A60
    clear A60
    by_cases c7 : t446 = 0
    · rw [if_pos c7] at H
      have c7b0 : (t446 == 0) = true := beq_iff_eq.mpr c7
      have c7b1 : (t446 != 0) = false := bne_eq_false_iff_eq.mpr c7
      clear c7
      have HC8 := Aside0.mk H
      clear H
      go_enter Try.func65, Try.ntmps65
      go_upto_region 7 with (first | ((with_reducible refine gate_dst (N := 4) rfl ?_); refine box_event ?hg (N := 4) ?hd (cs := #[.string a1_0, .int .i64 a1_1, .int .i64 a1_2]) (t := 98) ?hr ?_; (case hd => rfl); (case hg => rfl); (case hr => first | (go_simp; done) | (go_simp; rfl)); intro gb440 hg w9 hbox hb; have n0_ := Aside0.mk (below_step (by repeat (first | (with_reducible first | exact HB.out | apply below_alloc | apply pw_below_drewN | apply below_drew1) | exact HB.out)) hb); have n1_ := Aside0.mk (hbox); have n2_ := Aside0.mk ((by rw [hg]; exact (below_size (by repeat (first | (with_reducible first | exact HB.out | apply below_alloc | apply pw_below_drewN | apply below_drew1) | exact HB.out))) : w.heap.size ≤ gb440)); have n3_ := Aside0.mk ((by rw [hg]; exact (below_size (by repeat (first | (with_reducible first | exact HB.out | apply below_alloc | apply pw_below_drewN | apply below_drew1) | exact HB.out))) : w.heap.size ≤ gb440)); clear HB; have HB := n0_; have BK440 := n1_; have GW440 := n2_; have GE440 := n3_; clear n0_ n1_ n2_ n3_; clear hb hbox hg) | ((with_reducible refine gate_dst (N := 5) rfl ?_); refine box_event ?hg (N := 5) ?hd (cs := #[.int .i64 a2_0, .int .i64 a2_1]) (t := 25) ?hr ?_; (case hd => rfl); (case hg => rfl); (case hr => first | (go_simp; done) | (go_simp; rfl)); intro gb441 hg w10 hbox hb; have n0_ := Aside0.mk (blk_below (g := gb440) (o := .cells #[.string a1_0, .int .i64 a1_1, .int .i64 a1_2] 98 (0, 0)) (by (with_reducible repeat (first | refine blk_drewN ?_ _ | refine blk_drew ?_ | refine blk_alloc ?_ _)); exact BK440.out) hb); have n1_ := Aside0.mk (below_step (by repeat (first | (with_reducible first | exact HB.out | apply below_alloc | apply pw_below_drewN | apply below_drew1 | refine below_set ?_ GE440.out) | exact HB.out)) hb); have n2_ := Aside0.mk (hbox); have n3_ := Aside0.mk ((by rw [hg]; exact (below_size (by repeat (first | (with_reducible first | exact HB.out | apply below_alloc | apply pw_below_drewN | apply below_drew1 | refine below_set ?_ GE440.out) | exact HB.out))) : w.heap.size ≤ gb441)); have n4_ := Aside0.mk ((by rw [hg]; exact (below_size (by repeat (first | (with_reducible first | exact HB.out | apply below_alloc | apply pw_below_drewN | apply below_drew1 | refine below_set ?_ GE440.out) | exact HB.out))) : w.heap.size ≤ gb441)); have n5_ := Aside0.mk ((by rw [hg]; exact Nat.ne_of_lt (blk_lt (g := gb440) (o := .cells #[.string a1_0, .int .i64 a1_1, .int .i64 a1_2] 98 (0, 0)) (by (with_reducible repeat (first | refine blk_drewN ?_ _ | refine blk_drew ?_ | refine blk_alloc ?_ _)); exact BK440.out)) : gb440 ≠ gb441)); have n6_ := Aside0.mk ((by rw [hg]; exact Nat.ne_of_gt (blk_lt (g := gb440) (o := .cells #[.string a1_0, .int .i64 a1_1, .int .i64 a1_2] 98 (0, 0)) (by (with_reducible repeat (first | refine blk_drewN ?_ _ | refine blk_drew ?_ | refine blk_alloc ?_ _)); exact BK440.out)) : gb441 ≠ gb440)); clear BK440; clear HB; have BK440 := n0_; have HB := n1_; have BK441 := n2_; have GW441 := n3_; have GE441 := n4_; have NB440_441 := n5_; have NB441_440 := n6_; clear n0_ n1_ n2_ n3_ n4_ n5_ n6_; clear hb hbox hg; have hnb11 := NB440_441.out; have hnc11 := NB441_440.out; have hcz12_0 : w10.cell? ⟨gb440, 0, none⟩ = some (.string a1_0) := (blk_cell BK440.out 0).trans rfl; have hcz12_1 : w10.cell? ⟨gb440, 1, none⟩ = some (.int .i64 a1_1) := (blk_cell BK440.out 1).trans rfl; have hcz12_2 : w10.cell? ⟨gb440, 2, none⟩ = some (.int .i64 a1_2) := (blk_cell BK440.out 2).trans rfl; have hfz12_0 := blk_frozen BK440.out 0; have hfz12_1 := blk_frozen BK440.out 1; have hfz12_2 := blk_frozen BK440.out 2) | ((with_reducible refine gate_callee (f := 64) rfl ?_); refine goesL_ (some 14) rfl rfl Try.func64 (by kernel_rfl) rfl #[.slice A0 l0.length c0, .agg #[.string a1_0, .int .i64 a1_1, .int .i64 a1_2]] rfl (by (try simp only [List.map_toArray, List.map_cons, List.map_nil]); first | done | rfl | (simp only [List.length_drop, List.length_take]; rfl)) ?_; (with_reducible refine (metrolabref52_Value.calls k _ _ l0 a1_0 a1_1 a1_2 t442 t443 t444 _ ?side1 ?side2 A4.out).mono ?_); (case side1 => repeat (first | exact (Kd.C_below HR0.out HB.out) | (with_reducible refine Kd.C_alloc ?_ _) | (with_reducible refine Kd.C_drewN ?_ _) | (with_reducible refine Kd.C_drew ?_))); (case side2 => exact HC0.out); rintro e w13 ⟨rfl, hb⟩; refine ⟨_, rfl, ?_⟩; have n0_ := Aside0.mk (blk_below (g := gb440) (o := .cells #[.string a1_0, .int .i64 a1_1, .int .i64 a1_2] 98 (0, 0)) (by (with_reducible repeat (first | refine blk_drewN ?_ _ | refine blk_drew ?_ | refine blk_alloc ?_ _)); exact BK440.out) hb); have n1_ := Aside0.mk (blk_below (g := gb441) (o := .cells #[.int .i64 a2_0, .int .i64 a2_1] 25 (0, 0)) (by (with_reducible repeat (first | refine blk_drewN ?_ _ | refine blk_drew ?_ | refine blk_alloc ?_ _)); exact BK441.out) hb); have n2_ := Aside0.mk (below_step (by repeat (first | (with_reducible first | exact HB.out | apply below_alloc | apply pw_below_drewN | apply below_drew1 | refine below_set ?_ GE440.out | refine below_set ?_ GE441.out) | exact HB.out)) hb); clear BK440; clear BK441; clear HB; have BK440 := n0_; have BK441 := n1_; have HB := n2_; clear n0_ n1_ n2_; (try clear hb); (try clear hb2); (try clear hk); (try clear hi)) | ((with_reducible refine gate_dst (N := 8) rfl ?_); refine box_event ?hg (N := 8) ?hd (cs := #[.int .i64 0, .int .i64 0]) (t := 25) ?hr ?_; (case hd => rfl); (case hg => rfl); (case hr => first | (go_simp; done) | (go_simp; rfl)); intro gb445 hg w14 hbox hb; have n0_ := Aside0.mk (blk_below (g := gb440) (o := .cells #[.string a1_0, .int .i64 a1_1, .int .i64 a1_2] 98 (0, 0)) (by (with_reducible repeat (first | refine blk_drewN ?_ _ | refine blk_drew ?_ | refine blk_alloc ?_ _)); exact BK440.out) hb); have n1_ := Aside0.mk (blk_below (g := gb441) (o := .cells #[.int .i64 a2_0, .int .i64 a2_1] 25 (0, 0)) (by (with_reducible repeat (first | refine blk_drewN ?_ _ | refine blk_drew ?_ | refine blk_alloc ?_ _)); exact BK441.out) hb); have n2_ := Aside0.mk (below_step (by repeat (first | (with_reducible first | exact HB.out | apply below_alloc | apply pw_below_drewN | apply below_drew1 | refine below_set ?_ GE440.out | refine below_set ?_ GE441.out) | exact HB.out)) hb); have n3_ := Aside0.mk (hbox); have n4_ := Aside0.mk ((by rw [hg]; exact (below_size (by repeat (first | (with_reducible first | exact HB.out | apply below_alloc | apply pw_below_drewN | apply below_drew1 | refine below_set ?_ GE440.out | refine below_set ?_ GE441.out) | exact HB.out))) : w.heap.size ≤ gb445)); have n5_ := Aside0.mk ((by rw [hg]; exact (below_size (by repeat (first | (with_reducible first | exact HB.out | apply below_alloc | apply pw_below_drewN | apply below_drew1 | refine below_set ?_ GE440.out | refine below_set ?_ GE441.out) | exact HB.out))) : w.heap.size ≤ gb445)); have n6_ := Aside0.mk ((by rw [hg]; exact Nat.ne_of_lt (blk_lt (g := gb440) (o := .cells #[.string a1_0, .int .i64 a1_1, .int .i64 a1_2] 98 (0, 0)) (by (with_reducible repeat (first | refine blk_drewN ?_ _ | refine blk_drew ?_ | refine blk_alloc ?_ _)); exact BK440.out)) : gb440 ≠ gb445)); have n7_ := Aside0.mk ((by rw [hg]; exact Nat.ne_of_gt (blk_lt (g := gb440) (o := .cells #[.string a1_0, .int .i64 a1_1, .int .i64 a1_2] 98 (0, 0)) (by (with_reducible repeat (first | refine blk_drewN ?_ _ | refine blk_drew ?_ | refine blk_alloc ?_ _)); exact BK440.out)) : gb445 ≠ gb440)); have n8_ := Aside0.mk ((by rw [hg]; exact Nat.ne_of_lt (blk_lt (g := gb441) (o := .cells #[.int .i64 a2_0, .int .i64 a2_1] 25 (0, 0)) (by (with_reducible repeat (first | refine blk_drewN ?_ _ | refine blk_drew ?_ | refine blk_alloc ?_ _)); exact BK441.out)) : gb441 ≠ gb445)); have n9_ := Aside0.mk ((by rw [hg]; exact Nat.ne_of_gt (blk_lt (g := gb441) (o := .cells #[.int .i64 a2_0, .int .i64 a2_1] 25 (0, 0)) (by (with_reducible repeat (first | refine blk_drewN ?_ _ | refine blk_drew ?_ | refine blk_alloc ?_ _)); exact BK441.out)) : gb445 ≠ gb441)); clear BK440; clear BK441; clear HB; have BK440 := n0_; have BK441 := n1_; have HB := n2_; have BK445 := n3_; have GW445 := n4_; have GE445 := n5_; have NB440_445 := n6_; have NB445_440 := n7_; have NB441_445 := n8_; have NB445_441 := n9_; clear n0_ n1_ n2_ n3_ n4_ n5_ n6_ n7_ n8_ n9_; clear hb hbox hg; have hnb15 := NB445_440.out; have hnc15 := NB440_445.out; have hnb16 := NB445_441.out; have hnc16 := NB441_445.out; have hcz17_0 : w14.cell? ⟨gb445, 0, none⟩ = some (.int .i64 0) := (blk_cell BK445.out 0).trans rfl; have hcz17_1 : w14.cell? ⟨gb445, 1, none⟩ = some (.int .i64 0) := (blk_cell BK445.out 1).trans rfl; have hfz17_0 := blk_frozen BK445.out 0; have hfz17_1 := blk_frozen BK445.out 1; have hcz18_0 : w14.cell? ⟨gb441, 0, none⟩ = some (.int .i64 a2_0) := (blk_cell BK441.out 0).trans rfl; have hcz18_1 : w14.cell? ⟨gb441, 1, none⟩ = some (.int .i64 a2_1) := (blk_cell BK441.out 1).trans rfl; have hfz18_0 := blk_frozen BK441.out 0; have hfz18_1 := blk_frozen BK441.out 1) | ((with_reducible refine gate_callee (f := 33) rfl ?_); refine goesL_ (some 21) rfl rfl Try.func33 (by kernel_rfl) rfl #[.agg #[.int .i64 a2_0, .int .i64 a2_1]] rfl (by (try simp only [List.map_toArray, List.map_cons, List.map_nil]); first | done | rfl | (simp only [List.length_drop, List.length_take]; rfl)) ?_; (with_reducible refine (metrolabref17_Check.calls k a2_0 a2_1 t446 _ A6.out).mono ?_); rintro e w19 ⟨rfl, hb⟩; refine ⟨_, rfl, ?_⟩; have n0_ := Aside0.mk (blk_below (g := gb440) (o := .cells #[.string a1_0, .int .i64 a1_1, .int .i64 a1_2] 98 (0, 0)) (by (with_reducible repeat (first | refine blk_drewN ?_ _ | refine blk_drew ?_ | refine blk_alloc ?_ _)); refine blk_far ?_ NB440_445.out _; (with_reducible repeat (first | refine blk_drewN ?_ _ | refine blk_drew ?_ | refine blk_alloc ?_ _)); refine blk_far ?_ NB440_445.out _; (with_reducible repeat (first | refine blk_drewN ?_ _ | refine blk_drew ?_ | refine blk_alloc ?_ _)); exact BK440.out) hb); have n1_ := Aside0.mk (blk_below (g := gb441) (o := .cells #[.int .i64 a2_0, .int .i64 a2_1] 25 (0, 0)) (by (with_reducible repeat (first | refine blk_drewN ?_ _ | refine blk_drew ?_ | refine blk_alloc ?_ _)); refine blk_far ?_ NB441_445.out _; (with_reducible repeat (first | refine blk_drewN ?_ _ | refine blk_drew ?_ | refine blk_alloc ?_ _)); refine blk_far ?_ NB441_445.out _; (with_reducible repeat (first | refine blk_drewN ?_ _ | refine blk_drew ?_ | refine blk_alloc ?_ _)); exact BK441.out) hb); have n2_ := Aside0.mk (blk_below (g := gb445) (o := .cells #[.int .i64 t442, .int .i64 t443] 25 (0, 0)) (by (with_reducible repeat (first | refine blk_drewN ?_ _ | refine blk_drew ?_ | refine blk_alloc ?_ _)); refine blk_put (cs := #[.int .i64 t442, .int .i64 0]) ?_ 1 _ rfl; (with_reducible repeat (first | refine blk_drewN ?_ _ | refine blk_drew ?_ | refine blk_alloc ?_ _)); refine blk_put (cs := #[.int .i64 0, .int .i64 0]) ?_ 0 _ rfl; (with_reducible repeat (first | refine blk_drewN ?_ _ | refine blk_drew ?_ | refine blk_alloc ?_ _)); exact BK445.out) hb); have n3_ := Aside0.mk (below_step (by repeat (first | (with_reducible first | exact HB.out | apply below_alloc | apply pw_below_drewN | apply below_drew1 | refine below_set ?_ GE440.out | refine below_set ?_ GE441.out | refine below_set ?_ GE445.out) | exact HB.out)) hb); clear BK440; clear BK441; clear BK445; clear HB; have BK440 := n0_; have BK441 := n1_; have BK445 := n2_; have HB := n3_; clear n0_ n1_ n2_ n3_; (try clear hb); (try clear hb2); (try clear hk); (try clear hi)))
      (try simp only [Act.put, List.setIfInBounds_toArray, List.set_cons_zero, List.set_cons_succ])
      go_cut [36] (fun v36 wc => ∃ (kq : Nat) (x36_7 : Bool), v36 = .bool x36_7 ∧ Aside0 (metrolabref52_Judge.j0 kq x36_7 a2_0 a2_1 t442 t443 = some (r1, r2)) ∧ Aside0 (kq ≤ k) ∧ Aside0 (wc.heap[gb440]? = some (.cells #[.string a1_0, .int .i64 a1_1, .int .i64 a1_2] 98 (0, 0))) ∧ Aside0 (wc.heap[gb441]? = some (.cells #[.int .i64 a2_0, .int .i64 a2_1] 25 (0, 0))) ∧ Aside0 (wc.heap[gb445]? = some (.cells #[.int .i64 t442, .int .i64 t443] 25 (0, 0))) ∧ Aside0 (Below w.heap.size w wc))
      case first =>
        have H := HC8.out
        clear HC8
        by_cases c20 : t442 ≥ a2_0
        · rw [if_pos c20] at H
          have c20b0 : decide (a2_0 ≤ t442) = true := decide_eq_true c20
          clear c20
          (first | rw [c20b0] | (simp only [i64_w, i32_w]; rw [c20b0]) | (rw [c20b2]; try simp only [Bool.not_true, Bool.not_false]) | skip)
          have H' := Aside0.mk H
          clear H
          have hnb21 := NB445_440.out
          have hnc21 := NB440_445.out
          have hnb22 := NB445_441.out
          have hnc22 := NB441_445.out
          have hcz23_0 : w19.cell? ⟨gb445, 0, none⟩ = some (.int .i64 t442) := (blk_cell BK445.out 0).trans rfl
          have hcz23_1 : w19.cell? ⟨gb445, 1, none⟩ = some (.int .i64 t443) := (blk_cell BK445.out 1).trans rfl
          have hfz23_0 := blk_frozen BK445.out 0
          have hfz23_1 := blk_frozen BK445.out 1
          have hnb24 := NB441_440.out
          have hnc24 := NB440_441.out
          have hcz25_0 : w19.cell? ⟨gb441, 0, none⟩ = some (.int .i64 a2_0) := (blk_cell BK441.out 0).trans rfl
          have hcz25_1 : w19.cell? ⟨gb441, 1, none⟩ = some (.int .i64 a2_1) := (blk_cell BK441.out 1).trans rfl
          have hfz25_0 := blk_frozen BK441.out 0
          have hfz25_1 := blk_frozen BK441.out 1
          go_wp2
          go_meet
          case rel => exact ⟨_, (decide (t443 ≤ a2_1)), (by first | rfl | (simp; done) | (simp [*]; done)), H', ⟨by first | omega | exact Nat.le_refl _⟩, ⟨by (with_reducible repeat (first | refine blk_drewN ?_ _ | refine blk_drew ?_ | refine blk_alloc ?_ _)); exact BK440.out⟩, ⟨by (with_reducible repeat (first | refine blk_drewN ?_ _ | refine blk_drew ?_ | refine blk_alloc ?_ _)); exact BK441.out⟩, ⟨by (with_reducible repeat (first | refine blk_drewN ?_ _ | refine blk_drew ?_ | refine blk_alloc ?_ _)); exact BK445.out⟩, ⟨by repeat (first | (with_reducible first | exact HB.out | apply below_alloc | apply pw_below_drewN | apply below_drew1 | refine below_set ?_ GE440.out | refine below_set ?_ GE441.out | refine below_set ?_ GE445.out) | exact HB.out)⟩⟩
        · rw [if_neg c20] at H
          have c20b0 : decide (a2_0 ≤ t442) = false := decide_eq_false c20
          clear c20
          (first | rw [c20b0] | (simp only [i64_w, i32_w]; rw [c20b0]) | (rw [c20b2]; try simp only [Bool.not_true, Bool.not_false]) | skip)
          have H' := Aside0.mk H
          clear H
          have hnb26 := NB445_440.out
          have hnc26 := NB440_445.out
          have hnb27 := NB445_441.out
          have hnc27 := NB441_445.out
          have hcz28_0 : w19.cell? ⟨gb445, 0, none⟩ = some (.int .i64 t442) := (blk_cell BK445.out 0).trans rfl
          have hcz28_1 : w19.cell? ⟨gb445, 1, none⟩ = some (.int .i64 t443) := (blk_cell BK445.out 1).trans rfl
          have hfz28_0 := blk_frozen BK445.out 0
          have hfz28_1 := blk_frozen BK445.out 1
          have hnb29 := NB441_440.out
          have hnc29 := NB440_441.out
          have hcz30_0 : w19.cell? ⟨gb441, 0, none⟩ = some (.int .i64 a2_0) := (blk_cell BK441.out 0).trans rfl
          have hcz30_1 : w19.cell? ⟨gb441, 1, none⟩ = some (.int .i64 a2_1) := (blk_cell BK441.out 1).trans rfl
          have hfz30_0 := blk_frozen BK441.out 0
          have hfz30_1 := blk_frozen BK441.out 1
          go_wp2
          go_meet
          case rel => exact ⟨_, (false), (by first | rfl | (simp; done) | (simp [*]; done)), H', ⟨by first | omega | exact Nat.le_refl _⟩, ⟨by (with_reducible repeat (first | refine blk_drewN ?_ _ | refine blk_drew ?_ | refine blk_alloc ?_ _)); exact BK440.out⟩, ⟨by (with_reducible repeat (first | refine blk_drewN ?_ _ | refine blk_drew ?_ | refine blk_alloc ?_ _)); exact BK441.out⟩, ⟨by (with_reducible repeat (first | refine blk_drewN ?_ _ | refine blk_drew ?_ | refine blk_alloc ?_ _)); exact BK445.out⟩, ⟨by repeat (first | (with_reducible first | exact HB.out | apply below_alloc | apply pw_below_drewN | apply below_drew1 | refine below_set ?_ GE440.out | refine below_set ?_ GE441.out | refine below_set ?_ GE445.out) | exact HB.out)⟩⟩
      case rest =>
        clear HC8
        try clear c1
        try clear c2
        try clear p2
        try clear c3
        try clear c5
        try clear c5b0
        try clear c5b1
        try clear c6
        try clear c7
        try clear c7b0
        try clear c7b1
        try clear c11
        try clear c15
        try clear c16
        try clear c20
        try clear c20b0
        try clear c20b2
        try clear c21
        try clear c22
        try clear c24
        try clear c26
        try clear c27
        try clear c29
        try clear hcz12_0
        try clear hcz12_1
        try clear hcz12_2
        try clear hcz17_0
        try clear hcz17_1
        try clear hcz18_0
        try clear hcz18_1
        try clear hcz23_0
        try clear hcz23_1
        try clear hcz25_0
        try clear hcz25_1
        try clear hcz28_0
        try clear hcz28_1
        try clear hcz30_0
        try clear hcz30_1
        try clear hfz12_0
        try clear hfz12_1
        try clear hfz12_2
        try clear hfz17_0
        try clear hfz17_1
        try clear hfz18_0
        try clear hfz18_1
        try clear hfz23_0
        try clear hfz23_1
        try clear hfz25_0
        try clear hfz25_1
        try clear hfz28_0
        try clear hfz28_1
        try clear hfz30_0
        try clear hfz30_1
        obtain ⟨kq, x36_7, rfl, HA, HJ7, BK440, BK441, BK445, HB⟩ := hcut
        cases kq with
        | zero => exact absurd HA.out (by simp [metrolabref52_Judge.j0])
        | succ kj7 =>
          have H := HA.out
          clear HA
          simp only [metrolabref52_Judge.j0] at H
          by_cases c31 : x36_7 = true
          · subst c31
            have H1 : (some (2, 0)) = some (r1, r2) := by rw [if_pos rfl] at H; exact H
            clear H
            have H := H1
            clear H1
            simp only [Option.some.injEq, Prod.mk.injEq] at H
            obtain ⟨rfl, rfl⟩ := H
            go_wp2
            go_ret2
            exact ⟨by first | rfl | (simp [errW_none, errW_some] <;> rfl) | (simp [*, errW_none, errW_some] <;> rfl), by repeat (first | (with_reducible first | exact HB.out | apply below_alloc | apply pw_below_drewN | apply below_drew1 | refine below_set ?_ GE440.out | refine below_set ?_ GE441.out | refine below_set ?_ GE445.out) | exact HB.out)⟩
          · replace c31 := Bool.eq_false_iff.mpr c31
            subst c31
            have H1 : (if t443 < a2_0 then (some (0, 0)) else (if t442 > a2_1 then (some (0, 0)) else (some (1, 0)))) = some (r1, r2) := by rw [if_neg (show ¬ (false = true) by decide)] at H; exact H
            clear H
            have H := H1
            clear H1
            by_cases c32 : t443 < a2_0
            · rw [if_pos c32] at H
              have c32b0 : decide (t443 < a2_0) = true := decide_eq_true c32
              clear c32
              simp only [Option.some.injEq, Prod.mk.injEq] at H
              obtain ⟨rfl, rfl⟩ := H
              have hnb33 := NB445_440.out
              have hnc33 := NB440_445.out
              have hnb34 := NB445_441.out
              have hnc34 := NB441_445.out
              have hcz35_0 : wc.cell? ⟨gb445, 0, none⟩ = some (.int .i64 t442) := (blk_cell BK445.out 0).trans rfl
              have hcz35_1 : wc.cell? ⟨gb445, 1, none⟩ = some (.int .i64 t443) := (blk_cell BK445.out 1).trans rfl
              have hfz35_0 := blk_frozen BK445.out 0
              have hfz35_1 := blk_frozen BK445.out 1
              have hnb36 := NB441_440.out
              have hnc36 := NB440_441.out
              have hcz37_0 : wc.cell? ⟨gb441, 0, none⟩ = some (.int .i64 a2_0) := (blk_cell BK441.out 0).trans rfl
              have hcz37_1 : wc.cell? ⟨gb441, 1, none⟩ = some (.int .i64 a2_1) := (blk_cell BK441.out 1).trans rfl
              have hfz37_0 := blk_frozen BK441.out 0
              have hfz37_1 := blk_frozen BK441.out 1
              go_wp2
              go_ret2
              exact ⟨by first | rfl | (simp [errW_none, errW_some] <;> rfl) | (simp [*, errW_none, errW_some] <;> rfl), by repeat (first | (with_reducible first | exact HB.out | apply below_alloc | apply pw_below_drewN | apply below_drew1 | refine below_set ?_ GE440.out | refine below_set ?_ GE441.out | refine below_set ?_ GE445.out) | exact HB.out)⟩
            · rw [if_neg c32] at H
              have c32b0 : decide (t443 < a2_0) = false := decide_eq_false c32
              clear c32
              by_cases c38 : t442 > a2_1
              · rw [if_pos c38] at H
                have c38b0 : decide (a2_1 < t442) = true := decide_eq_true c38
                clear c38
                simp only [Option.some.injEq, Prod.mk.injEq] at H
                obtain ⟨rfl, rfl⟩ := H
                have hnb39 := NB445_440.out
                have hnc39 := NB440_445.out
                have hnb40 := NB445_441.out
                have hnc40 := NB441_445.out
                have hcz41_0 : wc.cell? ⟨gb445, 0, none⟩ = some (.int .i64 t442) := (blk_cell BK445.out 0).trans rfl
                have hcz41_1 : wc.cell? ⟨gb445, 1, none⟩ = some (.int .i64 t443) := (blk_cell BK445.out 1).trans rfl
                have hfz41_0 := blk_frozen BK445.out 0
                have hfz41_1 := blk_frozen BK445.out 1
                have hnb42 := NB441_440.out
                have hnc42 := NB440_441.out
                have hcz43_0 : wc.cell? ⟨gb441, 0, none⟩ = some (.int .i64 a2_0) := (blk_cell BK441.out 0).trans rfl
                have hcz43_1 : wc.cell? ⟨gb441, 1, none⟩ = some (.int .i64 a2_1) := (blk_cell BK441.out 1).trans rfl
                have hfz43_0 := blk_frozen BK441.out 0
                have hfz43_1 := blk_frozen BK441.out 1
                go_wp2
                go_ret2
                exact ⟨by first | rfl | (simp [errW_none, errW_some] <;> rfl) | (simp [*, errW_none, errW_some] <;> rfl), by repeat (first | (with_reducible first | exact HB.out | apply below_alloc | apply pw_below_drewN | apply below_drew1 | refine below_set ?_ GE440.out | refine below_set ?_ GE441.out | refine below_set ?_ GE445.out) | exact HB.out)⟩
              · rw [if_neg c38] at H
                have c38b0 : decide (a2_1 < t442) = false := decide_eq_false c38
                clear c38
                simp only [Option.some.injEq, Prod.mk.injEq] at H
                obtain ⟨rfl, rfl⟩ := H
                have hnb44 := NB445_440.out
                have hnc44 := NB440_445.out
                have hnb45 := NB445_441.out
                have hnc45 := NB441_445.out
                have hcz46_0 : wc.cell? ⟨gb445, 0, none⟩ = some (.int .i64 t442) := (blk_cell BK445.out 0).trans rfl
                have hcz46_1 : wc.cell? ⟨gb445, 1, none⟩ = some (.int .i64 t443) := (blk_cell BK445.out 1).trans rfl
                have hfz46_0 := blk_frozen BK445.out 0
                have hfz46_1 := blk_frozen BK445.out 1
                have hnb47 := NB441_440.out
                have hnc47 := NB440_441.out
                have hcz48_0 : wc.cell? ⟨gb441, 0, none⟩ = some (.int .i64 a2_0) := (blk_cell BK441.out 0).trans rfl
                have hcz48_1 : wc.cell? ⟨gb441, 1, none⟩ = some (.int .i64 a2_1) := (blk_cell BK441.out 1).trans rfl
                have hfz48_0 := blk_frozen BK441.out 0
                have hfz48_1 := blk_frozen BK441.out 1
                go_wp2
                go_ret2
                exact ⟨by first | rfl | (simp [errW_none, errW_some] <;> rfl) | (simp [*, errW_none, errW_some] <;> rfl), by repeat (first | (with_reducible first | exact HB.out | apply below_alloc | apply pw_below_drewN | apply below_drew1 | refine below_set ?_ GE440.out | refine below_set ?_ GE441.out | refine below_set ?_ GE445.out) | exact HB.out)⟩
    · rw [if_neg c7] at H
      have c7b0 : (t446 == 0) = false := beq_eq_false_iff_ne.mpr c7
      have c7b1 : (t446 != 0) = true := bne_iff_ne.mpr c7
      simp only [Option.some.injEq, Prod.mk.injEq] at H
      obtain ⟨rfl, rfl⟩ := H
      go_enter Try.func65, Try.ntmps65
      go_wp2_with (first | ((with_reducible refine gate_dst (N := 4) rfl ?_); refine box_event ?hg (N := 4) ?hd (cs := #[.string a1_0, .int .i64 a1_1, .int .i64 a1_2]) (t := 98) ?hr ?_; (case hd => rfl); (case hg => rfl); (case hr => first | (go_simp; done) | (go_simp; rfl)); intro gb440 hg w49 hbox hb; have n0_ := Aside0.mk (below_step (by repeat (first | (with_reducible first | exact HB.out | apply below_alloc | apply pw_below_drewN | apply below_drew1) | exact HB.out)) hb); have n1_ := Aside0.mk (hbox); have n2_ := Aside0.mk ((by rw [hg]; exact (below_size (by repeat (first | (with_reducible first | exact HB.out | apply below_alloc | apply pw_below_drewN | apply below_drew1) | exact HB.out))) : w.heap.size ≤ gb440)); have n3_ := Aside0.mk ((by rw [hg]; exact (below_size (by repeat (first | (with_reducible first | exact HB.out | apply below_alloc | apply pw_below_drewN | apply below_drew1) | exact HB.out))) : w.heap.size ≤ gb440)); clear HB; have HB := n0_; have BK440 := n1_; have GW440 := n2_; have GE440 := n3_; clear n0_ n1_ n2_ n3_; clear hb hbox hg) | ((with_reducible refine gate_dst (N := 5) rfl ?_); refine box_event ?hg (N := 5) ?hd (cs := #[.int .i64 a2_0, .int .i64 a2_1]) (t := 25) ?hr ?_; (case hd => rfl); (case hg => rfl); (case hr => first | (go_simp; done) | (go_simp; rfl)); intro gb441 hg w50 hbox hb; have n0_ := Aside0.mk (blk_below (g := gb440) (o := .cells #[.string a1_0, .int .i64 a1_1, .int .i64 a1_2] 98 (0, 0)) (by (with_reducible repeat (first | refine blk_drewN ?_ _ | refine blk_drew ?_ | refine blk_alloc ?_ _)); exact BK440.out) hb); have n1_ := Aside0.mk (below_step (by repeat (first | (with_reducible first | exact HB.out | apply below_alloc | apply pw_below_drewN | apply below_drew1 | refine below_set ?_ GE440.out) | exact HB.out)) hb); have n2_ := Aside0.mk (hbox); have n3_ := Aside0.mk ((by rw [hg]; exact (below_size (by repeat (first | (with_reducible first | exact HB.out | apply below_alloc | apply pw_below_drewN | apply below_drew1 | refine below_set ?_ GE440.out) | exact HB.out))) : w.heap.size ≤ gb441)); have n4_ := Aside0.mk ((by rw [hg]; exact (below_size (by repeat (first | (with_reducible first | exact HB.out | apply below_alloc | apply pw_below_drewN | apply below_drew1 | refine below_set ?_ GE440.out) | exact HB.out))) : w.heap.size ≤ gb441)); have n5_ := Aside0.mk ((by rw [hg]; exact Nat.ne_of_lt (blk_lt (g := gb440) (o := .cells #[.string a1_0, .int .i64 a1_1, .int .i64 a1_2] 98 (0, 0)) (by (with_reducible repeat (first | refine blk_drewN ?_ _ | refine blk_drew ?_ | refine blk_alloc ?_ _)); exact BK440.out)) : gb440 ≠ gb441)); have n6_ := Aside0.mk ((by rw [hg]; exact Nat.ne_of_gt (blk_lt (g := gb440) (o := .cells #[.string a1_0, .int .i64 a1_1, .int .i64 a1_2] 98 (0, 0)) (by (with_reducible repeat (first | refine blk_drewN ?_ _ | refine blk_drew ?_ | refine blk_alloc ?_ _)); exact BK440.out)) : gb441 ≠ gb440)); clear BK440; clear HB; have BK440 := n0_; have HB := n1_; have BK441 := n2_; have GW441 := n3_; have GE441 := n4_; have NB440_441 := n5_; have NB441_440 := n6_; clear n0_ n1_ n2_ n3_ n4_ n5_ n6_; clear hb hbox hg; have hnb51 := NB440_441.out; have hnc51 := NB441_440.out; have hcz52_0 : w50.cell? ⟨gb440, 0, none⟩ = some (.string a1_0) := (blk_cell BK440.out 0).trans rfl; have hcz52_1 : w50.cell? ⟨gb440, 1, none⟩ = some (.int .i64 a1_1) := (blk_cell BK440.out 1).trans rfl; have hcz52_2 : w50.cell? ⟨gb440, 2, none⟩ = some (.int .i64 a1_2) := (blk_cell BK440.out 2).trans rfl; have hfz52_0 := blk_frozen BK440.out 0; have hfz52_1 := blk_frozen BK440.out 1; have hfz52_2 := blk_frozen BK440.out 2) | ((with_reducible refine gate_callee (f := 64) rfl ?_); refine goesL_ (some 14) rfl rfl Try.func64 (by kernel_rfl) rfl #[.slice A0 l0.length c0, .agg #[.string a1_0, .int .i64 a1_1, .int .i64 a1_2]] rfl (by (try simp only [List.map_toArray, List.map_cons, List.map_nil]); first | done | rfl | (simp only [List.length_drop, List.length_take]; rfl)) ?_; (with_reducible refine (metrolabref52_Value.calls k _ _ l0 a1_0 a1_1 a1_2 t442 t443 t444 _ ?side1 ?side2 A4.out).mono ?_); (case side1 => repeat (first | exact (Kd.C_below HR0.out HB.out) | (with_reducible refine Kd.C_alloc ?_ _) | (with_reducible refine Kd.C_drewN ?_ _) | (with_reducible refine Kd.C_drew ?_))); (case side2 => exact HC0.out); rintro e w53 ⟨rfl, hb⟩; refine ⟨_, rfl, ?_⟩; have n0_ := Aside0.mk (blk_below (g := gb440) (o := .cells #[.string a1_0, .int .i64 a1_1, .int .i64 a1_2] 98 (0, 0)) (by (with_reducible repeat (first | refine blk_drewN ?_ _ | refine blk_drew ?_ | refine blk_alloc ?_ _)); exact BK440.out) hb); have n1_ := Aside0.mk (blk_below (g := gb441) (o := .cells #[.int .i64 a2_0, .int .i64 a2_1] 25 (0, 0)) (by (with_reducible repeat (first | refine blk_drewN ?_ _ | refine blk_drew ?_ | refine blk_alloc ?_ _)); exact BK441.out) hb); have n2_ := Aside0.mk (below_step (by repeat (first | (with_reducible first | exact HB.out | apply below_alloc | apply pw_below_drewN | apply below_drew1 | refine below_set ?_ GE440.out | refine below_set ?_ GE441.out) | exact HB.out)) hb); clear BK440; clear BK441; clear HB; have BK440 := n0_; have BK441 := n1_; have HB := n2_; clear n0_ n1_ n2_; (try clear hb); (try clear hb2); (try clear hk); (try clear hi)) | ((with_reducible refine gate_dst (N := 8) rfl ?_); refine box_event ?hg (N := 8) ?hd (cs := #[.int .i64 0, .int .i64 0]) (t := 25) ?hr ?_; (case hd => rfl); (case hg => rfl); (case hr => first | (go_simp; done) | (go_simp; rfl)); intro gb445 hg w54 hbox hb; have n0_ := Aside0.mk (blk_below (g := gb440) (o := .cells #[.string a1_0, .int .i64 a1_1, .int .i64 a1_2] 98 (0, 0)) (by (with_reducible repeat (first | refine blk_drewN ?_ _ | refine blk_drew ?_ | refine blk_alloc ?_ _)); exact BK440.out) hb); have n1_ := Aside0.mk (blk_below (g := gb441) (o := .cells #[.int .i64 a2_0, .int .i64 a2_1] 25 (0, 0)) (by (with_reducible repeat (first | refine blk_drewN ?_ _ | refine blk_drew ?_ | refine blk_alloc ?_ _)); exact BK441.out) hb); have n2_ := Aside0.mk (below_step (by repeat (first | (with_reducible first | exact HB.out | apply below_alloc | apply pw_below_drewN | apply below_drew1 | refine below_set ?_ GE440.out | refine below_set ?_ GE441.out) | exact HB.out)) hb); have n3_ := Aside0.mk (hbox); have n4_ := Aside0.mk ((by rw [hg]; exact (below_size (by repeat (first | (with_reducible first | exact HB.out | apply below_alloc | apply pw_below_drewN | apply below_drew1 | refine below_set ?_ GE440.out | refine below_set ?_ GE441.out) | exact HB.out))) : w.heap.size ≤ gb445)); have n5_ := Aside0.mk ((by rw [hg]; exact (below_size (by repeat (first | (with_reducible first | exact HB.out | apply below_alloc | apply pw_below_drewN | apply below_drew1 | refine below_set ?_ GE440.out | refine below_set ?_ GE441.out) | exact HB.out))) : w.heap.size ≤ gb445)); have n6_ := Aside0.mk ((by rw [hg]; exact Nat.ne_of_lt (blk_lt (g := gb440) (o := .cells #[.string a1_0, .int .i64 a1_1, .int .i64 a1_2] 98 (0, 0)) (by (with_reducible repeat (first | refine blk_drewN ?_ _ | refine blk_drew ?_ | refine blk_alloc ?_ _)); exact BK440.out)) : gb440 ≠ gb445)); have n7_ := Aside0.mk ((by rw [hg]; exact Nat.ne_of_gt (blk_lt (g := gb440) (o := .cells #[.string a1_0, .int .i64 a1_1, .int .i64 a1_2] 98 (0, 0)) (by (with_reducible repeat (first | refine blk_drewN ?_ _ | refine blk_drew ?_ | refine blk_alloc ?_ _)); exact BK440.out)) : gb445 ≠ gb440)); have n8_ := Aside0.mk ((by rw [hg]; exact Nat.ne_of_lt (blk_lt (g := gb441) (o := .cells #[.int .i64 a2_0, .int .i64 a2_1] 25 (0, 0)) (by (with_reducible repeat (first | refine blk_drewN ?_ _ | refine blk_drew ?_ | refine blk_alloc ?_ _)); exact BK441.out)) : gb441 ≠ gb445)); have n9_ := Aside0.mk ((by rw [hg]; exact Nat.ne_of_gt (blk_lt (g := gb441) (o := .cells #[.int .i64 a2_0, .int .i64 a2_1] 25 (0, 0)) (by (with_reducible repeat (first | refine blk_drewN ?_ _ | refine blk_drew ?_ | refine blk_alloc ?_ _)); exact BK441.out)) : gb445 ≠ gb441)); clear BK440; clear BK441; clear HB; have BK440 := n0_; have BK441 := n1_; have HB := n2_; have BK445 := n3_; have GW445 := n4_; have GE445 := n5_; have NB440_445 := n6_; have NB445_440 := n7_; have NB441_445 := n8_; have NB445_441 := n9_; clear n0_ n1_ n2_ n3_ n4_ n5_ n6_ n7_ n8_ n9_; clear hb hbox hg; have hnb55 := NB445_440.out; have hnc55 := NB440_445.out; have hnb56 := NB445_441.out; have hnc56 := NB441_445.out; have hcz57_0 : w54.cell? ⟨gb445, 0, none⟩ = some (.int .i64 0) := (blk_cell BK445.out 0).trans rfl; have hcz57_1 : w54.cell? ⟨gb445, 1, none⟩ = some (.int .i64 0) := (blk_cell BK445.out 1).trans rfl; have hfz57_0 := blk_frozen BK445.out 0; have hfz57_1 := blk_frozen BK445.out 1; have hcz58_0 : w54.cell? ⟨gb441, 0, none⟩ = some (.int .i64 a2_0) := (blk_cell BK441.out 0).trans rfl; have hcz58_1 : w54.cell? ⟨gb441, 1, none⟩ = some (.int .i64 a2_1) := (blk_cell BK441.out 1).trans rfl; have hfz58_0 := blk_frozen BK441.out 0; have hfz58_1 := blk_frozen BK441.out 1) | ((with_reducible refine gate_callee (f := 33) rfl ?_); refine goesL_ (some 21) rfl rfl Try.func33 (by kernel_rfl) rfl #[.agg #[.int .i64 a2_0, .int .i64 a2_1]] rfl (by (try simp only [List.map_toArray, List.map_cons, List.map_nil]); first | done | rfl | (simp only [List.length_drop, List.length_take]; rfl)) ?_; (with_reducible refine (metrolabref17_Check.calls k a2_0 a2_1 t446 _ A6.out).mono ?_); rintro e w59 ⟨rfl, hb⟩; refine ⟨_, rfl, ?_⟩; have n0_ := Aside0.mk (blk_below (g := gb440) (o := .cells #[.string a1_0, .int .i64 a1_1, .int .i64 a1_2] 98 (0, 0)) (by (with_reducible repeat (first | refine blk_drewN ?_ _ | refine blk_drew ?_ | refine blk_alloc ?_ _)); refine blk_far ?_ NB440_445.out _; (with_reducible repeat (first | refine blk_drewN ?_ _ | refine blk_drew ?_ | refine blk_alloc ?_ _)); refine blk_far ?_ NB440_445.out _; (with_reducible repeat (first | refine blk_drewN ?_ _ | refine blk_drew ?_ | refine blk_alloc ?_ _)); exact BK440.out) hb); have n1_ := Aside0.mk (blk_below (g := gb441) (o := .cells #[.int .i64 a2_0, .int .i64 a2_1] 25 (0, 0)) (by (with_reducible repeat (first | refine blk_drewN ?_ _ | refine blk_drew ?_ | refine blk_alloc ?_ _)); refine blk_far ?_ NB441_445.out _; (with_reducible repeat (first | refine blk_drewN ?_ _ | refine blk_drew ?_ | refine blk_alloc ?_ _)); refine blk_far ?_ NB441_445.out _; (with_reducible repeat (first | refine blk_drewN ?_ _ | refine blk_drew ?_ | refine blk_alloc ?_ _)); exact BK441.out) hb); have n2_ := Aside0.mk (blk_below (g := gb445) (o := .cells #[.int .i64 t442, .int .i64 t443] 25 (0, 0)) (by (with_reducible repeat (first | refine blk_drewN ?_ _ | refine blk_drew ?_ | refine blk_alloc ?_ _)); refine blk_put (cs := #[.int .i64 t442, .int .i64 0]) ?_ 1 _ rfl; (with_reducible repeat (first | refine blk_drewN ?_ _ | refine blk_drew ?_ | refine blk_alloc ?_ _)); refine blk_put (cs := #[.int .i64 0, .int .i64 0]) ?_ 0 _ rfl; (with_reducible repeat (first | refine blk_drewN ?_ _ | refine blk_drew ?_ | refine blk_alloc ?_ _)); exact BK445.out) hb); have n3_ := Aside0.mk (below_step (by repeat (first | (with_reducible first | exact HB.out | apply below_alloc | apply pw_below_drewN | apply below_drew1 | refine below_set ?_ GE440.out | refine below_set ?_ GE441.out | refine below_set ?_ GE445.out) | exact HB.out)) hb); clear BK440; clear BK441; clear BK445; clear HB; have BK440 := n0_; have BK441 := n1_; have BK445 := n2_; have HB := n3_; clear n0_ n1_ n2_ n3_; (try clear hb); (try clear hb2); (try clear hk); (try clear hi)))
      go_ret2
      exact ⟨by first | rfl | (simp [errW_none, errW_some] <;> rfl) | (simp [*, errW_none, errW_some] <;> rfl), by repeat (first | (with_reducible first | exact HB.out | apply below_alloc | apply pw_below_drewN | apply below_drew1 | refine below_set ?_ GE440.out | refine below_set ?_ GE441.out | refine below_set ?_ GE445.out) | exact HB.out)⟩
  · rw [if_neg c5] at H
    have c5b0 : (t444 == 0) = false := beq_eq_false_iff_ne.mpr c5
    have c5b1 : (t444 != 0) = true := bne_iff_ne.mpr c5
    simp only [Option.some.injEq, Prod.mk.injEq] at H
    obtain ⟨rfl, rfl⟩ := H
    go_enter Try.func65, Try.ntmps65
    go_wp2_with (first | ((with_reducible refine gate_dst (N := 4) rfl ?_); refine box_event ?hg (N := 4) ?hd (cs := #[.string a1_0, .int .i64 a1_1, .int .i64 a1_2]) (t := 98) ?hr ?_; (case hd => rfl); (case hg => rfl); (case hr => first | (go_simp; done) | (go_simp; rfl)); intro gb440 hg w60 hbox hb; have n0_ := Aside0.mk (below_step (by repeat (first | (with_reducible first | exact HB.out | apply below_alloc | apply pw_below_drewN | apply below_drew1) | exact HB.out)) hb); have n1_ := Aside0.mk (hbox); have n2_ := Aside0.mk ((by rw [hg]; exact (below_size (by repeat (first | (with_reducible first | exact HB.out | apply below_alloc | apply pw_below_drewN | apply below_drew1) | exact HB.out))) : w.heap.size ≤ gb440)); have n3_ := Aside0.mk ((by rw [hg]; exact (below_size (by repeat (first | (with_reducible first | exact HB.out | apply below_alloc | apply pw_below_drewN | apply below_drew1) | exact HB.out))) : w.heap.size ≤ gb440)); clear HB; have HB := n0_; have BK440 := n1_; have GW440 := n2_; have GE440 := n3_; clear n0_ n1_ n2_ n3_; clear hb hbox hg) | ((with_reducible refine gate_dst (N := 5) rfl ?_); refine box_event ?hg (N := 5) ?hd (cs := #[.int .i64 a2_0, .int .i64 a2_1]) (t := 25) ?hr ?_; (case hd => rfl); (case hg => rfl); (case hr => first | (go_simp; done) | (go_simp; rfl)); intro gb441 hg w61 hbox hb; have n0_ := Aside0.mk (blk_below (g := gb440) (o := .cells #[.string a1_0, .int .i64 a1_1, .int .i64 a1_2] 98 (0, 0)) (by (with_reducible repeat (first | refine blk_drewN ?_ _ | refine blk_drew ?_ | refine blk_alloc ?_ _)); exact BK440.out) hb); have n1_ := Aside0.mk (below_step (by repeat (first | (with_reducible first | exact HB.out | apply below_alloc | apply pw_below_drewN | apply below_drew1 | refine below_set ?_ GE440.out) | exact HB.out)) hb); have n2_ := Aside0.mk (hbox); have n3_ := Aside0.mk ((by rw [hg]; exact (below_size (by repeat (first | (with_reducible first | exact HB.out | apply below_alloc | apply pw_below_drewN | apply below_drew1 | refine below_set ?_ GE440.out) | exact HB.out))) : w.heap.size ≤ gb441)); have n4_ := Aside0.mk ((by rw [hg]; exact (below_size (by repeat (first | (with_reducible first | exact HB.out | apply below_alloc | apply pw_below_drewN | apply below_drew1 | refine below_set ?_ GE440.out) | exact HB.out))) : w.heap.size ≤ gb441)); have n5_ := Aside0.mk ((by rw [hg]; exact Nat.ne_of_lt (blk_lt (g := gb440) (o := .cells #[.string a1_0, .int .i64 a1_1, .int .i64 a1_2] 98 (0, 0)) (by (with_reducible repeat (first | refine blk_drewN ?_ _ | refine blk_drew ?_ | refine blk_alloc ?_ _)); exact BK440.out)) : gb440 ≠ gb441)); have n6_ := Aside0.mk ((by rw [hg]; exact Nat.ne_of_gt (blk_lt (g := gb440) (o := .cells #[.string a1_0, .int .i64 a1_1, .int .i64 a1_2] 98 (0, 0)) (by (with_reducible repeat (first | refine blk_drewN ?_ _ | refine blk_drew ?_ | refine blk_alloc ?_ _)); exact BK440.out)) : gb441 ≠ gb440)); clear BK440; clear HB; have BK440 := n0_; have HB := n1_; have BK441 := n2_; have GW441 := n3_; have GE441 := n4_; have NB440_441 := n5_; have NB441_440 := n6_; clear n0_ n1_ n2_ n3_ n4_ n5_ n6_; clear hb hbox hg; have hnb62 := NB440_441.out; have hnc62 := NB441_440.out; have hcz63_0 : w61.cell? ⟨gb440, 0, none⟩ = some (.string a1_0) := (blk_cell BK440.out 0).trans rfl; have hcz63_1 : w61.cell? ⟨gb440, 1, none⟩ = some (.int .i64 a1_1) := (blk_cell BK440.out 1).trans rfl; have hcz63_2 : w61.cell? ⟨gb440, 2, none⟩ = some (.int .i64 a1_2) := (blk_cell BK440.out 2).trans rfl; have hfz63_0 := blk_frozen BK440.out 0; have hfz63_1 := blk_frozen BK440.out 1; have hfz63_2 := blk_frozen BK440.out 2) | ((with_reducible refine gate_callee (f := 64) rfl ?_); refine goesL_ (some 14) rfl rfl Try.func64 (by kernel_rfl) rfl #[.slice A0 l0.length c0, .agg #[.string a1_0, .int .i64 a1_1, .int .i64 a1_2]] rfl (by (try simp only [List.map_toArray, List.map_cons, List.map_nil]); first | done | rfl | (simp only [List.length_drop, List.length_take]; rfl)) ?_; (with_reducible refine (metrolabref52_Value.calls k _ _ l0 a1_0 a1_1 a1_2 t442 t443 t444 _ ?side1 ?side2 A4.out).mono ?_); (case side1 => repeat (first | exact (Kd.C_below HR0.out HB.out) | (with_reducible refine Kd.C_alloc ?_ _) | (with_reducible refine Kd.C_drewN ?_ _) | (with_reducible refine Kd.C_drew ?_))); (case side2 => exact HC0.out); rintro e w64 ⟨rfl, hb⟩; refine ⟨_, rfl, ?_⟩; have n0_ := Aside0.mk (blk_below (g := gb440) (o := .cells #[.string a1_0, .int .i64 a1_1, .int .i64 a1_2] 98 (0, 0)) (by (with_reducible repeat (first | refine blk_drewN ?_ _ | refine blk_drew ?_ | refine blk_alloc ?_ _)); exact BK440.out) hb); have n1_ := Aside0.mk (blk_below (g := gb441) (o := .cells #[.int .i64 a2_0, .int .i64 a2_1] 25 (0, 0)) (by (with_reducible repeat (first | refine blk_drewN ?_ _ | refine blk_drew ?_ | refine blk_alloc ?_ _)); exact BK441.out) hb); have n2_ := Aside0.mk (below_step (by repeat (first | (with_reducible first | exact HB.out | apply below_alloc | apply pw_below_drewN | apply below_drew1 | refine below_set ?_ GE440.out | refine below_set ?_ GE441.out) | exact HB.out)) hb); clear BK440; clear BK441; clear HB; have BK440 := n0_; have BK441 := n1_; have HB := n2_; clear n0_ n1_ n2_; (try clear hb); (try clear hb2); (try clear hk); (try clear hi)) | ((with_reducible refine gate_dst (N := 8) rfl ?_); refine box_event ?hg (N := 8) ?hd (cs := #[.int .i64 0, .int .i64 0]) (t := 25) ?hr ?_; (case hd => rfl); (case hg => rfl); (case hr => first | (go_simp; done) | (go_simp; rfl)); intro gb445 hg w65 hbox hb; have n0_ := Aside0.mk (blk_below (g := gb440) (o := .cells #[.string a1_0, .int .i64 a1_1, .int .i64 a1_2] 98 (0, 0)) (by (with_reducible repeat (first | refine blk_drewN ?_ _ | refine blk_drew ?_ | refine blk_alloc ?_ _)); exact BK440.out) hb); have n1_ := Aside0.mk (blk_below (g := gb441) (o := .cells #[.int .i64 a2_0, .int .i64 a2_1] 25 (0, 0)) (by (with_reducible repeat (first | refine blk_drewN ?_ _ | refine blk_drew ?_ | refine blk_alloc ?_ _)); exact BK441.out) hb); have n2_ := Aside0.mk (below_step (by repeat (first | (with_reducible first | exact HB.out | apply below_alloc | apply pw_below_drewN | apply below_drew1 | refine below_set ?_ GE440.out | refine below_set ?_ GE441.out) | exact HB.out)) hb); have n3_ := Aside0.mk (hbox); have n4_ := Aside0.mk ((by rw [hg]; exact (below_size (by repeat (first | (with_reducible first | exact HB.out | apply below_alloc | apply pw_below_drewN | apply below_drew1 | refine below_set ?_ GE440.out | refine below_set ?_ GE441.out) | exact HB.out))) : w.heap.size ≤ gb445)); have n5_ := Aside0.mk ((by rw [hg]; exact (below_size (by repeat (first | (with_reducible first | exact HB.out | apply below_alloc | apply pw_below_drewN | apply below_drew1 | refine below_set ?_ GE440.out | refine below_set ?_ GE441.out) | exact HB.out))) : w.heap.size ≤ gb445)); have n6_ := Aside0.mk ((by rw [hg]; exact Nat.ne_of_lt (blk_lt (g := gb440) (o := .cells #[.string a1_0, .int .i64 a1_1, .int .i64 a1_2] 98 (0, 0)) (by (with_reducible repeat (first | refine blk_drewN ?_ _ | refine blk_drew ?_ | refine blk_alloc ?_ _)); exact BK440.out)) : gb440 ≠ gb445)); have n7_ := Aside0.mk ((by rw [hg]; exact Nat.ne_of_gt (blk_lt (g := gb440) (o := .cells #[.string a1_0, .int .i64 a1_1, .int .i64 a1_2] 98 (0, 0)) (by (with_reducible repeat (first | refine blk_drewN ?_ _ | refine blk_drew ?_ | refine blk_alloc ?_ _)); exact BK440.out)) : gb445 ≠ gb440)); have n8_ := Aside0.mk ((by rw [hg]; exact Nat.ne_of_lt (blk_lt (g := gb441) (o := .cells #[.int .i64 a2_0, .int .i64 a2_1] 25 (0, 0)) (by (with_reducible repeat (first | refine blk_drewN ?_ _ | refine blk_drew ?_ | refine blk_alloc ?_ _)); exact BK441.out)) : gb441 ≠ gb445)); have n9_ := Aside0.mk ((by rw [hg]; exact Nat.ne_of_gt (blk_lt (g := gb441) (o := .cells #[.int .i64 a2_0, .int .i64 a2_1] 25 (0, 0)) (by (with_reducible repeat (first | refine blk_drewN ?_ _ | refine blk_drew ?_ | refine blk_alloc ?_ _)); exact BK441.out)) : gb445 ≠ gb441)); clear BK440; clear BK441; clear HB; have BK440 := n0_; have BK441 := n1_; have HB := n2_; have BK445 := n3_; have GW445 := n4_; have GE445 := n5_; have NB440_445 := n6_; have NB445_440 := n7_; have NB441_445 := n8_; have NB445_441 := n9_; clear n0_ n1_ n2_ n3_ n4_ n5_ n6_ n7_ n8_ n9_; clear hb hbox hg; have hnb66 := NB445_440.out; have hnc66 := NB440_445.out; have hnb67 := NB445_441.out; have hnc67 := NB441_445.out; have hcz68_0 : w65.cell? ⟨gb445, 0, none⟩ = some (.int .i64 0) := (blk_cell BK445.out 0).trans rfl; have hcz68_1 : w65.cell? ⟨gb445, 1, none⟩ = some (.int .i64 0) := (blk_cell BK445.out 1).trans rfl; have hfz68_0 := blk_frozen BK445.out 0; have hfz68_1 := blk_frozen BK445.out 1))
    go_ret2
    exact ⟨by first | rfl | (simp [errW_none, errW_some] <;> rfl) | (simp [*, errW_none, errW_some] <;> rfl), by repeat (first | (with_reducible first | exact HB.out | apply below_alloc | apply pw_below_drewN | apply below_drew1 | refine below_set ?_ GE440.out | refine below_set ?_ GE441.out | refine below_set ?_ GE445.out) | exact HB.out)⟩
end Go.Proofs.Ytkgdlbepjmgaiaa.Cal
namespace Go.Proofs.Ytkgdlbepjmgaiaa.Cal
open Go.RowKit Go.Proofs.YtkgdlbepjmgaiaaW.PrintWords Go.Proofs.YtkgdlbepjmgaiaaW.PrintLast Go.Proofs.YtkgdlbepjmgaiaaW.PrintMore
attribute [local go_sem] max2_int min2_int max_two min_two max_three min_three max_four min_four
set_option linter.unusedVariables false
set_option linter.unusedSimpArgs false
attribute [local go_sem high] eqA25
def metrolablaw52_CalibrateJudges.f (k : Nat) (l0 : List (S68)) (a1_0 : ByteArray) (a1_1 : Int) (a1_2 : Int) (a2_0 : Int) (a2_1 : Int) : Option (Bool) := (metrolablaw52_few.f k l0 a1_0).bind fun t635 => (if t635 = true then ((calibrate_Error.f k l0 a1_0 a1_1).bind fun bt637 => ((metrolablaw52_own.f k l0).bind fun t641 => ((metrolabref52_Error.f k t641 a1_0 a1_1).bind fun bt644 => ((calibrate_Value.f k l0 a1_0 a1_1 a1_2).bind fun bt648 => ((metrolablaw52_own.f k l0).bind fun t652 => ((metrolabref52_Value.f k t652 a1_0 a1_1 a1_2).bind fun bt655 => ((calibrate_Judge.f k l0 a1_0 a1_1 a1_2 a2_0 a2_1).bind fun bt659 => ((metrolablaw52_own.f k l0).bind fun t661 => ((metrolabref52_Judge.f k t661 a1_0 a1_1 a1_2 a2_0 a2_1).bind fun bt664 => ((metrolablaw52_awake.f k).bind fun t666 => (if t666 = true then (if (bt637.1 == bt644.1 && (bt637.2.1 == bt644.2.1)) = true then (if bt637.2.2 = bt644.2.2 then (if (bt648.1 == bt655.1 && (bt648.2.1 == bt655.2.1)) = true then (if bt648.2.2 = bt655.2.2 then (if bt659.1 = bt664.1 then (some (bt659.2 == bt664.2)) else (some false)) else (some false)) else (some false)) else (some false)) else (some false)) else (some false)))))))))))) else ((metrolablaw52_awake.f k).bind fun t636 => (some t636)))
theorem metrolablaw52_CalibrateJudges.mono : ∀ a0 a1 a2 a3 a4 a5 k, LeO (metrolablaw52_CalibrateJudges.f k a0 a1 a2 a3 a4 a5) (metrolablaw52_CalibrateJudges.f (k + 1) a0 a1 a2 a3 a4 a5) := by
  intro a0 a1 a2 a3 a4 a5 k
  unfold metrolablaw52_CalibrateJudges.f
  repeat' first
      | (with_reducible exact calibrate_Error.mono _ _ _ _)
      | (with_reducible exact calibrate_Judge.mono _ _ _ _ _ _ _)
      | (with_reducible exact calibrate_Value.mono _ _ _ _ _)
      | (with_reducible exact metrolablaw52_awake.mono _)
      | (with_reducible exact metrolablaw52_few.mono _ _ _)
      | (with_reducible exact metrolablaw52_own.mono _ _)
      | (with_reducible exact metrolabref52_Error.mono _ _ _ _)
      | (with_reducible exact metrolabref52_Judge.mono _ _ _ _ _ _ _)
      | (with_reducible exact metrolabref52_Value.mono _ _ _ _ _)
      | (with_reducible exact LeO.refl _)
      | (with_reducible exact LeO.none _)
      | (with_reducible refine LeO.ite ?_ ?_)
      | (with_reducible refine LeO.bind ?_ (fun _ => ?_))
      | exact calibrate_Error.mono _ _ _ _
      | exact calibrate_Judge.mono _ _ _ _ _ _ _
      | exact calibrate_Value.mono _ _ _ _ _
      | exact metrolablaw52_awake.mono _
      | exact metrolablaw52_few.mono _ _ _
      | exact metrolablaw52_own.mono _ _
      | exact metrolabref52_Error.mono _ _ _ _
      | exact metrolabref52_Judge.mono _ _ _ _ _ _ _
      | exact metrolabref52_Value.mono _ _ _ _ _
      | exact LeO.none _
      | refine LeO.ite ?_ ?_
      | refine LeO.bind ?_ (fun _ => ?_)
def metrolablaw52_CalibrateJudges.T4 : Bool × List (List Nat × List Nat) := (true, [([], []), ([0], [0]), ([], []), ([2], [2]), ([], []), ([4], [4]), ([1, 3, 5, 1], [1, 3, 5]), ([6], [6]), ([7], [7]), ([7], [7]), ([], []), ([10, 8, 6, 0, 1, 2, 3, 4, 5, 6, 7, 8, 10], [8, 10]), ([9, 11, 0, 1, 2, 3, 4, 5, 6, 7, 8, 9, 10, 11], [9])])
def metrolablaw52_CalibrateJudges.B4 : List Nat := [0, 1, 0, 4, 0, 16, 63, 127, 255, 255, 0, 1535, 4095]
theorem metrolablaw52_CalibrateJudges.tab4 : rtab .any (opsOf Try.f14 4) = metrolablaw52_CalibrateJudges.T4 := by kernel_rfl
theorem metrolablaw52_CalibrateJudges.bits4 : waitsOk metrolablaw52_CalibrateJudges.T4.2 metrolablaw52_CalibrateJudges.B4 = true := by kernel_rfl
def metrolablaw52_CalibrateJudges.T6 : Bool × List (List Nat × List Nat) := (true, [([], []), ([0], [0]), ([], []), ([1, 2, 1], [1, 2]), ([3], [3]), ([4], [4]), ([4], [4]), ([], []), ([7, 5, 3, 0, 1, 2, 3, 4, 5, 7], [5, 7]), ([6, 8, 0, 1, 2, 3, 4, 5, 6, 7, 8], [6])])
def metrolablaw52_CalibrateJudges.B6 : List Nat := [0, 1, 0, 7, 15, 31, 31, 0, 191, 511]
theorem metrolablaw52_CalibrateJudges.tab6 : rtab .any (opsOf Try.f14 6) = metrolablaw52_CalibrateJudges.T6 := by kernel_rfl
theorem metrolablaw52_CalibrateJudges.bits6 : waitsOk metrolablaw52_CalibrateJudges.T6.2 metrolablaw52_CalibrateJudges.B6 = true := by kernel_rfl
def metrolablaw52_CalibrateJudges.T8 : Bool × List (List Nat × List Nat) := (true, [([], []), ([0], [0]), ([], []), ([], []), ([1, 2, 3, 1], [1, 2, 3]), ([4], [4]), ([5], [5]), ([5], [5]), ([6, 4, 0, 1, 2, 3, 4, 5, 6], [6]), ([7, 8, 0, 1, 2, 3, 4, 5, 6, 7, 8], [7])])
def metrolablaw52_CalibrateJudges.B8 : List Nat := [0, 1, 0, 0, 15, 31, 63, 63, 127, 511]
theorem metrolablaw52_CalibrateJudges.tab8 : rtab .any (opsOf Try.f14 8) = metrolablaw52_CalibrateJudges.T8 := by kernel_rfl
theorem metrolablaw52_CalibrateJudges.bits8 : waitsOk metrolablaw52_CalibrateJudges.T8.2 metrolablaw52_CalibrateJudges.B8 = true := by kernel_rfl
set_option maxHeartbeats 8000000 in
set_option maxRecDepth 100000 in
theorem metrolablaw52_CalibrateJudges.calls (k : Nat) (A0 : Option Addr) (c0 : Nat) (l0 : List (S68)) (a1_0 : ByteArray) (a1_1 : Int) (a1_2 : Int) (a2_0 : Int) (a2_1 : Int) (r : Bool) (w : World) (hr0 : Kd.C k68 w A0 l0.length l0) (hc0 : l0.length ≤ c0) (hrt : r = true) (h : metrolablaw52_CalibrateJudges.f k l0 a1_0 a1_1 a1_2 a2_0 a2_1 = some r) :
    Calls Try.prog 14 #[.slice A0 l0.length c0, .agg #[.string a1_0, .int .i64 a1_1, .int .i64 a1_2], .agg #[.int .i64 a2_0, .int .i64 a2_1]] w fun e w' => e = .returned (.bool r) ∧ Below w.heap.size w w' := by
  have HRT := Aside0.mk hrt
  clear hrt
  have hu51 := Try.underlying51
  have hu25 := Try.underlying25
  have HR0 := Aside0.mk hr0
  have HC0 := Aside0.mk hc0
  clear hr0 hc0
  have HB := Aside0.mk (Below.refl w.heap.size w)
  have H : ((metrolablaw52_few.f k l0 a1_0).bind fun t635 => (if t635 = true then ((calibrate_Error.f k l0 a1_0 a1_1).bind fun bt637 => ((metrolablaw52_own.f k l0).bind fun t641 => ((metrolabref52_Error.f k t641 a1_0 a1_1).bind fun bt644 => ((calibrate_Value.f k l0 a1_0 a1_1 a1_2).bind fun bt648 => ((metrolablaw52_own.f k l0).bind fun t652 => ((metrolabref52_Value.f k t652 a1_0 a1_1 a1_2).bind fun bt655 => ((calibrate_Judge.f k l0 a1_0 a1_1 a1_2 a2_0 a2_1).bind fun bt659 => ((metrolablaw52_own.f k l0).bind fun t661 => ((metrolabref52_Judge.f k t661 a1_0 a1_1 a1_2 a2_0 a2_1).bind fun bt664 => ((metrolablaw52_awake.f k).bind fun t666 => (if t666 = true then (if (bt637.1 == bt644.1 && (bt637.2.1 == bt644.2.1)) = true then (if bt637.2.2 = bt644.2.2 then (if (bt648.1 == bt655.1 && (bt648.2.1 == bt655.2.1)) = true then (if bt648.2.2 = bt655.2.2 then (if bt659.1 = bt664.1 then (some (bt659.2 == bt664.2)) else (some false)) else (some false)) else (some false)) else (some false)) else (some false)) else (some false)))))))))))) else ((metrolablaw52_awake.f k).bind fun t636 => (some t636)))) = some r := h
  clear h
  replace H := Option.bind_eq_some_iff.mp H
  obtain ⟨t635, A40, H⟩ := H
  replace H : (if t635 = true then ((calibrate_Error.f k l0 a1_0 a1_1).bind fun bt637 => ((metrolablaw52_own.f k l0).bind fun t641 => ((metrolabref52_Error.f k t641 a1_0 a1_1).bind fun bt644 => ((calibrate_Value.f k l0 a1_0 a1_1 a1_2).bind fun bt648 => ((metrolablaw52_own.f k l0).bind fun t652 => ((metrolabref52_Value.f k t652 a1_0 a1_1 a1_2).bind fun bt655 => ((calibrate_Judge.f k l0 a1_0 a1_1 a1_2 a2_0 a2_1).bind fun bt659 => ((metrolablaw52_own.f k l0).bind fun t661 => ((metrolabref52_Judge.f k t661 a1_0 a1_1 a1_2 a2_0 a2_1).bind fun bt664 => ((metrolablaw52_awake.f k).bind fun t666 => (if t666 = true then (if (bt637.1 == bt644.1 && (bt637.2.1 == bt644.2.1)) = true then (if bt637.2.2 = bt644.2.2 then (if (bt648.1 == bt655.1 && (bt648.2.1 == bt655.2.1)) = true then (if bt648.2.2 = bt655.2.2 then (if bt659.1 = bt664.1 then (some (bt659.2 == bt664.2)) else (some false)) else (some false)) else (some false)) else (some false)) else (some false)) else (some false)))))))))))) else ((metrolablaw52_awake.f k).bind fun t636 => (some t636))) = some r := H
  have A4 := Aside0.mk A40
  clear A40
  by_cases c5 : t635 = true
  · subst c5
    have H1 : ((calibrate_Error.f k l0 a1_0 a1_1).bind fun bt637 => ((metrolablaw52_own.f k l0).bind fun t641 => ((metrolabref52_Error.f k t641 a1_0 a1_1).bind fun bt644 => ((calibrate_Value.f k l0 a1_0 a1_1 a1_2).bind fun bt648 => ((metrolablaw52_own.f k l0).bind fun t652 => ((metrolabref52_Value.f k t652 a1_0 a1_1 a1_2).bind fun bt655 => ((calibrate_Judge.f k l0 a1_0 a1_1 a1_2 a2_0 a2_1).bind fun bt659 => ((metrolablaw52_own.f k l0).bind fun t661 => ((metrolabref52_Judge.f k t661 a1_0 a1_1 a1_2 a2_0 a2_1).bind fun bt664 => ((metrolablaw52_awake.f k).bind fun t666 => (if t666 = true then (if (bt637.1 == bt644.1 && (bt637.2.1 == bt644.2.1)) = true then (if bt637.2.2 = bt644.2.2 then (if (bt648.1 == bt655.1 && (bt648.2.1 == bt655.2.1)) = true then (if bt648.2.2 = bt655.2.2 then (if bt659.1 = bt664.1 then (some (bt659.2 == bt664.2)) else (some false)) else (some false)) else (some false)) else (some false)) else (some false)) else (some false)))))))))))) = some r := by rw [if_pos rfl] at H; exact H
    clear H
    have H := H1
    clear H1
    replace H := Option.bind_eq_some_iff.mp H
    obtain ⟨⟨t637, t638, t639⟩, A60, H⟩ := H
    replace H : ((metrolablaw52_own.f k l0).bind fun t641 => ((metrolabref52_Error.f k t641 a1_0 a1_1).bind fun bt644 => ((calibrate_Value.f k l0 a1_0 a1_1 a1_2).bind fun bt648 => ((metrolablaw52_own.f k l0).bind fun t652 => ((metrolabref52_Value.f k t652 a1_0 a1_1 a1_2).bind fun bt655 => ((calibrate_Judge.f k l0 a1_0 a1_1 a1_2 a2_0 a2_1).bind fun bt659 => ((metrolablaw52_own.f k l0).bind fun t661 => ((metrolabref52_Judge.f k t661 a1_0 a1_1 a1_2 a2_0 a2_1).bind fun bt664 => ((metrolablaw52_awake.f k).bind fun t666 => (if t666 = true then (if (t637 == bt644.1 && (t638 == bt644.2.1)) = true then (if t639 = bt644.2.2 then (if (bt648.1 == bt655.1 && (bt648.2.1 == bt655.2.1)) = true then (if bt648.2.2 = bt655.2.2 then (if bt659.1 = bt664.1 then (some (bt659.2 == bt664.2)) else (some false)) else (some false)) else (some false)) else (some false)) else (some false)) else (some false))))))))))) = some r := H
    have A6 := Aside0.mk A60
    clear A60
    replace H := Option.bind_eq_some_iff.mp H
    obtain ⟨t641, A70, H⟩ := H
    replace H : ((metrolabref52_Error.f k t641 a1_0 a1_1).bind fun bt644 => ((calibrate_Value.f k l0 a1_0 a1_1 a1_2).bind fun bt648 => ((metrolablaw52_own.f k l0).bind fun t652 => ((metrolabref52_Value.f k t652 a1_0 a1_1 a1_2).bind fun bt655 => ((calibrate_Judge.f k l0 a1_0 a1_1 a1_2 a2_0 a2_1).bind fun bt659 => ((metrolablaw52_own.f k l0).bind fun t661 => ((metrolabref52_Judge.f k t661 a1_0 a1_1 a1_2 a2_0 a2_1).bind fun bt664 => ((metrolablaw52_awake.f k).bind fun t666 => (if t666 = true then (if (t637 == bt644.1 && (t638 == bt644.2.1)) = true then (if t639 = bt644.2.2 then (if (bt648.1 == bt655.1 && (bt648.2.1 == bt655.2.1)) = true then (if bt648.2.2 = bt655.2.2 then (if bt659.1 = bt664.1 then (some (bt659.2 == bt664.2)) else (some false)) else (some false)) else (some false)) else (some false)) else (some false)) else (some false)))))))))) = some r := H
    have A7 := Aside0.mk A70
    clear A70
    replace H := Option.bind_eq_some_iff.mp H
    obtain ⟨⟨t644, t645, t646⟩, A80, H⟩ := H
    replace H : ((calibrate_Value.f k l0 a1_0 a1_1 a1_2).bind fun bt648 => ((metrolablaw52_own.f k l0).bind fun t652 => ((metrolabref52_Value.f k t652 a1_0 a1_1 a1_2).bind fun bt655 => ((calibrate_Judge.f k l0 a1_0 a1_1 a1_2 a2_0 a2_1).bind fun bt659 => ((metrolablaw52_own.f k l0).bind fun t661 => ((metrolabref52_Judge.f k t661 a1_0 a1_1 a1_2 a2_0 a2_1).bind fun bt664 => ((metrolablaw52_awake.f k).bind fun t666 => (if t666 = true then (if (t637 == t644 && (t638 == t645)) = true then (if t639 = t646 then (if (bt648.1 == bt655.1 && (bt648.2.1 == bt655.2.1)) = true then (if bt648.2.2 = bt655.2.2 then (if bt659.1 = bt664.1 then (some (bt659.2 == bt664.2)) else (some false)) else (some false)) else (some false)) else (some false)) else (some false)) else (some false))))))))) = some r := H
    have A8 := Aside0.mk A80
    clear A80
    replace H := Option.bind_eq_some_iff.mp H
    obtain ⟨⟨t648, t649, t650⟩, A90, H⟩ := H
    replace H : ((metrolablaw52_own.f k l0).bind fun t652 => ((metrolabref52_Value.f k t652 a1_0 a1_1 a1_2).bind fun bt655 => ((calibrate_Judge.f k l0 a1_0 a1_1 a1_2 a2_0 a2_1).bind fun bt659 => ((metrolablaw52_own.f k l0).bind fun t661 => ((metrolabref52_Judge.f k t661 a1_0 a1_1 a1_2 a2_0 a2_1).bind fun bt664 => ((metrolablaw52_awake.f k).bind fun t666 => (if t666 = true then (if (t637 == t644 && (t638 == t645)) = true then (if t639 = t646 then (if (t648 == bt655.1 && (t649 == bt655.2.1)) = true then (if t650 = bt655.2.2 then (if bt659.1 = bt664.1 then (some (bt659.2 == bt664.2)) else (some false)) else (some false)) else (some false)) else (some false)) else (some false)) else (some false)))))))) = some r := H
    have A9 := Aside0.mk A90
    clear A90
    replace H := Option.bind_eq_some_iff.mp H
    obtain ⟨t652, A100, H⟩ := H
    replace H : ((metrolabref52_Value.f k t652 a1_0 a1_1 a1_2).bind fun bt655 => ((calibrate_Judge.f k l0 a1_0 a1_1 a1_2 a2_0 a2_1).bind fun bt659 => ((metrolablaw52_own.f k l0).bind fun t661 => ((metrolabref52_Judge.f k t661 a1_0 a1_1 a1_2 a2_0 a2_1).bind fun bt664 => ((metrolablaw52_awake.f k).bind fun t666 => (if t666 = true then (if (t637 == t644 && (t638 == t645)) = true then (if t639 = t646 then (if (t648 == bt655.1 && (t649 == bt655.2.1)) = true then (if t650 = bt655.2.2 then (if bt659.1 = bt664.1 then (some (bt659.2 == bt664.2)) else (some false)) else (some false)) else (some false)) else (some false)) else (some false)) else (some false))))))) = some r := H
    have A10 := Aside0.mk A100
    clear A100
    replace H := Option.bind_eq_some_iff.mp H
    obtain ⟨⟨t655, t656, t657⟩, A110, H⟩ := H
    replace H : ((calibrate_Judge.f k l0 a1_0 a1_1 a1_2 a2_0 a2_1).bind fun bt659 => ((metrolablaw52_own.f k l0).bind fun t661 => ((metrolabref52_Judge.f k t661 a1_0 a1_1 a1_2 a2_0 a2_1).bind fun bt664 => ((metrolablaw52_awake.f k).bind fun t666 => (if t666 = true then (if (t637 == t644 && (t638 == t645)) = true then (if t639 = t646 then (if (t648 == t655 && (t649 == t656)) = true then (if t650 = t657 then (if bt659.1 = bt664.1 then (some (bt659.2 == bt664.2)) else (some false)) else (some false)) else (some false)) else (some false)) else (some false)) else (some false)))))) = some r := H
    have A11 := Aside0.mk A110
    clear A110
    replace H := Option.bind_eq_some_iff.mp H
    obtain ⟨⟨t659, t660⟩, A120, H⟩ := H
    replace H : ((metrolablaw52_own.f k l0).bind fun t661 => ((metrolabref52_Judge.f k t661 a1_0 a1_1 a1_2 a2_0 a2_1).bind fun bt664 => ((metrolablaw52_awake.f k).bind fun t666 => (if t666 = true then (if (t637 == t644 && (t638 == t645)) = true then (if t639 = t646 then (if (t648 == t655 && (t649 == t656)) = true then (if t650 = t657 then (if t659 = bt664.1 then (some (t660 == bt664.2)) else (some false)) else (some false)) else (some false)) else (some false)) else (some false)) else (some false))))) = some r := H
    have A12 := Aside0.mk A120
    clear A120
    replace H := Option.bind_eq_some_iff.mp H
    obtain ⟨t661, A130, H⟩ := H
    replace H : ((metrolabref52_Judge.f k t661 a1_0 a1_1 a1_2 a2_0 a2_1).bind fun bt664 => ((metrolablaw52_awake.f k).bind fun t666 => (if t666 = true then (if (t637 == t644 && (t638 == t645)) = true then (if t639 = t646 then (if (t648 == t655 && (t649 == t656)) = true then (if t650 = t657 then (if t659 = bt664.1 then (some (t660 == bt664.2)) else (some false)) else (some false)) else (some false)) else (some false)) else (some false)) else (some false)))) = some r := H
    have A13 := Aside0.mk A130
    clear A130
    replace H := Option.bind_eq_some_iff.mp H
    obtain ⟨⟨t664, t665⟩, A140, H⟩ := H
    replace H : ((metrolablaw52_awake.f k).bind fun t666 => (if t666 = true then (if (t637 == t644 && (t638 == t645)) = true then (if t639 = t646 then (if (t648 == t655 && (t649 == t656)) = true then (if t650 = t657 then (if t659 = t664 then (some (t660 == t665)) else (some false)) else (some false)) else (some false)) else (some false)) else (some false)) else (some false))) = some r := H
    have A14 := Aside0.mk A140
    clear A140
    replace H := Option.bind_eq_some_iff.mp H
    obtain ⟨t666, A150, H⟩ := H
    replace H : (if t666 = true then (if (t637 == t644 && (t638 == t645)) = true then (if t639 = t646 then (if (t648 == t655 && (t649 == t656)) = true then (if t650 = t657 then (if t659 = t664 then (some (t660 == t665)) else (some false)) else (some false)) else (some false)) else (some false)) else (some false)) else (some false)) = some r := H
    have A15 := Aside0.mk A150
    clear A150
    by_cases c16 : t666 = true
    · subst c16
      have H1 : (if (t637 == t644 && (t638 == t645)) = true then (if t639 = t646 then (if (t648 == t655 && (t649 == t656)) = true then (if t650 = t657 then (if t659 = t664 then (some (t660 == t665)) else (some false)) else (some false)) else (some false)) else (some false)) else (some false)) = some r := by rw [if_pos rfl] at H; exact H
      clear H
      have H := H1
      clear H1
      by_cases c17 : (t637 == t644 && (t638 == t645)) = true
      · rw [if_pos c17] at H
        have c17b0 : (t637 == t644 && (t638 == t645)) = true := c17
        (try (have c17b1 : decide (t637 = t644 && (t638 == t645)) = true := by simpa using c17))
        (try (have c17b2 : (t637 == t644 && (t638 == t645)) = true := by simpa using c17))
        clear c17
        by_cases c18 : t639 = t646
        · rw [if_pos c18] at H
          have c18b0 : (t639 == t646) = true := beq_iff_eq.mpr c18
          have c18b1 : (t639 != t646) = false := bne_eq_false_iff_eq.mpr c18
          clear c18
          by_cases c19 : (t648 == t655 && (t649 == t656)) = true
          · rw [if_pos c19] at H
            have c19b0 : (t648 == t655 && (t649 == t656)) = true := c19
            (try (have c19b1 : decide (t648 = t655 && (t649 == t656)) = true := by simpa using c19))
            (try (have c19b2 : (t648 == t655 && (t649 == t656)) = true := by simpa using c19))
            clear c19
            by_cases c20 : t650 = t657
            · rw [if_pos c20] at H
              have c20b0 : (t650 == t657) = true := beq_iff_eq.mpr c20
              have c20b1 : (t650 != t657) = false := bne_eq_false_iff_eq.mpr c20
              clear c20
              by_cases c21 : t659 = t664
              · rw [if_pos c21] at H
                have c21b0 : (t659 == t664) = true := beq_iff_eq.mpr c21
                have c21b1 : (t659 != t664) = false := bne_eq_false_iff_eq.mpr c21
                clear c21
                obtain rfl := Option.some.inj H
                go_enter Try.func14, Try.ntmps14
                try go_wp2_with (first | ((with_reducible refine gate_dst (N := 4) rfl ?_); refine box_event ?hg (N := 4) ?hd (cs := #[.string a1_0, .int .i64 a1_1, .int .i64 a1_2]) (t := 51) ?hr ?_; (case hd => rfl); (case hg => rfl); (case hr => first | (go_simp; done) | (go_simp; rfl)); intro gb633 hg w22 hbox hb; have n0_ := Aside0.mk (below_step (by repeat (first | (with_reducible first | exact HB.out | apply below_alloc | apply pw_below_drewN | apply below_drew1) | exact HB.out)) hb); have n1_ := Aside0.mk (hbox); have n2_ := Aside0.mk ((by rw [hg]; exact (below_size (by repeat (first | (with_reducible first | exact HB.out | apply below_alloc | apply pw_below_drewN | apply below_drew1) | exact HB.out))) : w.heap.size ≤ gb633)); have n3_ := Aside0.mk ((by rw [hg]; exact (below_size (by repeat (first | (with_reducible first | exact HB.out | apply below_alloc | apply pw_below_drewN | apply below_drew1) | exact HB.out))) : w.heap.size ≤ gb633)); clear HB; have HB := n0_; have BK633 := n1_; have GW633 := n2_; have GE633 := n3_; clear n0_ n1_ n2_ n3_; clear hb hbox hg) | ((with_reducible refine gate_dst (N := 5) rfl ?_); refine box_event ?hg (N := 5) ?hd (cs := #[.int .i64 a2_0, .int .i64 a2_1]) (t := 25) ?hr ?_; (case hd => rfl); (case hg => rfl); (case hr => first | (go_simp; done) | (go_simp; rfl)); intro gb634 hg w23 hbox hb; have n0_ := Aside0.mk (blk_below (g := gb633) (o := .cells #[.string a1_0, .int .i64 a1_1, .int .i64 a1_2] 51 (0, 0)) (by (with_reducible repeat (first | refine blk_drewN ?_ _ | refine blk_drew ?_ | refine blk_alloc ?_ _)); exact BK633.out) hb); have n1_ := Aside0.mk (below_step (by repeat (first | (with_reducible first | exact HB.out | apply below_alloc | apply pw_below_drewN | apply below_drew1 | refine below_set ?_ GE633.out) | exact HB.out)) hb); have n2_ := Aside0.mk (hbox); have n3_ := Aside0.mk ((by rw [hg]; exact (below_size (by repeat (first | (with_reducible first | exact HB.out | apply below_alloc | apply pw_below_drewN | apply below_drew1 | refine below_set ?_ GE633.out) | exact HB.out))) : w.heap.size ≤ gb634)); have n4_ := Aside0.mk ((by rw [hg]; exact (below_size (by repeat (first | (with_reducible first | exact HB.out | apply below_alloc | apply pw_below_drewN | apply below_drew1 | refine below_set ?_ GE633.out) | exact HB.out))) : w.heap.size ≤ gb634)); have n5_ := Aside0.mk ((by rw [hg]; exact Nat.ne_of_lt (blk_lt (g := gb633) (o := .cells #[.string a1_0, .int .i64 a1_1, .int .i64 a1_2] 51 (0, 0)) (by (with_reducible repeat (first | refine blk_drewN ?_ _ | refine blk_drew ?_ | refine blk_alloc ?_ _)); exact BK633.out)) : gb633 ≠ gb634)); have n6_ := Aside0.mk ((by rw [hg]; exact Nat.ne_of_gt (blk_lt (g := gb633) (o := .cells #[.string a1_0, .int .i64 a1_1, .int .i64 a1_2] 51 (0, 0)) (by (with_reducible repeat (first | refine blk_drewN ?_ _ | refine blk_drew ?_ | refine blk_alloc ?_ _)); exact BK633.out)) : gb634 ≠ gb633)); clear BK633; clear HB; have BK633 := n0_; have HB := n1_; have BK634 := n2_; have GW634 := n3_; have GE634 := n4_; have NB633_634 := n5_; have NB634_633 := n6_; clear n0_ n1_ n2_ n3_ n4_ n5_ n6_; clear hb hbox hg; have hnb24 := NB633_634.out; have hnc24 := NB634_633.out; have hcz25_0 : w23.cell? ⟨gb633, 0, none⟩ = some (.string a1_0) := (blk_cell BK633.out 0).trans rfl; have hcz25_1 : w23.cell? ⟨gb633, 1, none⟩ = some (.int .i64 a1_1) := (blk_cell BK633.out 1).trans rfl; have hcz25_2 : w23.cell? ⟨gb633, 2, none⟩ = some (.int .i64 a1_2) := (blk_cell BK633.out 2).trans rfl; have hfz25_0 := blk_frozen BK633.out 0; have hfz25_1 := blk_frozen BK633.out 1; have hfz25_2 := blk_frozen BK633.out 2) | ((with_reducible refine gate_callee (f := 32) rfl ?_); refine goesL_ (some 22) rfl rfl Try.func32 (by kernel_rfl) rfl #[.slice A0 l0.length c0, .string a1_0] rfl (by (try simp only [List.map_toArray, List.map_cons, List.map_nil]); first | done | rfl | (simp only [List.length_drop, List.length_take]; rfl)) ?_; (with_reducible refine (metrolablaw52_few.calls k _ _ l0 a1_0 true _ ?side1 ?side2 A4.out).mono ?_); (case side1 => repeat (first | exact (Kd.C_below HR0.out HB.out) | (with_reducible refine Kd.C_alloc ?_ _) | (with_reducible refine Kd.C_drewN ?_ _) | (with_reducible refine Kd.C_drew ?_))); (case side2 => exact HC0.out); rintro e w26 ⟨rfl, hb⟩; refine ⟨_, rfl, ?_⟩; have n0_ := Aside0.mk (blk_below (g := gb633) (o := .cells #[.string a1_0, .int .i64 a1_1, .int .i64 a1_2] 51 (0, 0)) (by (with_reducible repeat (first | refine blk_drewN ?_ _ | refine blk_drew ?_ | refine blk_alloc ?_ _)); exact BK633.out) hb); have n1_ := Aside0.mk (blk_below (g := gb634) (o := .cells #[.int .i64 a2_0, .int .i64 a2_1] 25 (0, 0)) (by (with_reducible repeat (first | refine blk_drewN ?_ _ | refine blk_drew ?_ | refine blk_alloc ?_ _)); exact BK634.out) hb); have n2_ := Aside0.mk (below_step (by repeat (first | (with_reducible first | exact HB.out | apply below_alloc | apply pw_below_drewN | apply below_drew1 | refine below_set ?_ GE633.out | refine below_set ?_ GE634.out) | exact HB.out)) hb); clear BK633; clear BK634; clear HB; have BK633 := n0_; have BK634 := n1_; have HB := n2_; clear n0_ n1_ n2_; (try clear hb); (try clear hb2); (try clear hk); (try clear hi); have hcz27_0 : w26.cell? ⟨gb633, 0, none⟩ = some (.string a1_0) := (blk_cell BK633.out 0).trans rfl; have hcz27_1 : w26.cell? ⟨gb633, 1, none⟩ = some (.int .i64 a1_1) := (blk_cell BK633.out 1).trans rfl; have hcz27_2 : w26.cell? ⟨gb633, 2, none⟩ = some (.int .i64 a1_2) := (blk_cell BK633.out 2).trans rfl; have hfz27_0 := blk_frozen BK633.out 0; have hfz27_1 := blk_frozen BK633.out 1; have hfz27_2 := blk_frozen BK633.out 2) | ((with_reducible refine gate_callee (f := 61) rfl ?_); refine goesL_ (some 31) rfl rfl Try.func61 (by kernel_rfl) rfl #[.slice A0 l0.length c0, .string a1_0, .int .i64 a1_1] rfl (by (try simp only [List.map_toArray, List.map_cons, List.map_nil]); first | done | rfl | (simp only [List.length_drop, List.length_take]; rfl)) ?_; (with_reducible refine (calibrate_Error.calls k _ _ l0 a1_0 a1_1 t637 t638 t639 _ ?side1 ?side2 A6.out).mono ?_); (case side1 => repeat (first | exact (Kd.C_below HR0.out HB.out) | (with_reducible refine Kd.C_alloc ?_ _) | (with_reducible refine Kd.C_drewN ?_ _) | (with_reducible refine Kd.C_drew ?_))); (case side2 => exact HC0.out); rintro e w28 ⟨rfl, hb⟩; refine ⟨_, rfl, ?_⟩; have n0_ := Aside0.mk (blk_below (g := gb633) (o := .cells #[.string a1_0, .int .i64 a1_1, .int .i64 a1_2] 51 (0, 0)) (by (with_reducible repeat (first | refine blk_drewN ?_ _ | refine blk_drew ?_ | refine blk_alloc ?_ _)); exact BK633.out) hb); have n1_ := Aside0.mk (blk_below (g := gb634) (o := .cells #[.int .i64 a2_0, .int .i64 a2_1] 25 (0, 0)) (by (with_reducible repeat (first | refine blk_drewN ?_ _ | refine blk_drew ?_ | refine blk_alloc ?_ _)); exact BK634.out) hb); have n2_ := Aside0.mk (below_step (by repeat (first | (with_reducible first | exact HB.out | apply below_alloc | apply pw_below_drewN | apply below_drew1 | refine below_set ?_ GE633.out | refine below_set ?_ GE634.out) | exact HB.out)) hb); clear BK633; clear BK634; clear HB; have BK633 := n0_; have BK634 := n1_; have HB := n2_; clear n0_ n1_ n2_; (try clear hb); (try clear hb2); (try clear hk); (try clear hi)) | ((with_reducible refine gate_dst (N := 7) rfl ?_); refine box_event ?hg (N := 7) ?hd (cs := #[.int .i64 0, .int .i64 0]) (t := 25) ?hr ?_; (case hd => rfl); (case hg => rfl); (case hr => first | (go_simp; done) | (go_simp; rfl)); intro gb640 hg w29 hbox hb; have n0_ := Aside0.mk (blk_below (g := gb633) (o := .cells #[.string a1_0, .int .i64 a1_1, .int .i64 a1_2] 51 (0, 0)) (by (with_reducible repeat (first | refine blk_drewN ?_ _ | refine blk_drew ?_ | refine blk_alloc ?_ _)); exact BK633.out) hb); have n1_ := Aside0.mk (blk_below (g := gb634) (o := .cells #[.int .i64 a2_0, .int .i64 a2_1] 25 (0, 0)) (by (with_reducible repeat (first | refine blk_drewN ?_ _ | refine blk_drew ?_ | refine blk_alloc ?_ _)); exact BK634.out) hb); have n2_ := Aside0.mk (below_step (by repeat (first | (with_reducible first | exact HB.out | apply below_alloc | apply pw_below_drewN | apply below_drew1 | refine below_set ?_ GE633.out | refine below_set ?_ GE634.out) | exact HB.out)) hb); have n3_ := Aside0.mk (hbox); have n4_ := Aside0.mk ((by rw [hg]; exact (below_size (by repeat (first | (with_reducible first | exact HB.out | apply below_alloc | apply pw_below_drewN | apply below_drew1 | refine below_set ?_ GE633.out | refine below_set ?_ GE634.out) | exact HB.out))) : w.heap.size ≤ gb640)); have n5_ := Aside0.mk ((by rw [hg]; exact (below_size (by repeat (first | (with_reducible first | exact HB.out | apply below_alloc | apply pw_below_drewN | apply below_drew1 | refine below_set ?_ GE633.out | refine below_set ?_ GE634.out) | exact HB.out))) : w.heap.size ≤ gb640)); have n6_ := Aside0.mk ((by rw [hg]; exact Nat.ne_of_lt (blk_lt (g := gb633) (o := .cells #[.string a1_0, .int .i64 a1_1, .int .i64 a1_2] 51 (0, 0)) (by (with_reducible repeat (first | refine blk_drewN ?_ _ | refine blk_drew ?_ | refine blk_alloc ?_ _)); exact BK633.out)) : gb633 ≠ gb640)); have n7_ := Aside0.mk ((by rw [hg]; exact Nat.ne_of_gt (blk_lt (g := gb633) (o := .cells #[.string a1_0, .int .i64 a1_1, .int .i64 a1_2] 51 (0, 0)) (by (with_reducible repeat (first | refine blk_drewN ?_ _ | refine blk_drew ?_ | refine blk_alloc ?_ _)); exact BK633.out)) : gb640 ≠ gb633)); have n8_ := Aside0.mk ((by rw [hg]; exact Nat.ne_of_lt (blk_lt (g := gb634) (o := .cells #[.int .i64 a2_0, .int .i64 a2_1] 25 (0, 0)) (by (with_reducible repeat (first | refine blk_drewN ?_ _ | refine blk_drew ?_ | refine blk_alloc ?_ _)); exact BK634.out)) : gb634 ≠ gb640)); have n9_ := Aside0.mk ((by rw [hg]; exact Nat.ne_of_gt (blk_lt (g := gb634) (o := .cells #[.int .i64 a2_0, .int .i64 a2_1] 25 (0, 0)) (by (with_reducible repeat (first | refine blk_drewN ?_ _ | refine blk_drew ?_ | refine blk_alloc ?_ _)); exact BK634.out)) : gb640 ≠ gb634)); clear BK633; clear BK634; clear HB; have BK633 := n0_; have BK634 := n1_; have HB := n2_; have BK640 := n3_; have GW640 := n4_; have GE640 := n5_; have NB633_640 := n6_; have NB640_633 := n7_; have NB634_640 := n8_; have NB640_634 := n9_; clear n0_ n1_ n2_ n3_ n4_ n5_ n6_ n7_ n8_ n9_; clear hb hbox hg; have hnb30 := NB640_633.out; have hnc30 := NB633_640.out; have hnb31 := NB640_634.out; have hnc31 := NB634_640.out; have hcz32_0 : w29.cell? ⟨gb640, 0, none⟩ = some (.int .i64 0) := (blk_cell BK640.out 0).trans rfl; have hcz32_1 : w29.cell? ⟨gb640, 1, none⟩ = some (.int .i64 0) := (blk_cell BK640.out 1).trans rfl; have hfz32_0 := blk_frozen BK640.out 0; have hfz32_1 := blk_frozen BK640.out 1))
                have n0_ : Aside0 (((w29.setCell ⟨gb640, 0, none⟩ (.int .i64 t637)).setCell ⟨gb640, 1, none⟩ (.int .i64 t638)).heap[gb633]? = some (.cells #[.string a1_0, .int .i64 a1_1, .int .i64 a1_2] 51 (0, 0))) := ⟨by (with_reducible repeat (first | refine blk_drewN ?_ _ | refine blk_drew ?_ | refine blk_alloc ?_ _)); refine blk_far ?_ NB633_640.out _; (with_reducible repeat (first | refine blk_drewN ?_ _ | refine blk_drew ?_ | refine blk_alloc ?_ _)); refine blk_far ?_ NB633_640.out _; (with_reducible repeat (first | refine blk_drewN ?_ _ | refine blk_drew ?_ | refine blk_alloc ?_ _)); exact BK633.out⟩
                have n1_ : Aside0 (((w29.setCell ⟨gb640, 0, none⟩ (.int .i64 t637)).setCell ⟨gb640, 1, none⟩ (.int .i64 t638)).heap[gb634]? = some (.cells #[.int .i64 a2_0, .int .i64 a2_1] 25 (0, 0))) := ⟨by (with_reducible repeat (first | refine blk_drewN ?_ _ | refine blk_drew ?_ | refine blk_alloc ?_ _)); refine blk_far ?_ NB634_640.out _; (with_reducible repeat (first | refine blk_drewN ?_ _ | refine blk_drew ?_ | refine blk_alloc ?_ _)); refine blk_far ?_ NB634_640.out _; (with_reducible repeat (first | refine blk_drewN ?_ _ | refine blk_drew ?_ | refine blk_alloc ?_ _)); exact BK634.out⟩
                have n2_ : Aside0 (((w29.setCell ⟨gb640, 0, none⟩ (.int .i64 t637)).setCell ⟨gb640, 1, none⟩ (.int .i64 t638)).heap[gb640]? = some (.cells #[.int .i64 t637, .int .i64 t638] 25 (0, 0))) := ⟨by (with_reducible repeat (first | refine blk_drewN ?_ _ | refine blk_drew ?_ | refine blk_alloc ?_ _)); refine blk_put (cs := #[.int .i64 t637, .int .i64 0]) ?_ 1 _ rfl; (with_reducible repeat (first | refine blk_drewN ?_ _ | refine blk_drew ?_ | refine blk_alloc ?_ _)); refine blk_put (cs := #[.int .i64 0, .int .i64 0]) ?_ 0 _ rfl; (with_reducible repeat (first | refine blk_drewN ?_ _ | refine blk_drew ?_ | refine blk_alloc ?_ _)); exact BK640.out⟩
                have n3_ : Aside0 (Below w.heap.size w ((w29.setCell ⟨gb640, 0, none⟩ (.int .i64 t637)).setCell ⟨gb640, 1, none⟩ (.int .i64 t638))) := ⟨by repeat (first | (with_reducible first | exact HB.out | apply below_alloc | apply pw_below_drewN | apply below_drew1 | refine below_set ?_ GE633.out | refine below_set ?_ GE634.out | refine below_set ?_ GE640.out) | exact HB.out)⟩
                (try clear BK633)
                (try clear BK634)
                (try clear BK640)
                (try clear HB)
                generalize ((w29.setCell ⟨gb640, 0, none⟩ (.int .i64 t637)).setCell ⟨gb640, 1, none⟩ (.int .i64 t638)) = w33 at n0_ n1_ n2_ n3_ ⊢
                have BK633 := n0_
                have BK634 := n1_
                have BK640 := n2_
                have HB := n3_
                clear n0_ n1_ n2_ n3_
                have n0_ := Aside0.mk (blk_drew BK633.out)
                have n1_ := Aside0.mk (blk_drew BK634.out)
                have n2_ := Aside0.mk (blk_drew BK640.out)
                have n3_ := Aside0.mk (below_drew1 HB.out)
                clear BK633
                clear BK634
                clear BK640
                clear HB
                have BK633 := n0_
                have BK634 := n1_
                have BK640 := n2_
                have HB := n3_
                clear n0_ n1_ n2_ n3_
                refine start_ (n := 13) (S := fun w' => w'.cell? ⟨gb633, 0, none⟩ = some (.string a1_0) ∧ w'.cell? ⟨gb633, 1, none⟩ = some (.int .i64 a1_1) ∧ w'.cell? ⟨gb633, 2, none⟩ = some (.int .i64 a1_2)) (ds := []) #[false, false, false, false, false, false, false, false, false, false, false, false, false] (by kernel_rfl) rfl rfl ⟨(blk_cell BK633.out 0).trans rfl, (blk_cell BK633.out 1).trans rfl, (blk_cell BK633.out 2).trans rfl⟩ (fun hHeld => ?_); refine with_tabW metrolablaw52_CalibrateJudges.tab4 metrolablaw52_CalibrateJudges.bits4 (fun HT_ HW_ => ?_)
                generalize w33.drew = w34 at BK633 BK634 BK640 HB hHeld ⊢
                refine pure_ (i := 0) (N := some 35) (v := ?_) (a' := ?_) #[true, false, false, false, false, false, false, false, false, false, false, false, false] rfl rfl (any_of HT_.out (by kernel_rfl)) (fun _ _ _ h => h) (Or.inl ⟨by rfl, ?_⟩) ?_ ?_
                rotate_left
                · intro w'
                  go_simp
                  with_reducible rfl
                rotate_left
                · simp only [Act.put, List.setIfInBounds_toArray, List.set_cons_zero, List.set_cons_succ, i64_w, i32_w]
                  rfl
                refine pure_ (i := 2) (N := some 37) (v := ?_) (a' := ?_) #[true, false, true, false, false, false, false, false, false, false, false, false, false] rfl rfl (any_of HT_.out (by kernel_rfl)) (fun _ _ _ h => h) (Or.inl ⟨by rfl, ?_⟩) ?_ ?_
                rotate_left
                · intro w'
                  go_simp
                  with_reducible rfl
                rotate_left
                · simp only [Act.put, List.setIfInBounds_toArray, List.set_cons_zero, List.set_cons_succ, i64_w, i32_w]
                  rfl
                refine pure_ (i := 4) (N := some 39) (v := ?_) (a' := ?_) #[true, false, true, false, true, false, false, false, false, false, false, false, false] rfl rfl (any_of HT_.out (by kernel_rfl)) (fun _ _ _ h => h) (Or.inl ⟨by rfl, ?_⟩) ?_ ?_
                rotate_left
                · intro w'
                  go_simp
                  with_reducible rfl
                rotate_left
                · simp only [Act.put, List.setIfInBounds_toArray, List.set_cons_zero, List.set_cons_succ, i64_w, i32_w]
                  rfl
                refine take_ (i := 3) (N := some 38) (v := ?_) (a' := ?_) #[true, false, true, true, true, false, false, false, false, false, false, false, false] rfl rfl (take_ofW HT_.out HW_.out (by kernel_rfl)) (fun _ _ _ h => h) (Or.inl ⟨by rfl, ?_⟩) hHeld ?_ ?_
                rotate_left
                · rintro w' ⟨s0, s1, s2⟩
                  go_simp
                  with_reducible rfl
                rotate_left
                · simp only [Act.put, List.setIfInBounds_toArray, List.set_cons_zero, List.set_cons_succ, i64_w, i32_w]
                  rfl
                refine take_ (i := 5) (N := some 40) (v := ?_) (a' := ?_) #[true, false, true, true, true, true, false, false, false, false, false, false, false] rfl rfl (take_ofW HT_.out HW_.out (by kernel_rfl)) (fun _ _ _ h => h) (Or.inl ⟨by rfl, ?_⟩) hHeld ?_ ?_
                rotate_left
                · rintro w' ⟨s0, s1, s2⟩
                  go_simp
                  with_reducible rfl
                rotate_left
                · simp only [Act.put, List.setIfInBounds_toArray, List.set_cons_zero, List.set_cons_succ, i64_w, i32_w]
                  rfl
                refine join_ (σ := Value × Nat) 2 #[true, true, true, true, true, true, true, true, true, true, true, false, false] (fun s_ => [(36, s_.1), (41, .tuple #[.agg #[.int .i64 t644, .int .i64 t645], .int .i64 t646]), (9, .pointer (some ⟨s_.2, 0, none⟩)), (34, .tuple #[.agg #[.int .i64 t644, .int .i64 t645], .int .i64 t646]), (42, .agg #[.int .i64 t644, .int .i64 t645]), (43, .int .i64 t646)]) (fun s_ w' => (w'.cell? ⟨gb633, 0, none⟩ = some (.string a1_0) ∧ w'.cell? ⟨gb633, 1, none⟩ = some (.int .i64 a1_1) ∧ w'.cell? ⟨gb633, 2, none⟩ = some (.int .i64 a1_2)) ∧ (Kd.R k121 121 w' w.heap.size (fun _ => True) s_.1 t641) ∧ (w'.heap[gb633]? = some (.cells #[.string a1_0, .int .i64 a1_1, .int .i64 a1_2] 51 (0, 0))) ∧ (w'.heap[gb634]? = some (.cells #[.int .i64 a2_0, .int .i64 a2_1] 25 (0, 0))) ∧ (w'.heap[gb640]? = some (.cells #[.int .i64 t637, .int .i64 t638] 25 (0, 0))) ∧ (w'.heap[s_.2]? = some (.cells #[.int .i64 0, .int .i64 0] 25 (0, 0))) ∧ (w.heap.size ≤ s_.2) ∧ (w.heap.size ≤ s_.2) ∧ (gb633 ≠ s_.2) ∧ (s_.2 ≠ gb633) ∧ (gb634 ≠ s_.2) ∧ (s_.2 ≠ gb634) ∧ (gb640 ≠ s_.2) ∧ (s_.2 ≠ gb640) ∧ (Below w.heap.size w w')) ?_ ?_
                rotate_left
                · intro hCont
                  refine two_ (i := 1) (j := 10) (Ni := some 36) (Nj := some 9) #[true, true, true, true, true, true, false, false, false, false, false, false, false] #[true, false, true, true, true, true, false, false, false, false, true, false, false] rfl rfl rfl rfl (two_of HT_.out (by kernel_rfl)) (by decide) (by decide) (fun K hK => ?_) (fun K hK => ?_)
                  · skip
                    refine goes_ Try.func37 (by kernel_rfl) rfl #[.slice A0 l0.length c0] (by rfl) rfl rfl (by (try simp only [List.map_toArray, List.map_cons, List.map_nil]); first | done | rfl | (simp only [List.length_drop, List.length_take]; rfl)) ?_
                    with_reducible refine (metrolablaw52_own.calls k _ _ l0 t641 _ ?side1 ?side2 A7.out).mono ?_
                    (case side1 => repeat (first | exact (Kd.C_below HR0.out HB.out) | (with_reducible refine Kd.C_alloc ?_ _) | (with_reducible refine Kd.C_drewN ?_ _) | (with_reducible refine Kd.C_drew ?_)))
                    (case side2 => exact HC0.out)
                    rintro e w35 ⟨v642, rfl, ho0, hb⟩
                    refine ⟨_, rfl, ?_⟩
                    have n0_ := Aside0.mk (Kd.R_lower ho0 (below_size (by repeat (first | (with_reducible first | exact HB.out | apply below_alloc | apply pw_below_drewN | apply below_drew1 | refine below_set ?_ GE633.out | refine below_set ?_ GE634.out | refine below_set ?_ GE640.out) | exact HB.out))))
                    have n1_ := Aside0.mk (blk_below (g := gb633) (o := .cells #[.string a1_0, .int .i64 a1_1, .int .i64 a1_2] 51 (0, 0)) (by (with_reducible repeat (first | refine blk_drewN ?_ _ | refine blk_drew ?_ | refine blk_alloc ?_ _)); exact BK633.out) hb)
                    have n2_ := Aside0.mk (blk_below (g := gb634) (o := .cells #[.int .i64 a2_0, .int .i64 a2_1] 25 (0, 0)) (by (with_reducible repeat (first | refine blk_drewN ?_ _ | refine blk_drew ?_ | refine blk_alloc ?_ _)); exact BK634.out) hb)
                    have n3_ := Aside0.mk (blk_below (g := gb640) (o := .cells #[.int .i64 t637, .int .i64 t638] 25 (0, 0)) (by (with_reducible repeat (first | refine blk_drewN ?_ _ | refine blk_drew ?_ | refine blk_alloc ?_ _)); exact BK640.out) hb)
                    have n4_ := Aside0.mk (below_step (by repeat (first | (with_reducible first | exact HB.out | apply below_alloc | apply pw_below_drewN | apply below_drew1 | refine below_set ?_ GE633.out | refine below_set ?_ GE634.out | refine below_set ?_ GE640.out) | exact HB.out)) hb)
                    clear BK633
                    clear BK634
                    clear BK640
                    clear HB
                    have HO643 := n0_
                    have BK633 := n1_
                    have BK634 := n2_
                    have BK640 := n3_
                    have HB := n4_
                    clear n0_ n1_ n2_ n3_ n4_
                    (try clear hb)
                    (try clear hb2)
                    (try clear hk)
                    (try clear hi)
                    (try clear ho0)
                    obtain ⟨Ao36, co36, eo36⟩ := Kd.R_slice HO643.out
                    (first | subst eo36 | (injection eo36 with f1_ f2_ f3_; have f4_ := f1_.symm; have f5_ := f3_.symm; clear f1_ f2_ f3_; subst f4_; subst f5_))
                    refine hK.out _ _ ⟨(blk_cell BK633.out 0).trans rfl, (blk_cell BK633.out 1).trans rfl, (blk_cell BK633.out 2).trans rfl⟩ (fun hHeld => ?_)
                    clear hK K
                    refine norm_ (a' := ?_) ?_ ?_
                    rotate_left
                    · show Act.put _ (some 36) _ = _
                      simp only [Act.put, List.setIfInBounds_toArray, List.set_cons_zero, List.set_cons_succ, i64_w, i32_w]
                      rfl
                    refine two_ (i := 6) (j := 10) (Ni := some 41) (Nj := some 9) #[true, true, true, true, true, true, true, false, false, false, false, false, false] #[true, true, true, true, true, true, false, false, false, false, true, false, false] rfl rfl rfl rfl (two_of HT_.out (by kernel_rfl)) (by decide) (by decide) (fun K hK => ?_) (fun K hK => ?_)
                    · skip
                      refine goes_ Try.func62 (by kernel_rfl) rfl #[.slice Ao36 t641.length co36, .string a1_0, .int .i64 a1_1] (by rfl) rfl rfl (by (try simp only [List.map_toArray, List.map_cons, List.map_nil]); first | done | rfl | (simp only [List.length_drop, List.length_take]; rfl)) ?_
                      with_reducible refine (metrolabref52_Error.calls k _ _ t641 a1_0 a1_1 t644 t645 t646 _ ?side1 ?side2 A8.out).mono ?_
                      (case side1 => repeat (first | exact (Kd.R_reads' HO643.out).2.2 | (with_reducible refine Kd.C_alloc ?_ _) | (with_reducible refine Kd.C_drewN ?_ _) | (with_reducible refine Kd.C_drew ?_)))
                      (case side2 => exact (Kd.R_reads' HO643.out).2.1)
                      rintro e w37 ⟨rfl, hb⟩
                      refine ⟨_, rfl, ?_⟩
                      have n0_ := Aside0.mk (Kd.R_below (by (with_reducible repeat (first | apply Kd.R_alloc | apply Kd.R_drewN | apply Kd.R_drew)); exact HO643.out) hb)
                      have n1_ := Aside0.mk (blk_below (g := gb633) (o := .cells #[.string a1_0, .int .i64 a1_1, .int .i64 a1_2] 51 (0, 0)) (by (with_reducible repeat (first | refine blk_drewN ?_ _ | refine blk_drew ?_ | refine blk_alloc ?_ _)); exact BK633.out) hb)
                      have n2_ := Aside0.mk (blk_below (g := gb634) (o := .cells #[.int .i64 a2_0, .int .i64 a2_1] 25 (0, 0)) (by (with_reducible repeat (first | refine blk_drewN ?_ _ | refine blk_drew ?_ | refine blk_alloc ?_ _)); exact BK634.out) hb)
                      have n3_ := Aside0.mk (blk_below (g := gb640) (o := .cells #[.int .i64 t637, .int .i64 t638] 25 (0, 0)) (by (with_reducible repeat (first | refine blk_drewN ?_ _ | refine blk_drew ?_ | refine blk_alloc ?_ _)); exact BK640.out) hb)
                      have n4_ := Aside0.mk (below_step (by repeat (first | (with_reducible first | exact HB.out | apply below_alloc | apply pw_below_drewN | apply below_drew1 | refine below_set ?_ GE633.out | refine below_set ?_ GE634.out | refine below_set ?_ GE640.out) | exact HB.out)) hb)
                      clear HO643
                      clear BK633
                      clear BK634
                      clear BK640
                      clear HB
                      have HO643 := n0_
                      have BK633 := n1_
                      have BK634 := n2_
                      have BK640 := n3_
                      have HB := n4_
                      clear n0_ n1_ n2_ n3_ n4_
                      (try clear hb)
                      (try clear hb2)
                      (try clear hk)
                      (try clear hi)
                      refine hK.out _ _ ⟨(blk_cell BK633.out 0).trans rfl, (blk_cell BK633.out 1).trans rfl, (blk_cell BK633.out 2).trans rfl⟩ (fun hHeld => ?_)
                      clear hK K
                      refine norm_ (a' := ?_) ?_ ?_
                      rotate_left
                      · show Act.put _ (some 41) _ = _
                        simp only [Act.put, List.setIfInBounds_toArray, List.set_cons_zero, List.set_cons_succ, i64_w, i32_w]
                        rfl
                      refine pure_ (i := 7) (N := some 34) (v := ?_) (a' := ?_) #[true, true, true, true, true, true, true, true, false, false, false, false, false] rfl rfl (any_of HT_.out (by kernel_rfl)) (fun _ _ _ h => h) (Or.inl ⟨by rfl, ?_⟩) ?_ ?_
                      rotate_left
                      · intro w'
                        go_simp
                        with_reducible rfl
                      rotate_left
                      · simp only [Act.put, List.setIfInBounds_toArray, List.set_cons_zero, List.set_cons_succ, i64_w, i32_w]
                        rfl
                      refine pure_ (i := 8) (N := some 42) (v := ?_) (a' := ?_) #[true, true, true, true, true, true, true, true, true, false, false, false, false] rfl rfl (any_of HT_.out (by kernel_rfl)) (fun _ _ _ h => h) (Or.inl ⟨by rfl, ?_⟩) ?_ ?_
                      rotate_left
                      · intro w'
                        go_simp
                        with_reducible rfl
                      rotate_left
                      · simp only [Act.put, List.setIfInBounds_toArray, List.set_cons_zero, List.set_cons_succ, i64_w, i32_w]
                        rfl
                      refine pure_ (i := 9) (N := some 43) (v := ?_) (a' := ?_) #[true, true, true, true, true, true, true, true, true, true, false, false, false] rfl rfl (any_of HT_.out (by kernel_rfl)) (fun _ _ _ h => h) (Or.inl ⟨by rfl, ?_⟩) ?_ ?_
                      rotate_left
                      · intro w'
                        go_simp
                        with_reducible rfl
                      rotate_left
                      · simp only [Act.put, List.setIfInBounds_toArray, List.set_cons_zero, List.set_cons_succ, i64_w, i32_w]
                        rfl
                      refine one_ (i := 10) (N := some 9) #[true, true, true, true, true, true, true, true, true, true, true, false, false] rfl rfl (one_of HT_.out (by kernel_rfl)) (by decide) (fun K hK => ?_)
                      refine box_step ?hg (N := 9) ?hd (cs := #[.int .i64 0, .int .i64 0]) (t := 25) ?hr ?_; (case hd => rfl); (case hg => rfl); (case hr => first | (go_simp; done) | (go_simp; rfl))
                      intro gb647 hg w38 hbox hb
                      have n0_ := Aside0.mk (Kd.R_below (by (with_reducible repeat (first | apply Kd.R_alloc | apply Kd.R_drewN | apply Kd.R_drew)); exact HO643.out) hb)
                      have n1_ := Aside0.mk (blk_below (g := gb633) (o := .cells #[.string a1_0, .int .i64 a1_1, .int .i64 a1_2] 51 (0, 0)) (by (with_reducible repeat (first | refine blk_drewN ?_ _ | refine blk_drew ?_ | refine blk_alloc ?_ _)); exact BK633.out) hb)
                      have n2_ := Aside0.mk (blk_below (g := gb634) (o := .cells #[.int .i64 a2_0, .int .i64 a2_1] 25 (0, 0)) (by (with_reducible repeat (first | refine blk_drewN ?_ _ | refine blk_drew ?_ | refine blk_alloc ?_ _)); exact BK634.out) hb)
                      have n3_ := Aside0.mk (blk_below (g := gb640) (o := .cells #[.int .i64 t637, .int .i64 t638] 25 (0, 0)) (by (with_reducible repeat (first | refine blk_drewN ?_ _ | refine blk_drew ?_ | refine blk_alloc ?_ _)); exact BK640.out) hb)
                      have n4_ := Aside0.mk (below_step (by repeat (first | (with_reducible first | exact HB.out | apply below_alloc | apply pw_below_drewN | apply below_drew1 | refine below_set ?_ GE633.out | refine below_set ?_ GE634.out | refine below_set ?_ GE640.out) | exact HB.out)) hb)
                      have n5_ := Aside0.mk (hbox)
                      have n6_ := Aside0.mk ((by rw [hg]; exact (below_size (by repeat (first | (with_reducible first | exact HB.out | apply below_alloc | apply pw_below_drewN | apply below_drew1 | refine below_set ?_ GE633.out | refine below_set ?_ GE634.out | refine below_set ?_ GE640.out) | exact HB.out))) : w.heap.size ≤ gb647))
                      have n7_ := Aside0.mk ((by rw [hg]; exact (below_size (by repeat (first | (with_reducible first | exact HB.out | apply below_alloc | apply pw_below_drewN | apply below_drew1 | refine below_set ?_ GE633.out | refine below_set ?_ GE634.out | refine below_set ?_ GE640.out) | exact HB.out))) : w.heap.size ≤ gb647))
                      have n8_ := Aside0.mk ((by rw [hg]; exact Nat.ne_of_lt (blk_lt (g := gb633) (o := .cells #[.string a1_0, .int .i64 a1_1, .int .i64 a1_2] 51 (0, 0)) (by (with_reducible repeat (first | refine blk_drewN ?_ _ | refine blk_drew ?_ | refine blk_alloc ?_ _)); exact BK633.out)) : gb633 ≠ gb647))
                      have n9_ := Aside0.mk ((by rw [hg]; exact Nat.ne_of_gt (blk_lt (g := gb633) (o := .cells #[.string a1_0, .int .i64 a1_1, .int .i64 a1_2] 51 (0, 0)) (by (with_reducible repeat (first | refine blk_drewN ?_ _ | refine blk_drew ?_ | refine blk_alloc ?_ _)); exact BK633.out)) : gb647 ≠ gb633))
                      have n10_ := Aside0.mk ((by rw [hg]; exact Nat.ne_of_lt (blk_lt (g := gb634) (o := .cells #[.int .i64 a2_0, .int .i64 a2_1] 25 (0, 0)) (by (with_reducible repeat (first | refine blk_drewN ?_ _ | refine blk_drew ?_ | refine blk_alloc ?_ _)); exact BK634.out)) : gb634 ≠ gb647))
                      have n11_ := Aside0.mk ((by rw [hg]; exact Nat.ne_of_gt (blk_lt (g := gb634) (o := .cells #[.int .i64 a2_0, .int .i64 a2_1] 25 (0, 0)) (by (with_reducible repeat (first | refine blk_drewN ?_ _ | refine blk_drew ?_ | refine blk_alloc ?_ _)); exact BK634.out)) : gb647 ≠ gb634))
                      have n12_ := Aside0.mk ((by rw [hg]; exact Nat.ne_of_lt (blk_lt (g := gb640) (o := .cells #[.int .i64 t637, .int .i64 t638] 25 (0, 0)) (by (with_reducible repeat (first | refine blk_drewN ?_ _ | refine blk_drew ?_ | refine blk_alloc ?_ _)); exact BK640.out)) : gb640 ≠ gb647))
                      have n13_ := Aside0.mk ((by rw [hg]; exact Nat.ne_of_gt (blk_lt (g := gb640) (o := .cells #[.int .i64 t637, .int .i64 t638] 25 (0, 0)) (by (with_reducible repeat (first | refine blk_drewN ?_ _ | refine blk_drew ?_ | refine blk_alloc ?_ _)); exact BK640.out)) : gb647 ≠ gb640))
                      clear HO643
                      clear BK633
                      clear BK634
                      clear BK640
                      clear HB
                      have HO643 := n0_
                      have BK633 := n1_
                      have BK634 := n2_
                      have BK640 := n3_
                      have HB := n4_
                      have BK647 := n5_
                      have GW647 := n6_
                      have GE647 := n7_
                      have NB633_647 := n8_
                      have NB647_633 := n9_
                      have NB634_647 := n10_
                      have NB647_634 := n11_
                      have NB640_647 := n12_
                      have NB647_640 := n13_
                      clear n0_ n1_ n2_ n3_ n4_ n5_ n6_ n7_ n8_ n9_ n10_ n11_ n12_ n13_
                      clear hb hbox hg
                      refine hK.out _ _ ⟨(blk_cell BK633.out 0).trans rfl, (blk_cell BK633.out 1).trans rfl, (blk_cell BK633.out 2).trans rfl⟩ (fun hHeld => ?_)
                      clear hK K
                      refine norm_ (a' := ?_) ?_ ?_
                      rotate_left
                      · show Act.put _ (some 9) _ = _
                        simp only [Act.put, List.setIfInBounds_toArray, List.set_cons_zero, List.set_cons_succ, i64_w, i32_w]
                        rfl
                      exact norm_ (by simp only [putAll, Act.put, List.setIfInBounds_toArray, List.set_cons_zero, List.set_cons_succ]) (hCont (.slice Ao36 t641.length co36, gb647) _ ⟨hHeld, (by (with_reducible repeat (first | apply Kd.R_alloc | apply Kd.R_drewN | apply Kd.R_drew)); exact HO643.out), (by (with_reducible repeat (first | refine blk_drewN ?_ _ | refine blk_drew ?_ | refine blk_alloc ?_ _)); exact BK633.out), (by (with_reducible repeat (first | refine blk_drewN ?_ _ | refine blk_drew ?_ | refine blk_alloc ?_ _)); exact BK634.out), (by (with_reducible repeat (first | refine blk_drewN ?_ _ | refine blk_drew ?_ | refine blk_alloc ?_ _)); exact BK640.out), (by (with_reducible repeat (first | refine blk_drewN ?_ _ | refine blk_drew ?_ | refine blk_alloc ?_ _)); exact BK647.out), GW647.out, GE647.out, NB633_647.out, NB647_633.out, NB634_647.out, NB647_634.out, NB640_647.out, NB647_640.out, (by repeat (first | (with_reducible first | exact HB.out | apply below_alloc | apply pw_below_drewN | apply below_drew1 | refine below_set ?_ GE633.out | refine below_set ?_ GE634.out | refine below_set ?_ GE640.out | refine below_set ?_ GE647.out) | exact HB.out))⟩)
                    · skip
                      refine box_step ?hg (N := 9) ?hd (cs := #[.int .i64 0, .int .i64 0]) (t := 25) ?hr ?_; (case hd => rfl); (case hg => rfl); (case hr => first | (go_simp; done) | (go_simp; rfl))
                      intro gb647 hg w36 hbox hb
                      have n0_ := Aside0.mk (Kd.R_below (by (with_reducible repeat (first | apply Kd.R_alloc | apply Kd.R_drewN | apply Kd.R_drew)); exact HO643.out) hb)
                      have n1_ := Aside0.mk (blk_below (g := gb633) (o := .cells #[.string a1_0, .int .i64 a1_1, .int .i64 a1_2] 51 (0, 0)) (by (with_reducible repeat (first | refine blk_drewN ?_ _ | refine blk_drew ?_ | refine blk_alloc ?_ _)); exact BK633.out) hb)
                      have n2_ := Aside0.mk (blk_below (g := gb634) (o := .cells #[.int .i64 a2_0, .int .i64 a2_1] 25 (0, 0)) (by (with_reducible repeat (first | refine blk_drewN ?_ _ | refine blk_drew ?_ | refine blk_alloc ?_ _)); exact BK634.out) hb)
                      have n3_ := Aside0.mk (blk_below (g := gb640) (o := .cells #[.int .i64 t637, .int .i64 t638] 25 (0, 0)) (by (with_reducible repeat (first | refine blk_drewN ?_ _ | refine blk_drew ?_ | refine blk_alloc ?_ _)); exact BK640.out) hb)
                      have n4_ := Aside0.mk (below_step (by repeat (first | (with_reducible first | exact HB.out | apply below_alloc | apply pw_below_drewN | apply below_drew1 | refine below_set ?_ GE633.out | refine below_set ?_ GE634.out | refine below_set ?_ GE640.out) | exact HB.out)) hb)
                      have n5_ := Aside0.mk (hbox)
                      have n6_ := Aside0.mk ((by rw [hg]; exact (below_size (by repeat (first | (with_reducible first | exact HB.out | apply below_alloc | apply pw_below_drewN | apply below_drew1 | refine below_set ?_ GE633.out | refine below_set ?_ GE634.out | refine below_set ?_ GE640.out) | exact HB.out))) : w.heap.size ≤ gb647))
                      have n7_ := Aside0.mk ((by rw [hg]; exact (below_size (by repeat (first | (with_reducible first | exact HB.out | apply below_alloc | apply pw_below_drewN | apply below_drew1 | refine below_set ?_ GE633.out | refine below_set ?_ GE634.out | refine below_set ?_ GE640.out) | exact HB.out))) : w.heap.size ≤ gb647))
                      have n8_ := Aside0.mk ((by rw [hg]; exact Nat.ne_of_lt (blk_lt (g := gb633) (o := .cells #[.string a1_0, .int .i64 a1_1, .int .i64 a1_2] 51 (0, 0)) (by (with_reducible repeat (first | refine blk_drewN ?_ _ | refine blk_drew ?_ | refine blk_alloc ?_ _)); exact BK633.out)) : gb633 ≠ gb647))
                      have n9_ := Aside0.mk ((by rw [hg]; exact Nat.ne_of_gt (blk_lt (g := gb633) (o := .cells #[.string a1_0, .int .i64 a1_1, .int .i64 a1_2] 51 (0, 0)) (by (with_reducible repeat (first | refine blk_drewN ?_ _ | refine blk_drew ?_ | refine blk_alloc ?_ _)); exact BK633.out)) : gb647 ≠ gb633))
                      have n10_ := Aside0.mk ((by rw [hg]; exact Nat.ne_of_lt (blk_lt (g := gb634) (o := .cells #[.int .i64 a2_0, .int .i64 a2_1] 25 (0, 0)) (by (with_reducible repeat (first | refine blk_drewN ?_ _ | refine blk_drew ?_ | refine blk_alloc ?_ _)); exact BK634.out)) : gb634 ≠ gb647))
                      have n11_ := Aside0.mk ((by rw [hg]; exact Nat.ne_of_gt (blk_lt (g := gb634) (o := .cells #[.int .i64 a2_0, .int .i64 a2_1] 25 (0, 0)) (by (with_reducible repeat (first | refine blk_drewN ?_ _ | refine blk_drew ?_ | refine blk_alloc ?_ _)); exact BK634.out)) : gb647 ≠ gb634))
                      have n12_ := Aside0.mk ((by rw [hg]; exact Nat.ne_of_lt (blk_lt (g := gb640) (o := .cells #[.int .i64 t637, .int .i64 t638] 25 (0, 0)) (by (with_reducible repeat (first | refine blk_drewN ?_ _ | refine blk_drew ?_ | refine blk_alloc ?_ _)); exact BK640.out)) : gb640 ≠ gb647))
                      have n13_ := Aside0.mk ((by rw [hg]; exact Nat.ne_of_gt (blk_lt (g := gb640) (o := .cells #[.int .i64 t637, .int .i64 t638] 25 (0, 0)) (by (with_reducible repeat (first | refine blk_drewN ?_ _ | refine blk_drew ?_ | refine blk_alloc ?_ _)); exact BK640.out)) : gb647 ≠ gb640))
                      clear HO643
                      clear BK633
                      clear BK634
                      clear BK640
                      clear HB
                      have HO643 := n0_
                      have BK633 := n1_
                      have BK634 := n2_
                      have BK640 := n3_
                      have HB := n4_
                      have BK647 := n5_
                      have GW647 := n6_
                      have GE647 := n7_
                      have NB633_647 := n8_
                      have NB647_633 := n9_
                      have NB634_647 := n10_
                      have NB647_634 := n11_
                      have NB640_647 := n12_
                      have NB647_640 := n13_
                      clear n0_ n1_ n2_ n3_ n4_ n5_ n6_ n7_ n8_ n9_ n10_ n11_ n12_ n13_
                      clear hb hbox hg
                      obtain ⟨Ao37, co37, eo37⟩ := Kd.R_slice HO643.out
                      (first | subst eo37 | (injection eo37 with f1_ f2_ f3_; have f4_ := f1_.symm; have f5_ := f3_.symm; clear f1_ f2_ f3_; subst f4_; subst f5_))
                      refine hK.out _ _ ⟨(blk_cell BK633.out 0).trans rfl, (blk_cell BK633.out 1).trans rfl, (blk_cell BK633.out 2).trans rfl⟩ (fun hHeld => ?_)
                      clear hK K
                      refine norm_ (a' := ?_) ?_ ?_
                      rotate_left
                      · show Act.put _ (some 9) _ = _
                        simp only [Act.put, List.setIfInBounds_toArray, List.set_cons_zero, List.set_cons_succ, i64_w, i32_w]
                        rfl
                      refine one_ (i := 6) (N := some 41) #[true, true, true, true, true, true, true, false, false, false, true, false, false] rfl rfl (one_of HT_.out (by kernel_rfl)) (by decide) (fun K hK => ?_)
                      refine goes_ Try.func62 (by kernel_rfl) rfl #[.slice Ao37 t641.length co37, .string a1_0, .int .i64 a1_1] (by rfl) rfl rfl (by (try simp only [List.map_toArray, List.map_cons, List.map_nil]); first | done | rfl | (simp only [List.length_drop, List.length_take]; rfl)) ?_
                      with_reducible refine (metrolabref52_Error.calls k _ _ t641 a1_0 a1_1 t644 t645 t646 _ ?side1 ?side2 A8.out).mono ?_
                      (case side1 => repeat (first | exact (Kd.R_reads' HO643.out).2.2 | (with_reducible refine Kd.C_alloc ?_ _) | (with_reducible refine Kd.C_drewN ?_ _) | (with_reducible refine Kd.C_drew ?_)))
                      (case side2 => exact (Kd.R_reads' HO643.out).2.1)
                      rintro e w38 ⟨rfl, hb⟩
                      refine ⟨_, rfl, ?_⟩
                      have n0_ := Aside0.mk (Kd.R_below (by (with_reducible repeat (first | apply Kd.R_alloc | apply Kd.R_drewN | apply Kd.R_drew)); exact HO643.out) hb)
                      have n1_ := Aside0.mk (blk_below (g := gb633) (o := .cells #[.string a1_0, .int .i64 a1_1, .int .i64 a1_2] 51 (0, 0)) (by (with_reducible repeat (first | refine blk_drewN ?_ _ | refine blk_drew ?_ | refine blk_alloc ?_ _)); exact BK633.out) hb)
                      have n2_ := Aside0.mk (blk_below (g := gb634) (o := .cells #[.int .i64 a2_0, .int .i64 a2_1] 25 (0, 0)) (by (with_reducible repeat (first | refine blk_drewN ?_ _ | refine blk_drew ?_ | refine blk_alloc ?_ _)); exact BK634.out) hb)
                      have n3_ := Aside0.mk (blk_below (g := gb640) (o := .cells #[.int .i64 t637, .int .i64 t638] 25 (0, 0)) (by (with_reducible repeat (first | refine blk_drewN ?_ _ | refine blk_drew ?_ | refine blk_alloc ?_ _)); exact BK640.out) hb)
                      have n4_ := Aside0.mk (blk_below (g := gb647) (o := .cells #[.int .i64 0, .int .i64 0] 25 (0, 0)) (by (with_reducible repeat (first | refine blk_drewN ?_ _ | refine blk_drew ?_ | refine blk_alloc ?_ _)); exact BK647.out) hb)
                      have n5_ := Aside0.mk (below_step (by repeat (first | (with_reducible first | exact HB.out | apply below_alloc | apply pw_below_drewN | apply below_drew1 | refine below_set ?_ GE633.out | refine below_set ?_ GE634.out | refine below_set ?_ GE640.out | refine below_set ?_ GE647.out) | exact HB.out)) hb)
                      clear HO643
                      clear BK633
                      clear BK634
                      clear BK640
                      clear BK647
                      clear HB
                      have HO643 := n0_
                      have BK633 := n1_
                      have BK634 := n2_
                      have BK640 := n3_
                      have BK647 := n4_
                      have HB := n5_
                      clear n0_ n1_ n2_ n3_ n4_ n5_
                      (try clear hb)
                      (try clear hb2)
                      (try clear hk)
                      (try clear hi)
                      refine hK.out _ _ ⟨(blk_cell BK633.out 0).trans rfl, (blk_cell BK633.out 1).trans rfl, (blk_cell BK633.out 2).trans rfl⟩ (fun hHeld => ?_)
                      clear hK K
                      refine norm_ (a' := ?_) ?_ ?_
                      rotate_left
                      · show Act.put _ (some 41) _ = _
                        simp only [Act.put, List.setIfInBounds_toArray, List.set_cons_zero, List.set_cons_succ, i64_w, i32_w]
                        rfl
                      refine pure_ (i := 7) (N := some 34) (v := ?_) (a' := ?_) #[true, true, true, true, true, true, true, true, false, false, true, false, false] rfl rfl (any_of HT_.out (by kernel_rfl)) (fun _ _ _ h => h) (Or.inl ⟨by rfl, ?_⟩) ?_ ?_
                      rotate_left
                      · intro w'
                        go_simp
                        with_reducible rfl
                      rotate_left
                      · simp only [Act.put, List.setIfInBounds_toArray, List.set_cons_zero, List.set_cons_succ, i64_w, i32_w]
                        rfl
                      refine pure_ (i := 8) (N := some 42) (v := ?_) (a' := ?_) #[true, true, true, true, true, true, true, true, true, false, true, false, false] rfl rfl (any_of HT_.out (by kernel_rfl)) (fun _ _ _ h => h) (Or.inl ⟨by rfl, ?_⟩) ?_ ?_
                      rotate_left
                      · intro w'
                        go_simp
                        with_reducible rfl
                      rotate_left
                      · simp only [Act.put, List.setIfInBounds_toArray, List.set_cons_zero, List.set_cons_succ, i64_w, i32_w]
                        rfl
                      refine pure_ (i := 9) (N := some 43) (v := ?_) (a' := ?_) #[true, true, true, true, true, true, true, true, true, true, true, false, false] rfl rfl (any_of HT_.out (by kernel_rfl)) (fun _ _ _ h => h) (Or.inl ⟨by rfl, ?_⟩) ?_ ?_
                      rotate_left
                      · intro w'
                        go_simp
                        with_reducible rfl
                      rotate_left
                      · simp only [Act.put, List.setIfInBounds_toArray, List.set_cons_zero, List.set_cons_succ, i64_w, i32_w]
                        rfl
                      exact norm_ (by simp only [putAll, Act.put, List.setIfInBounds_toArray, List.set_cons_zero, List.set_cons_succ]) (hCont (.slice Ao37 t641.length co37, gb647) _ ⟨hHeld, (by (with_reducible repeat (first | apply Kd.R_alloc | apply Kd.R_drewN | apply Kd.R_drew)); exact HO643.out), (by (with_reducible repeat (first | refine blk_drewN ?_ _ | refine blk_drew ?_ | refine blk_alloc ?_ _)); exact BK633.out), (by (with_reducible repeat (first | refine blk_drewN ?_ _ | refine blk_drew ?_ | refine blk_alloc ?_ _)); exact BK634.out), (by (with_reducible repeat (first | refine blk_drewN ?_ _ | refine blk_drew ?_ | refine blk_alloc ?_ _)); exact BK640.out), (by (with_reducible repeat (first | refine blk_drewN ?_ _ | refine blk_drew ?_ | refine blk_alloc ?_ _)); exact BK647.out), GW647.out, GE647.out, NB633_647.out, NB647_633.out, NB634_647.out, NB647_634.out, NB640_647.out, NB647_640.out, (by repeat (first | (with_reducible first | exact HB.out | apply below_alloc | apply pw_below_drewN | apply below_drew1 | refine below_set ?_ GE633.out | refine below_set ?_ GE634.out | refine below_set ?_ GE640.out | refine below_set ?_ GE647.out) | exact HB.out))⟩)
                  · skip
                    refine box_step ?hg (N := 9) ?hd (cs := #[.int .i64 0, .int .i64 0]) (t := 25) ?hr ?_; (case hd => rfl); (case hg => rfl); (case hr => first | (go_simp; done) | (go_simp; rfl))
                    intro gb647 hg w35 hbox hb
                    have n0_ := Aside0.mk (blk_below (g := gb633) (o := .cells #[.string a1_0, .int .i64 a1_1, .int .i64 a1_2] 51 (0, 0)) (by (with_reducible repeat (first | refine blk_drewN ?_ _ | refine blk_drew ?_ | refine blk_alloc ?_ _)); exact BK633.out) hb)
                    have n1_ := Aside0.mk (blk_below (g := gb634) (o := .cells #[.int .i64 a2_0, .int .i64 a2_1] 25 (0, 0)) (by (with_reducible repeat (first | refine blk_drewN ?_ _ | refine blk_drew ?_ | refine blk_alloc ?_ _)); exact BK634.out) hb)
                    have n2_ := Aside0.mk (blk_below (g := gb640) (o := .cells #[.int .i64 t637, .int .i64 t638] 25 (0, 0)) (by (with_reducible repeat (first | refine blk_drewN ?_ _ | refine blk_drew ?_ | refine blk_alloc ?_ _)); exact BK640.out) hb)
                    have n3_ := Aside0.mk (below_step (by repeat (first | (with_reducible first | exact HB.out | apply below_alloc | apply pw_below_drewN | apply below_drew1 | refine below_set ?_ GE633.out | refine below_set ?_ GE634.out | refine below_set ?_ GE640.out) | exact HB.out)) hb)
                    have n4_ := Aside0.mk (hbox)
                    have n5_ := Aside0.mk ((by rw [hg]; exact (below_size (by repeat (first | (with_reducible first | exact HB.out | apply below_alloc | apply pw_below_drewN | apply below_drew1 | refine below_set ?_ GE633.out | refine below_set ?_ GE634.out | refine below_set ?_ GE640.out) | exact HB.out))) : w.heap.size ≤ gb647))
                    have n6_ := Aside0.mk ((by rw [hg]; exact (below_size (by repeat (first | (with_reducible first | exact HB.out | apply below_alloc | apply pw_below_drewN | apply below_drew1 | refine below_set ?_ GE633.out | refine below_set ?_ GE634.out | refine below_set ?_ GE640.out) | exact HB.out))) : w.heap.size ≤ gb647))
                    have n7_ := Aside0.mk ((by rw [hg]; exact Nat.ne_of_lt (blk_lt (g := gb633) (o := .cells #[.string a1_0, .int .i64 a1_1, .int .i64 a1_2] 51 (0, 0)) (by (with_reducible repeat (first | refine blk_drewN ?_ _ | refine blk_drew ?_ | refine blk_alloc ?_ _)); exact BK633.out)) : gb633 ≠ gb647))
                    have n8_ := Aside0.mk ((by rw [hg]; exact Nat.ne_of_gt (blk_lt (g := gb633) (o := .cells #[.string a1_0, .int .i64 a1_1, .int .i64 a1_2] 51 (0, 0)) (by (with_reducible repeat (first | refine blk_drewN ?_ _ | refine blk_drew ?_ | refine blk_alloc ?_ _)); exact BK633.out)) : gb647 ≠ gb633))
                    have n9_ := Aside0.mk ((by rw [hg]; exact Nat.ne_of_lt (blk_lt (g := gb634) (o := .cells #[.int .i64 a2_0, .int .i64 a2_1] 25 (0, 0)) (by (with_reducible repeat (first | refine blk_drewN ?_ _ | refine blk_drew ?_ | refine blk_alloc ?_ _)); exact BK634.out)) : gb634 ≠ gb647))
                    have n10_ := Aside0.mk ((by rw [hg]; exact Nat.ne_of_gt (blk_lt (g := gb634) (o := .cells #[.int .i64 a2_0, .int .i64 a2_1] 25 (0, 0)) (by (with_reducible repeat (first | refine blk_drewN ?_ _ | refine blk_drew ?_ | refine blk_alloc ?_ _)); exact BK634.out)) : gb647 ≠ gb634))
                    have n11_ := Aside0.mk ((by rw [hg]; exact Nat.ne_of_lt (blk_lt (g := gb640) (o := .cells #[.int .i64 t637, .int .i64 t638] 25 (0, 0)) (by (with_reducible repeat (first | refine blk_drewN ?_ _ | refine blk_drew ?_ | refine blk_alloc ?_ _)); exact BK640.out)) : gb640 ≠ gb647))
                    have n12_ := Aside0.mk ((by rw [hg]; exact Nat.ne_of_gt (blk_lt (g := gb640) (o := .cells #[.int .i64 t637, .int .i64 t638] 25 (0, 0)) (by (with_reducible repeat (first | refine blk_drewN ?_ _ | refine blk_drew ?_ | refine blk_alloc ?_ _)); exact BK640.out)) : gb647 ≠ gb640))
                    clear BK633
                    clear BK634
                    clear BK640
                    clear HB
                    have BK633 := n0_
                    have BK634 := n1_
                    have BK640 := n2_
                    have HB := n3_
                    have BK647 := n4_
                    have GW647 := n5_
                    have GE647 := n6_
                    have NB633_647 := n7_
                    have NB647_633 := n8_
                    have NB634_647 := n9_
                    have NB647_634 := n10_
                    have NB640_647 := n11_
                    have NB647_640 := n12_
                    clear n0_ n1_ n2_ n3_ n4_ n5_ n6_ n7_ n8_ n9_ n10_ n11_ n12_
                    clear hb hbox hg
                    refine hK.out _ _ ⟨(blk_cell BK633.out 0).trans rfl, (blk_cell BK633.out 1).trans rfl, (blk_cell BK633.out 2).trans rfl⟩ (fun hHeld => ?_)
                    clear hK K
                    refine norm_ (a' := ?_) ?_ ?_
                    rotate_left
                    · show Act.put _ (some 9) _ = _
                      simp only [Act.put, List.setIfInBounds_toArray, List.set_cons_zero, List.set_cons_succ, i64_w, i32_w]
                      rfl
                    refine one_ (i := 1) (N := some 36) #[true, true, true, true, true, true, false, false, false, false, true, false, false] rfl rfl (one_of HT_.out (by kernel_rfl)) (by decide) (fun K hK => ?_)
                    refine goes_ Try.func37 (by kernel_rfl) rfl #[.slice A0 l0.length c0] (by rfl) rfl rfl (by (try simp only [List.map_toArray, List.map_cons, List.map_nil]); first | done | rfl | (simp only [List.length_drop, List.length_take]; rfl)) ?_
                    with_reducible refine (metrolablaw52_own.calls k _ _ l0 t641 _ ?side1 ?side2 A7.out).mono ?_
                    (case side1 => repeat (first | exact (Kd.C_below HR0.out HB.out) | (with_reducible refine Kd.C_alloc ?_ _) | (with_reducible refine Kd.C_drewN ?_ _) | (with_reducible refine Kd.C_drew ?_)))
                    (case side2 => exact HC0.out)
                    rintro e w36 ⟨v642, rfl, ho0, hb⟩
                    refine ⟨_, rfl, ?_⟩
                    have n0_ := Aside0.mk (Kd.R_lower ho0 (below_size (by repeat (first | (with_reducible first | exact HB.out | apply below_alloc | apply pw_below_drewN | apply below_drew1 | refine below_set ?_ GE633.out | refine below_set ?_ GE634.out | refine below_set ?_ GE640.out | refine below_set ?_ GE647.out) | exact HB.out))))
                    have n1_ := Aside0.mk (blk_below (g := gb633) (o := .cells #[.string a1_0, .int .i64 a1_1, .int .i64 a1_2] 51 (0, 0)) (by (with_reducible repeat (first | refine blk_drewN ?_ _ | refine blk_drew ?_ | refine blk_alloc ?_ _)); exact BK633.out) hb)
                    have n2_ := Aside0.mk (blk_below (g := gb634) (o := .cells #[.int .i64 a2_0, .int .i64 a2_1] 25 (0, 0)) (by (with_reducible repeat (first | refine blk_drewN ?_ _ | refine blk_drew ?_ | refine blk_alloc ?_ _)); exact BK634.out) hb)
                    have n3_ := Aside0.mk (blk_below (g := gb640) (o := .cells #[.int .i64 t637, .int .i64 t638] 25 (0, 0)) (by (with_reducible repeat (first | refine blk_drewN ?_ _ | refine blk_drew ?_ | refine blk_alloc ?_ _)); exact BK640.out) hb)
                    have n4_ := Aside0.mk (blk_below (g := gb647) (o := .cells #[.int .i64 0, .int .i64 0] 25 (0, 0)) (by (with_reducible repeat (first | refine blk_drewN ?_ _ | refine blk_drew ?_ | refine blk_alloc ?_ _)); exact BK647.out) hb)
                    have n5_ := Aside0.mk (below_step (by repeat (first | (with_reducible first | exact HB.out | apply below_alloc | apply pw_below_drewN | apply below_drew1 | refine below_set ?_ GE633.out | refine below_set ?_ GE634.out | refine below_set ?_ GE640.out | refine below_set ?_ GE647.out) | exact HB.out)) hb)
                    clear BK633
                    clear BK634
                    clear BK640
                    clear BK647
                    clear HB
                    have HO643 := n0_
                    have BK633 := n1_
                    have BK634 := n2_
                    have BK640 := n3_
                    have BK647 := n4_
                    have HB := n5_
                    clear n0_ n1_ n2_ n3_ n4_ n5_
                    (try clear hb)
                    (try clear hb2)
                    (try clear hk)
                    (try clear hi)
                    (try clear ho0)
                    obtain ⟨Ao37, co37, eo37⟩ := Kd.R_slice HO643.out
                    (first | subst eo37 | (injection eo37 with f1_ f2_ f3_; have f4_ := f1_.symm; have f5_ := f3_.symm; clear f1_ f2_ f3_; subst f4_; subst f5_))
                    refine hK.out _ _ ⟨(blk_cell BK633.out 0).trans rfl, (blk_cell BK633.out 1).trans rfl, (blk_cell BK633.out 2).trans rfl⟩ (fun hHeld => ?_)
                    clear hK K
                    refine norm_ (a' := ?_) ?_ ?_
                    rotate_left
                    · show Act.put _ (some 36) _ = _
                      simp only [Act.put, List.setIfInBounds_toArray, List.set_cons_zero, List.set_cons_succ, i64_w, i32_w]
                      rfl
                    refine one_ (i := 6) (N := some 41) #[true, true, true, true, true, true, true, false, false, false, true, false, false] rfl rfl (one_of HT_.out (by kernel_rfl)) (by decide) (fun K hK => ?_)
                    refine goes_ Try.func62 (by kernel_rfl) rfl #[.slice Ao37 t641.length co37, .string a1_0, .int .i64 a1_1] (by rfl) rfl rfl (by (try simp only [List.map_toArray, List.map_cons, List.map_nil]); first | done | rfl | (simp only [List.length_drop, List.length_take]; rfl)) ?_
                    with_reducible refine (metrolabref52_Error.calls k _ _ t641 a1_0 a1_1 t644 t645 t646 _ ?side1 ?side2 A8.out).mono ?_
                    (case side1 => repeat (first | exact (Kd.R_reads' HO643.out).2.2 | (with_reducible refine Kd.C_alloc ?_ _) | (with_reducible refine Kd.C_drewN ?_ _) | (with_reducible refine Kd.C_drew ?_)))
                    (case side2 => exact (Kd.R_reads' HO643.out).2.1)
                    rintro e w38 ⟨rfl, hb⟩
                    refine ⟨_, rfl, ?_⟩
                    have n0_ := Aside0.mk (Kd.R_below (by (with_reducible repeat (first | apply Kd.R_alloc | apply Kd.R_drewN | apply Kd.R_drew)); exact HO643.out) hb)
                    have n1_ := Aside0.mk (blk_below (g := gb633) (o := .cells #[.string a1_0, .int .i64 a1_1, .int .i64 a1_2] 51 (0, 0)) (by (with_reducible repeat (first | refine blk_drewN ?_ _ | refine blk_drew ?_ | refine blk_alloc ?_ _)); exact BK633.out) hb)
                    have n2_ := Aside0.mk (blk_below (g := gb634) (o := .cells #[.int .i64 a2_0, .int .i64 a2_1] 25 (0, 0)) (by (with_reducible repeat (first | refine blk_drewN ?_ _ | refine blk_drew ?_ | refine blk_alloc ?_ _)); exact BK634.out) hb)
                    have n3_ := Aside0.mk (blk_below (g := gb640) (o := .cells #[.int .i64 t637, .int .i64 t638] 25 (0, 0)) (by (with_reducible repeat (first | refine blk_drewN ?_ _ | refine blk_drew ?_ | refine blk_alloc ?_ _)); exact BK640.out) hb)
                    have n4_ := Aside0.mk (blk_below (g := gb647) (o := .cells #[.int .i64 0, .int .i64 0] 25 (0, 0)) (by (with_reducible repeat (first | refine blk_drewN ?_ _ | refine blk_drew ?_ | refine blk_alloc ?_ _)); exact BK647.out) hb)
                    have n5_ := Aside0.mk (below_step (by repeat (first | (with_reducible first | exact HB.out | apply below_alloc | apply pw_below_drewN | apply below_drew1 | refine below_set ?_ GE633.out | refine below_set ?_ GE634.out | refine below_set ?_ GE640.out | refine below_set ?_ GE647.out) | exact HB.out)) hb)
                    clear HO643
                    clear BK633
                    clear BK634
                    clear BK640
                    clear BK647
                    clear HB
                    have HO643 := n0_
                    have BK633 := n1_
                    have BK634 := n2_
                    have BK640 := n3_
                    have BK647 := n4_
                    have HB := n5_
                    clear n0_ n1_ n2_ n3_ n4_ n5_
                    (try clear hb)
                    (try clear hb2)
                    (try clear hk)
                    (try clear hi)
                    refine hK.out _ _ ⟨(blk_cell BK633.out 0).trans rfl, (blk_cell BK633.out 1).trans rfl, (blk_cell BK633.out 2).trans rfl⟩ (fun hHeld => ?_)
                    clear hK K
                    refine norm_ (a' := ?_) ?_ ?_
                    rotate_left
                    · show Act.put _ (some 41) _ = _
                      simp only [Act.put, List.setIfInBounds_toArray, List.set_cons_zero, List.set_cons_succ, i64_w, i32_w]
                      rfl
                    refine pure_ (i := 7) (N := some 34) (v := ?_) (a' := ?_) #[true, true, true, true, true, true, true, true, false, false, true, false, false] rfl rfl (any_of HT_.out (by kernel_rfl)) (fun _ _ _ h => h) (Or.inl ⟨by rfl, ?_⟩) ?_ ?_
                    rotate_left
                    · intro w'
                      go_simp
                      with_reducible rfl
                    rotate_left
                    · simp only [Act.put, List.setIfInBounds_toArray, List.set_cons_zero, List.set_cons_succ, i64_w, i32_w]
                      rfl
                    refine pure_ (i := 8) (N := some 42) (v := ?_) (a' := ?_) #[true, true, true, true, true, true, true, true, true, false, true, false, false] rfl rfl (any_of HT_.out (by kernel_rfl)) (fun _ _ _ h => h) (Or.inl ⟨by rfl, ?_⟩) ?_ ?_
                    rotate_left
                    · intro w'
                      go_simp
                      with_reducible rfl
                    rotate_left
                    · simp only [Act.put, List.setIfInBounds_toArray, List.set_cons_zero, List.set_cons_succ, i64_w, i32_w]
                      rfl
                    refine pure_ (i := 9) (N := some 43) (v := ?_) (a' := ?_) #[true, true, true, true, true, true, true, true, true, true, true, false, false] rfl rfl (any_of HT_.out (by kernel_rfl)) (fun _ _ _ h => h) (Or.inl ⟨by rfl, ?_⟩) ?_ ?_
                    rotate_left
                    · intro w'
                      go_simp
                      with_reducible rfl
                    rotate_left
                    · simp only [Act.put, List.setIfInBounds_toArray, List.set_cons_zero, List.set_cons_succ, i64_w, i32_w]
                      rfl
                    exact norm_ (by simp only [putAll, Act.put, List.setIfInBounds_toArray, List.set_cons_zero, List.set_cons_succ]) (hCont (.slice Ao37 t641.length co37, gb647) _ ⟨hHeld, (by (with_reducible repeat (first | apply Kd.R_alloc | apply Kd.R_drewN | apply Kd.R_drew)); exact HO643.out), (by (with_reducible repeat (first | refine blk_drewN ?_ _ | refine blk_drew ?_ | refine blk_alloc ?_ _)); exact BK633.out), (by (with_reducible repeat (first | refine blk_drewN ?_ _ | refine blk_drew ?_ | refine blk_alloc ?_ _)); exact BK634.out), (by (with_reducible repeat (first | refine blk_drewN ?_ _ | refine blk_drew ?_ | refine blk_alloc ?_ _)); exact BK640.out), (by (with_reducible repeat (first | refine blk_drewN ?_ _ | refine blk_drew ?_ | refine blk_alloc ?_ _)); exact BK647.out), GW647.out, GE647.out, NB633_647.out, NB647_633.out, NB634_647.out, NB647_634.out, NB640_647.out, NB647_640.out, (by repeat (first | (with_reducible first | exact HB.out | apply below_alloc | apply pw_below_drewN | apply below_drew1 | refine below_set ?_ GE633.out | refine below_set ?_ GE634.out | refine below_set ?_ GE640.out | refine below_set ?_ GE647.out) | exact HB.out))⟩)
                rintro ⟨v642, gb647⟩ w39 ⟨hS_, h0_, h1_, h2_, h3_, h4_, h5_, h6_, h7_, h8_, h9_, h10_, h11_, h12_, h13_⟩
                have n0_ : Aside0 (Kd.R k121 121 w39 w.heap.size (fun _ => True) v642 t641) := ⟨h0_⟩
                have n1_ : Aside0 (w39.heap[gb633]? = some (.cells #[.string a1_0, .int .i64 a1_1, .int .i64 a1_2] 51 (0, 0))) := ⟨h1_⟩
                have n2_ : Aside0 (w39.heap[gb634]? = some (.cells #[.int .i64 a2_0, .int .i64 a2_1] 25 (0, 0))) := ⟨h2_⟩
                have n3_ : Aside0 (w39.heap[gb640]? = some (.cells #[.int .i64 t637, .int .i64 t638] 25 (0, 0))) := ⟨h3_⟩
                have n4_ : Aside0 (w39.heap[gb647]? = some (.cells #[.int .i64 0, .int .i64 0] 25 (0, 0))) := ⟨h4_⟩
                have n5_ : Aside0 (w.heap.size ≤ gb647) := ⟨h5_⟩
                have n6_ : Aside0 (w.heap.size ≤ gb647) := ⟨h6_⟩
                have n7_ : Aside0 (gb633 ≠ gb647) := ⟨h7_⟩
                have n8_ : Aside0 (gb647 ≠ gb633) := ⟨h8_⟩
                have n9_ : Aside0 (gb634 ≠ gb647) := ⟨h9_⟩
                have n10_ : Aside0 (gb647 ≠ gb634) := ⟨h10_⟩
                have n11_ : Aside0 (gb640 ≠ gb647) := ⟨h11_⟩
                have n12_ : Aside0 (gb647 ≠ gb640) := ⟨h12_⟩
                have n13_ : Aside0 (Below w.heap.size w w39) := ⟨h13_⟩
                clear BK633
                clear BK634
                clear BK640
                clear HB
                clear h0_ h1_ h2_ h3_ h4_ h5_ h6_ h7_ h8_ h9_ h10_ h11_ h12_ h13_
                have HO643 := n0_
                have BK633 := n1_
                have BK634 := n2_
                have BK640 := n3_
                have BK647 := n4_
                have GW647 := n5_
                have GE647 := n6_
                have NB633_647 := n7_
                have NB647_633 := n8_
                have NB634_647 := n9_
                have NB647_634 := n10_
                have NB640_647 := n11_
                have NB647_640 := n12_
                have HB := n13_
                clear n0_ n1_ n2_ n3_ n4_ n5_ n6_ n7_ n8_ n9_ n10_ n11_ n12_ n13_
                have hHeld : w39.cell? ⟨gb633, 0, none⟩ = some (.string a1_0) ∧ w39.cell? ⟨gb633, 1, none⟩ = some (.int .i64 a1_1) ∧ w39.cell? ⟨gb633, 2, none⟩ = some (.int .i64 a1_2) := hS_
                refine norm_ (a' := ?_) ?_ ?_
                rotate_left
                · simp only [putAll, Act.put, List.setIfInBounds_toArray, List.set_cons_zero, List.set_cons_succ]
                  rfl
                refine one_ (i := 11) (N := none) #[true, true, true, true, true, true, true, true, true, true, true, true, false] rfl rfl (one_of HT_.out (by kernel_rfl)) (by decide) (fun K hK => ?_)
                have hs40 : w39.cell? ⟨gb647, 0, none⟩ = some (.int .i64 0) := (blk_cell BK647.out 0).trans rfl
                have hfs40 := blk_frozen BK647.out 0
                have hns40_0 := NB633_647.out
                have hns40_1 := NB634_647.out
                have hns40_2 := NB640_647.out
                have hms40_0 := NB647_633.out
                have hms40_1 := NB647_634.out
                have hms40_2 := NB647_640.out
                have hs41 : w39.cell? ⟨gb647, 1, none⟩ = some (.int .i64 0) := (blk_cell BK647.out 1).trans rfl
                have hfs41 := blk_frozen BK647.out 1
                have hns41_0 := NB633_647.out
                have hns41_1 := NB634_647.out
                have hns41_2 := NB640_647.out
                have hms41_0 := NB647_633.out
                have hms41_1 := NB647_634.out
                have hms41_2 := NB647_640.out
                refine skip_ (w1 := ?_) (by rfl) rfl ?_ ?_
                rotate_left
                · go_simp
                  rfl
                refine hK.out _ _ ⟨((cell_far (p := ⟨gb647, _, none⟩) NB633_647.out _).trans (((cell_far (p := ⟨gb647, _, none⟩) NB633_647.out _).trans (hHeld.1)))), ((cell_far (p := ⟨gb647, _, none⟩) NB633_647.out _).trans (((cell_far (p := ⟨gb647, _, none⟩) NB633_647.out _).trans (hHeld.2.1)))), ((cell_far (p := ⟨gb647, _, none⟩) NB633_647.out _).trans (((cell_far (p := ⟨gb647, _, none⟩) NB633_647.out _).trans (hHeld.2.2))))⟩ (fun hHeld => ?_)
                clear hK K
                refine pure_ (i := 12) (N := some 10) (v := ?_) (a' := ?_) #[true, true, true, true, true, true, true, true, true, true, true, true, true] rfl rfl (any_of HT_.out (by kernel_rfl)) (fun _ _ _ h => h) (Or.inl ⟨by rfl, ?_⟩) ?_ ?_
                rotate_left
                · intro w'
                  go_simp
                  with_reducible rfl
                rotate_left
                · simp only [Act.put, List.setIfInBounds_toArray, List.set_cons_zero, List.set_cons_succ, i64_w, i32_w]
                  rfl
                refine done_ (done_of HT_.out (by kernel_rfl)) ?_
                have hnb42 := NB633_647.out
                have hnc42 := NB647_633.out
                have hcz43_0 : w39.cell? ⟨gb633, 0, none⟩ = some (.string a1_0) := (blk_cell BK633.out 0).trans rfl
                have hcz43_1 : w39.cell? ⟨gb633, 1, none⟩ = some (.int .i64 a1_1) := (blk_cell BK633.out 1).trans rfl
                have hcz43_2 : w39.cell? ⟨gb633, 2, none⟩ = some (.int .i64 a1_2) := (blk_cell BK633.out 2).trans rfl
                have hfz43_0 := blk_frozen BK633.out 0
                have hfz43_1 := blk_frozen BK633.out 1
                have hfz43_2 := blk_frozen BK633.out 2
                try go_wp2_with (first | ((with_reducible refine gate_callee (f := 63) rfl ?_); refine goesL_ (some 47) rfl rfl Try.func63 (by kernel_rfl) rfl #[.slice A0 l0.length c0, .agg #[.string a1_0, .int .i64 a1_1, .int .i64 a1_2]] rfl (by (try simp only [List.map_toArray, List.map_cons, List.map_nil]); first | done | rfl | (simp only [List.length_drop, List.length_take]; rfl)) ?_; (with_reducible refine (calibrate_Value.calls k _ _ l0 a1_0 a1_1 a1_2 t648 t649 t650 _ ?side1 ?side2 A9.out).mono ?_); (case side1 => exact Kd.C_below HR0.out (by repeat (first | (with_reducible first | exact HB.out | apply below_alloc | apply pw_below_drewN | apply below_drew1 | refine below_set ?_ GE633.out | refine below_set ?_ GE634.out | refine below_set ?_ GE640.out | refine below_set ?_ GE647.out) | exact HB.out))); (case side2 => exact HC0.out); rintro e w44 ⟨rfl, hb⟩; refine ⟨_, rfl, ?_⟩; have n0_ := Aside0.mk (Kd.R_below (by (with_reducible repeat (first | apply Kd.R_alloc | apply Kd.R_drewN | apply Kd.R_drew)); exact (Kd.R_mono (Kd.R_far (p := ⟨gb647, 1, none⟩) (Kd.R_far (p := ⟨gb647, 0, none⟩) (Kd.R_types HO643.out BK647.out (by decide)) (fun _ hk => hk.2) (.int .i64 t644)) (fun _ hk => hk.2) (.int .i64 t645)) (fun _ h_ => h_.1))) hb); have n1_ := Aside0.mk (blk_below (g := gb633) (o := .cells #[.string a1_0, .int .i64 a1_1, .int .i64 a1_2] 51 (0, 0)) (by (with_reducible repeat (first | refine blk_drewN ?_ _ | refine blk_drew ?_ | refine blk_alloc ?_ _)); refine blk_far ?_ NB633_647.out _; (with_reducible repeat (first | refine blk_drewN ?_ _ | refine blk_drew ?_ | refine blk_alloc ?_ _)); refine blk_far ?_ NB633_647.out _; (with_reducible repeat (first | refine blk_drewN ?_ _ | refine blk_drew ?_ | refine blk_alloc ?_ _)); exact BK633.out) hb); have n2_ := Aside0.mk (blk_below (g := gb634) (o := .cells #[.int .i64 a2_0, .int .i64 a2_1] 25 (0, 0)) (by (with_reducible repeat (first | refine blk_drewN ?_ _ | refine blk_drew ?_ | refine blk_alloc ?_ _)); refine blk_far ?_ NB634_647.out _; (with_reducible repeat (first | refine blk_drewN ?_ _ | refine blk_drew ?_ | refine blk_alloc ?_ _)); refine blk_far ?_ NB634_647.out _; (with_reducible repeat (first | refine blk_drewN ?_ _ | refine blk_drew ?_ | refine blk_alloc ?_ _)); exact BK634.out) hb); have n3_ := Aside0.mk (blk_below (g := gb640) (o := .cells #[.int .i64 t637, .int .i64 t638] 25 (0, 0)) (by (with_reducible repeat (first | refine blk_drewN ?_ _ | refine blk_drew ?_ | refine blk_alloc ?_ _)); refine blk_far ?_ NB640_647.out _; (with_reducible repeat (first | refine blk_drewN ?_ _ | refine blk_drew ?_ | refine blk_alloc ?_ _)); refine blk_far ?_ NB640_647.out _; (with_reducible repeat (first | refine blk_drewN ?_ _ | refine blk_drew ?_ | refine blk_alloc ?_ _)); exact BK640.out) hb); have n4_ := Aside0.mk (blk_below (g := gb647) (o := .cells #[.int .i64 t644, .int .i64 t645] 25 (0, 0)) (by (with_reducible repeat (first | refine blk_drewN ?_ _ | refine blk_drew ?_ | refine blk_alloc ?_ _)); refine blk_put (cs := #[.int .i64 t644, .int .i64 0]) ?_ 1 _ rfl; (with_reducible repeat (first | refine blk_drewN ?_ _ | refine blk_drew ?_ | refine blk_alloc ?_ _)); refine blk_put (cs := #[.int .i64 0, .int .i64 0]) ?_ 0 _ rfl; (with_reducible repeat (first | refine blk_drewN ?_ _ | refine blk_drew ?_ | refine blk_alloc ?_ _)); exact BK647.out) hb); have n5_ := Aside0.mk (below_step (by repeat (first | (with_reducible first | exact HB.out | apply below_alloc | apply pw_below_drewN | apply below_drew1 | refine below_set ?_ GE633.out | refine below_set ?_ GE634.out | refine below_set ?_ GE640.out | refine below_set ?_ GE647.out) | exact HB.out)) hb); clear HO643; clear BK633; clear BK634; clear BK640; clear BK647; clear HB; have HO643 := n0_; have BK633 := n1_; have BK634 := n2_; have BK640 := n3_; have BK647 := n4_; have HB := n5_; clear n0_ n1_ n2_ n3_ n4_ n5_; (try clear hb); (try clear hb2); (try clear hk); (try clear hi)) | ((with_reducible refine gate_dst (N := 11) rfl ?_); refine box_event ?hg (N := 11) ?hd (cs := #[.int .i64 0, .int .i64 0]) (t := 25) ?hr ?_; (case hd => rfl); (case hg => rfl); (case hr => first | (go_simp; done) | (go_simp; rfl)); intro gb651 hg w45 hbox hb; have n0_ := Aside0.mk (Kd.R_below (by (with_reducible repeat (first | apply Kd.R_alloc | apply Kd.R_drewN | apply Kd.R_drew)); exact HO643.out) hb); have n1_ := Aside0.mk (blk_below (g := gb633) (o := .cells #[.string a1_0, .int .i64 a1_1, .int .i64 a1_2] 51 (0, 0)) (by (with_reducible repeat (first | refine blk_drewN ?_ _ | refine blk_drew ?_ | refine blk_alloc ?_ _)); exact BK633.out) hb); have n2_ := Aside0.mk (blk_below (g := gb634) (o := .cells #[.int .i64 a2_0, .int .i64 a2_1] 25 (0, 0)) (by (with_reducible repeat (first | refine blk_drewN ?_ _ | refine blk_drew ?_ | refine blk_alloc ?_ _)); exact BK634.out) hb); have n3_ := Aside0.mk (blk_below (g := gb640) (o := .cells #[.int .i64 t637, .int .i64 t638] 25 (0, 0)) (by (with_reducible repeat (first | refine blk_drewN ?_ _ | refine blk_drew ?_ | refine blk_alloc ?_ _)); exact BK640.out) hb); have n4_ := Aside0.mk (blk_below (g := gb647) (o := .cells #[.int .i64 t644, .int .i64 t645] 25 (0, 0)) (by (with_reducible repeat (first | refine blk_drewN ?_ _ | refine blk_drew ?_ | refine blk_alloc ?_ _)); exact BK647.out) hb); have n5_ := Aside0.mk (below_step (by repeat (first | (with_reducible first | exact HB.out | apply below_alloc | apply pw_below_drewN | apply below_drew1 | refine below_set ?_ GE633.out | refine below_set ?_ GE634.out | refine below_set ?_ GE640.out | refine below_set ?_ GE647.out) | exact HB.out)) hb); have n6_ := Aside0.mk (hbox); have n7_ := Aside0.mk ((by rw [hg]; exact (below_size (by repeat (first | (with_reducible first | exact HB.out | apply below_alloc | apply pw_below_drewN | apply below_drew1 | refine below_set ?_ GE633.out | refine below_set ?_ GE634.out | refine below_set ?_ GE640.out | refine below_set ?_ GE647.out) | exact HB.out))) : w.heap.size ≤ gb651)); have n8_ := Aside0.mk ((by rw [hg]; exact (below_size (by repeat (first | (with_reducible first | exact HB.out | apply below_alloc | apply pw_below_drewN | apply below_drew1 | refine below_set ?_ GE633.out | refine below_set ?_ GE634.out | refine below_set ?_ GE640.out | refine below_set ?_ GE647.out) | exact HB.out))) : w.heap.size ≤ gb651)); have n9_ := Aside0.mk ((by rw [hg]; exact Nat.ne_of_lt (blk_lt (g := gb633) (o := .cells #[.string a1_0, .int .i64 a1_1, .int .i64 a1_2] 51 (0, 0)) (by (with_reducible repeat (first | refine blk_drewN ?_ _ | refine blk_drew ?_ | refine blk_alloc ?_ _)); exact BK633.out)) : gb633 ≠ gb651)); have n10_ := Aside0.mk ((by rw [hg]; exact Nat.ne_of_gt (blk_lt (g := gb633) (o := .cells #[.string a1_0, .int .i64 a1_1, .int .i64 a1_2] 51 (0, 0)) (by (with_reducible repeat (first | refine blk_drewN ?_ _ | refine blk_drew ?_ | refine blk_alloc ?_ _)); exact BK633.out)) : gb651 ≠ gb633)); have n11_ := Aside0.mk ((by rw [hg]; exact Nat.ne_of_lt (blk_lt (g := gb634) (o := .cells #[.int .i64 a2_0, .int .i64 a2_1] 25 (0, 0)) (by (with_reducible repeat (first | refine blk_drewN ?_ _ | refine blk_drew ?_ | refine blk_alloc ?_ _)); exact BK634.out)) : gb634 ≠ gb651)); have n12_ := Aside0.mk ((by rw [hg]; exact Nat.ne_of_gt (blk_lt (g := gb634) (o := .cells #[.int .i64 a2_0, .int .i64 a2_1] 25 (0, 0)) (by (with_reducible repeat (first | refine blk_drewN ?_ _ | refine blk_drew ?_ | refine blk_alloc ?_ _)); exact BK634.out)) : gb651 ≠ gb634)); have n13_ := Aside0.mk ((by rw [hg]; exact Nat.ne_of_lt (blk_lt (g := gb640) (o := .cells #[.int .i64 t637, .int .i64 t638] 25 (0, 0)) (by (with_reducible repeat (first | refine blk_drewN ?_ _ | refine blk_drew ?_ | refine blk_alloc ?_ _)); exact BK640.out)) : gb640 ≠ gb651)); have n14_ := Aside0.mk ((by rw [hg]; exact Nat.ne_of_gt (blk_lt (g := gb640) (o := .cells #[.int .i64 t637, .int .i64 t638] 25 (0, 0)) (by (with_reducible repeat (first | refine blk_drewN ?_ _ | refine blk_drew ?_ | refine blk_alloc ?_ _)); exact BK640.out)) : gb651 ≠ gb640)); have n15_ := Aside0.mk ((by rw [hg]; exact Nat.ne_of_lt (blk_lt (g := gb647) (o := .cells #[.int .i64 t644, .int .i64 t645] 25 (0, 0)) (by (with_reducible repeat (first | refine blk_drewN ?_ _ | refine blk_drew ?_ | refine blk_alloc ?_ _)); exact BK647.out)) : gb647 ≠ gb651)); have n16_ := Aside0.mk ((by rw [hg]; exact Nat.ne_of_gt (blk_lt (g := gb647) (o := .cells #[.int .i64 t644, .int .i64 t645] 25 (0, 0)) (by (with_reducible repeat (first | refine blk_drewN ?_ _ | refine blk_drew ?_ | refine blk_alloc ?_ _)); exact BK647.out)) : gb651 ≠ gb647)); clear HO643; clear BK633; clear BK634; clear BK640; clear BK647; clear HB; have HO643 := n0_; have BK633 := n1_; have BK634 := n2_; have BK640 := n3_; have BK647 := n4_; have HB := n5_; have BK651 := n6_; have GW651 := n7_; have GE651 := n8_; have NB633_651 := n9_; have NB651_633 := n10_; have NB634_651 := n11_; have NB651_634 := n12_; have NB640_651 := n13_; have NB651_640 := n14_; have NB647_651 := n15_; have NB651_647 := n16_; clear n0_ n1_ n2_ n3_ n4_ n5_ n6_ n7_ n8_ n9_ n10_ n11_ n12_ n13_ n14_ n15_ n16_; clear hb hbox hg; have hnb46 := NB651_633.out; have hnc46 := NB633_651.out; have hnb47 := NB651_634.out; have hnc47 := NB634_651.out; have hnb48 := NB651_640.out; have hnc48 := NB640_651.out; have hnb49 := NB651_647.out; have hnc49 := NB647_651.out; have hcz50_0 : w45.cell? ⟨gb651, 0, none⟩ = some (.int .i64 0) := (blk_cell BK651.out 0).trans rfl; have hcz50_1 : w45.cell? ⟨gb651, 1, none⟩ = some (.int .i64 0) := (blk_cell BK651.out 1).trans rfl; have hfz50_0 := blk_frozen BK651.out 0; have hfz50_1 := blk_frozen BK651.out 1))
                have n0_ : Aside0 (Kd.R k121 121 ((w45.setCell ⟨gb651, 0, none⟩ (.int .i64 t648)).setCell ⟨gb651, 1, none⟩ (.int .i64 t649)) w.heap.size (fun _ => True) v642 t641) := ⟨by (with_reducible repeat (first | apply Kd.R_alloc | apply Kd.R_drewN | apply Kd.R_drew)); exact Kd.R_mono (Kd.R_far (p := ⟨gb651, 1, none⟩) (Kd.R_far (p := ⟨gb651, 0, none⟩) (Kd.R_types HO643.out BK651.out (by decide)) (fun _ hk => hk.2) (.int .i64 t648)) (fun _ hk => hk.2) (.int .i64 t649)) (fun _ hk => trivial)⟩
                have n1_ : Aside0 (((w45.setCell ⟨gb651, 0, none⟩ (.int .i64 t648)).setCell ⟨gb651, 1, none⟩ (.int .i64 t649)).heap[gb633]? = some (.cells #[.string a1_0, .int .i64 a1_1, .int .i64 a1_2] 51 (0, 0))) := ⟨by (with_reducible repeat (first | refine blk_drewN ?_ _ | refine blk_drew ?_ | refine blk_alloc ?_ _)); refine blk_far ?_ NB633_651.out _; (with_reducible repeat (first | refine blk_drewN ?_ _ | refine blk_drew ?_ | refine blk_alloc ?_ _)); refine blk_far ?_ NB633_651.out _; (with_reducible repeat (first | refine blk_drewN ?_ _ | refine blk_drew ?_ | refine blk_alloc ?_ _)); exact BK633.out⟩
                have n2_ : Aside0 (((w45.setCell ⟨gb651, 0, none⟩ (.int .i64 t648)).setCell ⟨gb651, 1, none⟩ (.int .i64 t649)).heap[gb634]? = some (.cells #[.int .i64 a2_0, .int .i64 a2_1] 25 (0, 0))) := ⟨by (with_reducible repeat (first | refine blk_drewN ?_ _ | refine blk_drew ?_ | refine blk_alloc ?_ _)); refine blk_far ?_ NB634_651.out _; (with_reducible repeat (first | refine blk_drewN ?_ _ | refine blk_drew ?_ | refine blk_alloc ?_ _)); refine blk_far ?_ NB634_651.out _; (with_reducible repeat (first | refine blk_drewN ?_ _ | refine blk_drew ?_ | refine blk_alloc ?_ _)); exact BK634.out⟩
                have n3_ : Aside0 (((w45.setCell ⟨gb651, 0, none⟩ (.int .i64 t648)).setCell ⟨gb651, 1, none⟩ (.int .i64 t649)).heap[gb640]? = some (.cells #[.int .i64 t637, .int .i64 t638] 25 (0, 0))) := ⟨by (with_reducible repeat (first | refine blk_drewN ?_ _ | refine blk_drew ?_ | refine blk_alloc ?_ _)); refine blk_far ?_ NB640_651.out _; (with_reducible repeat (first | refine blk_drewN ?_ _ | refine blk_drew ?_ | refine blk_alloc ?_ _)); refine blk_far ?_ NB640_651.out _; (with_reducible repeat (first | refine blk_drewN ?_ _ | refine blk_drew ?_ | refine blk_alloc ?_ _)); exact BK640.out⟩
                have n4_ : Aside0 (((w45.setCell ⟨gb651, 0, none⟩ (.int .i64 t648)).setCell ⟨gb651, 1, none⟩ (.int .i64 t649)).heap[gb647]? = some (.cells #[.int .i64 t644, .int .i64 t645] 25 (0, 0))) := ⟨by (with_reducible repeat (first | refine blk_drewN ?_ _ | refine blk_drew ?_ | refine blk_alloc ?_ _)); refine blk_far ?_ NB647_651.out _; (with_reducible repeat (first | refine blk_drewN ?_ _ | refine blk_drew ?_ | refine blk_alloc ?_ _)); refine blk_far ?_ NB647_651.out _; (with_reducible repeat (first | refine blk_drewN ?_ _ | refine blk_drew ?_ | refine blk_alloc ?_ _)); exact BK647.out⟩
                have n5_ : Aside0 (((w45.setCell ⟨gb651, 0, none⟩ (.int .i64 t648)).setCell ⟨gb651, 1, none⟩ (.int .i64 t649)).heap[gb651]? = some (.cells #[.int .i64 t648, .int .i64 t649] 25 (0, 0))) := ⟨by (with_reducible repeat (first | refine blk_drewN ?_ _ | refine blk_drew ?_ | refine blk_alloc ?_ _)); refine blk_put (cs := #[.int .i64 t648, .int .i64 0]) ?_ 1 _ rfl; (with_reducible repeat (first | refine blk_drewN ?_ _ | refine blk_drew ?_ | refine blk_alloc ?_ _)); refine blk_put (cs := #[.int .i64 0, .int .i64 0]) ?_ 0 _ rfl; (with_reducible repeat (first | refine blk_drewN ?_ _ | refine blk_drew ?_ | refine blk_alloc ?_ _)); exact BK651.out⟩
                have n6_ : Aside0 (Below w.heap.size w ((w45.setCell ⟨gb651, 0, none⟩ (.int .i64 t648)).setCell ⟨gb651, 1, none⟩ (.int .i64 t649))) := ⟨by repeat (first | (with_reducible first | exact HB.out | apply below_alloc | apply pw_below_drewN | apply below_drew1 | refine below_set ?_ GE633.out | refine below_set ?_ GE634.out | refine below_set ?_ GE640.out | refine below_set ?_ GE647.out | refine below_set ?_ GE651.out) | exact HB.out)⟩
                (try clear HO643)
                (try clear BK633)
                (try clear BK634)
                (try clear BK640)
                (try clear BK647)
                (try clear BK651)
                (try clear HB)
                generalize ((w45.setCell ⟨gb651, 0, none⟩ (.int .i64 t648)).setCell ⟨gb651, 1, none⟩ (.int .i64 t649)) = w51 at n0_ n1_ n2_ n3_ n4_ n5_ n6_ ⊢
                have HO643 := n0_
                have BK633 := n1_
                have BK634 := n2_
                have BK640 := n3_
                have BK647 := n4_
                have BK651 := n5_
                have HB := n6_
                clear n0_ n1_ n2_ n3_ n4_ n5_ n6_
                have n0_ := Aside0.mk (Kd.R_drew HO643.out)
                have n1_ := Aside0.mk (blk_drew BK633.out)
                have n2_ := Aside0.mk (blk_drew BK634.out)
                have n3_ := Aside0.mk (blk_drew BK640.out)
                have n4_ := Aside0.mk (blk_drew BK647.out)
                have n5_ := Aside0.mk (blk_drew BK651.out)
                have n6_ := Aside0.mk (below_drew1 HB.out)
                clear HO643
                clear BK633
                clear BK634
                clear BK640
                clear BK647
                clear BK651
                clear HB
                have HO643 := n0_
                have BK633 := n1_
                have BK634 := n2_
                have BK640 := n3_
                have BK647 := n4_
                have BK651 := n5_
                have HB := n6_
                clear n0_ n1_ n2_ n3_ n4_ n5_ n6_
                refine start_ (n := 10) (S := fun w' => w'.cell? ⟨gb633, 0, none⟩ = some (.string a1_0) ∧ w'.cell? ⟨gb633, 1, none⟩ = some (.int .i64 a1_1) ∧ w'.cell? ⟨gb633, 2, none⟩ = some (.int .i64 a1_2)) (ds := []) #[false, false, false, false, false, false, false, false, false, false] (by kernel_rfl) rfl rfl ⟨(blk_cell BK633.out 0).trans rfl, (blk_cell BK633.out 1).trans rfl, (blk_cell BK633.out 2).trans rfl⟩ (fun hHeld => ?_); refine with_tabW metrolablaw52_CalibrateJudges.tab6 metrolablaw52_CalibrateJudges.bits6 (fun HT_ HW_ => ?_)
                generalize w51.drew = w52 at HO643 BK633 BK634 BK640 BK647 BK651 HB hHeld ⊢
                refine pure_ (i := 0) (N := some 51) (v := ?_) (a' := ?_) #[true, false, false, false, false, false, false, false, false, false] rfl rfl (any_of HT_.out (by kernel_rfl)) (fun _ _ _ h => h) (Or.inl ⟨by rfl, ?_⟩) ?_ ?_
                rotate_left
                · intro w'
                  go_simp
                  with_reducible rfl
                rotate_left
                · simp only [Act.put, List.setIfInBounds_toArray, List.set_cons_zero, List.set_cons_succ, i64_w, i32_w]
                  rfl
                refine take_ (i := 2) (N := some 53) (v := ?_) (a' := ?_) #[true, false, true, false, false, false, false, false, false, false] rfl rfl (take_ofW HT_.out HW_.out (by kernel_rfl)) (fun _ _ _ h => h) (Or.inl ⟨by rfl, ?_⟩) hHeld ?_ ?_
                rotate_left
                · rintro w' ⟨s0, s1, s2⟩
                  go_simp
                  with_reducible rfl
                rotate_left
                · simp only [Act.put, List.setIfInBounds_toArray, List.set_cons_zero, List.set_cons_succ, i64_w, i32_w]
                  rfl
                refine join_ (σ := Value × Nat) 2 #[true, true, true, true, true, true, true, true, false, false] (fun s_ => [(52, s_.1), (54, .tuple #[.agg #[.int .i64 t655, .int .i64 t656], .int .i64 t657]), (13, .pointer (some ⟨s_.2, 0, none⟩)), (50, .tuple #[.agg #[.int .i64 t655, .int .i64 t656], .int .i64 t657]), (55, .agg #[.int .i64 t655, .int .i64 t656]), (56, .int .i64 t657)]) (fun s_ w' => (w'.cell? ⟨gb633, 0, none⟩ = some (.string a1_0) ∧ w'.cell? ⟨gb633, 1, none⟩ = some (.int .i64 a1_1) ∧ w'.cell? ⟨gb633, 2, none⟩ = some (.int .i64 a1_2)) ∧ (Kd.R k121 121 w' w.heap.size (fun k_ => some k_ ≠ (s_.1 : Value).ownBlock) v642 t641) ∧ (Kd.R k121 121 w' w.heap.size (fun k_ => some k_ ≠ (v642 : Value).ownBlock) s_.1 t652) ∧ (w'.heap[gb633]? = some (.cells #[.string a1_0, .int .i64 a1_1, .int .i64 a1_2] 51 (0, 0))) ∧ (w'.heap[gb634]? = some (.cells #[.int .i64 a2_0, .int .i64 a2_1] 25 (0, 0))) ∧ (w'.heap[gb640]? = some (.cells #[.int .i64 t637, .int .i64 t638] 25 (0, 0))) ∧ (w'.heap[gb647]? = some (.cells #[.int .i64 t644, .int .i64 t645] 25 (0, 0))) ∧ (w'.heap[gb651]? = some (.cells #[.int .i64 t648, .int .i64 t649] 25 (0, 0))) ∧ (w'.heap[s_.2]? = some (.cells #[.int .i64 0, .int .i64 0] 25 (0, 0))) ∧ (w.heap.size ≤ s_.2) ∧ (w.heap.size ≤ s_.2) ∧ (gb633 ≠ s_.2) ∧ (s_.2 ≠ gb633) ∧ (gb634 ≠ s_.2) ∧ (s_.2 ≠ gb634) ∧ (gb640 ≠ s_.2) ∧ (s_.2 ≠ gb640) ∧ (gb647 ≠ s_.2) ∧ (s_.2 ≠ gb647) ∧ (gb651 ≠ s_.2) ∧ (s_.2 ≠ gb651) ∧ (Below w.heap.size w w')) ?_ ?_
                rotate_left
                · intro hCont
                  refine two_ (i := 1) (j := 7) (Ni := some 52) (Nj := some 13) #[true, true, true, false, false, false, false, false, false, false] #[true, false, true, false, false, false, false, true, false, false] rfl rfl rfl rfl (two_of HT_.out (by kernel_rfl)) (by decide) (by decide) (fun K hK => ?_) (fun K hK => ?_)
                  · skip
                    refine goes_ Try.func37 (by kernel_rfl) rfl #[.slice A0 l0.length c0] (by rfl) rfl rfl (by (try simp only [List.map_toArray, List.map_cons, List.map_nil]); first | done | rfl | (simp only [List.length_drop, List.length_take]; rfl)) ?_
                    with_reducible refine (metrolablaw52_own.calls k _ _ l0 t652 _ ?side1 ?side2 A10.out).mono ?_
                    (case side1 => repeat (first | exact (Kd.C_below HR0.out HB.out) | (with_reducible refine Kd.C_alloc ?_ _) | (with_reducible refine Kd.C_drewN ?_ _) | (with_reducible refine Kd.C_drew ?_)))
                    (case side2 => exact HC0.out)
                    rintro e w53 ⟨v653, rfl, ho0, hb⟩
                    refine ⟨_, rfl, ?_⟩
                    have n0_ := Aside0.mk (Kd.R_elder' (by (with_reducible repeat (first | apply Kd.R_alloc | apply Kd.R_drewN | apply Kd.R_drew)); exact HO643.out) (Kd.R_base ho0) hb)
                    have n1_ := Aside0.mk (Kd.R_lower (Kd.R_new' ho0 (Kd.R_lt (by (with_reducible repeat (first | apply Kd.R_alloc | apply Kd.R_drewN | apply Kd.R_drew)); exact HO643.out))) (below_size (by repeat (first | (with_reducible first | exact HB.out | apply below_alloc | apply pw_below_drewN | apply below_drew1 | refine below_set ?_ GE633.out | refine below_set ?_ GE634.out | refine below_set ?_ GE640.out | refine below_set ?_ GE647.out | refine below_set ?_ GE651.out) | exact HB.out))))
                    have n2_ := Aside0.mk (blk_below (g := gb633) (o := .cells #[.string a1_0, .int .i64 a1_1, .int .i64 a1_2] 51 (0, 0)) (by (with_reducible repeat (first | refine blk_drewN ?_ _ | refine blk_drew ?_ | refine blk_alloc ?_ _)); exact BK633.out) hb)
                    have n3_ := Aside0.mk (blk_below (g := gb634) (o := .cells #[.int .i64 a2_0, .int .i64 a2_1] 25 (0, 0)) (by (with_reducible repeat (first | refine blk_drewN ?_ _ | refine blk_drew ?_ | refine blk_alloc ?_ _)); exact BK634.out) hb)
                    have n4_ := Aside0.mk (blk_below (g := gb640) (o := .cells #[.int .i64 t637, .int .i64 t638] 25 (0, 0)) (by (with_reducible repeat (first | refine blk_drewN ?_ _ | refine blk_drew ?_ | refine blk_alloc ?_ _)); exact BK640.out) hb)
                    have n5_ := Aside0.mk (blk_below (g := gb647) (o := .cells #[.int .i64 t644, .int .i64 t645] 25 (0, 0)) (by (with_reducible repeat (first | refine blk_drewN ?_ _ | refine blk_drew ?_ | refine blk_alloc ?_ _)); exact BK647.out) hb)
                    have n6_ := Aside0.mk (blk_below (g := gb651) (o := .cells #[.int .i64 t648, .int .i64 t649] 25 (0, 0)) (by (with_reducible repeat (first | refine blk_drewN ?_ _ | refine blk_drew ?_ | refine blk_alloc ?_ _)); exact BK651.out) hb)
                    have n7_ := Aside0.mk (below_step (by repeat (first | (with_reducible first | exact HB.out | apply below_alloc | apply pw_below_drewN | apply below_drew1 | refine below_set ?_ GE633.out | refine below_set ?_ GE634.out | refine below_set ?_ GE640.out | refine below_set ?_ GE647.out | refine below_set ?_ GE651.out) | exact HB.out)) hb)
                    clear HO643
                    clear BK633
                    clear BK634
                    clear BK640
                    clear BK647
                    clear BK651
                    clear HB
                    have HO643 := n0_
                    have HO654 := n1_
                    have BK633 := n2_
                    have BK634 := n3_
                    have BK640 := n4_
                    have BK647 := n5_
                    have BK651 := n6_
                    have HB := n7_
                    clear n0_ n1_ n2_ n3_ n4_ n5_ n6_ n7_
                    (try clear hb)
                    (try clear hb2)
                    (try clear hk)
                    (try clear hi)
                    (try clear ho0)
                    obtain ⟨Ao54, co54, eo54⟩ := Kd.R_slice HO654.out
                    (first | subst eo54 | (injection eo54 with f1_ f2_ f3_; have f4_ := f1_.symm; have f5_ := f3_.symm; clear f1_ f2_ f3_; subst f4_; subst f5_))
                    refine hK.out _ _ ⟨(blk_cell BK633.out 0).trans rfl, (blk_cell BK633.out 1).trans rfl, (blk_cell BK633.out 2).trans rfl⟩ (fun hHeld => ?_)
                    clear hK K
                    refine norm_ (a' := ?_) ?_ ?_
                    rotate_left
                    · show Act.put _ (some 52) _ = _
                      simp only [Act.put, List.setIfInBounds_toArray, List.set_cons_zero, List.set_cons_succ, i64_w, i32_w]
                      rfl
                    refine two_ (i := 3) (j := 7) (Ni := some 54) (Nj := some 13) #[true, true, true, true, false, false, false, false, false, false] #[true, true, true, false, false, false, false, true, false, false] rfl rfl rfl rfl (two_of HT_.out (by kernel_rfl)) (by decide) (by decide) (fun K hK => ?_) (fun K hK => ?_)
                    · skip
                      refine goes_ Try.func64 (by kernel_rfl) rfl #[.slice Ao54 t652.length co54, .agg #[.string a1_0, .int .i64 a1_1, .int .i64 a1_2]] (by rfl) rfl rfl (by (try simp only [List.map_toArray, List.map_cons, List.map_nil]); first | done | rfl | (simp only [List.length_drop, List.length_take]; rfl)) ?_
                      with_reducible refine (metrolabref52_Value.calls k _ _ t652 a1_0 a1_1 a1_2 t655 t656 t657 _ ?side1 ?side2 A11.out).mono ?_
                      (case side1 => repeat (first | exact (Kd.R_reads' HO654.out).2.2 | (with_reducible refine Kd.C_alloc ?_ _) | (with_reducible refine Kd.C_drewN ?_ _) | (with_reducible refine Kd.C_drew ?_)))
                      (case side2 => exact (Kd.R_reads' HO654.out).2.1)
                      rintro e w55 ⟨rfl, hb⟩
                      refine ⟨_, rfl, ?_⟩
                      have n0_ := Aside0.mk (Kd.R_below (by (with_reducible repeat (first | apply Kd.R_alloc | apply Kd.R_drewN | apply Kd.R_drew)); exact HO643.out) hb)
                      have n1_ := Aside0.mk (Kd.R_below (by (with_reducible repeat (first | apply Kd.R_alloc | apply Kd.R_drewN | apply Kd.R_drew)); exact HO654.out) hb)
                      have n2_ := Aside0.mk (blk_below (g := gb633) (o := .cells #[.string a1_0, .int .i64 a1_1, .int .i64 a1_2] 51 (0, 0)) (by (with_reducible repeat (first | refine blk_drewN ?_ _ | refine blk_drew ?_ | refine blk_alloc ?_ _)); exact BK633.out) hb)
                      have n3_ := Aside0.mk (blk_below (g := gb634) (o := .cells #[.int .i64 a2_0, .int .i64 a2_1] 25 (0, 0)) (by (with_reducible repeat (first | refine blk_drewN ?_ _ | refine blk_drew ?_ | refine blk_alloc ?_ _)); exact BK634.out) hb)
                      have n4_ := Aside0.mk (blk_below (g := gb640) (o := .cells #[.int .i64 t637, .int .i64 t638] 25 (0, 0)) (by (with_reducible repeat (first | refine blk_drewN ?_ _ | refine blk_drew ?_ | refine blk_alloc ?_ _)); exact BK640.out) hb)
                      have n5_ := Aside0.mk (blk_below (g := gb647) (o := .cells #[.int .i64 t644, .int .i64 t645] 25 (0, 0)) (by (with_reducible repeat (first | refine blk_drewN ?_ _ | refine blk_drew ?_ | refine blk_alloc ?_ _)); exact BK647.out) hb)
                      have n6_ := Aside0.mk (blk_below (g := gb651) (o := .cells #[.int .i64 t648, .int .i64 t649] 25 (0, 0)) (by (with_reducible repeat (first | refine blk_drewN ?_ _ | refine blk_drew ?_ | refine blk_alloc ?_ _)); exact BK651.out) hb)
                      have n7_ := Aside0.mk (below_step (by repeat (first | (with_reducible first | exact HB.out | apply below_alloc | apply pw_below_drewN | apply below_drew1 | refine below_set ?_ GE633.out | refine below_set ?_ GE634.out | refine below_set ?_ GE640.out | refine below_set ?_ GE647.out | refine below_set ?_ GE651.out) | exact HB.out)) hb)
                      clear HO643
                      clear HO654
                      clear BK633
                      clear BK634
                      clear BK640
                      clear BK647
                      clear BK651
                      clear HB
                      have HO643 := n0_
                      have HO654 := n1_
                      have BK633 := n2_
                      have BK634 := n3_
                      have BK640 := n4_
                      have BK647 := n5_
                      have BK651 := n6_
                      have HB := n7_
                      clear n0_ n1_ n2_ n3_ n4_ n5_ n6_ n7_
                      (try clear hb)
                      (try clear hb2)
                      (try clear hk)
                      (try clear hi)
                      refine hK.out _ _ ⟨(blk_cell BK633.out 0).trans rfl, (blk_cell BK633.out 1).trans rfl, (blk_cell BK633.out 2).trans rfl⟩ (fun hHeld => ?_)
                      clear hK K
                      refine norm_ (a' := ?_) ?_ ?_
                      rotate_left
                      · show Act.put _ (some 54) _ = _
                        simp only [Act.put, List.setIfInBounds_toArray, List.set_cons_zero, List.set_cons_succ, i64_w, i32_w]
                        rfl
                      refine pure_ (i := 4) (N := some 50) (v := ?_) (a' := ?_) #[true, true, true, true, true, false, false, false, false, false] rfl rfl (any_of HT_.out (by kernel_rfl)) (fun _ _ _ h => h) (Or.inl ⟨by rfl, ?_⟩) ?_ ?_
                      rotate_left
                      · intro w'
                        go_simp
                        with_reducible rfl
                      rotate_left
                      · simp only [Act.put, List.setIfInBounds_toArray, List.set_cons_zero, List.set_cons_succ, i64_w, i32_w]
                        rfl
                      refine pure_ (i := 5) (N := some 55) (v := ?_) (a' := ?_) #[true, true, true, true, true, true, false, false, false, false] rfl rfl (any_of HT_.out (by kernel_rfl)) (fun _ _ _ h => h) (Or.inl ⟨by rfl, ?_⟩) ?_ ?_
                      rotate_left
                      · intro w'
                        go_simp
                        with_reducible rfl
                      rotate_left
                      · simp only [Act.put, List.setIfInBounds_toArray, List.set_cons_zero, List.set_cons_succ, i64_w, i32_w]
                        rfl
                      refine pure_ (i := 6) (N := some 56) (v := ?_) (a' := ?_) #[true, true, true, true, true, true, true, false, false, false] rfl rfl (any_of HT_.out (by kernel_rfl)) (fun _ _ _ h => h) (Or.inl ⟨by rfl, ?_⟩) ?_ ?_
                      rotate_left
                      · intro w'
                        go_simp
                        with_reducible rfl
                      rotate_left
                      · simp only [Act.put, List.setIfInBounds_toArray, List.set_cons_zero, List.set_cons_succ, i64_w, i32_w]
                        rfl
                      refine one_ (i := 7) (N := some 13) #[true, true, true, true, true, true, true, true, false, false] rfl rfl (one_of HT_.out (by kernel_rfl)) (by decide) (fun K hK => ?_)
                      refine box_step ?hg (N := 13) ?hd (cs := #[.int .i64 0, .int .i64 0]) (t := 25) ?hr ?_; (case hd => rfl); (case hg => rfl); (case hr => first | (go_simp; done) | (go_simp; rfl))
                      intro gb658 hg w56 hbox hb
                      have n0_ := Aside0.mk (Kd.R_below (by (with_reducible repeat (first | apply Kd.R_alloc | apply Kd.R_drewN | apply Kd.R_drew)); exact HO643.out) hb)
                      have n1_ := Aside0.mk (Kd.R_below (by (with_reducible repeat (first | apply Kd.R_alloc | apply Kd.R_drewN | apply Kd.R_drew)); exact HO654.out) hb)
                      have n2_ := Aside0.mk (blk_below (g := gb633) (o := .cells #[.string a1_0, .int .i64 a1_1, .int .i64 a1_2] 51 (0, 0)) (by (with_reducible repeat (first | refine blk_drewN ?_ _ | refine blk_drew ?_ | refine blk_alloc ?_ _)); exact BK633.out) hb)
                      have n3_ := Aside0.mk (blk_below (g := gb634) (o := .cells #[.int .i64 a2_0, .int .i64 a2_1] 25 (0, 0)) (by (with_reducible repeat (first | refine blk_drewN ?_ _ | refine blk_drew ?_ | refine blk_alloc ?_ _)); exact BK634.out) hb)
                      have n4_ := Aside0.mk (blk_below (g := gb640) (o := .cells #[.int .i64 t637, .int .i64 t638] 25 (0, 0)) (by (with_reducible repeat (first | refine blk_drewN ?_ _ | refine blk_drew ?_ | refine blk_alloc ?_ _)); exact BK640.out) hb)
                      have n5_ := Aside0.mk (blk_below (g := gb647) (o := .cells #[.int .i64 t644, .int .i64 t645] 25 (0, 0)) (by (with_reducible repeat (first | refine blk_drewN ?_ _ | refine blk_drew ?_ | refine blk_alloc ?_ _)); exact BK647.out) hb)
                      have n6_ := Aside0.mk (blk_below (g := gb651) (o := .cells #[.int .i64 t648, .int .i64 t649] 25 (0, 0)) (by (with_reducible repeat (first | refine blk_drewN ?_ _ | refine blk_drew ?_ | refine blk_alloc ?_ _)); exact BK651.out) hb)
                      have n7_ := Aside0.mk (below_step (by repeat (first | (with_reducible first | exact HB.out | apply below_alloc | apply pw_below_drewN | apply below_drew1 | refine below_set ?_ GE633.out | refine below_set ?_ GE634.out | refine below_set ?_ GE640.out | refine below_set ?_ GE647.out | refine below_set ?_ GE651.out) | exact HB.out)) hb)
                      have n8_ := Aside0.mk (hbox)
                      have n9_ := Aside0.mk ((by rw [hg]; exact (below_size (by repeat (first | (with_reducible first | exact HB.out | apply below_alloc | apply pw_below_drewN | apply below_drew1 | refine below_set ?_ GE633.out | refine below_set ?_ GE634.out | refine below_set ?_ GE640.out | refine below_set ?_ GE647.out | refine below_set ?_ GE651.out) | exact HB.out))) : w.heap.size ≤ gb658))
                      have n10_ := Aside0.mk ((by rw [hg]; exact (below_size (by repeat (first | (with_reducible first | exact HB.out | apply below_alloc | apply pw_below_drewN | apply below_drew1 | refine below_set ?_ GE633.out | refine below_set ?_ GE634.out | refine below_set ?_ GE640.out | refine below_set ?_ GE647.out | refine below_set ?_ GE651.out) | exact HB.out))) : w.heap.size ≤ gb658))
                      have n11_ := Aside0.mk ((by rw [hg]; exact Nat.ne_of_lt (blk_lt (g := gb633) (o := .cells #[.string a1_0, .int .i64 a1_1, .int .i64 a1_2] 51 (0, 0)) (by (with_reducible repeat (first | refine blk_drewN ?_ _ | refine blk_drew ?_ | refine blk_alloc ?_ _)); exact BK633.out)) : gb633 ≠ gb658))
                      have n12_ := Aside0.mk ((by rw [hg]; exact Nat.ne_of_gt (blk_lt (g := gb633) (o := .cells #[.string a1_0, .int .i64 a1_1, .int .i64 a1_2] 51 (0, 0)) (by (with_reducible repeat (first | refine blk_drewN ?_ _ | refine blk_drew ?_ | refine blk_alloc ?_ _)); exact BK633.out)) : gb658 ≠ gb633))
                      have n13_ := Aside0.mk ((by rw [hg]; exact Nat.ne_of_lt (blk_lt (g := gb634) (o := .cells #[.int .i64 a2_0, .int .i64 a2_1] 25 (0, 0)) (by (with_reducible repeat (first | refine blk_drewN ?_ _ | refine blk_drew ?_ | refine blk_alloc ?_ _)); exact BK634.out)) : gb634 ≠ gb658))
                      have n14_ := Aside0.mk ((by rw [hg]; exact Nat.ne_of_gt (blk_lt (g := gb634) (o := .cells #[.int .i64 a2_0, .int .i64 a2_1] 25 (0, 0)) (by (with_reducible repeat (first | refine blk_drewN ?_ _ | refine blk_drew ?_ | refine blk_alloc ?_ _)); exact BK634.out)) : gb658 ≠ gb634))
                      have n15_ := Aside0.mk ((by rw [hg]; exact Nat.ne_of_lt (blk_lt (g := gb640) (o := .cells #[.int .i64 t637, .int .i64 t638] 25 (0, 0)) (by (with_reducible repeat (first | refine blk_drewN ?_ _ | refine blk_drew ?_ | refine blk_alloc ?_ _)); exact BK640.out)) : gb640 ≠ gb658))
                      have n16_ := Aside0.mk ((by rw [hg]; exact Nat.ne_of_gt (blk_lt (g := gb640) (o := .cells #[.int .i64 t637, .int .i64 t638] 25 (0, 0)) (by (with_reducible repeat (first | refine blk_drewN ?_ _ | refine blk_drew ?_ | refine blk_alloc ?_ _)); exact BK640.out)) : gb658 ≠ gb640))
                      have n17_ := Aside0.mk ((by rw [hg]; exact Nat.ne_of_lt (blk_lt (g := gb647) (o := .cells #[.int .i64 t644, .int .i64 t645] 25 (0, 0)) (by (with_reducible repeat (first | refine blk_drewN ?_ _ | refine blk_drew ?_ | refine blk_alloc ?_ _)); exact BK647.out)) : gb647 ≠ gb658))
                      have n18_ := Aside0.mk ((by rw [hg]; exact Nat.ne_of_gt (blk_lt (g := gb647) (o := .cells #[.int .i64 t644, .int .i64 t645] 25 (0, 0)) (by (with_reducible repeat (first | refine blk_drewN ?_ _ | refine blk_drew ?_ | refine blk_alloc ?_ _)); exact BK647.out)) : gb658 ≠ gb647))
                      have n19_ := Aside0.mk ((by rw [hg]; exact Nat.ne_of_lt (blk_lt (g := gb651) (o := .cells #[.int .i64 t648, .int .i64 t649] 25 (0, 0)) (by (with_reducible repeat (first | refine blk_drewN ?_ _ | refine blk_drew ?_ | refine blk_alloc ?_ _)); exact BK651.out)) : gb651 ≠ gb658))
                      have n20_ := Aside0.mk ((by rw [hg]; exact Nat.ne_of_gt (blk_lt (g := gb651) (o := .cells #[.int .i64 t648, .int .i64 t649] 25 (0, 0)) (by (with_reducible repeat (first | refine blk_drewN ?_ _ | refine blk_drew ?_ | refine blk_alloc ?_ _)); exact BK651.out)) : gb658 ≠ gb651))
                      clear HO643
                      clear HO654
                      clear BK633
                      clear BK634
                      clear BK640
                      clear BK647
                      clear BK651
                      clear HB
                      have HO643 := n0_
                      have HO654 := n1_
                      have BK633 := n2_
                      have BK634 := n3_
                      have BK640 := n4_
                      have BK647 := n5_
                      have BK651 := n6_
                      have HB := n7_
                      have BK658 := n8_
                      have GW658 := n9_
                      have GE658 := n10_
                      have NB633_658 := n11_
                      have NB658_633 := n12_
                      have NB634_658 := n13_
                      have NB658_634 := n14_
                      have NB640_658 := n15_
                      have NB658_640 := n16_
                      have NB647_658 := n17_
                      have NB658_647 := n18_
                      have NB651_658 := n19_
                      have NB658_651 := n20_
                      clear n0_ n1_ n2_ n3_ n4_ n5_ n6_ n7_ n8_ n9_ n10_ n11_ n12_ n13_ n14_ n15_ n16_ n17_ n18_ n19_ n20_
                      clear hb hbox hg
                      refine hK.out _ _ ⟨(blk_cell BK633.out 0).trans rfl, (blk_cell BK633.out 1).trans rfl, (blk_cell BK633.out 2).trans rfl⟩ (fun hHeld => ?_)
                      clear hK K
                      refine norm_ (a' := ?_) ?_ ?_
                      rotate_left
                      · show Act.put _ (some 13) _ = _
                        simp only [Act.put, List.setIfInBounds_toArray, List.set_cons_zero, List.set_cons_succ, i64_w, i32_w]
                        rfl
                      exact norm_ (by simp only [putAll, Act.put, List.setIfInBounds_toArray, List.set_cons_zero, List.set_cons_succ]) (hCont (.slice Ao54 t652.length co54, gb658) _ ⟨hHeld, (by (with_reducible repeat (first | apply Kd.R_alloc | apply Kd.R_drewN | apply Kd.R_drew)); exact Kd.R_mono HO643.out (fun _ hk => hk.2)), (by (with_reducible repeat (first | apply Kd.R_alloc | apply Kd.R_drewN | apply Kd.R_drew)); exact Kd.R_mono HO654.out (fun _ hk => hk.2)), (by (with_reducible repeat (first | refine blk_drewN ?_ _ | refine blk_drew ?_ | refine blk_alloc ?_ _)); exact BK633.out), (by (with_reducible repeat (first | refine blk_drewN ?_ _ | refine blk_drew ?_ | refine blk_alloc ?_ _)); exact BK634.out), (by (with_reducible repeat (first | refine blk_drewN ?_ _ | refine blk_drew ?_ | refine blk_alloc ?_ _)); exact BK640.out), (by (with_reducible repeat (first | refine blk_drewN ?_ _ | refine blk_drew ?_ | refine blk_alloc ?_ _)); exact BK647.out), (by (with_reducible repeat (first | refine blk_drewN ?_ _ | refine blk_drew ?_ | refine blk_alloc ?_ _)); exact BK651.out), (by (with_reducible repeat (first | refine blk_drewN ?_ _ | refine blk_drew ?_ | refine blk_alloc ?_ _)); exact BK658.out), GW658.out, GE658.out, NB633_658.out, NB658_633.out, NB634_658.out, NB658_634.out, NB640_658.out, NB658_640.out, NB647_658.out, NB658_647.out, NB651_658.out, NB658_651.out, (by repeat (first | (with_reducible first | exact HB.out | apply below_alloc | apply pw_below_drewN | apply below_drew1 | refine below_set ?_ GE633.out | refine below_set ?_ GE634.out | refine below_set ?_ GE640.out | refine below_set ?_ GE647.out | refine below_set ?_ GE651.out | refine below_set ?_ GE658.out) | exact HB.out))⟩)
                    · skip
                      refine box_step ?hg (N := 13) ?hd (cs := #[.int .i64 0, .int .i64 0]) (t := 25) ?hr ?_; (case hd => rfl); (case hg => rfl); (case hr => first | (go_simp; done) | (go_simp; rfl))
                      intro gb658 hg w54 hbox hb
                      have n0_ := Aside0.mk (Kd.R_below (by (with_reducible repeat (first | apply Kd.R_alloc | apply Kd.R_drewN | apply Kd.R_drew)); exact HO643.out) hb)
                      have n1_ := Aside0.mk (Kd.R_below (by (with_reducible repeat (first | apply Kd.R_alloc | apply Kd.R_drewN | apply Kd.R_drew)); exact HO654.out) hb)
                      have n2_ := Aside0.mk (blk_below (g := gb633) (o := .cells #[.string a1_0, .int .i64 a1_1, .int .i64 a1_2] 51 (0, 0)) (by (with_reducible repeat (first | refine blk_drewN ?_ _ | refine blk_drew ?_ | refine blk_alloc ?_ _)); exact BK633.out) hb)
                      have n3_ := Aside0.mk (blk_below (g := gb634) (o := .cells #[.int .i64 a2_0, .int .i64 a2_1] 25 (0, 0)) (by (with_reducible repeat (first | refine blk_drewN ?_ _ | refine blk_drew ?_ | refine blk_alloc ?_ _)); exact BK634.out) hb)
                      have n4_ := Aside0.mk (blk_below (g := gb640) (o := .cells #[.int .i64 t637, .int .i64 t638] 25 (0, 0)) (by (with_reducible repeat (first | refine blk_drewN ?_ _ | refine blk_drew ?_ | refine blk_alloc ?_ _)); exact BK640.out) hb)
                      have n5_ := Aside0.mk (blk_below (g := gb647) (o := .cells #[.int .i64 t644, .int .i64 t645] 25 (0, 0)) (by (with_reducible repeat (first | refine blk_drewN ?_ _ | refine blk_drew ?_ | refine blk_alloc ?_ _)); exact BK647.out) hb)
                      have n6_ := Aside0.mk (blk_below (g := gb651) (o := .cells #[.int .i64 t648, .int .i64 t649] 25 (0, 0)) (by (with_reducible repeat (first | refine blk_drewN ?_ _ | refine blk_drew ?_ | refine blk_alloc ?_ _)); exact BK651.out) hb)
                      have n7_ := Aside0.mk (below_step (by repeat (first | (with_reducible first | exact HB.out | apply below_alloc | apply pw_below_drewN | apply below_drew1 | refine below_set ?_ GE633.out | refine below_set ?_ GE634.out | refine below_set ?_ GE640.out | refine below_set ?_ GE647.out | refine below_set ?_ GE651.out) | exact HB.out)) hb)
                      have n8_ := Aside0.mk (hbox)
                      have n9_ := Aside0.mk ((by rw [hg]; exact (below_size (by repeat (first | (with_reducible first | exact HB.out | apply below_alloc | apply pw_below_drewN | apply below_drew1 | refine below_set ?_ GE633.out | refine below_set ?_ GE634.out | refine below_set ?_ GE640.out | refine below_set ?_ GE647.out | refine below_set ?_ GE651.out) | exact HB.out))) : w.heap.size ≤ gb658))
                      have n10_ := Aside0.mk ((by rw [hg]; exact (below_size (by repeat (first | (with_reducible first | exact HB.out | apply below_alloc | apply pw_below_drewN | apply below_drew1 | refine below_set ?_ GE633.out | refine below_set ?_ GE634.out | refine below_set ?_ GE640.out | refine below_set ?_ GE647.out | refine below_set ?_ GE651.out) | exact HB.out))) : w.heap.size ≤ gb658))
                      have n11_ := Aside0.mk ((by rw [hg]; exact Nat.ne_of_lt (blk_lt (g := gb633) (o := .cells #[.string a1_0, .int .i64 a1_1, .int .i64 a1_2] 51 (0, 0)) (by (with_reducible repeat (first | refine blk_drewN ?_ _ | refine blk_drew ?_ | refine blk_alloc ?_ _)); exact BK633.out)) : gb633 ≠ gb658))
                      have n12_ := Aside0.mk ((by rw [hg]; exact Nat.ne_of_gt (blk_lt (g := gb633) (o := .cells #[.string a1_0, .int .i64 a1_1, .int .i64 a1_2] 51 (0, 0)) (by (with_reducible repeat (first | refine blk_drewN ?_ _ | refine blk_drew ?_ | refine blk_alloc ?_ _)); exact BK633.out)) : gb658 ≠ gb633))
                      have n13_ := Aside0.mk ((by rw [hg]; exact Nat.ne_of_lt (blk_lt (g := gb634) (o := .cells #[.int .i64 a2_0, .int .i64 a2_1] 25 (0, 0)) (by (with_reducible repeat (first | refine blk_drewN ?_ _ | refine blk_drew ?_ | refine blk_alloc ?_ _)); exact BK634.out)) : gb634 ≠ gb658))
                      have n14_ := Aside0.mk ((by rw [hg]; exact Nat.ne_of_gt (blk_lt (g := gb634) (o := .cells #[.int .i64 a2_0, .int .i64 a2_1] 25 (0, 0)) (by (with_reducible repeat (first | refine blk_drewN ?_ _ | refine blk_drew ?_ | refine blk_alloc ?_ _)); exact BK634.out)) : gb658 ≠ gb634))
                      have n15_ := Aside0.mk ((by rw [hg]; exact Nat.ne_of_lt (blk_lt (g := gb640) (o := .cells #[.int .i64 t637, .int .i64 t638] 25 (0, 0)) (by (with_reducible repeat (first | refine blk_drewN ?_ _ | refine blk_drew ?_ | refine blk_alloc ?_ _)); exact BK640.out)) : gb640 ≠ gb658))
                      have n16_ := Aside0.mk ((by rw [hg]; exact Nat.ne_of_gt (blk_lt (g := gb640) (o := .cells #[.int .i64 t637, .int .i64 t638] 25 (0, 0)) (by (with_reducible repeat (first | refine blk_drewN ?_ _ | refine blk_drew ?_ | refine blk_alloc ?_ _)); exact BK640.out)) : gb658 ≠ gb640))
                      have n17_ := Aside0.mk ((by rw [hg]; exact Nat.ne_of_lt (blk_lt (g := gb647) (o := .cells #[.int .i64 t644, .int .i64 t645] 25 (0, 0)) (by (with_reducible repeat (first | refine blk_drewN ?_ _ | refine blk_drew ?_ | refine blk_alloc ?_ _)); exact BK647.out)) : gb647 ≠ gb658))
                      have n18_ := Aside0.mk ((by rw [hg]; exact Nat.ne_of_gt (blk_lt (g := gb647) (o := .cells #[.int .i64 t644, .int .i64 t645] 25 (0, 0)) (by (with_reducible repeat (first | refine blk_drewN ?_ _ | refine blk_drew ?_ | refine blk_alloc ?_ _)); exact BK647.out)) : gb658 ≠ gb647))
                      have n19_ := Aside0.mk ((by rw [hg]; exact Nat.ne_of_lt (blk_lt (g := gb651) (o := .cells #[.int .i64 t648, .int .i64 t649] 25 (0, 0)) (by (with_reducible repeat (first | refine blk_drewN ?_ _ | refine blk_drew ?_ | refine blk_alloc ?_ _)); exact BK651.out)) : gb651 ≠ gb658))
                      have n20_ := Aside0.mk ((by rw [hg]; exact Nat.ne_of_gt (blk_lt (g := gb651) (o := .cells #[.int .i64 t648, .int .i64 t649] 25 (0, 0)) (by (with_reducible repeat (first | refine blk_drewN ?_ _ | refine blk_drew ?_ | refine blk_alloc ?_ _)); exact BK651.out)) : gb658 ≠ gb651))
                      clear HO643
                      clear HO654
                      clear BK633
                      clear BK634
                      clear BK640
                      clear BK647
                      clear BK651
                      clear HB
                      have HO643 := n0_
                      have HO654 := n1_
                      have BK633 := n2_
                      have BK634 := n3_
                      have BK640 := n4_
                      have BK647 := n5_
                      have BK651 := n6_
                      have HB := n7_
                      have BK658 := n8_
                      have GW658 := n9_
                      have GE658 := n10_
                      have NB633_658 := n11_
                      have NB658_633 := n12_
                      have NB634_658 := n13_
                      have NB658_634 := n14_
                      have NB640_658 := n15_
                      have NB658_640 := n16_
                      have NB647_658 := n17_
                      have NB658_647 := n18_
                      have NB651_658 := n19_
                      have NB658_651 := n20_
                      clear n0_ n1_ n2_ n3_ n4_ n5_ n6_ n7_ n8_ n9_ n10_ n11_ n12_ n13_ n14_ n15_ n16_ n17_ n18_ n19_ n20_
                      clear hb hbox hg
                      obtain ⟨Ao55, co55, eo55⟩ := Kd.R_slice HO654.out
                      (first | subst eo55 | (injection eo55 with f1_ f2_ f3_; have f4_ := f1_.symm; have f5_ := f3_.symm; clear f1_ f2_ f3_; subst f4_; subst f5_))
                      refine hK.out _ _ ⟨(blk_cell BK633.out 0).trans rfl, (blk_cell BK633.out 1).trans rfl, (blk_cell BK633.out 2).trans rfl⟩ (fun hHeld => ?_)
                      clear hK K
                      refine norm_ (a' := ?_) ?_ ?_
                      rotate_left
                      · show Act.put _ (some 13) _ = _
                        simp only [Act.put, List.setIfInBounds_toArray, List.set_cons_zero, List.set_cons_succ, i64_w, i32_w]
                        rfl
                      refine one_ (i := 3) (N := some 54) #[true, true, true, true, false, false, false, true, false, false] rfl rfl (one_of HT_.out (by kernel_rfl)) (by decide) (fun K hK => ?_)
                      refine goes_ Try.func64 (by kernel_rfl) rfl #[.slice Ao55 t652.length co55, .agg #[.string a1_0, .int .i64 a1_1, .int .i64 a1_2]] (by rfl) rfl rfl (by (try simp only [List.map_toArray, List.map_cons, List.map_nil]); first | done | rfl | (simp only [List.length_drop, List.length_take]; rfl)) ?_
                      with_reducible refine (metrolabref52_Value.calls k _ _ t652 a1_0 a1_1 a1_2 t655 t656 t657 _ ?side1 ?side2 A11.out).mono ?_
                      (case side1 => repeat (first | exact (Kd.R_reads' HO654.out).2.2 | (with_reducible refine Kd.C_alloc ?_ _) | (with_reducible refine Kd.C_drewN ?_ _) | (with_reducible refine Kd.C_drew ?_)))
                      (case side2 => exact (Kd.R_reads' HO654.out).2.1)
                      rintro e w56 ⟨rfl, hb⟩
                      refine ⟨_, rfl, ?_⟩
                      have n0_ := Aside0.mk (Kd.R_below (by (with_reducible repeat (first | apply Kd.R_alloc | apply Kd.R_drewN | apply Kd.R_drew)); exact HO643.out) hb)
                      have n1_ := Aside0.mk (Kd.R_below (by (with_reducible repeat (first | apply Kd.R_alloc | apply Kd.R_drewN | apply Kd.R_drew)); exact HO654.out) hb)
                      have n2_ := Aside0.mk (blk_below (g := gb633) (o := .cells #[.string a1_0, .int .i64 a1_1, .int .i64 a1_2] 51 (0, 0)) (by (with_reducible repeat (first | refine blk_drewN ?_ _ | refine blk_drew ?_ | refine blk_alloc ?_ _)); exact BK633.out) hb)
                      have n3_ := Aside0.mk (blk_below (g := gb634) (o := .cells #[.int .i64 a2_0, .int .i64 a2_1] 25 (0, 0)) (by (with_reducible repeat (first | refine blk_drewN ?_ _ | refine blk_drew ?_ | refine blk_alloc ?_ _)); exact BK634.out) hb)
                      have n4_ := Aside0.mk (blk_below (g := gb640) (o := .cells #[.int .i64 t637, .int .i64 t638] 25 (0, 0)) (by (with_reducible repeat (first | refine blk_drewN ?_ _ | refine blk_drew ?_ | refine blk_alloc ?_ _)); exact BK640.out) hb)
                      have n5_ := Aside0.mk (blk_below (g := gb647) (o := .cells #[.int .i64 t644, .int .i64 t645] 25 (0, 0)) (by (with_reducible repeat (first | refine blk_drewN ?_ _ | refine blk_drew ?_ | refine blk_alloc ?_ _)); exact BK647.out) hb)
                      have n6_ := Aside0.mk (blk_below (g := gb651) (o := .cells #[.int .i64 t648, .int .i64 t649] 25 (0, 0)) (by (with_reducible repeat (first | refine blk_drewN ?_ _ | refine blk_drew ?_ | refine blk_alloc ?_ _)); exact BK651.out) hb)
                      have n7_ := Aside0.mk (blk_below (g := gb658) (o := .cells #[.int .i64 0, .int .i64 0] 25 (0, 0)) (by (with_reducible repeat (first | refine blk_drewN ?_ _ | refine blk_drew ?_ | refine blk_alloc ?_ _)); exact BK658.out) hb)
                      have n8_ := Aside0.mk (below_step (by repeat (first | (with_reducible first | exact HB.out | apply below_alloc | apply pw_below_drewN | apply below_drew1 | refine below_set ?_ GE633.out | refine below_set ?_ GE634.out | refine below_set ?_ GE640.out | refine below_set ?_ GE647.out | refine below_set ?_ GE651.out | refine below_set ?_ GE658.out) | exact HB.out)) hb)
                      clear HO643
                      clear HO654
                      clear BK633
                      clear BK634
                      clear BK640
                      clear BK647
                      clear BK651
                      clear BK658
                      clear HB
                      have HO643 := n0_
                      have HO654 := n1_
                      have BK633 := n2_
                      have BK634 := n3_
                      have BK640 := n4_
                      have BK647 := n5_
                      have BK651 := n6_
                      have BK658 := n7_
                      have HB := n8_
                      clear n0_ n1_ n2_ n3_ n4_ n5_ n6_ n7_ n8_
                      (try clear hb)
                      (try clear hb2)
                      (try clear hk)
                      (try clear hi)
                      refine hK.out _ _ ⟨(blk_cell BK633.out 0).trans rfl, (blk_cell BK633.out 1).trans rfl, (blk_cell BK633.out 2).trans rfl⟩ (fun hHeld => ?_)
                      clear hK K
                      refine norm_ (a' := ?_) ?_ ?_
                      rotate_left
                      · show Act.put _ (some 54) _ = _
                        simp only [Act.put, List.setIfInBounds_toArray, List.set_cons_zero, List.set_cons_succ, i64_w, i32_w]
                        rfl
                      refine pure_ (i := 4) (N := some 50) (v := ?_) (a' := ?_) #[true, true, true, true, true, false, false, true, false, false] rfl rfl (any_of HT_.out (by kernel_rfl)) (fun _ _ _ h => h) (Or.inl ⟨by rfl, ?_⟩) ?_ ?_
                      rotate_left
                      · intro w'
                        go_simp
                        with_reducible rfl
                      rotate_left
                      · simp only [Act.put, List.setIfInBounds_toArray, List.set_cons_zero, List.set_cons_succ, i64_w, i32_w]
                        rfl
                      refine pure_ (i := 5) (N := some 55) (v := ?_) (a' := ?_) #[true, true, true, true, true, true, false, true, false, false] rfl rfl (any_of HT_.out (by kernel_rfl)) (fun _ _ _ h => h) (Or.inl ⟨by rfl, ?_⟩) ?_ ?_
                      rotate_left
                      · intro w'
                        go_simp
                        with_reducible rfl
                      rotate_left
                      · simp only [Act.put, List.setIfInBounds_toArray, List.set_cons_zero, List.set_cons_succ, i64_w, i32_w]
                        rfl
                      refine pure_ (i := 6) (N := some 56) (v := ?_) (a' := ?_) #[true, true, true, true, true, true, true, true, false, false] rfl rfl (any_of HT_.out (by kernel_rfl)) (fun _ _ _ h => h) (Or.inl ⟨by rfl, ?_⟩) ?_ ?_
                      rotate_left
                      · intro w'
                        go_simp
                        with_reducible rfl
                      rotate_left
                      · simp only [Act.put, List.setIfInBounds_toArray, List.set_cons_zero, List.set_cons_succ, i64_w, i32_w]
                        rfl
                      exact norm_ (by simp only [putAll, Act.put, List.setIfInBounds_toArray, List.set_cons_zero, List.set_cons_succ]) (hCont (.slice Ao55 t652.length co55, gb658) _ ⟨hHeld, (by (with_reducible repeat (first | apply Kd.R_alloc | apply Kd.R_drewN | apply Kd.R_drew)); exact Kd.R_mono HO643.out (fun _ hk => hk.2)), (by (with_reducible repeat (first | apply Kd.R_alloc | apply Kd.R_drewN | apply Kd.R_drew)); exact Kd.R_mono HO654.out (fun _ hk => hk.2)), (by (with_reducible repeat (first | refine blk_drewN ?_ _ | refine blk_drew ?_ | refine blk_alloc ?_ _)); exact BK633.out), (by (with_reducible repeat (first | refine blk_drewN ?_ _ | refine blk_drew ?_ | refine blk_alloc ?_ _)); exact BK634.out), (by (with_reducible repeat (first | refine blk_drewN ?_ _ | refine blk_drew ?_ | refine blk_alloc ?_ _)); exact BK640.out), (by (with_reducible repeat (first | refine blk_drewN ?_ _ | refine blk_drew ?_ | refine blk_alloc ?_ _)); exact BK647.out), (by (with_reducible repeat (first | refine blk_drewN ?_ _ | refine blk_drew ?_ | refine blk_alloc ?_ _)); exact BK651.out), (by (with_reducible repeat (first | refine blk_drewN ?_ _ | refine blk_drew ?_ | refine blk_alloc ?_ _)); exact BK658.out), GW658.out, GE658.out, NB633_658.out, NB658_633.out, NB634_658.out, NB658_634.out, NB640_658.out, NB658_640.out, NB647_658.out, NB658_647.out, NB651_658.out, NB658_651.out, (by repeat (first | (with_reducible first | exact HB.out | apply below_alloc | apply pw_below_drewN | apply below_drew1 | refine below_set ?_ GE633.out | refine below_set ?_ GE634.out | refine below_set ?_ GE640.out | refine below_set ?_ GE647.out | refine below_set ?_ GE651.out | refine below_set ?_ GE658.out) | exact HB.out))⟩)
                  · skip
                    refine box_step ?hg (N := 13) ?hd (cs := #[.int .i64 0, .int .i64 0]) (t := 25) ?hr ?_; (case hd => rfl); (case hg => rfl); (case hr => first | (go_simp; done) | (go_simp; rfl))
                    intro gb658 hg w53 hbox hb
                    have n0_ := Aside0.mk (Kd.R_below (by (with_reducible repeat (first | apply Kd.R_alloc | apply Kd.R_drewN | apply Kd.R_drew)); exact HO643.out) hb)
                    have n1_ := Aside0.mk (blk_below (g := gb633) (o := .cells #[.string a1_0, .int .i64 a1_1, .int .i64 a1_2] 51 (0, 0)) (by (with_reducible repeat (first | refine blk_drewN ?_ _ | refine blk_drew ?_ | refine blk_alloc ?_ _)); exact BK633.out) hb)
                    have n2_ := Aside0.mk (blk_below (g := gb634) (o := .cells #[.int .i64 a2_0, .int .i64 a2_1] 25 (0, 0)) (by (with_reducible repeat (first | refine blk_drewN ?_ _ | refine blk_drew ?_ | refine blk_alloc ?_ _)); exact BK634.out) hb)
                    have n3_ := Aside0.mk (blk_below (g := gb640) (o := .cells #[.int .i64 t637, .int .i64 t638] 25 (0, 0)) (by (with_reducible repeat (first | refine blk_drewN ?_ _ | refine blk_drew ?_ | refine blk_alloc ?_ _)); exact BK640.out) hb)
                    have n4_ := Aside0.mk (blk_below (g := gb647) (o := .cells #[.int .i64 t644, .int .i64 t645] 25 (0, 0)) (by (with_reducible repeat (first | refine blk_drewN ?_ _ | refine blk_drew ?_ | refine blk_alloc ?_ _)); exact BK647.out) hb)
                    have n5_ := Aside0.mk (blk_below (g := gb651) (o := .cells #[.int .i64 t648, .int .i64 t649] 25 (0, 0)) (by (with_reducible repeat (first | refine blk_drewN ?_ _ | refine blk_drew ?_ | refine blk_alloc ?_ _)); exact BK651.out) hb)
                    have n6_ := Aside0.mk (below_step (by repeat (first | (with_reducible first | exact HB.out | apply below_alloc | apply pw_below_drewN | apply below_drew1 | refine below_set ?_ GE633.out | refine below_set ?_ GE634.out | refine below_set ?_ GE640.out | refine below_set ?_ GE647.out | refine below_set ?_ GE651.out) | exact HB.out)) hb)
                    have n7_ := Aside0.mk (hbox)
                    have n8_ := Aside0.mk ((by rw [hg]; exact (below_size (by repeat (first | (with_reducible first | exact HB.out | apply below_alloc | apply pw_below_drewN | apply below_drew1 | refine below_set ?_ GE633.out | refine below_set ?_ GE634.out | refine below_set ?_ GE640.out | refine below_set ?_ GE647.out | refine below_set ?_ GE651.out) | exact HB.out))) : w.heap.size ≤ gb658))
                    have n9_ := Aside0.mk ((by rw [hg]; exact (below_size (by repeat (first | (with_reducible first | exact HB.out | apply below_alloc | apply pw_below_drewN | apply below_drew1 | refine below_set ?_ GE633.out | refine below_set ?_ GE634.out | refine below_set ?_ GE640.out | refine below_set ?_ GE647.out | refine below_set ?_ GE651.out) | exact HB.out))) : w.heap.size ≤ gb658))
                    have n10_ := Aside0.mk ((by rw [hg]; exact Nat.ne_of_lt (blk_lt (g := gb633) (o := .cells #[.string a1_0, .int .i64 a1_1, .int .i64 a1_2] 51 (0, 0)) (by (with_reducible repeat (first | refine blk_drewN ?_ _ | refine blk_drew ?_ | refine blk_alloc ?_ _)); exact BK633.out)) : gb633 ≠ gb658))
                    have n11_ := Aside0.mk ((by rw [hg]; exact Nat.ne_of_gt (blk_lt (g := gb633) (o := .cells #[.string a1_0, .int .i64 a1_1, .int .i64 a1_2] 51 (0, 0)) (by (with_reducible repeat (first | refine blk_drewN ?_ _ | refine blk_drew ?_ | refine blk_alloc ?_ _)); exact BK633.out)) : gb658 ≠ gb633))
                    have n12_ := Aside0.mk ((by rw [hg]; exact Nat.ne_of_lt (blk_lt (g := gb634) (o := .cells #[.int .i64 a2_0, .int .i64 a2_1] 25 (0, 0)) (by (with_reducible repeat (first | refine blk_drewN ?_ _ | refine blk_drew ?_ | refine blk_alloc ?_ _)); exact BK634.out)) : gb634 ≠ gb658))
                    have n13_ := Aside0.mk ((by rw [hg]; exact Nat.ne_of_gt (blk_lt (g := gb634) (o := .cells #[.int .i64 a2_0, .int .i64 a2_1] 25 (0, 0)) (by (with_reducible repeat (first | refine blk_drewN ?_ _ | refine blk_drew ?_ | refine blk_alloc ?_ _)); exact BK634.out)) : gb658 ≠ gb634))
                    have n14_ := Aside0.mk ((by rw [hg]; exact Nat.ne_of_lt (blk_lt (g := gb640) (o := .cells #[.int .i64 t637, .int .i64 t638] 25 (0, 0)) (by (with_reducible repeat (first | refine blk_drewN ?_ _ | refine blk_drew ?_ | refine blk_alloc ?_ _)); exact BK640.out)) : gb640 ≠ gb658))
                    have n15_ := Aside0.mk ((by rw [hg]; exact Nat.ne_of_gt (blk_lt (g := gb640) (o := .cells #[.int .i64 t637, .int .i64 t638] 25 (0, 0)) (by (with_reducible repeat (first | refine blk_drewN ?_ _ | refine blk_drew ?_ | refine blk_alloc ?_ _)); exact BK640.out)) : gb658 ≠ gb640))
                    have n16_ := Aside0.mk ((by rw [hg]; exact Nat.ne_of_lt (blk_lt (g := gb647) (o := .cells #[.int .i64 t644, .int .i64 t645] 25 (0, 0)) (by (with_reducible repeat (first | refine blk_drewN ?_ _ | refine blk_drew ?_ | refine blk_alloc ?_ _)); exact BK647.out)) : gb647 ≠ gb658))
                    have n17_ := Aside0.mk ((by rw [hg]; exact Nat.ne_of_gt (blk_lt (g := gb647) (o := .cells #[.int .i64 t644, .int .i64 t645] 25 (0, 0)) (by (with_reducible repeat (first | refine blk_drewN ?_ _ | refine blk_drew ?_ | refine blk_alloc ?_ _)); exact BK647.out)) : gb658 ≠ gb647))
                    have n18_ := Aside0.mk ((by rw [hg]; exact Nat.ne_of_lt (blk_lt (g := gb651) (o := .cells #[.int .i64 t648, .int .i64 t649] 25 (0, 0)) (by (with_reducible repeat (first | refine blk_drewN ?_ _ | refine blk_drew ?_ | refine blk_alloc ?_ _)); exact BK651.out)) : gb651 ≠ gb658))
                    have n19_ := Aside0.mk ((by rw [hg]; exact Nat.ne_of_gt (blk_lt (g := gb651) (o := .cells #[.int .i64 t648, .int .i64 t649] 25 (0, 0)) (by (with_reducible repeat (first | refine blk_drewN ?_ _ | refine blk_drew ?_ | refine blk_alloc ?_ _)); exact BK651.out)) : gb658 ≠ gb651))
                    clear HO643
                    clear BK633
                    clear BK634
                    clear BK640
                    clear BK647
                    clear BK651
                    clear HB
                    have HO643 := n0_
                    have BK633 := n1_
                    have BK634 := n2_
                    have BK640 := n3_
                    have BK647 := n4_
                    have BK651 := n5_
                    have HB := n6_
                    have BK658 := n7_
                    have GW658 := n8_
                    have GE658 := n9_
                    have NB633_658 := n10_
                    have NB658_633 := n11_
                    have NB634_658 := n12_
                    have NB658_634 := n13_
                    have NB640_658 := n14_
                    have NB658_640 := n15_
                    have NB647_658 := n16_
                    have NB658_647 := n17_
                    have NB651_658 := n18_
                    have NB658_651 := n19_
                    clear n0_ n1_ n2_ n3_ n4_ n5_ n6_ n7_ n8_ n9_ n10_ n11_ n12_ n13_ n14_ n15_ n16_ n17_ n18_ n19_
                    clear hb hbox hg
                    refine hK.out _ _ ⟨(blk_cell BK633.out 0).trans rfl, (blk_cell BK633.out 1).trans rfl, (blk_cell BK633.out 2).trans rfl⟩ (fun hHeld => ?_)
                    clear hK K
                    refine norm_ (a' := ?_) ?_ ?_
                    rotate_left
                    · show Act.put _ (some 13) _ = _
                      simp only [Act.put, List.setIfInBounds_toArray, List.set_cons_zero, List.set_cons_succ, i64_w, i32_w]
                      rfl
                    refine one_ (i := 1) (N := some 52) #[true, true, true, false, false, false, false, true, false, false] rfl rfl (one_of HT_.out (by kernel_rfl)) (by decide) (fun K hK => ?_)
                    refine goes_ Try.func37 (by kernel_rfl) rfl #[.slice A0 l0.length c0] (by rfl) rfl rfl (by (try simp only [List.map_toArray, List.map_cons, List.map_nil]); first | done | rfl | (simp only [List.length_drop, List.length_take]; rfl)) ?_
                    with_reducible refine (metrolablaw52_own.calls k _ _ l0 t652 _ ?side1 ?side2 A10.out).mono ?_
                    (case side1 => repeat (first | exact (Kd.C_below HR0.out HB.out) | (with_reducible refine Kd.C_alloc ?_ _) | (with_reducible refine Kd.C_drewN ?_ _) | (with_reducible refine Kd.C_drew ?_)))
                    (case side2 => exact HC0.out)
                    rintro e w54 ⟨v653, rfl, ho0, hb⟩
                    refine ⟨_, rfl, ?_⟩
                    have n0_ := Aside0.mk (Kd.R_elder' (by (with_reducible repeat (first | apply Kd.R_alloc | apply Kd.R_drewN | apply Kd.R_drew)); exact HO643.out) (Kd.R_base ho0) hb)
                    have n1_ := Aside0.mk (Kd.R_lower (Kd.R_new' ho0 (Kd.R_lt (by (with_reducible repeat (first | apply Kd.R_alloc | apply Kd.R_drewN | apply Kd.R_drew)); exact HO643.out))) (below_size (by repeat (first | (with_reducible first | exact HB.out | apply below_alloc | apply pw_below_drewN | apply below_drew1 | refine below_set ?_ GE633.out | refine below_set ?_ GE634.out | refine below_set ?_ GE640.out | refine below_set ?_ GE647.out | refine below_set ?_ GE651.out | refine below_set ?_ GE658.out) | exact HB.out))))
                    have n2_ := Aside0.mk (blk_below (g := gb633) (o := .cells #[.string a1_0, .int .i64 a1_1, .int .i64 a1_2] 51 (0, 0)) (by (with_reducible repeat (first | refine blk_drewN ?_ _ | refine blk_drew ?_ | refine blk_alloc ?_ _)); exact BK633.out) hb)
                    have n3_ := Aside0.mk (blk_below (g := gb634) (o := .cells #[.int .i64 a2_0, .int .i64 a2_1] 25 (0, 0)) (by (with_reducible repeat (first | refine blk_drewN ?_ _ | refine blk_drew ?_ | refine blk_alloc ?_ _)); exact BK634.out) hb)
                    have n4_ := Aside0.mk (blk_below (g := gb640) (o := .cells #[.int .i64 t637, .int .i64 t638] 25 (0, 0)) (by (with_reducible repeat (first | refine blk_drewN ?_ _ | refine blk_drew ?_ | refine blk_alloc ?_ _)); exact BK640.out) hb)
                    have n5_ := Aside0.mk (blk_below (g := gb647) (o := .cells #[.int .i64 t644, .int .i64 t645] 25 (0, 0)) (by (with_reducible repeat (first | refine blk_drewN ?_ _ | refine blk_drew ?_ | refine blk_alloc ?_ _)); exact BK647.out) hb)
                    have n6_ := Aside0.mk (blk_below (g := gb651) (o := .cells #[.int .i64 t648, .int .i64 t649] 25 (0, 0)) (by (with_reducible repeat (first | refine blk_drewN ?_ _ | refine blk_drew ?_ | refine blk_alloc ?_ _)); exact BK651.out) hb)
                    have n7_ := Aside0.mk (blk_below (g := gb658) (o := .cells #[.int .i64 0, .int .i64 0] 25 (0, 0)) (by (with_reducible repeat (first | refine blk_drewN ?_ _ | refine blk_drew ?_ | refine blk_alloc ?_ _)); exact BK658.out) hb)
                    have n8_ := Aside0.mk (below_step (by repeat (first | (with_reducible first | exact HB.out | apply below_alloc | apply pw_below_drewN | apply below_drew1 | refine below_set ?_ GE633.out | refine below_set ?_ GE634.out | refine below_set ?_ GE640.out | refine below_set ?_ GE647.out | refine below_set ?_ GE651.out | refine below_set ?_ GE658.out) | exact HB.out)) hb)
                    clear HO643
                    clear BK633
                    clear BK634
                    clear BK640
                    clear BK647
                    clear BK651
                    clear BK658
                    clear HB
                    have HO643 := n0_
                    have HO654 := n1_
                    have BK633 := n2_
                    have BK634 := n3_
                    have BK640 := n4_
                    have BK647 := n5_
                    have BK651 := n6_
                    have BK658 := n7_
                    have HB := n8_
                    clear n0_ n1_ n2_ n3_ n4_ n5_ n6_ n7_ n8_
                    (try clear hb)
                    (try clear hb2)
                    (try clear hk)
                    (try clear hi)
                    (try clear ho0)
                    obtain ⟨Ao55, co55, eo55⟩ := Kd.R_slice HO654.out
                    (first | subst eo55 | (injection eo55 with f1_ f2_ f3_; have f4_ := f1_.symm; have f5_ := f3_.symm; clear f1_ f2_ f3_; subst f4_; subst f5_))
                    refine hK.out _ _ ⟨(blk_cell BK633.out 0).trans rfl, (blk_cell BK633.out 1).trans rfl, (blk_cell BK633.out 2).trans rfl⟩ (fun hHeld => ?_)
                    clear hK K
                    refine norm_ (a' := ?_) ?_ ?_
                    rotate_left
                    · show Act.put _ (some 52) _ = _
                      simp only [Act.put, List.setIfInBounds_toArray, List.set_cons_zero, List.set_cons_succ, i64_w, i32_w]
                      rfl
                    refine one_ (i := 3) (N := some 54) #[true, true, true, true, false, false, false, true, false, false] rfl rfl (one_of HT_.out (by kernel_rfl)) (by decide) (fun K hK => ?_)
                    refine goes_ Try.func64 (by kernel_rfl) rfl #[.slice Ao55 t652.length co55, .agg #[.string a1_0, .int .i64 a1_1, .int .i64 a1_2]] (by rfl) rfl rfl (by (try simp only [List.map_toArray, List.map_cons, List.map_nil]); first | done | rfl | (simp only [List.length_drop, List.length_take]; rfl)) ?_
                    with_reducible refine (metrolabref52_Value.calls k _ _ t652 a1_0 a1_1 a1_2 t655 t656 t657 _ ?side1 ?side2 A11.out).mono ?_
                    (case side1 => repeat (first | exact (Kd.R_reads' HO654.out).2.2 | (with_reducible refine Kd.C_alloc ?_ _) | (with_reducible refine Kd.C_drewN ?_ _) | (with_reducible refine Kd.C_drew ?_)))
                    (case side2 => exact (Kd.R_reads' HO654.out).2.1)
                    rintro e w56 ⟨rfl, hb⟩
                    refine ⟨_, rfl, ?_⟩
                    have n0_ := Aside0.mk (Kd.R_below (by (with_reducible repeat (first | apply Kd.R_alloc | apply Kd.R_drewN | apply Kd.R_drew)); exact HO643.out) hb)
                    have n1_ := Aside0.mk (Kd.R_below (by (with_reducible repeat (first | apply Kd.R_alloc | apply Kd.R_drewN | apply Kd.R_drew)); exact HO654.out) hb)
                    have n2_ := Aside0.mk (blk_below (g := gb633) (o := .cells #[.string a1_0, .int .i64 a1_1, .int .i64 a1_2] 51 (0, 0)) (by (with_reducible repeat (first | refine blk_drewN ?_ _ | refine blk_drew ?_ | refine blk_alloc ?_ _)); exact BK633.out) hb)
                    have n3_ := Aside0.mk (blk_below (g := gb634) (o := .cells #[.int .i64 a2_0, .int .i64 a2_1] 25 (0, 0)) (by (with_reducible repeat (first | refine blk_drewN ?_ _ | refine blk_drew ?_ | refine blk_alloc ?_ _)); exact BK634.out) hb)
                    have n4_ := Aside0.mk (blk_below (g := gb640) (o := .cells #[.int .i64 t637, .int .i64 t638] 25 (0, 0)) (by (with_reducible repeat (first | refine blk_drewN ?_ _ | refine blk_drew ?_ | refine blk_alloc ?_ _)); exact BK640.out) hb)
                    have n5_ := Aside0.mk (blk_below (g := gb647) (o := .cells #[.int .i64 t644, .int .i64 t645] 25 (0, 0)) (by (with_reducible repeat (first | refine blk_drewN ?_ _ | refine blk_drew ?_ | refine blk_alloc ?_ _)); exact BK647.out) hb)
                    have n6_ := Aside0.mk (blk_below (g := gb651) (o := .cells #[.int .i64 t648, .int .i64 t649] 25 (0, 0)) (by (with_reducible repeat (first | refine blk_drewN ?_ _ | refine blk_drew ?_ | refine blk_alloc ?_ _)); exact BK651.out) hb)
                    have n7_ := Aside0.mk (blk_below (g := gb658) (o := .cells #[.int .i64 0, .int .i64 0] 25 (0, 0)) (by (with_reducible repeat (first | refine blk_drewN ?_ _ | refine blk_drew ?_ | refine blk_alloc ?_ _)); exact BK658.out) hb)
                    have n8_ := Aside0.mk (below_step (by repeat (first | (with_reducible first | exact HB.out | apply below_alloc | apply pw_below_drewN | apply below_drew1 | refine below_set ?_ GE633.out | refine below_set ?_ GE634.out | refine below_set ?_ GE640.out | refine below_set ?_ GE647.out | refine below_set ?_ GE651.out | refine below_set ?_ GE658.out) | exact HB.out)) hb)
                    clear HO643
                    clear HO654
                    clear BK633
                    clear BK634
                    clear BK640
                    clear BK647
                    clear BK651
                    clear BK658
                    clear HB
                    have HO643 := n0_
                    have HO654 := n1_
                    have BK633 := n2_
                    have BK634 := n3_
                    have BK640 := n4_
                    have BK647 := n5_
                    have BK651 := n6_
                    have BK658 := n7_
                    have HB := n8_
                    clear n0_ n1_ n2_ n3_ n4_ n5_ n6_ n7_ n8_
                    (try clear hb)
                    (try clear hb2)
                    (try clear hk)
                    (try clear hi)
                    refine hK.out _ _ ⟨(blk_cell BK633.out 0).trans rfl, (blk_cell BK633.out 1).trans rfl, (blk_cell BK633.out 2).trans rfl⟩ (fun hHeld => ?_)
                    clear hK K
                    refine norm_ (a' := ?_) ?_ ?_
                    rotate_left
                    · show Act.put _ (some 54) _ = _
                      simp only [Act.put, List.setIfInBounds_toArray, List.set_cons_zero, List.set_cons_succ, i64_w, i32_w]
                      rfl
                    refine pure_ (i := 4) (N := some 50) (v := ?_) (a' := ?_) #[true, true, true, true, true, false, false, true, false, false] rfl rfl (any_of HT_.out (by kernel_rfl)) (fun _ _ _ h => h) (Or.inl ⟨by rfl, ?_⟩) ?_ ?_
                    rotate_left
                    · intro w'
                      go_simp
                      with_reducible rfl
                    rotate_left
                    · simp only [Act.put, List.setIfInBounds_toArray, List.set_cons_zero, List.set_cons_succ, i64_w, i32_w]
                      rfl
                    refine pure_ (i := 5) (N := some 55) (v := ?_) (a' := ?_) #[true, true, true, true, true, true, false, true, false, false] rfl rfl (any_of HT_.out (by kernel_rfl)) (fun _ _ _ h => h) (Or.inl ⟨by rfl, ?_⟩) ?_ ?_
                    rotate_left
                    · intro w'
                      go_simp
                      with_reducible rfl
                    rotate_left
                    · simp only [Act.put, List.setIfInBounds_toArray, List.set_cons_zero, List.set_cons_succ, i64_w, i32_w]
                      rfl
                    refine pure_ (i := 6) (N := some 56) (v := ?_) (a' := ?_) #[true, true, true, true, true, true, true, true, false, false] rfl rfl (any_of HT_.out (by kernel_rfl)) (fun _ _ _ h => h) (Or.inl ⟨by rfl, ?_⟩) ?_ ?_
                    rotate_left
                    · intro w'
                      go_simp
                      with_reducible rfl
                    rotate_left
                    · simp only [Act.put, List.setIfInBounds_toArray, List.set_cons_zero, List.set_cons_succ, i64_w, i32_w]
                      rfl
                    exact norm_ (by simp only [putAll, Act.put, List.setIfInBounds_toArray, List.set_cons_zero, List.set_cons_succ]) (hCont (.slice Ao55 t652.length co55, gb658) _ ⟨hHeld, (by (with_reducible repeat (first | apply Kd.R_alloc | apply Kd.R_drewN | apply Kd.R_drew)); exact Kd.R_mono HO643.out (fun _ hk => hk.2)), (by (with_reducible repeat (first | apply Kd.R_alloc | apply Kd.R_drewN | apply Kd.R_drew)); exact Kd.R_mono HO654.out (fun _ hk => hk.2)), (by (with_reducible repeat (first | refine blk_drewN ?_ _ | refine blk_drew ?_ | refine blk_alloc ?_ _)); exact BK633.out), (by (with_reducible repeat (first | refine blk_drewN ?_ _ | refine blk_drew ?_ | refine blk_alloc ?_ _)); exact BK634.out), (by (with_reducible repeat (first | refine blk_drewN ?_ _ | refine blk_drew ?_ | refine blk_alloc ?_ _)); exact BK640.out), (by (with_reducible repeat (first | refine blk_drewN ?_ _ | refine blk_drew ?_ | refine blk_alloc ?_ _)); exact BK647.out), (by (with_reducible repeat (first | refine blk_drewN ?_ _ | refine blk_drew ?_ | refine blk_alloc ?_ _)); exact BK651.out), (by (with_reducible repeat (first | refine blk_drewN ?_ _ | refine blk_drew ?_ | refine blk_alloc ?_ _)); exact BK658.out), GW658.out, GE658.out, NB633_658.out, NB658_633.out, NB634_658.out, NB658_634.out, NB640_658.out, NB658_640.out, NB647_658.out, NB658_647.out, NB651_658.out, NB658_651.out, (by repeat (first | (with_reducible first | exact HB.out | apply below_alloc | apply pw_below_drewN | apply below_drew1 | refine below_set ?_ GE633.out | refine below_set ?_ GE634.out | refine below_set ?_ GE640.out | refine below_set ?_ GE647.out | refine below_set ?_ GE651.out | refine below_set ?_ GE658.out) | exact HB.out))⟩)
                rintro ⟨v653, gb658⟩ w57 ⟨hS_, h0_, h1_, h2_, h3_, h4_, h5_, h6_, h7_, h8_, h9_, h10_, h11_, h12_, h13_, h14_, h15_, h16_, h17_, h18_, h19_, h20_⟩
                have n0_ : Aside0 (Kd.R k121 121 w57 w.heap.size (fun k_ => some k_ ≠ (v653 : Value).ownBlock) v642 t641) := ⟨h0_⟩
                have n1_ : Aside0 (Kd.R k121 121 w57 w.heap.size (fun k_ => some k_ ≠ (v642 : Value).ownBlock) v653 t652) := ⟨h1_⟩
                have n2_ : Aside0 (w57.heap[gb633]? = some (.cells #[.string a1_0, .int .i64 a1_1, .int .i64 a1_2] 51 (0, 0))) := ⟨h2_⟩
                have n3_ : Aside0 (w57.heap[gb634]? = some (.cells #[.int .i64 a2_0, .int .i64 a2_1] 25 (0, 0))) := ⟨h3_⟩
                have n4_ : Aside0 (w57.heap[gb640]? = some (.cells #[.int .i64 t637, .int .i64 t638] 25 (0, 0))) := ⟨h4_⟩
                have n5_ : Aside0 (w57.heap[gb647]? = some (.cells #[.int .i64 t644, .int .i64 t645] 25 (0, 0))) := ⟨h5_⟩
                have n6_ : Aside0 (w57.heap[gb651]? = some (.cells #[.int .i64 t648, .int .i64 t649] 25 (0, 0))) := ⟨h6_⟩
                have n7_ : Aside0 (w57.heap[gb658]? = some (.cells #[.int .i64 0, .int .i64 0] 25 (0, 0))) := ⟨h7_⟩
                have n8_ : Aside0 (w.heap.size ≤ gb658) := ⟨h8_⟩
                have n9_ : Aside0 (w.heap.size ≤ gb658) := ⟨h9_⟩
                have n10_ : Aside0 (gb633 ≠ gb658) := ⟨h10_⟩
                have n11_ : Aside0 (gb658 ≠ gb633) := ⟨h11_⟩
                have n12_ : Aside0 (gb634 ≠ gb658) := ⟨h12_⟩
                have n13_ : Aside0 (gb658 ≠ gb634) := ⟨h13_⟩
                have n14_ : Aside0 (gb640 ≠ gb658) := ⟨h14_⟩
                have n15_ : Aside0 (gb658 ≠ gb640) := ⟨h15_⟩
                have n16_ : Aside0 (gb647 ≠ gb658) := ⟨h16_⟩
                have n17_ : Aside0 (gb658 ≠ gb647) := ⟨h17_⟩
                have n18_ : Aside0 (gb651 ≠ gb658) := ⟨h18_⟩
                have n19_ : Aside0 (gb658 ≠ gb651) := ⟨h19_⟩
                have n20_ : Aside0 (Below w.heap.size w w57) := ⟨h20_⟩
                clear HO643
                clear BK633
                clear BK634
                clear BK640
                clear BK647
                clear BK651
                clear HB
                clear h0_ h1_ h2_ h3_ h4_ h5_ h6_ h7_ h8_ h9_ h10_ h11_ h12_ h13_ h14_ h15_ h16_ h17_ h18_ h19_ h20_
                have HO643 := n0_
                have HO654 := n1_
                have BK633 := n2_
                have BK634 := n3_
                have BK640 := n4_
                have BK647 := n5_
                have BK651 := n6_
                have BK658 := n7_
                have GW658 := n8_
                have GE658 := n9_
                have NB633_658 := n10_
                have NB658_633 := n11_
                have NB634_658 := n12_
                have NB658_634 := n13_
                have NB640_658 := n14_
                have NB658_640 := n15_
                have NB647_658 := n16_
                have NB658_647 := n17_
                have NB651_658 := n18_
                have NB658_651 := n19_
                have HB := n20_
                clear n0_ n1_ n2_ n3_ n4_ n5_ n6_ n7_ n8_ n9_ n10_ n11_ n12_ n13_ n14_ n15_ n16_ n17_ n18_ n19_ n20_
                have hHeld : w57.cell? ⟨gb633, 0, none⟩ = some (.string a1_0) ∧ w57.cell? ⟨gb633, 1, none⟩ = some (.int .i64 a1_1) ∧ w57.cell? ⟨gb633, 2, none⟩ = some (.int .i64 a1_2) := hS_
                refine norm_ (a' := ?_) ?_ ?_
                rotate_left
                · simp only [putAll, Act.put, List.setIfInBounds_toArray, List.set_cons_zero, List.set_cons_succ]
                  rfl
                refine one_ (i := 8) (N := none) #[true, true, true, true, true, true, true, true, true, false] rfl rfl (one_of HT_.out (by kernel_rfl)) (by decide) (fun K hK => ?_)
                have hs58 : w57.cell? ⟨gb658, 0, none⟩ = some (.int .i64 0) := (blk_cell BK658.out 0).trans rfl
                have hfs58 := blk_frozen BK658.out 0
                have hns58_0 := NB633_658.out
                have hns58_1 := NB634_658.out
                have hns58_2 := NB640_658.out
                have hns58_3 := NB647_658.out
                have hns58_4 := NB651_658.out
                have hms58_0 := NB658_633.out
                have hms58_1 := NB658_634.out
                have hms58_2 := NB658_640.out
                have hms58_3 := NB658_647.out
                have hms58_4 := NB658_651.out
                have hs59 : w57.cell? ⟨gb658, 1, none⟩ = some (.int .i64 0) := (blk_cell BK658.out 1).trans rfl
                have hfs59 := blk_frozen BK658.out 1
                have hns59_0 := NB633_658.out
                have hns59_1 := NB634_658.out
                have hns59_2 := NB640_658.out
                have hns59_3 := NB647_658.out
                have hns59_4 := NB651_658.out
                have hms59_0 := NB658_633.out
                have hms59_1 := NB658_634.out
                have hms59_2 := NB658_640.out
                have hms59_3 := NB658_647.out
                have hms59_4 := NB658_651.out
                refine skip_ (w1 := ?_) (by rfl) rfl ?_ ?_
                rotate_left
                · go_simp
                  rfl
                refine hK.out _ _ ⟨((cell_far (p := ⟨gb658, _, none⟩) NB633_658.out _).trans (((cell_far (p := ⟨gb658, _, none⟩) NB633_658.out _).trans (hHeld.1)))), ((cell_far (p := ⟨gb658, _, none⟩) NB633_658.out _).trans (((cell_far (p := ⟨gb658, _, none⟩) NB633_658.out _).trans (hHeld.2.1)))), ((cell_far (p := ⟨gb658, _, none⟩) NB633_658.out _).trans (((cell_far (p := ⟨gb658, _, none⟩) NB633_658.out _).trans (hHeld.2.2))))⟩ (fun hHeld => ?_)
                clear hK K
                refine pure_ (i := 9) (N := some 14) (v := ?_) (a' := ?_) #[true, true, true, true, true, true, true, true, true, true] rfl rfl (any_of HT_.out (by kernel_rfl)) (fun _ _ _ h => h) (Or.inl ⟨by rfl, ?_⟩) ?_ ?_
                rotate_left
                · intro w'
                  go_simp
                  with_reducible rfl
                rotate_left
                · simp only [Act.put, List.setIfInBounds_toArray, List.set_cons_zero, List.set_cons_succ, i64_w, i32_w]
                  rfl
                refine done_ (done_of HT_.out (by kernel_rfl)) ?_
                have hnb60 := NB633_658.out
                have hnc60 := NB658_633.out
                have hcz61_0 : w57.cell? ⟨gb633, 0, none⟩ = some (.string a1_0) := (blk_cell BK633.out 0).trans rfl
                have hcz61_1 : w57.cell? ⟨gb633, 1, none⟩ = some (.int .i64 a1_1) := (blk_cell BK633.out 1).trans rfl
                have hcz61_2 : w57.cell? ⟨gb633, 2, none⟩ = some (.int .i64 a1_2) := (blk_cell BK633.out 2).trans rfl
                have hfz61_0 := blk_frozen BK633.out 0
                have hfz61_1 := blk_frozen BK633.out 1
                have hfz61_2 := blk_frozen BK633.out 2
                have hnb62 := NB634_647.out
                have hnc62 := NB647_634.out
                have hnb63 := NB634_658.out
                have hnc63 := NB658_634.out
                have hcz64_0 : w57.cell? ⟨gb634, 0, none⟩ = some (.int .i64 a2_0) := (blk_cell BK634.out 0).trans rfl
                have hcz64_1 : w57.cell? ⟨gb634, 1, none⟩ = some (.int .i64 a2_1) := (blk_cell BK634.out 1).trans rfl
                have hfz64_0 := blk_frozen BK634.out 0
                have hfz64_1 := blk_frozen BK634.out 1
                try go_wp2_with (first | ((with_reducible refine gate_callee (f := 35) rfl ?_); refine goesL_ (some 61) rfl rfl Try.func35 (by kernel_rfl) rfl #[.slice A0 l0.length c0, .agg #[.string a1_0, .int .i64 a1_1, .int .i64 a1_2], .agg #[.int .i64 a2_0, .int .i64 a2_1]] rfl (by (try simp only [List.map_toArray, List.map_cons, List.map_nil]); first | done | rfl | (simp only [List.length_drop, List.length_take]; rfl)) ?_; (with_reducible refine (calibrate_Judge.calls k _ _ l0 a1_0 a1_1 a1_2 a2_0 a2_1 t659 t660 _ ?side1 ?side2 A12.out).mono ?_); (case side1 => exact Kd.C_below HR0.out (by repeat (first | (with_reducible first | exact HB.out | apply below_alloc | apply pw_below_drewN | apply below_drew1 | refine below_set ?_ GE633.out | refine below_set ?_ GE634.out | refine below_set ?_ GE640.out | refine below_set ?_ GE647.out | refine below_set ?_ GE651.out | refine below_set ?_ GE658.out) | exact HB.out))); (case side2 => exact HC0.out); rintro e w65 ⟨rfl, hb⟩; refine ⟨_, rfl, ?_⟩; have n0_ := Aside0.mk (Kd.R_below (by (with_reducible repeat (first | apply Kd.R_alloc | apply Kd.R_drewN | apply Kd.R_drew)); exact (Kd.R_mono (Kd.R_far (p := ⟨gb658, 1, none⟩) (Kd.R_far (p := ⟨gb658, 0, none⟩) (Kd.R_types HO643.out BK658.out (by decide)) (fun _ hk => hk.2) (.int .i64 t655)) (fun _ hk => hk.2) (.int .i64 t656)) (fun _ h_ => h_.1))) hb); have n1_ := Aside0.mk (Kd.R_below (by (with_reducible repeat (first | apply Kd.R_alloc | apply Kd.R_drewN | apply Kd.R_drew)); exact (Kd.R_mono (Kd.R_far (p := ⟨gb658, 1, none⟩) (Kd.R_far (p := ⟨gb658, 0, none⟩) (Kd.R_types HO654.out BK658.out (by decide)) (fun _ hk => hk.2) (.int .i64 t655)) (fun _ hk => hk.2) (.int .i64 t656)) (fun _ h_ => h_.1))) hb); have n2_ := Aside0.mk (blk_below (g := gb633) (o := .cells #[.string a1_0, .int .i64 a1_1, .int .i64 a1_2] 51 (0, 0)) (by (with_reducible repeat (first | refine blk_drewN ?_ _ | refine blk_drew ?_ | refine blk_alloc ?_ _)); refine blk_far ?_ NB633_658.out _; (with_reducible repeat (first | refine blk_drewN ?_ _ | refine blk_drew ?_ | refine blk_alloc ?_ _)); refine blk_far ?_ NB633_658.out _; (with_reducible repeat (first | refine blk_drewN ?_ _ | refine blk_drew ?_ | refine blk_alloc ?_ _)); exact BK633.out) hb); have n3_ := Aside0.mk (blk_below (g := gb634) (o := .cells #[.int .i64 a2_0, .int .i64 a2_1] 25 (0, 0)) (by (with_reducible repeat (first | refine blk_drewN ?_ _ | refine blk_drew ?_ | refine blk_alloc ?_ _)); refine blk_far ?_ NB634_658.out _; (with_reducible repeat (first | refine blk_drewN ?_ _ | refine blk_drew ?_ | refine blk_alloc ?_ _)); refine blk_far ?_ NB634_658.out _; (with_reducible repeat (first | refine blk_drewN ?_ _ | refine blk_drew ?_ | refine blk_alloc ?_ _)); exact BK634.out) hb); have n4_ := Aside0.mk (blk_below (g := gb640) (o := .cells #[.int .i64 t637, .int .i64 t638] 25 (0, 0)) (by (with_reducible repeat (first | refine blk_drewN ?_ _ | refine blk_drew ?_ | refine blk_alloc ?_ _)); refine blk_far ?_ NB640_658.out _; (with_reducible repeat (first | refine blk_drewN ?_ _ | refine blk_drew ?_ | refine blk_alloc ?_ _)); refine blk_far ?_ NB640_658.out _; (with_reducible repeat (first | refine blk_drewN ?_ _ | refine blk_drew ?_ | refine blk_alloc ?_ _)); exact BK640.out) hb); have n5_ := Aside0.mk (blk_below (g := gb647) (o := .cells #[.int .i64 t644, .int .i64 t645] 25 (0, 0)) (by (with_reducible repeat (first | refine blk_drewN ?_ _ | refine blk_drew ?_ | refine blk_alloc ?_ _)); refine blk_far ?_ NB647_658.out _; (with_reducible repeat (first | refine blk_drewN ?_ _ | refine blk_drew ?_ | refine blk_alloc ?_ _)); refine blk_far ?_ NB647_658.out _; (with_reducible repeat (first | refine blk_drewN ?_ _ | refine blk_drew ?_ | refine blk_alloc ?_ _)); exact BK647.out) hb); have n6_ := Aside0.mk (blk_below (g := gb651) (o := .cells #[.int .i64 t648, .int .i64 t649] 25 (0, 0)) (by (with_reducible repeat (first | refine blk_drewN ?_ _ | refine blk_drew ?_ | refine blk_alloc ?_ _)); refine blk_far ?_ NB651_658.out _; (with_reducible repeat (first | refine blk_drewN ?_ _ | refine blk_drew ?_ | refine blk_alloc ?_ _)); refine blk_far ?_ NB651_658.out _; (with_reducible repeat (first | refine blk_drewN ?_ _ | refine blk_drew ?_ | refine blk_alloc ?_ _)); exact BK651.out) hb); have n7_ := Aside0.mk (blk_below (g := gb658) (o := .cells #[.int .i64 t655, .int .i64 t656] 25 (0, 0)) (by (with_reducible repeat (first | refine blk_drewN ?_ _ | refine blk_drew ?_ | refine blk_alloc ?_ _)); refine blk_put (cs := #[.int .i64 t655, .int .i64 0]) ?_ 1 _ rfl; (with_reducible repeat (first | refine blk_drewN ?_ _ | refine blk_drew ?_ | refine blk_alloc ?_ _)); refine blk_put (cs := #[.int .i64 0, .int .i64 0]) ?_ 0 _ rfl; (with_reducible repeat (first | refine blk_drewN ?_ _ | refine blk_drew ?_ | refine blk_alloc ?_ _)); exact BK658.out) hb); have n8_ := Aside0.mk (below_step (by repeat (first | (with_reducible first | exact HB.out | apply below_alloc | apply pw_below_drewN | apply below_drew1 | refine below_set ?_ GE633.out | refine below_set ?_ GE634.out | refine below_set ?_ GE640.out | refine below_set ?_ GE647.out | refine below_set ?_ GE651.out | refine below_set ?_ GE658.out) | exact HB.out)) hb); clear HO643; clear HO654; clear BK633; clear BK634; clear BK640; clear BK647; clear BK651; clear BK658; clear HB; have HO643 := n0_; have HO654 := n1_; have BK633 := n2_; have BK634 := n3_; have BK640 := n4_; have BK647 := n5_; have BK651 := n6_; have BK658 := n7_; have HB := n8_; clear n0_ n1_ n2_ n3_ n4_ n5_ n6_ n7_ n8_; (try clear hb); (try clear hb2); (try clear hk); (try clear hi)))
                have n0_ := Aside0.mk (Kd.R_drew HO643.out)
                have n1_ := Aside0.mk (Kd.R_drew HO654.out)
                have n2_ := Aside0.mk (blk_drew BK633.out)
                have n3_ := Aside0.mk (blk_drew BK634.out)
                have n4_ := Aside0.mk (blk_drew BK640.out)
                have n5_ := Aside0.mk (blk_drew BK647.out)
                have n6_ := Aside0.mk (blk_drew BK651.out)
                have n7_ := Aside0.mk (blk_drew BK658.out)
                have n8_ := Aside0.mk (below_drew1 HB.out)
                clear HO643
                clear HO654
                clear BK633
                clear BK634
                clear BK640
                clear BK647
                clear BK651
                clear BK658
                clear HB
                have HO643 := n0_
                have HO654 := n1_
                have BK633 := n2_
                have BK634 := n3_
                have BK640 := n4_
                have BK647 := n5_
                have BK651 := n6_
                have BK658 := n7_
                have HB := n8_
                clear n0_ n1_ n2_ n3_ n4_ n5_ n6_ n7_ n8_
                refine start_ (n := 10) (S := fun w' => w'.cell? ⟨gb633, 0, none⟩ = some (.string a1_0) ∧ w'.cell? ⟨gb633, 1, none⟩ = some (.int .i64 a1_1) ∧ w'.cell? ⟨gb633, 2, none⟩ = some (.int .i64 a1_2) ∧ w'.cell? ⟨gb634, 0, none⟩ = some (.int .i64 a2_0) ∧ w'.cell? ⟨gb634, 1, none⟩ = some (.int .i64 a2_1)) (ds := []) #[false, false, false, false, false, false, false, false, false, false] (by kernel_rfl) rfl rfl ⟨(blk_cell BK633.out 0).trans rfl, (blk_cell BK633.out 1).trans rfl, (blk_cell BK633.out 2).trans rfl, (blk_cell BK634.out 0).trans rfl, (blk_cell BK634.out 1).trans rfl⟩ (fun hHeld => ?_); refine with_tabW metrolablaw52_CalibrateJudges.tab8 metrolablaw52_CalibrateJudges.bits8 (fun HT_ HW_ => ?_)
                generalize w65.drew = w66 at HO643 HO654 BK633 BK634 BK640 BK647 BK651 BK658 HB hHeld ⊢
                refine pure_ (i := 0) (N := some 65) (v := ?_) (a' := ?_) #[true, false, false, false, false, false, false, false, false, false] rfl rfl (any_of HT_.out (by kernel_rfl)) (fun _ _ _ h => h) (Or.inl ⟨by rfl, ?_⟩) ?_ ?_
                rotate_left
                · intro w'
                  go_simp
                  with_reducible rfl
                rotate_left
                · simp only [Act.put, List.setIfInBounds_toArray, List.set_cons_zero, List.set_cons_succ, i64_w, i32_w]
                  rfl
                refine take_ (i := 2) (N := some 67) (v := ?_) (a' := ?_) #[true, false, true, false, false, false, false, false, false, false] rfl rfl (take_ofW HT_.out HW_.out (by kernel_rfl)) (fun _ _ _ h => h) (Or.inl ⟨by rfl, ?_⟩) hHeld ?_ ?_
                rotate_left
                · rintro w' ⟨s0, s1, s2, s3, s4⟩
                  go_simp
                  with_reducible rfl
                rotate_left
                · simp only [Act.put, List.setIfInBounds_toArray, List.set_cons_zero, List.set_cons_succ, i64_w, i32_w]
                  rfl
                refine take_ (i := 3) (N := some 68) (v := ?_) (a' := ?_) #[true, false, true, true, false, false, false, false, false, false] rfl rfl (take_ofW HT_.out HW_.out (by kernel_rfl)) (fun _ _ _ h => h) (Or.inl ⟨by rfl, ?_⟩) hHeld ?_ ?_
                rotate_left
                · rintro w' ⟨s0, s1, s2, s3, s4⟩
                  go_simp
                  with_reducible rfl
                rotate_left
                · simp only [Act.put, List.setIfInBounds_toArray, List.set_cons_zero, List.set_cons_succ, i64_w, i32_w]
                  rfl
                refine one_ (i := 1) (N := some 66) #[true, true, true, true, false, false, false, false, false, false] rfl rfl (one_of HT_.out (by kernel_rfl)) (by decide) (fun K hK => ?_)
                refine goes_ Try.func37 (by kernel_rfl) rfl #[.slice A0 l0.length c0] (by rfl) rfl rfl (by (try simp only [List.map_toArray, List.map_cons, List.map_nil]); first | done | rfl | (simp only [List.length_drop, List.length_take]; rfl)) ?_
                with_reducible refine (metrolablaw52_own.calls k _ _ l0 t661 _ ?side1 ?side2 A13.out).mono ?_
                (case side1 => repeat (first | exact (Kd.C_below HR0.out HB.out) | (with_reducible refine Kd.C_alloc ?_ _) | (with_reducible refine Kd.C_drewN ?_ _) | (with_reducible refine Kd.C_drew ?_)))
                (case side2 => exact HC0.out)
                rintro e w67 ⟨v662, rfl, ho0, hb⟩
                refine ⟨_, rfl, ?_⟩
                have n0_ := Aside0.mk (Kd.R_elder' (by (with_reducible repeat (first | apply Kd.R_alloc | apply Kd.R_drewN | apply Kd.R_drew)); exact HO643.out) (Kd.R_base ho0) hb)
                have n1_ := Aside0.mk (Kd.R_elder' (by (with_reducible repeat (first | apply Kd.R_alloc | apply Kd.R_drewN | apply Kd.R_drew)); exact HO654.out) (Kd.R_base ho0) hb)
                have n2_ := Aside0.mk (Kd.R_lower (Kd.R_new' (Kd.R_new' ho0 (Kd.R_lt (by (with_reducible repeat (first | apply Kd.R_alloc | apply Kd.R_drewN | apply Kd.R_drew)); exact HO643.out))) (Kd.R_lt (by (with_reducible repeat (first | apply Kd.R_alloc | apply Kd.R_drewN | apply Kd.R_drew)); exact HO654.out))) (below_size (by repeat (first | (with_reducible first | exact HB.out | apply below_alloc | apply pw_below_drewN | apply below_drew1 | refine below_set ?_ GE633.out | refine below_set ?_ GE634.out | refine below_set ?_ GE640.out | refine below_set ?_ GE647.out | refine below_set ?_ GE651.out | refine below_set ?_ GE658.out) | exact HB.out))))
                have n3_ := Aside0.mk (blk_below (g := gb633) (o := .cells #[.string a1_0, .int .i64 a1_1, .int .i64 a1_2] 51 (0, 0)) (by (with_reducible repeat (first | refine blk_drewN ?_ _ | refine blk_drew ?_ | refine blk_alloc ?_ _)); exact BK633.out) hb)
                have n4_ := Aside0.mk (blk_below (g := gb634) (o := .cells #[.int .i64 a2_0, .int .i64 a2_1] 25 (0, 0)) (by (with_reducible repeat (first | refine blk_drewN ?_ _ | refine blk_drew ?_ | refine blk_alloc ?_ _)); exact BK634.out) hb)
                have n5_ := Aside0.mk (blk_below (g := gb640) (o := .cells #[.int .i64 t637, .int .i64 t638] 25 (0, 0)) (by (with_reducible repeat (first | refine blk_drewN ?_ _ | refine blk_drew ?_ | refine blk_alloc ?_ _)); exact BK640.out) hb)
                have n6_ := Aside0.mk (blk_below (g := gb647) (o := .cells #[.int .i64 t644, .int .i64 t645] 25 (0, 0)) (by (with_reducible repeat (first | refine blk_drewN ?_ _ | refine blk_drew ?_ | refine blk_alloc ?_ _)); exact BK647.out) hb)
                have n7_ := Aside0.mk (blk_below (g := gb651) (o := .cells #[.int .i64 t648, .int .i64 t649] 25 (0, 0)) (by (with_reducible repeat (first | refine blk_drewN ?_ _ | refine blk_drew ?_ | refine blk_alloc ?_ _)); exact BK651.out) hb)
                have n8_ := Aside0.mk (blk_below (g := gb658) (o := .cells #[.int .i64 t655, .int .i64 t656] 25 (0, 0)) (by (with_reducible repeat (first | refine blk_drewN ?_ _ | refine blk_drew ?_ | refine blk_alloc ?_ _)); exact BK658.out) hb)
                have n9_ := Aside0.mk (below_step (by repeat (first | (with_reducible first | exact HB.out | apply below_alloc | apply pw_below_drewN | apply below_drew1 | refine below_set ?_ GE633.out | refine below_set ?_ GE634.out | refine below_set ?_ GE640.out | refine below_set ?_ GE647.out | refine below_set ?_ GE651.out | refine below_set ?_ GE658.out) | exact HB.out)) hb)
                clear HO643
                clear HO654
                clear BK633
                clear BK634
                clear BK640
                clear BK647
                clear BK651
                clear BK658
                clear HB
                have HO643 := n0_
                have HO654 := n1_
                have HO663 := n2_
                have BK633 := n3_
                have BK634 := n4_
                have BK640 := n5_
                have BK647 := n6_
                have BK651 := n7_
                have BK658 := n8_
                have HB := n9_
                clear n0_ n1_ n2_ n3_ n4_ n5_ n6_ n7_ n8_ n9_
                (try clear hb)
                (try clear hb2)
                (try clear hk)
                (try clear hi)
                (try clear ho0)
                obtain ⟨Ao68, co68, eo68⟩ := Kd.R_slice HO663.out
                (first | subst eo68 | (injection eo68 with f1_ f2_ f3_; have f4_ := f1_.symm; have f5_ := f3_.symm; clear f1_ f2_ f3_; subst f4_; subst f5_))
                refine hK.out _ _ ⟨(blk_cell BK633.out 0).trans rfl, (blk_cell BK633.out 1).trans rfl, (blk_cell BK633.out 2).trans rfl, (blk_cell BK634.out 0).trans rfl, (blk_cell BK634.out 1).trans rfl⟩ (fun hHeld => ?_)
                clear hK K
                refine norm_ (a' := ?_) ?_ ?_
                rotate_left
                · show Act.put _ (some 66) _ = _
                  simp only [Act.put, List.setIfInBounds_toArray, List.set_cons_zero, List.set_cons_succ, i64_w, i32_w]
                  rfl
                refine one_ (i := 4) (N := some 69) #[true, true, true, true, true, false, false, false, false, false] rfl rfl (one_of HT_.out (by kernel_rfl)) (by decide) (fun K hK => ?_)
                refine goes_ Try.func65 (by kernel_rfl) rfl #[.slice Ao68 t661.length co68, .agg #[.string a1_0, .int .i64 a1_1, .int .i64 a1_2], .agg #[.int .i64 a2_0, .int .i64 a2_1]] (by rfl) rfl rfl (by (try simp only [List.map_toArray, List.map_cons, List.map_nil]); first | done | rfl | (simp only [List.length_drop, List.length_take]; rfl)) ?_
                with_reducible refine (metrolabref52_Judge.calls k _ _ t661 a1_0 a1_1 a1_2 a2_0 a2_1 t664 t665 _ ?side1 ?side2 A14.out).mono ?_
                (case side1 => repeat (first | exact (Kd.R_reads' HO663.out).2.2 | (with_reducible refine Kd.C_alloc ?_ _) | (with_reducible refine Kd.C_drewN ?_ _) | (with_reducible refine Kd.C_drew ?_)))
                (case side2 => exact (Kd.R_reads' HO663.out).2.1)
                rintro e w69 ⟨rfl, hb⟩
                refine ⟨_, rfl, ?_⟩
                have n0_ := Aside0.mk (Kd.R_below (by (with_reducible repeat (first | apply Kd.R_alloc | apply Kd.R_drewN | apply Kd.R_drew)); exact HO643.out) hb)
                have n1_ := Aside0.mk (Kd.R_below (by (with_reducible repeat (first | apply Kd.R_alloc | apply Kd.R_drewN | apply Kd.R_drew)); exact HO654.out) hb)
                have n2_ := Aside0.mk (Kd.R_below (by (with_reducible repeat (first | apply Kd.R_alloc | apply Kd.R_drewN | apply Kd.R_drew)); exact HO663.out) hb)
                have n3_ := Aside0.mk (blk_below (g := gb633) (o := .cells #[.string a1_0, .int .i64 a1_1, .int .i64 a1_2] 51 (0, 0)) (by (with_reducible repeat (first | refine blk_drewN ?_ _ | refine blk_drew ?_ | refine blk_alloc ?_ _)); exact BK633.out) hb)
                have n4_ := Aside0.mk (blk_below (g := gb634) (o := .cells #[.int .i64 a2_0, .int .i64 a2_1] 25 (0, 0)) (by (with_reducible repeat (first | refine blk_drewN ?_ _ | refine blk_drew ?_ | refine blk_alloc ?_ _)); exact BK634.out) hb)
                have n5_ := Aside0.mk (blk_below (g := gb640) (o := .cells #[.int .i64 t637, .int .i64 t638] 25 (0, 0)) (by (with_reducible repeat (first | refine blk_drewN ?_ _ | refine blk_drew ?_ | refine blk_alloc ?_ _)); exact BK640.out) hb)
                have n6_ := Aside0.mk (blk_below (g := gb647) (o := .cells #[.int .i64 t644, .int .i64 t645] 25 (0, 0)) (by (with_reducible repeat (first | refine blk_drewN ?_ _ | refine blk_drew ?_ | refine blk_alloc ?_ _)); exact BK647.out) hb)
                have n7_ := Aside0.mk (blk_below (g := gb651) (o := .cells #[.int .i64 t648, .int .i64 t649] 25 (0, 0)) (by (with_reducible repeat (first | refine blk_drewN ?_ _ | refine blk_drew ?_ | refine blk_alloc ?_ _)); exact BK651.out) hb)
                have n8_ := Aside0.mk (blk_below (g := gb658) (o := .cells #[.int .i64 t655, .int .i64 t656] 25 (0, 0)) (by (with_reducible repeat (first | refine blk_drewN ?_ _ | refine blk_drew ?_ | refine blk_alloc ?_ _)); exact BK658.out) hb)
                have n9_ := Aside0.mk (below_step (by repeat (first | (with_reducible first | exact HB.out | apply below_alloc | apply pw_below_drewN | apply below_drew1 | refine below_set ?_ GE633.out | refine below_set ?_ GE634.out | refine below_set ?_ GE640.out | refine below_set ?_ GE647.out | refine below_set ?_ GE651.out | refine below_set ?_ GE658.out) | exact HB.out)) hb)
                clear HO643
                clear HO654
                clear HO663
                clear BK633
                clear BK634
                clear BK640
                clear BK647
                clear BK651
                clear BK658
                clear HB
                have HO643 := n0_
                have HO654 := n1_
                have HO663 := n2_
                have BK633 := n3_
                have BK634 := n4_
                have BK640 := n5_
                have BK647 := n6_
                have BK651 := n7_
                have BK658 := n8_
                have HB := n9_
                clear n0_ n1_ n2_ n3_ n4_ n5_ n6_ n7_ n8_ n9_
                (try clear hb)
                (try clear hb2)
                (try clear hk)
                (try clear hi)
                refine hK.out _ _ ⟨(blk_cell BK633.out 0).trans rfl, (blk_cell BK633.out 1).trans rfl, (blk_cell BK633.out 2).trans rfl, (blk_cell BK634.out 0).trans rfl, (blk_cell BK634.out 1).trans rfl⟩ (fun hHeld => ?_)
                clear hK K
                refine norm_ (a' := ?_) ?_ ?_
                rotate_left
                · show Act.put _ (some 69) _ = _
                  simp only [Act.put, List.setIfInBounds_toArray, List.set_cons_zero, List.set_cons_succ, i64_w, i32_w]
                  rfl
                refine pure_ (i := 5) (N := some 64) (v := ?_) (a' := ?_) #[true, true, true, true, true, true, false, false, false, false] rfl rfl (any_of HT_.out (by kernel_rfl)) (fun _ _ _ h => h) (Or.inl ⟨by rfl, ?_⟩) ?_ ?_
                rotate_left
                · intro w'
                  go_simp
                  with_reducible rfl
                rotate_left
                · simp only [Act.put, List.setIfInBounds_toArray, List.set_cons_zero, List.set_cons_succ, i64_w, i32_w]
                  rfl
                refine pure_ (i := 6) (N := some 70) (v := ?_) (a' := ?_) #[true, true, true, true, true, true, true, false, false, false] rfl rfl (any_of HT_.out (by kernel_rfl)) (fun _ _ _ h => h) (Or.inl ⟨by rfl, ?_⟩) ?_ ?_
                rotate_left
                · intro w'
                  go_simp
                  with_reducible rfl
                rotate_left
                · simp only [Act.put, List.setIfInBounds_toArray, List.set_cons_zero, List.set_cons_succ, i64_w, i32_w]
                  rfl
                refine pure_ (i := 7) (N := some 71) (v := ?_) (a' := ?_) #[true, true, true, true, true, true, true, true, false, false] rfl rfl (any_of HT_.out (by kernel_rfl)) (fun _ _ _ h => h) (Or.inl ⟨by rfl, ?_⟩) ?_ ?_
                rotate_left
                · intro w'
                  go_simp
                  with_reducible rfl
                rotate_left
                · simp only [Act.put, List.setIfInBounds_toArray, List.set_cons_zero, List.set_cons_succ, i64_w, i32_w]
                  rfl
                refine pure_ (i := 8) (N := some 17) (v := ?_) (a' := ?_) #[true, true, true, true, true, true, true, true, true, false] rfl rfl (any_of HT_.out (by kernel_rfl)) (fun _ _ _ h => h) (Or.inl ⟨by rfl, ?_⟩) ?_ ?_
                rotate_left
                · intro w'
                  go_simp
                  with_reducible rfl
                rotate_left
                · simp only [Act.put, List.setIfInBounds_toArray, List.set_cons_zero, List.set_cons_succ, i64_w, i32_w]
                  rfl
                refine pure_ (i := 9) (N := some 18) (v := ?_) (a' := ?_) #[true, true, true, true, true, true, true, true, true, true] rfl rfl (any_of HT_.out (by kernel_rfl)) (fun _ _ _ h => h) (Or.inl ⟨by rfl, ?_⟩) ?_ ?_
                rotate_left
                · intro w'
                  go_simp
                  with_reducible rfl
                rotate_left
                · simp only [Act.put, List.setIfInBounds_toArray, List.set_cons_zero, List.set_cons_succ, i64_w, i32_w]
                  rfl
                refine done_ (done_of HT_.out (by kernel_rfl)) ?_
                try go_wp2_with (first | ((with_reducible refine gate_callee (f := 34) rfl ?_); refine goesL_ (some 72) rfl rfl Try.func34 (by kernel_rfl) rfl #[] rfl (by (try simp only [List.map_toArray, List.map_cons, List.map_nil]); first | done | rfl | (simp only [List.length_drop, List.length_take]; rfl)) ?_; (with_reducible refine (metrolablaw52_awake.calls k  true _ A15.out).mono ?_); rintro e w70 ⟨rfl, hb⟩; refine ⟨_, rfl, ?_⟩; have n0_ := Aside0.mk (Kd.R_below (by (with_reducible repeat (first | apply Kd.R_alloc | apply Kd.R_drewN | apply Kd.R_drew)); exact HO643.out) hb); have n1_ := Aside0.mk (Kd.R_below (by (with_reducible repeat (first | apply Kd.R_alloc | apply Kd.R_drewN | apply Kd.R_drew)); exact HO654.out) hb); have n2_ := Aside0.mk (Kd.R_below (by (with_reducible repeat (first | apply Kd.R_alloc | apply Kd.R_drewN | apply Kd.R_drew)); exact HO663.out) hb); have n3_ := Aside0.mk (blk_below (g := gb633) (o := .cells #[.string a1_0, .int .i64 a1_1, .int .i64 a1_2] 51 (0, 0)) (by (with_reducible repeat (first | refine blk_drewN ?_ _ | refine blk_drew ?_ | refine blk_alloc ?_ _)); exact BK633.out) hb); have n4_ := Aside0.mk (blk_below (g := gb634) (o := .cells #[.int .i64 a2_0, .int .i64 a2_1] 25 (0, 0)) (by (with_reducible repeat (first | refine blk_drewN ?_ _ | refine blk_drew ?_ | refine blk_alloc ?_ _)); exact BK634.out) hb); have n5_ := Aside0.mk (blk_below (g := gb640) (o := .cells #[.int .i64 t637, .int .i64 t638] 25 (0, 0)) (by (with_reducible repeat (first | refine blk_drewN ?_ _ | refine blk_drew ?_ | refine blk_alloc ?_ _)); exact BK640.out) hb); have n6_ := Aside0.mk (blk_below (g := gb647) (o := .cells #[.int .i64 t644, .int .i64 t645] 25 (0, 0)) (by (with_reducible repeat (first | refine blk_drewN ?_ _ | refine blk_drew ?_ | refine blk_alloc ?_ _)); exact BK647.out) hb); have n7_ := Aside0.mk (blk_below (g := gb651) (o := .cells #[.int .i64 t648, .int .i64 t649] 25 (0, 0)) (by (with_reducible repeat (first | refine blk_drewN ?_ _ | refine blk_drew ?_ | refine blk_alloc ?_ _)); exact BK651.out) hb); have n8_ := Aside0.mk (blk_below (g := gb658) (o := .cells #[.int .i64 t655, .int .i64 t656] 25 (0, 0)) (by (with_reducible repeat (first | refine blk_drewN ?_ _ | refine blk_drew ?_ | refine blk_alloc ?_ _)); exact BK658.out) hb); have n9_ := Aside0.mk (below_step (by repeat (first | (with_reducible first | exact HB.out | apply below_alloc | apply pw_below_drewN | apply below_drew1 | refine below_set ?_ GE633.out | refine below_set ?_ GE634.out | refine below_set ?_ GE640.out | refine below_set ?_ GE647.out | refine below_set ?_ GE651.out | refine below_set ?_ GE658.out) | exact HB.out)) hb); clear HO643; clear HO654; clear HO663; clear BK633; clear BK634; clear BK640; clear BK647; clear BK651; clear BK658; clear HB; have HO643 := n0_; have HO654 := n1_; have HO663 := n2_; have BK633 := n3_; have BK634 := n4_; have BK640 := n5_; have BK647 := n6_; have BK651 := n7_; have BK658 := n8_; have HB := n9_; clear n0_ n1_ n2_ n3_ n4_ n5_ n6_ n7_ n8_ n9_; (try clear hb); (try clear hb2); (try clear hk); (try clear hi); have hnb71 := NB640_647.out; have hnc71 := NB647_640.out; have hnb72 := NB640_658.out; have hnc72 := NB658_640.out; have hcz73_0 : w70.cell? ⟨gb640, 0, none⟩ = some (.int .i64 t637) := (blk_cell BK640.out 0).trans rfl; have hcz73_1 : w70.cell? ⟨gb640, 1, none⟩ = some (.int .i64 t638) := (blk_cell BK640.out 1).trans rfl; have hfz73_0 := blk_frozen BK640.out 0; have hfz73_1 := blk_frozen BK640.out 1; have hnb74 := NB647_658.out; have hnc74 := NB658_647.out; have hcz75_0 : w70.cell? ⟨gb647, 0, none⟩ = some (.int .i64 t644) := (blk_cell BK647.out 0).trans rfl; have hcz75_1 : w70.cell? ⟨gb647, 1, none⟩ = some (.int .i64 t645) := (blk_cell BK647.out 1).trans rfl; have hfz75_0 := blk_frozen BK647.out 0; have hfz75_1 := blk_frozen BK647.out 1; have hnb76 := NB651_658.out; have hnc76 := NB658_651.out; have hcz77_0 : w70.cell? ⟨gb651, 0, none⟩ = some (.int .i64 t648) := (blk_cell BK651.out 0).trans rfl; have hcz77_1 : w70.cell? ⟨gb651, 1, none⟩ = some (.int .i64 t649) := (blk_cell BK651.out 1).trans rfl; have hfz77_0 := blk_frozen BK651.out 0; have hfz77_1 := blk_frozen BK651.out 1; have hcz78_0 : w70.cell? ⟨gb658, 0, none⟩ = some (.int .i64 t655) := (blk_cell BK658.out 0).trans rfl; have hcz78_1 : w70.cell? ⟨gb658, 1, none⟩ = some (.int .i64 t656) := (blk_cell BK658.out 1).trans rfl; have hfz78_0 := blk_frozen BK658.out 0; have hfz78_1 := blk_frozen BK658.out 1))
                go_ret
                exact ⟨by first | rfl | (simp [errW_none, errW_some] <;> rfl) | (simp [*, errW_none, errW_some] <;> rfl), by repeat (first | (with_reducible first | exact HB.out | apply below_alloc | apply pw_below_drewN | apply below_drew1 | refine below_set ?_ GE633.out | refine below_set ?_ GE634.out | refine below_set ?_ GE640.out | refine below_set ?_ GE647.out | refine below_set ?_ GE651.out | refine below_set ?_ GE658.out) | exact HB.out)⟩
              · rw [if_neg c21] at H
                exact absurd ((Option.some.inj H).trans HRT.out) (by decide)
            · rw [if_neg c20] at H
              exact absurd ((Option.some.inj H).trans HRT.out) (by decide)
          · rw [if_neg c19] at H
            exact absurd ((Option.some.inj H).trans HRT.out) (by decide)
        · rw [if_neg c18] at H
          exact absurd ((Option.some.inj H).trans HRT.out) (by decide)
      · rw [if_neg c17] at H
        exact absurd ((Option.some.inj H).trans HRT.out) (by decide)
    · rw [if_neg c16] at H
      exact absurd ((Option.some.inj H).trans HRT.out) (by decide)
  · replace c5 := Bool.eq_false_iff.mpr c5
    subst c5
    have H1 : ((metrolablaw52_awake.f k).bind fun t636 => (some t636)) = some r := by rw [if_neg (show ¬ (false = true) by decide)] at H; exact H
    clear H
    have H := H1
    clear H1
    replace H := Option.bind_eq_some_iff.mp H
    obtain ⟨t636, A4070, H⟩ := H
    replace H : (some t636) = some r := H
    have A407 := Aside0.mk A4070
    clear A4070
    obtain rfl := Option.some.inj H
    go_enter Try.func14, Try.ntmps14
    go_wp2_with (first | ((with_reducible refine gate_dst (N := 4) rfl ?_); refine box_event ?hg (N := 4) ?hd (cs := #[.string a1_0, .int .i64 a1_1, .int .i64 a1_2]) (t := 51) ?hr ?_; (case hd => rfl); (case hg => rfl); (case hr => first | (go_simp; done) | (go_simp; rfl)); intro gb633 hg w408 hbox hb; have n0_ := Aside0.mk (below_step (by repeat (first | (with_reducible first | exact HB.out | apply below_alloc | apply pw_below_drewN | apply below_drew1) | exact HB.out)) hb); have n1_ := Aside0.mk (hbox); have n2_ := Aside0.mk ((by rw [hg]; exact (below_size (by repeat (first | (with_reducible first | exact HB.out | apply below_alloc | apply pw_below_drewN | apply below_drew1) | exact HB.out))) : w.heap.size ≤ gb633)); have n3_ := Aside0.mk ((by rw [hg]; exact (below_size (by repeat (first | (with_reducible first | exact HB.out | apply below_alloc | apply pw_below_drewN | apply below_drew1) | exact HB.out))) : w.heap.size ≤ gb633)); clear HB; have HB := n0_; have BK633 := n1_; have GW633 := n2_; have GE633 := n3_; clear n0_ n1_ n2_ n3_; clear hb hbox hg) | ((with_reducible refine gate_dst (N := 5) rfl ?_); refine box_event ?hg (N := 5) ?hd (cs := #[.int .i64 a2_0, .int .i64 a2_1]) (t := 25) ?hr ?_; (case hd => rfl); (case hg => rfl); (case hr => first | (go_simp; done) | (go_simp; rfl)); intro gb634 hg w409 hbox hb; have n0_ := Aside0.mk (blk_below (g := gb633) (o := .cells #[.string a1_0, .int .i64 a1_1, .int .i64 a1_2] 51 (0, 0)) (by (with_reducible repeat (first | refine blk_drewN ?_ _ | refine blk_drew ?_ | refine blk_alloc ?_ _)); exact BK633.out) hb); have n1_ := Aside0.mk (below_step (by repeat (first | (with_reducible first | exact HB.out | apply below_alloc | apply pw_below_drewN | apply below_drew1 | refine below_set ?_ GE633.out) | exact HB.out)) hb); have n2_ := Aside0.mk (hbox); have n3_ := Aside0.mk ((by rw [hg]; exact (below_size (by repeat (first | (with_reducible first | exact HB.out | apply below_alloc | apply pw_below_drewN | apply below_drew1 | refine below_set ?_ GE633.out) | exact HB.out))) : w.heap.size ≤ gb634)); have n4_ := Aside0.mk ((by rw [hg]; exact (below_size (by repeat (first | (with_reducible first | exact HB.out | apply below_alloc | apply pw_below_drewN | apply below_drew1 | refine below_set ?_ GE633.out) | exact HB.out))) : w.heap.size ≤ gb634)); have n5_ := Aside0.mk ((by rw [hg]; exact Nat.ne_of_lt (blk_lt (g := gb633) (o := .cells #[.string a1_0, .int .i64 a1_1, .int .i64 a1_2] 51 (0, 0)) (by (with_reducible repeat (first | refine blk_drewN ?_ _ | refine blk_drew ?_ | refine blk_alloc ?_ _)); exact BK633.out)) : gb633 ≠ gb634)); have n6_ := Aside0.mk ((by rw [hg]; exact Nat.ne_of_gt (blk_lt (g := gb633) (o := .cells #[.string a1_0, .int .i64 a1_1, .int .i64 a1_2] 51 (0, 0)) (by (with_reducible repeat (first | refine blk_drewN ?_ _ | refine blk_drew ?_ | refine blk_alloc ?_ _)); exact BK633.out)) : gb634 ≠ gb633)); clear BK633; clear HB; have BK633 := n0_; have HB := n1_; have BK634 := n2_; have GW634 := n3_; have GE634 := n4_; have NB633_634 := n5_; have NB634_633 := n6_; clear n0_ n1_ n2_ n3_ n4_ n5_ n6_; clear hb hbox hg; have hnb410 := NB633_634.out; have hnc410 := NB634_633.out; have hcz411_0 : w409.cell? ⟨gb633, 0, none⟩ = some (.string a1_0) := (blk_cell BK633.out 0).trans rfl; have hcz411_1 : w409.cell? ⟨gb633, 1, none⟩ = some (.int .i64 a1_1) := (blk_cell BK633.out 1).trans rfl; have hcz411_2 : w409.cell? ⟨gb633, 2, none⟩ = some (.int .i64 a1_2) := (blk_cell BK633.out 2).trans rfl; have hfz411_0 := blk_frozen BK633.out 0; have hfz411_1 := blk_frozen BK633.out 1; have hfz411_2 := blk_frozen BK633.out 2) | ((with_reducible refine gate_callee (f := 32) rfl ?_); refine goesL_ (some 22) rfl rfl Try.func32 (by kernel_rfl) rfl #[.slice A0 l0.length c0, .string a1_0] rfl (by (try simp only [List.map_toArray, List.map_cons, List.map_nil]); first | done | rfl | (simp only [List.length_drop, List.length_take]; rfl)) ?_; (with_reducible refine (metrolablaw52_few.calls k _ _ l0 a1_0 false _ ?side1 ?side2 A4.out).mono ?_); (case side1 => repeat (first | exact (Kd.C_below HR0.out HB.out) | (with_reducible refine Kd.C_alloc ?_ _) | (with_reducible refine Kd.C_drewN ?_ _) | (with_reducible refine Kd.C_drew ?_))); (case side2 => exact HC0.out); rintro e w412 ⟨rfl, hb⟩; refine ⟨_, rfl, ?_⟩; have n0_ := Aside0.mk (blk_below (g := gb633) (o := .cells #[.string a1_0, .int .i64 a1_1, .int .i64 a1_2] 51 (0, 0)) (by (with_reducible repeat (first | refine blk_drewN ?_ _ | refine blk_drew ?_ | refine blk_alloc ?_ _)); exact BK633.out) hb); have n1_ := Aside0.mk (blk_below (g := gb634) (o := .cells #[.int .i64 a2_0, .int .i64 a2_1] 25 (0, 0)) (by (with_reducible repeat (first | refine blk_drewN ?_ _ | refine blk_drew ?_ | refine blk_alloc ?_ _)); exact BK634.out) hb); have n2_ := Aside0.mk (below_step (by repeat (first | (with_reducible first | exact HB.out | apply below_alloc | apply pw_below_drewN | apply below_drew1 | refine below_set ?_ GE633.out | refine below_set ?_ GE634.out) | exact HB.out)) hb); clear BK633; clear BK634; clear HB; have BK633 := n0_; have BK634 := n1_; have HB := n2_; clear n0_ n1_ n2_; (try clear hb); (try clear hb2); (try clear hk); (try clear hi)) | ((with_reducible refine gate_callee (f := 34) rfl ?_); refine goesL_ (some 24) rfl rfl Try.func34 (by kernel_rfl) rfl #[] rfl (by (try simp only [List.map_toArray, List.map_cons, List.map_nil]); first | done | rfl | (simp only [List.length_drop, List.length_take]; rfl)) ?_; (with_reducible refine (metrolablaw52_awake.calls k  t636 _ A407.out).mono ?_); rintro e w413 ⟨rfl, hb⟩; refine ⟨_, rfl, ?_⟩; have n0_ := Aside0.mk (blk_below (g := gb633) (o := .cells #[.string a1_0, .int .i64 a1_1, .int .i64 a1_2] 51 (0, 0)) (by (with_reducible repeat (first | refine blk_drewN ?_ _ | refine blk_drew ?_ | refine blk_alloc ?_ _)); exact BK633.out) hb); have n1_ := Aside0.mk (blk_below (g := gb634) (o := .cells #[.int .i64 a2_0, .int .i64 a2_1] 25 (0, 0)) (by (with_reducible repeat (first | refine blk_drewN ?_ _ | refine blk_drew ?_ | refine blk_alloc ?_ _)); exact BK634.out) hb); have n2_ := Aside0.mk (below_step (by repeat (first | (with_reducible first | exact HB.out | apply below_alloc | apply pw_below_drewN | apply below_drew1 | refine below_set ?_ GE633.out | refine below_set ?_ GE634.out) | exact HB.out)) hb); clear BK633; clear BK634; clear HB; have BK633 := n0_; have BK634 := n1_; have HB := n2_; clear n0_ n1_ n2_; (try clear hb); (try clear hb2); (try clear hk); (try clear hi)))
    go_ret
    exact ⟨by first | rfl | (simp [errW_none, errW_some] <;> rfl) | (simp [*, errW_none, errW_some] <;> rfl), by repeat (first | (with_reducible first | exact HB.out | apply below_alloc | apply pw_below_drewN | apply below_drew1 | refine below_set ?_ GE633.out | refine below_set ?_ GE634.out) | exact HB.out)⟩
end Go.Proofs.Ytkgdlbepjmgaiaa.Cal
set_option linter.unusedVariables false
set_option linter.unusedSimpArgs false
namespace Go.Proofs.Ytkgdlbepjmgaiaa.Cal
open Go.RowKit Go.Proofs.YtkgdlbepjmgaiaaW.PrintWords Go.Proofs.YtkgdlbepjmgaiaaW.PrintLast Go.Proofs.YtkgdlbepjmgaiaaW.PrintMore
theorem awk7 : Ev (fun k => (metrolablaw52_awake.f k).bind fun t => some t) true := Ev.bind awake_ev (Ev.now _)
theorem rlimits7_ev (a b : Int) : Ev (fun k => metrolabref17_Check.f k a b) (limV a b) := by
  have j : ∀ c, Ev (fun k => metrolabref17_Check.j0 k c a b) (if c = true then 2 else if a > b then 9 else 0) := fun c => by
    refine Ev.step (fun k => by rw [metrolabref17_Check.j0]) ?_
    exact Ev.ite2 (Ev.now _) (Ev.ite2 (Ev.now _) (Ev.now _))
  unfold metrolabref17_Check.f limV
  simp only [rin_eq, Option.bind_some]
  cases inV a (-100000) 100000
  · exact Ev.e (by decide) (j true)
  · refine Ev.t rfl ?_
    cases inV b (-100000) 100000
    · exact j true
    · exact j false
def ofS (l : List S68) : List Int → Int
  | [] => 0
  | i :: t => (rd_T68 l i).f2 + ofS l t
def spS (l : List S68) : List Int → Int
  | [] => 0
  | i :: t => (rd_T68 l i).f3 + spS l t
theorem ofsp (l : List S68) : ∀ c : List Int, ofS l c - spS l c = loS l c ∧ ofS l c + spS l c = hiS l c
  | [] => ⟨rfl, rfl⟩
  | i :: t => by
    have := ofsp l t
    simp only [ofS, spS, loS, hiS]
    omega
theorem RError_ev (l : List S68) (hl : l.length < 2199023255552) (nm : ByteArray) (on : Int) : Ev (fun k => metrolabref52_Error.f k (l.map cv) nm on) (errV l nm on) := by
  unfold metrolabref52_Error.f errV
  refine Ev.bind (RChain_ev l hl nm on) ?_
  by_cases h : (chV l nm on).2 = 0
  case neg => simp only [if_neg h]; exact Ev.now _
  obtain ⟨h1, _, he⟩ := chV_ok h
  obtain ⟨hlen, ho, hrec⟩ := chkV_ok h1
  simp only [if_pos h]
  rw [he] at h
  obtain ⟨hw, hn⟩ := folOf_ok (r := Prod.fst (folOf l nm on)) (Prod.ext rfl h)
  rw [he]
  obtain ⟨c, hc⟩ : ∃ c, Prod.fst (folOf l nm on) = c := ⟨_, rfl⟩
  rw [hc] at hw hn ⊢
  have hclen := nodup_len _ _ hn hw.range
  have hr := hw.range
  have hbd := loS_bound hrec c hr
  have hos := ofsp l c
  have key : ∀ (n i : Nat) (a b : Int), i + n = c.length → -(200000 * (i : Int)) ≤ a ∧ a ≤ 200000 * (i : Int) → -(200000 * (i : Int)) ≤ b ∧ b ≤ 200000 * (i : Int) → a + ofS l (c.drop i) = ofS l c → b + spS l (c.drop i) = spS l c → Ev (fun k => metrolabref52_Error.l0 k (l.map cv) c a b (i : Int)) (loS l c, hiS l c, 0) := by
    intro n
    induction n with
    | zero =>
      intro i a b hi _ _ e1 e2
      rw [List.drop_of_length_le (by omega)] at e1 e2
      simp only [ofS, spS] at e1 e2
      refine Ev.step (fun k => by rw [metrolabref52_Error.l0]) ?_
      refine Ev.e (by omega) (Ev.some_eq ?_)
      rw [w64 (by omega), w64 (by omega), show a - b = loS l c by omega, show a + b = hiS l c by omega]
    | succ n ih =>
      intro i a b hi ha hb e1 e2
      have hlt : i < c.length := by omega
      have hx := hr c[i] (List.getElem_mem hlt)
      obtain ⟨o1, o2, s1, s2, _, _, _, _⟩ := rec_at hrec hx
      rw [List.drop_eq_getElem_cons hlt] at e1 e2
      simp only [ofS, spS] at e1 e2
      refine Ev.step (fun k => by rw [metrolabref52_Error.l0]) ?_
      rw [rd_get hlt, rd_cv, List.length_map]
      refine Ev.t (by omega) (Ev.t (by omega) (Ev.t (by omega) (Ev.t (by omega) ?_)))
      have f2 : (cv (rd_T68 l c[i])).f2 = (rd_T68 l c[i]).f2 := rfl
      have f3 : (cv (rd_T68 l c[i])).f3 = (rd_T68 l c[i]).f3 := rfl
      rw [f2, f3, w64s (by omega), w64 (n := a + (rd_T68 l c[i]).f2) (by omega), w64 (n := b + (rd_T68 l c[i]).f3) (by omega)]
      exact ih (i + 1) _ _ (by omega) (by omega) (by omega) (by omega) (by omega)
  exact key c.length 0 0 0 (by omega) (by omega) (by omega) (by simp) (by simp)
theorem RValue_ev (l : List S68) (hl : l.length < 2199023255552) (nm : ByteArray) (on sh : Int) : Ev (fun k => metrolabref52_Value.f k (l.map cv) nm on sh) (valV l nm on sh) := by
  unfold metrolabref52_Value.f valV
  simp only [rin_eq, Option.bind_some]
  exact Ev.bind (RError_ev l hl nm on) (Ev.ite2 (Ev.ite2 (Ev.now _) (Ev.now _)) (Ev.now _))
theorem RJudge_ev (l : List S68) (hl : l.length < 2199023255552) (nm : ByteArray) (on sh a b : Int) : Ev (fun k => metrolabref52_Judge.f k (l.map cv) nm on sh a b) (judV l nm on sh a b) := by
  have j : ∀ c v1 v2, Ev (fun k => metrolabref52_Judge.j0 k c a b v1 v2) (if c = true then (2, 0) else if v2 < a then (0, 0) else if v1 > b then (0, 0) else (1, 0)) := fun c v1 v2 => by
    refine Ev.step (fun k => by rw [metrolabref52_Judge.j0]) ?_
    exact Ev.ite2 (Ev.now _) (Ev.ite2 (Ev.now _) (Ev.ite2 (Ev.now _) (Ev.now _)))
  unfold metrolabref52_Judge.f judV
  refine Ev.bind (RValue_ev l hl nm on sh) (Ev.ite2 (Ev.bind (rlimits7_ev a b) (Ev.ite2 ?_ (Ev.now _))) (Ev.now _))
  generalize (valV l nm on sh).1 = v1
  generalize (valV l nm on sh).2.1 = v2
  unfold judC
  by_cases h1 : v1 ≥ a
  · refine Ev.t h1 ?_
    by_cases h2 : v2 ≤ b
    · rw [if_pos ⟨h1, h2⟩, decide_eq_true h2]; exact j true v1 v2
    · rw [if_neg (fun h => h2 h.2), decide_eq_false h2]
      have := j false v1 v2
      simp only [Bool.false_eq_true, if_false] at this
      split
      · rename_i h; rw [if_pos h] at this; exact this
      · rename_i h; rw [if_neg h] at this; split <;> rename_i h' <;> simp only [h', if_true, if_false] at this <;> exact this
  · refine Ev.e h1 ?_
    rw [if_neg (fun h => h1 h.1)]
    have := j false v1 v2
    simp only [Bool.false_eq_true, if_false] at this
    split
    · rename_i h; rw [if_pos h] at this; exact this
    · rename_i h; rw [if_neg h] at this; split <;> rename_i h' <;> simp only [h', if_true, if_false] at this <;> exact this
theorem CalibrateJudges_pure (l0 : List S68) (a1 : ByteArray) (a2 a3 a4 a5 : Int) (y0 : l0.length * 64 ≤ 140737488351232) : ∃ k, metrolablaw52_CalibrateJudges.f k l0 a1 a2 a3 a4 a5 = some true := by
  have hl : l0.length < 2199023255552 := by omega
  obtain ⟨b, hb⟩ := few_some l0 a1 hl
  refine Ev.rounds (g := fun k => metrolablaw52_CalibrateJudges.f k l0 a1 a2 a3 a4 a5) ?_
  unfold metrolablaw52_CalibrateJudges.f
  refine Ev.bind hb (Ev.ite (fun _ => ?_) (fun _ => awk7))
  refine Ev.bind (Error_ev l0 hl a1 a2) (Ev.bind (own_ev l0 hl) (Ev.bind (RError_ev l0 hl a1 a2) (Ev.bind (Value_ev l0 hl a1 a2 a3) (Ev.bind (own_ev l0 hl) (Ev.bind (RValue_ev l0 hl a1 a2 a3) (Ev.bind (Judge_ev l0 hl a1 a2 a3 a4 a5) (Ev.bind (own_ev l0 hl) (Ev.bind (RJudge_ev l0 hl a1 a2 a3 a4 a5) (Ev.bind awake_ev (Ev.t rfl ?_))))))))))
  exact Ev.t (by simp) (Ev.t rfl (Ev.t (by simp) (Ev.t rfl (Ev.t rfl (Ev.some_eq (by simp))))))
end Go.Proofs.Ytkgdlbepjmgaiaa.Cal
set_option linter.unusedVariables false
set_option linter.unusedSimpArgs false
namespace Go.Proofs.Ytkgdlbepjmgaiaa.Row
open Go.RowKit Go.Proofs.YtkgdlbepjmgaiaaW.PrintWords
def Opens {α : Type} (P : Program) (k : Kd α) (t : TypeId) (Q : α → Prop) : Prop :=
  ∀ (H : Type) (enc : TypeId × Value → H) (w : World) (base : Nat) (spare : Nat → Bool) (held : Bool) (fuel : Nat) (cs : List Value) (x : DataW H × List MemPlace),
    DataW.trod enc P w base spare held fuel t cs = some x → ∃ a, k.K w a cs ∧ Q a
variable {P : Program}
theorem opens_int {t : TypeId} {q : IntKind} (ht : P.underlying t = some (.int q)) : Opens P (Kd.int q) t (fun n => (Lit.int q n).wf = true) := by
  intro H enc w base spare held fuel cs x h
  obtain ⟨n, rfl, _, hw⟩ := DataW.trod_int ht h
  exact ⟨n, rfl, hw⟩
theorem opens_bool {t : TypeId} (ht : P.underlying t = some .bool) : Opens P Kd.bool t (fun _ => True) := by
  intro H enc w base spare held fuel cs x h
  obtain ⟨n, rfl, _⟩ := DataW.trod_bool ht h
  exact ⟨n, rfl, trivial⟩
theorem opens_string {t : TypeId} (ht : P.underlying t = some .string) : Opens P Kd.string t (fun s => s.size ≤ maxLen) := by
  intro H enc w base spare held fuel cs x h
  obtain ⟨n, rfl, _, hw⟩ := DataW.trod_string ht h
  exact ⟨n, rfl, hw⟩
theorem cells_get {w : World} {base : Nat} {a : Addr} {n : Nat} {c : List Value} (h : w.cells? base a n = some c) : c.length = n ∧ ∀ i u, c[i]? = some u → w.cell? (a.add i) = some u := by
  unfold World.cells? at h
  split at h
  case isFalse => cases h
  have hl : c.length = n := by simpa using mapM_some_length h
  refine ⟨hl, fun i u hi => ?_⟩
  have hlt : i < n := by rw [← hl]; exact (List.getElem?_eq_some_iff.1 hi).1
  rw [← hi]
  exact mapM_some_get h i i (by simp [hlt])
theorem list_of {α : Type} {R : Nat → α → Prop} : ∀ n, (∀ i, i < n → ∃ a, R i a) → ∃ l : List α, l.length = n ∧ ∀ i a, l[i]? = some a → R i a
  | 0, _ => ⟨[], rfl, fun i a h => by simp at h⟩
  | n + 1, h => by
    obtain ⟨l, hl, hr⟩ := list_of n (fun i hi => h i (by omega))
    obtain ⟨a, ha⟩ := h n (by omega)
    refine ⟨l ++ [a], by simp [hl], fun i b hi => ?_⟩
    rcases Nat.lt_or_ge i n with hlt | hge
    · rw [List.getElem?_append_left (by omega)] at hi
      exact hr i b hi
    · have hi' : i < (l ++ [a]).length := (List.getElem?_eq_some_iff.1 hi).1
      obtain rfl : i = n := by simp [hl] at hi'; omega
      rw [List.getElem?_append_right (by omega), hl] at hi
      simp at hi
      subst hi
      exact ha
theorem opens_slice {α : Type} {d : Kd α} {t e : TypeId} {Q : α → Prop} (ht : P.underlying t = some (.slice e)) (hs : P.cellsOf e = d.sz) (h : Opens P d e Q) : Opens P (Kd.slice e d) t (fun xs => xs.length ≤ maxLen ∧ ∀ x ∈ xs, Q x) := by
  intro H enc w base spare held fuel cs x hx
  rcases DataW.trod_slice ht hx with ⟨rfl, rfl⟩ | ⟨a, len, cap, elems, rest, n, _, rfl, rfl, hb, hl, hm, hlen, hel, _, _⟩
  · exact ⟨[], ⟨none, 0, rfl, Nat.le_refl _, rfl, by simp, fun h => absurd h (by simp)⟩, by simp, by simp⟩
  · have each : ∀ i, i < len → ∃ a', Q a' ∧ ∃ c, c.length = d.sz ∧ d.K w a' c ∧ ∀ j u, c[j]? = some u → w.cell? (a.add (i * d.sz + j)) = some u := by
      intro i hi
      have h1 := hel i hi
      have hy : ∃ y, elems[i]? = some y := ⟨elems[i]'(by omega), List.getElem?_eq_getElem (by omega)⟩
      obtain ⟨y, hy⟩ := hy
      rw [hy, Option.bind_eq_some_iff] at h1
      obtain ⟨c, hc, hr⟩ := h1
      obtain ⟨a', hK, hQ⟩ := h H enc w base spare held n c y hr
      obtain ⟨hcl, hcc⟩ := cells_get hc
      refine ⟨a', hQ, c, d.K_len hK, hK, fun j u hj => ?_⟩
      have := hcc j u hj
      rw [hs, add_add] at this
      exact this
    obtain ⟨xs, hxl, hxs⟩ := list_of len each
    refine ⟨xs, ⟨some a, cap, by rw [hxl], by omega, ⟨rfl, by unfold maxLen at hm; omega, fun _ => ⟨a, rfl, fun j p hp => (hxs j p hp).2⟩⟩⟩, by omega, fun x hx => ?_⟩
    obtain ⟨j, hj⟩ := List.getElem?_of_mem hx
    exact (hxs j x hj).1
def OpensF {α : Type} (P : Program) (k : Kd α) (fs : List Field) (off : Nat) (Q : α → Prop) : Prop :=
  ∀ (H : Type) (enc : TypeId × Value → H) (w : World) (base : Nat) (spare : Nat → Bool) (held : Bool) (n : Nat) (cs : List Value),
    cs.length = off + k.sz → (∀ f ∈ fs, ∃ y, DataW.trod enc P w base spare held n f.type ((cs.drop f.offset).take (P.cellsOf f.type)) = some y) → ∃ a, k.K w a (cs.drop off) ∧ Q a
theorem opensF_one {α : Type} {k : Kd α} {f : Field} {off : Nat} {Q : α → Prop} (ho : f.offset = off) (hs : P.cellsOf f.type = k.sz) (h : Opens P k f.type Q) : OpensF P k [f] off Q := by
  intro H enc w base spare held n cs hl hf
  obtain ⟨y, hy⟩ := hf f (by simp)
  obtain ⟨a, hK, hQ⟩ := h H enc w base spare held n _ y hy
  refine ⟨a, ?_, hQ⟩
  rw [ho, hs, List.take_of_length_le (by simp; omega)] at hK
  exact hK
theorem opensF_cons {α β : Type} {a : Kd α} {b : Kd β} {f : Field} {fs : List Field} {off : Nat} {Q : α → Prop} {R : β → Prop} (ho : f.offset = off) (hs : P.cellsOf f.type = a.sz) (h : Opens P a f.type Q) (hr : OpensF P b fs (off + a.sz) R) :
    OpensF P (Kd.pair a b) (f :: fs) off (fun x => Q x.1 ∧ R x.2) := by
  intro H enc w base spare held n cs hl hf
  have hl' : cs.length = off + (a.sz + b.sz) := hl
  obtain ⟨y, hy⟩ := hf f (by simp)
  obtain ⟨x, hK, hQ⟩ := h H enc w base spare held n _ y hy
  obtain ⟨z, hK2, hR⟩ := hr H enc w base spare held n cs (by omega) (fun g hg => hf g (by simp [hg]))
  refine ⟨(x, z), ⟨(cs.drop off).take a.sz, cs.drop (off + a.sz), ?_, ?_, hK2⟩, hQ, hR⟩
  · rw [← List.drop_drop, List.take_append_drop]
  · rw [ho, hs] at hK; exact hK
theorem opens_struct {α β : Type} {k : Kd α} {t : TypeId} {fs : Array Field} {Q : α → Prop} {g : β → α} {R : β → Prop} (ht : P.underlying t = some (.struct fs)) (hs : P.cellsOf t = k.sz) (h : OpensF P k fs.toList 0 Q)
    (hg : ∀ a, Q a → ∃ b, g b = a ∧ R b) : Opens P (Kd.iso k g) t R := by
  intro H enc w base spare held fuel cs x hx
  obtain ⟨xs, n, _, _, hl, hlen, hf⟩ := DataW.trod_struct ht hx
  obtain ⟨a, hK, hQ⟩ := h H enc w base spare held n cs (by omega) (fun f hf' => by
    obtain ⟨i, hi⟩ := List.getElem?_of_mem hf'
    have h1 := hf i f (by simpa using hi)
    have hlt : i < xs.length := by
      have := (List.getElem?_eq_some_iff.1 hi).1
      rw [hlen]; simpa using this
    exact ⟨xs[i], by rw [h1, List.getElem?_eq_getElem hlt]⟩)
  obtain ⟨b, rfl, hR⟩ := hg a hQ
  refine ⟨b, ?_, hR⟩
  show k.K w (g b) cs
  simpa using hK
theorem sized_rows {H : Type} {enc : TypeId × Value → H} {w : World} {base : Nat} {spare : Nat → Bool} {held : Bool} {ts : List TypeId} {ds : List (DataW H)} {j : Nat} {t e : TypeId} {A : Option Addr} {n c bytes : Nat} {d : DataW H} {p : List MemPlace}
    (hsz : (DataW.weightsEach P ts ds).all (· ≤ reachBytes) = true) (ht : ts[j]? = some t) (hd : ds[j]? = some d) (hu : P.underlying t = some (.slice e)) (hB : P.bytesOf e = bytes)
    (h : DataW.Trod enc P w base spare held t (.slice A n c) d p) : n * bytes ≤ 140737488351232 := by
  obtain ⟨fuel, hf⟩ := h
  rcases DataW.trod_slice hu hf with ⟨hcs, hx⟩ | ⟨a, len, cap, elems, rest, m, _, hcs, hx, _, hl, _, hlen, _⟩
  · simp [Value.cells] at hcs
    obtain ⟨_, rfl, _⟩ := hcs
    simp
  · simp [Value.cells] at hcs
    obtain ⟨_, rfl, rfl⟩ := hcs
    obtain ⟨hx, _⟩ := Prod.mk.inj hx
    subst hx
    have z := sized_slice hsz ht hd hu
    rw [hB] at z
    have h1 : n ≤ (elems.map (·.1)).length + (rest.map (·.1)).length := by simp; omega
    exact Nat.le_trans (Nat.mul_le_mul_right _ h1) z
end Go.Proofs.Ytkgdlbepjmgaiaa.Row
set_option linter.unusedVariables false
namespace Go.Proofs.Ytkgdlbepjmgaiaa.Cal
open Go.RowKit Go.Proofs.YtkgdlbepjmgaiaaW.PrintWords Go.Proofs.Ytkgdlbepjmgaiaa.Row
theorem o68 : Opens Try.prog k68 68 (fun _ => True) :=
  opens_struct Try.underlying68 (by kernel_rfl)
    (opensF_cons rfl (by kernel_rfl) (opens_string Try.underlying9) (opensF_cons rfl (by kernel_rfl) (opens_string Try.underlying9) (opensF_cons rfl (by kernel_rfl) (opens_int Try.underlying3)
      (opensF_cons rfl (by kernel_rfl) (opens_int Try.underlying3) (opensF_cons rfl (by kernel_rfl) (opens_int Try.underlying3) (opensF_one rfl (by kernel_rfl) (opens_int Try.underlying3)))))))
    (fun a _ => ⟨⟨a.1, a.2.1, a.2.2.1, a.2.2.2.1, a.2.2.2.2.1, a.2.2.2.2.2⟩, rfl, trivial⟩)
theorem o49 : Opens Try.prog (Kd.slice 68 k68) 49 (fun xs => xs.length ≤ maxLen ∧ ∀ x ∈ xs, True) := opens_slice Try.underlying49 (by kernel_rfl) o68
end Go.Proofs.Ytkgdlbepjmgaiaa.Cal
set_option linter.unusedVariables false
namespace Go.Proofs.Ytkgdlbepjmgaiaa.Cal
open Go.RowKit Go.Proofs.YtkgdlbepjmgaiaaW.PrintWords Go.Proofs.Ytkgdlbepjmgaiaa.Row
structure S51 where
  f0 : ByteArray
  f1 : Int
  f2 : Int
def k51 : Kd S51 := Kd.iso (Kd.pair Kd.string (Kd.pair (Kd.int .i64) (Kd.int .i64))) (fun x : S51 => (x.f0, x.f1, x.f2))
theorem k51_open {w : World} {x : S51} {cs : List Value} (h : k51.K w x cs) : cs = [.string x.f0, .int .i64 x.f1, .int .i64 x.f2] := by
  obtain ⟨_, _, rfl, rfl, ⟨_, _, rfl, rfl, rfl⟩⟩ := h
  exact rfl
theorem o51 : Opens Try.prog k51 51 (fun _ => True) :=
  opens_struct Try.underlying51 (by kernel_rfl)
    (opensF_cons rfl (by kernel_rfl) (opens_string Try.underlying9) (opensF_cons rfl (by kernel_rfl) (opens_int Try.underlying3) (opensF_one rfl (by kernel_rfl) (opens_int Try.underlying3))))
    (fun a _ => ⟨⟨a.1, a.2.1, a.2.2⟩, rfl, trivial⟩)
structure S25 where
  f0 : Int
  f1 : Int
def k25 : Kd S25 := Kd.iso (Kd.pair (Kd.int .i64) (Kd.int .i64)) (fun x : S25 => (x.f0, x.f1))
theorem k25_open {w : World} {x : S25} {cs : List Value} (h : k25.K w x cs) : cs = [.int .i64 x.f0, .int .i64 x.f1] := by
  obtain ⟨_, _, rfl, rfl, rfl⟩ := h
  exact rfl
theorem o25 : Opens Try.prog k25 25 (fun _ => True) :=
  opens_struct Try.underlying25 (by kernel_rfl)
    (opensF_cons rfl (by kernel_rfl) (opens_int Try.underlying3) (opensF_one rfl (by kernel_rfl) (opens_int Try.underlying3)))
    (fun a _ => ⟨⟨a.1, a.2⟩, rfl, trivial⟩)
end Go.Proofs.Ytkgdlbepjmgaiaa.Cal
set_option linter.unusedVariables false
set_option linter.unusedSimpArgs false
namespace Go.Proofs.Ytkgdlbepjmgaiaa.calibrateJudges
open Go.ChangeShapes Go.WideShapes Go.ChangeAt Go.RowKit
open Go.ChangeMaps (open_string shut_string)
open Go.Proofs.YtkgdlbepjmgaiaaW.PrintWords Go.Proofs.Ytkgdlbepjmgaiaa.Row Go.Proofs.Ytkgdlbepjmgaiaa.Cal
theorem own : ownKnob Try.prog.godebug = none := by kernel_rfl
theorem laidOut : laidOutB Try.prog = true := by kernel_rfl
set_option maxRecDepth 100000 in
set_option maxHeartbeats 1000000 in
theorem lifted (os : Os) (started : os.Started) (H : Type) (enc : TypeId × Value → H) :
    ReturnsInHanded {} Try.checked os 14 .any (Rows.calibrateJudgesSpec.pre6 enc Try.prog Try.f14 Rows.calibrateJudgesRow.domain false) (Rows.calibrateJudgesSpec.post enc Try.prog Try.f14 false true false false) := by
  refine returnsInHanded_of_change_sized (C := Try.checked) own started (by kernel_rfl) Try.func14
    (ChangeSpec.witness6 (enc := enc) (C := Try.checked) false ⟨#[], #[.slice none 0 0, .agg #[.string ByteArray.empty, .int .i64 0, .int .i64 0], .agg #[.int .i64 0, .int .i64 0]], []⟩ 8 (by kernel_rfl) (by kernel_rfl) (by kernel_rfl) (by kernel_rfl)) ?_
  intro W base args ds gs before hval0 hW hcnd hsz0 _
  have hsz : (DataW.weightsEach Try.prog (Try.f14.params.toList ++ Rows.calibrateJudgesSpec.plain.varTypes Try.prog) (ds ++ gs)).all (· ≤ reachBytes) = true := hsz0
  have hval : ∀ (j : Nat) t v, Try.f14.params[j]? = some t → args[j]? = some v → Value.okWide Try.prog W .any base t v := hval0
  have hW' := hW
  obtain ⟨p, q, hA0, hV, rfl, hfz, hnd⟩ := hW
  have hA : DataW.TrodAll enc Try.prog W 0 (fun _ => true) true Try.f14.params.toList args.toList ds p := hA0
  rw [Try.params14] at hA hval hsz
  obtain ⟨v0, vs0, d0, ds0, p0, q0, hargs, rfl, rfl, h0, r0⟩ := trodAll_cons hA
  obtain ⟨v1, vs1, d1, ds1, p1, q1, rfl, rfl, rfl, h1, r1⟩ := trodAll_cons r0
  obtain ⟨v2, vs2, d2, ds2, p2, q2, rfl, rfl, rfl, h2, r2⟩ := trodAll_cons r1
  obtain ⟨rfl, rfl, rfl⟩ := trodAll_nil r2
  obtain rfl : args = #[v0, v1, v2] := by cases args; simp_all
  obtain ⟨rfl, rfl⟩ := trodVars_none hV
  have k0 := h0
  have lt0 : ∀ x ∈ p0, x.block < W.heap.size := by obtain ⟨m, hm⟩ := k0; exact DataW.trod_lt m _ _ _ hm
  obtain ⟨a0, len0, cap0, rfl⟩ := okWide_slice Try.underlying49 (hval 0 49 v0 rfl rfl)
  obtain ⟨l0, ⟨A0, c0, hcs0, hlc0, hC0⟩, hml0⟩ : ∃ l, (Kd.slice 68 k68).K W l [.slice a0 len0 cap0] ∧ l.length ≤ maxLen := by obtain ⟨fuel, hf⟩ := h0; obtain ⟨l, hK, hQ⟩ := o49 _ _ _ _ _ _ _ _ _ hf; exact ⟨l, hK, hQ.1⟩
  simp only [List.cons.injEq, Value.slice.injEq, and_true] at hcs0
  obtain ⟨rfl, rfl, rfl⟩ := hcs0
  have y0 : l0.length * 64 ≤ 140737488351232 := sized_rows hsz (j := 0) (t := 49) rfl rfl Try.underlying49 (by kernel_rfl) h0
  have k1 := h1
  have lt1 : ∀ x ∈ p1, x.block < W.heap.size := by obtain ⟨m, hm⟩ := k1; exact DataW.trod_lt m _ _ _ hm
  obtain ⟨cs1, rfl, hn1⟩ := okWide_struct Try.underlying51 (hval 1 51 v1 rfl rfl)
  obtain ⟨x1, hK1, _⟩ : ∃ x, k51.K W x (Value.agg cs1).cells.toList ∧ True := by obtain ⟨fuel, hf⟩ := h1; exact o51 _ _ _ _ _ _ _ _ _ hf
  have hq1 := k51_open hK1
  obtain rfl : cs1 = #[.string x1.f0, .int .i64 x1.f1, .int .i64 x1.f2] := Array.toList_inj.1 hq1
  have k2 := h2
  have lt2 : ∀ x ∈ p2, x.block < W.heap.size := by obtain ⟨m, hm⟩ := k2; exact DataW.trod_lt m _ _ _ hm
  obtain ⟨cs2, rfl, hn2⟩ := okWide_struct Try.underlying25 (hval 2 25 v2 rfl rfl)
  obtain ⟨x2, hK2, _⟩ : ∃ x, k25.K W x (Value.agg cs2).cells.toList ∧ True := by obtain ⟨fuel, hf⟩ := h2; exact o25 _ _ _ _ _ _ _ _ _ hf
  have hq2 := k25_open hK2
  obtain rfl : cs2 = #[.int .i64 x2.f0, .int .i64 x2.f1] := Array.toList_inj.1 hq2
  clear hA0 hval0 hsz0 hsz
  obtain ⟨k, hk⟩ := CalibrateJudges_pure l0 x1.f0 x1.f1 x1.f2 x2.f0 x2.f1 y0
  refine (metrolablaw52_CalibrateJudges.calls k _ _ l0 (x1.f0) (x1.f1) (x1.f2) (x2.f0) (x2.f1) true W hC0 hlc0 rfl hk).mono fun e W' ⟨he, bel⟩ => ?_
  subst he
  exact ⟨_, rfl, _, _, _, [], _, [], hW', trodAll_mk1 (shut_bool Try.underlying4 _), (trodAll_cons_mk (Below.trod laidOut (by kernel_rfl) (of_decide_eq_true (by kernel_rfl)) k0 bel lt0) (trodAll_cons_mk (Below.trod laidOut (by kernel_rfl) (of_decide_eq_true (by kernel_rfl)) k1 bel lt1) (trodAll_cons_mk (Below.trod laidOut (by kernel_rfl) (of_decide_eq_true (by kernel_rfl)) k2 bel lt2) trodAll_mk0))), rfl, bel.frame _, fun h => by cases h⟩
theorem over : Rows.calibrateJudgesRow.holds Try.pinned (OpenSpec.ofChange Rows.calibrateJudgesSpec) :=
  OpenClaim.holds_of_wide 14 Try.f14 rfl rfl rfl rfl rfl rfl rfl ⟨rfl, rfl, rfl, rfl, rfl⟩ rfl rfl rfl rfl rfl (by kernel_rfl) Try.func14 (by kernel_rfl)
    (of_decide_eq_true (by kernel_rfl)) (by unfold Func.isWrapper; first | (rw [if_pos (by decide +kernel)]; kernel_rfl) | (rw [if_neg (by decide +kernel)]; exact ⟨rfl, rfl⟩))
    (fun os started H enc _ => lifted os started H enc)
theorem proved : Rows.CalibrateJudgesSaid := over
#print axioms proved
end Go.Proofs.Ytkgdlbepjmgaiaa.calibrateJudges
namespace Go.Proofs.Ytkgdlbepjmgaiaa
theorem calibrateJudges_holds : Rows.CalibrateJudgesSaid := calibrateJudges.proved
end Go.Proofs.Ytkgdlbepjmgaiaa
