/- CalibrateParts: for every input the law returns true, and each argument reads behind the call as it read before: the row, out of the walk and the plain law. No condition. -/
import Derived.Test.YtkgdlbepjmgaiaaProg
import Derived.WalkKit
import Derived.ProofKit
import Derived.ChangeArms
import Derived.SizedLaws
import Derived.Test.YtkgdlbepjmgaiaaRows
import Derived.OpenShut
import Derived.ShutString
import Derived.ChangeOld
import Derived.Below
import Derived.Test.YtkgdlbepjmgaiaaZParts4
namespace Go.Proofs.Ytkgdlbepjmgaiaa.Cal
open Go.RowKit Go.Proofs.YtkgdlbepjmgaiaaW.PrintWords Go.Proofs.YtkgdlbepjmgaiaaW.PrintLast Go.Proofs.YtkgdlbepjmgaiaaW.PrintMore
attribute [local go_sem] max2_int min2_int max_two min_two max_three min_three max_four min_four
set_option linter.unusedVariables false
set_option linter.unusedSimpArgs false
def metrolabref52_Check.l0 : Nat → List (S121) → Int → Option (Int)
  | 0, _, _ => none
  | k + 1, x0, x3 => if x3 < (x0.length : Int) then (if 0 ≤ x3 then ((metrolabref52_right.f k ((rd_T121 x0 x3).f0) ((rd_T121 x0 x3).f1) ((rd_T121 x0 x3).f2) ((rd_T121 x0 x3).f3) ((rd_T121 x0 x3).f4) ((rd_T121 x0 x3).f5)).bind fun t267 => (if t267 = 0 then (if x3 > 0 then (if 0 ≤ (wrap64 (x3 - 1)) then (if (wrap64 (x3 - 1)) < (x0.length : Int) then (if (Op.bytesLess (((rd_T121 x0 x3).f0).toList) (((rd_T121 x0 (wrap64 (x3 - 1))).f0).toList)) = true then (some 9) else (if ((rd_T121 x0 x3).f0).toList = ((rd_T121 x0 (wrap64 (x3 - 1))).f0).toList then (if ((rd_T121 x0 x3).f4) ≤ ((rd_T121 x0 (wrap64 (x3 - 1))).f5) then (some 9) else (metrolabref52_Check.l0 k x0 (wrap64 (x3 + 1)))) else (metrolabref52_Check.l0 k x0 (wrap64 (x3 + 1))))) else (none)) else (none)) else (metrolabref52_Check.l0 k x0 (wrap64 (x3 + 1)))) else (some t267))) else (none)) else (some 0)
def metrolabref52_Check.f (k : Nat) (l0 : List (S121)) : Option (Int) := if (l0.length : Int) > 256 then (some 5) else (metrolabref52_Check.l0 k l0 0)
theorem metrolabref52_Check.mono_l : ∀ k, (∀ y0 y1, LeO (metrolabref52_Check.l0 k y0 y1) (metrolabref52_Check.l0 (k + 1) y0 y1))
  | 0 => fun _ _ r h => by simp [metrolabref52_Check.l0] at h
  | k + 1 => by
    have ih0 := metrolabref52_Check.mono_l k
    · intro y0 y1
      unfold metrolabref52_Check.l0
      repeat' first
      | (with_reducible exact ih0 _ _)
      | (with_reducible exact metrolabref52_right.mono _ _ _ _ _ _ _)
      | (with_reducible exact LeO.refl _)
      | (with_reducible exact LeO.none _)
      | (with_reducible refine LeO.ite ?_ ?_)
      | (with_reducible refine LeO.bind ?_ (fun _ => ?_))
      | exact ih0 _ _
      | exact metrolabref52_right.mono _ _ _ _ _ _ _
      | exact LeO.none _
      | refine LeO.ite ?_ ?_
      | refine LeO.bind ?_ (fun _ => ?_)
theorem metrolabref52_Check.mono : ∀ a0 k, LeO (metrolabref52_Check.f k a0) (metrolabref52_Check.f (k + 1) a0) := by
  intro a0 k
  have ih0 := metrolabref52_Check.mono_l k
  unfold metrolabref52_Check.f
  repeat' first
      | (with_reducible exact ih0 _ _)
      | (with_reducible exact metrolabref52_right.mono _ _ _ _ _ _ _)
      | (with_reducible exact LeO.refl _)
      | (with_reducible exact LeO.none _)
      | (with_reducible refine LeO.ite ?_ ?_)
      | (with_reducible refine LeO.bind ?_ (fun _ => ?_))
      | exact ih0 _ _
      | exact metrolabref52_right.mono _ _ _ _ _ _ _
      | exact LeO.none _
      | refine LeO.ite ?_ ?_
      | refine LeO.bind ?_ (fun _ => ?_)
set_option maxHeartbeats 8000000 in
set_option maxRecDepth 100000 in
theorem metrolabref52_Check.calls (k : Nat) (A0 : Option Addr) (c0 : Nat) (l0 : List (S121)) (r : Int) (w : World) (hr0 : Kd.C k121 w A0 l0.length l0) (hc0 : l0.length ≤ c0) (h : metrolabref52_Check.f k l0 = some r) :
    Calls Try.prog 36 #[.slice A0 l0.length c0] w fun e w' => e = .returned (.int .i64 r) ∧ Below w.heap.size w w' := by
  have hu121 := Try.underlying121
  have HR0 := Aside0.mk hr0
  have HC0 := Aside0.mk hc0
  clear hr0 hc0
  have HB := Aside0.mk (Below.refl w.heap.size w)
  have H : (if (l0.length : Int) > 256 then (some 5) else (metrolabref52_Check.l0 k l0 0)) = some r := h
  clear h
  by_cases c2 : (l0.length : Int) > 256
  · rw [if_pos c2] at H
    have c2b0 : decide (256 < (l0.length : Int)) = true := decide_eq_true c2
    have c2b1 : decide (256 < l0.length) = true := decide_eq_true (by omega)
    clear c2
    obtain rfl := Option.some.inj H
    go_enter Try.func36, Try.ntmps36
    go_wp2
    repeat (go_quiet (fail); try go_wp2)
    go_ret
    exact ⟨by first | rfl | (simp [errW_none, errW_some] <;> rfl) | (simp [*, errW_none, errW_some] <;> rfl), by repeat (first | (with_reducible first | exact HB.out | apply below_alloc | apply pw_below_drewN | apply below_drew1) | exact HB.out)⟩
  · rw [if_neg c2] at H
    have c2b0 : decide (256 < (l0.length : Int)) = false := decide_eq_false c2
    have c2b1 : decide (256 < l0.length) = false := decide_eq_false (by omega)
    clear c2
    have H' := Aside0.mk H
    clear H
    go_enter Try.func36, Try.ntmps36
    go_wp2
    repeat (go_quiet (fail); try go_wp2)
    go_loopg [3] k (fun kq v3 w' => ∃ (x3_1 : Int), v3 = .int .i64 x3_1 ∧ Aside0 (metrolabref52_Check.l0 kq l0 x3_1 = some r) ∧ Aside0 (kq ≤ k) ∧ Aside0 (Below w.heap.size w w'))
    case atStart => exact ⟨(0), (by first | rfl | (simp; done) | (simp [*]; done)), H', ⟨Nat.le_refl _⟩, ⟨by repeat (first | (with_reducible first | exact HB.out | apply below_alloc | apply pw_below_drewN | apply below_drew1) | exact HB.out)⟩⟩
    case round =>
      clear H'
      try clear c2
      try clear c2b0
      try clear c2b1
      try clear p2
      obtain ⟨x3_1, rfl, HA, HK1, HB⟩ := hrel
      cases gk with
      | zero => exact absurd HA.out (by simp [metrolabref52_Check.l0])
      | succ k1 =>
        have H := HA.out
        clear HA
        simp only [metrolabref52_Check.l0] at H
        by_cases c3 : x3_1 < (l0.length : Int)
        · rw [if_pos c3] at H
          have c3b0 : decide (x3_1 < (l0.length : Int)) = true := decide_eq_true c3
          clear c3
          by_cases c4 : 0 ≤ x3_1
          · rw [if_pos c4] at H
            have c4b0 : decide (0 ≤ x3_1) = true := decide_eq_true c4
            clear c4
            replace H := Option.bind_eq_some_iff.mp H
            obtain ⟨t267, A50, H⟩ := H
            replace H : (if t267 = 0 then (if x3_1 > 0 then (if 0 ≤ (wrap64 (x3_1 - 1)) then (if (wrap64 (x3_1 - 1)) < (l0.length : Int) then (if (Op.bytesLess (((rd_T121 l0 x3_1).f0).toList) (((rd_T121 l0 (wrap64 (x3_1 - 1))).f0).toList)) = true then (some 9) else (if ((rd_T121 l0 x3_1).f0).toList = ((rd_T121 l0 (wrap64 (x3_1 - 1))).f0).toList then (if ((rd_T121 l0 x3_1).f4) ≤ ((rd_T121 l0 (wrap64 (x3_1 - 1))).f5) then (some 9) else (metrolabref52_Check.l0 k1 l0 (wrap64 (x3_1 + 1)))) else (metrolabref52_Check.l0 k1 l0 (wrap64 (x3_1 + 1))))) else (none)) else (none)) else (metrolabref52_Check.l0 k1 l0 (wrap64 (x3_1 + 1)))) else (some t267)) = some r := H
            have A5 := Aside0.mk A50
            clear A50
            by_cases c6 : t267 = 0
            · rw [if_pos c6] at H
              have c6b0 : (t267 == 0) = true := beq_iff_eq.mpr c6
              have c6b1 : (t267 != 0) = false := bne_eq_false_iff_eq.mpr c6
              clear c6
              by_cases c7 : x3_1 > 0
              · rw [if_pos c7] at H
                have c7b0 : decide (0 < x3_1) = true := decide_eq_true c7
                clear c7
                obtain ⟨ji8, hji8⟩ : ∃ j_ : Int, (wrap64 (x3_1 - 1)) = j_ := ⟨_, rfl⟩
                replace H : (if 0 ≤ (ji8) then (if (ji8) < (l0.length : Int) then (if (Op.bytesLess (((rd_T121 l0 x3_1).f0).toList) (((rd_T121 l0 (ji8)).f0).toList)) = true then (some 9) else (if ((rd_T121 l0 x3_1).f0).toList = ((rd_T121 l0 (ji8)).f0).toList then (if ((rd_T121 l0 x3_1).f4) ≤ ((rd_T121 l0 (ji8)).f5) then (some 9) else (metrolabref52_Check.l0 k1 l0 (wrap64 (x3_1 + 1)))) else (metrolabref52_Check.l0 k1 l0 (wrap64 (x3_1 + 1))))) else (none)) else (none)) = some r := by first | (rw [hji8] at H; exact H) | (simp only [hji8] at H ⊢; exact H)
                (try rw [hji8] at A5)
                have hji8w : (IntKind.i64.wrap (x3_1 - 1)) = ji8 := (i64_w _).trans hji8
                by_cases c9 : 0 ≤ (ji8)
                · rw [if_pos c9] at H
                  have c9b0 : decide (0 ≤ (ji8)) = true := decide_eq_true c9
                  clear c9
                  by_cases c10 : (ji8) < (l0.length : Int)
                  · rw [if_pos c10] at H
                    have c10b0 : decide ((ji8) < (l0.length : Int)) = true := decide_eq_true c10
                    clear c10
                    by_cases c11 : (Op.bytesLess (((rd_T121 l0 x3_1).f0).toList) (((rd_T121 l0 (ji8)).f0).toList)) = true
                    · rw [if_pos c11] at H
                      have c11b0 : (Op.bytesLess (((rd_T121 l0 x3_1).f0).toList) (((rd_T121 l0 (ji8)).f0).toList)) = true := c11
                      clear c11
                      obtain rfl := Option.some.inj H
                      have p266 : 0 ≤ (x3_1 : Int) := of_decide_eq_true (by first | (with_reducible assumption) | assumption)
                      have q266 : x3_1 < (l0.length : Int) := of_decide_eq_true (by first | (with_reducible assumption) | assumption)
                      obtain ⟨ad266, e266, hx266_0, hx266_1, hx266_2, hx266_3, hx266_4, hx266_5⟩ := at_T121 HR0.out x3_1 p266 q266
                      cases e266
                      replace hx266_0 := (HB.out.cell (World.block_lt_of_cell? w _ hx266_0)).trans hx266_0
                      replace hx266_1 := (HB.out.cell (World.block_lt_of_cell? w _ hx266_1)).trans hx266_1
                      replace hx266_2 := (HB.out.cell (World.block_lt_of_cell? w _ hx266_2)).trans hx266_2
                      replace hx266_3 := (HB.out.cell (World.block_lt_of_cell? w _ hx266_3)).trans hx266_3
                      replace hx266_4 := (HB.out.cell (World.block_lt_of_cell? w _ hx266_4)).trans hx266_4
                      replace hx266_5 := (HB.out.cell (World.block_lt_of_cell? w _ hx266_5)).trans hx266_5
                      replace p266 := eq_true p266
                      replace q266 := eq_true q266
                      go_wp2_with (first | (go_at_call 86; (with_reducible refine (metrolabref52_right.calls k1 ((rd_T121 l0 x3_1).f0) ((rd_T121 l0 x3_1).f1) ((rd_T121 l0 x3_1).f2) ((rd_T121 l0 x3_1).f3) ((rd_T121 l0 x3_1).f4) ((rd_T121 l0 x3_1).f5) t267 _ A5.out).mono ?_); rintro e w12 ⟨rfl, hb⟩; have n0_ := Aside0.mk (below_step (by repeat (first | (with_reducible first | exact HB.out | apply below_alloc | apply pw_below_drewN | apply below_drew1) | exact HB.out)) hb); clear HB; have HB := n0_; clear n0_; (try clear hb); (try clear hb2); (try clear hk); (try clear hi); have p268 : 0 ≤ (x3_1 : Int) := of_decide_eq_true (by first | (with_reducible assumption) | assumption); have q268 : x3_1 < (l0.length : Int) := of_decide_eq_true (by first | (with_reducible assumption) | assumption); obtain ⟨ad268, e268, hx268_0, hx268_1, hx268_2, hx268_3, hx268_4, hx268_5⟩ := at_T121 HR0.out x3_1 p268 q268; obtain rfl : ad266 = ad268 := (by injection e268); replace hx268_0 := (HB.out.cell (World.block_lt_of_cell? w _ hx268_0)).trans hx268_0; replace hx268_1 := (HB.out.cell (World.block_lt_of_cell? w _ hx268_1)).trans hx268_1; replace hx268_2 := (HB.out.cell (World.block_lt_of_cell? w _ hx268_2)).trans hx268_2; replace hx268_3 := (HB.out.cell (World.block_lt_of_cell? w _ hx268_3)).trans hx268_3; replace hx268_4 := (HB.out.cell (World.block_lt_of_cell? w _ hx268_4)).trans hx268_4; replace hx268_5 := (HB.out.cell (World.block_lt_of_cell? w _ hx268_5)).trans hx268_5; replace p268 := eq_true p268; replace q268 := eq_true q268; have p269 : 0 ≤ ((ji8) : Int) := of_decide_eq_true (by first | (with_reducible assumption) | assumption); have q269 : (ji8) < (l0.length : Int) := of_decide_eq_true (by first | (with_reducible assumption) | assumption); obtain ⟨ad269, e269, hx269_0, hx269_1, hx269_2, hx269_3, hx269_4, hx269_5⟩ := at_T121 HR0.out (ji8) p269 q269; obtain rfl : ad266 = ad269 := (by injection e269); replace hx269_0 := (HB.out.cell (World.block_lt_of_cell? w _ hx269_0)).trans hx269_0; replace hx269_1 := (HB.out.cell (World.block_lt_of_cell? w _ hx269_1)).trans hx269_1; replace hx269_2 := (HB.out.cell (World.block_lt_of_cell? w _ hx269_2)).trans hx269_2; replace hx269_3 := (HB.out.cell (World.block_lt_of_cell? w _ hx269_3)).trans hx269_3; replace hx269_4 := (HB.out.cell (World.block_lt_of_cell? w _ hx269_4)).trans hx269_4; replace hx269_5 := (HB.out.cell (World.block_lt_of_cell? w _ hx269_5)).trans hx269_5; replace p269 := eq_true p269; replace q269 := eq_true q269))
                      repeat (go_quiet (first | (go_at_call 86; (with_reducible refine (metrolabref52_right.calls k1 ((rd_T121 l0 x3_1).f0) ((rd_T121 l0 x3_1).f1) ((rd_T121 l0 x3_1).f2) ((rd_T121 l0 x3_1).f3) ((rd_T121 l0 x3_1).f4) ((rd_T121 l0 x3_1).f5) t267 _ A5.out).mono ?_); rintro e w12 ⟨rfl, hb⟩; have n0_ := Aside0.mk (below_step (by repeat (first | (with_reducible first | exact HB.out | apply below_alloc | apply pw_below_drewN | apply below_drew1) | exact HB.out)) hb); clear HB; have HB := n0_; clear n0_; (try clear hb); (try clear hb2); (try clear hk); (try clear hi); have p268 : 0 ≤ (x3_1 : Int) := of_decide_eq_true (by first | (with_reducible assumption) | assumption); have q268 : x3_1 < (l0.length : Int) := of_decide_eq_true (by first | (with_reducible assumption) | assumption); obtain ⟨ad268, e268, hx268_0, hx268_1, hx268_2, hx268_3, hx268_4, hx268_5⟩ := at_T121 HR0.out x3_1 p268 q268; obtain rfl : ad266 = ad268 := (by injection e268); replace hx268_0 := (HB.out.cell (World.block_lt_of_cell? w _ hx268_0)).trans hx268_0; replace hx268_1 := (HB.out.cell (World.block_lt_of_cell? w _ hx268_1)).trans hx268_1; replace hx268_2 := (HB.out.cell (World.block_lt_of_cell? w _ hx268_2)).trans hx268_2; replace hx268_3 := (HB.out.cell (World.block_lt_of_cell? w _ hx268_3)).trans hx268_3; replace hx268_4 := (HB.out.cell (World.block_lt_of_cell? w _ hx268_4)).trans hx268_4; replace hx268_5 := (HB.out.cell (World.block_lt_of_cell? w _ hx268_5)).trans hx268_5; replace p268 := eq_true p268; replace q268 := eq_true q268; have p269 : 0 ≤ ((ji8) : Int) := of_decide_eq_true (by first | (with_reducible assumption) | assumption); have q269 : (ji8) < (l0.length : Int) := of_decide_eq_true (by first | (with_reducible assumption) | assumption); obtain ⟨ad269, e269, hx269_0, hx269_1, hx269_2, hx269_3, hx269_4, hx269_5⟩ := at_T121 HR0.out (ji8) p269 q269; obtain rfl : ad266 = ad269 := (by injection e269); replace hx269_0 := (HB.out.cell (World.block_lt_of_cell? w _ hx269_0)).trans hx269_0; replace hx269_1 := (HB.out.cell (World.block_lt_of_cell? w _ hx269_1)).trans hx269_1; replace hx269_2 := (HB.out.cell (World.block_lt_of_cell? w _ hx269_2)).trans hx269_2; replace hx269_3 := (HB.out.cell (World.block_lt_of_cell? w _ hx269_3)).trans hx269_3; replace hx269_4 := (HB.out.cell (World.block_lt_of_cell? w _ hx269_4)).trans hx269_4; replace hx269_5 := (HB.out.cell (World.block_lt_of_cell? w _ hx269_5)).trans hx269_5; replace p269 := eq_true p269; replace q269 := eq_true q269)); try go_wp2_with (first | (go_at_call 86; (with_reducible refine (metrolabref52_right.calls k1 ((rd_T121 l0 x3_1).f0) ((rd_T121 l0 x3_1).f1) ((rd_T121 l0 x3_1).f2) ((rd_T121 l0 x3_1).f3) ((rd_T121 l0 x3_1).f4) ((rd_T121 l0 x3_1).f5) t267 _ A5.out).mono ?_); rintro e w12 ⟨rfl, hb⟩; have n0_ := Aside0.mk (below_step (by repeat (first | (with_reducible first | exact HB.out | apply below_alloc | apply pw_below_drewN | apply below_drew1) | exact HB.out)) hb); clear HB; have HB := n0_; clear n0_; (try clear hb); (try clear hb2); (try clear hk); (try clear hi); have p268 : 0 ≤ (x3_1 : Int) := of_decide_eq_true (by first | (with_reducible assumption) | assumption); have q268 : x3_1 < (l0.length : Int) := of_decide_eq_true (by first | (with_reducible assumption) | assumption); obtain ⟨ad268, e268, hx268_0, hx268_1, hx268_2, hx268_3, hx268_4, hx268_5⟩ := at_T121 HR0.out x3_1 p268 q268; obtain rfl : ad266 = ad268 := (by injection e268); replace hx268_0 := (HB.out.cell (World.block_lt_of_cell? w _ hx268_0)).trans hx268_0; replace hx268_1 := (HB.out.cell (World.block_lt_of_cell? w _ hx268_1)).trans hx268_1; replace hx268_2 := (HB.out.cell (World.block_lt_of_cell? w _ hx268_2)).trans hx268_2; replace hx268_3 := (HB.out.cell (World.block_lt_of_cell? w _ hx268_3)).trans hx268_3; replace hx268_4 := (HB.out.cell (World.block_lt_of_cell? w _ hx268_4)).trans hx268_4; replace hx268_5 := (HB.out.cell (World.block_lt_of_cell? w _ hx268_5)).trans hx268_5; replace p268 := eq_true p268; replace q268 := eq_true q268; have p269 : 0 ≤ ((ji8) : Int) := of_decide_eq_true (by first | (with_reducible assumption) | assumption); have q269 : (ji8) < (l0.length : Int) := of_decide_eq_true (by first | (with_reducible assumption) | assumption); obtain ⟨ad269, e269, hx269_0, hx269_1, hx269_2, hx269_3, hx269_4, hx269_5⟩ := at_T121 HR0.out (ji8) p269 q269; obtain rfl : ad266 = ad269 := (by injection e269); replace hx269_0 := (HB.out.cell (World.block_lt_of_cell? w _ hx269_0)).trans hx269_0; replace hx269_1 := (HB.out.cell (World.block_lt_of_cell? w _ hx269_1)).trans hx269_1; replace hx269_2 := (HB.out.cell (World.block_lt_of_cell? w _ hx269_2)).trans hx269_2; replace hx269_3 := (HB.out.cell (World.block_lt_of_cell? w _ hx269_3)).trans hx269_3; replace hx269_4 := (HB.out.cell (World.block_lt_of_cell? w _ hx269_4)).trans hx269_4; replace hx269_5 := (HB.out.cell (World.block_lt_of_cell? w _ hx269_5)).trans hx269_5; replace p269 := eq_true p269; replace q269 := eq_true q269)))
                      go_ret
                      exact ⟨by first | rfl | (simp [errW_none, errW_some] <;> rfl) | (simp only [← hji8]; first | rfl | (simp [errW_none, errW_some] <;> rfl)) | (simp [*, errW_none, errW_some] <;> rfl), by repeat (first | (with_reducible first | exact HB.out | apply below_alloc | apply pw_below_drewN | apply below_drew1) | exact HB.out)⟩
                    · rw [if_neg c11] at H
                      have c11b0 : (Op.bytesLess (((rd_T121 l0 x3_1).f0).toList) (((rd_T121 l0 (ji8)).f0).toList)) = false := by simpa using c11
                      clear c11
                      by_cases c13 : ((rd_T121 l0 x3_1).f0).toList = ((rd_T121 l0 (ji8)).f0).toList
                      · rw [if_pos c13] at H
                        have c13b0 : (((rd_T121 l0 x3_1).f0).toList == ((rd_T121 l0 (ji8)).f0).toList) = true := beq_iff_eq.mpr c13
                        have c13b1 : (((rd_T121 l0 x3_1).f0).toList != ((rd_T121 l0 (ji8)).f0).toList) = false := bne_eq_false_iff_eq.mpr c13
                        clear c13
                        by_cases c14 : ((rd_T121 l0 x3_1).f4) ≤ ((rd_T121 l0 (ji8)).f5)
                        · rw [if_pos c14] at H
                          have c14b0 : decide (((rd_T121 l0 x3_1).f4) ≤ ((rd_T121 l0 (ji8)).f5)) = true := decide_eq_true c14
                          clear c14
                          obtain rfl := Option.some.inj H
                          have p266 : 0 ≤ (x3_1 : Int) := of_decide_eq_true (by first | (with_reducible assumption) | assumption)
                          have q266 : x3_1 < (l0.length : Int) := of_decide_eq_true (by first | (with_reducible assumption) | assumption)
                          obtain ⟨ad266, e266, hx266_0, hx266_1, hx266_2, hx266_3, hx266_4, hx266_5⟩ := at_T121 HR0.out x3_1 p266 q266
                          cases e266
                          replace hx266_0 := (HB.out.cell (World.block_lt_of_cell? w _ hx266_0)).trans hx266_0
                          replace hx266_1 := (HB.out.cell (World.block_lt_of_cell? w _ hx266_1)).trans hx266_1
                          replace hx266_2 := (HB.out.cell (World.block_lt_of_cell? w _ hx266_2)).trans hx266_2
                          replace hx266_3 := (HB.out.cell (World.block_lt_of_cell? w _ hx266_3)).trans hx266_3
                          replace hx266_4 := (HB.out.cell (World.block_lt_of_cell? w _ hx266_4)).trans hx266_4
                          replace hx266_5 := (HB.out.cell (World.block_lt_of_cell? w _ hx266_5)).trans hx266_5
                          replace p266 := eq_true p266
                          replace q266 := eq_true q266
                          go_wp2_with (first | (go_at_call 86; (with_reducible refine (metrolabref52_right.calls k1 ((rd_T121 l0 x3_1).f0) ((rd_T121 l0 x3_1).f1) ((rd_T121 l0 x3_1).f2) ((rd_T121 l0 x3_1).f3) ((rd_T121 l0 x3_1).f4) ((rd_T121 l0 x3_1).f5) t267 _ A5.out).mono ?_); rintro e w15 ⟨rfl, hb⟩; have n0_ := Aside0.mk (below_step (by repeat (first | (with_reducible first | exact HB.out | apply below_alloc | apply pw_below_drewN | apply below_drew1) | exact HB.out)) hb); clear HB; have HB := n0_; clear n0_; (try clear hb); (try clear hb2); (try clear hk); (try clear hi); have p268 : 0 ≤ (x3_1 : Int) := of_decide_eq_true (by first | (with_reducible assumption) | assumption); have q268 : x3_1 < (l0.length : Int) := of_decide_eq_true (by first | (with_reducible assumption) | assumption); obtain ⟨ad268, e268, hx268_0, hx268_1, hx268_2, hx268_3, hx268_4, hx268_5⟩ := at_T121 HR0.out x3_1 p268 q268; obtain rfl : ad266 = ad268 := (by injection e268); replace hx268_0 := (HB.out.cell (World.block_lt_of_cell? w _ hx268_0)).trans hx268_0; replace hx268_1 := (HB.out.cell (World.block_lt_of_cell? w _ hx268_1)).trans hx268_1; replace hx268_2 := (HB.out.cell (World.block_lt_of_cell? w _ hx268_2)).trans hx268_2; replace hx268_3 := (HB.out.cell (World.block_lt_of_cell? w _ hx268_3)).trans hx268_3; replace hx268_4 := (HB.out.cell (World.block_lt_of_cell? w _ hx268_4)).trans hx268_4; replace hx268_5 := (HB.out.cell (World.block_lt_of_cell? w _ hx268_5)).trans hx268_5; replace p268 := eq_true p268; replace q268 := eq_true q268; have p269 : 0 ≤ ((ji8) : Int) := of_decide_eq_true (by first | (with_reducible assumption) | assumption); have q269 : (ji8) < (l0.length : Int) := of_decide_eq_true (by first | (with_reducible assumption) | assumption); obtain ⟨ad269, e269, hx269_0, hx269_1, hx269_2, hx269_3, hx269_4, hx269_5⟩ := at_T121 HR0.out (ji8) p269 q269; obtain rfl : ad266 = ad269 := (by injection e269); replace hx269_0 := (HB.out.cell (World.block_lt_of_cell? w _ hx269_0)).trans hx269_0; replace hx269_1 := (HB.out.cell (World.block_lt_of_cell? w _ hx269_1)).trans hx269_1; replace hx269_2 := (HB.out.cell (World.block_lt_of_cell? w _ hx269_2)).trans hx269_2; replace hx269_3 := (HB.out.cell (World.block_lt_of_cell? w _ hx269_3)).trans hx269_3; replace hx269_4 := (HB.out.cell (World.block_lt_of_cell? w _ hx269_4)).trans hx269_4; replace hx269_5 := (HB.out.cell (World.block_lt_of_cell? w _ hx269_5)).trans hx269_5; replace p269 := eq_true p269; replace q269 := eq_true q269; have p270 : 0 ≤ (x3_1 : Int) := of_decide_eq_true (by first | (with_reducible assumption) | assumption); have q270 : x3_1 < (l0.length : Int) := of_decide_eq_true (by first | (with_reducible assumption) | assumption); obtain ⟨ad270, e270, hx270_0, hx270_1, hx270_2, hx270_3, hx270_4, hx270_5⟩ := at_T121 HR0.out x3_1 p270 q270; obtain rfl : ad266 = ad270 := (by injection e270); replace hx270_0 := (HB.out.cell (World.block_lt_of_cell? w _ hx270_0)).trans hx270_0; replace hx270_1 := (HB.out.cell (World.block_lt_of_cell? w _ hx270_1)).trans hx270_1; replace hx270_2 := (HB.out.cell (World.block_lt_of_cell? w _ hx270_2)).trans hx270_2; replace hx270_3 := (HB.out.cell (World.block_lt_of_cell? w _ hx270_3)).trans hx270_3; replace hx270_4 := (HB.out.cell (World.block_lt_of_cell? w _ hx270_4)).trans hx270_4; replace hx270_5 := (HB.out.cell (World.block_lt_of_cell? w _ hx270_5)).trans hx270_5; replace p270 := eq_true p270; replace q270 := eq_true q270; have p271 : 0 ≤ ((ji8) : Int) := of_decide_eq_true (by first | (with_reducible assumption) | assumption); have q271 : (ji8) < (l0.length : Int) := of_decide_eq_true (by first | (with_reducible assumption) | assumption); obtain ⟨ad271, e271, hx271_0, hx271_1, hx271_2, hx271_3, hx271_4, hx271_5⟩ := at_T121 HR0.out (ji8) p271 q271; obtain rfl : ad266 = ad271 := (by injection e271); replace hx271_0 := (HB.out.cell (World.block_lt_of_cell? w _ hx271_0)).trans hx271_0; replace hx271_1 := (HB.out.cell (World.block_lt_of_cell? w _ hx271_1)).trans hx271_1; replace hx271_2 := (HB.out.cell (World.block_lt_of_cell? w _ hx271_2)).trans hx271_2; replace hx271_3 := (HB.out.cell (World.block_lt_of_cell? w _ hx271_3)).trans hx271_3; replace hx271_4 := (HB.out.cell (World.block_lt_of_cell? w _ hx271_4)).trans hx271_4; replace hx271_5 := (HB.out.cell (World.block_lt_of_cell? w _ hx271_5)).trans hx271_5; replace p271 := eq_true p271; replace q271 := eq_true q271; have p272 : 0 ≤ (x3_1 : Int) := of_decide_eq_true (by first | (with_reducible assumption) | assumption); have q272 : x3_1 < (l0.length : Int) := of_decide_eq_true (by first | (with_reducible assumption) | assumption); obtain ⟨ad272, e272, hx272_0, hx272_1, hx272_2, hx272_3, hx272_4, hx272_5⟩ := at_T121 HR0.out x3_1 p272 q272; obtain rfl : ad266 = ad272 := (by injection e272); replace hx272_0 := (HB.out.cell (World.block_lt_of_cell? w _ hx272_0)).trans hx272_0; replace hx272_1 := (HB.out.cell (World.block_lt_of_cell? w _ hx272_1)).trans hx272_1; replace hx272_2 := (HB.out.cell (World.block_lt_of_cell? w _ hx272_2)).trans hx272_2; replace hx272_3 := (HB.out.cell (World.block_lt_of_cell? w _ hx272_3)).trans hx272_3; replace hx272_4 := (HB.out.cell (World.block_lt_of_cell? w _ hx272_4)).trans hx272_4; replace hx272_5 := (HB.out.cell (World.block_lt_of_cell? w _ hx272_5)).trans hx272_5; replace p272 := eq_true p272; replace q272 := eq_true q272; have p273 : 0 ≤ ((ji8) : Int) := of_decide_eq_true (by first | (with_reducible assumption) | assumption); have q273 : (ji8) < (l0.length : Int) := of_decide_eq_true (by first | (with_reducible assumption) | assumption); obtain ⟨ad273, e273, hx273_0, hx273_1, hx273_2, hx273_3, hx273_4, hx273_5⟩ := at_T121 HR0.out (ji8) p273 q273; obtain rfl : ad266 = ad273 := (by injection e273); replace hx273_0 := (HB.out.cell (World.block_lt_of_cell? w _ hx273_0)).trans hx273_0; replace hx273_1 := (HB.out.cell (World.block_lt_of_cell? w _ hx273_1)).trans hx273_1; replace hx273_2 := (HB.out.cell (World.block_lt_of_cell? w _ hx273_2)).trans hx273_2; replace hx273_3 := (HB.out.cell (World.block_lt_of_cell? w _ hx273_3)).trans hx273_3; replace hx273_4 := (HB.out.cell (World.block_lt_of_cell? w _ hx273_4)).trans hx273_4; replace hx273_5 := (HB.out.cell (World.block_lt_of_cell? w _ hx273_5)).trans hx273_5; replace p273 := eq_true p273; replace q273 := eq_true q273))
                          repeat (go_quiet (first | (go_at_call 86; (with_reducible refine (metrolabref52_right.calls k1 ((rd_T121 l0 x3_1).f0) ((rd_T121 l0 x3_1).f1) ((rd_T121 l0 x3_1).f2) ((rd_T121 l0 x3_1).f3) ((rd_T121 l0 x3_1).f4) ((rd_T121 l0 x3_1).f5) t267 _ A5.out).mono ?_); rintro e w15 ⟨rfl, hb⟩; have n0_ := Aside0.mk (below_step (by repeat (first | (with_reducible first | exact HB.out | apply below_alloc | apply pw_below_drewN | apply below_drew1) | exact HB.out)) hb); clear HB; have HB := n0_; clear n0_; (try clear hb); (try clear hb2); (try clear hk); (try clear hi); have p268 : 0 ≤ (x3_1 : Int) := of_decide_eq_true (by first | (with_reducible assumption) | assumption); have q268 : x3_1 < (l0.length : Int) := of_decide_eq_true (by first | (with_reducible assumption) | assumption); obtain ⟨ad268, e268, hx268_0, hx268_1, hx268_2, hx268_3, hx268_4, hx268_5⟩ := at_T121 HR0.out x3_1 p268 q268; obtain rfl : ad266 = ad268 := (by injection e268); replace hx268_0 := (HB.out.cell (World.block_lt_of_cell? w _ hx268_0)).trans hx268_0; replace hx268_1 := (HB.out.cell (World.block_lt_of_cell? w _ hx268_1)).trans hx268_1; replace hx268_2 := (HB.out.cell (World.block_lt_of_cell? w _ hx268_2)).trans hx268_2; replace hx268_3 := (HB.out.cell (World.block_lt_of_cell? w _ hx268_3)).trans hx268_3; replace hx268_4 := (HB.out.cell (World.block_lt_of_cell? w _ hx268_4)).trans hx268_4; replace hx268_5 := (HB.out.cell (World.block_lt_of_cell? w _ hx268_5)).trans hx268_5; replace p268 := eq_true p268; replace q268 := eq_true q268; have p269 : 0 ≤ ((ji8) : Int) := of_decide_eq_true (by first | (with_reducible assumption) | assumption); have q269 : (ji8) < (l0.length : Int) := of_decide_eq_true (by first | (with_reducible assumption) | assumption); obtain ⟨ad269, e269, hx269_0, hx269_1, hx269_2, hx269_3, hx269_4, hx269_5⟩ := at_T121 HR0.out (ji8) p269 q269; obtain rfl : ad266 = ad269 := (by injection e269); replace hx269_0 := (HB.out.cell (World.block_lt_of_cell? w _ hx269_0)).trans hx269_0; replace hx269_1 := (HB.out.cell (World.block_lt_of_cell? w _ hx269_1)).trans hx269_1; replace hx269_2 := (HB.out.cell (World.block_lt_of_cell? w _ hx269_2)).trans hx269_2; replace hx269_3 := (HB.out.cell (World.block_lt_of_cell? w _ hx269_3)).trans hx269_3; replace hx269_4 := (HB.out.cell (World.block_lt_of_cell? w _ hx269_4)).trans hx269_4; replace hx269_5 := (HB.out.cell (World.block_lt_of_cell? w _ hx269_5)).trans hx269_5; replace p269 := eq_true p269; replace q269 := eq_true q269; have p270 : 0 ≤ (x3_1 : Int) := of_decide_eq_true (by first | (with_reducible assumption) | assumption); have q270 : x3_1 < (l0.length : Int) := of_decide_eq_true (by first | (with_reducible assumption) | assumption); obtain ⟨ad270, e270, hx270_0, hx270_1, hx270_2, hx270_3, hx270_4, hx270_5⟩ := at_T121 HR0.out x3_1 p270 q270; obtain rfl : ad266 = ad270 := (by injection e270); replace hx270_0 := (HB.out.cell (World.block_lt_of_cell? w _ hx270_0)).trans hx270_0; replace hx270_1 := (HB.out.cell (World.block_lt_of_cell? w _ hx270_1)).trans hx270_1; replace hx270_2 := (HB.out.cell (World.block_lt_of_cell? w _ hx270_2)).trans hx270_2; replace hx270_3 := (HB.out.cell (World.block_lt_of_cell? w _ hx270_3)).trans hx270_3; replace hx270_4 := (HB.out.cell (World.block_lt_of_cell? w _ hx270_4)).trans hx270_4; replace hx270_5 := (HB.out.cell (World.block_lt_of_cell? w _ hx270_5)).trans hx270_5; replace p270 := eq_true p270; replace q270 := eq_true q270; have p271 : 0 ≤ ((ji8) : Int) := of_decide_eq_true (by first | (with_reducible assumption) | assumption); have q271 : (ji8) < (l0.length : Int) := of_decide_eq_true (by first | (with_reducible assumption) | assumption); obtain ⟨ad271, e271, hx271_0, hx271_1, hx271_2, hx271_3, hx271_4, hx271_5⟩ := at_T121 HR0.out (ji8) p271 q271; obtain rfl : ad266 = ad271 := (by injection e271); replace hx271_0 := (HB.out.cell (World.block_lt_of_cell? w _ hx271_0)).trans hx271_0; replace hx271_1 := (HB.out.cell (World.block_lt_of_cell? w _ hx271_1)).trans hx271_1; replace hx271_2 := (HB.out.cell (World.block_lt_of_cell? w _ hx271_2)).trans hx271_2; replace hx271_3 := (HB.out.cell (World.block_lt_of_cell? w _ hx271_3)).trans hx271_3; replace hx271_4 := (HB.out.cell (World.block_lt_of_cell? w _ hx271_4)).trans hx271_4; replace hx271_5 := (HB.out.cell (World.block_lt_of_cell? w _ hx271_5)).trans hx271_5; replace p271 := eq_true p271; replace q271 := eq_true q271; have p272 : 0 ≤ (x3_1 : Int) := of_decide_eq_true (by first | (with_reducible assumption) | assumption); have q272 : x3_1 < (l0.length : Int) := of_decide_eq_true (by first | (with_reducible assumption) | assumption); obtain ⟨ad272, e272, hx272_0, hx272_1, hx272_2, hx272_3, hx272_4, hx272_5⟩ := at_T121 HR0.out x3_1 p272 q272; obtain rfl : ad266 = ad272 := (by injection e272); replace hx272_0 := (HB.out.cell (World.block_lt_of_cell? w _ hx272_0)).trans hx272_0; replace hx272_1 := (HB.out.cell (World.block_lt_of_cell? w _ hx272_1)).trans hx272_1; replace hx272_2 := (HB.out.cell (World.block_lt_of_cell? w _ hx272_2)).trans hx272_2; replace hx272_3 := (HB.out.cell (World.block_lt_of_cell? w _ hx272_3)).trans hx272_3; replace hx272_4 := (HB.out.cell (World.block_lt_of_cell? w _ hx272_4)).trans hx272_4; replace hx272_5 := (HB.out.cell (World.block_lt_of_cell? w _ hx272_5)).trans hx272_5; replace p272 := eq_true p272; replace q272 := eq_true q272; have p273 : 0 ≤ ((ji8) : Int) := of_decide_eq_true (by first | (with_reducible assumption) | assumption); have q273 : (ji8) < (l0.length : Int) := of_decide_eq_true (by first | (with_reducible assumption) | assumption); obtain ⟨ad273, e273, hx273_0, hx273_1, hx273_2, hx273_3, hx273_4, hx273_5⟩ := at_T121 HR0.out (ji8) p273 q273; obtain rfl : ad266 = ad273 := (by injection e273); replace hx273_0 := (HB.out.cell (World.block_lt_of_cell? w _ hx273_0)).trans hx273_0; replace hx273_1 := (HB.out.cell (World.block_lt_of_cell? w _ hx273_1)).trans hx273_1; replace hx273_2 := (HB.out.cell (World.block_lt_of_cell? w _ hx273_2)).trans hx273_2; replace hx273_3 := (HB.out.cell (World.block_lt_of_cell? w _ hx273_3)).trans hx273_3; replace hx273_4 := (HB.out.cell (World.block_lt_of_cell? w _ hx273_4)).trans hx273_4; replace hx273_5 := (HB.out.cell (World.block_lt_of_cell? w _ hx273_5)).trans hx273_5; replace p273 := eq_true p273; replace q273 := eq_true q273)); try go_wp2_with (first | (go_at_call 86; (with_reducible refine (metrolabref52_right.calls k1 ((rd_T121 l0 x3_1).f0) ((rd_T121 l0 x3_1).f1) ((rd_T121 l0 x3_1).f2) ((rd_T121 l0 x3_1).f3) ((rd_T121 l0 x3_1).f4) ((rd_T121 l0 x3_1).f5) t267 _ A5.out).mono ?_); rintro e w15 ⟨rfl, hb⟩; have n0_ := Aside0.mk (below_step (by repeat (first | (with_reducible first | exact HB.out | apply below_alloc | apply pw_below_drewN | apply below_drew1) | exact HB.out)) hb); clear HB; have HB := n0_; clear n0_; (try clear hb); (try clear hb2); (try clear hk); (try clear hi); have p268 : 0 ≤ (x3_1 : Int) := of_decide_eq_true (by first | (with_reducible assumption) | assumption); have q268 : x3_1 < (l0.length : Int) := of_decide_eq_true (by first | (with_reducible assumption) | assumption); obtain ⟨ad268, e268, hx268_0, hx268_1, hx268_2, hx268_3, hx268_4, hx268_5⟩ := at_T121 HR0.out x3_1 p268 q268; obtain rfl : ad266 = ad268 := (by injection e268); replace hx268_0 := (HB.out.cell (World.block_lt_of_cell? w _ hx268_0)).trans hx268_0; replace hx268_1 := (HB.out.cell (World.block_lt_of_cell? w _ hx268_1)).trans hx268_1; replace hx268_2 := (HB.out.cell (World.block_lt_of_cell? w _ hx268_2)).trans hx268_2; replace hx268_3 := (HB.out.cell (World.block_lt_of_cell? w _ hx268_3)).trans hx268_3; replace hx268_4 := (HB.out.cell (World.block_lt_of_cell? w _ hx268_4)).trans hx268_4; replace hx268_5 := (HB.out.cell (World.block_lt_of_cell? w _ hx268_5)).trans hx268_5; replace p268 := eq_true p268; replace q268 := eq_true q268; have p269 : 0 ≤ ((ji8) : Int) := of_decide_eq_true (by first | (with_reducible assumption) | assumption); have q269 : (ji8) < (l0.length : Int) := of_decide_eq_true (by first | (with_reducible assumption) | assumption); obtain ⟨ad269, e269, hx269_0, hx269_1, hx269_2, hx269_3, hx269_4, hx269_5⟩ := at_T121 HR0.out (ji8) p269 q269; obtain rfl : ad266 = ad269 := (by injection e269); replace hx269_0 := (HB.out.cell (World.block_lt_of_cell? w _ hx269_0)).trans hx269_0; replace hx269_1 := (HB.out.cell (World.block_lt_of_cell? w _ hx269_1)).trans hx269_1; replace hx269_2 := (HB.out.cell (World.block_lt_of_cell? w _ hx269_2)).trans hx269_2; replace hx269_3 := (HB.out.cell (World.block_lt_of_cell? w _ hx269_3)).trans hx269_3; replace hx269_4 := (HB.out.cell (World.block_lt_of_cell? w _ hx269_4)).trans hx269_4; replace hx269_5 := (HB.out.cell (World.block_lt_of_cell? w _ hx269_5)).trans hx269_5; replace p269 := eq_true p269; replace q269 := eq_true q269; have p270 : 0 ≤ (x3_1 : Int) := of_decide_eq_true (by first | (with_reducible assumption) | assumption); have q270 : x3_1 < (l0.length : Int) := of_decide_eq_true (by first | (with_reducible assumption) | assumption); obtain ⟨ad270, e270, hx270_0, hx270_1, hx270_2, hx270_3, hx270_4, hx270_5⟩ := at_T121 HR0.out x3_1 p270 q270; obtain rfl : ad266 = ad270 := (by injection e270); replace hx270_0 := (HB.out.cell (World.block_lt_of_cell? w _ hx270_0)).trans hx270_0; replace hx270_1 := (HB.out.cell (World.block_lt_of_cell? w _ hx270_1)).trans hx270_1; replace hx270_2 := (HB.out.cell (World.block_lt_of_cell? w _ hx270_2)).trans hx270_2; replace hx270_3 := (HB.out.cell (World.block_lt_of_cell? w _ hx270_3)).trans hx270_3; replace hx270_4 := (HB.out.cell (World.block_lt_of_cell? w _ hx270_4)).trans hx270_4; replace hx270_5 := (HB.out.cell (World.block_lt_of_cell? w _ hx270_5)).trans hx270_5; replace p270 := eq_true p270; replace q270 := eq_true q270; have p271 : 0 ≤ ((ji8) : Int) := of_decide_eq_true (by first | (with_reducible assumption) | assumption); have q271 : (ji8) < (l0.length : Int) := of_decide_eq_true (by first | (with_reducible assumption) | assumption); obtain ⟨ad271, e271, hx271_0, hx271_1, hx271_2, hx271_3, hx271_4, hx271_5⟩ := at_T121 HR0.out (ji8) p271 q271; obtain rfl : ad266 = ad271 := (by injection e271); replace hx271_0 := (HB.out.cell (World.block_lt_of_cell? w _ hx271_0)).trans hx271_0; replace hx271_1 := (HB.out.cell (World.block_lt_of_cell? w _ hx271_1)).trans hx271_1; replace hx271_2 := (HB.out.cell (World.block_lt_of_cell? w _ hx271_2)).trans hx271_2; replace hx271_3 := (HB.out.cell (World.block_lt_of_cell? w _ hx271_3)).trans hx271_3; replace hx271_4 := (HB.out.cell (World.block_lt_of_cell? w _ hx271_4)).trans hx271_4; replace hx271_5 := (HB.out.cell (World.block_lt_of_cell? w _ hx271_5)).trans hx271_5; replace p271 := eq_true p271; replace q271 := eq_true q271; have p272 : 0 ≤ (x3_1 : Int) := of_decide_eq_true (by first | (with_reducible assumption) | assumption); have q272 : x3_1 < (l0.length : Int) := of_decide_eq_true (by first | (with_reducible assumption) | assumption); obtain ⟨ad272, e272, hx272_0, hx272_1, hx272_2, hx272_3, hx272_4, hx272_5⟩ := at_T121 HR0.out x3_1 p272 q272; obtain rfl : ad266 = ad272 := (by injection e272); replace hx272_0 := (HB.out.cell (World.block_lt_of_cell? w _ hx272_0)).trans hx272_0; replace hx272_1 := (HB.out.cell (World.block_lt_of_cell? w _ hx272_1)).trans hx272_1; replace hx272_2 := (HB.out.cell (World.block_lt_of_cell? w _ hx272_2)).trans hx272_2; replace hx272_3 := (HB.out.cell (World.block_lt_of_cell? w _ hx272_3)).trans hx272_3; replace hx272_4 := (HB.out.cell (World.block_lt_of_cell? w _ hx272_4)).trans hx272_4; replace hx272_5 := (HB.out.cell (World.block_lt_of_cell? w _ hx272_5)).trans hx272_5; replace p272 := eq_true p272; replace q272 := eq_true q272; have p273 : 0 ≤ ((ji8) : Int) := of_decide_eq_true (by first | (with_reducible assumption) | assumption); have q273 : (ji8) < (l0.length : Int) := of_decide_eq_true (by first | (with_reducible assumption) | assumption); obtain ⟨ad273, e273, hx273_0, hx273_1, hx273_2, hx273_3, hx273_4, hx273_5⟩ := at_T121 HR0.out (ji8) p273 q273; obtain rfl : ad266 = ad273 := (by injection e273); replace hx273_0 := (HB.out.cell (World.block_lt_of_cell? w _ hx273_0)).trans hx273_0; replace hx273_1 := (HB.out.cell (World.block_lt_of_cell? w _ hx273_1)).trans hx273_1; replace hx273_2 := (HB.out.cell (World.block_lt_of_cell? w _ hx273_2)).trans hx273_2; replace hx273_3 := (HB.out.cell (World.block_lt_of_cell? w _ hx273_3)).trans hx273_3; replace hx273_4 := (HB.out.cell (World.block_lt_of_cell? w _ hx273_4)).trans hx273_4; replace hx273_5 := (HB.out.cell (World.block_lt_of_cell? w _ hx273_5)).trans hx273_5; replace p273 := eq_true p273; replace q273 := eq_true q273)))
                          go_ret
                          exact ⟨by first | rfl | (simp [errW_none, errW_some] <;> rfl) | (simp only [← hji8]; first | rfl | (simp [errW_none, errW_some] <;> rfl)) | (simp [*, errW_none, errW_some] <;> rfl), by repeat (first | (with_reducible first | exact HB.out | apply below_alloc | apply pw_below_drewN | apply below_drew1) | exact HB.out)⟩
                        · rw [if_neg c14] at H
                          have c14b0 : decide (((rd_T121 l0 x3_1).f4) ≤ ((rd_T121 l0 (ji8)).f5)) = false := decide_eq_false c14
                          clear c14
                          have H' := Aside0.mk H
                          clear H
                          have p266 : 0 ≤ (x3_1 : Int) := of_decide_eq_true (by first | (with_reducible assumption) | assumption)
                          have q266 : x3_1 < (l0.length : Int) := of_decide_eq_true (by first | (with_reducible assumption) | assumption)
                          obtain ⟨ad266, e266, hx266_0, hx266_1, hx266_2, hx266_3, hx266_4, hx266_5⟩ := at_T121 HR0.out x3_1 p266 q266
                          cases e266
                          replace hx266_0 := (HB.out.cell (World.block_lt_of_cell? w _ hx266_0)).trans hx266_0
                          replace hx266_1 := (HB.out.cell (World.block_lt_of_cell? w _ hx266_1)).trans hx266_1
                          replace hx266_2 := (HB.out.cell (World.block_lt_of_cell? w _ hx266_2)).trans hx266_2
                          replace hx266_3 := (HB.out.cell (World.block_lt_of_cell? w _ hx266_3)).trans hx266_3
                          replace hx266_4 := (HB.out.cell (World.block_lt_of_cell? w _ hx266_4)).trans hx266_4
                          replace hx266_5 := (HB.out.cell (World.block_lt_of_cell? w _ hx266_5)).trans hx266_5
                          replace p266 := eq_true p266
                          replace q266 := eq_true q266
                          go_wp2_with (first | (go_at_call 86; (with_reducible refine (metrolabref52_right.calls k1 ((rd_T121 l0 x3_1).f0) ((rd_T121 l0 x3_1).f1) ((rd_T121 l0 x3_1).f2) ((rd_T121 l0 x3_1).f3) ((rd_T121 l0 x3_1).f4) ((rd_T121 l0 x3_1).f5) t267 _ A5.out).mono ?_); rintro e w16 ⟨rfl, hb⟩; have n0_ := Aside0.mk (below_step (by repeat (first | (with_reducible first | exact HB.out | apply below_alloc | apply pw_below_drewN | apply below_drew1) | exact HB.out)) hb); clear HB; have HB := n0_; clear n0_; (try clear hb); (try clear hb2); (try clear hk); (try clear hi); have p268 : 0 ≤ (x3_1 : Int) := of_decide_eq_true (by first | (with_reducible assumption) | assumption); have q268 : x3_1 < (l0.length : Int) := of_decide_eq_true (by first | (with_reducible assumption) | assumption); obtain ⟨ad268, e268, hx268_0, hx268_1, hx268_2, hx268_3, hx268_4, hx268_5⟩ := at_T121 HR0.out x3_1 p268 q268; obtain rfl : ad266 = ad268 := (by injection e268); replace hx268_0 := (HB.out.cell (World.block_lt_of_cell? w _ hx268_0)).trans hx268_0; replace hx268_1 := (HB.out.cell (World.block_lt_of_cell? w _ hx268_1)).trans hx268_1; replace hx268_2 := (HB.out.cell (World.block_lt_of_cell? w _ hx268_2)).trans hx268_2; replace hx268_3 := (HB.out.cell (World.block_lt_of_cell? w _ hx268_3)).trans hx268_3; replace hx268_4 := (HB.out.cell (World.block_lt_of_cell? w _ hx268_4)).trans hx268_4; replace hx268_5 := (HB.out.cell (World.block_lt_of_cell? w _ hx268_5)).trans hx268_5; replace p268 := eq_true p268; replace q268 := eq_true q268; have p269 : 0 ≤ ((ji8) : Int) := of_decide_eq_true (by first | (with_reducible assumption) | assumption); have q269 : (ji8) < (l0.length : Int) := of_decide_eq_true (by first | (with_reducible assumption) | assumption); obtain ⟨ad269, e269, hx269_0, hx269_1, hx269_2, hx269_3, hx269_4, hx269_5⟩ := at_T121 HR0.out (ji8) p269 q269; obtain rfl : ad266 = ad269 := (by injection e269); replace hx269_0 := (HB.out.cell (World.block_lt_of_cell? w _ hx269_0)).trans hx269_0; replace hx269_1 := (HB.out.cell (World.block_lt_of_cell? w _ hx269_1)).trans hx269_1; replace hx269_2 := (HB.out.cell (World.block_lt_of_cell? w _ hx269_2)).trans hx269_2; replace hx269_3 := (HB.out.cell (World.block_lt_of_cell? w _ hx269_3)).trans hx269_3; replace hx269_4 := (HB.out.cell (World.block_lt_of_cell? w _ hx269_4)).trans hx269_4; replace hx269_5 := (HB.out.cell (World.block_lt_of_cell? w _ hx269_5)).trans hx269_5; replace p269 := eq_true p269; replace q269 := eq_true q269; have p270 : 0 ≤ (x3_1 : Int) := of_decide_eq_true (by first | (with_reducible assumption) | assumption); have q270 : x3_1 < (l0.length : Int) := of_decide_eq_true (by first | (with_reducible assumption) | assumption); obtain ⟨ad270, e270, hx270_0, hx270_1, hx270_2, hx270_3, hx270_4, hx270_5⟩ := at_T121 HR0.out x3_1 p270 q270; obtain rfl : ad266 = ad270 := (by injection e270); replace hx270_0 := (HB.out.cell (World.block_lt_of_cell? w _ hx270_0)).trans hx270_0; replace hx270_1 := (HB.out.cell (World.block_lt_of_cell? w _ hx270_1)).trans hx270_1; replace hx270_2 := (HB.out.cell (World.block_lt_of_cell? w _ hx270_2)).trans hx270_2; replace hx270_3 := (HB.out.cell (World.block_lt_of_cell? w _ hx270_3)).trans hx270_3; replace hx270_4 := (HB.out.cell (World.block_lt_of_cell? w _ hx270_4)).trans hx270_4; replace hx270_5 := (HB.out.cell (World.block_lt_of_cell? w _ hx270_5)).trans hx270_5; replace p270 := eq_true p270; replace q270 := eq_true q270; have p271 : 0 ≤ ((ji8) : Int) := of_decide_eq_true (by first | (with_reducible assumption) | assumption); have q271 : (ji8) < (l0.length : Int) := of_decide_eq_true (by first | (with_reducible assumption) | assumption); obtain ⟨ad271, e271, hx271_0, hx271_1, hx271_2, hx271_3, hx271_4, hx271_5⟩ := at_T121 HR0.out (ji8) p271 q271; obtain rfl : ad266 = ad271 := (by injection e271); replace hx271_0 := (HB.out.cell (World.block_lt_of_cell? w _ hx271_0)).trans hx271_0; replace hx271_1 := (HB.out.cell (World.block_lt_of_cell? w _ hx271_1)).trans hx271_1; replace hx271_2 := (HB.out.cell (World.block_lt_of_cell? w _ hx271_2)).trans hx271_2; replace hx271_3 := (HB.out.cell (World.block_lt_of_cell? w _ hx271_3)).trans hx271_3; replace hx271_4 := (HB.out.cell (World.block_lt_of_cell? w _ hx271_4)).trans hx271_4; replace hx271_5 := (HB.out.cell (World.block_lt_of_cell? w _ hx271_5)).trans hx271_5; replace p271 := eq_true p271; replace q271 := eq_true q271; have p272 : 0 ≤ (x3_1 : Int) := of_decide_eq_true (by first | (with_reducible assumption) | assumption); have q272 : x3_1 < (l0.length : Int) := of_decide_eq_true (by first | (with_reducible assumption) | assumption); obtain ⟨ad272, e272, hx272_0, hx272_1, hx272_2, hx272_3, hx272_4, hx272_5⟩ := at_T121 HR0.out x3_1 p272 q272; obtain rfl : ad266 = ad272 := (by injection e272); replace hx272_0 := (HB.out.cell (World.block_lt_of_cell? w _ hx272_0)).trans hx272_0; replace hx272_1 := (HB.out.cell (World.block_lt_of_cell? w _ hx272_1)).trans hx272_1; replace hx272_2 := (HB.out.cell (World.block_lt_of_cell? w _ hx272_2)).trans hx272_2; replace hx272_3 := (HB.out.cell (World.block_lt_of_cell? w _ hx272_3)).trans hx272_3; replace hx272_4 := (HB.out.cell (World.block_lt_of_cell? w _ hx272_4)).trans hx272_4; replace hx272_5 := (HB.out.cell (World.block_lt_of_cell? w _ hx272_5)).trans hx272_5; replace p272 := eq_true p272; replace q272 := eq_true q272; have p273 : 0 ≤ ((ji8) : Int) := of_decide_eq_true (by first | (with_reducible assumption) | assumption); have q273 : (ji8) < (l0.length : Int) := of_decide_eq_true (by first | (with_reducible assumption) | assumption); obtain ⟨ad273, e273, hx273_0, hx273_1, hx273_2, hx273_3, hx273_4, hx273_5⟩ := at_T121 HR0.out (ji8) p273 q273; obtain rfl : ad266 = ad273 := (by injection e273); replace hx273_0 := (HB.out.cell (World.block_lt_of_cell? w _ hx273_0)).trans hx273_0; replace hx273_1 := (HB.out.cell (World.block_lt_of_cell? w _ hx273_1)).trans hx273_1; replace hx273_2 := (HB.out.cell (World.block_lt_of_cell? w _ hx273_2)).trans hx273_2; replace hx273_3 := (HB.out.cell (World.block_lt_of_cell? w _ hx273_3)).trans hx273_3; replace hx273_4 := (HB.out.cell (World.block_lt_of_cell? w _ hx273_4)).trans hx273_4; replace hx273_5 := (HB.out.cell (World.block_lt_of_cell? w _ hx273_5)).trans hx273_5; replace p273 := eq_true p273; replace q273 := eq_true q273))
                          repeat (go_quiet (first | (go_at_call 86; (with_reducible refine (metrolabref52_right.calls k1 ((rd_T121 l0 x3_1).f0) ((rd_T121 l0 x3_1).f1) ((rd_T121 l0 x3_1).f2) ((rd_T121 l0 x3_1).f3) ((rd_T121 l0 x3_1).f4) ((rd_T121 l0 x3_1).f5) t267 _ A5.out).mono ?_); rintro e w16 ⟨rfl, hb⟩; have n0_ := Aside0.mk (below_step (by repeat (first | (with_reducible first | exact HB.out | apply below_alloc | apply pw_below_drewN | apply below_drew1) | exact HB.out)) hb); clear HB; have HB := n0_; clear n0_; (try clear hb); (try clear hb2); (try clear hk); (try clear hi); have p268 : 0 ≤ (x3_1 : Int) := of_decide_eq_true (by first | (with_reducible assumption) | assumption); have q268 : x3_1 < (l0.length : Int) := of_decide_eq_true (by first | (with_reducible assumption) | assumption); obtain ⟨ad268, e268, hx268_0, hx268_1, hx268_2, hx268_3, hx268_4, hx268_5⟩ := at_T121 HR0.out x3_1 p268 q268; obtain rfl : ad266 = ad268 := (by injection e268); replace hx268_0 := (HB.out.cell (World.block_lt_of_cell? w _ hx268_0)).trans hx268_0; replace hx268_1 := (HB.out.cell (World.block_lt_of_cell? w _ hx268_1)).trans hx268_1; replace hx268_2 := (HB.out.cell (World.block_lt_of_cell? w _ hx268_2)).trans hx268_2; replace hx268_3 := (HB.out.cell (World.block_lt_of_cell? w _ hx268_3)).trans hx268_3; replace hx268_4 := (HB.out.cell (World.block_lt_of_cell? w _ hx268_4)).trans hx268_4; replace hx268_5 := (HB.out.cell (World.block_lt_of_cell? w _ hx268_5)).trans hx268_5; replace p268 := eq_true p268; replace q268 := eq_true q268; have p269 : 0 ≤ ((ji8) : Int) := of_decide_eq_true (by first | (with_reducible assumption) | assumption); have q269 : (ji8) < (l0.length : Int) := of_decide_eq_true (by first | (with_reducible assumption) | assumption); obtain ⟨ad269, e269, hx269_0, hx269_1, hx269_2, hx269_3, hx269_4, hx269_5⟩ := at_T121 HR0.out (ji8) p269 q269; obtain rfl : ad266 = ad269 := (by injection e269); replace hx269_0 := (HB.out.cell (World.block_lt_of_cell? w _ hx269_0)).trans hx269_0; replace hx269_1 := (HB.out.cell (World.block_lt_of_cell? w _ hx269_1)).trans hx269_1; replace hx269_2 := (HB.out.cell (World.block_lt_of_cell? w _ hx269_2)).trans hx269_2; replace hx269_3 := (HB.out.cell (World.block_lt_of_cell? w _ hx269_3)).trans hx269_3; replace hx269_4 := (HB.out.cell (World.block_lt_of_cell? w _ hx269_4)).trans hx269_4; replace hx269_5 := (HB.out.cell (World.block_lt_of_cell? w _ hx269_5)).trans hx269_5; replace p269 := eq_true p269; replace q269 := eq_true q269; have p270 : 0 ≤ (x3_1 : Int) := of_decide_eq_true (by first | (with_reducible assumption) | assumption); have q270 : x3_1 < (l0.length : Int) := of_decide_eq_true (by first | (with_reducible assumption) | assumption); obtain ⟨ad270, e270, hx270_0, hx270_1, hx270_2, hx270_3, hx270_4, hx270_5⟩ := at_T121 HR0.out x3_1 p270 q270; obtain rfl : ad266 = ad270 := (by injection e270); replace hx270_0 := (HB.out.cell (World.block_lt_of_cell? w _ hx270_0)).trans hx270_0; replace hx270_1 := (HB.out.cell (World.block_lt_of_cell? w _ hx270_1)).trans hx270_1; replace hx270_2 := (HB.out.cell (World.block_lt_of_cell? w _ hx270_2)).trans hx270_2; replace hx270_3 := (HB.out.cell (World.block_lt_of_cell? w _ hx270_3)).trans hx270_3; replace hx270_4 := (HB.out.cell (World.block_lt_of_cell? w _ hx270_4)).trans hx270_4; replace hx270_5 := (HB.out.cell (World.block_lt_of_cell? w _ hx270_5)).trans hx270_5; replace p270 := eq_true p270; replace q270 := eq_true q270; have p271 : 0 ≤ ((ji8) : Int) := of_decide_eq_true (by first | (with_reducible assumption) | assumption); have q271 : (ji8) < (l0.length : Int) := of_decide_eq_true (by first | (with_reducible assumption) | assumption); obtain ⟨ad271, e271, hx271_0, hx271_1, hx271_2, hx271_3, hx271_4, hx271_5⟩ := at_T121 HR0.out (ji8) p271 q271; obtain rfl : ad266 = ad271 := (by injection e271); replace hx271_0 := (HB.out.cell (World.block_lt_of_cell? w _ hx271_0)).trans hx271_0; replace hx271_1 := (HB.out.cell (World.block_lt_of_cell? w _ hx271_1)).trans hx271_1; replace hx271_2 := (HB.out.cell (World.block_lt_of_cell? w _ hx271_2)).trans hx271_2; replace hx271_3 := (HB.out.cell (World.block_lt_of_cell? w _ hx271_3)).trans hx271_3; replace hx271_4 := (HB.out.cell (World.block_lt_of_cell? w _ hx271_4)).trans hx271_4; replace hx271_5 := (HB.out.cell (World.block_lt_of_cell? w _ hx271_5)).trans hx271_5; replace p271 := eq_true p271; replace q271 := eq_true q271; have p272 : 0 ≤ (x3_1 : Int) := of_decide_eq_true (by first | (with_reducible assumption) | assumption); have q272 : x3_1 < (l0.length : Int) := of_decide_eq_true (by first | (with_reducible assumption) | assumption); obtain ⟨ad272, e272, hx272_0, hx272_1, hx272_2, hx272_3, hx272_4, hx272_5⟩ := at_T121 HR0.out x3_1 p272 q272; obtain rfl : ad266 = ad272 := (by injection e272); replace hx272_0 := (HB.out.cell (World.block_lt_of_cell? w _ hx272_0)).trans hx272_0; replace hx272_1 := (HB.out.cell (World.block_lt_of_cell? w _ hx272_1)).trans hx272_1; replace hx272_2 := (HB.out.cell (World.block_lt_of_cell? w _ hx272_2)).trans hx272_2; replace hx272_3 := (HB.out.cell (World.block_lt_of_cell? w _ hx272_3)).trans hx272_3; replace hx272_4 := (HB.out.cell (World.block_lt_of_cell? w _ hx272_4)).trans hx272_4; replace hx272_5 := (HB.out.cell (World.block_lt_of_cell? w _ hx272_5)).trans hx272_5; replace p272 := eq_true p272; replace q272 := eq_true q272; have p273 : 0 ≤ ((ji8) : Int) := of_decide_eq_true (by first | (with_reducible assumption) | assumption); have q273 : (ji8) < (l0.length : Int) := of_decide_eq_true (by first | (with_reducible assumption) | assumption); obtain ⟨ad273, e273, hx273_0, hx273_1, hx273_2, hx273_3, hx273_4, hx273_5⟩ := at_T121 HR0.out (ji8) p273 q273; obtain rfl : ad266 = ad273 := (by injection e273); replace hx273_0 := (HB.out.cell (World.block_lt_of_cell? w _ hx273_0)).trans hx273_0; replace hx273_1 := (HB.out.cell (World.block_lt_of_cell? w _ hx273_1)).trans hx273_1; replace hx273_2 := (HB.out.cell (World.block_lt_of_cell? w _ hx273_2)).trans hx273_2; replace hx273_3 := (HB.out.cell (World.block_lt_of_cell? w _ hx273_3)).trans hx273_3; replace hx273_4 := (HB.out.cell (World.block_lt_of_cell? w _ hx273_4)).trans hx273_4; replace hx273_5 := (HB.out.cell (World.block_lt_of_cell? w _ hx273_5)).trans hx273_5; replace p273 := eq_true p273; replace q273 := eq_true q273)); try go_wp2_with (first | (go_at_call 86; (with_reducible refine (metrolabref52_right.calls k1 ((rd_T121 l0 x3_1).f0) ((rd_T121 l0 x3_1).f1) ((rd_T121 l0 x3_1).f2) ((rd_T121 l0 x3_1).f3) ((rd_T121 l0 x3_1).f4) ((rd_T121 l0 x3_1).f5) t267 _ A5.out).mono ?_); rintro e w16 ⟨rfl, hb⟩; have n0_ := Aside0.mk (below_step (by repeat (first | (with_reducible first | exact HB.out | apply below_alloc | apply pw_below_drewN | apply below_drew1) | exact HB.out)) hb); clear HB; have HB := n0_; clear n0_; (try clear hb); (try clear hb2); (try clear hk); (try clear hi); have p268 : 0 ≤ (x3_1 : Int) := of_decide_eq_true (by first | (with_reducible assumption) | assumption); have q268 : x3_1 < (l0.length : Int) := of_decide_eq_true (by first | (with_reducible assumption) | assumption); obtain ⟨ad268, e268, hx268_0, hx268_1, hx268_2, hx268_3, hx268_4, hx268_5⟩ := at_T121 HR0.out x3_1 p268 q268; obtain rfl : ad266 = ad268 := (by injection e268); replace hx268_0 := (HB.out.cell (World.block_lt_of_cell? w _ hx268_0)).trans hx268_0; replace hx268_1 := (HB.out.cell (World.block_lt_of_cell? w _ hx268_1)).trans hx268_1; replace hx268_2 := (HB.out.cell (World.block_lt_of_cell? w _ hx268_2)).trans hx268_2; replace hx268_3 := (HB.out.cell (World.block_lt_of_cell? w _ hx268_3)).trans hx268_3; replace hx268_4 := (HB.out.cell (World.block_lt_of_cell? w _ hx268_4)).trans hx268_4; replace hx268_5 := (HB.out.cell (World.block_lt_of_cell? w _ hx268_5)).trans hx268_5; replace p268 := eq_true p268; replace q268 := eq_true q268; have p269 : 0 ≤ ((ji8) : Int) := of_decide_eq_true (by first | (with_reducible assumption) | assumption); have q269 : (ji8) < (l0.length : Int) := of_decide_eq_true (by first | (with_reducible assumption) | assumption); obtain ⟨ad269, e269, hx269_0, hx269_1, hx269_2, hx269_3, hx269_4, hx269_5⟩ := at_T121 HR0.out (ji8) p269 q269; obtain rfl : ad266 = ad269 := (by injection e269); replace hx269_0 := (HB.out.cell (World.block_lt_of_cell? w _ hx269_0)).trans hx269_0; replace hx269_1 := (HB.out.cell (World.block_lt_of_cell? w _ hx269_1)).trans hx269_1; replace hx269_2 := (HB.out.cell (World.block_lt_of_cell? w _ hx269_2)).trans hx269_2; replace hx269_3 := (HB.out.cell (World.block_lt_of_cell? w _ hx269_3)).trans hx269_3; replace hx269_4 := (HB.out.cell (World.block_lt_of_cell? w _ hx269_4)).trans hx269_4; replace hx269_5 := (HB.out.cell (World.block_lt_of_cell? w _ hx269_5)).trans hx269_5; replace p269 := eq_true p269; replace q269 := eq_true q269; have p270 : 0 ≤ (x3_1 : Int) := of_decide_eq_true (by first | (with_reducible assumption) | assumption); have q270 : x3_1 < (l0.length : Int) := of_decide_eq_true (by first | (with_reducible assumption) | assumption); obtain ⟨ad270, e270, hx270_0, hx270_1, hx270_2, hx270_3, hx270_4, hx270_5⟩ := at_T121 HR0.out x3_1 p270 q270; obtain rfl : ad266 = ad270 := (by injection e270); replace hx270_0 := (HB.out.cell (World.block_lt_of_cell? w _ hx270_0)).trans hx270_0; replace hx270_1 := (HB.out.cell (World.block_lt_of_cell? w _ hx270_1)).trans hx270_1; replace hx270_2 := (HB.out.cell (World.block_lt_of_cell? w _ hx270_2)).trans hx270_2; replace hx270_3 := (HB.out.cell (World.block_lt_of_cell? w _ hx270_3)).trans hx270_3; replace hx270_4 := (HB.out.cell (World.block_lt_of_cell? w _ hx270_4)).trans hx270_4; replace hx270_5 := (HB.out.cell (World.block_lt_of_cell? w _ hx270_5)).trans hx270_5; replace p270 := eq_true p270; replace q270 := eq_true q270; have p271 : 0 ≤ ((ji8) : Int) := of_decide_eq_true (by first | (with_reducible assumption) | assumption); have q271 : (ji8) < (l0.length : Int) := of_decide_eq_true (by first | (with_reducible assumption) | assumption); obtain ⟨ad271, e271, hx271_0, hx271_1, hx271_2, hx271_3, hx271_4, hx271_5⟩ := at_T121 HR0.out (ji8) p271 q271; obtain rfl : ad266 = ad271 := (by injection e271); replace hx271_0 := (HB.out.cell (World.block_lt_of_cell? w _ hx271_0)).trans hx271_0; replace hx271_1 := (HB.out.cell (World.block_lt_of_cell? w _ hx271_1)).trans hx271_1; replace hx271_2 := (HB.out.cell (World.block_lt_of_cell? w _ hx271_2)).trans hx271_2; replace hx271_3 := (HB.out.cell (World.block_lt_of_cell? w _ hx271_3)).trans hx271_3; replace hx271_4 := (HB.out.cell (World.block_lt_of_cell? w _ hx271_4)).trans hx271_4; replace hx271_5 := (HB.out.cell (World.block_lt_of_cell? w _ hx271_5)).trans hx271_5; replace p271 := eq_true p271; replace q271 := eq_true q271; have p272 : 0 ≤ (x3_1 : Int) := of_decide_eq_true (by first | (with_reducible assumption) | assumption); have q272 : x3_1 < (l0.length : Int) := of_decide_eq_true (by first | (with_reducible assumption) | assumption); obtain ⟨ad272, e272, hx272_0, hx272_1, hx272_2, hx272_3, hx272_4, hx272_5⟩ := at_T121 HR0.out x3_1 p272 q272; obtain rfl : ad266 = ad272 := (by injection e272); replace hx272_0 := (HB.out.cell (World.block_lt_of_cell? w _ hx272_0)).trans hx272_0; replace hx272_1 := (HB.out.cell (World.block_lt_of_cell? w _ hx272_1)).trans hx272_1; replace hx272_2 := (HB.out.cell (World.block_lt_of_cell? w _ hx272_2)).trans hx272_2; replace hx272_3 := (HB.out.cell (World.block_lt_of_cell? w _ hx272_3)).trans hx272_3; replace hx272_4 := (HB.out.cell (World.block_lt_of_cell? w _ hx272_4)).trans hx272_4; replace hx272_5 := (HB.out.cell (World.block_lt_of_cell? w _ hx272_5)).trans hx272_5; replace p272 := eq_true p272; replace q272 := eq_true q272; have p273 : 0 ≤ ((ji8) : Int) := of_decide_eq_true (by first | (with_reducible assumption) | assumption); have q273 : (ji8) < (l0.length : Int) := of_decide_eq_true (by first | (with_reducible assumption) | assumption); obtain ⟨ad273, e273, hx273_0, hx273_1, hx273_2, hx273_3, hx273_4, hx273_5⟩ := at_T121 HR0.out (ji8) p273 q273; obtain rfl : ad266 = ad273 := (by injection e273); replace hx273_0 := (HB.out.cell (World.block_lt_of_cell? w _ hx273_0)).trans hx273_0; replace hx273_1 := (HB.out.cell (World.block_lt_of_cell? w _ hx273_1)).trans hx273_1; replace hx273_2 := (HB.out.cell (World.block_lt_of_cell? w _ hx273_2)).trans hx273_2; replace hx273_3 := (HB.out.cell (World.block_lt_of_cell? w _ hx273_3)).trans hx273_3; replace hx273_4 := (HB.out.cell (World.block_lt_of_cell? w _ hx273_4)).trans hx273_4; replace hx273_5 := (HB.out.cell (World.block_lt_of_cell? w _ hx273_5)).trans hx273_5; replace p273 := eq_true p273; replace q273 := eq_true q273)))
                          go_roundg k1
                          case measure => have := HK1.out; omega
                          case rel => exact ⟨(wrap64 (x3_1 + 1)), (by first | rfl | (simp; done) | (simp [*]; done)), H', ⟨by have := HK1.out; omega⟩, ⟨by repeat (first | (with_reducible first | exact HB.out | apply below_alloc | apply pw_below_drewN | apply below_drew1) | exact HB.out)⟩⟩
                      · rw [if_neg c13] at H
                        have c13b0 : (((rd_T121 l0 x3_1).f0).toList == ((rd_T121 l0 (ji8)).f0).toList) = false := beq_eq_false_iff_ne.mpr c13
                        have c13b1 : (((rd_T121 l0 x3_1).f0).toList != ((rd_T121 l0 (ji8)).f0).toList) = true := bne_iff_ne.mpr c13
                        have H' := Aside0.mk H
                        clear H
                        have p266 : 0 ≤ (x3_1 : Int) := of_decide_eq_true (by first | (with_reducible assumption) | assumption)
                        have q266 : x3_1 < (l0.length : Int) := of_decide_eq_true (by first | (with_reducible assumption) | assumption)
                        obtain ⟨ad266, e266, hx266_0, hx266_1, hx266_2, hx266_3, hx266_4, hx266_5⟩ := at_T121 HR0.out x3_1 p266 q266
                        cases e266
                        replace hx266_0 := (HB.out.cell (World.block_lt_of_cell? w _ hx266_0)).trans hx266_0
                        replace hx266_1 := (HB.out.cell (World.block_lt_of_cell? w _ hx266_1)).trans hx266_1
                        replace hx266_2 := (HB.out.cell (World.block_lt_of_cell? w _ hx266_2)).trans hx266_2
                        replace hx266_3 := (HB.out.cell (World.block_lt_of_cell? w _ hx266_3)).trans hx266_3
                        replace hx266_4 := (HB.out.cell (World.block_lt_of_cell? w _ hx266_4)).trans hx266_4
                        replace hx266_5 := (HB.out.cell (World.block_lt_of_cell? w _ hx266_5)).trans hx266_5
                        replace p266 := eq_true p266
                        replace q266 := eq_true q266
                        go_wp2_with (first | (go_at_call 86; (with_reducible refine (metrolabref52_right.calls k1 ((rd_T121 l0 x3_1).f0) ((rd_T121 l0 x3_1).f1) ((rd_T121 l0 x3_1).f2) ((rd_T121 l0 x3_1).f3) ((rd_T121 l0 x3_1).f4) ((rd_T121 l0 x3_1).f5) t267 _ A5.out).mono ?_); rintro e w17 ⟨rfl, hb⟩; have n0_ := Aside0.mk (below_step (by repeat (first | (with_reducible first | exact HB.out | apply below_alloc | apply pw_below_drewN | apply below_drew1) | exact HB.out)) hb); clear HB; have HB := n0_; clear n0_; (try clear hb); (try clear hb2); (try clear hk); (try clear hi); have p268 : 0 ≤ (x3_1 : Int) := of_decide_eq_true (by first | (with_reducible assumption) | assumption); have q268 : x3_1 < (l0.length : Int) := of_decide_eq_true (by first | (with_reducible assumption) | assumption); obtain ⟨ad268, e268, hx268_0, hx268_1, hx268_2, hx268_3, hx268_4, hx268_5⟩ := at_T121 HR0.out x3_1 p268 q268; obtain rfl : ad266 = ad268 := (by injection e268); replace hx268_0 := (HB.out.cell (World.block_lt_of_cell? w _ hx268_0)).trans hx268_0; replace hx268_1 := (HB.out.cell (World.block_lt_of_cell? w _ hx268_1)).trans hx268_1; replace hx268_2 := (HB.out.cell (World.block_lt_of_cell? w _ hx268_2)).trans hx268_2; replace hx268_3 := (HB.out.cell (World.block_lt_of_cell? w _ hx268_3)).trans hx268_3; replace hx268_4 := (HB.out.cell (World.block_lt_of_cell? w _ hx268_4)).trans hx268_4; replace hx268_5 := (HB.out.cell (World.block_lt_of_cell? w _ hx268_5)).trans hx268_5; replace p268 := eq_true p268; replace q268 := eq_true q268; have p269 : 0 ≤ ((ji8) : Int) := of_decide_eq_true (by first | (with_reducible assumption) | assumption); have q269 : (ji8) < (l0.length : Int) := of_decide_eq_true (by first | (with_reducible assumption) | assumption); obtain ⟨ad269, e269, hx269_0, hx269_1, hx269_2, hx269_3, hx269_4, hx269_5⟩ := at_T121 HR0.out (ji8) p269 q269; obtain rfl : ad266 = ad269 := (by injection e269); replace hx269_0 := (HB.out.cell (World.block_lt_of_cell? w _ hx269_0)).trans hx269_0; replace hx269_1 := (HB.out.cell (World.block_lt_of_cell? w _ hx269_1)).trans hx269_1; replace hx269_2 := (HB.out.cell (World.block_lt_of_cell? w _ hx269_2)).trans hx269_2; replace hx269_3 := (HB.out.cell (World.block_lt_of_cell? w _ hx269_3)).trans hx269_3; replace hx269_4 := (HB.out.cell (World.block_lt_of_cell? w _ hx269_4)).trans hx269_4; replace hx269_5 := (HB.out.cell (World.block_lt_of_cell? w _ hx269_5)).trans hx269_5; replace p269 := eq_true p269; replace q269 := eq_true q269; have p270 : 0 ≤ (x3_1 : Int) := of_decide_eq_true (by first | (with_reducible assumption) | assumption); have q270 : x3_1 < (l0.length : Int) := of_decide_eq_true (by first | (with_reducible assumption) | assumption); obtain ⟨ad270, e270, hx270_0, hx270_1, hx270_2, hx270_3, hx270_4, hx270_5⟩ := at_T121 HR0.out x3_1 p270 q270; obtain rfl : ad266 = ad270 := (by injection e270); replace hx270_0 := (HB.out.cell (World.block_lt_of_cell? w _ hx270_0)).trans hx270_0; replace hx270_1 := (HB.out.cell (World.block_lt_of_cell? w _ hx270_1)).trans hx270_1; replace hx270_2 := (HB.out.cell (World.block_lt_of_cell? w _ hx270_2)).trans hx270_2; replace hx270_3 := (HB.out.cell (World.block_lt_of_cell? w _ hx270_3)).trans hx270_3; replace hx270_4 := (HB.out.cell (World.block_lt_of_cell? w _ hx270_4)).trans hx270_4; replace hx270_5 := (HB.out.cell (World.block_lt_of_cell? w _ hx270_5)).trans hx270_5; replace p270 := eq_true p270; replace q270 := eq_true q270; have p271 : 0 ≤ ((ji8) : Int) := of_decide_eq_true (by first | (with_reducible assumption) | assumption); have q271 : (ji8) < (l0.length : Int) := of_decide_eq_true (by first | (with_reducible assumption) | assumption); obtain ⟨ad271, e271, hx271_0, hx271_1, hx271_2, hx271_3, hx271_4, hx271_5⟩ := at_T121 HR0.out (ji8) p271 q271; obtain rfl : ad266 = ad271 := (by injection e271); replace hx271_0 := (HB.out.cell (World.block_lt_of_cell? w _ hx271_0)).trans hx271_0; replace hx271_1 := (HB.out.cell (World.block_lt_of_cell? w _ hx271_1)).trans hx271_1; replace hx271_2 := (HB.out.cell (World.block_lt_of_cell? w _ hx271_2)).trans hx271_2; replace hx271_3 := (HB.out.cell (World.block_lt_of_cell? w _ hx271_3)).trans hx271_3; replace hx271_4 := (HB.out.cell (World.block_lt_of_cell? w _ hx271_4)).trans hx271_4; replace hx271_5 := (HB.out.cell (World.block_lt_of_cell? w _ hx271_5)).trans hx271_5; replace p271 := eq_true p271; replace q271 := eq_true q271))
                        repeat (go_quiet (first | (go_at_call 86; (with_reducible refine (metrolabref52_right.calls k1 ((rd_T121 l0 x3_1).f0) ((rd_T121 l0 x3_1).f1) ((rd_T121 l0 x3_1).f2) ((rd_T121 l0 x3_1).f3) ((rd_T121 l0 x3_1).f4) ((rd_T121 l0 x3_1).f5) t267 _ A5.out).mono ?_); rintro e w17 ⟨rfl, hb⟩; have n0_ := Aside0.mk (below_step (by repeat (first | (with_reducible first | exact HB.out | apply below_alloc | apply pw_below_drewN | apply below_drew1) | exact HB.out)) hb); clear HB; have HB := n0_; clear n0_; (try clear hb); (try clear hb2); (try clear hk); (try clear hi); have p268 : 0 ≤ (x3_1 : Int) := of_decide_eq_true (by first | (with_reducible assumption) | assumption); have q268 : x3_1 < (l0.length : Int) := of_decide_eq_true (by first | (with_reducible assumption) | assumption); obtain ⟨ad268, e268, hx268_0, hx268_1, hx268_2, hx268_3, hx268_4, hx268_5⟩ := at_T121 HR0.out x3_1 p268 q268; obtain rfl : ad266 = ad268 := (by injection e268); replace hx268_0 := (HB.out.cell (World.block_lt_of_cell? w _ hx268_0)).trans hx268_0; replace hx268_1 := (HB.out.cell (World.block_lt_of_cell? w _ hx268_1)).trans hx268_1; replace hx268_2 := (HB.out.cell (World.block_lt_of_cell? w _ hx268_2)).trans hx268_2; replace hx268_3 := (HB.out.cell (World.block_lt_of_cell? w _ hx268_3)).trans hx268_3; replace hx268_4 := (HB.out.cell (World.block_lt_of_cell? w _ hx268_4)).trans hx268_4; replace hx268_5 := (HB.out.cell (World.block_lt_of_cell? w _ hx268_5)).trans hx268_5; replace p268 := eq_true p268; replace q268 := eq_true q268; have p269 : 0 ≤ ((ji8) : Int) := of_decide_eq_true (by first | (with_reducible assumption) | assumption); have q269 : (ji8) < (l0.length : Int) := of_decide_eq_true (by first | (with_reducible assumption) | assumption); obtain ⟨ad269, e269, hx269_0, hx269_1, hx269_2, hx269_3, hx269_4, hx269_5⟩ := at_T121 HR0.out (ji8) p269 q269; obtain rfl : ad266 = ad269 := (by injection e269); replace hx269_0 := (HB.out.cell (World.block_lt_of_cell? w _ hx269_0)).trans hx269_0; replace hx269_1 := (HB.out.cell (World.block_lt_of_cell? w _ hx269_1)).trans hx269_1; replace hx269_2 := (HB.out.cell (World.block_lt_of_cell? w _ hx269_2)).trans hx269_2; replace hx269_3 := (HB.out.cell (World.block_lt_of_cell? w _ hx269_3)).trans hx269_3; replace hx269_4 := (HB.out.cell (World.block_lt_of_cell? w _ hx269_4)).trans hx269_4; replace hx269_5 := (HB.out.cell (World.block_lt_of_cell? w _ hx269_5)).trans hx269_5; replace p269 := eq_true p269; replace q269 := eq_true q269; have p270 : 0 ≤ (x3_1 : Int) := of_decide_eq_true (by first | (with_reducible assumption) | assumption); have q270 : x3_1 < (l0.length : Int) := of_decide_eq_true (by first | (with_reducible assumption) | assumption); obtain ⟨ad270, e270, hx270_0, hx270_1, hx270_2, hx270_3, hx270_4, hx270_5⟩ := at_T121 HR0.out x3_1 p270 q270; obtain rfl : ad266 = ad270 := (by injection e270); replace hx270_0 := (HB.out.cell (World.block_lt_of_cell? w _ hx270_0)).trans hx270_0; replace hx270_1 := (HB.out.cell (World.block_lt_of_cell? w _ hx270_1)).trans hx270_1; replace hx270_2 := (HB.out.cell (World.block_lt_of_cell? w _ hx270_2)).trans hx270_2; replace hx270_3 := (HB.out.cell (World.block_lt_of_cell? w _ hx270_3)).trans hx270_3; replace hx270_4 := (HB.out.cell (World.block_lt_of_cell? w _ hx270_4)).trans hx270_4; replace hx270_5 := (HB.out.cell (World.block_lt_of_cell? w _ hx270_5)).trans hx270_5; replace p270 := eq_true p270; replace q270 := eq_true q270; have p271 : 0 ≤ ((ji8) : Int) := of_decide_eq_true (by first | (with_reducible assumption) | assumption); have q271 : (ji8) < (l0.length : Int) := of_decide_eq_true (by first | (with_reducible assumption) | assumption); obtain ⟨ad271, e271, hx271_0, hx271_1, hx271_2, hx271_3, hx271_4, hx271_5⟩ := at_T121 HR0.out (ji8) p271 q271; obtain rfl : ad266 = ad271 := (by injection e271); replace hx271_0 := (HB.out.cell (World.block_lt_of_cell? w _ hx271_0)).trans hx271_0; replace hx271_1 := (HB.out.cell (World.block_lt_of_cell? w _ hx271_1)).trans hx271_1; replace hx271_2 := (HB.out.cell (World.block_lt_of_cell? w _ hx271_2)).trans hx271_2; replace hx271_3 := (HB.out.cell (World.block_lt_of_cell? w _ hx271_3)).trans hx271_3; replace hx271_4 := (HB.out.cell (World.block_lt_of_cell? w _ hx271_4)).trans hx271_4; replace hx271_5 := (HB.out.cell (World.block_lt_of_cell? w _ hx271_5)).trans hx271_5; replace p271 := eq_true p271; replace q271 := eq_true q271)); try go_wp2_with (first | (go_at_call 86; (with_reducible refine (metrolabref52_right.calls k1 ((rd_T121 l0 x3_1).f0) ((rd_T121 l0 x3_1).f1) ((rd_T121 l0 x3_1).f2) ((rd_T121 l0 x3_1).f3) ((rd_T121 l0 x3_1).f4) ((rd_T121 l0 x3_1).f5) t267 _ A5.out).mono ?_); rintro e w17 ⟨rfl, hb⟩; have n0_ := Aside0.mk (below_step (by repeat (first | (with_reducible first | exact HB.out | apply below_alloc | apply pw_below_drewN | apply below_drew1) | exact HB.out)) hb); clear HB; have HB := n0_; clear n0_; (try clear hb); (try clear hb2); (try clear hk); (try clear hi); have p268 : 0 ≤ (x3_1 : Int) := of_decide_eq_true (by first | (with_reducible assumption) | assumption); have q268 : x3_1 < (l0.length : Int) := of_decide_eq_true (by first | (with_reducible assumption) | assumption); obtain ⟨ad268, e268, hx268_0, hx268_1, hx268_2, hx268_3, hx268_4, hx268_5⟩ := at_T121 HR0.out x3_1 p268 q268; obtain rfl : ad266 = ad268 := (by injection e268); replace hx268_0 := (HB.out.cell (World.block_lt_of_cell? w _ hx268_0)).trans hx268_0; replace hx268_1 := (HB.out.cell (World.block_lt_of_cell? w _ hx268_1)).trans hx268_1; replace hx268_2 := (HB.out.cell (World.block_lt_of_cell? w _ hx268_2)).trans hx268_2; replace hx268_3 := (HB.out.cell (World.block_lt_of_cell? w _ hx268_3)).trans hx268_3; replace hx268_4 := (HB.out.cell (World.block_lt_of_cell? w _ hx268_4)).trans hx268_4; replace hx268_5 := (HB.out.cell (World.block_lt_of_cell? w _ hx268_5)).trans hx268_5; replace p268 := eq_true p268; replace q268 := eq_true q268; have p269 : 0 ≤ ((ji8) : Int) := of_decide_eq_true (by first | (with_reducible assumption) | assumption); have q269 : (ji8) < (l0.length : Int) := of_decide_eq_true (by first | (with_reducible assumption) | assumption); obtain ⟨ad269, e269, hx269_0, hx269_1, hx269_2, hx269_3, hx269_4, hx269_5⟩ := at_T121 HR0.out (ji8) p269 q269; obtain rfl : ad266 = ad269 := (by injection e269); replace hx269_0 := (HB.out.cell (World.block_lt_of_cell? w _ hx269_0)).trans hx269_0; replace hx269_1 := (HB.out.cell (World.block_lt_of_cell? w _ hx269_1)).trans hx269_1; replace hx269_2 := (HB.out.cell (World.block_lt_of_cell? w _ hx269_2)).trans hx269_2; replace hx269_3 := (HB.out.cell (World.block_lt_of_cell? w _ hx269_3)).trans hx269_3; replace hx269_4 := (HB.out.cell (World.block_lt_of_cell? w _ hx269_4)).trans hx269_4; replace hx269_5 := (HB.out.cell (World.block_lt_of_cell? w _ hx269_5)).trans hx269_5; replace p269 := eq_true p269; replace q269 := eq_true q269; have p270 : 0 ≤ (x3_1 : Int) := of_decide_eq_true (by first | (with_reducible assumption) | assumption); have q270 : x3_1 < (l0.length : Int) := of_decide_eq_true (by first | (with_reducible assumption) | assumption); obtain ⟨ad270, e270, hx270_0, hx270_1, hx270_2, hx270_3, hx270_4, hx270_5⟩ := at_T121 HR0.out x3_1 p270 q270; obtain rfl : ad266 = ad270 := (by injection e270); replace hx270_0 := (HB.out.cell (World.block_lt_of_cell? w _ hx270_0)).trans hx270_0; replace hx270_1 := (HB.out.cell (World.block_lt_of_cell? w _ hx270_1)).trans hx270_1; replace hx270_2 := (HB.out.cell (World.block_lt_of_cell? w _ hx270_2)).trans hx270_2; replace hx270_3 := (HB.out.cell (World.block_lt_of_cell? w _ hx270_3)).trans hx270_3; replace hx270_4 := (HB.out.cell (World.block_lt_of_cell? w _ hx270_4)).trans hx270_4; replace hx270_5 := (HB.out.cell (World.block_lt_of_cell? w _ hx270_5)).trans hx270_5; replace p270 := eq_true p270; replace q270 := eq_true q270; have p271 : 0 ≤ ((ji8) : Int) := of_decide_eq_true (by first | (with_reducible assumption) | assumption); have q271 : (ji8) < (l0.length : Int) := of_decide_eq_true (by first | (with_reducible assumption) | assumption); obtain ⟨ad271, e271, hx271_0, hx271_1, hx271_2, hx271_3, hx271_4, hx271_5⟩ := at_T121 HR0.out (ji8) p271 q271; obtain rfl : ad266 = ad271 := (by injection e271); replace hx271_0 := (HB.out.cell (World.block_lt_of_cell? w _ hx271_0)).trans hx271_0; replace hx271_1 := (HB.out.cell (World.block_lt_of_cell? w _ hx271_1)).trans hx271_1; replace hx271_2 := (HB.out.cell (World.block_lt_of_cell? w _ hx271_2)).trans hx271_2; replace hx271_3 := (HB.out.cell (World.block_lt_of_cell? w _ hx271_3)).trans hx271_3; replace hx271_4 := (HB.out.cell (World.block_lt_of_cell? w _ hx271_4)).trans hx271_4; replace hx271_5 := (HB.out.cell (World.block_lt_of_cell? w _ hx271_5)).trans hx271_5; replace p271 := eq_true p271; replace q271 := eq_true q271)))
                        go_roundg k1
                        case measure => have := HK1.out; omega
                        case rel => exact ⟨(wrap64 (x3_1 + 1)), (by first | rfl | (simp; done) | (simp [*]; done)), H', ⟨by have := HK1.out; omega⟩, ⟨by repeat (first | (with_reducible first | exact HB.out | apply below_alloc | apply pw_below_drewN | apply below_drew1) | exact HB.out)⟩⟩
                  · rw [if_neg c10] at H
                    exact absurd H (by simp)
                · rw [if_neg c9] at H
                  exact absurd H (by simp)
              · rw [if_neg c7] at H
                have c7b0 : decide (0 < x3_1) = false := decide_eq_false c7
                clear c7
                have H' := Aside0.mk H
                clear H
                have p266 : 0 ≤ (x3_1 : Int) := of_decide_eq_true (by first | (with_reducible assumption) | assumption)
                have q266 : x3_1 < (l0.length : Int) := of_decide_eq_true (by first | (with_reducible assumption) | assumption)
                obtain ⟨ad266, e266, hx266_0, hx266_1, hx266_2, hx266_3, hx266_4, hx266_5⟩ := at_T121 HR0.out x3_1 p266 q266
                cases e266
                replace hx266_0 := (HB.out.cell (World.block_lt_of_cell? w _ hx266_0)).trans hx266_0
                replace hx266_1 := (HB.out.cell (World.block_lt_of_cell? w _ hx266_1)).trans hx266_1
                replace hx266_2 := (HB.out.cell (World.block_lt_of_cell? w _ hx266_2)).trans hx266_2
                replace hx266_3 := (HB.out.cell (World.block_lt_of_cell? w _ hx266_3)).trans hx266_3
                replace hx266_4 := (HB.out.cell (World.block_lt_of_cell? w _ hx266_4)).trans hx266_4
                replace hx266_5 := (HB.out.cell (World.block_lt_of_cell? w _ hx266_5)).trans hx266_5
                replace p266 := eq_true p266
                replace q266 := eq_true q266
                go_wp2_with (first | (go_at_call 86; (with_reducible refine (metrolabref52_right.calls k1 ((rd_T121 l0 x3_1).f0) ((rd_T121 l0 x3_1).f1) ((rd_T121 l0 x3_1).f2) ((rd_T121 l0 x3_1).f3) ((rd_T121 l0 x3_1).f4) ((rd_T121 l0 x3_1).f5) t267 _ A5.out).mono ?_); rintro e w18 ⟨rfl, hb⟩; have n0_ := Aside0.mk (below_step (by repeat (first | (with_reducible first | exact HB.out | apply below_alloc | apply pw_below_drewN | apply below_drew1) | exact HB.out)) hb); clear HB; have HB := n0_; clear n0_; (try clear hb); (try clear hb2); (try clear hk); (try clear hi)))
                repeat (go_quiet (first | (go_at_call 86; (with_reducible refine (metrolabref52_right.calls k1 ((rd_T121 l0 x3_1).f0) ((rd_T121 l0 x3_1).f1) ((rd_T121 l0 x3_1).f2) ((rd_T121 l0 x3_1).f3) ((rd_T121 l0 x3_1).f4) ((rd_T121 l0 x3_1).f5) t267 _ A5.out).mono ?_); rintro e w18 ⟨rfl, hb⟩; have n0_ := Aside0.mk (below_step (by repeat (first | (with_reducible first | exact HB.out | apply below_alloc | apply pw_below_drewN | apply below_drew1) | exact HB.out)) hb); clear HB; have HB := n0_; clear n0_; (try clear hb); (try clear hb2); (try clear hk); (try clear hi))); try go_wp2_with (first | (go_at_call 86; (with_reducible refine (metrolabref52_right.calls k1 ((rd_T121 l0 x3_1).f0) ((rd_T121 l0 x3_1).f1) ((rd_T121 l0 x3_1).f2) ((rd_T121 l0 x3_1).f3) ((rd_T121 l0 x3_1).f4) ((rd_T121 l0 x3_1).f5) t267 _ A5.out).mono ?_); rintro e w18 ⟨rfl, hb⟩; have n0_ := Aside0.mk (below_step (by repeat (first | (with_reducible first | exact HB.out | apply below_alloc | apply pw_below_drewN | apply below_drew1) | exact HB.out)) hb); clear HB; have HB := n0_; clear n0_; (try clear hb); (try clear hb2); (try clear hk); (try clear hi))))
                go_roundg k1
                case measure => have := HK1.out; omega
                case rel => exact ⟨(wrap64 (x3_1 + 1)), (by first | rfl | (simp; done) | (simp [*]; done)), H', ⟨by have := HK1.out; omega⟩, ⟨by repeat (first | (with_reducible first | exact HB.out | apply below_alloc | apply pw_below_drewN | apply below_drew1) | exact HB.out)⟩⟩
            · rw [if_neg c6] at H
              have c6b0 : (t267 == 0) = false := beq_eq_false_iff_ne.mpr c6
              have c6b1 : (t267 != 0) = true := bne_iff_ne.mpr c6
              obtain rfl := Option.some.inj H
              have p266 : 0 ≤ (x3_1 : Int) := of_decide_eq_true (by first | (with_reducible assumption) | assumption)
              have q266 : x3_1 < (l0.length : Int) := of_decide_eq_true (by first | (with_reducible assumption) | assumption)
              obtain ⟨ad266, e266, hx266_0, hx266_1, hx266_2, hx266_3, hx266_4, hx266_5⟩ := at_T121 HR0.out x3_1 p266 q266
              cases e266
              replace hx266_0 := (HB.out.cell (World.block_lt_of_cell? w _ hx266_0)).trans hx266_0
              replace hx266_1 := (HB.out.cell (World.block_lt_of_cell? w _ hx266_1)).trans hx266_1
              replace hx266_2 := (HB.out.cell (World.block_lt_of_cell? w _ hx266_2)).trans hx266_2
              replace hx266_3 := (HB.out.cell (World.block_lt_of_cell? w _ hx266_3)).trans hx266_3
              replace hx266_4 := (HB.out.cell (World.block_lt_of_cell? w _ hx266_4)).trans hx266_4
              replace hx266_5 := (HB.out.cell (World.block_lt_of_cell? w _ hx266_5)).trans hx266_5
              replace p266 := eq_true p266
              replace q266 := eq_true q266
              go_wp2_with (first | (go_at_call 86; (with_reducible refine (metrolabref52_right.calls k1 ((rd_T121 l0 x3_1).f0) ((rd_T121 l0 x3_1).f1) ((rd_T121 l0 x3_1).f2) ((rd_T121 l0 x3_1).f3) ((rd_T121 l0 x3_1).f4) ((rd_T121 l0 x3_1).f5) t267 _ A5.out).mono ?_); rintro e w19 ⟨rfl, hb⟩; have n0_ := Aside0.mk (below_step (by repeat (first | (with_reducible first | exact HB.out | apply below_alloc | apply pw_below_drewN | apply below_drew1) | exact HB.out)) hb); clear HB; have HB := n0_; clear n0_; (try clear hb); (try clear hb2); (try clear hk); (try clear hi)))
              repeat (go_quiet (first | (go_at_call 86; (with_reducible refine (metrolabref52_right.calls k1 ((rd_T121 l0 x3_1).f0) ((rd_T121 l0 x3_1).f1) ((rd_T121 l0 x3_1).f2) ((rd_T121 l0 x3_1).f3) ((rd_T121 l0 x3_1).f4) ((rd_T121 l0 x3_1).f5) t267 _ A5.out).mono ?_); rintro e w19 ⟨rfl, hb⟩; have n0_ := Aside0.mk (below_step (by repeat (first | (with_reducible first | exact HB.out | apply below_alloc | apply pw_below_drewN | apply below_drew1) | exact HB.out)) hb); clear HB; have HB := n0_; clear n0_; (try clear hb); (try clear hb2); (try clear hk); (try clear hi))); try go_wp2_with (first | (go_at_call 86; (with_reducible refine (metrolabref52_right.calls k1 ((rd_T121 l0 x3_1).f0) ((rd_T121 l0 x3_1).f1) ((rd_T121 l0 x3_1).f2) ((rd_T121 l0 x3_1).f3) ((rd_T121 l0 x3_1).f4) ((rd_T121 l0 x3_1).f5) t267 _ A5.out).mono ?_); rintro e w19 ⟨rfl, hb⟩; have n0_ := Aside0.mk (below_step (by repeat (first | (with_reducible first | exact HB.out | apply below_alloc | apply pw_below_drewN | apply below_drew1) | exact HB.out)) hb); clear HB; have HB := n0_; clear n0_; (try clear hb); (try clear hb2); (try clear hk); (try clear hi))))
              go_ret
              exact ⟨by first | rfl | (simp [errW_none, errW_some] <;> rfl) | (simp [*, errW_none, errW_some] <;> rfl), by repeat (first | (with_reducible first | exact HB.out | apply below_alloc | apply pw_below_drewN | apply below_drew1) | exact HB.out)⟩
          · rw [if_neg c4] at H
            exact absurd H (by simp)
        · rw [if_neg c3] at H
          have c3b0 : decide (x3_1 < (l0.length : Int)) = false := decide_eq_false c3
          clear c3
          obtain rfl := Option.some.inj H
          go_wp2
          repeat (go_quiet (fail); try go_wp2)
          go_ret
          exact ⟨by first | rfl | (simp [errW_none, errW_some] <;> rfl) | (simp [*, errW_none, errW_some] <;> rfl), by repeat (first | (with_reducible first | exact HB.out | apply below_alloc | apply pw_below_drewN | apply below_drew1) | exact HB.out)⟩
end Go.Proofs.Ytkgdlbepjmgaiaa.Cal
set_option linter.unusedVariables false
set_option linter.unusedSimpArgs false
namespace Go.Proofs.Ytkgdlbepjmgaiaa.Cal
open Go.RowKit Go.Proofs.YtkgdlbepjmgaiaaW.PrintWords Go.Proofs.YtkgdlbepjmgaiaaW.PrintLast Go.Proofs.YtkgdlbepjmgaiaaW.PrintMore
theorem rletter_eq (c : Int) : metrolabref17_letter.f c = some (Hand.letB c) := by
  unfold metrolabref17_letter.f Hand.letB
  by_cases h1 : 97 ≤ c
  · rw [if_pos (show c ≥ 97 from h1)]
    by_cases h2 : c ≤ 122
    · rw [if_pos h2]; simp [h1, h2]
    · rw [if_neg h2, if_pos (show c ≥ 65 by omega), decide_eq_false (show ¬ c ≤ 90 by omega), decide_eq_false h2]
      simp
  · rw [if_neg (show ¬ c ≥ 97 from h1)]
    by_cases h2 : 65 ≤ c
    · rw [if_pos (show c ≥ 65 from h2)]
      simp [h1, h2]
    · rw [if_neg (show ¬ c ≥ 65 from h2)]
      simp [h1, h2]
theorem rName_ev (s : ByteArray) : Ev (fun k => metrolabref17_Name.f k s) (Hand.nmV s) := by
  unfold metrolabref17_Name.f Hand.nmV
  by_cases h24 : 24 < (s.size : Int)
  · rw [if_pos h24]; exact Ev.t h24 (Ev.now _)
  rw [if_neg h24]
  refine Ev.e h24 ?_
  have j3 : Ev (fun k => metrolabref17_Name.j0 k s true) 3 := by
    refine Ev.step (fun k => by rw [metrolabref17_Name.j0]) ?_
    exact Ev.t rfl (Ev.now _)
  by_cases hz : (s.size : Int) = 0
  · rw [if_pos hz]; exact Ev.t hz j3
  rw [if_neg hz]
  refine Ev.e hz ?_
  refine Ev.t (by omega) ?_
  simp only [rletter_eq, Option.bind_some]
  cases h0 : Hand.letB (bt s 0)
  · rw [if_pos rfl]; exact j3
  · rw [if_neg (by decide)]
    refine Ev.step (fun k => by rw [metrolabref17_Name.j0]) ?_
    refine Ev.e (by decide) ?_
    have key : ∀ n i : Nat, i + n = s.size → Hand.nmGo s i = true → Ev (fun k => metrolabref17_Name.l0 k s (i : Int)) (if Hand.nmGo s s.size = true then 0 else 3) := by
      intro n
      induction n with
      | zero =>
        intro i hi hg
        obtain rfl : i = s.size := by omega
        refine Ev.step (fun k => by rw [metrolabref17_Name.l0]) ?_
        rw [if_pos hg]
        exact Ev.e (by omega) (Ev.now _)
      | succ n ih =>
        intro i hi hg
        refine Ev.step (fun k => by rw [metrolabref17_Name.l0]) ?_
        simp only [rletter_eq, Option.bind_some]
        refine Ev.t (by omega) (Ev.t (by omega) ?_)
        rw [w64s (by omega)]
        have hst := Hand.nmGo_step s i hg
        have bad : Hand.nmOk (bt s (i : Int)) = false → (if Hand.nmGo s s.size = true then (0 : Int) else 3) = 3 := by
          intro h
          rw [h] at hst
          rw [Hand.nmGo_false s (i + 1) s.size hst (by omega)]
          rfl
        cases hl : Hand.letB (bt s (i : Int))
        · refine Ev.e (by decide) ?_
          by_cases h1 : bt s (i : Int) < 48
          · refine Ev.t h1 (Ev.some_eq (bad ?_).symm)
            simp [Hand.nmOk, Hand.digB, hl]; omega
          · refine Ev.e h1 ?_
            by_cases h2 : bt s (i : Int) > 57
            · refine Ev.t h2 (Ev.some_eq (bad ?_).symm)
              simp [Hand.nmOk, Hand.digB, hl]; omega
            · refine Ev.e h2 (ih (i + 1) (by omega) ?_)
              rw [hst]
              simp [Hand.nmOk, Hand.digB]; omega
        · refine Ev.t rfl (ih (i + 1) (by omega) ?_)
          rw [hst]
          simp [Hand.nmOk, hl]
    exact key s.size 0 (by omega) rfl
theorem rin_eq (n : Int) : metrolabref17_In.f n = some (inV n (-100000) 100000) := by
  unfold metrolabref17_In.f inV
  by_cases h : n ≥ (-100000)
  · rw [if_pos h, decide_eq_true (show (-100000) ≤ n from h)]; rfl
  · rw [if_neg h, decide_eq_false (show ¬ (-100000) ≤ n from h)]; rfl
theorem rday_eq (n : Int) : metrolabref52_Day.f n = some (dayV n) := by
  unfold metrolabref52_Day.f dayV inV
  by_cases h : n < 0
  · rw [if_pos h, if_neg (by simp; omega)]
  · rw [if_neg h]
    by_cases h2 : n > 1048576
    · rw [if_pos h2, if_neg (by simp; omega)]
    · rw [if_neg h2, if_pos (by simp; omega)]
theorem right_ev (x : S68) : Ev (fun k => metrolabref52_right.f k x.f0 x.f1 x.f2 x.f3 x.f4 x.f5) (chkR x) := by
  have j1 : ∀ b, Ev (fun k => metrolabref52_right.j1 k b x.f0 x.f1 x.f2 x.f3 x.f4 x.f5) (if b = true then 2 else if x.f5 < x.f4 then 9 else 0) :=
    fun b => by
      refine Ev.step (fun k => by rw [metrolabref52_right.j1]) ?_
      exact Ev.ite2 (Ev.now _) (Ev.ite2 (Ev.now _) (Ev.now _))
  have j0 : Ev (fun k => metrolabref52_right.j0 k x.f0 x.f1 x.f2 x.f3 x.f4 x.f5) (chkR2 x) := by
    refine Ev.step (fun k => by rw [metrolabref52_right.j0]) ?_
    simp only [ByteArray.toList_eq, rin_eq, rday_eq, Option.bind_some]
    unfold chkR2
    refine Ev.ite2 (Ev.now _) ?_
    cases h2 : inV x.f2 (-100000) 100000
    · exact Ev.e (by decide) (j1 true)
    · refine Ev.t rfl ?_
      cases h3 : inV x.f3 0 100000
      · simp only [inV, Bool.and_eq_false_iff, decide_eq_false_iff_not] at h3
        by_cases g : x.f3 < 0
        · exact Ev.t g (j1 true)
        · exact Ev.e g (Ev.t (by omega) (j1 true))
      · simp only [inV, Bool.and_eq_true, decide_eq_true_eq] at h3
        refine Ev.e (by omega) (Ev.e (by omega) ?_)
        cases h4 : inV x.f4 0 1048576
        · exact Ev.e (by simp [dayV, h4]) (j1 true)
        · refine Ev.t (by simp [dayV, h4]) ?_
          cases h5 : inV x.f5 0 1048576
          · rw [show (dayV x.f5 != 0) = true by simp [dayV, h5]]; exact j1 true
          · rw [show (dayV x.f5 != 0) = false by simp [dayV, h5]]; exact j1 false
  unfold metrolabref52_right.f chkR
  simp only [ByteArray.toList_eq]
  refine Ev.bind (rName_ev _) (Ev.ite2 (Ev.ite2 j0 (Ev.bind (rName_ev _) (Ev.ite2 j0 (Ev.now _)))) (Ev.now _))
theorem RCheck_ev (l : List S68) (hl : l.length < 2199023255552) : Ev (fun k => metrolabref52_Check.f k (l.map cv)) (chkV l) := by
  have key : ∀ n i : Nat, i + n = l.length → Ev (fun k => metrolabref52_Check.l0 k (l.map cv) (i : Int)) (chkG l i n) := by
    intro n
    induction n with
    | zero =>
      intro i hi
      refine Ev.step (fun k => by rw [metrolabref52_Check.l0]) ?_
      rw [List.length_map]
      exact Ev.e (by omega) (Ev.now _)
    | succ n ih =>
      intro i hi
      have hr := ih (i + 1) (by omega)
      refine Ev.step (fun k => by rw [metrolabref52_Check.l0]) ?_
      simp only [ByteArray.toList_eq, rd_cv, List.length_map]
      rw [w64s (by omega)]
      refine Ev.t (by omega) (Ev.t (by omega) (Ev.bind (right_ev _) ?_))
      rw [chkG]
      refine Ev.ite2 ?_ (Ev.now _)
      cases i with
      | zero =>
        rw [if_neg (fun h => h.1 rfl)]
        exact Ev.e (by decide) hr
      | succ i =>
        refine Ev.t (by omega) ?_
        rw [w64p (by omega), show ((i + 1 : Nat) : Int) - 1 = (i : Int) by omega]
        refine Ev.t (by omega) (Ev.t (by omega) ?_)
        show Ev (fun n => if Op.bytesLess (tl (rd_T68 l ((i + 1 : Nat) : Int)).f0) (tl (rd_T68 l (i : Int)).f0) = true then some 9 else if tl (rd_T68 l ((i + 1 : Nat) : Int)).f0 = tl (rd_T68 l (i : Int)).f0 then (if (rd_T68 l ((i + 1 : Nat) : Int)).f4 ≤ (rd_T68 l (i : Int)).f5 then some 9 else metrolabref52_Check.l0 n (l.map cv) ((i + 1 + 1 : Nat) : Int)) else metrolabref52_Check.l0 n (l.map cv) ((i + 1 + 1 : Nat) : Int)) _
        cases h1 : Op.bytesLess (tl (rd_T68 l ((i + 1 : Nat) : Int)).f0) (tl (rd_T68 l (i : Int)).f0)
        · refine Ev.e (by decide) ?_
          by_cases h2 : tl (rd_T68 l ((i + 1 : Nat) : Int)).f0 = tl (rd_T68 l (i : Int)).f0
          · refine Ev.t h2 ?_
            by_cases h3 : (rd_T68 l ((i + 1 : Nat) : Int)).f4 ≤ (rd_T68 l (i : Int)).f5
            · refine Ev.t h3 ?_
              rw [if_pos ⟨by omega, by simp only [badV, h1, Bool.false_or, Bool.and_eq_true, decide_eq_true_eq]; exact ⟨h2, h3⟩⟩]
              exact Ev.now _
            · refine Ev.e h3 ?_
              rw [if_neg (by rintro ⟨_, h⟩; simp only [badV, h1, h2, bl_irr, Bool.false_or, Bool.and_eq_true, decide_eq_true_eq] at h; exact h3 h.2)]
              exact hr
          · refine Ev.e h2 ?_
            rw [if_neg (by rintro ⟨_, h⟩; simp only [badV, h1, Bool.false_or, Bool.and_eq_true, decide_eq_true_eq] at h; exact h2 h.1)]
            exact hr
        · refine Ev.t rfl ?_
          rw [if_pos ⟨by omega, by simp only [badV, h1, Bool.true_or]⟩]
          exact Ev.now _
  unfold metrolabref52_Check.f chkV
  rw [List.length_map]
  exact Ev.ite2 (Ev.now _) (key l.length 0 (by omega))
end Go.Proofs.Ytkgdlbepjmgaiaa.Cal
namespace Go.Proofs.Ytkgdlbepjmgaiaa.Cal
open Go.RowKit Go.Proofs.YtkgdlbepjmgaiaaW.PrintWords Go.Proofs.YtkgdlbepjmgaiaaW.PrintLast Go.Proofs.YtkgdlbepjmgaiaaW.PrintMore
attribute [local go_sem] max2_int min2_int max_two min_two max_three min_three max_four min_four
set_option linter.unusedVariables false
set_option linter.unusedSimpArgs false
def cmp_isNaN_string.f (a0 : ByteArray) : Option (Bool) := some (a0.toList != a0.toList)
set_option maxHeartbeats 8000000 in
set_option maxRecDepth 100000 in
theorem cmp_isNaN_string.calls (a0 : ByteArray) (r : Bool) (w : World) (h : cmp_isNaN_string.f a0 = some r) :
    Calls Try.prog 123 #[.string a0] w fun e w' => e = .returned (.bool r) ∧ Drawn0 w w' := by
  have H : (some (a0.toList != a0.toList)) = some r := h
  clear h
  obtain rfl := Option.some.inj H
  go_enter Try.func123, Try.ntmps123
  go_wp2
  go_ret
  exact ⟨by first | rfl | (simp; done) | (simp [*]; done), by repeat (first | exact Drawn0.refl _ | apply Drawn0.step)⟩
end Go.Proofs.Ytkgdlbepjmgaiaa.Cal
namespace Go.Proofs.Ytkgdlbepjmgaiaa.Cal
open Go.RowKit Go.Proofs.YtkgdlbepjmgaiaaW.PrintWords Go.Proofs.YtkgdlbepjmgaiaaW.PrintLast Go.Proofs.YtkgdlbepjmgaiaaW.PrintMore
attribute [local go_sem] max2_int min2_int max_two min_two max_three min_three max_four min_four
set_option linter.unusedVariables false
set_option linter.unusedSimpArgs false
def cmp_Less_string.f (a0 : ByteArray) (a1 : ByteArray) : Option (Bool) := (cmp_isNaN_string.f a0).bind fun t274 => (if t274 = true then ((cmp_isNaN_string.f a1).bind fun t275 => (if t275 = true then (some (Op.bytesLess a0.toList a1.toList)) else (some true))) else (some (Op.bytesLess a0.toList a1.toList)))
set_option maxHeartbeats 8000000 in
set_option maxRecDepth 100000 in
theorem cmp_Less_string.calls (a0 : ByteArray) (a1 : ByteArray) (r : Bool) (w : World) (h : cmp_Less_string.f a0 a1 = some r) :
    Calls Try.prog 91 #[.string a0, .string a1] w fun e w' => e = .returned (.bool r) ∧ Drawn0 w w' := by
  have H : ((cmp_isNaN_string.f a0).bind fun t274 => (if t274 = true then ((cmp_isNaN_string.f a1).bind fun t275 => (if t275 = true then (some (Op.bytesLess a0.toList a1.toList)) else (some true))) else (some (Op.bytesLess a0.toList a1.toList)))) = some r := h
  clear h
  replace H := Option.bind_eq_some_iff.mp H
  obtain ⟨t274, A30, H⟩ := H
  replace H : (if t274 = true then ((cmp_isNaN_string.f a1).bind fun t275 => (if t275 = true then (some (Op.bytesLess a0.toList a1.toList)) else (some true))) else (some (Op.bytesLess a0.toList a1.toList))) = some r := H
  have A3 := Aside0.mk A30
  clear A30
  by_cases c4 : t274 = true
  · subst c4
    have H1 : ((cmp_isNaN_string.f a1).bind fun t275 => (if t275 = true then (some (Op.bytesLess a0.toList a1.toList)) else (some true))) = some r := by rw [if_pos rfl] at H; exact H
    clear H
    have H := H1
    clear H1
    replace H := Option.bind_eq_some_iff.mp H
    obtain ⟨t275, A50, H⟩ := H
    replace H : (if t275 = true then (some (Op.bytesLess a0.toList a1.toList)) else (some true)) = some r := H
    have A5 := Aside0.mk A50
    clear A50
    by_cases c6 : t275 = true
    · subst c6
      have H1 : (some (Op.bytesLess a0.toList a1.toList)) = some r := by rw [if_pos rfl] at H; exact H
      clear H
      have H := H1
      clear H1
      obtain rfl := Option.some.inj H
      go_enter Try.func91, Try.ntmps91
      go_wp2_with (first | ((with_reducible refine gate_callee (f := 123) rfl ?_); refine goesL_ (some 6) rfl rfl Try.func123 (by kernel_rfl) rfl #[.string a0] rfl (by (try simp only [List.map_toArray, List.map_cons, List.map_nil]); first | done | rfl | (simp only [List.length_drop, List.length_take]; rfl)) ?_; (with_reducible refine (cmp_isNaN_string.calls a0 true _ A3.out).mono ?_); rintro e w' ⟨rfl, ⟨nd, rfl⟩⟩; refine ⟨_, rfl, ?_⟩) | (go_at_call 123; (with_reducible refine (cmp_isNaN_string.calls a1 true _ A5.out).mono ?_); rintro e w' ⟨rfl, ⟨nd, rfl⟩⟩))
      go_ret
      exact ⟨by first | rfl | (simp; done) | (simp [*]; done), by repeat (first | exact Drawn0.refl _ | apply Drawn0.step)⟩
    · replace c6 := Bool.eq_false_iff.mpr c6
      subst c6
      have H1 : (some true) = some r := by rw [if_neg (show ¬ (false = true) by decide)] at H; exact H
      clear H
      have H := H1
      clear H1
      obtain rfl := Option.some.inj H
      go_enter Try.func91, Try.ntmps91
      go_wp2_with (first | ((with_reducible refine gate_callee (f := 123) rfl ?_); refine goesL_ (some 6) rfl rfl Try.func123 (by kernel_rfl) rfl #[.string a0] rfl (by (try simp only [List.map_toArray, List.map_cons, List.map_nil]); first | done | rfl | (simp only [List.length_drop, List.length_take]; rfl)) ?_; (with_reducible refine (cmp_isNaN_string.calls a0 true _ A3.out).mono ?_); rintro e w' ⟨rfl, ⟨nd, rfl⟩⟩; refine ⟨_, rfl, ?_⟩) | (go_at_call 123; (with_reducible refine (cmp_isNaN_string.calls a1 false _ A5.out).mono ?_); rintro e w' ⟨rfl, ⟨nd, rfl⟩⟩))
      go_ret
      exact ⟨by first | rfl | (simp; done) | (simp [*]; done), by repeat (first | exact Drawn0.refl _ | apply Drawn0.step)⟩
  · replace c4 := Bool.eq_false_iff.mpr c4
    subst c4
    have H1 : (some (Op.bytesLess a0.toList a1.toList)) = some r := by rw [if_neg (show ¬ (false = true) by decide)] at H; exact H
    clear H
    have H := H1
    clear H1
    obtain rfl := Option.some.inj H
    go_enter Try.func91, Try.ntmps91
    go_wp2_with (first | ((with_reducible refine gate_callee (f := 123) rfl ?_); refine goesL_ (some 6) rfl rfl Try.func123 (by kernel_rfl) rfl #[.string a0] rfl (by (try simp only [List.map_toArray, List.map_cons, List.map_nil]); first | done | rfl | (simp only [List.length_drop, List.length_take]; rfl)) ?_; (with_reducible refine (cmp_isNaN_string.calls a0 false _ A3.out).mono ?_); rintro e w' ⟨rfl, ⟨nd, rfl⟩⟩; refine ⟨_, rfl, ?_⟩))
    go_ret
    exact ⟨by first | rfl | (simp; done) | (simp [*]; done), by repeat (first | exact Drawn0.refl _ | apply Drawn0.step)⟩
end Go.Proofs.Ytkgdlbepjmgaiaa.Cal
namespace Go.Proofs.Ytkgdlbepjmgaiaa.Cal
open Go.RowKit Go.Proofs.YtkgdlbepjmgaiaaW.PrintWords Go.Proofs.YtkgdlbepjmgaiaaW.PrintLast Go.Proofs.YtkgdlbepjmgaiaaW.PrintMore
attribute [local go_sem] max2_int min2_int max_two min_two max_three min_three max_four min_four
set_option linter.unusedVariables false
set_option linter.unusedSimpArgs false
def slices_IsSorted_string_string.l0 : Nat → List ByteArray → Int → Option (Bool)
  | 0, _, _ => none
  | k + 1, x0, x3 => if x3 > 0 then (if 0 ≤ x3 then (if x3 < (x0.length : Int) then (if 0 ≤ (wrap64 (x3 - 1)) then (if (wrap64 (x3 - 1)) < (x0.length : Int) then ((cmp_Less_string.f (rdOf ByteArray.empty x0 x3) (rdOf ByteArray.empty x0 (wrap64 (x3 - 1)))).bind fun t278 => (if t278 = true then (some false) else (slices_IsSorted_string_string.l0 k x0 (wrap64 (x3 - 1))))) else (none)) else (none)) else (none)) else (none)) else (some true)
def slices_IsSorted_string_string.f (k : Nat) (l0 : List ByteArray) : Option (Bool) := slices_IsSorted_string_string.l0 k l0 (wrap64 ((l0.length : Int) - 1))
theorem slices_IsSorted_string_string.mono_l : ∀ k, (∀ y0 y1, LeO (slices_IsSorted_string_string.l0 k y0 y1) (slices_IsSorted_string_string.l0 (k + 1) y0 y1))
  | 0 => fun _ _ r h => by simp [slices_IsSorted_string_string.l0] at h
  | k + 1 => by
    have ih0 := slices_IsSorted_string_string.mono_l k
    · intro y0 y1
      unfold slices_IsSorted_string_string.l0
      repeat' first
      | (with_reducible exact ih0 _ _)
      | (with_reducible exact LeO.refl _)
      | (with_reducible exact LeO.none _)
      | (with_reducible refine LeO.ite ?_ ?_)
      | (with_reducible refine LeO.bind ?_ (fun _ => ?_))
      | exact ih0 _ _
      | exact LeO.none _
      | refine LeO.ite ?_ ?_
      | refine LeO.bind ?_ (fun _ => ?_)
theorem slices_IsSorted_string_string.mono : ∀ a0 k, LeO (slices_IsSorted_string_string.f k a0) (slices_IsSorted_string_string.f (k + 1) a0) := by
  intro a0 k
  have ih0 := slices_IsSorted_string_string.mono_l k
  unfold slices_IsSorted_string_string.f
  repeat' first
      | (with_reducible exact ih0 _ _)
      | (with_reducible exact LeO.refl _)
      | (with_reducible exact LeO.none _)
      | (with_reducible refine LeO.ite ?_ ?_)
      | (with_reducible refine LeO.bind ?_ (fun _ => ?_))
      | exact ih0 _ _
      | exact LeO.none _
      | refine LeO.ite ?_ ?_
      | refine LeO.bind ?_ (fun _ => ?_)
set_option maxHeartbeats 8000000 in
set_option maxRecDepth 100000 in
theorem slices_IsSorted_string_string.calls (k : Nat) (A0 : Option Addr) (c0 : Nat) (l0 : List ByteArray) (r : Bool) (w : World) (hr0 : Kd.C Kd.string w A0 l0.length l0) (hc0 : l0.length ≤ c0) (h : slices_IsSorted_string_string.f k l0 = some r) :
    Calls Try.prog 41 #[.slice A0 l0.length c0] w fun e w' => e = .returned (.bool r) ∧ Drawn0 w w' := by
  have HR0 := Aside0.mk hr0
  have HC0 := Aside0.mk hc0
  clear hr0 hc0
  have H : (slices_IsSorted_string_string.l0 k l0 (wrap64 ((l0.length : Int) - 1))) = some r := h
  clear h
  have H' := Aside0.mk H
  clear H
  go_enter Try.func41, Try.ntmps41
  go_wp2
  repeat (go_quiet (fail); try go_wp2)
  go_loopg [3] k (fun kq v3 w' => ∃ (x3_1 : Int), v3 = .int .i64 x3_1 ∧ Aside0 (slices_IsSorted_string_string.l0 kq l0 x3_1 = some r) ∧ Aside0 (kq ≤ k) ∧ Drawn0 w w')
  case atStart => exact ⟨(wrap64 ((l0.length : Int) - 1)), (by first | rfl | (simp; done) | (simp [*]; done)), H', ⟨Nat.le_refl _⟩, by repeat (first | exact Drawn0.refl _ | apply Drawn0.step)⟩
  case round =>
    clear H'
    obtain ⟨x3_1, rfl, HA, HK1, ⟨m1, rfl⟩⟩ := hrel
    cases gk with
    | zero => exact absurd HA.out (by simp [slices_IsSorted_string_string.l0])
    | succ k1 =>
      have H := HA.out
      clear HA
      simp only [slices_IsSorted_string_string.l0] at H
      by_cases c2 : x3_1 > 0
      · rw [if_pos c2] at H
        have c2b0 : decide (0 < x3_1) = true := decide_eq_true c2
        clear c2
        by_cases c3 : 0 ≤ x3_1
        · rw [if_pos c3] at H
          have c3b0 : decide (0 ≤ x3_1) = true := decide_eq_true c3
          clear c3
          by_cases c4 : x3_1 < (l0.length : Int)
          · rw [if_pos c4] at H
            have c4b0 : decide (x3_1 < (l0.length : Int)) = true := decide_eq_true c4
            clear c4
            obtain ⟨ji5, hji5⟩ : ∃ j_ : Int, (wrap64 (x3_1 - 1)) = j_ := ⟨_, rfl⟩
            replace H : (if 0 ≤ (ji5) then (if (ji5) < (l0.length : Int) then ((cmp_Less_string.f (rdOf ByteArray.empty l0 x3_1) (rdOf ByteArray.empty l0 (ji5))).bind fun t278 => (if t278 = true then (some false) else (slices_IsSorted_string_string.l0 k1 l0 ji5))) else (none)) else (none)) = some r := by first | (rw [hji5] at H; exact H) | (simp only [hji5] at H ⊢; exact H)
            have hji5w : (IntKind.i64.wrap (x3_1 - 1)) = ji5 := (i64_w _).trans hji5
            by_cases c6 : 0 ≤ (ji5)
            · rw [if_pos c6] at H
              have c6b0 : decide (0 ≤ (ji5)) = true := decide_eq_true c6
              clear c6
              by_cases c7 : (ji5) < (l0.length : Int)
              · rw [if_pos c7] at H
                have c7b0 : decide ((ji5) < (l0.length : Int)) = true := decide_eq_true c7
                clear c7
                replace H := Option.bind_eq_some_iff.mp H
                obtain ⟨t278, A80, H⟩ := H
                replace H : (if t278 = true then (some false) else (slices_IsSorted_string_string.l0 k1 l0 ji5)) = some r := H
                have A8 := Aside0.mk A80
                clear A80
                by_cases c9 : t278 = true
                · subst c9
                  have H1 : (some false) = some r := by rw [if_pos rfl] at H; exact H
                  clear H
                  have H := H1
                  clear H1
                  obtain rfl := Option.some.inj H
                  have p276 : 0 ≤ (x3_1 : Int) := of_decide_eq_true (by first | (with_reducible assumption) | assumption)
                  have q276 : x3_1 < (l0.length : Int) := of_decide_eq_true (by first | (with_reducible assumption) | assumption)
                  obtain ⟨ad276, e276, hx276_0⟩ := Kd.at_string HR0.out x3_1 p276 q276
                  cases e276
                  replace p276 := eq_true p276
                  replace q276 := eq_true q276
                  have p277 : 0 ≤ ((ji5) : Int) := of_decide_eq_true (by first | (with_reducible assumption) | assumption)
                  have q277 : (ji5) < (l0.length : Int) := of_decide_eq_true (by first | (with_reducible assumption) | assumption)
                  obtain ⟨ad277, e277, hx277_0⟩ := Kd.at_string HR0.out (ji5) p277 q277
                  obtain rfl : ad276 = ad277 := (by injection e277)
                  replace p277 := eq_true p277
                  replace q277 := eq_true q277
                  go_wp2_with (first | (go_at_call 91; (with_reducible refine (cmp_Less_string.calls (rdOf ByteArray.empty l0 x3_1) (rdOf ByteArray.empty l0 (ji5)) true _ A8.out).mono ?_); rintro e w' ⟨rfl, ⟨nd, rfl⟩⟩; (try first | exact ⟨rfl, _, World.drewN_drewN _ _ _⟩ | exact ⟨rfl, _, Eq.trans (World.drewN_drewN _ _ _) (congrArg (World.drewN _) (Nat.add_assoc _ _ _))⟩)))
                  repeat (go_quiet (first | (go_at_call 91; (with_reducible refine (cmp_Less_string.calls (rdOf ByteArray.empty l0 x3_1) (rdOf ByteArray.empty l0 (ji5)) true _ A8.out).mono ?_); rintro e w' ⟨rfl, ⟨nd, rfl⟩⟩; (try first | exact ⟨rfl, _, World.drewN_drewN _ _ _⟩ | exact ⟨rfl, _, Eq.trans (World.drewN_drewN _ _ _) (congrArg (World.drewN _) (Nat.add_assoc _ _ _))⟩))); try go_wp2_with (first | (go_at_call 91; (with_reducible refine (cmp_Less_string.calls (rdOf ByteArray.empty l0 x3_1) (rdOf ByteArray.empty l0 (ji5)) true _ A8.out).mono ?_); rintro e w' ⟨rfl, ⟨nd, rfl⟩⟩; (try first | exact ⟨rfl, _, World.drewN_drewN _ _ _⟩ | exact ⟨rfl, _, Eq.trans (World.drewN_drewN _ _ _) (congrArg (World.drewN _) (Nat.add_assoc _ _ _))⟩))))
                  go_ret
                  exact ⟨by first | rfl | (simp; done) | (simp only [← hji5] <;> (first | rfl | simp)) | (simp [*]; done), by repeat (first | exact Drawn0.refl _ | apply Drawn0.step)⟩
                · replace c9 := Bool.eq_false_iff.mpr c9
                  subst c9
                  have H1 : (slices_IsSorted_string_string.l0 k1 l0 ji5) = some r := by rw [if_neg (show ¬ (false = true) by decide)] at H; exact H
                  clear H
                  have H := H1
                  clear H1
                  have H' := Aside0.mk H
                  clear H
                  have p276 : 0 ≤ (x3_1 : Int) := of_decide_eq_true (by first | (with_reducible assumption) | assumption)
                  have q276 : x3_1 < (l0.length : Int) := of_decide_eq_true (by first | (with_reducible assumption) | assumption)
                  obtain ⟨ad276, e276, hx276_0⟩ := Kd.at_string HR0.out x3_1 p276 q276
                  cases e276
                  replace p276 := eq_true p276
                  replace q276 := eq_true q276
                  have p277 : 0 ≤ ((ji5) : Int) := of_decide_eq_true (by first | (with_reducible assumption) | assumption)
                  have q277 : (ji5) < (l0.length : Int) := of_decide_eq_true (by first | (with_reducible assumption) | assumption)
                  obtain ⟨ad277, e277, hx277_0⟩ := Kd.at_string HR0.out (ji5) p277 q277
                  obtain rfl : ad276 = ad277 := (by injection e277)
                  replace p277 := eq_true p277
                  replace q277 := eq_true q277
                  go_wp2_with (first | (go_at_call 91; (with_reducible refine (cmp_Less_string.calls (rdOf ByteArray.empty l0 x3_1) (rdOf ByteArray.empty l0 (ji5)) false _ A8.out).mono ?_); rintro e w' ⟨rfl, ⟨nd, rfl⟩⟩; (try first | exact ⟨rfl, _, World.drewN_drewN _ _ _⟩ | exact ⟨rfl, _, Eq.trans (World.drewN_drewN _ _ _) (congrArg (World.drewN _) (Nat.add_assoc _ _ _))⟩)))
                  repeat (go_quiet (first | (go_at_call 91; (with_reducible refine (cmp_Less_string.calls (rdOf ByteArray.empty l0 x3_1) (rdOf ByteArray.empty l0 (ji5)) false _ A8.out).mono ?_); rintro e w' ⟨rfl, ⟨nd, rfl⟩⟩; (try first | exact ⟨rfl, _, World.drewN_drewN _ _ _⟩ | exact ⟨rfl, _, Eq.trans (World.drewN_drewN _ _ _) (congrArg (World.drewN _) (Nat.add_assoc _ _ _))⟩))); try go_wp2_with (first | (go_at_call 91; (with_reducible refine (cmp_Less_string.calls (rdOf ByteArray.empty l0 x3_1) (rdOf ByteArray.empty l0 (ji5)) false _ A8.out).mono ?_); rintro e w' ⟨rfl, ⟨nd, rfl⟩⟩; (try first | exact ⟨rfl, _, World.drewN_drewN _ _ _⟩ | exact ⟨rfl, _, Eq.trans (World.drewN_drewN _ _ _) (congrArg (World.drewN _) (Nat.add_assoc _ _ _))⟩))))
                  go_roundg k1
                  case measure => have := HK1.out; omega
                  case rel => exact ⟨(ji5), (by first | rfl | (simp; done) | (simp only [← hji5] <;> (first | rfl | simp)) | (simp [*]; done)), H', ⟨by have := HK1.out; omega⟩, by repeat (first | exact Drawn0.refl _ | apply Drawn0.step)⟩
              · rw [if_neg c7] at H
                exact absurd H (by simp)
            · rw [if_neg c6] at H
              exact absurd H (by simp)
          · rw [if_neg c4] at H
            exact absurd H (by simp)
        · rw [if_neg c3] at H
          exact absurd H (by simp)
      · rw [if_neg c2] at H
        have c2b0 : decide (0 < x3_1) = false := decide_eq_false c2
        clear c2
        obtain rfl := Option.some.inj H
        go_wp2
        repeat (go_quiet (fail); try go_wp2)
        go_ret
        exact ⟨by first | rfl | (simp; done) | (simp [*]; done), by repeat (first | exact Drawn0.refl _ | apply Drawn0.step)⟩
end Go.Proofs.Ytkgdlbepjmgaiaa.Cal
namespace Go.Proofs.Ytkgdlbepjmgaiaa.Cal
open Go.RowKit Go.Proofs.YtkgdlbepjmgaiaaW.PrintWords Go.Proofs.YtkgdlbepjmgaiaaW.PrintLast Go.Proofs.YtkgdlbepjmgaiaaW.PrintMore
attribute [local go_sem] max2_int min2_int max_two min_two max_three min_three max_four min_four
set_option linter.unusedVariables false
set_option linter.unusedSimpArgs false
def slices_Index_string_string.l0 : Nat → List ByteArray → ByteArray → Int → Int → Option (Int)
  | 0, _, _, _, _ => none
  | k + 1, x0, x1, x7, x8 => if x8 < x7 then (if 0 ≤ x8 then (if x8 < (x0.length : Int) then (if x1.toList = (rdOf ByteArray.empty x0 x8).toList then (some x8) else (slices_Index_string_string.l0 k x0 x1 x7 (wrap64 (x8 + 1)))) else (none)) else (none)) else (some (-1))
def slices_Index_string_string.f (k : Nat) (l0 : List ByteArray) (a1 : ByteArray) : Option (Int) := slices_Index_string_string.l0 k l0 a1 (l0.length : Int) 0
theorem slices_Index_string_string.mono_l : ∀ k, (∀ y0 y1 y2 y3, LeO (slices_Index_string_string.l0 k y0 y1 y2 y3) (slices_Index_string_string.l0 (k + 1) y0 y1 y2 y3))
  | 0 => fun _ _ _ _ r h => by simp [slices_Index_string_string.l0] at h
  | k + 1 => by
    have ih0 := slices_Index_string_string.mono_l k
    · intro y0 y1 y2 y3
      unfold slices_Index_string_string.l0
      repeat' first
      | (with_reducible exact ih0 _ _ _ _)
      | (with_reducible exact LeO.refl _)
      | (with_reducible exact LeO.none _)
      | (with_reducible refine LeO.ite ?_ ?_)
      | (with_reducible refine LeO.bind ?_ (fun _ => ?_))
      | exact ih0 _ _ _ _
      | exact LeO.none _
      | refine LeO.ite ?_ ?_
      | refine LeO.bind ?_ (fun _ => ?_)
theorem slices_Index_string_string.mono : ∀ a0 a1 k, LeO (slices_Index_string_string.f k a0 a1) (slices_Index_string_string.f (k + 1) a0 a1) := by
  intro a0 a1 k
  have ih0 := slices_Index_string_string.mono_l k
  unfold slices_Index_string_string.f
  repeat' first
      | (with_reducible exact ih0 _ _ _ _)
      | (with_reducible exact LeO.refl _)
      | (with_reducible exact LeO.none _)
      | (with_reducible refine LeO.ite ?_ ?_)
      | (with_reducible refine LeO.bind ?_ (fun _ => ?_))
      | exact ih0 _ _ _ _
      | exact LeO.none _
      | refine LeO.ite ?_ ?_
      | refine LeO.bind ?_ (fun _ => ?_)
set_option maxHeartbeats 8000000 in
set_option maxRecDepth 100000 in
theorem slices_Index_string_string.calls (k : Nat) (A0 : Option Addr) (c0 : Nat) (l0 : List ByteArray) (a1 : ByteArray) (r : Int) (w : World) (hr0 : Kd.C Kd.string w A0 l0.length l0) (hc0 : l0.length ≤ c0) (h : slices_Index_string_string.f k l0 a1 = some r) :
    Calls Try.prog 92 #[.slice A0 l0.length c0, .string a1] w fun e w' => e = .returned (.int .i64 r) ∧ Drawn0 w w' := by
  have HR0 := Aside0.mk hr0
  have HC0 := Aside0.mk hc0
  clear hr0 hc0
  have H : (slices_Index_string_string.l0 k l0 a1 (l0.length : Int) 0) = some r := h
  clear h
  have H' := Aside0.mk H
  clear H
  go_enter Try.func92, Try.ntmps92
  go_wp2
  go_loopg [8] k (fun kq v8 w' => ∃ (x8_1 : Int), v8 = .int .i64 x8_1 ∧ Aside0 (slices_Index_string_string.l0 kq l0 a1 (l0.length : Int) x8_1 = some r) ∧ Aside0 (kq ≤ k) ∧ Drawn0 w w')
  case atStart => exact ⟨(0), (by first | rfl | (simp; done) | (simp [*]; done)), H', ⟨Nat.le_refl _⟩, by repeat (first | exact Drawn0.refl _ | apply Drawn0.step)⟩
  case round =>
    clear H'
    try clear p2
    obtain ⟨x8_1, rfl, HA, HK1, ⟨m1, rfl⟩⟩ := hrel
    cases gk with
    | zero => exact absurd HA.out (by simp [slices_Index_string_string.l0])
    | succ k1 =>
      have H := HA.out
      clear HA
      simp only [slices_Index_string_string.l0] at H
      by_cases c3 : x8_1 < (l0.length : Int)
      · rw [if_pos c3] at H
        have c3b0 : decide (x8_1 < (l0.length : Int)) = true := decide_eq_true c3
        clear c3
        by_cases c4 : 0 ≤ x8_1
        · rw [if_pos c4] at H
          have c4b0 : decide (0 ≤ x8_1) = true := decide_eq_true c4
          clear c4
          by_cases c5 : x8_1 < (l0.length : Int)
          · rw [if_pos c5] at H
            have c5b0 : decide (x8_1 < (l0.length : Int)) = true := decide_eq_true c5
            clear c5
            by_cases c6 : a1.toList = (rdOf ByteArray.empty l0 x8_1).toList
            · rw [if_pos c6] at H
              have c6b0 : (a1.toList == (rdOf ByteArray.empty l0 x8_1).toList) = true := beq_iff_eq.mpr c6
              have c6b1 : (a1.toList != (rdOf ByteArray.empty l0 x8_1).toList) = false := bne_eq_false_iff_eq.mpr c6
              clear c6
              obtain rfl := Option.some.inj H
              have p279 : 0 ≤ (x8_1 : Int) := of_decide_eq_true (by first | (with_reducible assumption) | assumption)
              have q279 : x8_1 < (l0.length : Int) := of_decide_eq_true (by first | (with_reducible assumption) | assumption)
              obtain ⟨ad279, e279, hx279_0⟩ := Kd.at_string HR0.out x8_1 p279 q279
              cases e279
              replace p279 := eq_true p279
              replace q279 := eq_true q279
              go_wp2
              go_ret
              exact ⟨by first | rfl | (simp; done) | (simp [*]; done), by repeat (first | exact Drawn0.refl _ | apply Drawn0.step)⟩
            · rw [if_neg c6] at H
              have c6b0 : (a1.toList == (rdOf ByteArray.empty l0 x8_1).toList) = false := beq_eq_false_iff_ne.mpr c6
              have c6b1 : (a1.toList != (rdOf ByteArray.empty l0 x8_1).toList) = true := bne_iff_ne.mpr c6
              have H' := Aside0.mk H
              clear H
              have p279 : 0 ≤ (x8_1 : Int) := of_decide_eq_true (by first | (with_reducible assumption) | assumption)
              have q279 : x8_1 < (l0.length : Int) := of_decide_eq_true (by first | (with_reducible assumption) | assumption)
              obtain ⟨ad279, e279, hx279_0⟩ := Kd.at_string HR0.out x8_1 p279 q279
              cases e279
              replace p279 := eq_true p279
              replace q279 := eq_true q279
              go_wp2
              go_roundg k1
              case measure => have := HK1.out; omega
              case rel => exact ⟨(wrap64 (x8_1 + 1)), (by first | rfl | (simp; done) | (simp [*]; done)), H', ⟨by have := HK1.out; omega⟩, by repeat (first | exact Drawn0.refl _ | apply Drawn0.step)⟩
          · rw [if_neg c5] at H
            exact absurd H (by simp)
        · rw [if_neg c4] at H
          exact absurd H (by simp)
      · rw [if_neg c3] at H
        have c3b0 : decide (x8_1 < (l0.length : Int)) = false := decide_eq_false c3
        clear c3
        obtain rfl := Option.some.inj H
        go_wp2
        go_ret
        exact ⟨by first | rfl | (simp; done) | (simp [*]; done), by repeat (first | exact Drawn0.refl _ | apply Drawn0.step)⟩
end Go.Proofs.Ytkgdlbepjmgaiaa.Cal
namespace Go.Proofs.Ytkgdlbepjmgaiaa.Cal
open Go.RowKit Go.Proofs.YtkgdlbepjmgaiaaW.PrintWords Go.Proofs.YtkgdlbepjmgaiaaW.PrintLast Go.Proofs.YtkgdlbepjmgaiaaW.PrintMore
attribute [local go_sem] max2_int min2_int max_two min_two max_three min_three max_four min_four
set_option linter.unusedVariables false
set_option linter.unusedSimpArgs false
def slices_Contains_string_string.f (k : Nat) (l0 : List ByteArray) (a1 : ByteArray) : Option (Bool) := (slices_Index_string_string.f k l0 a1).bind fun t280 => (some (decide (t280 ≥ 0)))
theorem slices_Contains_string_string.mono : ∀ a0 a1 k, LeO (slices_Contains_string_string.f k a0 a1) (slices_Contains_string_string.f (k + 1) a0 a1) := by
  intro a0 a1 k
  unfold slices_Contains_string_string.f
  repeat' first
      | (with_reducible exact slices_Index_string_string.mono _ _ _)
      | (with_reducible exact LeO.refl _)
      | (with_reducible exact LeO.none _)
      | (with_reducible refine LeO.ite ?_ ?_)
      | (with_reducible refine LeO.bind ?_ (fun _ => ?_))
      | exact slices_Index_string_string.mono _ _ _
      | exact LeO.none _
      | refine LeO.ite ?_ ?_
      | refine LeO.bind ?_ (fun _ => ?_)
set_option maxHeartbeats 8000000 in
set_option maxRecDepth 100000 in
theorem slices_Contains_string_string.calls (k : Nat) (A0 : Option Addr) (c0 : Nat) (l0 : List ByteArray) (a1 : ByteArray) (r : Bool) (w : World) (hr0 : Kd.C Kd.string w A0 l0.length l0) (hc0 : l0.length ≤ c0) (h : slices_Contains_string_string.f k l0 a1 = some r) :
    Calls Try.prog 43 #[.slice A0 l0.length c0, .string a1] w fun e w' => e = .returned (.bool r) ∧ Drawn0 w w' := by
  have HR0 := Aside0.mk hr0
  have HC0 := Aside0.mk hc0
  clear hr0 hc0
  have H : ((slices_Index_string_string.f k l0 a1).bind fun t280 => (some (decide (t280 ≥ 0)))) = some r := h
  clear h
  replace H := Option.bind_eq_some_iff.mp H
  obtain ⟨t280, A30, H⟩ := H
  replace H : (some (decide (t280 ≥ 0))) = some r := H
  have A3 := Aside0.mk A30
  clear A30
  obtain rfl := Option.some.inj H
  go_enter Try.func43, Try.ntmps43
  go_wp2_with (first | ((with_reducible refine gate_callee (f := 92) rfl ?_); refine goesL_ (some 7) rfl rfl Try.func92 (by kernel_rfl) rfl #[.slice A0 l0.length c0, .string a1] rfl (by (try simp only [List.map_toArray, List.map_cons, List.map_nil]); first | done | rfl | (simp only [List.length_drop, List.length_take]; rfl)) ?_; (with_reducible refine (slices_Index_string_string.calls k _ _ l0 a1 t280 _ ?side1 ?side2 A3.out).mono ?_); (case side1 => repeat (first | exact HR0.out | (with_reducible refine Kd.C_alloc ?_ _) | (with_reducible refine Kd.C_drewN ?_ _) | (with_reducible refine Kd.C_drew ?_))); (case side2 => exact HC0.out); rintro e w' ⟨rfl, ⟨nd, rfl⟩⟩; refine ⟨_, rfl, ?_⟩))
  go_ret
  exact ⟨by first | rfl | (simp; done) | (simp [*]; done), by repeat (first | exact Drawn0.refl _ | apply Drawn0.step)⟩
end Go.Proofs.Ytkgdlbepjmgaiaa.Cal
namespace Go.Proofs.Ytkgdlbepjmgaiaa.Cal
open Go.RowKit Go.Proofs.YtkgdlbepjmgaiaaW.PrintWords Go.Proofs.YtkgdlbepjmgaiaaW.PrintLast Go.Proofs.YtkgdlbepjmgaiaaW.PrintMore
attribute [local go_sem] max2_int min2_int max_two min_two max_three min_three max_four min_four
set_option linter.unusedVariables false
set_option linter.unusedSimpArgs false
def slices_Index_int_int.l0 : Nat → List Int → Int → Int → Int → Option (Int)
  | 0, _, _, _, _ => none
  | k + 1, x0, x1, x7, x8 => if x8 < x7 then (if 0 ≤ x8 then (if x8 < (x0.length : Int) then (if x1 = (rd x0 x8) then (some x8) else (slices_Index_int_int.l0 k x0 x1 x7 (wrap64 (x8 + 1)))) else (none)) else (none)) else (some (-1))
def slices_Index_int_int.f (k : Nat) (l0 : List Int) (a1 : Int) : Option (Int) := slices_Index_int_int.l0 k l0 a1 (l0.length : Int) 0
theorem slices_Index_int_int.mono_l : ∀ k, (∀ y0 y1 y2 y3, LeO (slices_Index_int_int.l0 k y0 y1 y2 y3) (slices_Index_int_int.l0 (k + 1) y0 y1 y2 y3))
  | 0 => fun _ _ _ _ r h => by simp [slices_Index_int_int.l0] at h
  | k + 1 => by
    have ih0 := slices_Index_int_int.mono_l k
    · intro y0 y1 y2 y3
      unfold slices_Index_int_int.l0
      repeat' first
      | (with_reducible exact ih0 _ _ _ _)
      | (with_reducible exact LeO.refl _)
      | (with_reducible exact LeO.none _)
      | (with_reducible refine LeO.ite ?_ ?_)
      | (with_reducible refine LeO.bind ?_ (fun _ => ?_))
      | exact ih0 _ _ _ _
      | exact LeO.none _
      | refine LeO.ite ?_ ?_
      | refine LeO.bind ?_ (fun _ => ?_)
theorem slices_Index_int_int.mono : ∀ a0 a1 k, LeO (slices_Index_int_int.f k a0 a1) (slices_Index_int_int.f (k + 1) a0 a1) := by
  intro a0 a1 k
  have ih0 := slices_Index_int_int.mono_l k
  unfold slices_Index_int_int.f
  repeat' first
      | (with_reducible exact ih0 _ _ _ _)
      | (with_reducible exact LeO.refl _)
      | (with_reducible exact LeO.none _)
      | (with_reducible refine LeO.ite ?_ ?_)
      | (with_reducible refine LeO.bind ?_ (fun _ => ?_))
      | exact ih0 _ _ _ _
      | exact LeO.none _
      | refine LeO.ite ?_ ?_
      | refine LeO.bind ?_ (fun _ => ?_)
set_option maxHeartbeats 8000000 in
set_option maxRecDepth 100000 in
theorem slices_Index_int_int.calls (k : Nat) (A0 : Option Addr) (c0 : Nat) (l0 : List Int) (a1 : Int) (r : Int) (w : World) (hr0 : Kd.C (Kd.int .i64) w A0 l0.length l0) (hc0 : l0.length ≤ c0) (h : slices_Index_int_int.f k l0 a1 = some r) :
    Calls Try.prog 93 #[.slice A0 l0.length c0, .int .i64 a1] w fun e w' => e = .returned (.int .i64 r) ∧ Drawn0 w w' := by
  have HR0 := Aside0.mk hr0
  have HC0 := Aside0.mk hc0
  clear hr0 hc0
  have H : (slices_Index_int_int.l0 k l0 a1 (l0.length : Int) 0) = some r := h
  clear h
  have H' := Aside0.mk H
  clear H
  go_enter Try.func93, Try.ntmps93
  go_wp2
  go_loopg [8] k (fun kq v8 w' => ∃ (x8_1 : Int), v8 = .int .i64 x8_1 ∧ Aside0 (slices_Index_int_int.l0 kq l0 a1 (l0.length : Int) x8_1 = some r) ∧ Aside0 (kq ≤ k) ∧ Drawn0 w w')
  case atStart => exact ⟨(0), (by first | rfl | (simp; done) | (simp [*]; done)), H', ⟨Nat.le_refl _⟩, by repeat (first | exact Drawn0.refl _ | apply Drawn0.step)⟩
  case round =>
    clear H'
    try clear p2
    obtain ⟨x8_1, rfl, HA, HK1, ⟨m1, rfl⟩⟩ := hrel
    cases gk with
    | zero => exact absurd HA.out (by simp [slices_Index_int_int.l0])
    | succ k1 =>
      have H := HA.out
      clear HA
      simp only [slices_Index_int_int.l0] at H
      by_cases c3 : x8_1 < (l0.length : Int)
      · rw [if_pos c3] at H
        have c3b0 : decide (x8_1 < (l0.length : Int)) = true := decide_eq_true c3
        clear c3
        by_cases c4 : 0 ≤ x8_1
        · rw [if_pos c4] at H
          have c4b0 : decide (0 ≤ x8_1) = true := decide_eq_true c4
          clear c4
          by_cases c5 : x8_1 < (l0.length : Int)
          · rw [if_pos c5] at H
            have c5b0 : decide (x8_1 < (l0.length : Int)) = true := decide_eq_true c5
            clear c5
            by_cases c6 : a1 = (rd l0 x8_1)
            · rw [if_pos c6] at H
              have c6b0 : (a1 == (rd l0 x8_1)) = true := beq_iff_eq.mpr c6
              have c6b1 : (a1 != (rd l0 x8_1)) = false := bne_eq_false_iff_eq.mpr c6
              clear c6
              obtain rfl := Option.some.inj H
              have p281 : 0 ≤ (x8_1 : Int) := of_decide_eq_true (by first | (with_reducible assumption) | assumption)
              have q281 : x8_1 < (l0.length : Int) := of_decide_eq_true (by first | (with_reducible assumption) | assumption)
              obtain ⟨ad281, e281, hx281_0⟩ := Kd.at_int HR0.out x8_1 p281 q281
              cases e281
              replace p281 := eq_true p281
              replace q281 := eq_true q281
              go_wp2
              go_ret
              exact ⟨by first | rfl | (simp; done) | (simp [*]; done), by repeat (first | exact Drawn0.refl _ | apply Drawn0.step)⟩
            · rw [if_neg c6] at H
              have c6b0 : (a1 == (rd l0 x8_1)) = false := beq_eq_false_iff_ne.mpr c6
              have c6b1 : (a1 != (rd l0 x8_1)) = true := bne_iff_ne.mpr c6
              have H' := Aside0.mk H
              clear H
              have p281 : 0 ≤ (x8_1 : Int) := of_decide_eq_true (by first | (with_reducible assumption) | assumption)
              have q281 : x8_1 < (l0.length : Int) := of_decide_eq_true (by first | (with_reducible assumption) | assumption)
              obtain ⟨ad281, e281, hx281_0⟩ := Kd.at_int HR0.out x8_1 p281 q281
              cases e281
              replace p281 := eq_true p281
              replace q281 := eq_true q281
              go_wp2
              go_roundg k1
              case measure => have := HK1.out; omega
              case rel => exact ⟨(wrap64 (x8_1 + 1)), (by first | rfl | (simp; done) | (simp [*]; done)), H', ⟨by have := HK1.out; omega⟩, by repeat (first | exact Drawn0.refl _ | apply Drawn0.step)⟩
          · rw [if_neg c5] at H
            exact absurd H (by simp)
        · rw [if_neg c4] at H
          exact absurd H (by simp)
      · rw [if_neg c3] at H
        have c3b0 : decide (x8_1 < (l0.length : Int)) = false := decide_eq_false c3
        clear c3
        obtain rfl := Option.some.inj H
        go_wp2
        go_ret
        exact ⟨by first | rfl | (simp; done) | (simp [*]; done), by repeat (first | exact Drawn0.refl _ | apply Drawn0.step)⟩
end Go.Proofs.Ytkgdlbepjmgaiaa.Cal
namespace Go.Proofs.Ytkgdlbepjmgaiaa.Cal
open Go.RowKit Go.Proofs.YtkgdlbepjmgaiaaW.PrintWords Go.Proofs.YtkgdlbepjmgaiaaW.PrintLast Go.Proofs.YtkgdlbepjmgaiaaW.PrintMore
attribute [local go_sem] max2_int min2_int max_two min_two max_three min_three max_four min_four
set_option linter.unusedVariables false
set_option linter.unusedSimpArgs false
def slices_Contains_int_int.f (k : Nat) (l0 : List Int) (a1 : Int) : Option (Bool) := (slices_Index_int_int.f k l0 a1).bind fun t282 => (some (decide (t282 ≥ 0)))
theorem slices_Contains_int_int.mono : ∀ a0 a1 k, LeO (slices_Contains_int_int.f k a0 a1) (slices_Contains_int_int.f (k + 1) a0 a1) := by
  intro a0 a1 k
  unfold slices_Contains_int_int.f
  repeat' first
      | (with_reducible exact slices_Index_int_int.mono _ _ _)
      | (with_reducible exact LeO.refl _)
      | (with_reducible exact LeO.none _)
      | (with_reducible refine LeO.ite ?_ ?_)
      | (with_reducible refine LeO.bind ?_ (fun _ => ?_))
      | exact slices_Index_int_int.mono _ _ _
      | exact LeO.none _
      | refine LeO.ite ?_ ?_
      | refine LeO.bind ?_ (fun _ => ?_)
set_option maxHeartbeats 8000000 in
set_option maxRecDepth 100000 in
theorem slices_Contains_int_int.calls (k : Nat) (A0 : Option Addr) (c0 : Nat) (l0 : List Int) (a1 : Int) (r : Bool) (w : World) (hr0 : Kd.C (Kd.int .i64) w A0 l0.length l0) (hc0 : l0.length ≤ c0) (h : slices_Contains_int_int.f k l0 a1 = some r) :
    Calls Try.prog 45 #[.slice A0 l0.length c0, .int .i64 a1] w fun e w' => e = .returned (.bool r) ∧ Drawn0 w w' := by
  have HR0 := Aside0.mk hr0
  have HC0 := Aside0.mk hc0
  clear hr0 hc0
  have H : ((slices_Index_int_int.f k l0 a1).bind fun t282 => (some (decide (t282 ≥ 0)))) = some r := h
  clear h
  replace H := Option.bind_eq_some_iff.mp H
  obtain ⟨t282, A30, H⟩ := H
  replace H : (some (decide (t282 ≥ 0))) = some r := H
  have A3 := Aside0.mk A30
  clear A30
  obtain rfl := Option.some.inj H
  go_enter Try.func45, Try.ntmps45
  go_wp2_with (first | ((with_reducible refine gate_callee (f := 93) rfl ?_); refine goesL_ (some 7) rfl rfl Try.func93 (by kernel_rfl) rfl #[.slice A0 l0.length c0, .int .i64 a1] rfl (by (try simp only [List.map_toArray, List.map_cons, List.map_nil]); first | done | rfl | (simp only [List.length_drop, List.length_take]; rfl)) ?_; (with_reducible refine (slices_Index_int_int.calls k _ _ l0 a1 t282 _ ?side1 ?side2 A3.out).mono ?_); (case side1 => repeat (first | exact HR0.out | (with_reducible refine Kd.C_alloc ?_ _) | (with_reducible refine Kd.C_drewN ?_ _) | (with_reducible refine Kd.C_drew ?_))); (case side2 => exact HC0.out); rintro e w' ⟨rfl, ⟨nd, rfl⟩⟩; refine ⟨_, rfl, ?_⟩))
  go_ret
  exact ⟨by first | rfl | (simp; done) | (simp [*]; done), by repeat (first | exact Drawn0.refl _ | apply Drawn0.step)⟩
end Go.Proofs.Ytkgdlbepjmgaiaa.Cal
namespace Go.Proofs.Ytkgdlbepjmgaiaa.Cal
open Go.RowKit Go.Proofs.YtkgdlbepjmgaiaaW.PrintWords Go.Proofs.YtkgdlbepjmgaiaaW.PrintLast Go.Proofs.YtkgdlbepjmgaiaaW.PrintMore
attribute [local go_sem] max2_int min2_int max_two min_two max_three min_three max_four min_four
set_option linter.unusedVariables false
set_option linter.unusedSimpArgs false
mutual
def metrolablaw52_CalibrateParts.j0 : Nat → List (S68) → Int → Bool → Option (Bool)
  | 0, _, _, _ => none
  | k + 1, x0, x1, x30 => if x30 = true then ((metrolablaw52_awake.f k).bind fun t289 => (some t289)) else ((calibrate_Due.f k x0 x1).bind fun bt290 => ((calibrate_Broken.f k x0).bind fun bt294 => (if (wrap64 (bt290.2 + bt294.2)) = 0 then ((slices_IsSorted_string_string.f k bt290.1).bind fun t298 => (metrolablaw52_CalibrateParts.j1 k x0 x1 bt290.1 bt294.1 (!t298))) else (metrolablaw52_CalibrateParts.j1 k x0 x1 bt290.1 bt294.1 true))))
def metrolablaw52_CalibrateParts.j1 : Nat → List (S68) → Int → List ByteArray → List Int → Bool → Option (Bool)
  | 0, _, _, _, _, _ => none
  | k + 1, x0, x1, x5, x7, x51 => if x51 = true then (some false) else (metrolablaw52_CalibrateParts.l0 k x0 x1 x5 x7 x0 (x0.length : Int) 0)
def metrolablaw52_CalibrateParts.l0 : Nat → List (S68) → Int → List ByteArray → List Int → List (S68) → Int → Int → Option (Bool)
  | 0, _, _, _, _, _, _, _ => none
  | k + 1, x0, x1, x5, x7, x52, x53, x54 => if x54 < x53 then (if 0 ≤ x54 then (if x54 < (x52.length : Int) then ((calibrate_Valid.f k x0 ((rd_T68 x52 x54).f0) x1).bind fun bt302 => ((slices_Contains_string_string.f k x5 ((rd_T68 x52 x54).f0)).bind fun t304 => (if ((bt302.2 != 0) != t304) = true then (some false) else ((calibrate_Chain.f k x0 ((rd_T68 x52 x54).f0) ((rd_T68 x52 x54).f4)).bind fun bt305 => ((slices_Contains_int_int.f k x7 x54).bind fun t309 => (if ((bt305.2 != 0) != t309) = true then (metrolablaw52_CalibrateParts.j3 k x0 x1 x5 x7 bt305.1 x52 x53 x54 true) else (if bt305.2 = 0 then (if (bt305.1.length : Int) = 0 then (metrolablaw52_CalibrateParts.j3 k x0 x1 x5 x7 bt305.1 x52 x53 x54 true) else (if 0 < (bt305.1.length : Int) then (metrolablaw52_CalibrateParts.j3 k x0 x1 x5 x7 bt305.1 x52 x53 x54 ((rd bt305.1 0) != x54)) else (none))) else (metrolablaw52_CalibrateParts.j3 k x0 x1 x5 x7 bt305.1 x52 x53 x54 false)))))))) else (none)) else (none)) else ((metrolablaw52_awake.f k).bind fun t299 => (some t299))
def metrolablaw52_CalibrateParts.j3 : Nat → List (S68) → Int → List ByteArray → List Int → List Int → List (S68) → Int → Int → Bool → Option (Bool)
  | 0, _, _, _, _, _, _, _, _, _ => none
  | k + 1, x0, x1, x5, x7, x13, x52, x53, x54, x104 => if x104 = true then (some false) else (metrolablaw52_CalibrateParts.l1 k x0 x1 x5 x7 x52 x53 x54 x13 (x13.length : Int) 0)
def metrolablaw52_CalibrateParts.l1 : Nat → List (S68) → Int → List ByteArray → List Int → List (S68) → Int → Int → List Int → Int → Int → Option (Bool)
  | 0, _, _, _, _, _, _, _, _, _, _ => none
  | k + 1, x0, x1, x5, x7, x52, x53, x54, x105, x106, x107 => if x107 < x106 then (if 0 ≤ x107 then (if x107 < (x105.length : Int) then ((slices_Contains_int_int.f k x7 (rd x105 x107)).bind fun t312 => (if t312 = true then (some false) else (metrolablaw52_CalibrateParts.l1 k x0 x1 x5 x7 x52 x53 x54 x105 x106 (wrap64 (x107 + 1))))) else (none)) else (none)) else (metrolablaw52_CalibrateParts.l0 k x0 x1 x5 x7 x52 x53 (wrap64 (x54 + 1)))
end
def metrolablaw52_CalibrateParts.f (k : Nat) (l0 : List (S68)) (a1 : Int) : Option (Bool) := (metrolablaw52_few.f k l0 (⟨#[]⟩ : ByteArray)).bind fun t283 => (if t283 = true then ((metrolablaw52_own.f k l0).bind fun t284 => ((metrolabref52_Check.f k t284).bind fun t287 => (if t287 = 0 then ((metrolabref52_Day.f a1).bind fun t288 => (metrolablaw52_CalibrateParts.j0 k l0 a1 (t288 != 0))) else (metrolablaw52_CalibrateParts.j0 k l0 a1 true)))) else (metrolablaw52_CalibrateParts.j0 k l0 a1 true))
theorem metrolablaw52_CalibrateParts.mono_l : ∀ k, (∀ y0 y1 y2, LeO (metrolablaw52_CalibrateParts.j0 k y0 y1 y2) (metrolablaw52_CalibrateParts.j0 (k + 1) y0 y1 y2)) ∧ (∀ y0 y1 y2 y3 y4, LeO (metrolablaw52_CalibrateParts.j1 k y0 y1 y2 y3 y4) (metrolablaw52_CalibrateParts.j1 (k + 1) y0 y1 y2 y3 y4)) ∧ (∀ y0 y1 y2 y3 y4 y5 y6, LeO (metrolablaw52_CalibrateParts.l0 k y0 y1 y2 y3 y4 y5 y6) (metrolablaw52_CalibrateParts.l0 (k + 1) y0 y1 y2 y3 y4 y5 y6)) ∧ (∀ y0 y1 y2 y3 y4 y5 y6 y7 y8, LeO (metrolablaw52_CalibrateParts.j3 k y0 y1 y2 y3 y4 y5 y6 y7 y8) (metrolablaw52_CalibrateParts.j3 (k + 1) y0 y1 y2 y3 y4 y5 y6 y7 y8)) ∧ (∀ y0 y1 y2 y3 y4 y5 y6 y7 y8 y9, LeO (metrolablaw52_CalibrateParts.l1 k y0 y1 y2 y3 y4 y5 y6 y7 y8 y9) (metrolablaw52_CalibrateParts.l1 (k + 1) y0 y1 y2 y3 y4 y5 y6 y7 y8 y9))
  | 0 => ⟨fun _ _ _ r h => by simp [metrolablaw52_CalibrateParts.j0] at h, fun _ _ _ _ _ r h => by simp [metrolablaw52_CalibrateParts.j1] at h, fun _ _ _ _ _ _ _ r h => by simp [metrolablaw52_CalibrateParts.l0] at h, fun _ _ _ _ _ _ _ _ _ r h => by simp [metrolablaw52_CalibrateParts.j3] at h, fun _ _ _ _ _ _ _ _ _ _ r h => by simp [metrolablaw52_CalibrateParts.l1] at h⟩
  | k + 1 => by
    obtain ⟨ih0, ih1, ih2, ih3, ih4⟩ := metrolablaw52_CalibrateParts.mono_l k
    refine ⟨?_, ?_, ?_, ?_, ?_⟩
    · intro y0 y1 y2
      unfold metrolablaw52_CalibrateParts.j0
      repeat' first
      | (with_reducible exact ih0 _ _ _)
      | (with_reducible exact ih1 _ _ _ _ _)
      | (with_reducible exact ih2 _ _ _ _ _ _ _)
      | (with_reducible exact ih3 _ _ _ _ _ _ _ _ _)
      | (with_reducible exact ih4 _ _ _ _ _ _ _ _ _ _)
      | (with_reducible exact calibrate_Broken.mono _ _)
      | (with_reducible exact calibrate_Chain.mono _ _ _ _)
      | (with_reducible exact calibrate_Due.mono _ _ _)
      | (with_reducible exact calibrate_Valid.mono _ _ _ _)
      | (with_reducible exact metrolablaw52_awake.mono _)
      | (with_reducible exact metrolablaw52_few.mono _ _ _)
      | (with_reducible exact metrolablaw52_own.mono _ _)
      | (with_reducible exact metrolabref52_Check.mono _ _)
      | (with_reducible exact slices_Contains_int_int.mono _ _ _)
      | (with_reducible exact slices_Contains_string_string.mono _ _ _)
      | (with_reducible exact slices_IsSorted_string_string.mono _ _)
      | (with_reducible exact LeO.refl _)
      | (with_reducible exact LeO.none _)
      | (with_reducible refine LeO.ite ?_ ?_)
      | (with_reducible refine LeO.bind ?_ (fun _ => ?_))
      | exact ih0 _ _ _
      | exact ih1 _ _ _ _ _
      | exact ih2 _ _ _ _ _ _ _
      | exact ih3 _ _ _ _ _ _ _ _ _
      | exact ih4 _ _ _ _ _ _ _ _ _ _
      | exact calibrate_Broken.mono _ _
      | exact calibrate_Chain.mono _ _ _ _
      | exact calibrate_Due.mono _ _ _
      | exact calibrate_Valid.mono _ _ _ _
      | exact metrolablaw52_awake.mono _
      | exact metrolablaw52_few.mono _ _ _
      | exact metrolablaw52_own.mono _ _
      | exact metrolabref52_Check.mono _ _
      | exact slices_Contains_int_int.mono _ _ _
      | exact slices_Contains_string_string.mono _ _ _
      | exact slices_IsSorted_string_string.mono _ _
      | exact LeO.none _
      | refine LeO.ite ?_ ?_
      | refine LeO.bind ?_ (fun _ => ?_)
    · intro y0 y1 y2 y3 y4
      unfold metrolablaw52_CalibrateParts.j1
      repeat' first
      | (with_reducible exact ih0 _ _ _)
      | (with_reducible exact ih1 _ _ _ _ _)
      | (with_reducible exact ih2 _ _ _ _ _ _ _)
      | (with_reducible exact ih3 _ _ _ _ _ _ _ _ _)
      | (with_reducible exact ih4 _ _ _ _ _ _ _ _ _ _)
      | (with_reducible exact calibrate_Broken.mono _ _)
      | (with_reducible exact calibrate_Chain.mono _ _ _ _)
      | (with_reducible exact calibrate_Due.mono _ _ _)
      | (with_reducible exact calibrate_Valid.mono _ _ _ _)
      | (with_reducible exact metrolablaw52_awake.mono _)
      | (with_reducible exact metrolablaw52_few.mono _ _ _)
      | (with_reducible exact metrolablaw52_own.mono _ _)
      | (with_reducible exact metrolabref52_Check.mono _ _)
      | (with_reducible exact slices_Contains_int_int.mono _ _ _)
      | (with_reducible exact slices_Contains_string_string.mono _ _ _)
      | (with_reducible exact slices_IsSorted_string_string.mono _ _)
      | (with_reducible exact LeO.refl _)
      | (with_reducible exact LeO.none _)
      | (with_reducible refine LeO.ite ?_ ?_)
      | (with_reducible refine LeO.bind ?_ (fun _ => ?_))
      | exact ih0 _ _ _
      | exact ih1 _ _ _ _ _
      | exact ih2 _ _ _ _ _ _ _
      | exact ih3 _ _ _ _ _ _ _ _ _
      | exact ih4 _ _ _ _ _ _ _ _ _ _
      | exact calibrate_Broken.mono _ _
      | exact calibrate_Chain.mono _ _ _ _
      | exact calibrate_Due.mono _ _ _
      | exact calibrate_Valid.mono _ _ _ _
      | exact metrolablaw52_awake.mono _
      | exact metrolablaw52_few.mono _ _ _
      | exact metrolablaw52_own.mono _ _
      | exact metrolabref52_Check.mono _ _
      | exact slices_Contains_int_int.mono _ _ _
      | exact slices_Contains_string_string.mono _ _ _
      | exact slices_IsSorted_string_string.mono _ _
      | exact LeO.none _
      | refine LeO.ite ?_ ?_
      | refine LeO.bind ?_ (fun _ => ?_)
    · intro y0 y1 y2 y3 y4 y5 y6
      unfold metrolablaw52_CalibrateParts.l0
      repeat' first
      | (with_reducible exact ih0 _ _ _)
      | (with_reducible exact ih1 _ _ _ _ _)
      | (with_reducible exact ih2 _ _ _ _ _ _ _)
      | (with_reducible exact ih3 _ _ _ _ _ _ _ _ _)
      | (with_reducible exact ih4 _ _ _ _ _ _ _ _ _ _)
      | (with_reducible exact calibrate_Broken.mono _ _)
      | (with_reducible exact calibrate_Chain.mono _ _ _ _)
      | (with_reducible exact calibrate_Due.mono _ _ _)
      | (with_reducible exact calibrate_Valid.mono _ _ _ _)
      | (with_reducible exact metrolablaw52_awake.mono _)
      | (with_reducible exact metrolablaw52_few.mono _ _ _)
      | (with_reducible exact metrolablaw52_own.mono _ _)
      | (with_reducible exact metrolabref52_Check.mono _ _)
      | (with_reducible exact slices_Contains_int_int.mono _ _ _)
      | (with_reducible exact slices_Contains_string_string.mono _ _ _)
      | (with_reducible exact slices_IsSorted_string_string.mono _ _)
      | (with_reducible exact LeO.refl _)
      | (with_reducible exact LeO.none _)
      | (with_reducible refine LeO.ite ?_ ?_)
      | (with_reducible refine LeO.bind ?_ (fun _ => ?_))
      | exact ih0 _ _ _
      | exact ih1 _ _ _ _ _
      | exact ih2 _ _ _ _ _ _ _
      | exact ih3 _ _ _ _ _ _ _ _ _
      | exact ih4 _ _ _ _ _ _ _ _ _ _
      | exact calibrate_Broken.mono _ _
      | exact calibrate_Chain.mono _ _ _ _
      | exact calibrate_Due.mono _ _ _
      | exact calibrate_Valid.mono _ _ _ _
      | exact metrolablaw52_awake.mono _
      | exact metrolablaw52_few.mono _ _ _
      | exact metrolablaw52_own.mono _ _
      | exact metrolabref52_Check.mono _ _
      | exact slices_Contains_int_int.mono _ _ _
      | exact slices_Contains_string_string.mono _ _ _
      | exact slices_IsSorted_string_string.mono _ _
      | exact LeO.none _
      | refine LeO.ite ?_ ?_
      | refine LeO.bind ?_ (fun _ => ?_)
    · intro y0 y1 y2 y3 y4 y5 y6 y7 y8
      unfold metrolablaw52_CalibrateParts.j3
      repeat' first
      | (with_reducible exact ih0 _ _ _)
      | (with_reducible exact ih1 _ _ _ _ _)
      | (with_reducible exact ih2 _ _ _ _ _ _ _)
      | (with_reducible exact ih3 _ _ _ _ _ _ _ _ _)
      | (with_reducible exact ih4 _ _ _ _ _ _ _ _ _ _)
      | (with_reducible exact calibrate_Broken.mono _ _)
      | (with_reducible exact calibrate_Chain.mono _ _ _ _)
      | (with_reducible exact calibrate_Due.mono _ _ _)
      | (with_reducible exact calibrate_Valid.mono _ _ _ _)
      | (with_reducible exact metrolablaw52_awake.mono _)
      | (with_reducible exact metrolablaw52_few.mono _ _ _)
      | (with_reducible exact metrolablaw52_own.mono _ _)
      | (with_reducible exact metrolabref52_Check.mono _ _)
      | (with_reducible exact slices_Contains_int_int.mono _ _ _)
      | (with_reducible exact slices_Contains_string_string.mono _ _ _)
      | (with_reducible exact slices_IsSorted_string_string.mono _ _)
      | (with_reducible exact LeO.refl _)
      | (with_reducible exact LeO.none _)
      | (with_reducible refine LeO.ite ?_ ?_)
      | (with_reducible refine LeO.bind ?_ (fun _ => ?_))
      | exact ih0 _ _ _
      | exact ih1 _ _ _ _ _
      | exact ih2 _ _ _ _ _ _ _
      | exact ih3 _ _ _ _ _ _ _ _ _
      | exact ih4 _ _ _ _ _ _ _ _ _ _
      | exact calibrate_Broken.mono _ _
      | exact calibrate_Chain.mono _ _ _ _
      | exact calibrate_Due.mono _ _ _
      | exact calibrate_Valid.mono _ _ _ _
      | exact metrolablaw52_awake.mono _
      | exact metrolablaw52_few.mono _ _ _
      | exact metrolablaw52_own.mono _ _
      | exact metrolabref52_Check.mono _ _
      | exact slices_Contains_int_int.mono _ _ _
      | exact slices_Contains_string_string.mono _ _ _
      | exact slices_IsSorted_string_string.mono _ _
      | exact LeO.none _
      | refine LeO.ite ?_ ?_
      | refine LeO.bind ?_ (fun _ => ?_)
    · intro y0 y1 y2 y3 y4 y5 y6 y7 y8 y9
      unfold metrolablaw52_CalibrateParts.l1
      repeat' first
      | (with_reducible exact ih0 _ _ _)
      | (with_reducible exact ih1 _ _ _ _ _)
      | (with_reducible exact ih2 _ _ _ _ _ _ _)
      | (with_reducible exact ih3 _ _ _ _ _ _ _ _ _)
      | (with_reducible exact ih4 _ _ _ _ _ _ _ _ _ _)
      | (with_reducible exact calibrate_Broken.mono _ _)
      | (with_reducible exact calibrate_Chain.mono _ _ _ _)
      | (with_reducible exact calibrate_Due.mono _ _ _)
      | (with_reducible exact calibrate_Valid.mono _ _ _ _)
      | (with_reducible exact metrolablaw52_awake.mono _)
      | (with_reducible exact metrolablaw52_few.mono _ _ _)
      | (with_reducible exact metrolablaw52_own.mono _ _)
      | (with_reducible exact metrolabref52_Check.mono _ _)
      | (with_reducible exact slices_Contains_int_int.mono _ _ _)
      | (with_reducible exact slices_Contains_string_string.mono _ _ _)
      | (with_reducible exact slices_IsSorted_string_string.mono _ _)
      | (with_reducible exact LeO.refl _)
      | (with_reducible exact LeO.none _)
      | (with_reducible refine LeO.ite ?_ ?_)
      | (with_reducible refine LeO.bind ?_ (fun _ => ?_))
      | exact ih0 _ _ _
      | exact ih1 _ _ _ _ _
      | exact ih2 _ _ _ _ _ _ _
      | exact ih3 _ _ _ _ _ _ _ _ _
      | exact ih4 _ _ _ _ _ _ _ _ _ _
      | exact calibrate_Broken.mono _ _
      | exact calibrate_Chain.mono _ _ _ _
      | exact calibrate_Due.mono _ _ _
      | exact calibrate_Valid.mono _ _ _ _
      | exact metrolablaw52_awake.mono _
      | exact metrolablaw52_few.mono _ _ _
      | exact metrolablaw52_own.mono _ _
      | exact metrolabref52_Check.mono _ _
      | exact slices_Contains_int_int.mono _ _ _
      | exact slices_Contains_string_string.mono _ _ _
      | exact slices_IsSorted_string_string.mono _ _
      | exact LeO.none _
      | refine LeO.ite ?_ ?_
      | refine LeO.bind ?_ (fun _ => ?_)
theorem metrolablaw52_CalibrateParts.mono : ∀ a0 a1 k, LeO (metrolablaw52_CalibrateParts.f k a0 a1) (metrolablaw52_CalibrateParts.f (k + 1) a0 a1) := by
  intro a0 a1 k
  obtain ⟨ih0, ih1, ih2, ih3, ih4⟩ := metrolablaw52_CalibrateParts.mono_l k
  unfold metrolablaw52_CalibrateParts.f
  repeat' first
      | (with_reducible exact ih0 _ _ _)
      | (with_reducible exact ih1 _ _ _ _ _)
      | (with_reducible exact ih2 _ _ _ _ _ _ _)
      | (with_reducible exact ih3 _ _ _ _ _ _ _ _ _)
      | (with_reducible exact ih4 _ _ _ _ _ _ _ _ _ _)
      | (with_reducible exact calibrate_Broken.mono _ _)
      | (with_reducible exact calibrate_Chain.mono _ _ _ _)
      | (with_reducible exact calibrate_Due.mono _ _ _)
      | (with_reducible exact calibrate_Valid.mono _ _ _ _)
      | (with_reducible exact metrolablaw52_awake.mono _)
      | (with_reducible exact metrolablaw52_few.mono _ _ _)
      | (with_reducible exact metrolablaw52_own.mono _ _)
      | (with_reducible exact metrolabref52_Check.mono _ _)
      | (with_reducible exact slices_Contains_int_int.mono _ _ _)
      | (with_reducible exact slices_Contains_string_string.mono _ _ _)
      | (with_reducible exact slices_IsSorted_string_string.mono _ _)
      | (with_reducible exact LeO.refl _)
      | (with_reducible exact LeO.none _)
      | (with_reducible refine LeO.ite ?_ ?_)
      | (with_reducible refine LeO.bind ?_ (fun _ => ?_))
      | exact ih0 _ _ _
      | exact ih1 _ _ _ _ _
      | exact ih2 _ _ _ _ _ _ _
      | exact ih3 _ _ _ _ _ _ _ _ _
      | exact ih4 _ _ _ _ _ _ _ _ _ _
      | exact calibrate_Broken.mono _ _
      | exact calibrate_Chain.mono _ _ _ _
      | exact calibrate_Due.mono _ _ _
      | exact calibrate_Valid.mono _ _ _ _
      | exact metrolablaw52_awake.mono _
      | exact metrolablaw52_few.mono _ _ _
      | exact metrolablaw52_own.mono _ _
      | exact metrolabref52_Check.mono _ _
      | exact slices_Contains_int_int.mono _ _ _
      | exact slices_Contains_string_string.mono _ _ _
      | exact slices_IsSorted_string_string.mono _ _
      | exact LeO.none _
      | refine LeO.ite ?_ ?_
      | refine LeO.bind ?_ (fun _ => ?_)
set_option maxHeartbeats 8000000 in
set_option maxRecDepth 100000 in
theorem metrolablaw52_CalibrateParts.calls (k : Nat) (A0 : Option Addr) (c0 : Nat) (l0 : List (S68)) (a1 : Int) (r : Bool) (w : World) (hr0 : Kd.C k68 w A0 l0.length l0) (hc0 : l0.length ≤ c0) (h : metrolablaw52_CalibrateParts.f k l0 a1 = some r) :
    Calls Try.prog 7 #[.slice A0 l0.length c0, .int .i64 a1] w fun e w' => e = .returned (.bool r) ∧ Below w.heap.size w w' := by
  have hu68 := Try.underlying68
  have HR0 := Aside0.mk hr0
  have HC0 := Aside0.mk hc0
  clear hr0 hc0
  have HB := Aside0.mk (Below.refl w.heap.size w)
  have H : ((metrolablaw52_few.f k l0 (⟨#[]⟩ : ByteArray)).bind fun t283 => (if t283 = true then ((metrolablaw52_own.f k l0).bind fun t284 => ((metrolabref52_Check.f k t284).bind fun t287 => (if t287 = 0 then ((metrolabref52_Day.f a1).bind fun t288 => (metrolablaw52_CalibrateParts.j0 k l0 a1 (t288 != 0))) else (metrolablaw52_CalibrateParts.j0 k l0 a1 true)))) else (metrolablaw52_CalibrateParts.j0 k l0 a1 true))) = some r := h
  clear h
  have HC3 := Aside0.mk H
  clear H
  go_enter Try.func7, Try.ntmps7
  go_upto_region 1 with (fail)
  go_cut [30] (fun v30 wc => ∃ (kq : Nat) (x30_2 : Bool), v30 = .bool x30_2 ∧ Aside0 (metrolablaw52_CalibrateParts.j0 kq l0 a1 x30_2 = some r) ∧ Aside0 (kq ≤ k) ∧ Aside0 (Below w.heap.size w wc))
  case first =>
    have H := HC3.out
    clear HC3
    replace H := Option.bind_eq_some_iff.mp H
    obtain ⟨t283, A40, H⟩ := H
    replace H : (if t283 = true then ((metrolablaw52_own.f k l0).bind fun t284 => ((metrolabref52_Check.f k t284).bind fun t287 => (if t287 = 0 then ((metrolabref52_Day.f a1).bind fun t288 => (metrolablaw52_CalibrateParts.j0 k l0 a1 (t288 != 0))) else (metrolablaw52_CalibrateParts.j0 k l0 a1 true)))) else (metrolablaw52_CalibrateParts.j0 k l0 a1 true)) = some r := H
    have A4 := Aside0.mk A40
    clear A40
    by_cases c5 : t283 = true
    · subst c5
      have H1 : ((metrolablaw52_own.f k l0).bind fun t284 => ((metrolabref52_Check.f k t284).bind fun t287 => (if t287 = 0 then ((metrolabref52_Day.f a1).bind fun t288 => (metrolablaw52_CalibrateParts.j0 k l0 a1 (t288 != 0))) else (metrolablaw52_CalibrateParts.j0 k l0 a1 true)))) = some r := by rw [if_pos rfl] at H; exact H
      clear H
      have H := H1
      clear H1
      replace H := Option.bind_eq_some_iff.mp H
      obtain ⟨t284, A60, H⟩ := H
      replace H : ((metrolabref52_Check.f k t284).bind fun t287 => (if t287 = 0 then ((metrolabref52_Day.f a1).bind fun t288 => (metrolablaw52_CalibrateParts.j0 k l0 a1 (t288 != 0))) else (metrolablaw52_CalibrateParts.j0 k l0 a1 true))) = some r := H
      have A6 := Aside0.mk A60
      clear A60
      replace H := Option.bind_eq_some_iff.mp H
      obtain ⟨t287, A70, H⟩ := H
      replace H : (if t287 = 0 then ((metrolabref52_Day.f a1).bind fun t288 => (metrolablaw52_CalibrateParts.j0 k l0 a1 (t288 != 0))) else (metrolablaw52_CalibrateParts.j0 k l0 a1 true)) = some r := H
      have A7 := Aside0.mk A70
      clear A70
      by_cases c8 : t287 = 0
      · rw [if_pos c8] at H
        have c8b0 : (t287 == 0) = true := beq_iff_eq.mpr c8
        have c8b1 : (t287 != 0) = false := bne_eq_false_iff_eq.mpr c8
        clear c8
        (first | rw [c8b0] | (simp only [i64_w, i32_w]; rw [c8b0]) | (rw [c8b2]; try simp only [Bool.not_true, Bool.not_false]) | skip)
        replace H := Option.bind_eq_some_iff.mp H
        obtain ⟨t288, A90, H⟩ := H
        replace H : (metrolablaw52_CalibrateParts.j0 k l0 a1 (t288 != 0)) = some r := H
        have A9 := Aside0.mk A90
        clear A90
        have H' := Aside0.mk H
        clear H
        go_wp2_with (first | ((with_reducible refine gate_callee (f := 32) rfl ?_); refine goesL_ (some 18) rfl rfl Try.func32 (by kernel_rfl) rfl #[.slice A0 l0.length c0, .string (⟨#[]⟩ : ByteArray)] rfl (by (try simp only [List.map_toArray, List.map_cons, List.map_nil]); first | done | rfl | (simp only [List.length_drop, List.length_take]; rfl)) ?_; (with_reducible refine (metrolablaw52_few.calls k _ _ l0 (⟨#[]⟩ : ByteArray) true _ ?side1 ?side2 A4.out).mono ?_); (case side1 => repeat (first | exact (Kd.C_below HR0.out HB.out) | (with_reducible refine Kd.C_alloc ?_ _) | (with_reducible refine Kd.C_drewN ?_ _) | (with_reducible refine Kd.C_drew ?_))); (case side2 => exact HC0.out); rintro e w10 ⟨rfl, hb⟩; refine ⟨_, rfl, ?_⟩; have n0_ := Aside0.mk (below_step (by repeat (first | (with_reducible first | exact HB.out | apply below_alloc | apply pw_below_drewN | apply below_drew1) | exact HB.out)) hb); clear HB; have HB := n0_; clear n0_; (try clear hb); (try clear hb2); (try clear hk); (try clear hi)) | (go_at_call 37; (with_reducible refine (metrolablaw52_own.calls k _ _ l0 t284 _ ?side1 ?side2 A6.out).mono ?_); (case side1 => repeat (first | exact (Kd.C_below HR0.out HB.out) | (with_reducible refine Kd.C_alloc ?_ _) | (with_reducible refine Kd.C_drewN ?_ _) | (with_reducible refine Kd.C_drew ?_))); (case side2 => exact HC0.out); rintro e w11 ⟨v285, rfl, ho0, hb⟩; have n0_ := Aside0.mk (Kd.R_lower ho0 (below_size (by repeat (first | (with_reducible first | exact HB.out | apply below_alloc | apply pw_below_drewN | apply below_drew1) | exact HB.out)))); have n1_ := Aside0.mk (below_step (by repeat (first | (with_reducible first | exact HB.out | apply below_alloc | apply pw_below_drewN | apply below_drew1) | exact HB.out)) hb); clear HB; have HO286 := n0_; have HB := n1_; clear n0_ n1_; (try clear hb); (try clear hb2); (try clear hk); (try clear hi); (try clear ho0); obtain ⟨Ao12, co12, eo12⟩ := Kd.R_slice HO286.out; subst eo12) | (go_at_call 36; (with_reducible refine (metrolabref52_Check.calls k _ _ t284 t287 _ ?side1 ?side2 A7.out).mono ?_); (case side1 => repeat (first | exact (Kd.R_reads' HO286.out).2.2 | (with_reducible refine Kd.C_alloc ?_ _) | (with_reducible refine Kd.C_drewN ?_ _) | (with_reducible refine Kd.C_drew ?_))); (case side2 => exact (Kd.R_reads' HO286.out).2.1); rintro e w13 ⟨rfl, hb⟩; have n0_ := Aside0.mk (Kd.R_below (by (with_reducible repeat (first | apply Kd.R_alloc | apply Kd.R_drewN | apply Kd.R_drew)); exact HO286.out) hb); have n1_ := Aside0.mk (below_step (by repeat (first | (with_reducible first | exact HB.out | apply below_alloc | apply pw_below_drewN | apply below_drew1) | exact HB.out)) hb); clear HO286; clear HB; have HO286 := n0_; have HB := n1_; clear n0_ n1_; (try clear hb); (try clear hb2); (try clear hk); (try clear hi)) | (go_at_call 38; (with_reducible refine (metrolabref52_Day.calls a1 t288 _ A9.out).mono ?_); rintro e w' ⟨rfl, ⟨nd, rfl⟩⟩))
        go_meet
        case rel => exact ⟨_, ((t288 != 0)), (by first | rfl | (simp; done) | (simp [*]; done)), H', ⟨by first | omega | exact Nat.le_refl _⟩, ⟨by repeat (first | (with_reducible first | exact HB.out | apply below_alloc | apply pw_below_drewN | apply below_drew1) | exact HB.out)⟩⟩
      · rw [if_neg c8] at H
        have c8b0 : (t287 == 0) = false := beq_eq_false_iff_ne.mpr c8
        have c8b1 : (t287 != 0) = true := bne_iff_ne.mpr c8
        (first | rw [c8b0] | (simp only [i64_w, i32_w]; rw [c8b0]) | (rw [c8b2]; try simp only [Bool.not_true, Bool.not_false]) | skip)
        have H' := Aside0.mk H
        clear H
        go_wp2_with (first | ((with_reducible refine gate_callee (f := 32) rfl ?_); refine goesL_ (some 18) rfl rfl Try.func32 (by kernel_rfl) rfl #[.slice A0 l0.length c0, .string (⟨#[]⟩ : ByteArray)] rfl (by (try simp only [List.map_toArray, List.map_cons, List.map_nil]); first | done | rfl | (simp only [List.length_drop, List.length_take]; rfl)) ?_; (with_reducible refine (metrolablaw52_few.calls k _ _ l0 (⟨#[]⟩ : ByteArray) true _ ?side1 ?side2 A4.out).mono ?_); (case side1 => repeat (first | exact (Kd.C_below HR0.out HB.out) | (with_reducible refine Kd.C_alloc ?_ _) | (with_reducible refine Kd.C_drewN ?_ _) | (with_reducible refine Kd.C_drew ?_))); (case side2 => exact HC0.out); rintro e w14 ⟨rfl, hb⟩; refine ⟨_, rfl, ?_⟩; have n0_ := Aside0.mk (below_step (by repeat (first | (with_reducible first | exact HB.out | apply below_alloc | apply pw_below_drewN | apply below_drew1) | exact HB.out)) hb); clear HB; have HB := n0_; clear n0_; (try clear hb); (try clear hb2); (try clear hk); (try clear hi)) | (go_at_call 37; (with_reducible refine (metrolablaw52_own.calls k _ _ l0 t284 _ ?side1 ?side2 A6.out).mono ?_); (case side1 => repeat (first | exact (Kd.C_below HR0.out HB.out) | (with_reducible refine Kd.C_alloc ?_ _) | (with_reducible refine Kd.C_drewN ?_ _) | (with_reducible refine Kd.C_drew ?_))); (case side2 => exact HC0.out); rintro e w15 ⟨v285, rfl, ho0, hb⟩; have n0_ := Aside0.mk (Kd.R_lower ho0 (below_size (by repeat (first | (with_reducible first | exact HB.out | apply below_alloc | apply pw_below_drewN | apply below_drew1) | exact HB.out)))); have n1_ := Aside0.mk (below_step (by repeat (first | (with_reducible first | exact HB.out | apply below_alloc | apply pw_below_drewN | apply below_drew1) | exact HB.out)) hb); clear HB; have HO286 := n0_; have HB := n1_; clear n0_ n1_; (try clear hb); (try clear hb2); (try clear hk); (try clear hi); (try clear ho0); obtain ⟨Ao16, co16, eo16⟩ := Kd.R_slice HO286.out; subst eo16) | (go_at_call 36; (with_reducible refine (metrolabref52_Check.calls k _ _ t284 t287 _ ?side1 ?side2 A7.out).mono ?_); (case side1 => repeat (first | exact (Kd.R_reads' HO286.out).2.2 | (with_reducible refine Kd.C_alloc ?_ _) | (with_reducible refine Kd.C_drewN ?_ _) | (with_reducible refine Kd.C_drew ?_))); (case side2 => exact (Kd.R_reads' HO286.out).2.1); rintro e w17 ⟨rfl, hb⟩; have n0_ := Aside0.mk (Kd.R_below (by (with_reducible repeat (first | apply Kd.R_alloc | apply Kd.R_drewN | apply Kd.R_drew)); exact HO286.out) hb); have n1_ := Aside0.mk (below_step (by repeat (first | (with_reducible first | exact HB.out | apply below_alloc | apply pw_below_drewN | apply below_drew1) | exact HB.out)) hb); clear HO286; clear HB; have HO286 := n0_; have HB := n1_; clear n0_ n1_; (try clear hb); (try clear hb2); (try clear hk); (try clear hi)))
        go_meet
        case rel => exact ⟨_, (true), (by first | rfl | (simp; done) | (simp [*]; done)), H', ⟨by first | omega | exact Nat.le_refl _⟩, ⟨by repeat (first | (with_reducible first | exact HB.out | apply below_alloc | apply pw_below_drewN | apply below_drew1) | exact HB.out)⟩⟩
    · replace c5 := Bool.eq_false_iff.mpr c5
      subst c5
      have H1 : (metrolablaw52_CalibrateParts.j0 k l0 a1 true) = some r := by rw [if_neg (show ¬ (false = true) by decide)] at H; exact H
      clear H
      have H := H1
      clear H1
      have H' := Aside0.mk H
      clear H
      go_wp2_with (first | ((with_reducible refine gate_callee (f := 32) rfl ?_); refine goesL_ (some 18) rfl rfl Try.func32 (by kernel_rfl) rfl #[.slice A0 l0.length c0, .string (⟨#[]⟩ : ByteArray)] rfl (by (try simp only [List.map_toArray, List.map_cons, List.map_nil]); first | done | rfl | (simp only [List.length_drop, List.length_take]; rfl)) ?_; (with_reducible refine (metrolablaw52_few.calls k _ _ l0 (⟨#[]⟩ : ByteArray) false _ ?side1 ?side2 A4.out).mono ?_); (case side1 => repeat (first | exact (Kd.C_below HR0.out HB.out) | (with_reducible refine Kd.C_alloc ?_ _) | (with_reducible refine Kd.C_drewN ?_ _) | (with_reducible refine Kd.C_drew ?_))); (case side2 => exact HC0.out); rintro e w18 ⟨rfl, hb⟩; refine ⟨_, rfl, ?_⟩; have n0_ := Aside0.mk (below_step (by repeat (first | (with_reducible first | exact HB.out | apply below_alloc | apply pw_below_drewN | apply below_drew1) | exact HB.out)) hb); clear HB; have HB := n0_; clear n0_; (try clear hb); (try clear hb2); (try clear hk); (try clear hi)))
      go_meet
      case rel => exact ⟨_, (true), (by first | rfl | (simp; done) | (simp [*]; done)), H', ⟨by first | omega | exact Nat.le_refl _⟩, ⟨by repeat (first | (with_reducible first | exact HB.out | apply below_alloc | apply pw_below_drewN | apply below_drew1) | exact HB.out)⟩⟩
  case rest =>
    clear HC3
    try clear p2
    try clear c3
    try clear c5
    try clear c7
    try clear c8
    try clear c8b0
    try clear c8b1
    try clear c8b2
    obtain ⟨kq, x30_2, rfl, HA, HJ2, HB⟩ := hcut
    cases kq with
    | zero => exact absurd HA.out (by simp [metrolablaw52_CalibrateParts.j0])
    | succ kj2 =>
      have H := HA.out
      clear HA
      simp only [metrolablaw52_CalibrateParts.j0] at H
      by_cases c19 : x30_2 = true
      · subst c19
        have H1 : ((metrolablaw52_awake.f kj2).bind fun t289 => (some t289)) = some r := by rw [if_pos rfl] at H; exact H
        clear H
        have H := H1
        clear H1
        replace H := Option.bind_eq_some_iff.mp H
        obtain ⟨t289, A200, H⟩ := H
        replace H : (some t289) = some r := H
        have A20 := Aside0.mk A200
        clear A200
        obtain rfl := Option.some.inj H
        go_wp2_with (first | ((with_reducible refine gate_callee (f := 34) rfl ?_); refine goesL_ (some 31) rfl rfl Try.func34 (by kernel_rfl) rfl #[] rfl (by (try simp only [List.map_toArray, List.map_cons, List.map_nil]); first | done | rfl | (simp only [List.length_drop, List.length_take]; rfl)) ?_; (with_reducible refine (metrolablaw52_awake.calls kj2  t289 _ A20.out).mono ?_); rintro e w21 ⟨rfl, hb⟩; refine ⟨_, rfl, ?_⟩; have n0_ := Aside0.mk (below_step (by repeat (first | (with_reducible first | exact HB.out | apply below_alloc | apply pw_below_drewN | apply below_drew1) | exact HB.out)) hb); clear HB; have HB := n0_; clear n0_; (try clear hb); (try clear hb2); (try clear hk); (try clear hi)))
        go_ret
        exact ⟨by first | rfl | (simp [errW_none, errW_some] <;> rfl) | (simp [*, errW_none, errW_some] <;> rfl), by repeat (first | (with_reducible first | exact HB.out | apply below_alloc | apply pw_below_drewN | apply below_drew1) | exact HB.out)⟩
      · replace c19 := Bool.eq_false_iff.mpr c19
        subst c19
        have H1 : ((calibrate_Due.f kj2 l0 a1).bind fun bt290 => ((calibrate_Broken.f kj2 l0).bind fun bt294 => (if (wrap64 (bt290.2 + bt294.2)) = 0 then ((slices_IsSorted_string_string.f kj2 bt290.1).bind fun t298 => (metrolablaw52_CalibrateParts.j1 kj2 l0 a1 bt290.1 bt294.1 (!t298))) else (metrolablaw52_CalibrateParts.j1 kj2 l0 a1 bt290.1 bt294.1 true)))) = some r := by rw [if_neg (show ¬ (false = true) by decide)] at H; exact H
        clear H
        have H := H1
        clear H1
        replace H := Option.bind_eq_some_iff.mp H
        obtain ⟨⟨t290, t291⟩, A220, H⟩ := H
        replace H : ((calibrate_Broken.f kj2 l0).bind fun bt294 => (if (wrap64 (t291 + bt294.2)) = 0 then ((slices_IsSorted_string_string.f kj2 t290).bind fun t298 => (metrolablaw52_CalibrateParts.j1 kj2 l0 a1 t290 bt294.1 (!t298))) else (metrolablaw52_CalibrateParts.j1 kj2 l0 a1 t290 bt294.1 true))) = some r := H
        have A22 := Aside0.mk A220
        clear A220
        replace H := Option.bind_eq_some_iff.mp H
        obtain ⟨⟨t294, t295⟩, A230, H⟩ := H
        replace H : (if (wrap64 (t291 + t295)) = 0 then ((slices_IsSorted_string_string.f kj2 t290).bind fun t298 => (metrolablaw52_CalibrateParts.j1 kj2 l0 a1 t290 t294 (!t298))) else (metrolablaw52_CalibrateParts.j1 kj2 l0 a1 t290 t294 true)) = some r := H
        have A23 := Aside0.mk A230
        clear A230
        have HC24 := Aside0.mk H
        clear H
        go_upto_region 5 with (first | ((with_reducible refine gate_callee (f := 39) rfl ?_); refine goesL_ (some 35) rfl rfl Try.func39 (by kernel_rfl) rfl #[.slice A0 l0.length c0, .int .i64 a1] rfl (by (try simp only [List.map_toArray, List.map_cons, List.map_nil]); first | done | rfl | (simp only [List.length_drop, List.length_take]; rfl)) ?_; (with_reducible refine (calibrate_Due.calls kj2 _ _ l0 a1 t290 t291 _ ?side1 ?side2 A22.out).mono ?_); (case side1 => repeat (first | exact (Kd.C_below HR0.out HB.out) | (with_reducible refine Kd.C_alloc ?_ _) | (with_reducible refine Kd.C_drewN ?_ _) | (with_reducible refine Kd.C_drew ?_))); (case side2 => exact HC0.out); rintro e w25 ⟨v292, rfl, ho0, hb⟩; refine ⟨_, rfl, ?_⟩; have n0_ := Aside0.mk (Kd.R_lower ho0 (below_size (by repeat (first | (with_reducible first | exact HB.out | apply below_alloc | apply pw_below_drewN | apply below_drew1) | exact HB.out)))); have n1_ := Aside0.mk (below_step (by repeat (first | (with_reducible first | exact HB.out | apply below_alloc | apply pw_below_drewN | apply below_drew1) | exact HB.out)) hb); clear HB; have HO293 := n0_; have HB := n1_; clear n0_ n1_; (try clear hb); (try clear hb2); (try clear hk); (try clear hi); (try clear ho0)) | ((with_reducible refine gate_callee (f := 40) rfl ?_); refine goesL_ (some 40) rfl rfl Try.func40 (by kernel_rfl) rfl #[.slice A0 l0.length c0] rfl (by (try simp only [List.map_toArray, List.map_cons, List.map_nil]); first | done | rfl | (simp only [List.length_drop, List.length_take]; rfl)) ?_; (with_reducible refine (calibrate_Broken.calls kj2 _ _ l0 t294 t295 _ ?side1 ?side2 A23.out).mono ?_); (case side1 => repeat (first | exact (Kd.C_below HR0.out HB.out) | (with_reducible refine Kd.C_alloc ?_ _) | (with_reducible refine Kd.C_drewN ?_ _) | (with_reducible refine Kd.C_drew ?_))); (case side2 => exact HC0.out); rintro e w26 ⟨v296, rfl, ho0, hb⟩; refine ⟨_, rfl, ?_⟩; have n0_ := Aside0.mk (Kd.R_below (by (with_reducible repeat (first | apply Kd.R_alloc | apply Kd.R_drewN | apply Kd.R_drew)); exact HO293.out) hb); have n1_ := Aside0.mk (Kd.R_lower ho0 (below_size (by repeat (first | (with_reducible first | exact HB.out | apply below_alloc | apply pw_below_drewN | apply below_drew1) | exact HB.out)))); have n2_ := Aside0.mk (below_step (by repeat (first | (with_reducible first | exact HB.out | apply below_alloc | apply pw_below_drewN | apply below_drew1) | exact HB.out)) hb); clear HO293; clear HB; have HO293 := n0_; have HO297 := n1_; have HB := n2_; clear n0_ n1_ n2_; (try clear hb); (try clear hb2); (try clear hk); (try clear hi); (try clear ho0)))
        (try simp only [Act.put, List.setIfInBounds_toArray, List.set_cons_zero, List.set_cons_succ])
        go_cut [51] (fun v51 wc => ∃ (kq : Nat) (x51_23 : Bool), v51 = .bool x51_23 ∧ Aside0 (metrolablaw52_CalibrateParts.j1 kq l0 a1 t290 t294 x51_23 = some r) ∧ Aside0 (kq ≤ kj2) ∧ Aside0 (Kd.R Kd.string 9 wc w.heap.size (fun _ => True) v292 t290) ∧ Aside0 (Kd.R (Kd.int .i64) 3 wc w.heap.size (fun _ => True) v296 t294) ∧ Aside0 (Below w.heap.size w wc))
        case first =>
          have H := HC24.out
          clear HC24
          by_cases c27 : (wrap64 (t291 + t295)) = 0
          · rw [if_pos c27] at H
            have c27b0 : ((wrap64 (t291 + t295)) == 0) = true := beq_iff_eq.mpr c27
            have c27b1 : ((wrap64 (t291 + t295)) != 0) = false := bne_eq_false_iff_eq.mpr c27
            clear c27
            (first | rw [c27b0] | (simp only [i64_w, i32_w]; rw [c27b0]) | (rw [c27b2]; try simp only [Bool.not_true, Bool.not_false]) | skip)
            replace H := Option.bind_eq_some_iff.mp H
            obtain ⟨t298, A280, H⟩ := H
            replace H : (metrolablaw52_CalibrateParts.j1 kj2 l0 a1 t290 t294 (!t298)) = some r := H
            have A28 := Aside0.mk A280
            clear A280
            have H' := Aside0.mk H
            clear H
            obtain ⟨Ao29, co29, eo29⟩ := Kd.R_slice HO293.out
            subst eo29
            go_wp2_with (first | (go_at_call 41; (with_reducible refine (slices_IsSorted_string_string.calls kj2 _ _ t290 t298 _ ?side1 ?side2 A28.out).mono ?_); (case side1 => repeat (first | exact (Kd.R_reads' HO293.out).2.2 | (with_reducible refine Kd.C_alloc ?_ _) | (with_reducible refine Kd.C_drewN ?_ _) | (with_reducible refine Kd.C_drew ?_))); (case side2 => exact (Kd.R_reads' HO293.out).2.1); rintro e w' ⟨rfl, ⟨nd, rfl⟩⟩))
            go_meet
            case rel => exact ⟨_, (!t298), (by first | rfl | (simp; done) | (simp [*]; done)), H', ⟨by have := HJ2.out; first | omega | exact Nat.le_refl _⟩, ⟨by (with_reducible repeat (first | apply Kd.R_alloc | apply Kd.R_drewN | apply Kd.R_drew)); exact HO293.out⟩, ⟨by (with_reducible repeat (first | apply Kd.R_alloc | apply Kd.R_drewN | apply Kd.R_drew)); exact HO297.out⟩, ⟨by repeat (first | (with_reducible first | exact HB.out | apply below_alloc | apply pw_below_drewN | apply below_drew1) | exact HB.out)⟩⟩
          · rw [if_neg c27] at H
            have c27b0 : ((wrap64 (t291 + t295)) == 0) = false := beq_eq_false_iff_ne.mpr c27
            have c27b1 : ((wrap64 (t291 + t295)) != 0) = true := bne_iff_ne.mpr c27
            (first | rw [c27b0] | (simp only [i64_w, i32_w]; rw [c27b0]) | (rw [c27b2]; try simp only [Bool.not_true, Bool.not_false]) | skip)
            have H' := Aside0.mk H
            clear H
            go_wp2
            go_meet
            case rel => exact ⟨_, (true), (by first | rfl | (simp; done) | (simp [*]; done)), H', ⟨by have := HJ2.out; first | omega | exact Nat.le_refl _⟩, ⟨by (with_reducible repeat (first | apply Kd.R_alloc | apply Kd.R_drewN | apply Kd.R_drew)); exact HO293.out⟩, ⟨by (with_reducible repeat (first | apply Kd.R_alloc | apply Kd.R_drewN | apply Kd.R_drew)); exact HO297.out⟩, ⟨by repeat (first | (with_reducible first | exact HB.out | apply below_alloc | apply pw_below_drewN | apply below_drew1) | exact HB.out)⟩⟩
        case rest =>
          clear HC24
          try clear c1
          try clear c2
          try clear p2
          try clear c3
          try clear c4
          try clear c5
          try clear p6
          try clear c7
          try clear c8
          try clear c8b0
          try clear c8b1
          try clear c8b2
          try clear c19
          try clear c27
          try clear c27b0
          try clear c27b1
          try clear c27b2
          try clear p2
          obtain ⟨kq, x51_23, rfl, HA, HJ23, HO_5, HO_7, HB⟩ := hcut
          cases kq with
          | zero => exact absurd HA.out (by simp [metrolablaw52_CalibrateParts.j1])
          | succ kj23 =>
            have H := HA.out
            clear HA
            simp only [metrolablaw52_CalibrateParts.j1] at H
            by_cases c30 : x51_23 = true
            · subst c30
              have H1 : (some false) = some r := by rw [if_pos rfl] at H; exact H
              clear H
              have H := H1
              clear H1
              obtain rfl := Option.some.inj H
              go_wp2
              go_ret
              exact ⟨by first | rfl | (simp [errW_none, errW_some] <;> rfl) | (simp [*, errW_none, errW_some] <;> rfl), by repeat (first | (with_reducible first | exact HB.out | apply below_alloc | apply pw_below_drewN | apply below_drew1) | exact HB.out)⟩
            · replace c30 := Bool.eq_false_iff.mpr c30
              subst c30
              have H1 : (metrolablaw52_CalibrateParts.l0 kj23 l0 a1 t290 t294 l0 (l0.length : Int) 0) = some r := by rw [if_neg (show ¬ (false = true) by decide)] at H; exact H
              clear H
              have H := H1
              clear H1
              have H' := Aside0.mk H
              clear H
              go_wp2
              go_loopg [54] kj23 (fun kq v54 w' => ∃ (x54_3 : Int), v54 = .int .i64 x54_3 ∧ Aside0 (metrolablaw52_CalibrateParts.l0 kq l0 a1 t290 t294 l0 (l0.length : Int) x54_3 = some r) ∧ Aside0 (kq ≤ kj23) ∧ Aside0 (Kd.R Kd.string 9 w' w.heap.size (fun _ => True) v292 t290) ∧ Aside0 (Kd.R (Kd.int .i64) 3 w' w.heap.size (fun _ => True) v296 t294) ∧ Aside0 (Below w.heap.size w w'))
              case atStart => exact ⟨(0), (by first | rfl | (simp; done) | (simp [*]; done)), H', ⟨Nat.le_refl _⟩, ⟨by (with_reducible repeat (first | apply Kd.R_alloc | apply Kd.R_drewN | apply Kd.R_drew)); exact HO_5.out⟩, ⟨by (with_reducible repeat (first | apply Kd.R_alloc | apply Kd.R_drewN | apply Kd.R_drew)); exact HO_7.out⟩, ⟨by repeat (first | (with_reducible first | exact HB.out | apply below_alloc | apply pw_below_drewN | apply below_drew1) | exact HB.out)⟩⟩
              case round =>
                clear H'
                try clear c1
                try clear c2
                try clear p2
                try clear c3
                try clear c4
                try clear c5
                try clear p6
                try clear c7
                try clear c8
                try clear c8b0
                try clear c8b1
                try clear c8b2
                try clear c19
                try clear c27
                try clear c27b0
                try clear c27b1
                try clear c27b2
                try clear c30
                try clear p2
                try clear p6
                obtain ⟨x54_3, rfl, HA, HK3, HO_5, HO_7, HB⟩ := hrel
                cases gk with
                | zero => exact absurd HA.out (by simp [metrolablaw52_CalibrateParts.l0])
                | succ k3 =>
                  have H := HA.out
                  clear HA
                  simp only [metrolablaw52_CalibrateParts.l0] at H
                  by_cases c31 : x54_3 < (l0.length : Int)
                  · rw [if_pos c31] at H
                    have c31b0 : decide (x54_3 < (l0.length : Int)) = true := decide_eq_true c31
                    clear c31
                    by_cases c32 : 0 ≤ x54_3
                    · rw [if_pos c32] at H
                      have c32b0 : decide (0 ≤ x54_3) = true := decide_eq_true c32
                      clear c32
                      by_cases c33 : x54_3 < (l0.length : Int)
                      · rw [if_pos c33] at H
                        have c33b0 : decide (x54_3 < (l0.length : Int)) = true := decide_eq_true c33
                        clear c33
                        replace H := Option.bind_eq_some_iff.mp H
                        obtain ⟨⟨t302, t303⟩, A340, H⟩ := H
                        replace H : ((slices_Contains_string_string.f k3 t290 ((rd_T68 l0 x54_3).f0)).bind fun t304 => (if ((t303 != 0) != t304) = true then (some false) else ((calibrate_Chain.f k3 l0 ((rd_T68 l0 x54_3).f0) ((rd_T68 l0 x54_3).f4)).bind fun bt305 => ((slices_Contains_int_int.f k3 t294 x54_3).bind fun t309 => (if ((bt305.2 != 0) != t309) = true then (metrolablaw52_CalibrateParts.j3 k3 l0 a1 t290 t294 bt305.1 l0 (l0.length : Int) x54_3 true) else (if bt305.2 = 0 then (if (bt305.1.length : Int) = 0 then (metrolablaw52_CalibrateParts.j3 k3 l0 a1 t290 t294 bt305.1 l0 (l0.length : Int) x54_3 true) else (if 0 < (bt305.1.length : Int) then (metrolablaw52_CalibrateParts.j3 k3 l0 a1 t290 t294 bt305.1 l0 (l0.length : Int) x54_3 ((rd bt305.1 0) != x54_3)) else (none))) else (metrolablaw52_CalibrateParts.j3 k3 l0 a1 t290 t294 bt305.1 l0 (l0.length : Int) x54_3 false))))))) = some r := H
                        have A34 := Aside0.mk A340
                        clear A340
                        replace H := Option.bind_eq_some_iff.mp H
                        obtain ⟨t304, A350, H⟩ := H
                        replace H : (if ((t303 != 0) != t304) = true then (some false) else ((calibrate_Chain.f k3 l0 ((rd_T68 l0 x54_3).f0) ((rd_T68 l0 x54_3).f4)).bind fun bt305 => ((slices_Contains_int_int.f k3 t294 x54_3).bind fun t309 => (if ((bt305.2 != 0) != t309) = true then (metrolablaw52_CalibrateParts.j3 k3 l0 a1 t290 t294 bt305.1 l0 (l0.length : Int) x54_3 true) else (if bt305.2 = 0 then (if (bt305.1.length : Int) = 0 then (metrolablaw52_CalibrateParts.j3 k3 l0 a1 t290 t294 bt305.1 l0 (l0.length : Int) x54_3 true) else (if 0 < (bt305.1.length : Int) then (metrolablaw52_CalibrateParts.j3 k3 l0 a1 t290 t294 bt305.1 l0 (l0.length : Int) x54_3 ((rd bt305.1 0) != x54_3)) else (none))) else (metrolablaw52_CalibrateParts.j3 k3 l0 a1 t290 t294 bt305.1 l0 (l0.length : Int) x54_3 false)))))) = some r := H
                        have A35 := Aside0.mk A350
                        clear A350
                        by_cases c36 : ((t303 != 0) != t304) = true
                        · rw [if_pos c36] at H
                          have c36b0 : ((t303 != 0) != t304) = true := c36
                          (try (have c36b1 : decide ((t303 != 0) = t304) = false := by simpa using c36))
                          (try (have c36b2 : ((t303 != 0) == t304) = false := by simpa using c36))
                          (try (have c36b3 : ¬ ((t303 != 0) = t304) := by simpa using c36))
                          (try (have c36b4 : t304 = !((t303 != 0)) := by revert c36; generalize (t303 != 0) = p_; generalize t304 = q_; cases p_ <;> cases q_ <;> decide))
                          clear c36
                          obtain rfl := Option.some.inj H
                          have p300 : 0 ≤ (x54_3 : Int) := of_decide_eq_true (by first | (with_reducible assumption) | assumption)
                          have q300 : x54_3 < (l0.length : Int) := of_decide_eq_true (by first | (with_reducible assumption) | assumption)
                          obtain ⟨ad300, e300, hx300_0, hx300_1, hx300_2, hx300_3, hx300_4, hx300_5⟩ := at_T68 HR0.out x54_3 p300 q300
                          cases e300
                          replace hx300_0 := (HB.out.cell (World.block_lt_of_cell? w _ hx300_0)).trans hx300_0
                          replace hx300_1 := (HB.out.cell (World.block_lt_of_cell? w _ hx300_1)).trans hx300_1
                          replace hx300_2 := (HB.out.cell (World.block_lt_of_cell? w _ hx300_2)).trans hx300_2
                          replace hx300_3 := (HB.out.cell (World.block_lt_of_cell? w _ hx300_3)).trans hx300_3
                          replace hx300_4 := (HB.out.cell (World.block_lt_of_cell? w _ hx300_4)).trans hx300_4
                          replace hx300_5 := (HB.out.cell (World.block_lt_of_cell? w _ hx300_5)).trans hx300_5
                          replace p300 := eq_true p300
                          replace q300 := eq_true q300
                          go_wp2_with (first | ((with_reducible refine gate_dst (N := 10) rfl ?_); (try (refine gate_guard (by rfl) ?_; dsimp only)); refine box_event ?hg (N := 10) ?hd (cs := #[.string (⟨#[]⟩ : ByteArray), .string (⟨#[]⟩ : ByteArray), .int .i64 0, .int .i64 0, .int .i64 0, .int .i64 0]) (t := 68) ?hr ?_; (case hd => rfl); (case hg => rfl); (case hr => first | (go_simp; done) | (go_simp; rfl)); intro gb301 hg w37 hbox hb; have n0_ := Aside0.mk (Kd.R_below (by (with_reducible repeat (first | apply Kd.R_alloc | apply Kd.R_drewN | apply Kd.R_drew)); exact HO_5.out) hb); have n1_ := Aside0.mk (Kd.R_below (by (with_reducible repeat (first | apply Kd.R_alloc | apply Kd.R_drewN | apply Kd.R_drew)); exact HO_7.out) hb); have n2_ := Aside0.mk (below_step (by repeat (first | (with_reducible first | exact HB.out | apply below_alloc | apply pw_below_drewN | apply below_drew1) | exact HB.out)) hb); have n3_ := Aside0.mk (hbox); have n4_ := Aside0.mk ((by rw [hg]; exact (below_size (by repeat (first | (with_reducible first | exact HB.out | apply below_alloc | apply pw_below_drewN | apply below_drew1) | exact HB.out))) : w.heap.size ≤ gb301)); have n5_ := Aside0.mk ((by rw [hg]; exact (below_size (by repeat (first | (with_reducible first | exact HB.out | apply below_alloc | apply pw_below_drewN | apply below_drew1) | exact HB.out))) : w.heap.size ≤ gb301)); clear HO_5; clear HO_7; clear HB; have HO_5 := n0_; have HO_7 := n1_; have HB := n2_; have BK301 := n3_; have GW301 := n4_; have GE301 := n5_; clear n0_ n1_ n2_ n3_ n4_ n5_; clear hb hbox hg; have hcz38_0 : w37.cell? ⟨gb301, 0, none⟩ = some (.string (⟨#[]⟩ : ByteArray)) := (blk_cell BK301.out 0).trans rfl; have hcz38_1 : w37.cell? ⟨gb301, 1, none⟩ = some (.string (⟨#[]⟩ : ByteArray)) := (blk_cell BK301.out 1).trans rfl; have hcz38_2 : w37.cell? ⟨gb301, 2, none⟩ = some (.int .i64 0) := (blk_cell BK301.out 2).trans rfl; have hcz38_3 : w37.cell? ⟨gb301, 3, none⟩ = some (.int .i64 0) := (blk_cell BK301.out 3).trans rfl; have hcz38_4 : w37.cell? ⟨gb301, 4, none⟩ = some (.int .i64 0) := (blk_cell BK301.out 4).trans rfl; have hcz38_5 : w37.cell? ⟨gb301, 5, none⟩ = some (.int .i64 0) := (blk_cell BK301.out 5).trans rfl; have hfz38_0 := blk_frozen BK301.out 0; have hfz38_1 := blk_frozen BK301.out 1; have hfz38_2 := blk_frozen BK301.out 2; have hfz38_3 := blk_frozen BK301.out 3; have hfz38_4 := blk_frozen BK301.out 4; have hfz38_5 := blk_frozen BK301.out 5) | ((with_reducible refine gate_callee (f := 42) rfl ?_); refine goesL_ (some 64) rfl rfl Try.func42 (by kernel_rfl) rfl #[.slice (some ad300) l0.length c0, .string ((rd_T68 l0 x54_3).f0), .int .i64 a1] rfl (by (try simp only [List.map_toArray, List.map_cons, List.map_nil]); first | done | rfl | (simp only [List.length_drop, List.length_take]; rfl)) ?_; (with_reducible refine (calibrate_Valid.calls k3 _ _ l0 ((rd_T68 l0 x54_3).f0) a1 t302 t303 _ ?side1 ?side2 A34.out).mono ?_); (case side1 => exact Kd.C_below HR0.out (by repeat (first | (with_reducible first | exact HB.out | apply below_alloc | apply pw_below_drewN | apply below_drew1 | refine below_set ?_ GE301.out) | exact HB.out))); (case side2 => exact HC0.out); rintro e w39 ⟨rfl, hb⟩; refine ⟨_, rfl, ?_⟩; have n0_ := Aside0.mk (Kd.R_below (by (with_reducible repeat (first | apply Kd.R_alloc | apply Kd.R_drewN | apply Kd.R_drew)); exact (Kd.R_mono (Kd.R_far (p := ⟨gb301, 5, none⟩) (Kd.R_far (p := ⟨gb301, 4, none⟩) (Kd.R_far (p := ⟨gb301, 3, none⟩) (Kd.R_far (p := ⟨gb301, 2, none⟩) (Kd.R_far (p := ⟨gb301, 1, none⟩) (Kd.R_far (p := ⟨gb301, 0, none⟩) (Kd.R_types HO_5.out BK301.out (by decide)) (fun _ hk => hk.2) (.string ((rd_T68 l0 x54_3).f0))) (fun _ hk => hk.2) (.string ((rd_T68 l0 x54_3).f1))) (fun _ hk => hk.2) (.int .i64 ((rd_T68 l0 x54_3).f2))) (fun _ hk => hk.2) (.int .i64 ((rd_T68 l0 x54_3).f3))) (fun _ hk => hk.2) (.int .i64 ((rd_T68 l0 x54_3).f4))) (fun _ hk => hk.2) (.int .i64 ((rd_T68 l0 x54_3).f5))) (fun _ h_ => h_.1))) hb); have n1_ := Aside0.mk (Kd.R_below (by (with_reducible repeat (first | apply Kd.R_alloc | apply Kd.R_drewN | apply Kd.R_drew)); exact (Kd.R_mono (Kd.R_far (p := ⟨gb301, 5, none⟩) (Kd.R_far (p := ⟨gb301, 4, none⟩) (Kd.R_far (p := ⟨gb301, 3, none⟩) (Kd.R_far (p := ⟨gb301, 2, none⟩) (Kd.R_far (p := ⟨gb301, 1, none⟩) (Kd.R_far (p := ⟨gb301, 0, none⟩) (Kd.R_types HO_7.out BK301.out (by decide)) (fun _ hk => hk.2) (.string ((rd_T68 l0 x54_3).f0))) (fun _ hk => hk.2) (.string ((rd_T68 l0 x54_3).f1))) (fun _ hk => hk.2) (.int .i64 ((rd_T68 l0 x54_3).f2))) (fun _ hk => hk.2) (.int .i64 ((rd_T68 l0 x54_3).f3))) (fun _ hk => hk.2) (.int .i64 ((rd_T68 l0 x54_3).f4))) (fun _ hk => hk.2) (.int .i64 ((rd_T68 l0 x54_3).f5))) (fun _ h_ => h_.1))) hb); have n2_ := Aside0.mk (blk_below (g := gb301) (o := .cells #[.string ((rd_T68 l0 x54_3).f0), .string ((rd_T68 l0 x54_3).f1), .int .i64 ((rd_T68 l0 x54_3).f2), .int .i64 ((rd_T68 l0 x54_3).f3), .int .i64 ((rd_T68 l0 x54_3).f4), .int .i64 ((rd_T68 l0 x54_3).f5)] 68 (0, 0)) (by (with_reducible repeat (first | refine blk_drewN ?_ _ | refine blk_drew ?_ | refine blk_alloc ?_ _)); refine blk_put (cs := #[.string ((rd_T68 l0 x54_3).f0), .string ((rd_T68 l0 x54_3).f1), .int .i64 ((rd_T68 l0 x54_3).f2), .int .i64 ((rd_T68 l0 x54_3).f3), .int .i64 ((rd_T68 l0 x54_3).f4), .int .i64 0]) ?_ 5 _ rfl; (with_reducible repeat (first | refine blk_drewN ?_ _ | refine blk_drew ?_ | refine blk_alloc ?_ _)); refine blk_put (cs := #[.string ((rd_T68 l0 x54_3).f0), .string ((rd_T68 l0 x54_3).f1), .int .i64 ((rd_T68 l0 x54_3).f2), .int .i64 ((rd_T68 l0 x54_3).f3), .int .i64 0, .int .i64 0]) ?_ 4 _ rfl; (with_reducible repeat (first | refine blk_drewN ?_ _ | refine blk_drew ?_ | refine blk_alloc ?_ _)); refine blk_put (cs := #[.string ((rd_T68 l0 x54_3).f0), .string ((rd_T68 l0 x54_3).f1), .int .i64 ((rd_T68 l0 x54_3).f2), .int .i64 0, .int .i64 0, .int .i64 0]) ?_ 3 _ rfl; (with_reducible repeat (first | refine blk_drewN ?_ _ | refine blk_drew ?_ | refine blk_alloc ?_ _)); refine blk_put (cs := #[.string ((rd_T68 l0 x54_3).f0), .string ((rd_T68 l0 x54_3).f1), .int .i64 0, .int .i64 0, .int .i64 0, .int .i64 0]) ?_ 2 _ rfl; (with_reducible repeat (first | refine blk_drewN ?_ _ | refine blk_drew ?_ | refine blk_alloc ?_ _)); refine blk_put (cs := #[.string ((rd_T68 l0 x54_3).f0), .string (⟨#[]⟩ : ByteArray), .int .i64 0, .int .i64 0, .int .i64 0, .int .i64 0]) ?_ 1 _ rfl; (with_reducible repeat (first | refine blk_drewN ?_ _ | refine blk_drew ?_ | refine blk_alloc ?_ _)); refine blk_put (cs := #[.string (⟨#[]⟩ : ByteArray), .string (⟨#[]⟩ : ByteArray), .int .i64 0, .int .i64 0, .int .i64 0, .int .i64 0]) ?_ 0 _ rfl; (with_reducible repeat (first | refine blk_drewN ?_ _ | refine blk_drew ?_ | refine blk_alloc ?_ _)); exact BK301.out) hb); have n3_ := Aside0.mk (below_step (by repeat (first | (with_reducible first | exact HB.out | apply below_alloc | apply pw_below_drewN | apply below_drew1 | refine below_set ?_ GE301.out) | exact HB.out)) hb); clear HO_5; clear HO_7; clear BK301; clear HB; have HO_5 := n0_; have HO_7 := n1_; have BK301 := n2_; have HB := n3_; clear n0_ n1_ n2_ n3_; (try clear hb); (try clear hb2); (try clear hk); (try clear hi); have hcz40_0 : w39.cell? ⟨gb301, 0, none⟩ = some (.string ((rd_T68 l0 x54_3).f0)) := (blk_cell BK301.out 0).trans rfl; have hcz40_1 : w39.cell? ⟨gb301, 1, none⟩ = some (.string ((rd_T68 l0 x54_3).f1)) := (blk_cell BK301.out 1).trans rfl; have hcz40_2 : w39.cell? ⟨gb301, 2, none⟩ = some (.int .i64 ((rd_T68 l0 x54_3).f2)) := (blk_cell BK301.out 2).trans rfl; have hcz40_3 : w39.cell? ⟨gb301, 3, none⟩ = some (.int .i64 ((rd_T68 l0 x54_3).f3)) := (blk_cell BK301.out 3).trans rfl; have hcz40_4 : w39.cell? ⟨gb301, 4, none⟩ = some (.int .i64 ((rd_T68 l0 x54_3).f4)) := (blk_cell BK301.out 4).trans rfl; have hcz40_5 : w39.cell? ⟨gb301, 5, none⟩ = some (.int .i64 ((rd_T68 l0 x54_3).f5)) := (blk_cell BK301.out 5).trans rfl; have hfz40_0 := blk_frozen BK301.out 0; have hfz40_1 := blk_frozen BK301.out 1; have hfz40_2 := blk_frozen BK301.out 2; have hfz40_3 := blk_frozen BK301.out 3; have hfz40_4 := blk_frozen BK301.out 4; have hfz40_5 := blk_frozen BK301.out 5; obtain ⟨Ao41, co41, eo41⟩ := Kd.R_slice HO_5.out; subst eo41) | ((with_reducible refine gate_callee (f := 43) rfl ?_); refine goesL_ (some 72) rfl rfl Try.func43 (by kernel_rfl) rfl #[.slice Ao41 t290.length co41, .string ((rd_T68 l0 x54_3).f0)] rfl (by (try simp only [List.map_toArray, List.map_cons, List.map_nil]); first | done | rfl | (simp only [List.length_drop, List.length_take]; rfl)) ?_; (with_reducible refine (slices_Contains_string_string.calls k3 _ _ t290 ((rd_T68 l0 x54_3).f0) t304 _ ?side1 ?side2 A35.out).mono ?_); (case side1 => repeat (first | exact (Kd.R_reads' HO_5.out).2.2 | (with_reducible refine Kd.C_alloc ?_ _) | (with_reducible refine Kd.C_drewN ?_ _) | (with_reducible refine Kd.C_drew ?_))); (case side2 => exact (Kd.R_reads' HO_5.out).2.1); rintro e w' ⟨rfl, ⟨nd, rfl⟩⟩; refine ⟨_, rfl, ?_⟩))
                          go_ret
                          exact ⟨by first | rfl | (simp [errW_none, errW_some] <;> rfl) | (simp [*, errW_none, errW_some] <;> rfl), by repeat (first | (with_reducible first | exact HB.out | apply below_alloc | apply pw_below_drewN | apply below_drew1 | refine below_set ?_ GE301.out) | exact HB.out)⟩
                        · rw [if_neg c36] at H
                          have c36b0 : ((t303 != 0) != t304) = false := by simpa using c36
                          (try (have c36b1 : decide ((t303 != 0) = t304) = true := by simpa using c36))
                          (try (have c36b2 : ((t303 != 0) == t304) = true := by simpa using c36))
                          (try (have c36b3 : t304 = ((t303 != 0)) := by revert c36; generalize (t303 != 0) = p_; generalize t304 = q_; cases p_ <;> cases q_ <;> decide))
                          clear c36
                          replace H := Option.bind_eq_some_iff.mp H
                          obtain ⟨⟨t305, t306⟩, A420, H⟩ := H
                          replace H : ((slices_Contains_int_int.f k3 t294 x54_3).bind fun t309 => (if ((t306 != 0) != t309) = true then (metrolablaw52_CalibrateParts.j3 k3 l0 a1 t290 t294 t305 l0 (l0.length : Int) x54_3 true) else (if t306 = 0 then (if (t305.length : Int) = 0 then (metrolablaw52_CalibrateParts.j3 k3 l0 a1 t290 t294 t305 l0 (l0.length : Int) x54_3 true) else (if 0 < (t305.length : Int) then (metrolablaw52_CalibrateParts.j3 k3 l0 a1 t290 t294 t305 l0 (l0.length : Int) x54_3 ((rd t305 0) != x54_3)) else (none))) else (metrolablaw52_CalibrateParts.j3 k3 l0 a1 t290 t294 t305 l0 (l0.length : Int) x54_3 false)))) = some r := H
                          have A42 := Aside0.mk A420
                          clear A420
                          have HC43 := Aside0.mk H
                          clear H
                          have p300 : 0 ≤ (x54_3 : Int) := of_decide_eq_true (by first | (with_reducible assumption) | assumption)
                          have q300 : x54_3 < (l0.length : Int) := of_decide_eq_true (by first | (with_reducible assumption) | assumption)
                          obtain ⟨ad300, e300, hx300_0, hx300_1, hx300_2, hx300_3, hx300_4, hx300_5⟩ := at_T68 HR0.out x54_3 p300 q300
                          cases e300
                          replace hx300_0 := (HB.out.cell (World.block_lt_of_cell? w _ hx300_0)).trans hx300_0
                          replace hx300_1 := (HB.out.cell (World.block_lt_of_cell? w _ hx300_1)).trans hx300_1
                          replace hx300_2 := (HB.out.cell (World.block_lt_of_cell? w _ hx300_2)).trans hx300_2
                          replace hx300_3 := (HB.out.cell (World.block_lt_of_cell? w _ hx300_3)).trans hx300_3
                          replace hx300_4 := (HB.out.cell (World.block_lt_of_cell? w _ hx300_4)).trans hx300_4
                          replace hx300_5 := (HB.out.cell (World.block_lt_of_cell? w _ hx300_5)).trans hx300_5
                          replace p300 := eq_true p300
                          replace q300 := eq_true q300
                          go_upto_region 14 with (first | ((with_reducible refine gate_dst (N := 10) rfl ?_); (try (refine gate_guard (by rfl) ?_; dsimp only)); refine box_event ?hg (N := 10) ?hd (cs := #[.string (⟨#[]⟩ : ByteArray), .string (⟨#[]⟩ : ByteArray), .int .i64 0, .int .i64 0, .int .i64 0, .int .i64 0]) (t := 68) ?hr ?_; (case hd => rfl); (case hg => rfl); (case hr => first | (go_simp; done) | (go_simp; rfl)); intro gb301 hg w44 hbox hb; have n0_ := Aside0.mk (Kd.R_below (by (with_reducible repeat (first | apply Kd.R_alloc | apply Kd.R_drewN | apply Kd.R_drew)); exact HO_5.out) hb); have n1_ := Aside0.mk (Kd.R_below (by (with_reducible repeat (first | apply Kd.R_alloc | apply Kd.R_drewN | apply Kd.R_drew)); exact HO_7.out) hb); have n2_ := Aside0.mk (below_step (by repeat (first | (with_reducible first | exact HB.out | apply below_alloc | apply pw_below_drewN | apply below_drew1) | exact HB.out)) hb); have n3_ := Aside0.mk (hbox); have n4_ := Aside0.mk ((by rw [hg]; exact (below_size (by repeat (first | (with_reducible first | exact HB.out | apply below_alloc | apply pw_below_drewN | apply below_drew1) | exact HB.out))) : w.heap.size ≤ gb301)); have n5_ := Aside0.mk ((by rw [hg]; exact (below_size (by repeat (first | (with_reducible first | exact HB.out | apply below_alloc | apply pw_below_drewN | apply below_drew1) | exact HB.out))) : w.heap.size ≤ gb301)); clear HO_5; clear HO_7; clear HB; have HO_5 := n0_; have HO_7 := n1_; have HB := n2_; have BK301 := n3_; have GW301 := n4_; have GE301 := n5_; clear n0_ n1_ n2_ n3_ n4_ n5_; clear hb hbox hg; have hcz45_0 : w44.cell? ⟨gb301, 0, none⟩ = some (.string (⟨#[]⟩ : ByteArray)) := (blk_cell BK301.out 0).trans rfl; have hcz45_1 : w44.cell? ⟨gb301, 1, none⟩ = some (.string (⟨#[]⟩ : ByteArray)) := (blk_cell BK301.out 1).trans rfl; have hcz45_2 : w44.cell? ⟨gb301, 2, none⟩ = some (.int .i64 0) := (blk_cell BK301.out 2).trans rfl; have hcz45_3 : w44.cell? ⟨gb301, 3, none⟩ = some (.int .i64 0) := (blk_cell BK301.out 3).trans rfl; have hcz45_4 : w44.cell? ⟨gb301, 4, none⟩ = some (.int .i64 0) := (blk_cell BK301.out 4).trans rfl; have hcz45_5 : w44.cell? ⟨gb301, 5, none⟩ = some (.int .i64 0) := (blk_cell BK301.out 5).trans rfl; have hfz45_0 := blk_frozen BK301.out 0; have hfz45_1 := blk_frozen BK301.out 1; have hfz45_2 := blk_frozen BK301.out 2; have hfz45_3 := blk_frozen BK301.out 3; have hfz45_4 := blk_frozen BK301.out 4; have hfz45_5 := blk_frozen BK301.out 5) | ((with_reducible refine gate_callee (f := 42) rfl ?_); refine goesL_ (some 64) rfl rfl Try.func42 (by kernel_rfl) rfl #[.slice (some ad300) l0.length c0, .string ((rd_T68 l0 x54_3).f0), .int .i64 a1] rfl (by (try simp only [List.map_toArray, List.map_cons, List.map_nil]); first | done | rfl | (simp only [List.length_drop, List.length_take]; rfl)) ?_; (with_reducible refine (calibrate_Valid.calls k3 _ _ l0 ((rd_T68 l0 x54_3).f0) a1 t302 t303 _ ?side1 ?side2 A34.out).mono ?_); (case side1 => exact Kd.C_below HR0.out (by repeat (first | (with_reducible first | exact HB.out | apply below_alloc | apply pw_below_drewN | apply below_drew1 | refine below_set ?_ GE301.out) | exact HB.out))); (case side2 => exact HC0.out); rintro e w46 ⟨rfl, hb⟩; refine ⟨_, rfl, ?_⟩; have n0_ := Aside0.mk (Kd.R_below (by (with_reducible repeat (first | apply Kd.R_alloc | apply Kd.R_drewN | apply Kd.R_drew)); exact (Kd.R_mono (Kd.R_far (p := ⟨gb301, 5, none⟩) (Kd.R_far (p := ⟨gb301, 4, none⟩) (Kd.R_far (p := ⟨gb301, 3, none⟩) (Kd.R_far (p := ⟨gb301, 2, none⟩) (Kd.R_far (p := ⟨gb301, 1, none⟩) (Kd.R_far (p := ⟨gb301, 0, none⟩) (Kd.R_types HO_5.out BK301.out (by decide)) (fun _ hk => hk.2) (.string ((rd_T68 l0 x54_3).f0))) (fun _ hk => hk.2) (.string ((rd_T68 l0 x54_3).f1))) (fun _ hk => hk.2) (.int .i64 ((rd_T68 l0 x54_3).f2))) (fun _ hk => hk.2) (.int .i64 ((rd_T68 l0 x54_3).f3))) (fun _ hk => hk.2) (.int .i64 ((rd_T68 l0 x54_3).f4))) (fun _ hk => hk.2) (.int .i64 ((rd_T68 l0 x54_3).f5))) (fun _ h_ => h_.1))) hb); have n1_ := Aside0.mk (Kd.R_below (by (with_reducible repeat (first | apply Kd.R_alloc | apply Kd.R_drewN | apply Kd.R_drew)); exact (Kd.R_mono (Kd.R_far (p := ⟨gb301, 5, none⟩) (Kd.R_far (p := ⟨gb301, 4, none⟩) (Kd.R_far (p := ⟨gb301, 3, none⟩) (Kd.R_far (p := ⟨gb301, 2, none⟩) (Kd.R_far (p := ⟨gb301, 1, none⟩) (Kd.R_far (p := ⟨gb301, 0, none⟩) (Kd.R_types HO_7.out BK301.out (by decide)) (fun _ hk => hk.2) (.string ((rd_T68 l0 x54_3).f0))) (fun _ hk => hk.2) (.string ((rd_T68 l0 x54_3).f1))) (fun _ hk => hk.2) (.int .i64 ((rd_T68 l0 x54_3).f2))) (fun _ hk => hk.2) (.int .i64 ((rd_T68 l0 x54_3).f3))) (fun _ hk => hk.2) (.int .i64 ((rd_T68 l0 x54_3).f4))) (fun _ hk => hk.2) (.int .i64 ((rd_T68 l0 x54_3).f5))) (fun _ h_ => h_.1))) hb); have n2_ := Aside0.mk (blk_below (g := gb301) (o := .cells #[.string ((rd_T68 l0 x54_3).f0), .string ((rd_T68 l0 x54_3).f1), .int .i64 ((rd_T68 l0 x54_3).f2), .int .i64 ((rd_T68 l0 x54_3).f3), .int .i64 ((rd_T68 l0 x54_3).f4), .int .i64 ((rd_T68 l0 x54_3).f5)] 68 (0, 0)) (by (with_reducible repeat (first | refine blk_drewN ?_ _ | refine blk_drew ?_ | refine blk_alloc ?_ _)); refine blk_put (cs := #[.string ((rd_T68 l0 x54_3).f0), .string ((rd_T68 l0 x54_3).f1), .int .i64 ((rd_T68 l0 x54_3).f2), .int .i64 ((rd_T68 l0 x54_3).f3), .int .i64 ((rd_T68 l0 x54_3).f4), .int .i64 0]) ?_ 5 _ rfl; (with_reducible repeat (first | refine blk_drewN ?_ _ | refine blk_drew ?_ | refine blk_alloc ?_ _)); refine blk_put (cs := #[.string ((rd_T68 l0 x54_3).f0), .string ((rd_T68 l0 x54_3).f1), .int .i64 ((rd_T68 l0 x54_3).f2), .int .i64 ((rd_T68 l0 x54_3).f3), .int .i64 0, .int .i64 0]) ?_ 4 _ rfl; (with_reducible repeat (first | refine blk_drewN ?_ _ | refine blk_drew ?_ | refine blk_alloc ?_ _)); refine blk_put (cs := #[.string ((rd_T68 l0 x54_3).f0), .string ((rd_T68 l0 x54_3).f1), .int .i64 ((rd_T68 l0 x54_3).f2), .int .i64 0, .int .i64 0, .int .i64 0]) ?_ 3 _ rfl; (with_reducible repeat (first | refine blk_drewN ?_ _ | refine blk_drew ?_ | refine blk_alloc ?_ _)); refine blk_put (cs := #[.string ((rd_T68 l0 x54_3).f0), .string ((rd_T68 l0 x54_3).f1), .int .i64 0, .int .i64 0, .int .i64 0, .int .i64 0]) ?_ 2 _ rfl; (with_reducible repeat (first | refine blk_drewN ?_ _ | refine blk_drew ?_ | refine blk_alloc ?_ _)); refine blk_put (cs := #[.string ((rd_T68 l0 x54_3).f0), .string (⟨#[]⟩ : ByteArray), .int .i64 0, .int .i64 0, .int .i64 0, .int .i64 0]) ?_ 1 _ rfl; (with_reducible repeat (first | refine blk_drewN ?_ _ | refine blk_drew ?_ | refine blk_alloc ?_ _)); refine blk_put (cs := #[.string (⟨#[]⟩ : ByteArray), .string (⟨#[]⟩ : ByteArray), .int .i64 0, .int .i64 0, .int .i64 0, .int .i64 0]) ?_ 0 _ rfl; (with_reducible repeat (first | refine blk_drewN ?_ _ | refine blk_drew ?_ | refine blk_alloc ?_ _)); exact BK301.out) hb); have n3_ := Aside0.mk (below_step (by repeat (first | (with_reducible first | exact HB.out | apply below_alloc | apply pw_below_drewN | apply below_drew1 | refine below_set ?_ GE301.out) | exact HB.out)) hb); clear HO_5; clear HO_7; clear BK301; clear HB; have HO_5 := n0_; have HO_7 := n1_; have BK301 := n2_; have HB := n3_; clear n0_ n1_ n2_ n3_; (try clear hb); (try clear hb2); (try clear hk); (try clear hi); have hcz47_0 : w46.cell? ⟨gb301, 0, none⟩ = some (.string ((rd_T68 l0 x54_3).f0)) := (blk_cell BK301.out 0).trans rfl; have hcz47_1 : w46.cell? ⟨gb301, 1, none⟩ = some (.string ((rd_T68 l0 x54_3).f1)) := (blk_cell BK301.out 1).trans rfl; have hcz47_2 : w46.cell? ⟨gb301, 2, none⟩ = some (.int .i64 ((rd_T68 l0 x54_3).f2)) := (blk_cell BK301.out 2).trans rfl; have hcz47_3 : w46.cell? ⟨gb301, 3, none⟩ = some (.int .i64 ((rd_T68 l0 x54_3).f3)) := (blk_cell BK301.out 3).trans rfl; have hcz47_4 : w46.cell? ⟨gb301, 4, none⟩ = some (.int .i64 ((rd_T68 l0 x54_3).f4)) := (blk_cell BK301.out 4).trans rfl; have hcz47_5 : w46.cell? ⟨gb301, 5, none⟩ = some (.int .i64 ((rd_T68 l0 x54_3).f5)) := (blk_cell BK301.out 5).trans rfl; have hfz47_0 := blk_frozen BK301.out 0; have hfz47_1 := blk_frozen BK301.out 1; have hfz47_2 := blk_frozen BK301.out 2; have hfz47_3 := blk_frozen BK301.out 3; have hfz47_4 := blk_frozen BK301.out 4; have hfz47_5 := blk_frozen BK301.out 5; obtain ⟨Ao48, co48, eo48⟩ := Kd.R_slice HO_5.out; subst eo48) | ((with_reducible refine gate_callee (f := 43) rfl ?_); refine goesL_ (some 72) rfl rfl Try.func43 (by kernel_rfl) rfl #[.slice Ao48 t290.length co48, .string ((rd_T68 l0 x54_3).f0)] rfl (by (try simp only [List.map_toArray, List.map_cons, List.map_nil]); first | done | rfl | (simp only [List.length_drop, List.length_take]; rfl)) ?_; (with_reducible refine (slices_Contains_string_string.calls k3 _ _ t290 ((rd_T68 l0 x54_3).f0) t304 _ ?side1 ?side2 A35.out).mono ?_); (case side1 => repeat (first | exact (Kd.R_reads' HO_5.out).2.2 | (with_reducible refine Kd.C_alloc ?_ _) | (with_reducible refine Kd.C_drewN ?_ _) | (with_reducible refine Kd.C_drew ?_))); (case side2 => exact (Kd.R_reads' HO_5.out).2.1); rintro e w' ⟨rfl, ⟨nd, rfl⟩⟩; refine ⟨_, rfl, ?_⟩) | ((with_reducible refine gate_callee (f := 44) rfl ?_); refine goesL_ (some 80) rfl rfl Try.func44 (by kernel_rfl) rfl #[.slice (some ad300) l0.length c0, .string ((rd_T68 l0 x54_3).f0), .int .i64 ((rd_T68 l0 x54_3).f4)] rfl (by (try simp only [List.map_toArray, List.map_cons, List.map_nil]); first | done | rfl | (simp only [List.length_drop, List.length_take]; rfl)) ?_; (with_reducible refine (calibrate_Chain.calls k3 _ _ l0 ((rd_T68 l0 x54_3).f0) ((rd_T68 l0 x54_3).f4) t305 t306 _ ?side1 ?side2 A42.out).mono ?_); (case side1 => repeat (first | exact (Kd.C_below HR0.out (by repeat (first | (with_reducible first | exact HB.out | apply below_alloc | apply pw_below_drewN | apply below_drew1 | refine below_set ?_ GE301.out) | exact HB.out))) | (with_reducible refine Kd.C_alloc ?_ _) | (with_reducible refine Kd.C_drewN ?_ _) | (with_reducible refine Kd.C_drew ?_))); (case side2 => exact HC0.out); rintro e w49 ⟨v307, rfl, ho0, hb⟩; refine ⟨_, rfl, ?_⟩; have n0_ := Aside0.mk (Kd.R_below (by (with_reducible repeat (first | apply Kd.R_alloc | apply Kd.R_drewN | apply Kd.R_drew)); exact HO_5.out) hb); have n1_ := Aside0.mk (Kd.R_elder' (by (with_reducible repeat (first | apply Kd.R_alloc | apply Kd.R_drewN | apply Kd.R_drew)); exact HO_7.out) (Kd.R_base ho0) hb); have n2_ := Aside0.mk (Kd.R_lower (Kd.R_new' ho0 (Kd.R_lt (by (with_reducible repeat (first | apply Kd.R_alloc | apply Kd.R_drewN | apply Kd.R_drew)); exact HO_7.out))) (below_size (by repeat (first | (with_reducible first | exact HB.out | apply below_alloc | apply pw_below_drewN | apply below_drew1 | refine below_set ?_ GE301.out) | exact HB.out)))); have n3_ := Aside0.mk (blk_below (g := gb301) (o := .cells #[.string ((rd_T68 l0 x54_3).f0), .string ((rd_T68 l0 x54_3).f1), .int .i64 ((rd_T68 l0 x54_3).f2), .int .i64 ((rd_T68 l0 x54_3).f3), .int .i64 ((rd_T68 l0 x54_3).f4), .int .i64 ((rd_T68 l0 x54_3).f5)] 68 (0, 0)) (by (with_reducible repeat (first | refine blk_drewN ?_ _ | refine blk_drew ?_ | refine blk_alloc ?_ _)); exact BK301.out) hb); have n4_ := Aside0.mk (below_step (by repeat (first | (with_reducible first | exact HB.out | apply below_alloc | apply pw_below_drewN | apply below_drew1 | refine below_set ?_ GE301.out) | exact HB.out)) hb); clear HO_5; clear HO_7; clear BK301; clear HB; have HO_5 := n0_; have HO_7 := n1_; have HO308 := n2_; have BK301 := n3_; have HB := n4_; clear n0_ n1_ n2_ n3_ n4_; (try clear hb); (try clear hb2); (try clear hk); (try clear hi); (try clear ho0)))
                          (try simp only [Act.put, List.setIfInBounds_toArray, List.set_cons_zero, List.set_cons_succ])
                          go_cut [104] (fun v104 wc => ∃ (kq : Nat) (x104_42 : Bool), v104 = .bool x104_42 ∧ Aside0 (metrolablaw52_CalibrateParts.j3 kq l0 a1 t290 t294 t305 l0 (l0.length : Int) x54_3 x104_42 = some r) ∧ Aside0 (kq ≤ k3) ∧ Aside0 (Kd.R Kd.string 9 wc w.heap.size (fun _ => True) (.slice Ao48 t290.length co48) t290) ∧ Aside0 (Kd.R (Kd.int .i64) 3 wc w.heap.size (fun k_ => some k_ ≠ (v307 : Value).ownBlock) v296 t294) ∧ Aside0 (Kd.R (Kd.int .i64) 3 wc w.heap.size (fun k_ => some k_ ≠ (v296 : Value).ownBlock) v307 t305) ∧ Aside0 (wc.heap[gb301]? = some (.cells #[.string ((rd_T68 l0 x54_3).f0), .string ((rd_T68 l0 x54_3).f1), .int .i64 ((rd_T68 l0 x54_3).f2), .int .i64 ((rd_T68 l0 x54_3).f3), .int .i64 ((rd_T68 l0 x54_3).f4), .int .i64 ((rd_T68 l0 x54_3).f5)] 68 (0, 0))) ∧ Aside0 (Below w.heap.size w wc))
                          case first =>
                            have H := HC43.out
                            clear HC43
                            replace H := Option.bind_eq_some_iff.mp H
                            obtain ⟨t309, A500, H⟩ := H
                            replace H : (if ((t306 != 0) != t309) = true then (metrolablaw52_CalibrateParts.j3 k3 l0 a1 t290 t294 t305 l0 (l0.length : Int) x54_3 true) else (if t306 = 0 then (if (t305.length : Int) = 0 then (metrolablaw52_CalibrateParts.j3 k3 l0 a1 t290 t294 t305 l0 (l0.length : Int) x54_3 true) else (if 0 < (t305.length : Int) then (metrolablaw52_CalibrateParts.j3 k3 l0 a1 t290 t294 t305 l0 (l0.length : Int) x54_3 ((rd t305 0) != x54_3)) else (none))) else (metrolablaw52_CalibrateParts.j3 k3 l0 a1 t290 t294 t305 l0 (l0.length : Int) x54_3 false))) = some r := H
                            have A50 := Aside0.mk A500
                            clear A500
                            by_cases c51 : ((t306 != 0) != t309) = true
                            · rw [if_pos c51] at H
                              have c51b0 : ((t306 != 0) != t309) = true := c51
                              (try (have c51b1 : decide ((t306 != 0) = t309) = false := by simpa using c51))
                              (try (have c51b2 : ((t306 != 0) == t309) = false := by simpa using c51))
                              (try (have c51b3 : ¬ ((t306 != 0) = t309) := by simpa using c51))
                              (try (have c51b4 : t309 = !((t306 != 0)) := by revert c51; generalize (t306 != 0) = p_; generalize t309 = q_; cases p_ <;> cases q_ <;> decide))
                              clear c51
                              (first | rw [c51b0] | (simp only [i64_w, i32_w]; rw [c51b0]) | (rw [c51b2]; try simp only [Bool.not_true, Bool.not_false]) | skip)
                              have H' := Aside0.mk H
                              clear H
                              obtain ⟨Ao52, co52, eo52⟩ := Kd.R_slice HO_7.out
                              subst eo52
                              go_wp2_with (first | ((with_reducible refine gate_callee (f := 45) rfl ?_); refine goesL_ (some 87) rfl rfl Try.func45 (by kernel_rfl) rfl #[.slice Ao52 t294.length co52, .int .i64 x54_3] rfl (by (try simp only [List.map_toArray, List.map_cons, List.map_nil]); first | done | rfl | (simp only [List.length_drop, List.length_take]; rfl)) ?_; (with_reducible refine (slices_Contains_int_int.calls k3 _ _ t294 x54_3 t309 _ ?side1 ?side2 A50.out).mono ?_); (case side1 => repeat (first | exact (Kd.R_reads' HO_7.out).2.2 | (with_reducible refine Kd.C_alloc ?_ _) | (with_reducible refine Kd.C_drewN ?_ _) | (with_reducible refine Kd.C_drew ?_))); (case side2 => exact (Kd.R_reads' HO_7.out).2.1); rintro e w' ⟨rfl, ⟨nd, rfl⟩⟩; refine ⟨_, rfl, ?_⟩))
                              go_meet
                              case rel => exact ⟨_, (true), (by first | rfl | (simp; done) | (simp [*]; done)), H', ⟨by have := HJ2.out; have := HJ23.out; have := HK3.out; first | omega | exact Nat.le_refl _⟩, ⟨by (with_reducible repeat (first | apply Kd.R_alloc | apply Kd.R_drewN | apply Kd.R_drew)); exact HO_5.out⟩, ⟨by (with_reducible repeat (first | apply Kd.R_alloc | apply Kd.R_drewN | apply Kd.R_drew)); exact Kd.R_mono HO_7.out (fun _ hk => hk.2)⟩, ⟨by (with_reducible repeat (first | apply Kd.R_alloc | apply Kd.R_drewN | apply Kd.R_drew)); exact Kd.R_mono HO308.out (fun _ hk => hk.2)⟩, ⟨by (with_reducible repeat (first | refine blk_drewN ?_ _ | refine blk_drew ?_ | refine blk_alloc ?_ _)); exact BK301.out⟩, ⟨by repeat (first | (with_reducible first | exact HB.out | apply below_alloc | apply pw_below_drewN | apply below_drew1 | refine below_set ?_ GE301.out) | exact HB.out)⟩⟩
                            · rw [if_neg c51] at H
                              have c51b0 : ((t306 != 0) != t309) = false := by simpa using c51
                              (try (have c51b1 : decide ((t306 != 0) = t309) = true := by simpa using c51))
                              (try (have c51b2 : ((t306 != 0) == t309) = true := by simpa using c51))
                              (try (have c51b3 : t309 = ((t306 != 0)) := by revert c51; generalize (t306 != 0) = p_; generalize t309 = q_; cases p_ <;> cases q_ <;> decide))
                              clear c51
                              (first | rw [c51b0] | (simp only [i64_w, i32_w]; rw [c51b0]) | (rw [c51b2]; try simp only [Bool.not_true, Bool.not_false]) | skip)
                              by_cases c53 : t306 = 0
                              · rw [if_pos c53] at H
                                have c53b0 : (t306 == 0) = true := beq_iff_eq.mpr c53
                                have c53b1 : (t306 != 0) = false := bne_eq_false_iff_eq.mpr c53
                                clear c53
                                by_cases c54 : (t305.length : Int) = 0
                                · rw [if_pos c54] at H
                                  have c54b0 : ((t305.length : Int) == 0) = true := beq_iff_eq.mpr c54
                                  have c54b1 : ((t305.length : Int) != 0) = false := bne_eq_false_iff_eq.mpr c54
                                  clear c54
                                  have H' := Aside0.mk H
                                  clear H
                                  obtain ⟨Ao55, co55, eo55⟩ := Kd.R_slice HO_7.out
                                  subst eo55
                                  go_wp2_with (first | ((with_reducible refine gate_callee (f := 45) rfl ?_); refine goesL_ (some 87) rfl rfl Try.func45 (by kernel_rfl) rfl #[.slice Ao55 t294.length co55, .int .i64 x54_3] rfl (by (try simp only [List.map_toArray, List.map_cons, List.map_nil]); first | done | rfl | (simp only [List.length_drop, List.length_take]; rfl)) ?_; (with_reducible refine (slices_Contains_int_int.calls k3 _ _ t294 x54_3 t309 _ ?side1 ?side2 A50.out).mono ?_); (case side1 => repeat (first | exact (Kd.R_reads' HO_7.out).2.2 | (with_reducible refine Kd.C_alloc ?_ _) | (with_reducible refine Kd.C_drewN ?_ _) | (with_reducible refine Kd.C_drew ?_))); (case side2 => exact (Kd.R_reads' HO_7.out).2.1); rintro e w' ⟨rfl, ⟨nd, rfl⟩⟩; refine ⟨_, rfl, ?_⟩; obtain ⟨Ao56, co56, eo56⟩ := Kd.R_slice HO308.out; subst eo56))
                                  go_meet
                                  case rel => exact ⟨_, (true), (by first | rfl | (simp; done) | (simp [*]; done)), H', ⟨by have := HJ2.out; have := HJ23.out; have := HK3.out; first | omega | exact Nat.le_refl _⟩, ⟨by (with_reducible repeat (first | apply Kd.R_alloc | apply Kd.R_drewN | apply Kd.R_drew)); exact HO_5.out⟩, ⟨by (with_reducible repeat (first | apply Kd.R_alloc | apply Kd.R_drewN | apply Kd.R_drew)); exact Kd.R_mono HO_7.out (fun _ hk => hk.2)⟩, ⟨by (with_reducible repeat (first | apply Kd.R_alloc | apply Kd.R_drewN | apply Kd.R_drew)); exact Kd.R_mono HO308.out (fun _ hk => hk.2)⟩, ⟨by (with_reducible repeat (first | refine blk_drewN ?_ _ | refine blk_drew ?_ | refine blk_alloc ?_ _)); exact BK301.out⟩, ⟨by repeat (first | (with_reducible first | exact HB.out | apply below_alloc | apply pw_below_drewN | apply below_drew1 | refine below_set ?_ GE301.out) | exact HB.out)⟩⟩
                                · rw [if_neg c54] at H
                                  have c54b0 : ((t305.length : Int) == 0) = false := beq_eq_false_iff_ne.mpr c54
                                  have c54b1 : ((t305.length : Int) != 0) = true := bne_iff_ne.mpr c54
                                  have c54b2 : ¬ (t305 = []) := fun h_ => c54 (by rw [h_]; rfl)
                                  by_cases c57 : 0 < (t305.length : Int)
                                  · rw [if_pos c57] at H
                                    have c57b0 : decide (0 < (t305.length : Int)) = true := decide_eq_true c57
                                    have c57b1 : decide (0 < t305.length) = true := decide_eq_true (by omega)
                                    clear c57
                                    have H' := Aside0.mk H
                                    clear H
                                    obtain ⟨Ao58, co58, eo58⟩ := Kd.R_slice HO_7.out
                                    subst eo58
                                    go_wp2_with (first | ((with_reducible refine gate_callee (f := 45) rfl ?_); refine goesL_ (some 87) rfl rfl Try.func45 (by kernel_rfl) rfl #[.slice Ao58 t294.length co58, .int .i64 x54_3] rfl (by (try simp only [List.map_toArray, List.map_cons, List.map_nil]); first | done | rfl | (simp only [List.length_drop, List.length_take]; rfl)) ?_; (with_reducible refine (slices_Contains_int_int.calls k3 _ _ t294 x54_3 t309 _ ?side1 ?side2 A50.out).mono ?_); (case side1 => repeat (first | exact (Kd.R_reads' HO_7.out).2.2 | (with_reducible refine Kd.C_alloc ?_ _) | (with_reducible refine Kd.C_drewN ?_ _) | (with_reducible refine Kd.C_drew ?_))); (case side2 => exact (Kd.R_reads' HO_7.out).2.1); rintro e w' ⟨rfl, ⟨nd, rfl⟩⟩; refine ⟨_, rfl, ?_⟩; obtain ⟨Ao59, co59, eo59⟩ := Kd.R_slice HO308.out; subst eo59; have p310 : 0 ≤ (0 : Int) := (by omega); have q310 : 0 < (t305.length : Int) := of_decide_eq_true (by first | (with_reducible assumption) | assumption); obtain ⟨ad310, e310, hx310_0⟩ := Kd.at_int (Kd.R_reads' HO308.out).2.2 0 p310 q310; cases e310; have qi310 : (0 < t305.length) = True := eq_true (by omega); (try rw [show ((0 : Int)).toNat = 0 from rfl] at hx310_0); (try rw [Addr.add_zero'] at hx310_0); replace p310 := eq_true p310; replace q310 := eq_true q310))
                                    go_meet
                                    case rel => exact ⟨_, (((rd t305 0) != x54_3)), (by first | rfl | (simp; done) | (simp [*]; done)), H', ⟨by have := HJ2.out; have := HJ23.out; have := HK3.out; first | omega | exact Nat.le_refl _⟩, ⟨by (with_reducible repeat (first | apply Kd.R_alloc | apply Kd.R_drewN | apply Kd.R_drew)); exact HO_5.out⟩, ⟨by (with_reducible repeat (first | apply Kd.R_alloc | apply Kd.R_drewN | apply Kd.R_drew)); exact Kd.R_mono HO_7.out (fun _ hk => hk.2)⟩, ⟨by (with_reducible repeat (first | apply Kd.R_alloc | apply Kd.R_drewN | apply Kd.R_drew)); exact Kd.R_mono HO308.out (fun _ hk => hk.2)⟩, ⟨by (with_reducible repeat (first | refine blk_drewN ?_ _ | refine blk_drew ?_ | refine blk_alloc ?_ _)); exact BK301.out⟩, ⟨by repeat (first | (with_reducible first | exact HB.out | apply below_alloc | apply pw_below_drewN | apply below_drew1 | refine below_set ?_ GE301.out) | exact HB.out)⟩⟩
                                  · rw [if_neg c57] at H
                                    exact absurd H (by simp)
                              · rw [if_neg c53] at H
                                have c53b0 : (t306 == 0) = false := beq_eq_false_iff_ne.mpr c53
                                have c53b1 : (t306 != 0) = true := bne_iff_ne.mpr c53
                                have H' := Aside0.mk H
                                clear H
                                obtain ⟨Ao60, co60, eo60⟩ := Kd.R_slice HO_7.out
                                subst eo60
                                go_wp2_with (first | ((with_reducible refine gate_callee (f := 45) rfl ?_); refine goesL_ (some 87) rfl rfl Try.func45 (by kernel_rfl) rfl #[.slice Ao60 t294.length co60, .int .i64 x54_3] rfl (by (try simp only [List.map_toArray, List.map_cons, List.map_nil]); first | done | rfl | (simp only [List.length_drop, List.length_take]; rfl)) ?_; (with_reducible refine (slices_Contains_int_int.calls k3 _ _ t294 x54_3 t309 _ ?side1 ?side2 A50.out).mono ?_); (case side1 => repeat (first | exact (Kd.R_reads' HO_7.out).2.2 | (with_reducible refine Kd.C_alloc ?_ _) | (with_reducible refine Kd.C_drewN ?_ _) | (with_reducible refine Kd.C_drew ?_))); (case side2 => exact (Kd.R_reads' HO_7.out).2.1); rintro e w' ⟨rfl, ⟨nd, rfl⟩⟩; refine ⟨_, rfl, ?_⟩))
                                go_meet
                                case rel => exact ⟨_, (false), (by first | rfl | (simp; done) | (simp [*]; done)), H', ⟨by have := HJ2.out; have := HJ23.out; have := HK3.out; first | omega | exact Nat.le_refl _⟩, ⟨by (with_reducible repeat (first | apply Kd.R_alloc | apply Kd.R_drewN | apply Kd.R_drew)); exact HO_5.out⟩, ⟨by (with_reducible repeat (first | apply Kd.R_alloc | apply Kd.R_drewN | apply Kd.R_drew)); exact Kd.R_mono HO_7.out (fun _ hk => hk.2)⟩, ⟨by (with_reducible repeat (first | apply Kd.R_alloc | apply Kd.R_drewN | apply Kd.R_drew)); exact Kd.R_mono HO308.out (fun _ hk => hk.2)⟩, ⟨by (with_reducible repeat (first | refine blk_drewN ?_ _ | refine blk_drew ?_ | refine blk_alloc ?_ _)); exact BK301.out⟩, ⟨by repeat (first | (with_reducible first | exact HB.out | apply below_alloc | apply pw_below_drewN | apply below_drew1 | refine below_set ?_ GE301.out) | exact HB.out)⟩⟩
                          case rest =>
                            clear HC43
                            try clear c1
                            try clear c2
                            try clear p2
                            try clear c3
                            try clear p3
                            try clear q3
                            try clear hx3
                            try clear qi3
                            try clear c4
                            try clear c5
                            try clear p6
                            try clear c7
                            try clear c8
                            try clear c8b0
                            try clear c8b1
                            try clear c8b2
                            try clear c19
                            try clear c27
                            try clear c27b0
                            try clear c27b1
                            try clear c27b2
                            try clear c30
                            try clear p30
                            try clear q30
                            try clear hx30
                            try clear c31
                            try clear c31b0
                            try clear p31
                            try clear q31
                            try clear hx31
                            try clear qi31
                            try clear c32
                            try clear c32b0
                            try clear c33
                            try clear c33b0
                            try clear c34
                            try clear c36
                            try clear c36b0
                            try clear c36b1
                            try clear c36b2
                            try clear c39
                            try clear c40
                            try clear c42
                            try clear c43
                            try clear c44
                            try clear c45
                            try clear c51
                            try clear c51b0
                            try clear c51b1
                            try clear c51b2
                            try clear c53
                            try clear c53b0
                            try clear c53b1
                            try clear c54
                            try clear c54b0
                            try clear c54b1
                            try clear c54b2
                            try clear c57
                            try clear c57b0
                            try clear c57b1
                            try clear hcz38_0
                            try clear hcz38_1
                            try clear hcz38_2
                            try clear hcz38_3
                            try clear hcz38_4
                            try clear hcz38_5
                            try clear hcz40_0
                            try clear hcz40_1
                            try clear hcz40_2
                            try clear hcz40_3
                            try clear hcz40_4
                            try clear hcz40_5
                            try clear hcz45_0
                            try clear hcz45_1
                            try clear hcz45_2
                            try clear hcz45_3
                            try clear hcz45_4
                            try clear hcz45_5
                            try clear hcz47_0
                            try clear hcz47_1
                            try clear hcz47_2
                            try clear hcz47_3
                            try clear hcz47_4
                            try clear hcz47_5
                            try clear hfz38_0
                            try clear hfz38_1
                            try clear hfz38_2
                            try clear hfz38_3
                            try clear hfz38_4
                            try clear hfz38_5
                            try clear hfz40_0
                            try clear hfz40_1
                            try clear hfz40_2
                            try clear hfz40_3
                            try clear hfz40_4
                            try clear hfz40_5
                            try clear hfz45_0
                            try clear hfz45_1
                            try clear hfz45_2
                            try clear hfz45_3
                            try clear hfz45_4
                            try clear hfz45_5
                            try clear hfz47_0
                            try clear hfz47_1
                            try clear hfz47_2
                            try clear hfz47_3
                            try clear hfz47_4
                            try clear hfz47_5
                            try clear hx300_0
                            try clear hx300_1
                            try clear hx300_2
                            try clear hx300_3
                            try clear hx300_4
                            try clear hx300_5
                            try clear hx310_0
                            try clear p2
                            try clear p300
                            try clear p310
                            try clear p6
                            try clear q300
                            try clear q310
                            obtain ⟨kq, x104_42, rfl, HA, HJ42, HO_5, HO_7, HO_13, BK301, HB⟩ := hcut
                            cases kq with
                            | zero => exact absurd HA.out (by simp [metrolablaw52_CalibrateParts.j3])
                            | succ kj42 =>
                              have H := HA.out
                              clear HA
                              simp only [metrolablaw52_CalibrateParts.j3] at H
                              by_cases c61 : x104_42 = true
                              · subst c61
                                have H1 : (some false) = some r := by rw [if_pos rfl] at H; exact H
                                clear H
                                have H := H1
                                clear H1
                                obtain rfl := Option.some.inj H
                                go_wp2
                                go_ret
                                exact ⟨by first | rfl | (simp [errW_none, errW_some] <;> rfl) | (simp [*, errW_none, errW_some] <;> rfl), by repeat (first | (with_reducible first | exact HB.out | apply below_alloc | apply pw_below_drewN | apply below_drew1 | refine below_set ?_ GE301.out) | exact HB.out)⟩
                              · replace c61 := Bool.eq_false_iff.mpr c61
                                subst c61
                                have H1 : (metrolablaw52_CalibrateParts.l1 kj42 l0 a1 t290 t294 l0 (l0.length : Int) x54_3 t305 (t305.length : Int) 0) = some r := by rw [if_neg (show ¬ (false = true) by decide)] at H; exact H
                                clear H
                                have H := H1
                                clear H1
                                have H' := Aside0.mk H
                                clear H
                                obtain ⟨Ao62, co62, eo62⟩ := Kd.R_slice HO_13.out
                                subst eo62
                                go_wp2
                                go_loopg [107] kj42 (fun kq v107 w' => ∃ (x107_5 : Int), v107 = .int .i64 x107_5 ∧ Aside0 (metrolablaw52_CalibrateParts.l1 kq l0 a1 t290 t294 l0 (l0.length : Int) x54_3 t305 (t305.length : Int) x107_5 = some r) ∧ Aside0 (kq ≤ kj42) ∧ Aside0 (Kd.R Kd.string 9 w' w.heap.size (fun _ => True) (.slice Ao48 t290.length co48) t290) ∧ Aside0 (Kd.R (Kd.int .i64) 3 w' w.heap.size (fun k_ => some k_ ≠ ((.slice Ao62 t305.length co62) : Value).ownBlock) v296 t294) ∧ Aside0 (Kd.R (Kd.int .i64) 3 w' w.heap.size (fun k_ => some k_ ≠ (v296 : Value).ownBlock) (.slice Ao62 t305.length co62) t305) ∧ Aside0 (w'.heap[gb301]? = some (.cells #[.string ((rd_T68 l0 x54_3).f0), .string ((rd_T68 l0 x54_3).f1), .int .i64 ((rd_T68 l0 x54_3).f2), .int .i64 ((rd_T68 l0 x54_3).f3), .int .i64 ((rd_T68 l0 x54_3).f4), .int .i64 ((rd_T68 l0 x54_3).f5)] 68 (0, 0))) ∧ Aside0 (Below w.heap.size w w'))
                                case atStart => exact ⟨(0), (by first | rfl | (simp; done) | (simp [*]; done)), H', ⟨Nat.le_refl _⟩, ⟨by (with_reducible repeat (first | apply Kd.R_alloc | apply Kd.R_drewN | apply Kd.R_drew)); exact HO_5.out⟩, ⟨by (with_reducible repeat (first | apply Kd.R_alloc | apply Kd.R_drewN | apply Kd.R_drew)); exact HO_7.out⟩, ⟨by (with_reducible repeat (first | apply Kd.R_alloc | apply Kd.R_drewN | apply Kd.R_drew)); exact HO_13.out⟩, ⟨by (with_reducible repeat (first | refine blk_drewN ?_ _ | refine blk_drew ?_ | refine blk_alloc ?_ _)); exact BK301.out⟩, ⟨by repeat (first | (with_reducible first | exact HB.out | apply below_alloc | apply pw_below_drewN | apply below_drew1 | refine below_set ?_ GE301.out) | exact HB.out)⟩⟩
                                case round =>
                                  clear H'
                                  try clear c1
                                  try clear c2
                                  try clear p2
                                  try clear c3
                                  try clear p3
                                  try clear q3
                                  try clear hx3
                                  try clear qi3
                                  try clear c4
                                  try clear c5
                                  try clear c6
                                  try clear p6
                                  try clear c7
                                  try clear c8
                                  try clear c8b0
                                  try clear c8b1
                                  try clear c8b2
                                  try clear c19
                                  try clear c27
                                  try clear c27b0
                                  try clear c27b1
                                  try clear c27b2
                                  try clear c30
                                  try clear p30
                                  try clear q30
                                  try clear hx30
                                  try clear c31
                                  try clear c31b0
                                  try clear p31
                                  try clear q31
                                  try clear hx31
                                  try clear qi31
                                  try clear c32
                                  try clear c32b0
                                  try clear c33
                                  try clear c33b0
                                  try clear c34
                                  try clear c36
                                  try clear c36b0
                                  try clear c36b1
                                  try clear c36b2
                                  try clear c39
                                  try clear c40
                                  try clear c42
                                  try clear c43
                                  try clear c44
                                  try clear c45
                                  try clear c51
                                  try clear c51b0
                                  try clear c51b1
                                  try clear c51b2
                                  try clear c53
                                  try clear c53b0
                                  try clear c53b1
                                  try clear c54
                                  try clear c54b0
                                  try clear c54b1
                                  try clear c54b2
                                  try clear c57
                                  try clear c57b0
                                  try clear c57b1
                                  try clear c61
                                  try clear hcz38_0
                                  try clear hcz38_1
                                  try clear hcz38_2
                                  try clear hcz38_3
                                  try clear hcz38_4
                                  try clear hcz38_5
                                  try clear hcz40_0
                                  try clear hcz40_1
                                  try clear hcz40_2
                                  try clear hcz40_3
                                  try clear hcz40_4
                                  try clear hcz40_5
                                  try clear hcz45_0
                                  try clear hcz45_1
                                  try clear hcz45_2
                                  try clear hcz45_3
                                  try clear hcz45_4
                                  try clear hcz45_5
                                  try clear hcz47_0
                                  try clear hcz47_1
                                  try clear hcz47_2
                                  try clear hcz47_3
                                  try clear hcz47_4
                                  try clear hcz47_5
                                  try clear hfz38_0
                                  try clear hfz38_1
                                  try clear hfz38_2
                                  try clear hfz38_3
                                  try clear hfz38_4
                                  try clear hfz38_5
                                  try clear hfz40_0
                                  try clear hfz40_1
                                  try clear hfz40_2
                                  try clear hfz40_3
                                  try clear hfz40_4
                                  try clear hfz40_5
                                  try clear hfz45_0
                                  try clear hfz45_1
                                  try clear hfz45_2
                                  try clear hfz45_3
                                  try clear hfz45_4
                                  try clear hfz45_5
                                  try clear hfz47_0
                                  try clear hfz47_1
                                  try clear hfz47_2
                                  try clear hfz47_3
                                  try clear hfz47_4
                                  try clear hfz47_5
                                  try clear hx300_0
                                  try clear hx300_1
                                  try clear hx300_2
                                  try clear hx300_3
                                  try clear hx300_4
                                  try clear hx300_5
                                  try clear hx310_0
                                  try clear p2
                                  try clear p3
                                  try clear p30
                                  try clear p300
                                  try clear p31
                                  try clear p310
                                  try clear p6
                                  try clear q3
                                  try clear q30
                                  try clear q300
                                  try clear q31
                                  try clear q310
                                  obtain ⟨x107_5, rfl, HA, HK5, HO_5, HO_7, HO_105, BK301, HB⟩ := hrel
                                  cases gk with
                                  | zero => exact absurd HA.out (by simp [metrolablaw52_CalibrateParts.l1])
                                  | succ k5 =>
                                    have H := HA.out
                                    clear HA
                                    simp only [metrolablaw52_CalibrateParts.l1] at H
                                    by_cases c63 : x107_5 < (t305.length : Int)
                                    · rw [if_pos c63] at H
                                      have c63b0 : decide (x107_5 < (t305.length : Int)) = true := decide_eq_true c63
                                      clear c63
                                      by_cases c64 : 0 ≤ x107_5
                                      · rw [if_pos c64] at H
                                        have c64b0 : decide (0 ≤ x107_5) = true := decide_eq_true c64
                                        clear c64
                                        by_cases c65 : x107_5 < (t305.length : Int)
                                        · rw [if_pos c65] at H
                                          have c65b0 : decide (x107_5 < (t305.length : Int)) = true := decide_eq_true c65
                                          clear c65
                                          replace H := Option.bind_eq_some_iff.mp H
                                          obtain ⟨t312, A660, H⟩ := H
                                          replace H : (if t312 = true then (some false) else (metrolablaw52_CalibrateParts.l1 k5 l0 a1 t290 t294 l0 (l0.length : Int) x54_3 t305 (t305.length : Int) (wrap64 (x107_5 + 1)))) = some r := H
                                          have A66 := Aside0.mk A660
                                          clear A660
                                          by_cases c67 : t312 = true
                                          · subst c67
                                            have H1 : (some false) = some r := by rw [if_pos rfl] at H; exact H
                                            clear H
                                            have H := H1
                                            clear H1
                                            obtain rfl := Option.some.inj H
                                            have p311 : 0 ≤ (x107_5 : Int) := of_decide_eq_true (by first | (with_reducible assumption) | assumption)
                                            have q311 : x107_5 < (t305.length : Int) := of_decide_eq_true (by first | (with_reducible assumption) | assumption)
                                            obtain ⟨ad311, e311, hx311_0⟩ := Kd.at_int (Kd.R_reads' HO_105.out).2.2 x107_5 p311 q311
                                            cases e311
                                            replace p311 := eq_true p311
                                            replace q311 := eq_true q311
                                            obtain ⟨Ao68, co68, eo68⟩ := Kd.R_slice HO_7.out
                                            subst eo68
                                            go_wp2_with (first | ((with_reducible refine gate_callee (f := 45) rfl ?_); refine goesL_ (some 113) rfl rfl Try.func45 (by kernel_rfl) rfl #[.slice Ao68 t294.length co68, .int .i64 (rd t305 x107_5)] rfl (by (try simp only [List.map_toArray, List.map_cons, List.map_nil]); first | done | rfl | (simp only [List.length_drop, List.length_take]; rfl)) ?_; (with_reducible refine (slices_Contains_int_int.calls k5 _ _ t294 (rd t305 x107_5) true _ ?side1 ?side2 A66.out).mono ?_); (case side1 => repeat (first | exact (Kd.R_reads' HO_7.out).2.2 | (with_reducible refine Kd.C_alloc ?_ _) | (with_reducible refine Kd.C_drewN ?_ _) | (with_reducible refine Kd.C_drew ?_))); (case side2 => exact (Kd.R_reads' HO_7.out).2.1); rintro e w' ⟨rfl, ⟨nd, rfl⟩⟩; refine ⟨_, rfl, ?_⟩))
                                            go_ret
                                            exact ⟨by first | rfl | (simp [errW_none, errW_some] <;> rfl) | (simp [*, errW_none, errW_some] <;> rfl), by repeat (first | (with_reducible first | exact HB.out | apply below_alloc | apply pw_below_drewN | apply below_drew1 | refine below_set ?_ GE301.out) | exact HB.out)⟩
                                          · replace c67 := Bool.eq_false_iff.mpr c67
                                            subst c67
                                            have H1 : (metrolablaw52_CalibrateParts.l1 k5 l0 a1 t290 t294 l0 (l0.length : Int) x54_3 t305 (t305.length : Int) (wrap64 (x107_5 + 1))) = some r := by rw [if_neg (show ¬ (false = true) by decide)] at H; exact H
                                            clear H
                                            have H := H1
                                            clear H1
                                            have H' := Aside0.mk H
                                            clear H
                                            have p311 : 0 ≤ (x107_5 : Int) := of_decide_eq_true (by first | (with_reducible assumption) | assumption)
                                            have q311 : x107_5 < (t305.length : Int) := of_decide_eq_true (by first | (with_reducible assumption) | assumption)
                                            obtain ⟨ad311, e311, hx311_0⟩ := Kd.at_int (Kd.R_reads' HO_105.out).2.2 x107_5 p311 q311
                                            cases e311
                                            replace p311 := eq_true p311
                                            replace q311 := eq_true q311
                                            obtain ⟨Ao69, co69, eo69⟩ := Kd.R_slice HO_7.out
                                            subst eo69
                                            go_wp2_with (first | ((with_reducible refine gate_callee (f := 45) rfl ?_); refine goesL_ (some 113) rfl rfl Try.func45 (by kernel_rfl) rfl #[.slice Ao69 t294.length co69, .int .i64 (rd t305 x107_5)] rfl (by (try simp only [List.map_toArray, List.map_cons, List.map_nil]); first | done | rfl | (simp only [List.length_drop, List.length_take]; rfl)) ?_; (with_reducible refine (slices_Contains_int_int.calls k5 _ _ t294 (rd t305 x107_5) false _ ?side1 ?side2 A66.out).mono ?_); (case side1 => repeat (first | exact (Kd.R_reads' HO_7.out).2.2 | (with_reducible refine Kd.C_alloc ?_ _) | (with_reducible refine Kd.C_drewN ?_ _) | (with_reducible refine Kd.C_drew ?_))); (case side2 => exact (Kd.R_reads' HO_7.out).2.1); rintro e w' ⟨rfl, ⟨nd, rfl⟩⟩; refine ⟨_, rfl, ?_⟩))
                                            go_roundg k5
                                            case measure => have := HJ2.out; have := HJ23.out; have := HK3.out; have := HJ42.out; have := HK5.out; omega
                                            case rel => exact ⟨(wrap64 (x107_5 + 1)), (by first | rfl | (simp; done) | (simp [*]; done)), H', ⟨by have := HJ2.out; have := HJ23.out; have := HK3.out; have := HJ42.out; have := HK5.out; omega⟩, ⟨by (with_reducible repeat (first | apply Kd.R_alloc | apply Kd.R_drewN | apply Kd.R_drew)); exact HO_5.out⟩, ⟨by (with_reducible repeat (first | apply Kd.R_alloc | apply Kd.R_drewN | apply Kd.R_drew)); exact HO_7.out⟩, ⟨by (with_reducible repeat (first | apply Kd.R_alloc | apply Kd.R_drewN | apply Kd.R_drew)); exact HO_105.out⟩, ⟨by (with_reducible repeat (first | refine blk_drewN ?_ _ | refine blk_drew ?_ | refine blk_alloc ?_ _)); exact BK301.out⟩, ⟨by repeat (first | (with_reducible first | exact HB.out | apply below_alloc | apply pw_below_drewN | apply below_drew1 | refine below_set ?_ GE301.out) | exact HB.out)⟩⟩
                                        · rw [if_neg c65] at H
                                          exact absurd H (by simp)
                                      · rw [if_neg c64] at H
                                        exact absurd H (by simp)
                                    · rw [if_neg c63] at H
                                      have c63b0 : decide (x107_5 < (t305.length : Int)) = false := decide_eq_false c63
                                      clear c63
                                      have H' := Aside0.mk H
                                      clear H
                                      go_wp2
                                      go_roundg k5
                                      case measure => have := HJ2.out; have := HJ23.out; have := HK3.out; have := HJ42.out; have := HK5.out; omega
                                      case rel => exact ⟨(wrap64 (x54_3 + 1)), (by first | rfl | (simp; done) | (simp [*]; done)), H', ⟨by have := HJ2.out; have := HJ23.out; have := HK3.out; have := HJ42.out; have := HK5.out; omega⟩, ⟨by (with_reducible repeat (first | apply Kd.R_alloc | apply Kd.R_drewN | apply Kd.R_drew)); exact HO_5.out⟩, ⟨by (with_reducible repeat (first | apply Kd.R_alloc | apply Kd.R_drewN | apply Kd.R_drew)); exact Kd.R_mono HO_7.out (fun _ hk => trivial)⟩, ⟨by repeat (first | (with_reducible first | exact HB.out | apply below_alloc | apply pw_below_drewN | apply below_drew1 | refine below_set ?_ GE301.out) | exact HB.out)⟩⟩
                      · rw [if_neg c33] at H
                        exact absurd H (by simp)
                    · rw [if_neg c32] at H
                      exact absurd H (by simp)
                  · rw [if_neg c31] at H
                    have c31b0 : decide (x54_3 < (l0.length : Int)) = false := decide_eq_false c31
                    clear c31
                    replace H := Option.bind_eq_some_iff.mp H
                    obtain ⟨t299, A700, H⟩ := H
                    replace H : (some t299) = some r := H
                    have A70 := Aside0.mk A700
                    clear A700
                    obtain rfl := Option.some.inj H
                    go_wp2_with (first | ((with_reducible refine gate_callee (f := 34) rfl ?_); refine goesL_ (some 116) rfl rfl Try.func34 (by kernel_rfl) rfl #[] rfl (by (try simp only [List.map_toArray, List.map_cons, List.map_nil]); first | done | rfl | (simp only [List.length_drop, List.length_take]; rfl)) ?_; (with_reducible refine (metrolablaw52_awake.calls k3  t299 _ A70.out).mono ?_); rintro e w71 ⟨rfl, hb⟩; refine ⟨_, rfl, ?_⟩; have n0_ := Aside0.mk (Kd.R_below (by (with_reducible repeat (first | apply Kd.R_alloc | apply Kd.R_drewN | apply Kd.R_drew)); exact HO_5.out) hb); have n1_ := Aside0.mk (Kd.R_below (by (with_reducible repeat (first | apply Kd.R_alloc | apply Kd.R_drewN | apply Kd.R_drew)); exact HO_7.out) hb); have n2_ := Aside0.mk (below_step (by repeat (first | (with_reducible first | exact HB.out | apply below_alloc | apply pw_below_drewN | apply below_drew1) | exact HB.out)) hb); clear HO_5; clear HO_7; clear HB; have HO_5 := n0_; have HO_7 := n1_; have HB := n2_; clear n0_ n1_ n2_; (try clear hb); (try clear hb2); (try clear hk); (try clear hi)))
                    go_ret
                    exact ⟨by first | rfl | (simp [errW_none, errW_some] <;> rfl) | (simp [*, errW_none, errW_some] <;> rfl), by repeat (first | (with_reducible first | exact HB.out | apply below_alloc | apply pw_below_drewN | apply below_drew1) | exact HB.out)⟩
end Go.Proofs.Ytkgdlbepjmgaiaa.Cal
set_option linter.unusedVariables false
set_option linter.unusedSimpArgs false
namespace Go.Proofs.Ytkgdlbepjmgaiaa.Cal
open Go.RowKit Go.Proofs.YtkgdlbepjmgaiaaW.PrintWords Go.Proofs.YtkgdlbepjmgaiaaW.PrintLast Go.Proofs.YtkgdlbepjmgaiaaW.PrintMore
theorem awk4 : Ev (fun k => (metrolablaw52_awake.f k).bind fun t => some t) true := Ev.bind awake_ev (Ev.now _)
theorem less_eq (a b : ByteArray) : cmp_Less_string.f a b = some (Op.bytesLess (tl a) (tl b)) := by
  unfold cmp_Less_string.f cmp_isNaN_string.f
  simp only [ByteArray.toList_eq, Option.bind_some]
  rw [if_neg (by simp)]
theorem rdOf_get {c : List ByteArray} {i : Nat} (h : i < c.length) : rdOf ByteArray.empty c (i : Int) = c[i] := by simp [rdOf, List.getD_eq_getElem?_getD, h]
theorem sorted_ev (c : List ByteArray) (h : Asc c) (hl : c.length < 2199023255552) : Ev (fun k => slices_IsSorted_string_string.f k c) true := by
  have key : ∀ n : Nat, n < c.length → Ev (fun k => slices_IsSorted_string_string.l0 k c (n : Int)) true := by
    intro n
    induction n with
    | zero =>
      intro hn
      refine Ev.step (fun k => by rw [slices_IsSorted_string_string.l0]) ?_
      exact Ev.e (by decide) (Ev.now _)
    | succ n ih =>
      intro hn
      refine Ev.step (fun k => by rw [slices_IsSorted_string_string.l0]) ?_
      rw [w64p (by omega)]
      simp only [less_eq, Option.bind_some]
      refine Ev.t (by omega) (Ev.t (by omega) (Ev.t (by omega) (Ev.t (by omega) (Ev.t (by omega) (Ev.e ?_ (ih (by omega)))))))
      rw [rdOf_get hn, rdOf_get (show n < c.length by omega)]
      have := List.pairwise_iff_getElem.1 h n (n + 1) (by omega) hn (by omega)
      rw [bl_asym this]
      decide
  unfold slices_IsSorted_string_string.f
  cases hc : c.length with
  | zero =>
    refine Ev.step (fun k => by rw [slices_IsSorted_string_string.l0]) ?_
    exact Ev.e (by decide +kernel) (Ev.now _)
  | succ n =>
    rw [w64p (by omega)]
    exact key n (by omega)
theorem indexS_ev (c : List ByteArray) (x : ByteArray) (hl : c.length < 2199023255552) : ∃ j, Ev (fun k => slices_Index_string_string.f k c x) j ∧ (0 ≤ j ↔ tl x ∈ c.map tl) := by
  have key : ∀ n i : Nat, i + n = c.length → ∃ j, Ev (fun k => slices_Index_string_string.l0 k c x (c.length : Int) (i : Int)) j ∧ (0 ≤ j ↔ tl x ∈ (c.drop i).map tl) := by
    intro n
    induction n with
    | zero =>
      intro i hi
      refine ⟨-1, ?_, ?_⟩
      · refine Ev.step (fun k => by rw [slices_Index_string_string.l0]) ?_
        exact Ev.e (by omega) (Ev.now _)
      · rw [List.drop_of_length_le (by omega)]; simp
    | succ n ih =>
      intro i hi
      have hlt : i < c.length := by omega
      obtain ⟨j, hj, hm⟩ := ih (i + 1) (by omega)
      rw [List.drop_eq_getElem_cons hlt]
      by_cases he : tl x = tl c[i]
      · refine ⟨i, ?_, ?_⟩
        · refine Ev.step (fun k => by rw [slices_Index_string_string.l0]) ?_
          simp only [ByteArray.toList_eq]
          rw [rdOf_get hlt]
          exact Ev.t (by omega) (Ev.t (by omega) (Ev.t (by omega) (Ev.t he (Ev.now _))))
        · simp only [List.map_cons, List.mem_cons]
          exact ⟨fun _ => .inl he, fun _ => by omega⟩
      · refine ⟨j, ?_, ?_⟩
        · refine Ev.step (fun k => by rw [slices_Index_string_string.l0]) ?_
          simp only [ByteArray.toList_eq]
          rw [rdOf_get hlt, w64s (by omega)]
          exact Ev.t (by omega) (Ev.t (by omega) (Ev.t (by omega) (Ev.e he hj)))
        · rw [hm, List.map_cons, List.mem_cons]
          exact ⟨.inr, fun h => h.resolve_left he⟩
  have := key c.length 0 (by omega)
  simpa [slices_Index_string_string.f] using this
theorem containsS_ev (c : List ByteArray) (x : ByteArray) (hl : c.length < 2199023255552) : Ev (fun k => slices_Contains_string_string.f k c x) (decide (tl x ∈ c.map tl)) := by
  obtain ⟨j, hj, hm⟩ := indexS_ev c x hl
  refine Ev.bind hj (Ev.some_eq ?_)
  exact decide_eq_decide.2 hm
theorem indexI_ev (c : List Int) (x : Int) (hl : c.length < 2199023255552) : ∃ j, Ev (fun k => slices_Index_int_int.f k c x) j ∧ (0 ≤ j ↔ x ∈ c) := by
  have key : ∀ n i : Nat, i + n = c.length → ∃ j, Ev (fun k => slices_Index_int_int.l0 k c x (c.length : Int) (i : Int)) j ∧ (0 ≤ j ↔ x ∈ (c.drop i)) := by
    intro n
    induction n with
    | zero =>
      intro i hi
      refine ⟨-1, ?_, ?_⟩
      · refine Ev.step (fun k => by rw [slices_Index_int_int.l0]) ?_
        exact Ev.e (by omega) (Ev.now _)
      · rw [List.drop_of_length_le (by omega)]; simp
    | succ n ih =>
      intro i hi
      have hlt : i < c.length := by omega
      obtain ⟨j, hj, hm⟩ := ih (i + 1) (by omega)
      rw [List.drop_eq_getElem_cons hlt]
      by_cases he : x = c[i]
      · refine ⟨i, ?_, ?_⟩
        · refine Ev.step (fun k => by rw [slices_Index_int_int.l0]) ?_
          rw [rd_get hlt]
          exact Ev.t (by omega) (Ev.t (by omega) (Ev.t (by omega) (Ev.t he (Ev.now _))))
        · rw [List.mem_cons]
          exact ⟨fun _ => .inl he, fun _ => by omega⟩
      · refine ⟨j, ?_, ?_⟩
        · refine Ev.step (fun k => by rw [slices_Index_int_int.l0]) ?_
          rw [rd_get hlt, w64s (by omega)]
          exact Ev.t (by omega) (Ev.t (by omega) (Ev.t (by omega) (Ev.e he hj)))
        · rw [hm, List.mem_cons]
          exact ⟨.inr, fun h => h.resolve_left he⟩
  have := key c.length 0 (by omega)
  simpa [slices_Index_int_int.f] using this
theorem containsI_ev (c : List Int) (x : Int) (hl : c.length < 2199023255552) : Ev (fun k => slices_Contains_int_int.f k c x) (decide (x ∈ c)) := by
  obtain ⟨j, hj, hm⟩ := indexI_ev c x hl
  refine Ev.bind hj (Ev.some_eq ?_)
  exact decide_eq_decide.2 hm
theorem walk_from {l : List S68} (hr : ∀ i : Nat, i < l.length → Rec (rd_T68 l i)) : ∀ {c : List Int} {nm : ByteArray} {on : Int}, Walk l nm on c → c.Nodup → ∀ x ∈ c, ∃ (j : Nat) (t : List Int), x = (j : Int) ∧ j < l.length ∧ Walk l (rd_T68 l j).f0 (rd_T68 l j).f4 t ∧ t.Nodup
  | [], _, _, h, _, _, _ => h.elim
  | i :: t, nm, on, ⟨j, e, hj, hf, h⟩, hn, x, hx => by
    rcases List.mem_cons.1 hx with rfl | g
    · exact ⟨j, x :: t, e, hj, ⟨j, e, hj, ⟨rfl, Int.le_refl _, (hr j hj).d2⟩, h⟩, hn⟩
    · rcases h with ⟨_, rfl⟩ | ⟨_, h⟩
      · cases g
      · exact walk_from hr h (List.nodup_cons.1 hn).2 x g
theorem folOf_fail {l : List S68} {nm : ByteArray} {on : Int} (h : (folOf l nm on).2 ≠ 0) : (folOf l nm on).1 = [] := folV_fail _ _ _ _ h
theorem CalibrateParts_pure (l0 : List S68) (a1 : Int) (y0 : l0.length * 64 ≤ 140737488351232) : ∃ k, metrolablaw52_CalibrateParts.f k l0 a1 = some true := by
  have hl : l0.length < 2199023255552 := by omega
  obtain ⟨b, hb⟩ := few_some l0 ⟨#[]⟩ hl
  refine Ev.rounds (g := fun k => metrolablaw52_CalibrateParts.f k l0 a1) ?_
  unfold metrolablaw52_CalibrateParts.f
  have jt : Ev (fun k => metrolablaw52_CalibrateParts.j0 k l0 a1 true) true := by
    refine Ev.step (fun k => by rw [metrolablaw52_CalibrateParts.j0]) ?_
    exact Ev.t rfl awk4
  refine Ev.bind hb (Ev.ite (fun _ => Ev.bind (own_ev l0 hl) (Ev.bind (RCheck_ev l0 hl) (Ev.ite (fun h0 => ?_) (fun _ => jt)))) (fun _ => jt))
  simp only [rday_eq, Option.bind_some]
  by_cases hday : dayV a1 = 0
  case neg =>
    rw [show (dayV a1 != 0) = true by simpa using hday]
    exact jt
  rw [hday]
  obtain ⟨hlen, ho, hrec⟩ := chkV_ok h0
  obtain ⟨c1, c2, c3, c4⟩ := cp_inv ho a1 l0.length (Nat.le_refl _)
  rw [List.take_of_length_le (Nat.le_refl _)] at c1 c2 c3 c4
  have hd : dueV l0 a1 = (Hand.cpF (dueN l0 a1 l0), 0) := by unfold dueV; rw [if_pos h0, if_pos hday]
  have hk : brkV l0 = (bkG l0 0 l0.length, 0) := by unfold brkV; rw [if_pos h0]
  have hdl : (Hand.cpF (dueN l0 a1 l0)).length < 2199023255552 := by
    have := Hand.cpF_length_le (dueN l0 a1 l0)
    have : (dueN l0 a1 l0).length ≤ l0.length := by unfold dueN; rw [List.length_map]; exact List.length_filter_le _ _
    omega
  have hkl : (bkG l0 0 l0.length).length < 2199023255552 := by have := bkG_len (l := l0) l0.length 0; omega
  refine Ev.step (fun k => by rw [show ((0 : Int) != 0) = false from rfl, metrolablaw52_CalibrateParts.j0]) ?_
  refine Ev.e (by decide) (Ev.bind (Due_ev l0 hl a1) ?_)
  rw [hd]
  refine Ev.bind (Broken_ev l0 hl) ?_
  rw [hk]
  refine Ev.t (show wrap64 ((0 : Int) + 0) = 0 by decide +kernel) (Ev.bind (sorted_ev _ c1 hdl) ?_)
  refine Ev.step (fun k => by rw [show (!true) = false from rfl, metrolablaw52_CalibrateParts.j1]) ?_
  refine Ev.e (by decide) ?_
  have key : ∀ n i : Nat, i + n = l0.length → Ev (fun k => metrolablaw52_CalibrateParts.l0 k l0 a1 (Hand.cpF (dueN l0 a1 l0)) (bkG l0 0 l0.length) l0 (l0.length : Int) (i : Int)) true := by
    intro n
    induction n with
    | zero =>
      intro i hi
      refine Ev.step (fun k => by rw [metrolablaw52_CalibrateParts.l0]) ?_
      exact Ev.e (by omega) awk4
    | succ n ih =>
      intro i hi
      have hlt : i < l0.length := by omega
      refine Ev.step (fun k => by rw [metrolablaw52_CalibrateParts.l0]) ?_
      refine Ev.t (by omega) (Ev.t (by omega) (Ev.t (by omega) (Ev.bind (Valid_ev l0 hl _ _) (Ev.bind (containsS_ev _ _ hdl) ?_))))
      have hv : valVV l0 (rd_T68 l0 (i : Int)).f0 a1 = placeV l0 (rd_T68 l0 (i : Int)).f0 a1 := by unfold valVV; rw [if_pos h0, if_pos hday]
      rw [hv]
      have hm : tl (rd_T68 l0 (i : Int)).f0 ∈ (Hand.cpF (dueN l0 a1 l0)).map tl ↔ (placeV l0 (rd_T68 l0 (i : Int)).f0 a1).2 ≠ 0 := by
        constructor
        · intro h
          obtain ⟨e, he, hq⟩ := List.mem_map.1 h
          obtain ⟨t, _, _, g⟩ := c3 e he
          have : e = (rd_T68 l0 (i : Int)).f0 := by
            cases e with | mk a => ?_
            obtain ⟨b, hb⟩ : ∃ b, (rd_T68 l0 (i : Int)).f0 = b := ⟨_, rfl⟩
            rw [hb] at hq ⊢
            cases b with | mk b => ?_
            have : a = b := Array.toList_inj.1 hq
            rw [this]
          rw [← this]
          exact g
        · exact c4 i hlt
      refine Ev.e ?_ ?_
      · by_cases hp : (placeV l0 (rd_T68 l0 (i : Int)).f0 a1).2 = 0
        · rw [decide_eq_false (fun h => hm.1 h hp), hp]; decide
        · rw [decide_eq_true (hm.2 hp), show ((placeV l0 (rd_T68 l0 (i : Int)).f0 a1).2 != 0) = true by simpa using hp]; decide
      have hrc := hrec i hlt
      have hfit : Fits (rd_T68 l0 (i : Int)) (rd_T68 l0 (i : Int)).f0 (rd_T68 l0 (i : Int)).f4 := ⟨rfl, Int.le_refl _, hrc.d2⟩
      have hpl := placeV_fits ho hlt hfit
      have hch : chV l0 (rd_T68 l0 (i : Int)).f0 (rd_T68 l0 (i : Int)).f4 = folOf l0 (rd_T68 l0 (i : Int)).f0 (rd_T68 l0 (i : Int)).f4 := by
        have hd2 : dayV (rd_T68 l0 (i : Int)).f4 = 0 := by
          have := hrc.d1; have := hrc.d2; have := hrc.d3
          unfold dayV inV
          rw [if_pos (by simp; omega)]
        have hv2 : (valVV l0 (rd_T68 l0 (i : Int)).f0 (rd_T68 l0 (i : Int)).f4).2 = 0 := by
          unfold valVV
          rw [if_pos h0, if_pos hd2, hpl]
        unfold chV
        rw [if_pos hv2]
      refine Ev.bind (Chain_ev l0 hl _ _) (Ev.bind (containsI_ev _ _ hkl) ?_)
      rw [hch]
      have hbm : ((i : Int) ∈ bkG l0 0 l0.length) ↔ (folOf l0 (rd_T68 l0 (i : Int)).f0 (rd_T68 l0 (i : Int)).f4).2 ≠ 0 := by
        rw [bkG_mem]
        constructor
        · rintro ⟨t, e, _, _, g⟩
          have : t = i := by omega
          rw [← this]; exact g
        · intro h; exact ⟨i, rfl, Nat.zero_le _, by omega, h⟩
      have inner : ∀ c : List Int, c.length < 4611686018427387904 → (∀ x ∈ c, x ∉ bkG l0 0 l0.length) → Ev (fun k => metrolablaw52_CalibrateParts.j3 k l0 a1 (Hand.cpF (dueN l0 a1 l0)) (bkG l0 0 l0.length) c l0 (l0.length : Int) (i : Int) false) true := by
        intro c hc hx
        have go : ∀ m p : Nat, p + m = c.length → Ev (fun k => metrolablaw52_CalibrateParts.l1 k l0 a1 (Hand.cpF (dueN l0 a1 l0)) (bkG l0 0 l0.length) l0 (l0.length : Int) (i : Int) c (c.length : Int) (p : Int)) true := by
          intro m
          induction m with
          | zero =>
            intro p hp
            refine Ev.step (fun k => by rw [metrolablaw52_CalibrateParts.l1]) ?_
            rw [w64s (n := i) (by omega)]
            exact Ev.e (by omega) (ih (i + 1) (by omega))
          | succ m im =>
            intro p hp
            have hpl : p < c.length := by omega
            refine Ev.step (fun k => by rw [metrolablaw52_CalibrateParts.l1]) ?_
            rw [w64s (n := p) (by omega), rd_get hpl]
            refine Ev.t (by omega) (Ev.t (by omega) (Ev.t (by omega) (Ev.bind (containsI_ev _ _ hkl) (Ev.e ?_ (im (p + 1) (by omega))))))
            rw [decide_eq_false (hx _ (List.getElem_mem hpl))]
            decide
        refine Ev.step (fun k => by rw [metrolablaw52_CalibrateParts.j3]) ?_
        exact Ev.e (by decide) (go c.length 0 (by omega))
      by_cases hf : (folOf l0 (rd_T68 l0 (i : Int)).f0 (rd_T68 l0 (i : Int)).f4).2 = 0
      · rw [decide_eq_false (fun h => hbm.1 h hf)]
        obtain ⟨hw, hn⟩ := folOf_ok (r := Prod.fst (folOf l0 (rd_T68 l0 (i : Int)).f0 (rd_T68 l0 (i : Int)).f4)) (Prod.ext rfl hf)
        obtain ⟨c, hc⟩ : ∃ c, Prod.fst (folOf l0 (rd_T68 l0 (i : Int)).f0 (rd_T68 l0 (i : Int)).f4) = c := ⟨_, rfl⟩
        rw [hc] at hw hn
        rw [hf, hc]
        have hcl := nodup_len _ _ hn hw.range
        have hpos := List.length_pos_iff.2 hw.ne
        refine Ev.e (by decide) (Ev.t rfl (Ev.e (by omega) (Ev.t (by omega) ?_)))
        have h0c : rd c 0 = (i : Int) := by
          cases c with
          | nil => exact hw.elim
          | cons x t =>
            obtain ⟨j, rfl, hj, hfj, _⟩ := hw
            have := ho.one hj hlt hfj hfit
            rw [this]; rfl
        rw [h0c, show ((i : Int) != (i : Int)) = false by simp]
        refine inner c (by omega) (fun x hx hin => ?_)
        obtain ⟨j, t, rfl, hj, hw2, hn2⟩ := walk_from hrec hw hn x hx
        rw [bkG_mem] at hin
        obtain ⟨t', e, _, _, g⟩ := hin
        obtain rfl : j = t' := by omega
        rw [folOf_of ho hw2 hn2] at g
        exact g rfl
      · rw [decide_eq_true (hbm.2 hf), show ((folOf l0 (rd_T68 l0 (i : Int)).f0 (rd_T68 l0 (i : Int)).f4).2 != 0) = true by simpa using hf, folOf_fail hf]
        exact Ev.e (by decide) (Ev.e hf (inner [] (by decide) (fun x hx => by cases hx)))
  exact key l0.length 0 (by omega)
end Go.Proofs.Ytkgdlbepjmgaiaa.Cal
set_option linter.unusedVariables false
set_option linter.unusedSimpArgs false
namespace Go.Proofs.Ytkgdlbepjmgaiaa.Row
open Go.RowKit Go.Proofs.YtkgdlbepjmgaiaaW.PrintWords
def Opens {α : Type} (P : Program) (k : Kd α) (t : TypeId) (Q : α → Prop) : Prop :=
  ∀ (H : Type) (enc : TypeId × Value → H) (w : World) (base : Nat) (spare : Nat → Bool) (held : Bool) (fuel : Nat) (cs : List Value) (x : DataW H × List MemPlace),
    DataW.trod enc P w base spare held fuel t cs = some x → ∃ a, k.K w a cs ∧ Q a
variable {P : Program}
theorem opens_int {t : TypeId} {q : IntKind} (ht : P.underlying t = some (.int q)) : Opens P (Kd.int q) t (fun n => (Lit.int q n).wf = true) := by
  intro H enc w base spare held fuel cs x h
  obtain ⟨n, rfl, _, hw⟩ := DataW.trod_int ht h
  exact ⟨n, rfl, hw⟩
theorem opens_bool {t : TypeId} (ht : P.underlying t = some .bool) : Opens P Kd.bool t (fun _ => True) := by
  intro H enc w base spare held fuel cs x h
  obtain ⟨n, rfl, _⟩ := DataW.trod_bool ht h
  exact ⟨n, rfl, trivial⟩
theorem opens_string {t : TypeId} (ht : P.underlying t = some .string) : Opens P Kd.string t (fun s => s.size ≤ maxLen) := by
  intro H enc w base spare held fuel cs x h
  obtain ⟨n, rfl, _, hw⟩ := DataW.trod_string ht h
  exact ⟨n, rfl, hw⟩
theorem cells_get {w : World} {base : Nat} {a : Addr} {n : Nat} {c : List Value} (h : w.cells? base a n = some c) : c.length = n ∧ ∀ i u, c[i]? = some u → w.cell? (a.add i) = some u := by
  unfold World.cells? at h
  split at h
  case isFalse => cases h
  have hl : c.length = n := by simpa using mapM_some_length h
  refine ⟨hl, fun i u hi => ?_⟩
  have hlt : i < n := by rw [← hl]; exact (List.getElem?_eq_some_iff.1 hi).1
  rw [← hi]
  exact mapM_some_get h i i (by simp [hlt])
theorem list_of {α : Type} {R : Nat → α → Prop} : ∀ n, (∀ i, i < n → ∃ a, R i a) → ∃ l : List α, l.length = n ∧ ∀ i a, l[i]? = some a → R i a
  | 0, _ => ⟨[], rfl, fun i a h => by simp at h⟩
  | n + 1, h => by
    obtain ⟨l, hl, hr⟩ := list_of n (fun i hi => h i (by omega))
    obtain ⟨a, ha⟩ := h n (by omega)
    refine ⟨l ++ [a], by simp [hl], fun i b hi => ?_⟩
    rcases Nat.lt_or_ge i n with hlt | hge
    · rw [List.getElem?_append_left (by omega)] at hi
      exact hr i b hi
    · have hi' : i < (l ++ [a]).length := (List.getElem?_eq_some_iff.1 hi).1
      obtain rfl : i = n := by simp [hl] at hi'; omega
      rw [List.getElem?_append_right (by omega), hl] at hi
      simp at hi
      subst hi
      exact ha
theorem opens_slice {α : Type} {d : Kd α} {t e : TypeId} {Q : α → Prop} (ht : P.underlying t = some (.slice e)) (hs : P.cellsOf e = d.sz) (h : Opens P d e Q) : Opens P (Kd.slice e d) t (fun xs => xs.length ≤ maxLen ∧ ∀ x ∈ xs, Q x) := by
  intro H enc w base spare held fuel cs x hx
  rcases DataW.trod_slice ht hx with ⟨rfl, rfl⟩ | ⟨a, len, cap, elems, rest, n, _, rfl, rfl, hb, hl, hm, hlen, hel, _, _⟩
  · exact ⟨[], ⟨none, 0, rfl, Nat.le_refl _, rfl, by simp, fun h => absurd h (by simp)⟩, by simp, by simp⟩
  · have each : ∀ i, i < len → ∃ a', Q a' ∧ ∃ c, c.length = d.sz ∧ d.K w a' c ∧ ∀ j u, c[j]? = some u → w.cell? (a.add (i * d.sz + j)) = some u := by
      intro i hi
      have h1 := hel i hi
      have hy : ∃ y, elems[i]? = some y := ⟨elems[i]'(by omega), List.getElem?_eq_getElem (by omega)⟩
      obtain ⟨y, hy⟩ := hy
      rw [hy, Option.bind_eq_some_iff] at h1
      obtain ⟨c, hc, hr⟩ := h1
      obtain ⟨a', hK, hQ⟩ := h H enc w base spare held n c y hr
      obtain ⟨hcl, hcc⟩ := cells_get hc
      refine ⟨a', hQ, c, d.K_len hK, hK, fun j u hj => ?_⟩
      have := hcc j u hj
      rw [hs, add_add] at this
      exact this
    obtain ⟨xs, hxl, hxs⟩ := list_of len each
    refine ⟨xs, ⟨some a, cap, by rw [hxl], by omega, ⟨rfl, by unfold maxLen at hm; omega, fun _ => ⟨a, rfl, fun j p hp => (hxs j p hp).2⟩⟩⟩, by omega, fun x hx => ?_⟩
    obtain ⟨j, hj⟩ := List.getElem?_of_mem hx
    exact (hxs j x hj).1
def OpensF {α : Type} (P : Program) (k : Kd α) (fs : List Field) (off : Nat) (Q : α → Prop) : Prop :=
  ∀ (H : Type) (enc : TypeId × Value → H) (w : World) (base : Nat) (spare : Nat → Bool) (held : Bool) (n : Nat) (cs : List Value),
    cs.length = off + k.sz → (∀ f ∈ fs, ∃ y, DataW.trod enc P w base spare held n f.type ((cs.drop f.offset).take (P.cellsOf f.type)) = some y) → ∃ a, k.K w a (cs.drop off) ∧ Q a
theorem opensF_one {α : Type} {k : Kd α} {f : Field} {off : Nat} {Q : α → Prop} (ho : f.offset = off) (hs : P.cellsOf f.type = k.sz) (h : Opens P k f.type Q) : OpensF P k [f] off Q := by
  intro H enc w base spare held n cs hl hf
  obtain ⟨y, hy⟩ := hf f (by simp)
  obtain ⟨a, hK, hQ⟩ := h H enc w base spare held n _ y hy
  refine ⟨a, ?_, hQ⟩
  rw [ho, hs, List.take_of_length_le (by simp; omega)] at hK
  exact hK
theorem opensF_cons {α β : Type} {a : Kd α} {b : Kd β} {f : Field} {fs : List Field} {off : Nat} {Q : α → Prop} {R : β → Prop} (ho : f.offset = off) (hs : P.cellsOf f.type = a.sz) (h : Opens P a f.type Q) (hr : OpensF P b fs (off + a.sz) R) :
    OpensF P (Kd.pair a b) (f :: fs) off (fun x => Q x.1 ∧ R x.2) := by
  intro H enc w base spare held n cs hl hf
  have hl' : cs.length = off + (a.sz + b.sz) := hl
  obtain ⟨y, hy⟩ := hf f (by simp)
  obtain ⟨x, hK, hQ⟩ := h H enc w base spare held n _ y hy
  obtain ⟨z, hK2, hR⟩ := hr H enc w base spare held n cs (by omega) (fun g hg => hf g (by simp [hg]))
  refine ⟨(x, z), ⟨(cs.drop off).take a.sz, cs.drop (off + a.sz), ?_, ?_, hK2⟩, hQ, hR⟩
  · rw [← List.drop_drop, List.take_append_drop]
  · rw [ho, hs] at hK; exact hK
theorem opens_struct {α β : Type} {k : Kd α} {t : TypeId} {fs : Array Field} {Q : α → Prop} {g : β → α} {R : β → Prop} (ht : P.underlying t = some (.struct fs)) (hs : P.cellsOf t = k.sz) (h : OpensF P k fs.toList 0 Q)
    (hg : ∀ a, Q a → ∃ b, g b = a ∧ R b) : Opens P (Kd.iso k g) t R := by
  intro H enc w base spare held fuel cs x hx
  obtain ⟨xs, n, _, _, hl, hlen, hf⟩ := DataW.trod_struct ht hx
  obtain ⟨a, hK, hQ⟩ := h H enc w base spare held n cs (by omega) (fun f hf' => by
    obtain ⟨i, hi⟩ := List.getElem?_of_mem hf'
    have h1 := hf i f (by simpa using hi)
    have hlt : i < xs.length := by
      have := (List.getElem?_eq_some_iff.1 hi).1
      rw [hlen]; simpa using this
    exact ⟨xs[i], by rw [h1, List.getElem?_eq_getElem hlt]⟩)
  obtain ⟨b, rfl, hR⟩ := hg a hQ
  refine ⟨b, ?_, hR⟩
  show k.K w (g b) cs
  simpa using hK
theorem sized_rows {H : Type} {enc : TypeId × Value → H} {w : World} {base : Nat} {spare : Nat → Bool} {held : Bool} {ts : List TypeId} {ds : List (DataW H)} {j : Nat} {t e : TypeId} {A : Option Addr} {n c bytes : Nat} {d : DataW H} {p : List MemPlace}
    (hsz : (DataW.weightsEach P ts ds).all (· ≤ reachBytes) = true) (ht : ts[j]? = some t) (hd : ds[j]? = some d) (hu : P.underlying t = some (.slice e)) (hB : P.bytesOf e = bytes)
    (h : DataW.Trod enc P w base spare held t (.slice A n c) d p) : n * bytes ≤ 140737488351232 := by
  obtain ⟨fuel, hf⟩ := h
  rcases DataW.trod_slice hu hf with ⟨hcs, hx⟩ | ⟨a, len, cap, elems, rest, m, _, hcs, hx, _, hl, _, hlen, _⟩
  · simp [Value.cells] at hcs
    obtain ⟨_, rfl, _⟩ := hcs
    simp
  · simp [Value.cells] at hcs
    obtain ⟨_, rfl, rfl⟩ := hcs
    obtain ⟨hx, _⟩ := Prod.mk.inj hx
    subst hx
    have z := sized_slice hsz ht hd hu
    rw [hB] at z
    have h1 : n ≤ (elems.map (·.1)).length + (rest.map (·.1)).length := by simp; omega
    exact Nat.le_trans (Nat.mul_le_mul_right _ h1) z
end Go.Proofs.Ytkgdlbepjmgaiaa.Row
set_option linter.unusedVariables false
namespace Go.Proofs.Ytkgdlbepjmgaiaa.Cal
open Go.RowKit Go.Proofs.YtkgdlbepjmgaiaaW.PrintWords Go.Proofs.Ytkgdlbepjmgaiaa.Row
theorem o68 : Opens Try.prog k68 68 (fun _ => True) :=
  opens_struct Try.underlying68 (by kernel_rfl)
    (opensF_cons rfl (by kernel_rfl) (opens_string Try.underlying9) (opensF_cons rfl (by kernel_rfl) (opens_string Try.underlying9) (opensF_cons rfl (by kernel_rfl) (opens_int Try.underlying3)
      (opensF_cons rfl (by kernel_rfl) (opens_int Try.underlying3) (opensF_cons rfl (by kernel_rfl) (opens_int Try.underlying3) (opensF_one rfl (by kernel_rfl) (opens_int Try.underlying3)))))))
    (fun a _ => ⟨⟨a.1, a.2.1, a.2.2.1, a.2.2.2.1, a.2.2.2.2.1, a.2.2.2.2.2⟩, rfl, trivial⟩)
theorem o49 : Opens Try.prog (Kd.slice 68 k68) 49 (fun xs => xs.length ≤ maxLen ∧ ∀ x ∈ xs, True) := opens_slice Try.underlying49 (by kernel_rfl) o68
end Go.Proofs.Ytkgdlbepjmgaiaa.Cal
set_option linter.unusedVariables false
set_option linter.unusedSimpArgs false
namespace Go.Proofs.Ytkgdlbepjmgaiaa.calibrateParts
open Go.ChangeShapes Go.WideShapes Go.ChangeAt Go.RowKit
open Go.ChangeMaps (open_string shut_string)
open Go.Proofs.YtkgdlbepjmgaiaaW.PrintWords Go.Proofs.Ytkgdlbepjmgaiaa.Row Go.Proofs.Ytkgdlbepjmgaiaa.Cal
theorem own : ownKnob Try.prog.godebug = none := by kernel_rfl
theorem laidOut : laidOutB Try.prog = true := by kernel_rfl
set_option maxRecDepth 100000 in
set_option maxHeartbeats 1000000 in
theorem lifted (os : Os) (started : os.Started) (H : Type) (enc : TypeId × Value → H) :
    ReturnsInHanded {} Try.checked os 7 .any (Rows.calibratePartsSpec.pre6 enc Try.prog Try.f7 Rows.calibratePartsRow.domain false) (Rows.calibratePartsSpec.post enc Try.prog Try.f7 false true false false) := by
  refine returnsInHanded_of_change_sized (C := Try.checked) own started (by kernel_rfl) Try.func7
    (ChangeSpec.witness6 (enc := enc) (C := Try.checked) false ⟨#[], #[.slice none 0 0, .int .i64 0], []⟩ 8 (by kernel_rfl) (by kernel_rfl) (by kernel_rfl) (by kernel_rfl)) ?_
  intro W base args ds gs before hval0 hW hcnd hsz0 _
  have hsz : (DataW.weightsEach Try.prog (Try.f7.params.toList ++ Rows.calibratePartsSpec.plain.varTypes Try.prog) (ds ++ gs)).all (· ≤ reachBytes) = true := hsz0
  have hval : ∀ (j : Nat) t v, Try.f7.params[j]? = some t → args[j]? = some v → Value.okWide Try.prog W .any base t v := hval0
  have hW' := hW
  obtain ⟨p, q, hA0, hV, rfl, hfz, hnd⟩ := hW
  have hA : DataW.TrodAll enc Try.prog W 0 (fun _ => true) true Try.f7.params.toList args.toList ds p := hA0
  rw [Try.params7] at hA hval hsz
  obtain ⟨v0, vs0, d0, ds0, p0, q0, hargs, rfl, rfl, h0, r0⟩ := trodAll_cons hA
  obtain ⟨v1, vs1, d1, ds1, p1, q1, rfl, rfl, rfl, h1, r1⟩ := trodAll_cons r0
  obtain ⟨rfl, rfl, rfl⟩ := trodAll_nil r1
  obtain rfl : args = #[v0, v1] := by cases args; simp_all
  obtain ⟨rfl, rfl⟩ := trodVars_none hV
  have k0 := h0
  have lt0 : ∀ x ∈ p0, x.block < W.heap.size := by obtain ⟨m, hm⟩ := k0; exact DataW.trod_lt m _ _ _ hm
  obtain ⟨a0, len0, cap0, rfl⟩ := okWide_slice Try.underlying49 (hval 0 49 v0 rfl rfl)
  obtain ⟨l0, ⟨A0, c0, hcs0, hlc0, hC0⟩, hml0⟩ : ∃ l, (Kd.slice 68 k68).K W l [.slice a0 len0 cap0] ∧ l.length ≤ maxLen := by obtain ⟨fuel, hf⟩ := h0; obtain ⟨l, hK, hQ⟩ := o49 _ _ _ _ _ _ _ _ _ hf; exact ⟨l, hK, hQ.1⟩
  simp only [List.cons.injEq, Value.slice.injEq, and_true] at hcs0
  obtain ⟨rfl, rfl, rfl⟩ := hcs0
  have y0 : l0.length * 64 ≤ 140737488351232 := sized_rows hsz (j := 0) (t := 49) rfl rfl Try.underlying49 (by kernel_rfl) h0
  have k1 := h1
  have lt1 : ∀ x ∈ p1, x.block < W.heap.size := by obtain ⟨m, hm⟩ := k1; exact DataW.trod_lt m _ _ _ hm
  obtain ⟨a1, rfl, rfl, rfl, w1⟩ := open_int Try.underlying3 (hval 1 3 v1 rfl rfl) h1
  clear hA0 hval0 hsz0 hsz
  obtain ⟨k, hk⟩ := CalibrateParts_pure l0 a1 y0
  refine (metrolablaw52_CalibrateParts.calls k _ _ l0 a1 true W hC0 hlc0 hk).mono fun e W' ⟨he, bel⟩ => ?_
  subst he
  exact ⟨_, rfl, _, _, _, [], _, [], hW', trodAll_mk1 (shut_bool Try.underlying4 _), (trodAll_cons_mk (Below.trod laidOut (by kernel_rfl) (of_decide_eq_true (by kernel_rfl)) k0 bel lt0) (trodAll_cons_mk (Below.trod laidOut (by kernel_rfl) (of_decide_eq_true (by kernel_rfl)) k1 bel lt1) trodAll_mk0)), rfl, bel.frame _, fun h => by cases h⟩
theorem over : Rows.calibratePartsRow.holds Try.pinned (OpenSpec.ofChange Rows.calibratePartsSpec) :=
  OpenClaim.holds_of_wide 7 Try.f7 rfl rfl rfl rfl rfl rfl rfl ⟨rfl, rfl, rfl, rfl, rfl⟩ rfl rfl rfl rfl rfl (by kernel_rfl) Try.func7 (by kernel_rfl)
    (of_decide_eq_true (by kernel_rfl)) (by unfold Func.isWrapper; first | (rw [if_pos (by decide +kernel)]; kernel_rfl) | (rw [if_neg (by decide +kernel)]; exact ⟨rfl, rfl⟩))
    (fun os started H enc _ => lifted os started H enc)
theorem proved : Rows.CalibratePartsSaid := over
#print axioms proved
end Go.Proofs.Ytkgdlbepjmgaiaa.calibrateParts
namespace Go.Proofs.Ytkgdlbepjmgaiaa
theorem calibrateParts_holds : Rows.CalibratePartsSaid := calibrateParts.proved
end Go.Proofs.Ytkgdlbepjmgaiaa
