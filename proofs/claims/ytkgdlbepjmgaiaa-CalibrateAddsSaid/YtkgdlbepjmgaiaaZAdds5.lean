/- Part 5 of the texts behind the last one of this claim. -/
import Derived.Test.YtkgdlbepjmgaiaaZAdds4
namespace Go.Proofs.Ytkgdlbepjmgaiaa.Cal
open Go.RowKit Go.Proofs.YtkgdlbepjmgaiaaW.PrintWords Go.Proofs.YtkgdlbepjmgaiaaW.PrintLast Go.Proofs.YtkgdlbepjmgaiaaW.PrintMore
attribute [local go_sem] max2_int min2_int max_two min_two max_three min_three max_four min_four
set_option linter.unusedVariables false
set_option linter.unusedSimpArgs false
mutual
def metrolablaw52_CalibrateAdds.j0 : Nat → List (S68) → Int → Bool → ByteArray → Int → Int → Int → Int → Option (Bool)
  | 0, _, _, _, _, _, _, _, _ => none
  | k + 1, x0, x7, x48, x497000, x497001, x497002, x503000, x503001 => if x48 = true then (some false) else (if 0 ≤ x7 then (if x7 < (x0.length : Int) then (if ((rd_T68 x0 x7).f1).toList = ([] : List UInt8) then (metrolablaw52_CalibrateAdds.j1 k x0 x7 x497000 x497001 x497002 x503000 x503001 0 0) else ((calibrate_Error.f k x0 ((rd_T68 x0 x7).f1) ((rd_T68 x0 x7).f4)).bind fun bt510 => (if bt510.2.2 = 0 then (metrolablaw52_CalibrateAdds.j1 k x0 x7 x497000 x497001 x497002 x503000 x503001 bt510.1 bt510.2.1) else (some false)))) else (none)) else (none))
def metrolablaw52_CalibrateAdds.j1 : Nat → List (S68) → Int → ByteArray → Int → Int → Int → Int → Int → Int → Option (Bool)
  | 0, _, _, _, _, _, _, _, _, _ => none
  | k + 1, x0, x7, x497000, x497001, x497002, x503000, x503001, x507000, x507001 => if 0 ≤ x7 then (if x7 < (x0.length : Int) then (if x503000 = (wrap64 ((wrap64 (x507000 + ((rd_T68 x0 x7).f2))) - ((rd_T68 x0 x7).f3))) then (metrolablaw52_CalibrateAdds.j2 k x0 (x503001 != (wrap64 ((wrap64 (x507001 + ((rd_T68 x0 x7).f2))) + ((rd_T68 x0 x7).f3)))) x497000 x497001 x497002 x503000 x503001) else (metrolablaw52_CalibrateAdds.j2 k x0 true x497000 x497001 x497002 x503000 x503001)) else (none)) else (none)
def metrolablaw52_CalibrateAdds.j2 : Nat → List (S68) → Bool → ByteArray → Int → Int → Int → Int → Option (Bool)
  | 0, _, _, _, _, _, _, _ => none
  | k + 1, x0, x107, x497000, x497001, x497002, x503000, x503001 => if x107 = true then (some false) else ((calibrate_Value.f k x0 x497000 x497001 x497002).bind fun bt517 => (if bt517.2.2 = 0 then (if (wrap64 (bt517.1 + x503001)) = x497002 then (if (wrap64 (bt517.2.1 + x503000)) = x497002 then ((metrolablaw52_awake.f k).bind fun t521 => (some t521)) else (some false)) else (some false)) else (if bt517.2.2 = 2 then ((metrolabref17_In.f x497002).bind fun t522 => (if t522 = true then (some false) else ((metrolablaw52_awake.f k).bind fun t523 => (some t523)))) else (some false))))
end
def metrolablaw52_CalibrateAdds.f (k : Nat) (l0 : List (S68)) (a1_0 : ByteArray) (a1_1 : Int) (a1_2 : Int) : Option (Bool) := (metrolablaw52_few.f k l0 a1_0).bind fun t497 => (if t497 = true then ((calibrate_Error.f k l0 a1_0 a1_1).bind fun bt499 => (if bt499.2.2 = 0 then ((calibrate_Valid.f k l0 a1_0 a1_1).bind fun bt504 => (if bt504.2 = 0 then (if bt504.1 < 0 then (metrolablaw52_CalibrateAdds.j0 k l0 bt504.1 true a1_0 a1_1 a1_2 bt499.1 bt499.2.1) else (metrolablaw52_CalibrateAdds.j0 k l0 bt504.1 (decide (bt504.1 ≥ (l0.length : Int))) a1_0 a1_1 a1_2 bt499.1 bt499.2.1)) else (metrolablaw52_CalibrateAdds.j0 k l0 bt504.1 true a1_0 a1_1 a1_2 bt499.1 bt499.2.1))) else ((metrolablaw52_awake.f k).bind fun t503 => (some t503)))) else ((metrolablaw52_awake.f k).bind fun t498 => (some t498)))
theorem metrolablaw52_CalibrateAdds.mono_l : ∀ k, (∀ y0 y1 y2 y3 y4 y5 y6 y7, LeO (metrolablaw52_CalibrateAdds.j0 k y0 y1 y2 y3 y4 y5 y6 y7) (metrolablaw52_CalibrateAdds.j0 (k + 1) y0 y1 y2 y3 y4 y5 y6 y7)) ∧ (∀ y0 y1 y2 y3 y4 y5 y6 y7 y8, LeO (metrolablaw52_CalibrateAdds.j1 k y0 y1 y2 y3 y4 y5 y6 y7 y8) (metrolablaw52_CalibrateAdds.j1 (k + 1) y0 y1 y2 y3 y4 y5 y6 y7 y8)) ∧ (∀ y0 y1 y2 y3 y4 y5 y6, LeO (metrolablaw52_CalibrateAdds.j2 k y0 y1 y2 y3 y4 y5 y6) (metrolablaw52_CalibrateAdds.j2 (k + 1) y0 y1 y2 y3 y4 y5 y6))
  | 0 => ⟨fun _ _ _ _ _ _ _ _ r h => by simp [metrolablaw52_CalibrateAdds.j0] at h, fun _ _ _ _ _ _ _ _ _ r h => by simp [metrolablaw52_CalibrateAdds.j1] at h, fun _ _ _ _ _ _ _ r h => by simp [metrolablaw52_CalibrateAdds.j2] at h⟩
  | k + 1 => by
    obtain ⟨ih0, ih1, ih2⟩ := metrolablaw52_CalibrateAdds.mono_l k
    refine ⟨?_, ?_, ?_⟩
    · intro y0 y1 y2 y3 y4 y5 y6 y7
      unfold metrolablaw52_CalibrateAdds.j0
      repeat' first
      | (with_reducible exact ih0 _ _ _ _ _ _ _ _)
      | (with_reducible exact ih1 _ _ _ _ _ _ _ _ _)
      | (with_reducible exact ih2 _ _ _ _ _ _ _)
      | (with_reducible exact calibrate_Error.mono _ _ _ _)
      | (with_reducible exact calibrate_Valid.mono _ _ _ _)
      | (with_reducible exact calibrate_Value.mono _ _ _ _ _)
      | (with_reducible exact metrolablaw52_awake.mono _)
      | (with_reducible exact metrolablaw52_few.mono _ _ _)
      | (with_reducible exact LeO.refl _)
      | (with_reducible exact LeO.none _)
      | (with_reducible refine LeO.ite ?_ ?_)
      | (with_reducible refine LeO.bind ?_ (fun _ => ?_))
      | exact ih0 _ _ _ _ _ _ _ _
      | exact ih1 _ _ _ _ _ _ _ _ _
      | exact ih2 _ _ _ _ _ _ _
      | exact calibrate_Error.mono _ _ _ _
      | exact calibrate_Valid.mono _ _ _ _
      | exact calibrate_Value.mono _ _ _ _ _
      | exact metrolablaw52_awake.mono _
      | exact metrolablaw52_few.mono _ _ _
      | exact LeO.none _
      | refine LeO.ite ?_ ?_
      | refine LeO.bind ?_ (fun _ => ?_)
    · intro y0 y1 y2 y3 y4 y5 y6 y7 y8
      unfold metrolablaw52_CalibrateAdds.j1
      repeat' first
      | (with_reducible exact ih0 _ _ _ _ _ _ _ _)
      | (with_reducible exact ih1 _ _ _ _ _ _ _ _ _)
      | (with_reducible exact ih2 _ _ _ _ _ _ _)
      | (with_reducible exact calibrate_Error.mono _ _ _ _)
      | (with_reducible exact calibrate_Valid.mono _ _ _ _)
      | (with_reducible exact calibrate_Value.mono _ _ _ _ _)
      | (with_reducible exact metrolablaw52_awake.mono _)
      | (with_reducible exact metrolablaw52_few.mono _ _ _)
      | (with_reducible exact LeO.refl _)
      | (with_reducible exact LeO.none _)
      | (with_reducible refine LeO.ite ?_ ?_)
      | (with_reducible refine LeO.bind ?_ (fun _ => ?_))
      | exact ih0 _ _ _ _ _ _ _ _
      | exact ih1 _ _ _ _ _ _ _ _ _
      | exact ih2 _ _ _ _ _ _ _
      | exact calibrate_Error.mono _ _ _ _
      | exact calibrate_Valid.mono _ _ _ _
      | exact calibrate_Value.mono _ _ _ _ _
      | exact metrolablaw52_awake.mono _
      | exact metrolablaw52_few.mono _ _ _
      | exact LeO.none _
      | refine LeO.ite ?_ ?_
      | refine LeO.bind ?_ (fun _ => ?_)
    · intro y0 y1 y2 y3 y4 y5 y6
      unfold metrolablaw52_CalibrateAdds.j2
      repeat' first
      | (with_reducible exact ih0 _ _ _ _ _ _ _ _)
      | (with_reducible exact ih1 _ _ _ _ _ _ _ _ _)
      | (with_reducible exact ih2 _ _ _ _ _ _ _)
      | (with_reducible exact calibrate_Error.mono _ _ _ _)
      | (with_reducible exact calibrate_Valid.mono _ _ _ _)
      | (with_reducible exact calibrate_Value.mono _ _ _ _ _)
      | (with_reducible exact metrolablaw52_awake.mono _)
      | (with_reducible exact metrolablaw52_few.mono _ _ _)
      | (with_reducible exact LeO.refl _)
      | (with_reducible exact LeO.none _)
      | (with_reducible refine LeO.ite ?_ ?_)
      | (with_reducible refine LeO.bind ?_ (fun _ => ?_))
      | exact ih0 _ _ _ _ _ _ _ _
      | exact ih1 _ _ _ _ _ _ _ _ _
      | exact ih2 _ _ _ _ _ _ _
      | exact calibrate_Error.mono _ _ _ _
      | exact calibrate_Valid.mono _ _ _ _
      | exact calibrate_Value.mono _ _ _ _ _
      | exact metrolablaw52_awake.mono _
      | exact metrolablaw52_few.mono _ _ _
      | exact LeO.none _
      | refine LeO.ite ?_ ?_
      | refine LeO.bind ?_ (fun _ => ?_)
theorem metrolablaw52_CalibrateAdds.mono : ∀ a0 a1 a2 a3 k, LeO (metrolablaw52_CalibrateAdds.f k a0 a1 a2 a3) (metrolablaw52_CalibrateAdds.f (k + 1) a0 a1 a2 a3) := by
  intro a0 a1 a2 a3 k
  obtain ⟨ih0, ih1, ih2⟩ := metrolablaw52_CalibrateAdds.mono_l k
  unfold metrolablaw52_CalibrateAdds.f
  repeat' first
      | (with_reducible exact ih0 _ _ _ _ _ _ _ _)
      | (with_reducible exact ih1 _ _ _ _ _ _ _ _ _)
      | (with_reducible exact ih2 _ _ _ _ _ _ _)
      | (with_reducible exact calibrate_Error.mono _ _ _ _)
      | (with_reducible exact calibrate_Valid.mono _ _ _ _)
      | (with_reducible exact calibrate_Value.mono _ _ _ _ _)
      | (with_reducible exact metrolablaw52_awake.mono _)
      | (with_reducible exact metrolablaw52_few.mono _ _ _)
      | (with_reducible exact LeO.refl _)
      | (with_reducible exact LeO.none _)
      | (with_reducible refine LeO.ite ?_ ?_)
      | (with_reducible refine LeO.bind ?_ (fun _ => ?_))
      | exact ih0 _ _ _ _ _ _ _ _
      | exact ih1 _ _ _ _ _ _ _ _ _
      | exact ih2 _ _ _ _ _ _ _
      | exact calibrate_Error.mono _ _ _ _
      | exact calibrate_Valid.mono _ _ _ _
      | exact calibrate_Value.mono _ _ _ _ _
      | exact metrolablaw52_awake.mono _
      | exact metrolablaw52_few.mono _ _ _
      | exact LeO.none _
      | refine LeO.ite ?_ ?_
      | refine LeO.bind ?_ (fun _ => ?_)
def metrolablaw52_CalibrateAdds.T11 : Bool × List (List Nat × List Nat) := (true, [([], []), ([], []), ([], []), ([1, 2], [1, 2]), ([3], [3]), ([4], [4]), ([], []), ([], []), ([6, 7], [6, 7]), ([8], [8]), ([9], [9]), ([0, 5, 10], [0, 5, 10]), ([11], [11]), ([12], [12]), ([12], [12]), ([13, 11, 0, 1, 2, 3, 4, 5, 6, 7, 8, 9, 10, 11, 12, 13], [13]), ([14, 15, 0, 1, 2, 3, 4, 5, 6, 7, 8, 9, 10, 11, 12, 13, 14, 15], [14])])
def metrolablaw52_CalibrateAdds.B11 : List Nat := [0, 0, 0, 6, 14, 30, 0, 0, 192, 448, 960, 2047, 4095, 8191, 8191, 16383, 65535]
theorem metrolablaw52_CalibrateAdds.tab11 : rtab .any (opsOf Try.f16 11) = metrolablaw52_CalibrateAdds.T11 := by kernel_rfl
theorem metrolablaw52_CalibrateAdds.bits11 : waitsOk metrolablaw52_CalibrateAdds.T11.2 metrolablaw52_CalibrateAdds.B11 = true := by kernel_rfl
def metrolablaw52_CalibrateAdds.T14 : Bool × List (List Nat × List Nat) := (true, [([], []), ([0], [0]), ([], []), ([2], [2]), ([], []), ([], []), ([4, 5], [4, 5]), ([6], [6]), ([7], [7]), ([3, 8], [3, 8]), ([], []), ([], []), ([10, 11], [10, 11]), ([12], [12]), ([13], [13]), ([9, 14], [9, 14]), ([1, 15], [1, 15]), ([16], [16]), ([17], [17]), ([18, 17], [17, 18]), ([17], [17]), ([20, 17], [17, 20]), ([17], [17]), ([17], [17]), ([22, 23, 17], [17, 22, 23]), ([24, 17], [17, 24]), ([25, 17], [17, 25]), ([21, 26, 17], [17, 21, 26]), ([17], [17]), ([17], [17]), ([28, 29, 17], [17, 28, 29]), ([30, 17], [17, 30]), ([31, 17], [17, 31]), ([27, 32, 17], [17, 27, 32]), ([19, 33, 17], [17, 19, 33]), ([17, 34], [17, 34])])
def metrolablaw52_CalibrateAdds.B14 : List Nat := [0, 1, 0, 4, 0, 0, 48, 112, 240, 508, 0, 0, 3072, 7168, 15360, 32764, 65535, 131071, 262143, 524287, 262143, 1310719, 262143, 262143, 12845055, 29622271, 63176703, 133431295, 262143, 262143, 805568511, 1879310335, 4026793983, 8589148159, 17179869183, 34359738367]
theorem metrolablaw52_CalibrateAdds.tab14 : rtab .any (opsOf Try.f16 14) = metrolablaw52_CalibrateAdds.T14 := by kernel_rfl
theorem metrolablaw52_CalibrateAdds.bits14 : waitsOk metrolablaw52_CalibrateAdds.T14.2 metrolablaw52_CalibrateAdds.B14 = true := by kernel_rfl
set_option maxHeartbeats 8000000 in
set_option maxRecDepth 100000 in
theorem metrolablaw52_CalibrateAdds.calls (k : Nat) (A0 : Option Addr) (c0 : Nat) (l0 : List (S68)) (a1_0 : ByteArray) (a1_1 : Int) (a1_2 : Int) (r : Bool) (w : World) (hr0 : Kd.C k68 w A0 l0.length l0) (hc0 : l0.length ≤ c0) (h : metrolablaw52_CalibrateAdds.f k l0 a1_0 a1_1 a1_2 = some r) :
    Calls Try.prog 16 #[.slice A0 l0.length c0, .agg #[.string a1_0, .int .i64 a1_1, .int .i64 a1_2]] w fun e w' => e = .returned (.bool r) ∧ Below w.heap.size w w' := by
  have hu51 := Try.underlying51
  have hu25 := Try.underlying25
  have HR0 := Aside0.mk hr0
  have HC0 := Aside0.mk hc0
  clear hr0 hc0
  have HB := Aside0.mk (Below.refl w.heap.size w)
  have H : ((metrolablaw52_few.f k l0 a1_0).bind fun t497 => (if t497 = true then ((calibrate_Error.f k l0 a1_0 a1_1).bind fun bt499 => (if bt499.2.2 = 0 then ((calibrate_Valid.f k l0 a1_0 a1_1).bind fun bt504 => (if bt504.2 = 0 then (if bt504.1 < 0 then (metrolablaw52_CalibrateAdds.j0 k l0 bt504.1 true a1_0 a1_1 a1_2 bt499.1 bt499.2.1) else (metrolablaw52_CalibrateAdds.j0 k l0 bt504.1 (decide (bt504.1 ≥ (l0.length : Int))) a1_0 a1_1 a1_2 bt499.1 bt499.2.1)) else (metrolablaw52_CalibrateAdds.j0 k l0 bt504.1 true a1_0 a1_1 a1_2 bt499.1 bt499.2.1))) else ((metrolablaw52_awake.f k).bind fun t503 => (some t503)))) else ((metrolablaw52_awake.f k).bind fun t498 => (some t498)))) = some r := h
  clear h
  replace H := Option.bind_eq_some_iff.mp H
  obtain ⟨t497, A30, H⟩ := H
  replace H : (if t497 = true then ((calibrate_Error.f k l0 a1_0 a1_1).bind fun bt499 => (if bt499.2.2 = 0 then ((calibrate_Valid.f k l0 a1_0 a1_1).bind fun bt504 => (if bt504.2 = 0 then (if bt504.1 < 0 then (metrolablaw52_CalibrateAdds.j0 k l0 bt504.1 true a1_0 a1_1 a1_2 bt499.1 bt499.2.1) else (metrolablaw52_CalibrateAdds.j0 k l0 bt504.1 (decide (bt504.1 ≥ (l0.length : Int))) a1_0 a1_1 a1_2 bt499.1 bt499.2.1)) else (metrolablaw52_CalibrateAdds.j0 k l0 bt504.1 true a1_0 a1_1 a1_2 bt499.1 bt499.2.1))) else ((metrolablaw52_awake.f k).bind fun t503 => (some t503)))) else ((metrolablaw52_awake.f k).bind fun t498 => (some t498))) = some r := H
  have A3 := Aside0.mk A30
  clear A30
  by_cases c4 : t497 = true
  · subst c4
    have H1 : ((calibrate_Error.f k l0 a1_0 a1_1).bind fun bt499 => (if bt499.2.2 = 0 then ((calibrate_Valid.f k l0 a1_0 a1_1).bind fun bt504 => (if bt504.2 = 0 then (if bt504.1 < 0 then (metrolablaw52_CalibrateAdds.j0 k l0 bt504.1 true a1_0 a1_1 a1_2 bt499.1 bt499.2.1) else (metrolablaw52_CalibrateAdds.j0 k l0 bt504.1 (decide (bt504.1 ≥ (l0.length : Int))) a1_0 a1_1 a1_2 bt499.1 bt499.2.1)) else (metrolablaw52_CalibrateAdds.j0 k l0 bt504.1 true a1_0 a1_1 a1_2 bt499.1 bt499.2.1))) else ((metrolablaw52_awake.f k).bind fun t503 => (some t503)))) = some r := by rw [if_pos rfl] at H; exact H
    clear H
    have H := H1
    clear H1
    replace H := Option.bind_eq_some_iff.mp H
    obtain ⟨⟨t499, t500, t501⟩, A50, H⟩ := H
    replace H : (if t501 = 0 then ((calibrate_Valid.f k l0 a1_0 a1_1).bind fun bt504 => (if bt504.2 = 0 then (if bt504.1 < 0 then (metrolablaw52_CalibrateAdds.j0 k l0 bt504.1 true a1_0 a1_1 a1_2 t499 t500) else (metrolablaw52_CalibrateAdds.j0 k l0 bt504.1 (decide (bt504.1 ≥ (l0.length : Int))) a1_0 a1_1 a1_2 t499 t500)) else (metrolablaw52_CalibrateAdds.j0 k l0 bt504.1 true a1_0 a1_1 a1_2 t499 t500))) else ((metrolablaw52_awake.f k).bind fun t503 => (some t503))) = some r := H
    have A5 := Aside0.mk A50
    clear A50
    by_cases c6 : t501 = 0
    · rw [if_pos c6] at H
      have c6b0 : (t501 == 0) = true := beq_iff_eq.mpr c6
      have c6b1 : (t501 != 0) = false := bne_eq_false_iff_eq.mpr c6
      clear c6
      replace H := Option.bind_eq_some_iff.mp H
      obtain ⟨⟨t504, t505⟩, A70, H⟩ := H
      replace H : (if t505 = 0 then (if t504 < 0 then (metrolablaw52_CalibrateAdds.j0 k l0 t504 true a1_0 a1_1 a1_2 t499 t500) else (metrolablaw52_CalibrateAdds.j0 k l0 t504 (decide (t504 ≥ (l0.length : Int))) a1_0 a1_1 a1_2 t499 t500)) else (metrolablaw52_CalibrateAdds.j0 k l0 t504 true a1_0 a1_1 a1_2 t499 t500)) = some r := H
      have A7 := Aside0.mk A70
      clear A70
      have HC8 := Aside0.mk H
      clear H
      go_enter Try.func16, Try.ntmps16
      go_upto_region 7 with (first | ((with_reducible refine gate_dst (N := 3) rfl ?_); (try (refine gate_guard (by rfl) ?_; dsimp only)); refine box_event ?hg (N := 3) ?hd (cs := #[.string a1_0, .int .i64 a1_1, .int .i64 a1_2]) (t := 51) ?hr ?_; (case hd => rfl); (case hg => rfl); (case hr => first | (go_simp; done) | (go_simp; rfl)); intro gb496 hg w9 hbox hb; have n0_ := Aside0.mk (below_step (by repeat (first | (with_reducible first | exact HB.out | apply below_alloc | apply pw_below_drewN | apply below_drew1) | exact HB.out)) hb); have n1_ := Aside0.mk (hbox); have n2_ := Aside0.mk ((by rw [hg]; exact (below_size (by repeat (first | (with_reducible first | exact HB.out | apply below_alloc | apply pw_below_drewN | apply below_drew1) | exact HB.out))) : w.heap.size ≤ gb496)); have n3_ := Aside0.mk ((by rw [hg]; exact (below_size (by repeat (first | (with_reducible first | exact HB.out | apply below_alloc | apply pw_below_drewN | apply below_drew1) | exact HB.out))) : w.heap.size ≤ gb496)); clear HB; have HB := n0_; have BK496 := n1_; have GW496 := n2_; have GE496 := n3_; clear n0_ n1_ n2_ n3_; clear hb hbox hg; have hcz10_0 : w9.cell? ⟨gb496, 0, none⟩ = some (.string a1_0) := (blk_cell BK496.out 0).trans rfl; have hcz10_1 : w9.cell? ⟨gb496, 1, none⟩ = some (.int .i64 a1_1) := (blk_cell BK496.out 1).trans rfl; have hcz10_2 : w9.cell? ⟨gb496, 2, none⟩ = some (.int .i64 a1_2) := (blk_cell BK496.out 2).trans rfl; have hfz10_0 := blk_frozen BK496.out 0; have hfz10_1 := blk_frozen BK496.out 1; have hfz10_2 := blk_frozen BK496.out 2) | ((with_reducible refine gate_callee (f := 32) rfl ?_); refine goesL_ (some 13) rfl rfl Try.func32 (by kernel_rfl) rfl #[.slice A0 l0.length c0, .string a1_0] rfl (by (try simp only [List.map_toArray, List.map_cons, List.map_nil]); first | done | rfl | (simp only [List.length_drop, List.length_take]; rfl)) ?_; (with_reducible refine (metrolablaw52_few.calls k _ _ l0 a1_0 true _ ?side1 ?side2 A3.out).mono ?_); (case side1 => repeat (first | exact (Kd.C_below HR0.out HB.out) | (with_reducible refine Kd.C_alloc ?_ _) | (with_reducible refine Kd.C_drewN ?_ _) | (with_reducible refine Kd.C_drew ?_))); (case side2 => exact HC0.out); rintro e w11 ⟨rfl, hb⟩; refine ⟨_, rfl, ?_⟩; have n0_ := Aside0.mk (blk_below (g := gb496) (o := .cells #[.string a1_0, .int .i64 a1_1, .int .i64 a1_2] 51 (0, 0)) (by (with_reducible repeat (first | refine blk_drewN ?_ _ | refine blk_drew ?_ | refine blk_alloc ?_ _)); exact BK496.out) hb); have n1_ := Aside0.mk (below_step (by repeat (first | (with_reducible first | exact HB.out | apply below_alloc | apply pw_below_drewN | apply below_drew1 | refine below_set ?_ GE496.out) | exact HB.out)) hb); clear BK496; clear HB; have BK496 := n0_; have HB := n1_; clear n0_ n1_; (try clear hb); (try clear hb2); (try clear hk); (try clear hi); have hcz12_0 : w11.cell? ⟨gb496, 0, none⟩ = some (.string a1_0) := (blk_cell BK496.out 0).trans rfl; have hcz12_1 : w11.cell? ⟨gb496, 1, none⟩ = some (.int .i64 a1_1) := (blk_cell BK496.out 1).trans rfl; have hcz12_2 : w11.cell? ⟨gb496, 2, none⟩ = some (.int .i64 a1_2) := (blk_cell BK496.out 2).trans rfl; have hfz12_0 := blk_frozen BK496.out 0; have hfz12_1 := blk_frozen BK496.out 1; have hfz12_2 := blk_frozen BK496.out 2) | ((with_reducible refine gate_callee (f := 61) rfl ?_); refine goesL_ (some 22) rfl rfl Try.func61 (by kernel_rfl) rfl #[.slice A0 l0.length c0, .string a1_0, .int .i64 a1_1] rfl (by (try simp only [List.map_toArray, List.map_cons, List.map_nil]); first | done | rfl | (simp only [List.length_drop, List.length_take]; rfl)) ?_; (with_reducible refine (calibrate_Error.calls k _ _ l0 a1_0 a1_1 t499 t500 t501 _ ?side1 ?side2 A5.out).mono ?_); (case side1 => repeat (first | exact (Kd.C_below HR0.out HB.out) | (with_reducible refine Kd.C_alloc ?_ _) | (with_reducible refine Kd.C_drewN ?_ _) | (with_reducible refine Kd.C_drew ?_))); (case side2 => exact HC0.out); rintro e w13 ⟨rfl, hb⟩; refine ⟨_, rfl, ?_⟩; have n0_ := Aside0.mk (blk_below (g := gb496) (o := .cells #[.string a1_0, .int .i64 a1_1, .int .i64 a1_2] 51 (0, 0)) (by (with_reducible repeat (first | refine blk_drewN ?_ _ | refine blk_drew ?_ | refine blk_alloc ?_ _)); exact BK496.out) hb); have n1_ := Aside0.mk (below_step (by repeat (first | (with_reducible first | exact HB.out | apply below_alloc | apply pw_below_drewN | apply below_drew1 | refine below_set ?_ GE496.out) | exact HB.out)) hb); clear BK496; clear HB; have BK496 := n0_; have HB := n1_; clear n0_ n1_; (try clear hb); (try clear hb2); (try clear hk); (try clear hi)) | ((with_reducible refine gate_dst (N := 5) rfl ?_); (try (refine gate_guard (by rfl) ?_; dsimp only)); refine box_event ?hg (N := 5) ?hd (cs := #[.int .i64 0, .int .i64 0]) (t := 25) ?hr ?_; (case hd => rfl); (case hg => rfl); (case hr => first | (go_simp; done) | (go_simp; rfl)); intro gb502 hg w14 hbox hb; have n0_ := Aside0.mk (blk_below (g := gb496) (o := .cells #[.string a1_0, .int .i64 a1_1, .int .i64 a1_2] 51 (0, 0)) (by (with_reducible repeat (first | refine blk_drewN ?_ _ | refine blk_drew ?_ | refine blk_alloc ?_ _)); exact BK496.out) hb); have n1_ := Aside0.mk (below_step (by repeat (first | (with_reducible first | exact HB.out | apply below_alloc | apply pw_below_drewN | apply below_drew1 | refine below_set ?_ GE496.out) | exact HB.out)) hb); have n2_ := Aside0.mk (hbox); have n3_ := Aside0.mk ((by rw [hg]; exact (below_size (by repeat (first | (with_reducible first | exact HB.out | apply below_alloc | apply pw_below_drewN | apply below_drew1 | refine below_set ?_ GE496.out) | exact HB.out))) : w.heap.size ≤ gb502)); have n4_ := Aside0.mk ((by rw [hg]; exact (below_size (by repeat (first | (with_reducible first | exact HB.out | apply below_alloc | apply pw_below_drewN | apply below_drew1 | refine below_set ?_ GE496.out) | exact HB.out))) : w.heap.size ≤ gb502)); have n5_ := Aside0.mk ((by rw [hg]; exact Nat.ne_of_lt (blk_lt (g := gb496) (o := .cells #[.string a1_0, .int .i64 a1_1, .int .i64 a1_2] 51 (0, 0)) (by (with_reducible repeat (first | refine blk_drewN ?_ _ | refine blk_drew ?_ | refine blk_alloc ?_ _)); exact BK496.out)) : gb496 ≠ gb502)); have n6_ := Aside0.mk ((by rw [hg]; exact Nat.ne_of_gt (blk_lt (g := gb496) (o := .cells #[.string a1_0, .int .i64 a1_1, .int .i64 a1_2] 51 (0, 0)) (by (with_reducible repeat (first | refine blk_drewN ?_ _ | refine blk_drew ?_ | refine blk_alloc ?_ _)); exact BK496.out)) : gb502 ≠ gb496)); clear BK496; clear HB; have BK496 := n0_; have HB := n1_; have BK502 := n2_; have GW502 := n3_; have GE502 := n4_; have NB496_502 := n5_; have NB502_496 := n6_; clear n0_ n1_ n2_ n3_ n4_ n5_ n6_; clear hb hbox hg; have hnb15 := NB502_496.out; have hnc15 := NB496_502.out; have hcz16_0 : w14.cell? ⟨gb502, 0, none⟩ = some (.int .i64 0) := (blk_cell BK502.out 0).trans rfl; have hcz16_1 : w14.cell? ⟨gb502, 1, none⟩ = some (.int .i64 0) := (blk_cell BK502.out 1).trans rfl; have hfz16_0 := blk_frozen BK502.out 0; have hfz16_1 := blk_frozen BK502.out 1; have hcz17_0 : w14.cell? ⟨gb496, 0, none⟩ = some (.string a1_0) := (blk_cell BK496.out 0).trans rfl; have hcz17_1 : w14.cell? ⟨gb496, 1, none⟩ = some (.int .i64 a1_1) := (blk_cell BK496.out 1).trans rfl; have hcz17_2 : w14.cell? ⟨gb496, 2, none⟩ = some (.int .i64 a1_2) := (blk_cell BK496.out 2).trans rfl; have hfz17_0 := blk_frozen BK496.out 0; have hfz17_1 := blk_frozen BK496.out 1; have hfz17_2 := blk_frozen BK496.out 2) | ((with_reducible refine gate_callee (f := 42) rfl ?_); refine goesL_ (some 34) rfl rfl Try.func42 (by kernel_rfl) rfl #[.slice A0 l0.length c0, .string a1_0, .int .i64 a1_1] rfl (by (try simp only [List.map_toArray, List.map_cons, List.map_nil]); first | done | rfl | (simp only [List.length_drop, List.length_take]; rfl)) ?_; (with_reducible refine (calibrate_Valid.calls k _ _ l0 a1_0 a1_1 t504 t505 _ ?side1 ?side2 A7.out).mono ?_); (case side1 => exact Kd.C_below HR0.out (by repeat (first | (with_reducible first | exact HB.out | apply below_alloc | apply pw_below_drewN | apply below_drew1 | refine below_set ?_ GE496.out | refine below_set ?_ GE502.out) | exact HB.out))); (case side2 => exact HC0.out); rintro e w18 ⟨rfl, hb⟩; refine ⟨_, rfl, ?_⟩; have n0_ := Aside0.mk (blk_below (g := gb496) (o := .cells #[.string a1_0, .int .i64 a1_1, .int .i64 a1_2] 51 (0, 0)) (by (with_reducible repeat (first | refine blk_drewN ?_ _ | refine blk_drew ?_ | refine blk_alloc ?_ _)); refine blk_far ?_ NB496_502.out _; (with_reducible repeat (first | refine blk_drewN ?_ _ | refine blk_drew ?_ | refine blk_alloc ?_ _)); refine blk_far ?_ NB496_502.out _; (with_reducible repeat (first | refine blk_drewN ?_ _ | refine blk_drew ?_ | refine blk_alloc ?_ _)); exact BK496.out) hb); have n1_ := Aside0.mk (blk_below (g := gb502) (o := .cells #[.int .i64 t499, .int .i64 t500] 25 (0, 0)) (by (with_reducible repeat (first | refine blk_drewN ?_ _ | refine blk_drew ?_ | refine blk_alloc ?_ _)); refine blk_put (cs := #[.int .i64 t499, .int .i64 0]) ?_ 1 _ rfl; (with_reducible repeat (first | refine blk_drewN ?_ _ | refine blk_drew ?_ | refine blk_alloc ?_ _)); refine blk_put (cs := #[.int .i64 0, .int .i64 0]) ?_ 0 _ rfl; (with_reducible repeat (first | refine blk_drewN ?_ _ | refine blk_drew ?_ | refine blk_alloc ?_ _)); exact BK502.out) hb); have n2_ := Aside0.mk (below_step (by repeat (first | (with_reducible first | exact HB.out | apply below_alloc | apply pw_below_drewN | apply below_drew1 | refine below_set ?_ GE496.out | refine below_set ?_ GE502.out) | exact HB.out)) hb); clear BK496; clear BK502; clear HB; have BK496 := n0_; have BK502 := n1_; have HB := n2_; clear n0_ n1_ n2_; (try clear hb); (try clear hb2); (try clear hk); (try clear hi)))
      (try simp only [Act.put, List.setIfInBounds_toArray, List.set_cons_zero, List.set_cons_succ])
      go_cut [48] (fun v48 wc => ∃ (kq : Nat) (x48_7 : Bool), v48 = .bool x48_7 ∧ Aside0 (metrolablaw52_CalibrateAdds.j0 kq l0 t504 x48_7 a1_0 a1_1 a1_2 t499 t500 = some r) ∧ Aside0 (kq ≤ k) ∧ Aside0 (wc.heap[gb496]? = some (.cells #[.string a1_0, .int .i64 a1_1, .int .i64 a1_2] 51 (0, 0))) ∧ Aside0 (wc.heap[gb502]? = some (.cells #[.int .i64 t499, .int .i64 t500] 25 (0, 0))) ∧ Aside0 (Below w.heap.size w wc))
      case first =>
        have H := HC8.out
        clear HC8
        by_cases c19 : t505 = 0
        · rw [if_pos c19] at H
          have c19b0 : (t505 == 0) = true := beq_iff_eq.mpr c19
          have c19b1 : (t505 != 0) = false := bne_eq_false_iff_eq.mpr c19
          clear c19
          (first | rw [c19b0] | (simp only [i64_w, i32_w]; rw [c19b0]) | (rw [c19b2]; try simp only [Bool.not_true, Bool.not_false]) | skip)
          by_cases c20 : t504 < 0
          · rw [if_pos c20] at H
            have c20b0 : decide (t504 < 0) = true := decide_eq_true c20
            clear c20
            have H' := Aside0.mk H
            clear H
            go_wp2
            go_meet
            case rel => exact ⟨_, (true), (by first | rfl | (simp; done) | (simp [*]; done)), H', ⟨by first | omega | exact Nat.le_refl _⟩, ⟨by (with_reducible repeat (first | refine blk_drewN ?_ _ | refine blk_drew ?_ | refine blk_alloc ?_ _)); exact BK496.out⟩, ⟨by (with_reducible repeat (first | refine blk_drewN ?_ _ | refine blk_drew ?_ | refine blk_alloc ?_ _)); exact BK502.out⟩, ⟨by repeat (first | (with_reducible first | exact HB.out | apply below_alloc | apply pw_below_drewN | apply below_drew1 | refine below_set ?_ GE496.out | refine below_set ?_ GE502.out) | exact HB.out)⟩⟩
          · rw [if_neg c20] at H
            have c20b0 : decide (t504 < 0) = false := decide_eq_false c20
            clear c20
            have H' := Aside0.mk H
            clear H
            go_wp2
            go_meet
            case rel => exact ⟨_, (decide (t504 ≥ (l0.length : Int))), (by first | rfl | (simp; done) | (simp [*]; done)), H', ⟨by first | omega | exact Nat.le_refl _⟩, ⟨by (with_reducible repeat (first | refine blk_drewN ?_ _ | refine blk_drew ?_ | refine blk_alloc ?_ _)); exact BK496.out⟩, ⟨by (with_reducible repeat (first | refine blk_drewN ?_ _ | refine blk_drew ?_ | refine blk_alloc ?_ _)); exact BK502.out⟩, ⟨by repeat (first | (with_reducible first | exact HB.out | apply below_alloc | apply pw_below_drewN | apply below_drew1 | refine below_set ?_ GE496.out | refine below_set ?_ GE502.out) | exact HB.out)⟩⟩
        · rw [if_neg c19] at H
          have c19b0 : (t505 == 0) = false := beq_eq_false_iff_ne.mpr c19
          have c19b1 : (t505 != 0) = true := bne_iff_ne.mpr c19
          (first | rw [c19b0] | (simp only [i64_w, i32_w]; rw [c19b0]) | (rw [c19b2]; try simp only [Bool.not_true, Bool.not_false]) | skip)
          have H' := Aside0.mk H
          clear H
          go_wp2
          go_meet
          case rel => exact ⟨_, (true), (by first | rfl | (simp; done) | (simp [*]; done)), H', ⟨by first | omega | exact Nat.le_refl _⟩, ⟨by (with_reducible repeat (first | refine blk_drewN ?_ _ | refine blk_drew ?_ | refine blk_alloc ?_ _)); exact BK496.out⟩, ⟨by (with_reducible repeat (first | refine blk_drewN ?_ _ | refine blk_drew ?_ | refine blk_alloc ?_ _)); exact BK502.out⟩, ⟨by repeat (first | (with_reducible first | exact HB.out | apply below_alloc | apply pw_below_drewN | apply below_drew1 | refine below_set ?_ GE496.out | refine below_set ?_ GE502.out) | exact HB.out)⟩⟩
      case rest =>
        clear HC8
        try clear c1
        try clear c2
        try clear p2
        try clear c3
        try clear c4
        try clear c6
        try clear c6b0
        try clear c6b1
        try clear c15
        try clear c16
        try clear c19
        try clear c19b0
        try clear c19b1
        try clear c19b2
        try clear c20
        try clear c20b0
        try clear hcz10_0
        try clear hcz10_1
        try clear hcz10_2
        try clear hcz12_0
        try clear hcz12_1
        try clear hcz12_2
        try clear hcz16_0
        try clear hcz16_1
        try clear hcz17_0
        try clear hcz17_1
        try clear hcz17_2
        try clear hfz10_0
        try clear hfz10_1
        try clear hfz10_2
        try clear hfz12_0
        try clear hfz12_1
        try clear hfz12_2
        try clear hfz16_0
        try clear hfz16_1
        try clear hfz17_0
        try clear hfz17_1
        try clear hfz17_2
        obtain ⟨kq, x48_7, rfl, HA, HJ7, BK496, BK502, HB⟩ := hcut
        cases kq with
        | zero => exact absurd HA.out (by simp [metrolablaw52_CalibrateAdds.j0])
        | succ kj7 =>
          have H := HA.out
          clear HA
          simp only [metrolablaw52_CalibrateAdds.j0] at H
          by_cases c21 : x48_7 = true
          · subst c21
            have H1 : (some false) = some r := by rw [if_pos rfl] at H; exact H
            clear H
            have H := H1
            clear H1
            obtain rfl := Option.some.inj H
            go_wp2
            go_ret
            exact ⟨by first | rfl | (simp [errW_none, errW_some] <;> rfl) | (simp [*, errW_none, errW_some] <;> rfl), by repeat (first | (with_reducible first | exact HB.out | apply below_alloc | apply pw_below_drewN | apply below_drew1 | refine below_set ?_ GE496.out | refine below_set ?_ GE502.out) | exact HB.out)⟩
          · replace c21 := Bool.eq_false_iff.mpr c21
            subst c21
            have H1 : (if 0 ≤ t504 then (if t504 < (l0.length : Int) then (if ((rd_T68 l0 t504).f1).toList = ([] : List UInt8) then (metrolablaw52_CalibrateAdds.j1 kj7 l0 t504 a1_0 a1_1 a1_2 t499 t500 0 0) else ((calibrate_Error.f kj7 l0 ((rd_T68 l0 t504).f1) ((rd_T68 l0 t504).f4)).bind fun bt510 => (if bt510.2.2 = 0 then (metrolablaw52_CalibrateAdds.j1 kj7 l0 t504 a1_0 a1_1 a1_2 t499 t500 bt510.1 bt510.2.1) else (some false)))) else (none)) else (none)) = some r := by rw [if_neg (show ¬ (false = true) by decide)] at H; exact H
            clear H
            have H := H1
            clear H1
            by_cases c22 : 0 ≤ t504
            · rw [if_pos c22] at H
              have c22b0 : decide (0 ≤ t504) = true := decide_eq_true c22
              clear c22
              by_cases c23 : t504 < (l0.length : Int)
              · rw [if_pos c23] at H
                have c23b0 : decide (t504 < (l0.length : Int)) = true := decide_eq_true c23
                clear c23
                have HC24 := Aside0.mk H
                clear H
                go_upto_if 54 with (first | ((with_reducible refine gate_dst (N := 8) rfl ?_); (try (refine gate_guard (by rfl) ?_; dsimp only)); refine box_event ?hg (N := 8) ?hd (cs := #[.int .i64 0, .int .i64 0]) (t := 25) ?hr ?_; (case hd => rfl); (case hg => rfl); (case hr => first | (go_simp; done) | (go_simp; rfl)); intro gb506 hg w25 hbox hb; have n0_ := Aside0.mk (blk_below (g := gb496) (o := .cells #[.string a1_0, .int .i64 a1_1, .int .i64 a1_2] 51 (0, 0)) (by (with_reducible repeat (first | refine blk_drewN ?_ _ | refine blk_drew ?_ | refine blk_alloc ?_ _)); exact BK496.out) hb); have n1_ := Aside0.mk (blk_below (g := gb502) (o := .cells #[.int .i64 t499, .int .i64 t500] 25 (0, 0)) (by (with_reducible repeat (first | refine blk_drewN ?_ _ | refine blk_drew ?_ | refine blk_alloc ?_ _)); exact BK502.out) hb); have n2_ := Aside0.mk (below_step (by repeat (first | (with_reducible first | exact HB.out | apply below_alloc | apply pw_below_drewN | apply below_drew1 | refine below_set ?_ GE496.out | refine below_set ?_ GE502.out) | exact HB.out)) hb); have n3_ := Aside0.mk (hbox); have n4_ := Aside0.mk ((by rw [hg]; exact (below_size (by repeat (first | (with_reducible first | exact HB.out | apply below_alloc | apply pw_below_drewN | apply below_drew1 | refine below_set ?_ GE496.out | refine below_set ?_ GE502.out) | exact HB.out))) : w.heap.size ≤ gb506)); have n5_ := Aside0.mk ((by rw [hg]; exact (below_size (by repeat (first | (with_reducible first | exact HB.out | apply below_alloc | apply pw_below_drewN | apply below_drew1 | refine below_set ?_ GE496.out | refine below_set ?_ GE502.out) | exact HB.out))) : w.heap.size ≤ gb506)); have n6_ := Aside0.mk ((by rw [hg]; exact Nat.ne_of_lt (blk_lt (g := gb496) (o := .cells #[.string a1_0, .int .i64 a1_1, .int .i64 a1_2] 51 (0, 0)) (by (with_reducible repeat (first | refine blk_drewN ?_ _ | refine blk_drew ?_ | refine blk_alloc ?_ _)); exact BK496.out)) : gb496 ≠ gb506)); have n7_ := Aside0.mk ((by rw [hg]; exact Nat.ne_of_gt (blk_lt (g := gb496) (o := .cells #[.string a1_0, .int .i64 a1_1, .int .i64 a1_2] 51 (0, 0)) (by (with_reducible repeat (first | refine blk_drewN ?_ _ | refine blk_drew ?_ | refine blk_alloc ?_ _)); exact BK496.out)) : gb506 ≠ gb496)); have n8_ := Aside0.mk ((by rw [hg]; exact Nat.ne_of_lt (blk_lt (g := gb502) (o := .cells #[.int .i64 t499, .int .i64 t500] 25 (0, 0)) (by (with_reducible repeat (first | refine blk_drewN ?_ _ | refine blk_drew ?_ | refine blk_alloc ?_ _)); exact BK502.out)) : gb502 ≠ gb506)); have n9_ := Aside0.mk ((by rw [hg]; exact Nat.ne_of_gt (blk_lt (g := gb502) (o := .cells #[.int .i64 t499, .int .i64 t500] 25 (0, 0)) (by (with_reducible repeat (first | refine blk_drewN ?_ _ | refine blk_drew ?_ | refine blk_alloc ?_ _)); exact BK502.out)) : gb506 ≠ gb502)); clear BK496; clear BK502; clear HB; have BK496 := n0_; have BK502 := n1_; have HB := n2_; have BK506 := n3_; have GW506 := n4_; have GE506 := n5_; have NB496_506 := n6_; have NB506_496 := n7_; have NB502_506 := n8_; have NB506_502 := n9_; clear n0_ n1_ n2_ n3_ n4_ n5_ n6_ n7_ n8_ n9_; clear hb hbox hg; have p507 : 0 ≤ (t504 : Int) := of_decide_eq_true (by first | (with_reducible assumption) | assumption); have q507 : t504 < (l0.length : Int) := of_decide_eq_true (by first | (with_reducible assumption) | assumption); obtain ⟨ad507, e507, hx507_0, hx507_1, hx507_2, hx507_3, hx507_4, hx507_5⟩ := at_T68 HR0.out t504 p507 q507; cases e507; replace hx507_0 := (HB.out.cell (World.block_lt_of_cell? w _ hx507_0)).trans hx507_0; replace hx507_1 := (HB.out.cell (World.block_lt_of_cell? w _ hx507_1)).trans hx507_1; replace hx507_2 := (HB.out.cell (World.block_lt_of_cell? w _ hx507_2)).trans hx507_2; replace hx507_3 := (HB.out.cell (World.block_lt_of_cell? w _ hx507_3)).trans hx507_3; replace hx507_4 := (HB.out.cell (World.block_lt_of_cell? w _ hx507_4)).trans hx507_4; replace hx507_5 := (HB.out.cell (World.block_lt_of_cell? w _ hx507_5)).trans hx507_5; replace p507 := eq_true p507; replace q507 := eq_true q507))
                (try simp only [Act.put, List.setIfInBounds_toArray, List.set_cons_zero, List.set_cons_succ])
                go_cut [] (fun wc => ∃ (kq : Nat) (x507000_23 : Int) (x507001_23 : Int), Aside0 (metrolablaw52_CalibrateAdds.j1 kq l0 t504 a1_0 a1_1 a1_2 t499 t500 x507000_23 x507001_23 = some r) ∧ Aside0 (kq ≤ kj7) ∧ Aside0 (wc.heap[gb496]? = some (.cells #[.string a1_0, .int .i64 a1_1, .int .i64 a1_2] 51 (0, 0))) ∧ Aside0 (wc.heap[gb502]? = some (.cells #[.int .i64 t499, .int .i64 t500] 25 (0, 0))) ∧ Aside0 (wc.heap[gb506]? = some (.cells #[.int .i64 x507000_23, .int .i64 x507001_23] 25 (0, 0))) ∧ Aside0 (Below w.heap.size w wc))
                case first =>
                  have H := HC24.out
                  clear HC24
                  by_cases c26 : ((rd_T68 l0 t504).f1).toList = ([] : List UInt8)
                  · rw [if_pos c26] at H
                    have c26b0 : (((rd_T68 l0 t504).f1).toList == ([] : List UInt8)) = true := beq_iff_eq.mpr c26
                    have c26b1 : (((rd_T68 l0 t504).f1).toList != ([] : List UInt8)) = false := bne_eq_false_iff_eq.mpr c26
                    have c26b2 : ((rd_T68 l0 t504).f1).toList.isEmpty = true := by rw [List.isEmpty_iff]; exact c26
                    clear c26
                    (first | rw [c26b0] | (simp only [i64_w, i32_w]; rw [c26b0]) | (rw [c26b2]; try simp only [Bool.not_true, Bool.not_false]) | skip)
                    have H' := Aside0.mk H
                    clear H
                    go_wp2
                    go_meet
                    case rel => exact ⟨_, (0), (0), H', ⟨by have := HJ7.out; first | omega | exact Nat.le_refl _⟩, ⟨by (with_reducible repeat (first | refine blk_drewN ?_ _ | refine blk_drew ?_ | refine blk_alloc ?_ _)); exact BK496.out⟩, ⟨by (with_reducible repeat (first | refine blk_drewN ?_ _ | refine blk_drew ?_ | refine blk_alloc ?_ _)); exact BK502.out⟩, ⟨by (with_reducible repeat (first | refine blk_drewN ?_ _ | refine blk_drew ?_ | refine blk_alloc ?_ _)); exact BK506.out⟩, ⟨by repeat (first | (with_reducible first | exact HB.out | apply below_alloc | apply pw_below_drewN | apply below_drew1 | refine below_set ?_ GE496.out | refine below_set ?_ GE502.out | refine below_set ?_ GE506.out) | exact HB.out)⟩⟩
                  · rw [if_neg c26] at H
                    have c26b0 : (((rd_T68 l0 t504).f1).toList == ([] : List UInt8)) = false := beq_eq_false_iff_ne.mpr c26
                    have c26b1 : (((rd_T68 l0 t504).f1).toList != ([] : List UInt8)) = true := bne_iff_ne.mpr c26
                    have c26b2 : ((rd_T68 l0 t504).f1).toList.isEmpty = false := by rw [List.isEmpty_eq_false_iff]; exact c26
                    (first | rw [c26b0] | (simp only [i64_w, i32_w]; rw [c26b0]) | (rw [c26b2]; try simp only [Bool.not_true, Bool.not_false]) | skip)
                    replace H := Option.bind_eq_some_iff.mp H
                    obtain ⟨⟨t510, t511, t512⟩, A270, H⟩ := H
                    replace H : (if t512 = 0 then (metrolablaw52_CalibrateAdds.j1 kj7 l0 t504 a1_0 a1_1 a1_2 t499 t500 t510 t511) else (some false)) = some r := H
                    have A27 := Aside0.mk A270
                    clear A270
                    by_cases c28 : t512 = 0
                    · rw [if_pos c28] at H
                      have c28b0 : (t512 == 0) = true := beq_iff_eq.mpr c28
                      have c28b1 : (t512 != 0) = false := bne_eq_false_iff_eq.mpr c28
                      clear c28
                      have H' := Aside0.mk H
                      clear H
                      try go_wp2
                      have n0_ := Aside0.mk (blk_drew BK496.out)
                      have n1_ := Aside0.mk (blk_drew BK502.out)
                      have n2_ := Aside0.mk (blk_drew BK506.out)
                      have n3_ := Aside0.mk (below_drew1 HB.out)
                      clear BK496
                      clear BK502
                      clear BK506
                      clear HB
                      have BK496 := n0_
                      have BK502 := n1_
                      have BK506 := n2_
                      have HB := n3_
                      clear n0_ n1_ n2_ n3_
                      have p508 : 0 ≤ (t504 : Int) := of_decide_eq_true (by first | (with_reducible assumption) | assumption)
                      have q508 : t504 < (l0.length : Int) := of_decide_eq_true (by first | (with_reducible assumption) | assumption)
                      obtain ⟨ad508, e508, hx508_0, hx508_1, hx508_2, hx508_3, hx508_4, hx508_5⟩ := at_T68 HR0.out t504 p508 q508
                      have hw508_5 := hx508_5
                      have hw508_4 := hx508_4
                      have hw508_3 := hx508_3
                      have hw508_2 := hx508_2
                      have hw508_1 := hx508_1
                      have hw508_0 := hx508_0
                      obtain rfl : ad507 = ad508 := (by injection e508)
                      replace hx508_0 := (HB.out.cell (World.block_lt_of_cell? w _ hx508_0)).trans hx508_0
                      replace hx508_1 := (HB.out.cell (World.block_lt_of_cell? w _ hx508_1)).trans hx508_1
                      replace hx508_2 := (HB.out.cell (World.block_lt_of_cell? w _ hx508_2)).trans hx508_2
                      replace hx508_3 := (HB.out.cell (World.block_lt_of_cell? w _ hx508_3)).trans hx508_3
                      replace hx508_4 := (HB.out.cell (World.block_lt_of_cell? w _ hx508_4)).trans hx508_4
                      replace hx508_5 := (HB.out.cell (World.block_lt_of_cell? w _ hx508_5)).trans hx508_5
                      replace p508 := eq_true p508
                      replace q508 := eq_true q508
                      have p509 : 0 ≤ (t504 : Int) := of_decide_eq_true (by first | (with_reducible assumption) | assumption)
                      have q509 : t504 < (l0.length : Int) := of_decide_eq_true (by first | (with_reducible assumption) | assumption)
                      obtain ⟨ad509, e509, hx509_0, hx509_1, hx509_2, hx509_3, hx509_4, hx509_5⟩ := at_T68 HR0.out t504 p509 q509
                      have hw509_5 := hx509_5
                      have hw509_4 := hx509_4
                      have hw509_3 := hx509_3
                      have hw509_2 := hx509_2
                      have hw509_1 := hx509_1
                      have hw509_0 := hx509_0
                      obtain rfl : ad507 = ad509 := (by injection e509)
                      replace hx509_0 := (HB.out.cell (World.block_lt_of_cell? w _ hx509_0)).trans hx509_0
                      replace hx509_1 := (HB.out.cell (World.block_lt_of_cell? w _ hx509_1)).trans hx509_1
                      replace hx509_2 := (HB.out.cell (World.block_lt_of_cell? w _ hx509_2)).trans hx509_2
                      replace hx509_3 := (HB.out.cell (World.block_lt_of_cell? w _ hx509_3)).trans hx509_3
                      replace hx509_4 := (HB.out.cell (World.block_lt_of_cell? w _ hx509_4)).trans hx509_4
                      replace hx509_5 := (HB.out.cell (World.block_lt_of_cell? w _ hx509_5)).trans hx509_5
                      replace p509 := eq_true p509
                      replace q509 := eq_true q509
                      refine start_ (n := 17) (S := fun w' => w'.cell? (ad507.add ((t504).toNat * 6)) = some (.string ((rd_T68 l0 t504).f0)) ∧ w'.cell? ⟨(ad507.add ((t504).toNat * 6)).block, (ad507.add ((t504).toNat * 6)).off + 1, none⟩ = some (.string ((rd_T68 l0 t504).f1)) ∧ w'.cell? ⟨(ad507.add ((t504).toNat * 6)).block, (ad507.add ((t504).toNat * 6)).off + 2, none⟩ = some (.int .i64 ((rd_T68 l0 t504).f2)) ∧ w'.cell? ⟨(ad507.add ((t504).toNat * 6)).block, (ad507.add ((t504).toNat * 6)).off + 3, none⟩ = some (.int .i64 ((rd_T68 l0 t504).f3)) ∧ w'.cell? ⟨(ad507.add ((t504).toNat * 6)).block, (ad507.add ((t504).toNat * 6)).off + 4, none⟩ = some (.int .i64 ((rd_T68 l0 t504).f4)) ∧ w'.cell? ⟨(ad507.add ((t504).toNat * 6)).block, (ad507.add ((t504).toNat * 6)).off + 5, none⟩ = some (.int .i64 ((rd_T68 l0 t504).f5)) ∧ w'.cell? (ad507.add ((t504).toNat * 6)) = some (.string ((rd_T68 l0 t504).f0)) ∧ w'.cell? ⟨(ad507.add ((t504).toNat * 6)).block, (ad507.add ((t504).toNat * 6)).off + 1, none⟩ = some (.string ((rd_T68 l0 t504).f1)) ∧ w'.cell? ⟨(ad507.add ((t504).toNat * 6)).block, (ad507.add ((t504).toNat * 6)).off + 2, none⟩ = some (.int .i64 ((rd_T68 l0 t504).f2)) ∧ w'.cell? ⟨(ad507.add ((t504).toNat * 6)).block, (ad507.add ((t504).toNat * 6)).off + 3, none⟩ = some (.int .i64 ((rd_T68 l0 t504).f3)) ∧ w'.cell? ⟨(ad507.add ((t504).toNat * 6)).block, (ad507.add ((t504).toNat * 6)).off + 4, none⟩ = some (.int .i64 ((rd_T68 l0 t504).f4)) ∧ w'.cell? ⟨(ad507.add ((t504).toNat * 6)).block, (ad507.add ((t504).toNat * 6)).off + 5, none⟩ = some (.int .i64 ((rd_T68 l0 t504).f5))) (ds := []) #[false, false, false, false, false, false, false, false, false, false, false, false, false, false, false, false, false] (by kernel_rfl) rfl rfl ⟨((HB.out.cell (World.block_lt_of_cell? w _ hw508_0)).trans hw508_0), ((HB.out.cell (World.block_lt_of_cell? w _ hw508_1)).trans hw508_1), ((HB.out.cell (World.block_lt_of_cell? w _ hw508_2)).trans hw508_2), ((HB.out.cell (World.block_lt_of_cell? w _ hw508_3)).trans hw508_3), ((HB.out.cell (World.block_lt_of_cell? w _ hw508_4)).trans hw508_4), ((HB.out.cell (World.block_lt_of_cell? w _ hw508_5)).trans hw508_5), ((HB.out.cell (World.block_lt_of_cell? w _ hw509_0)).trans hw509_0), ((HB.out.cell (World.block_lt_of_cell? w _ hw509_1)).trans hw509_1), ((HB.out.cell (World.block_lt_of_cell? w _ hw509_2)).trans hw509_2), ((HB.out.cell (World.block_lt_of_cell? w _ hw509_3)).trans hw509_3), ((HB.out.cell (World.block_lt_of_cell? w _ hw509_4)).trans hw509_4), ((HB.out.cell (World.block_lt_of_cell? w _ hw509_5)).trans hw509_5)⟩ (fun hHeld => ?_); refine with_tabW metrolablaw52_CalibrateAdds.tab11 metrolablaw52_CalibrateAdds.bits11 (fun HT_ HW_ => ?_)
                      generalize w25.drew = w29 at BK496 BK502 BK506 HB hx508_0 hx508_1 hx508_2 hx508_3 hx508_4 hx508_5 hx509_0 hx509_1 hx509_2 hx509_3 hx509_4 hx509_5 hHeld ⊢
                      refine pure_ (i := 0) (N := some 56) (v := ?_) (a' := ?_) #[true, false, false, false, false, false, false, false, false, false, false, false, false, false, false, false, false] rfl rfl (any_of HT_.out (by kernel_rfl)) (fun _ _ _ h => h) (Or.inl ⟨by rfl, ?_⟩) ?_ ?_
                      rotate_left
                      · intro w'
                        go_simp
                        with_reducible rfl
                      rotate_left
                      · simp only [Act.put, List.setIfInBounds_toArray, List.set_cons_zero, List.set_cons_succ, i64_w, i32_w]
                        rfl
                      refine pure_ (i := 1) (N := some 57) (v := ?_) (a' := ?_) #[true, true, false, false, false, false, false, false, false, false, false, false, false, false, false, false, false] rfl rfl (any_of HT_.out (by kernel_rfl)) (fun _ _ _ h => h) (Or.inl ⟨by rfl, ?_⟩) ?_ ?_
                      rotate_left
                      · intro w'
                        go_simp
                        with_reducible rfl
                      rotate_left
                      · simp only [Act.put, List.setIfInBounds_toArray, List.set_cons_zero, List.set_cons_succ, i64_w, i32_w]
                        rfl
                      refine pure_ (i := 2) (N := some 58) (v := ?_) (a' := ?_) #[true, true, true, false, false, false, false, false, false, false, false, false, false, false, false, false, false] rfl rfl (any_of HT_.out (by kernel_rfl)) (fun _ _ _ h => h) (Or.inl ⟨by rfl, ?_⟩) ?_ ?_
                      rotate_left
                      · intro w'
                        go_simp
                        with_reducible rfl
                      rotate_left
                      · simp only [Act.put, List.setIfInBounds_toArray, List.set_cons_zero, List.set_cons_succ, i64_w, i32_w]
                        rfl
                      refine pure_ (i := 3) (N := some 59) (v := ?_) (a' := ?_) #[true, true, true, true, false, false, false, false, false, false, false, false, false, false, false, false, false] rfl rfl (any_of HT_.out (by kernel_rfl)) (fun _ _ _ h => h) (Or.inl ⟨by rfl, ?_⟩) ?_ ?_
                      rotate_left
                      · intro w'
                        go_simp
                        with_reducible rfl
                      rotate_left
                      · simp only [Act.put, List.setIfInBounds_toArray, List.set_cons_zero, List.set_cons_succ, i64_w, i32_w]
                        rfl
                      refine pure_ (i := 4) (N := some 60) (v := ?_) (a' := ?_) #[true, true, true, true, true, false, false, false, false, false, false, false, false, false, false, false, false] rfl rfl (any_of HT_.out (by kernel_rfl)) (fun _ _ _ h => h) (Or.inl ⟨by rfl, ?_⟩) ?_ ?_
                      rotate_left
                      · intro w'
                        go_simp
                        with_reducible rfl
                      rotate_left
                      · simp only [Act.put, List.setIfInBounds_toArray, List.set_cons_zero, List.set_cons_succ, i64_w, i32_w]
                        rfl
                      refine pure_ (i := 6) (N := some 62) (v := ?_) (a' := ?_) #[true, true, true, true, true, false, true, false, false, false, false, false, false, false, false, false, false] rfl rfl (any_of HT_.out (by kernel_rfl)) (fun _ _ _ h => h) (Or.inl ⟨by rfl, ?_⟩) ?_ ?_
                      rotate_left
                      · intro w'
                        go_simp
                        with_reducible rfl
                      rotate_left
                      · simp only [Act.put, List.setIfInBounds_toArray, List.set_cons_zero, List.set_cons_succ, i64_w, i32_w]
                        rfl
                      refine pure_ (i := 7) (N := some 63) (v := ?_) (a' := ?_) #[true, true, true, true, true, false, true, true, false, false, false, false, false, false, false, false, false] rfl rfl (any_of HT_.out (by kernel_rfl)) (fun _ _ _ h => h) (Or.inl ⟨by rfl, ?_⟩) ?_ ?_
                      rotate_left
                      · intro w'
                        go_simp
                        with_reducible rfl
                      rotate_left
                      · simp only [Act.put, List.setIfInBounds_toArray, List.set_cons_zero, List.set_cons_succ, i64_w, i32_w]
                        rfl
                      refine pure_ (i := 8) (N := some 64) (v := ?_) (a' := ?_) #[true, true, true, true, true, false, true, true, true, false, false, false, false, false, false, false, false] rfl rfl (any_of HT_.out (by kernel_rfl)) (fun _ _ _ h => h) (Or.inl ⟨by rfl, ?_⟩) ?_ ?_
                      rotate_left
                      · intro w'
                        go_simp
                        with_reducible rfl
                      rotate_left
                      · simp only [Act.put, List.setIfInBounds_toArray, List.set_cons_zero, List.set_cons_succ, i64_w, i32_w]
                        rfl
                      refine pure_ (i := 9) (N := some 65) (v := ?_) (a' := ?_) #[true, true, true, true, true, false, true, true, true, true, false, false, false, false, false, false, false] rfl rfl (any_of HT_.out (by kernel_rfl)) (fun _ _ _ h => h) (Or.inl ⟨by rfl, ?_⟩) ?_ ?_
                      rotate_left
                      · intro w'
                        go_simp
                        with_reducible rfl
                      rotate_left
                      · simp only [Act.put, List.setIfInBounds_toArray, List.set_cons_zero, List.set_cons_succ, i64_w, i32_w]
                        rfl
                      refine take_ (i := 5) (N := some 61) (v := ?_) (a' := ?_) #[true, true, true, true, true, true, true, true, true, true, false, false, false, false, false, false, false] rfl rfl (take_ofW HT_.out HW_.out (by kernel_rfl)) (fun _ _ _ h => h) (Or.inl ⟨by rfl, ?_⟩) hHeld ?_ ?_
                      rotate_left
                      · rintro w' ⟨s0, s1, s2, s3, s4, s5, s6, s7, s8, s9, s10, s11⟩
                        go_simp
                        with_reducible rfl
                      rotate_left
                      · simp only [Act.put, List.setIfInBounds_toArray, List.set_cons_zero, List.set_cons_succ, i64_w, i32_w]
                        rfl
                      refine take_ (i := 10) (N := some 66) (v := ?_) (a' := ?_) #[true, true, true, true, true, true, true, true, true, true, true, false, false, false, false, false, false] rfl rfl (take_ofW HT_.out HW_.out (by kernel_rfl)) (fun _ _ _ h => h) (Or.inl ⟨by rfl, ?_⟩) hHeld ?_ ?_
                      rotate_left
                      · rintro w' ⟨s0, s1, s2, s3, s4, s5, s6, s7, s8, s9, s10, s11⟩
                        go_simp
                        with_reducible rfl
                      rotate_left
                      · simp only [Act.put, List.setIfInBounds_toArray, List.set_cons_zero, List.set_cons_succ, i64_w, i32_w]
                        rfl
                      refine one_ (i := 11) (N := some 67) #[true, true, true, true, true, true, true, true, true, true, true, true, false, false, false, false, false] rfl rfl (one_of HT_.out (by kernel_rfl)) (by decide) (fun K hK => ?_)
                      refine goes_ Try.func61 (by kernel_rfl) rfl #[.slice (some ad507) l0.length c0, .string ((rd_T68 l0 t504).f1), .int .i64 ((rd_T68 l0 t504).f4)] (by rfl) rfl rfl (by (try simp only [List.map_toArray, List.map_cons, List.map_nil]); first | done | rfl | (simp only [List.length_drop, List.length_take]; rfl)) ?_
                      with_reducible refine (calibrate_Error.calls kj7 _ _ l0 ((rd_T68 l0 t504).f1) ((rd_T68 l0 t504).f4) t510 t511 t512 _ ?side1 ?side2 A27.out).mono ?_
                      (case side1 => repeat (first | exact (Kd.C_below HR0.out HB.out) | (with_reducible refine Kd.C_alloc ?_ _) | (with_reducible refine Kd.C_drewN ?_ _) | (with_reducible refine Kd.C_drew ?_)))
                      (case side2 => exact HC0.out)
                      rintro e w30 ⟨rfl, hb⟩
                      refine ⟨_, rfl, ?_⟩
                      have n0_ := Aside0.mk (blk_below (g := gb496) (o := .cells #[.string a1_0, .int .i64 a1_1, .int .i64 a1_2] 51 (0, 0)) (by (with_reducible repeat (first | refine blk_drewN ?_ _ | refine blk_drew ?_ | refine blk_alloc ?_ _)); exact BK496.out) hb)
                      have n1_ := Aside0.mk (blk_below (g := gb502) (o := .cells #[.int .i64 t499, .int .i64 t500] 25 (0, 0)) (by (with_reducible repeat (first | refine blk_drewN ?_ _ | refine blk_drew ?_ | refine blk_alloc ?_ _)); exact BK502.out) hb)
                      have n2_ := Aside0.mk (blk_below (g := gb506) (o := .cells #[.int .i64 0, .int .i64 0] 25 (0, 0)) (by (with_reducible repeat (first | refine blk_drewN ?_ _ | refine blk_drew ?_ | refine blk_alloc ?_ _)); exact BK506.out) hb)
                      have n3_ := Aside0.mk (below_step (by repeat (first | (with_reducible first | exact HB.out | apply below_alloc | apply pw_below_drewN | apply below_drew1 | refine below_set ?_ GE496.out | refine below_set ?_ GE502.out | refine below_set ?_ GE506.out) | exact HB.out)) hb)
                      clear BK496
                      clear BK502
                      clear BK506
                      clear HB
                      have BK496 := n0_
                      have BK502 := n1_
                      have BK506 := n2_
                      have HB := n3_
                      clear n0_ n1_ n2_ n3_
                      (try clear hb)
                      (try clear hb2)
                      (try clear hk)
                      (try clear hi)
                      refine hK.out _ _ ⟨((HB.out.cell (World.block_lt_of_cell? w _ hw508_0)).trans hw508_0), ((HB.out.cell (World.block_lt_of_cell? w _ hw508_1)).trans hw508_1), ((HB.out.cell (World.block_lt_of_cell? w _ hw508_2)).trans hw508_2), ((HB.out.cell (World.block_lt_of_cell? w _ hw508_3)).trans hw508_3), ((HB.out.cell (World.block_lt_of_cell? w _ hw508_4)).trans hw508_4), ((HB.out.cell (World.block_lt_of_cell? w _ hw508_5)).trans hw508_5), ((HB.out.cell (World.block_lt_of_cell? w _ hw509_0)).trans hw509_0), ((HB.out.cell (World.block_lt_of_cell? w _ hw509_1)).trans hw509_1), ((HB.out.cell (World.block_lt_of_cell? w _ hw509_2)).trans hw509_2), ((HB.out.cell (World.block_lt_of_cell? w _ hw509_3)).trans hw509_3), ((HB.out.cell (World.block_lt_of_cell? w _ hw509_4)).trans hw509_4), ((HB.out.cell (World.block_lt_of_cell? w _ hw509_5)).trans hw509_5)⟩ (fun hHeld => ?_)
                      clear hK K
                      refine norm_ (a' := ?_) ?_ ?_
                      rotate_left
                      · show Act.put _ (some 67) _ = _
                        simp only [Act.put, List.setIfInBounds_toArray, List.set_cons_zero, List.set_cons_succ, i64_w, i32_w]
                        rfl
                      refine pure_ (i := 12) (N := some 55) (v := ?_) (a' := ?_) #[true, true, true, true, true, true, true, true, true, true, true, true, true, false, false, false, false] rfl rfl (any_of HT_.out (by kernel_rfl)) (fun _ _ _ h => h) (Or.inl ⟨by rfl, ?_⟩) ?_ ?_
                      rotate_left
                      · intro w'
                        go_simp
                        with_reducible rfl
                      rotate_left
                      · simp only [Act.put, List.setIfInBounds_toArray, List.set_cons_zero, List.set_cons_succ, i64_w, i32_w]
                        rfl
                      refine pure_ (i := 13) (N := some 68) (v := ?_) (a' := ?_) #[true, true, true, true, true, true, true, true, true, true, true, true, true, true, false, false, false] rfl rfl (any_of HT_.out (by kernel_rfl)) (fun _ _ _ h => h) (Or.inl ⟨by rfl, ?_⟩) ?_ ?_
                      rotate_left
                      · intro w'
                        go_simp
                        with_reducible rfl
                      rotate_left
                      · simp only [Act.put, List.setIfInBounds_toArray, List.set_cons_zero, List.set_cons_succ, i64_w, i32_w]
                        rfl
                      refine pure_ (i := 14) (N := some 69) (v := ?_) (a' := ?_) #[true, true, true, true, true, true, true, true, true, true, true, true, true, true, true, false, false] rfl rfl (any_of HT_.out (by kernel_rfl)) (fun _ _ _ h => h) (Or.inl ⟨by rfl, ?_⟩) ?_ ?_
                      rotate_left
                      · intro w'
                        go_simp
                        with_reducible rfl
                      rotate_left
                      · simp only [Act.put, List.setIfInBounds_toArray, List.set_cons_zero, List.set_cons_succ, i64_w, i32_w]
                        rfl
                      refine one_ (i := 15) (N := none) #[true, true, true, true, true, true, true, true, true, true, true, true, true, true, true, true, false] rfl rfl (one_of HT_.out (by kernel_rfl)) (by decide) (fun K hK => ?_)
                      have hs31 : w30.cell? ⟨gb506, 0, none⟩ = some (.int .i64 0) := (blk_cell BK506.out 0).trans rfl
                      have hfs31 := blk_frozen BK506.out 0
                      have hns31_0 := NB496_506.out
                      have hns31_1 := NB502_506.out
                      have hms31_0 := NB506_496.out
                      have hms31_1 := NB506_502.out
                      have hs32 : w30.cell? ⟨gb506, 1, none⟩ = some (.int .i64 0) := (blk_cell BK506.out 1).trans rfl
                      have hfs32 := blk_frozen BK506.out 1
                      have hns32_0 := NB496_506.out
                      have hns32_1 := NB502_506.out
                      have hms32_0 := NB506_496.out
                      have hms32_1 := NB506_502.out
                      refine skip_ (w1 := ?_) (by rfl) rfl ?_ ?_
                      rotate_left
                      · go_simp
                        rfl
                      refine hK.out _ _ ⟨((cell_far (p := ⟨gb506, _, none⟩) (by first | exact Nat.ne_of_lt (Nat.lt_of_lt_of_le (by have := World.block_lt_of_cell? _ _ hw508_0; first | rwa [add_block] at this | exact this) GW506.out) | (rw [add_block]; exact Nat.ne_of_lt (Nat.lt_of_lt_of_le (by have := World.block_lt_of_cell? _ _ hw508_0; first | rwa [add_block] at this | exact this) GW506.out)) | (show (Addr.add _ _).block ≠ _; rw [add_block]; exact Nat.ne_of_lt (Nat.lt_of_lt_of_le (by have := World.block_lt_of_cell? _ _ hw508_0; first | rwa [add_block] at this | exact this) GW506.out)) | (dsimp only; exact Nat.ne_of_lt (Nat.lt_of_lt_of_le (by have := World.block_lt_of_cell? _ _ hw508_0; first | rwa [add_block] at this | exact this) GW506.out))) _).trans (((cell_far (p := ⟨gb506, _, none⟩) (by first | exact Nat.ne_of_lt (Nat.lt_of_lt_of_le (by have := World.block_lt_of_cell? _ _ hw508_0; first | rwa [add_block] at this | exact this) GW506.out) | (rw [add_block]; exact Nat.ne_of_lt (Nat.lt_of_lt_of_le (by have := World.block_lt_of_cell? _ _ hw508_0; first | rwa [add_block] at this | exact this) GW506.out)) | (show (Addr.add _ _).block ≠ _; rw [add_block]; exact Nat.ne_of_lt (Nat.lt_of_lt_of_le (by have := World.block_lt_of_cell? _ _ hw508_0; first | rwa [add_block] at this | exact this) GW506.out)) | (dsimp only; exact Nat.ne_of_lt (Nat.lt_of_lt_of_le (by have := World.block_lt_of_cell? _ _ hw508_0; first | rwa [add_block] at this | exact this) GW506.out))) _).trans (hHeld.1)))), ((cell_far (p := ⟨gb506, _, none⟩) (by first | exact Nat.ne_of_lt (Nat.lt_of_lt_of_le (by have := World.block_lt_of_cell? _ _ hw508_1; first | rwa [add_block] at this | exact this) GW506.out) | (rw [add_block]; exact Nat.ne_of_lt (Nat.lt_of_lt_of_le (by have := World.block_lt_of_cell? _ _ hw508_1; first | rwa [add_block] at this | exact this) GW506.out)) | (show (Addr.add _ _).block ≠ _; rw [add_block]; exact Nat.ne_of_lt (Nat.lt_of_lt_of_le (by have := World.block_lt_of_cell? _ _ hw508_1; first | rwa [add_block] at this | exact this) GW506.out)) | (dsimp only; exact Nat.ne_of_lt (Nat.lt_of_lt_of_le (by have := World.block_lt_of_cell? _ _ hw508_1; first | rwa [add_block] at this | exact this) GW506.out))) _).trans (((cell_far (p := ⟨gb506, _, none⟩) (by first | exact Nat.ne_of_lt (Nat.lt_of_lt_of_le (by have := World.block_lt_of_cell? _ _ hw508_1; first | rwa [add_block] at this | exact this) GW506.out) | (rw [add_block]; exact Nat.ne_of_lt (Nat.lt_of_lt_of_le (by have := World.block_lt_of_cell? _ _ hw508_1; first | rwa [add_block] at this | exact this) GW506.out)) | (show (Addr.add _ _).block ≠ _; rw [add_block]; exact Nat.ne_of_lt (Nat.lt_of_lt_of_le (by have := World.block_lt_of_cell? _ _ hw508_1; first | rwa [add_block] at this | exact this) GW506.out)) | (dsimp only; exact Nat.ne_of_lt (Nat.lt_of_lt_of_le (by have := World.block_lt_of_cell? _ _ hw508_1; first | rwa [add_block] at this | exact this) GW506.out))) _).trans (hHeld.2.1)))), ((cell_far (p := ⟨gb506, _, none⟩) (by first | exact Nat.ne_of_lt (Nat.lt_of_lt_of_le (by have := World.block_lt_of_cell? _ _ hw508_2; first | rwa [add_block] at this | exact this) GW506.out) | (rw [add_block]; exact Nat.ne_of_lt (Nat.lt_of_lt_of_le (by have := World.block_lt_of_cell? _ _ hw508_2; first | rwa [add_block] at this | exact this) GW506.out)) | (show (Addr.add _ _).block ≠ _; rw [add_block]; exact Nat.ne_of_lt (Nat.lt_of_lt_of_le (by have := World.block_lt_of_cell? _ _ hw508_2; first | rwa [add_block] at this | exact this) GW506.out)) | (dsimp only; exact Nat.ne_of_lt (Nat.lt_of_lt_of_le (by have := World.block_lt_of_cell? _ _ hw508_2; first | rwa [add_block] at this | exact this) GW506.out))) _).trans (((cell_far (p := ⟨gb506, _, none⟩) (by first | exact Nat.ne_of_lt (Nat.lt_of_lt_of_le (by have := World.block_lt_of_cell? _ _ hw508_2; first | rwa [add_block] at this | exact this) GW506.out) | (rw [add_block]; exact Nat.ne_of_lt (Nat.lt_of_lt_of_le (by have := World.block_lt_of_cell? _ _ hw508_2; first | rwa [add_block] at this | exact this) GW506.out)) | (show (Addr.add _ _).block ≠ _; rw [add_block]; exact Nat.ne_of_lt (Nat.lt_of_lt_of_le (by have := World.block_lt_of_cell? _ _ hw508_2; first | rwa [add_block] at this | exact this) GW506.out)) | (dsimp only; exact Nat.ne_of_lt (Nat.lt_of_lt_of_le (by have := World.block_lt_of_cell? _ _ hw508_2; first | rwa [add_block] at this | exact this) GW506.out))) _).trans (hHeld.2.2.1)))), ((cell_far (p := ⟨gb506, _, none⟩) (by first | exact Nat.ne_of_lt (Nat.lt_of_lt_of_le (by have := World.block_lt_of_cell? _ _ hw508_3; first | rwa [add_block] at this | exact this) GW506.out) | (rw [add_block]; exact Nat.ne_of_lt (Nat.lt_of_lt_of_le (by have := World.block_lt_of_cell? _ _ hw508_3; first | rwa [add_block] at this | exact this) GW506.out)) | (show (Addr.add _ _).block ≠ _; rw [add_block]; exact Nat.ne_of_lt (Nat.lt_of_lt_of_le (by have := World.block_lt_of_cell? _ _ hw508_3; first | rwa [add_block] at this | exact this) GW506.out)) | (dsimp only; exact Nat.ne_of_lt (Nat.lt_of_lt_of_le (by have := World.block_lt_of_cell? _ _ hw508_3; first | rwa [add_block] at this | exact this) GW506.out))) _).trans (((cell_far (p := ⟨gb506, _, none⟩) (by first | exact Nat.ne_of_lt (Nat.lt_of_lt_of_le (by have := World.block_lt_of_cell? _ _ hw508_3; first | rwa [add_block] at this | exact this) GW506.out) | (rw [add_block]; exact Nat.ne_of_lt (Nat.lt_of_lt_of_le (by have := World.block_lt_of_cell? _ _ hw508_3; first | rwa [add_block] at this | exact this) GW506.out)) | (show (Addr.add _ _).block ≠ _; rw [add_block]; exact Nat.ne_of_lt (Nat.lt_of_lt_of_le (by have := World.block_lt_of_cell? _ _ hw508_3; first | rwa [add_block] at this | exact this) GW506.out)) | (dsimp only; exact Nat.ne_of_lt (Nat.lt_of_lt_of_le (by have := World.block_lt_of_cell? _ _ hw508_3; first | rwa [add_block] at this | exact this) GW506.out))) _).trans (hHeld.2.2.2.1)))), ((cell_far (p := ⟨gb506, _, none⟩) (by first | exact Nat.ne_of_lt (Nat.lt_of_lt_of_le (by have := World.block_lt_of_cell? _ _ hw508_4; first | rwa [add_block] at this | exact this) GW506.out) | (rw [add_block]; exact Nat.ne_of_lt (Nat.lt_of_lt_of_le (by have := World.block_lt_of_cell? _ _ hw508_4; first | rwa [add_block] at this | exact this) GW506.out)) | (show (Addr.add _ _).block ≠ _; rw [add_block]; exact Nat.ne_of_lt (Nat.lt_of_lt_of_le (by have := World.block_lt_of_cell? _ _ hw508_4; first | rwa [add_block] at this | exact this) GW506.out)) | (dsimp only; exact Nat.ne_of_lt (Nat.lt_of_lt_of_le (by have := World.block_lt_of_cell? _ _ hw508_4; first | rwa [add_block] at this | exact this) GW506.out))) _).trans (((cell_far (p := ⟨gb506, _, none⟩) (by first | exact Nat.ne_of_lt (Nat.lt_of_lt_of_le (by have := World.block_lt_of_cell? _ _ hw508_4; first | rwa [add_block] at this | exact this) GW506.out) | (rw [add_block]; exact Nat.ne_of_lt (Nat.lt_of_lt_of_le (by have := World.block_lt_of_cell? _ _ hw508_4; first | rwa [add_block] at this | exact this) GW506.out)) | (show (Addr.add _ _).block ≠ _; rw [add_block]; exact Nat.ne_of_lt (Nat.lt_of_lt_of_le (by have := World.block_lt_of_cell? _ _ hw508_4; first | rwa [add_block] at this | exact this) GW506.out)) | (dsimp only; exact Nat.ne_of_lt (Nat.lt_of_lt_of_le (by have := World.block_lt_of_cell? _ _ hw508_4; first | rwa [add_block] at this | exact this) GW506.out))) _).trans (hHeld.2.2.2.2.1)))), ((cell_far (p := ⟨gb506, _, none⟩) (by first | exact Nat.ne_of_lt (Nat.lt_of_lt_of_le (by have := World.block_lt_of_cell? _ _ hw508_5; first | rwa [add_block] at this | exact this) GW506.out) | (rw [add_block]; exact Nat.ne_of_lt (Nat.lt_of_lt_of_le (by have := World.block_lt_of_cell? _ _ hw508_5; first | rwa [add_block] at this | exact this) GW506.out)) | (show (Addr.add _ _).block ≠ _; rw [add_block]; exact Nat.ne_of_lt (Nat.lt_of_lt_of_le (by have := World.block_lt_of_cell? _ _ hw508_5; first | rwa [add_block] at this | exact this) GW506.out)) | (dsimp only; exact Nat.ne_of_lt (Nat.lt_of_lt_of_le (by have := World.block_lt_of_cell? _ _ hw508_5; first | rwa [add_block] at this | exact this) GW506.out))) _).trans (((cell_far (p := ⟨gb506, _, none⟩) (by first | exact Nat.ne_of_lt (Nat.lt_of_lt_of_le (by have := World.block_lt_of_cell? _ _ hw508_5; first | rwa [add_block] at this | exact this) GW506.out) | (rw [add_block]; exact Nat.ne_of_lt (Nat.lt_of_lt_of_le (by have := World.block_lt_of_cell? _ _ hw508_5; first | rwa [add_block] at this | exact this) GW506.out)) | (show (Addr.add _ _).block ≠ _; rw [add_block]; exact Nat.ne_of_lt (Nat.lt_of_lt_of_le (by have := World.block_lt_of_cell? _ _ hw508_5; first | rwa [add_block] at this | exact this) GW506.out)) | (dsimp only; exact Nat.ne_of_lt (Nat.lt_of_lt_of_le (by have := World.block_lt_of_cell? _ _ hw508_5; first | rwa [add_block] at this | exact this) GW506.out))) _).trans (hHeld.2.2.2.2.2.1)))), ((cell_far (p := ⟨gb506, _, none⟩) (by first | exact Nat.ne_of_lt (Nat.lt_of_lt_of_le (by have := World.block_lt_of_cell? _ _ hw509_0; first | rwa [add_block] at this | exact this) GW506.out) | (rw [add_block]; exact Nat.ne_of_lt (Nat.lt_of_lt_of_le (by have := World.block_lt_of_cell? _ _ hw509_0; first | rwa [add_block] at this | exact this) GW506.out)) | (show (Addr.add _ _).block ≠ _; rw [add_block]; exact Nat.ne_of_lt (Nat.lt_of_lt_of_le (by have := World.block_lt_of_cell? _ _ hw509_0; first | rwa [add_block] at this | exact this) GW506.out)) | (dsimp only; exact Nat.ne_of_lt (Nat.lt_of_lt_of_le (by have := World.block_lt_of_cell? _ _ hw509_0; first | rwa [add_block] at this | exact this) GW506.out))) _).trans (((cell_far (p := ⟨gb506, _, none⟩) (by first | exact Nat.ne_of_lt (Nat.lt_of_lt_of_le (by have := World.block_lt_of_cell? _ _ hw509_0; first | rwa [add_block] at this | exact this) GW506.out) | (rw [add_block]; exact Nat.ne_of_lt (Nat.lt_of_lt_of_le (by have := World.block_lt_of_cell? _ _ hw509_0; first | rwa [add_block] at this | exact this) GW506.out)) | (show (Addr.add _ _).block ≠ _; rw [add_block]; exact Nat.ne_of_lt (Nat.lt_of_lt_of_le (by have := World.block_lt_of_cell? _ _ hw509_0; first | rwa [add_block] at this | exact this) GW506.out)) | (dsimp only; exact Nat.ne_of_lt (Nat.lt_of_lt_of_le (by have := World.block_lt_of_cell? _ _ hw509_0; first | rwa [add_block] at this | exact this) GW506.out))) _).trans (hHeld.2.2.2.2.2.2.1)))), ((cell_far (p := ⟨gb506, _, none⟩) (by first | exact Nat.ne_of_lt (Nat.lt_of_lt_of_le (by have := World.block_lt_of_cell? _ _ hw509_1; first | rwa [add_block] at this | exact this) GW506.out) | (rw [add_block]; exact Nat.ne_of_lt (Nat.lt_of_lt_of_le (by have := World.block_lt_of_cell? _ _ hw509_1; first | rwa [add_block] at this | exact this) GW506.out)) | (show (Addr.add _ _).block ≠ _; rw [add_block]; exact Nat.ne_of_lt (Nat.lt_of_lt_of_le (by have := World.block_lt_of_cell? _ _ hw509_1; first | rwa [add_block] at this | exact this) GW506.out)) | (dsimp only; exact Nat.ne_of_lt (Nat.lt_of_lt_of_le (by have := World.block_lt_of_cell? _ _ hw509_1; first | rwa [add_block] at this | exact this) GW506.out))) _).trans (((cell_far (p := ⟨gb506, _, none⟩) (by first | exact Nat.ne_of_lt (Nat.lt_of_lt_of_le (by have := World.block_lt_of_cell? _ _ hw509_1; first | rwa [add_block] at this | exact this) GW506.out) | (rw [add_block]; exact Nat.ne_of_lt (Nat.lt_of_lt_of_le (by have := World.block_lt_of_cell? _ _ hw509_1; first | rwa [add_block] at this | exact this) GW506.out)) | (show (Addr.add _ _).block ≠ _; rw [add_block]; exact Nat.ne_of_lt (Nat.lt_of_lt_of_le (by have := World.block_lt_of_cell? _ _ hw509_1; first | rwa [add_block] at this | exact this) GW506.out)) | (dsimp only; exact Nat.ne_of_lt (Nat.lt_of_lt_of_le (by have := World.block_lt_of_cell? _ _ hw509_1; first | rwa [add_block] at this | exact this) GW506.out))) _).trans (hHeld.2.2.2.2.2.2.2.1)))), ((cell_far (p := ⟨gb506, _, none⟩) (by first | exact Nat.ne_of_lt (Nat.lt_of_lt_of_le (by have := World.block_lt_of_cell? _ _ hw509_2; first | rwa [add_block] at this | exact this) GW506.out) | (rw [add_block]; exact Nat.ne_of_lt (Nat.lt_of_lt_of_le (by have := World.block_lt_of_cell? _ _ hw509_2; first | rwa [add_block] at this | exact this) GW506.out)) | (show (Addr.add _ _).block ≠ _; rw [add_block]; exact Nat.ne_of_lt (Nat.lt_of_lt_of_le (by have := World.block_lt_of_cell? _ _ hw509_2; first | rwa [add_block] at this | exact this) GW506.out)) | (dsimp only; exact Nat.ne_of_lt (Nat.lt_of_lt_of_le (by have := World.block_lt_of_cell? _ _ hw509_2; first | rwa [add_block] at this | exact this) GW506.out))) _).trans (((cell_far (p := ⟨gb506, _, none⟩) (by first | exact Nat.ne_of_lt (Nat.lt_of_lt_of_le (by have := World.block_lt_of_cell? _ _ hw509_2; first | rwa [add_block] at this | exact this) GW506.out) | (rw [add_block]; exact Nat.ne_of_lt (Nat.lt_of_lt_of_le (by have := World.block_lt_of_cell? _ _ hw509_2; first | rwa [add_block] at this | exact this) GW506.out)) | (show (Addr.add _ _).block ≠ _; rw [add_block]; exact Nat.ne_of_lt (Nat.lt_of_lt_of_le (by have := World.block_lt_of_cell? _ _ hw509_2; first | rwa [add_block] at this | exact this) GW506.out)) | (dsimp only; exact Nat.ne_of_lt (Nat.lt_of_lt_of_le (by have := World.block_lt_of_cell? _ _ hw509_2; first | rwa [add_block] at this | exact this) GW506.out))) _).trans (hHeld.2.2.2.2.2.2.2.2.1)))), ((cell_far (p := ⟨gb506, _, none⟩) (by first | exact Nat.ne_of_lt (Nat.lt_of_lt_of_le (by have := World.block_lt_of_cell? _ _ hw509_3; first | rwa [add_block] at this | exact this) GW506.out) | (rw [add_block]; exact Nat.ne_of_lt (Nat.lt_of_lt_of_le (by have := World.block_lt_of_cell? _ _ hw509_3; first | rwa [add_block] at this | exact this) GW506.out)) | (show (Addr.add _ _).block ≠ _; rw [add_block]; exact Nat.ne_of_lt (Nat.lt_of_lt_of_le (by have := World.block_lt_of_cell? _ _ hw509_3; first | rwa [add_block] at this | exact this) GW506.out)) | (dsimp only; exact Nat.ne_of_lt (Nat.lt_of_lt_of_le (by have := World.block_lt_of_cell? _ _ hw509_3; first | rwa [add_block] at this | exact this) GW506.out))) _).trans (((cell_far (p := ⟨gb506, _, none⟩) (by first | exact Nat.ne_of_lt (Nat.lt_of_lt_of_le (by have := World.block_lt_of_cell? _ _ hw509_3; first | rwa [add_block] at this | exact this) GW506.out) | (rw [add_block]; exact Nat.ne_of_lt (Nat.lt_of_lt_of_le (by have := World.block_lt_of_cell? _ _ hw509_3; first | rwa [add_block] at this | exact this) GW506.out)) | (show (Addr.add _ _).block ≠ _; rw [add_block]; exact Nat.ne_of_lt (Nat.lt_of_lt_of_le (by have := World.block_lt_of_cell? _ _ hw509_3; first | rwa [add_block] at this | exact this) GW506.out)) | (dsimp only; exact Nat.ne_of_lt (Nat.lt_of_lt_of_le (by have := World.block_lt_of_cell? _ _ hw509_3; first | rwa [add_block] at this | exact this) GW506.out))) _).trans (hHeld.2.2.2.2.2.2.2.2.2.1)))), ((cell_far (p := ⟨gb506, _, none⟩) (by first | exact Nat.ne_of_lt (Nat.lt_of_lt_of_le (by have := World.block_lt_of_cell? _ _ hw509_4; first | rwa [add_block] at this | exact this) GW506.out) | (rw [add_block]; exact Nat.ne_of_lt (Nat.lt_of_lt_of_le (by have := World.block_lt_of_cell? _ _ hw509_4; first | rwa [add_block] at this | exact this) GW506.out)) | (show (Addr.add _ _).block ≠ _; rw [add_block]; exact Nat.ne_of_lt (Nat.lt_of_lt_of_le (by have := World.block_lt_of_cell? _ _ hw509_4; first | rwa [add_block] at this | exact this) GW506.out)) | (dsimp only; exact Nat.ne_of_lt (Nat.lt_of_lt_of_le (by have := World.block_lt_of_cell? _ _ hw509_4; first | rwa [add_block] at this | exact this) GW506.out))) _).trans (((cell_far (p := ⟨gb506, _, none⟩) (by first | exact Nat.ne_of_lt (Nat.lt_of_lt_of_le (by have := World.block_lt_of_cell? _ _ hw509_4; first | rwa [add_block] at this | exact this) GW506.out) | (rw [add_block]; exact Nat.ne_of_lt (Nat.lt_of_lt_of_le (by have := World.block_lt_of_cell? _ _ hw509_4; first | rwa [add_block] at this | exact this) GW506.out)) | (show (Addr.add _ _).block ≠ _; rw [add_block]; exact Nat.ne_of_lt (Nat.lt_of_lt_of_le (by have := World.block_lt_of_cell? _ _ hw509_4; first | rwa [add_block] at this | exact this) GW506.out)) | (dsimp only; exact Nat.ne_of_lt (Nat.lt_of_lt_of_le (by have := World.block_lt_of_cell? _ _ hw509_4; first | rwa [add_block] at this | exact this) GW506.out))) _).trans (hHeld.2.2.2.2.2.2.2.2.2.2.1)))), ((cell_far (p := ⟨gb506, _, none⟩) (by first | exact Nat.ne_of_lt (Nat.lt_of_lt_of_le (by have := World.block_lt_of_cell? _ _ hw509_5; first | rwa [add_block] at this | exact this) GW506.out) | (rw [add_block]; exact Nat.ne_of_lt (Nat.lt_of_lt_of_le (by have := World.block_lt_of_cell? _ _ hw509_5; first | rwa [add_block] at this | exact this) GW506.out)) | (show (Addr.add _ _).block ≠ _; rw [add_block]; exact Nat.ne_of_lt (Nat.lt_of_lt_of_le (by have := World.block_lt_of_cell? _ _ hw509_5; first | rwa [add_block] at this | exact this) GW506.out)) | (dsimp only; exact Nat.ne_of_lt (Nat.lt_of_lt_of_le (by have := World.block_lt_of_cell? _ _ hw509_5; first | rwa [add_block] at this | exact this) GW506.out))) _).trans (((cell_far (p := ⟨gb506, _, none⟩) (by first | exact Nat.ne_of_lt (Nat.lt_of_lt_of_le (by have := World.block_lt_of_cell? _ _ hw509_5; first | rwa [add_block] at this | exact this) GW506.out) | (rw [add_block]; exact Nat.ne_of_lt (Nat.lt_of_lt_of_le (by have := World.block_lt_of_cell? _ _ hw509_5; first | rwa [add_block] at this | exact this) GW506.out)) | (show (Addr.add _ _).block ≠ _; rw [add_block]; exact Nat.ne_of_lt (Nat.lt_of_lt_of_le (by have := World.block_lt_of_cell? _ _ hw509_5; first | rwa [add_block] at this | exact this) GW506.out)) | (dsimp only; exact Nat.ne_of_lt (Nat.lt_of_lt_of_le (by have := World.block_lt_of_cell? _ _ hw509_5; first | rwa [add_block] at this | exact this) GW506.out))) _).trans (hHeld.2.2.2.2.2.2.2.2.2.2.2))))⟩ (fun hHeld => ?_)
                      clear hK K
                      refine pure_ (i := 16) (N := some 6) (v := ?_) (a' := ?_) #[true, true, true, true, true, true, true, true, true, true, true, true, true, true, true, true, true] rfl rfl (any_of HT_.out (by kernel_rfl)) (fun _ _ _ h => h) (Or.inl ⟨by rfl, ?_⟩) ?_ ?_
                      rotate_left
                      · intro w'
                        go_simp
                        with_reducible rfl
                      rotate_left
                      · simp only [Act.put, List.setIfInBounds_toArray, List.set_cons_zero, List.set_cons_succ, i64_w, i32_w]
                        rfl
                      refine done_ (done_of HT_.out (by kernel_rfl)) ?_
                      try go_wp2
                      go_meet
                      case rel => exact ⟨_, (t510), (t511), H', ⟨by have := HJ7.out; first | omega | exact Nat.le_refl _⟩, ⟨by (with_reducible repeat (first | refine blk_drewN ?_ _ | refine blk_drew ?_ | refine blk_alloc ?_ _)); refine blk_far ?_ NB496_506.out _; (with_reducible repeat (first | refine blk_drewN ?_ _ | refine blk_drew ?_ | refine blk_alloc ?_ _)); refine blk_far ?_ NB496_506.out _; (with_reducible repeat (first | refine blk_drewN ?_ _ | refine blk_drew ?_ | refine blk_alloc ?_ _)); exact BK496.out⟩, ⟨by (with_reducible repeat (first | refine blk_drewN ?_ _ | refine blk_drew ?_ | refine blk_alloc ?_ _)); refine blk_far ?_ NB502_506.out _; (with_reducible repeat (first | refine blk_drewN ?_ _ | refine blk_drew ?_ | refine blk_alloc ?_ _)); refine blk_far ?_ NB502_506.out _; (with_reducible repeat (first | refine blk_drewN ?_ _ | refine blk_drew ?_ | refine blk_alloc ?_ _)); exact BK502.out⟩, ⟨by (with_reducible repeat (first | refine blk_drewN ?_ _ | refine blk_drew ?_ | refine blk_alloc ?_ _)); refine blk_put (cs := #[.int .i64 t510, .int .i64 0]) ?_ 1 _ rfl; (with_reducible repeat (first | refine blk_drewN ?_ _ | refine blk_drew ?_ | refine blk_alloc ?_ _)); refine blk_put (cs := #[.int .i64 0, .int .i64 0]) ?_ 0 _ rfl; (with_reducible repeat (first | refine blk_drewN ?_ _ | refine blk_drew ?_ | refine blk_alloc ?_ _)); exact BK506.out⟩, ⟨by repeat (first | (with_reducible first | exact HB.out | apply below_alloc | apply pw_below_drewN | apply below_drew1 | refine below_set ?_ GE496.out | refine below_set ?_ GE502.out | refine below_set ?_ GE506.out) | exact HB.out)⟩⟩
                    · rw [if_neg c28] at H
                      have c28b0 : (t512 == 0) = false := beq_eq_false_iff_ne.mpr c28
                      have c28b1 : (t512 != 0) = true := bne_iff_ne.mpr c28
                      obtain rfl := Option.some.inj H
                      try go_wp2
                      have n0_ := Aside0.mk (blk_drew BK496.out)
                      have n1_ := Aside0.mk (blk_drew BK502.out)
                      have n2_ := Aside0.mk (blk_drew BK506.out)
                      have n3_ := Aside0.mk (below_drew1 HB.out)
                      clear BK496
                      clear BK502
                      clear BK506
                      clear HB
                      have BK496 := n0_
                      have BK502 := n1_
                      have BK506 := n2_
                      have HB := n3_
                      clear n0_ n1_ n2_ n3_
                      have p508 : 0 ≤ (t504 : Int) := of_decide_eq_true (by first | (with_reducible assumption) | assumption)
                      have q508 : t504 < (l0.length : Int) := of_decide_eq_true (by first | (with_reducible assumption) | assumption)
                      obtain ⟨ad508, e508, hx508_0, hx508_1, hx508_2, hx508_3, hx508_4, hx508_5⟩ := at_T68 HR0.out t504 p508 q508
                      have hw508_5 := hx508_5
                      have hw508_4 := hx508_4
                      have hw508_3 := hx508_3
                      have hw508_2 := hx508_2
                      have hw508_1 := hx508_1
                      have hw508_0 := hx508_0
                      obtain rfl : ad507 = ad508 := (by injection e508)
                      replace hx508_0 := (HB.out.cell (World.block_lt_of_cell? w _ hx508_0)).trans hx508_0
                      replace hx508_1 := (HB.out.cell (World.block_lt_of_cell? w _ hx508_1)).trans hx508_1
                      replace hx508_2 := (HB.out.cell (World.block_lt_of_cell? w _ hx508_2)).trans hx508_2
                      replace hx508_3 := (HB.out.cell (World.block_lt_of_cell? w _ hx508_3)).trans hx508_3
                      replace hx508_4 := (HB.out.cell (World.block_lt_of_cell? w _ hx508_4)).trans hx508_4
                      replace hx508_5 := (HB.out.cell (World.block_lt_of_cell? w _ hx508_5)).trans hx508_5
                      replace p508 := eq_true p508
                      replace q508 := eq_true q508
                      have p509 : 0 ≤ (t504 : Int) := of_decide_eq_true (by first | (with_reducible assumption) | assumption)
                      have q509 : t504 < (l0.length : Int) := of_decide_eq_true (by first | (with_reducible assumption) | assumption)
                      obtain ⟨ad509, e509, hx509_0, hx509_1, hx509_2, hx509_3, hx509_4, hx509_5⟩ := at_T68 HR0.out t504 p509 q509
                      have hw509_5 := hx509_5
                      have hw509_4 := hx509_4
                      have hw509_3 := hx509_3
                      have hw509_2 := hx509_2
                      have hw509_1 := hx509_1
                      have hw509_0 := hx509_0
                      obtain rfl : ad507 = ad509 := (by injection e509)
                      replace hx509_0 := (HB.out.cell (World.block_lt_of_cell? w _ hx509_0)).trans hx509_0
                      replace hx509_1 := (HB.out.cell (World.block_lt_of_cell? w _ hx509_1)).trans hx509_1
                      replace hx509_2 := (HB.out.cell (World.block_lt_of_cell? w _ hx509_2)).trans hx509_2
                      replace hx509_3 := (HB.out.cell (World.block_lt_of_cell? w _ hx509_3)).trans hx509_3
                      replace hx509_4 := (HB.out.cell (World.block_lt_of_cell? w _ hx509_4)).trans hx509_4
                      replace hx509_5 := (HB.out.cell (World.block_lt_of_cell? w _ hx509_5)).trans hx509_5
                      replace p509 := eq_true p509
                      replace q509 := eq_true q509
                      refine start_ (n := 17) (S := fun w' => w'.cell? (ad507.add ((t504).toNat * 6)) = some (.string ((rd_T68 l0 t504).f0)) ∧ w'.cell? ⟨(ad507.add ((t504).toNat * 6)).block, (ad507.add ((t504).toNat * 6)).off + 1, none⟩ = some (.string ((rd_T68 l0 t504).f1)) ∧ w'.cell? ⟨(ad507.add ((t504).toNat * 6)).block, (ad507.add ((t504).toNat * 6)).off + 2, none⟩ = some (.int .i64 ((rd_T68 l0 t504).f2)) ∧ w'.cell? ⟨(ad507.add ((t504).toNat * 6)).block, (ad507.add ((t504).toNat * 6)).off + 3, none⟩ = some (.int .i64 ((rd_T68 l0 t504).f3)) ∧ w'.cell? ⟨(ad507.add ((t504).toNat * 6)).block, (ad507.add ((t504).toNat * 6)).off + 4, none⟩ = some (.int .i64 ((rd_T68 l0 t504).f4)) ∧ w'.cell? ⟨(ad507.add ((t504).toNat * 6)).block, (ad507.add ((t504).toNat * 6)).off + 5, none⟩ = some (.int .i64 ((rd_T68 l0 t504).f5)) ∧ w'.cell? (ad507.add ((t504).toNat * 6)) = some (.string ((rd_T68 l0 t504).f0)) ∧ w'.cell? ⟨(ad507.add ((t504).toNat * 6)).block, (ad507.add ((t504).toNat * 6)).off + 1, none⟩ = some (.string ((rd_T68 l0 t504).f1)) ∧ w'.cell? ⟨(ad507.add ((t504).toNat * 6)).block, (ad507.add ((t504).toNat * 6)).off + 2, none⟩ = some (.int .i64 ((rd_T68 l0 t504).f2)) ∧ w'.cell? ⟨(ad507.add ((t504).toNat * 6)).block, (ad507.add ((t504).toNat * 6)).off + 3, none⟩ = some (.int .i64 ((rd_T68 l0 t504).f3)) ∧ w'.cell? ⟨(ad507.add ((t504).toNat * 6)).block, (ad507.add ((t504).toNat * 6)).off + 4, none⟩ = some (.int .i64 ((rd_T68 l0 t504).f4)) ∧ w'.cell? ⟨(ad507.add ((t504).toNat * 6)).block, (ad507.add ((t504).toNat * 6)).off + 5, none⟩ = some (.int .i64 ((rd_T68 l0 t504).f5))) (ds := []) #[false, false, false, false, false, false, false, false, false, false, false, false, false, false, false, false, false] (by kernel_rfl) rfl rfl ⟨((HB.out.cell (World.block_lt_of_cell? w _ hw508_0)).trans hw508_0), ((HB.out.cell (World.block_lt_of_cell? w _ hw508_1)).trans hw508_1), ((HB.out.cell (World.block_lt_of_cell? w _ hw508_2)).trans hw508_2), ((HB.out.cell (World.block_lt_of_cell? w _ hw508_3)).trans hw508_3), ((HB.out.cell (World.block_lt_of_cell? w _ hw508_4)).trans hw508_4), ((HB.out.cell (World.block_lt_of_cell? w _ hw508_5)).trans hw508_5), ((HB.out.cell (World.block_lt_of_cell? w _ hw509_0)).trans hw509_0), ((HB.out.cell (World.block_lt_of_cell? w _ hw509_1)).trans hw509_1), ((HB.out.cell (World.block_lt_of_cell? w _ hw509_2)).trans hw509_2), ((HB.out.cell (World.block_lt_of_cell? w _ hw509_3)).trans hw509_3), ((HB.out.cell (World.block_lt_of_cell? w _ hw509_4)).trans hw509_4), ((HB.out.cell (World.block_lt_of_cell? w _ hw509_5)).trans hw509_5)⟩ (fun hHeld => ?_); refine with_tabW metrolablaw52_CalibrateAdds.tab11 metrolablaw52_CalibrateAdds.bits11 (fun HT_ HW_ => ?_)
                      generalize w25.drew = w33 at BK496 BK502 BK506 HB hx508_0 hx508_1 hx508_2 hx508_3 hx508_4 hx508_5 hx509_0 hx509_1 hx509_2 hx509_3 hx509_4 hx509_5 hHeld ⊢
                      refine pure_ (i := 0) (N := some 56) (v := ?_) (a' := ?_) #[true, false, false, false, false, false, false, false, false, false, false, false, false, false, false, false, false] rfl rfl (any_of HT_.out (by kernel_rfl)) (fun _ _ _ h => h) (Or.inl ⟨by rfl, ?_⟩) ?_ ?_
                      rotate_left
                      · intro w'
                        go_simp
                        with_reducible rfl
                      rotate_left
                      · simp only [Act.put, List.setIfInBounds_toArray, List.set_cons_zero, List.set_cons_succ, i64_w, i32_w]
                        rfl
                      refine pure_ (i := 1) (N := some 57) (v := ?_) (a' := ?_) #[true, true, false, false, false, false, false, false, false, false, false, false, false, false, false, false, false] rfl rfl (any_of HT_.out (by kernel_rfl)) (fun _ _ _ h => h) (Or.inl ⟨by rfl, ?_⟩) ?_ ?_
                      rotate_left
                      · intro w'
                        go_simp
                        with_reducible rfl
                      rotate_left
                      · simp only [Act.put, List.setIfInBounds_toArray, List.set_cons_zero, List.set_cons_succ, i64_w, i32_w]
                        rfl
                      refine pure_ (i := 2) (N := some 58) (v := ?_) (a' := ?_) #[true, true, true, false, false, false, false, false, false, false, false, false, false, false, false, false, false] rfl rfl (any_of HT_.out (by kernel_rfl)) (fun _ _ _ h => h) (Or.inl ⟨by rfl, ?_⟩) ?_ ?_
                      rotate_left
                      · intro w'
                        go_simp
                        with_reducible rfl
                      rotate_left
                      · simp only [Act.put, List.setIfInBounds_toArray, List.set_cons_zero, List.set_cons_succ, i64_w, i32_w]
                        rfl
                      refine pure_ (i := 3) (N := some 59) (v := ?_) (a' := ?_) #[true, true, true, true, false, false, false, false, false, false, false, false, false, false, false, false, false] rfl rfl (any_of HT_.out (by kernel_rfl)) (fun _ _ _ h => h) (Or.inl ⟨by rfl, ?_⟩) ?_ ?_
                      rotate_left
                      · intro w'
                        go_simp
                        with_reducible rfl
                      rotate_left
                      · simp only [Act.put, List.setIfInBounds_toArray, List.set_cons_zero, List.set_cons_succ, i64_w, i32_w]
                        rfl
                      refine pure_ (i := 4) (N := some 60) (v := ?_) (a' := ?_) #[true, true, true, true, true, false, false, false, false, false, false, false, false, false, false, false, false] rfl rfl (any_of HT_.out (by kernel_rfl)) (fun _ _ _ h => h) (Or.inl ⟨by rfl, ?_⟩) ?_ ?_
                      rotate_left
                      · intro w'
                        go_simp
                        with_reducible rfl
                      rotate_left
                      · simp only [Act.put, List.setIfInBounds_toArray, List.set_cons_zero, List.set_cons_succ, i64_w, i32_w]
                        rfl
                      refine pure_ (i := 6) (N := some 62) (v := ?_) (a' := ?_) #[true, true, true, true, true, false, true, false, false, false, false, false, false, false, false, false, false] rfl rfl (any_of HT_.out (by kernel_rfl)) (fun _ _ _ h => h) (Or.inl ⟨by rfl, ?_⟩) ?_ ?_
                      rotate_left
                      · intro w'
                        go_simp
                        with_reducible rfl
                      rotate_left
                      · simp only [Act.put, List.setIfInBounds_toArray, List.set_cons_zero, List.set_cons_succ, i64_w, i32_w]
                        rfl
                      refine pure_ (i := 7) (N := some 63) (v := ?_) (a' := ?_) #[true, true, true, true, true, false, true, true, false, false, false, false, false, false, false, false, false] rfl rfl (any_of HT_.out (by kernel_rfl)) (fun _ _ _ h => h) (Or.inl ⟨by rfl, ?_⟩) ?_ ?_
                      rotate_left
                      · intro w'
                        go_simp
                        with_reducible rfl
                      rotate_left
                      · simp only [Act.put, List.setIfInBounds_toArray, List.set_cons_zero, List.set_cons_succ, i64_w, i32_w]
                        rfl
                      refine pure_ (i := 8) (N := some 64) (v := ?_) (a' := ?_) #[true, true, true, true, true, false, true, true, true, false, false, false, false, false, false, false, false] rfl rfl (any_of HT_.out (by kernel_rfl)) (fun _ _ _ h => h) (Or.inl ⟨by rfl, ?_⟩) ?_ ?_
                      rotate_left
                      · intro w'
                        go_simp
                        with_reducible rfl
                      rotate_left
                      · simp only [Act.put, List.setIfInBounds_toArray, List.set_cons_zero, List.set_cons_succ, i64_w, i32_w]
                        rfl
                      refine pure_ (i := 9) (N := some 65) (v := ?_) (a' := ?_) #[true, true, true, true, true, false, true, true, true, true, false, false, false, false, false, false, false] rfl rfl (any_of HT_.out (by kernel_rfl)) (fun _ _ _ h => h) (Or.inl ⟨by rfl, ?_⟩) ?_ ?_
                      rotate_left
                      · intro w'
                        go_simp
                        with_reducible rfl
                      rotate_left
                      · simp only [Act.put, List.setIfInBounds_toArray, List.set_cons_zero, List.set_cons_succ, i64_w, i32_w]
                        rfl
                      refine take_ (i := 5) (N := some 61) (v := ?_) (a' := ?_) #[true, true, true, true, true, true, true, true, true, true, false, false, false, false, false, false, false] rfl rfl (take_ofW HT_.out HW_.out (by kernel_rfl)) (fun _ _ _ h => h) (Or.inl ⟨by rfl, ?_⟩) hHeld ?_ ?_
                      rotate_left
                      · rintro w' ⟨s0, s1, s2, s3, s4, s5, s6, s7, s8, s9, s10, s11⟩
                        go_simp
                        with_reducible rfl
                      rotate_left
                      · simp only [Act.put, List.setIfInBounds_toArray, List.set_cons_zero, List.set_cons_succ, i64_w, i32_w]
                        rfl
                      refine take_ (i := 10) (N := some 66) (v := ?_) (a' := ?_) #[true, true, true, true, true, true, true, true, true, true, true, false, false, false, false, false, false] rfl rfl (take_ofW HT_.out HW_.out (by kernel_rfl)) (fun _ _ _ h => h) (Or.inl ⟨by rfl, ?_⟩) hHeld ?_ ?_
                      rotate_left
                      · rintro w' ⟨s0, s1, s2, s3, s4, s5, s6, s7, s8, s9, s10, s11⟩
                        go_simp
                        with_reducible rfl
                      rotate_left
                      · simp only [Act.put, List.setIfInBounds_toArray, List.set_cons_zero, List.set_cons_succ, i64_w, i32_w]
                        rfl
                      refine one_ (i := 11) (N := some 67) #[true, true, true, true, true, true, true, true, true, true, true, true, false, false, false, false, false] rfl rfl (one_of HT_.out (by kernel_rfl)) (by decide) (fun K hK => ?_)
                      refine goes_ Try.func61 (by kernel_rfl) rfl #[.slice (some ad507) l0.length c0, .string ((rd_T68 l0 t504).f1), .int .i64 ((rd_T68 l0 t504).f4)] (by rfl) rfl rfl (by (try simp only [List.map_toArray, List.map_cons, List.map_nil]); first | done | rfl | (simp only [List.length_drop, List.length_take]; rfl)) ?_
                      with_reducible refine (calibrate_Error.calls kj7 _ _ l0 ((rd_T68 l0 t504).f1) ((rd_T68 l0 t504).f4) t510 t511 t512 _ ?side1 ?side2 A27.out).mono ?_
                      (case side1 => repeat (first | exact (Kd.C_below HR0.out HB.out) | (with_reducible refine Kd.C_alloc ?_ _) | (with_reducible refine Kd.C_drewN ?_ _) | (with_reducible refine Kd.C_drew ?_)))
                      (case side2 => exact HC0.out)
                      rintro e w34 ⟨rfl, hb⟩
                      refine ⟨_, rfl, ?_⟩
                      have n0_ := Aside0.mk (blk_below (g := gb496) (o := .cells #[.string a1_0, .int .i64 a1_1, .int .i64 a1_2] 51 (0, 0)) (by (with_reducible repeat (first | refine blk_drewN ?_ _ | refine blk_drew ?_ | refine blk_alloc ?_ _)); exact BK496.out) hb)
                      have n1_ := Aside0.mk (blk_below (g := gb502) (o := .cells #[.int .i64 t499, .int .i64 t500] 25 (0, 0)) (by (with_reducible repeat (first | refine blk_drewN ?_ _ | refine blk_drew ?_ | refine blk_alloc ?_ _)); exact BK502.out) hb)
                      have n2_ := Aside0.mk (blk_below (g := gb506) (o := .cells #[.int .i64 0, .int .i64 0] 25 (0, 0)) (by (with_reducible repeat (first | refine blk_drewN ?_ _ | refine blk_drew ?_ | refine blk_alloc ?_ _)); exact BK506.out) hb)
                      have n3_ := Aside0.mk (below_step (by repeat (first | (with_reducible first | exact HB.out | apply below_alloc | apply pw_below_drewN | apply below_drew1 | refine below_set ?_ GE496.out | refine below_set ?_ GE502.out | refine below_set ?_ GE506.out) | exact HB.out)) hb)
                      clear BK496
                      clear BK502
                      clear BK506
                      clear HB
                      have BK496 := n0_
                      have BK502 := n1_
                      have BK506 := n2_
                      have HB := n3_
                      clear n0_ n1_ n2_ n3_
                      (try clear hb)
                      (try clear hb2)
                      (try clear hk)
                      (try clear hi)
                      refine hK.out _ _ ⟨((HB.out.cell (World.block_lt_of_cell? w _ hw508_0)).trans hw508_0), ((HB.out.cell (World.block_lt_of_cell? w _ hw508_1)).trans hw508_1), ((HB.out.cell (World.block_lt_of_cell? w _ hw508_2)).trans hw508_2), ((HB.out.cell (World.block_lt_of_cell? w _ hw508_3)).trans hw508_3), ((HB.out.cell (World.block_lt_of_cell? w _ hw508_4)).trans hw508_4), ((HB.out.cell (World.block_lt_of_cell? w _ hw508_5)).trans hw508_5), ((HB.out.cell (World.block_lt_of_cell? w _ hw509_0)).trans hw509_0), ((HB.out.cell (World.block_lt_of_cell? w _ hw509_1)).trans hw509_1), ((HB.out.cell (World.block_lt_of_cell? w _ hw509_2)).trans hw509_2), ((HB.out.cell (World.block_lt_of_cell? w _ hw509_3)).trans hw509_3), ((HB.out.cell (World.block_lt_of_cell? w _ hw509_4)).trans hw509_4), ((HB.out.cell (World.block_lt_of_cell? w _ hw509_5)).trans hw509_5)⟩ (fun hHeld => ?_)
                      clear hK K
                      refine norm_ (a' := ?_) ?_ ?_
                      rotate_left
                      · show Act.put _ (some 67) _ = _
                        simp only [Act.put, List.setIfInBounds_toArray, List.set_cons_zero, List.set_cons_succ, i64_w, i32_w]
                        rfl
                      refine pure_ (i := 12) (N := some 55) (v := ?_) (a' := ?_) #[true, true, true, true, true, true, true, true, true, true, true, true, true, false, false, false, false] rfl rfl (any_of HT_.out (by kernel_rfl)) (fun _ _ _ h => h) (Or.inl ⟨by rfl, ?_⟩) ?_ ?_
                      rotate_left
                      · intro w'
                        go_simp
                        with_reducible rfl
                      rotate_left
                      · simp only [Act.put, List.setIfInBounds_toArray, List.set_cons_zero, List.set_cons_succ, i64_w, i32_w]
                        rfl
                      refine pure_ (i := 13) (N := some 68) (v := ?_) (a' := ?_) #[true, true, true, true, true, true, true, true, true, true, true, true, true, true, false, false, false] rfl rfl (any_of HT_.out (by kernel_rfl)) (fun _ _ _ h => h) (Or.inl ⟨by rfl, ?_⟩) ?_ ?_
                      rotate_left
                      · intro w'
                        go_simp
                        with_reducible rfl
                      rotate_left
                      · simp only [Act.put, List.setIfInBounds_toArray, List.set_cons_zero, List.set_cons_succ, i64_w, i32_w]
                        rfl
                      refine pure_ (i := 14) (N := some 69) (v := ?_) (a' := ?_) #[true, true, true, true, true, true, true, true, true, true, true, true, true, true, true, false, false] rfl rfl (any_of HT_.out (by kernel_rfl)) (fun _ _ _ h => h) (Or.inl ⟨by rfl, ?_⟩) ?_ ?_
                      rotate_left
                      · intro w'
                        go_simp
                        with_reducible rfl
                      rotate_left
                      · simp only [Act.put, List.setIfInBounds_toArray, List.set_cons_zero, List.set_cons_succ, i64_w, i32_w]
                        rfl
                      refine one_ (i := 15) (N := none) #[true, true, true, true, true, true, true, true, true, true, true, true, true, true, true, true, false] rfl rfl (one_of HT_.out (by kernel_rfl)) (by decide) (fun K hK => ?_)
                      have hs35 : w34.cell? ⟨gb506, 0, none⟩ = some (.int .i64 0) := (blk_cell BK506.out 0).trans rfl
                      have hfs35 := blk_frozen BK506.out 0
                      have hns35_0 := NB496_506.out
                      have hns35_1 := NB502_506.out
                      have hms35_0 := NB506_496.out
                      have hms35_1 := NB506_502.out
                      have hs36 : w34.cell? ⟨gb506, 1, none⟩ = some (.int .i64 0) := (blk_cell BK506.out 1).trans rfl
                      have hfs36 := blk_frozen BK506.out 1
                      have hns36_0 := NB496_506.out
                      have hns36_1 := NB502_506.out
                      have hms36_0 := NB506_496.out
                      have hms36_1 := NB506_502.out
                      refine skip_ (w1 := ?_) (by rfl) rfl ?_ ?_
                      rotate_left
                      · go_simp
                        rfl
                      refine hK.out _ _ ⟨((cell_far (p := ⟨gb506, _, none⟩) (by first | exact Nat.ne_of_lt (Nat.lt_of_lt_of_le (by have := World.block_lt_of_cell? _ _ hw508_0; first | rwa [add_block] at this | exact this) GW506.out) | (rw [add_block]; exact Nat.ne_of_lt (Nat.lt_of_lt_of_le (by have := World.block_lt_of_cell? _ _ hw508_0; first | rwa [add_block] at this | exact this) GW506.out)) | (show (Addr.add _ _).block ≠ _; rw [add_block]; exact Nat.ne_of_lt (Nat.lt_of_lt_of_le (by have := World.block_lt_of_cell? _ _ hw508_0; first | rwa [add_block] at this | exact this) GW506.out)) | (dsimp only; exact Nat.ne_of_lt (Nat.lt_of_lt_of_le (by have := World.block_lt_of_cell? _ _ hw508_0; first | rwa [add_block] at this | exact this) GW506.out))) _).trans (((cell_far (p := ⟨gb506, _, none⟩) (by first | exact Nat.ne_of_lt (Nat.lt_of_lt_of_le (by have := World.block_lt_of_cell? _ _ hw508_0; first | rwa [add_block] at this | exact this) GW506.out) | (rw [add_block]; exact Nat.ne_of_lt (Nat.lt_of_lt_of_le (by have := World.block_lt_of_cell? _ _ hw508_0; first | rwa [add_block] at this | exact this) GW506.out)) | (show (Addr.add _ _).block ≠ _; rw [add_block]; exact Nat.ne_of_lt (Nat.lt_of_lt_of_le (by have := World.block_lt_of_cell? _ _ hw508_0; first | rwa [add_block] at this | exact this) GW506.out)) | (dsimp only; exact Nat.ne_of_lt (Nat.lt_of_lt_of_le (by have := World.block_lt_of_cell? _ _ hw508_0; first | rwa [add_block] at this | exact this) GW506.out))) _).trans (hHeld.1)))), ((cell_far (p := ⟨gb506, _, none⟩) (by first | exact Nat.ne_of_lt (Nat.lt_of_lt_of_le (by have := World.block_lt_of_cell? _ _ hw508_1; first | rwa [add_block] at this | exact this) GW506.out) | (rw [add_block]; exact Nat.ne_of_lt (Nat.lt_of_lt_of_le (by have := World.block_lt_of_cell? _ _ hw508_1; first | rwa [add_block] at this | exact this) GW506.out)) | (show (Addr.add _ _).block ≠ _; rw [add_block]; exact Nat.ne_of_lt (Nat.lt_of_lt_of_le (by have := World.block_lt_of_cell? _ _ hw508_1; first | rwa [add_block] at this | exact this) GW506.out)) | (dsimp only; exact Nat.ne_of_lt (Nat.lt_of_lt_of_le (by have := World.block_lt_of_cell? _ _ hw508_1; first | rwa [add_block] at this | exact this) GW506.out))) _).trans (((cell_far (p := ⟨gb506, _, none⟩) (by first | exact Nat.ne_of_lt (Nat.lt_of_lt_of_le (by have := World.block_lt_of_cell? _ _ hw508_1; first | rwa [add_block] at this | exact this) GW506.out) | (rw [add_block]; exact Nat.ne_of_lt (Nat.lt_of_lt_of_le (by have := World.block_lt_of_cell? _ _ hw508_1; first | rwa [add_block] at this | exact this) GW506.out)) | (show (Addr.add _ _).block ≠ _; rw [add_block]; exact Nat.ne_of_lt (Nat.lt_of_lt_of_le (by have := World.block_lt_of_cell? _ _ hw508_1; first | rwa [add_block] at this | exact this) GW506.out)) | (dsimp only; exact Nat.ne_of_lt (Nat.lt_of_lt_of_le (by have := World.block_lt_of_cell? _ _ hw508_1; first | rwa [add_block] at this | exact this) GW506.out))) _).trans (hHeld.2.1)))), ((cell_far (p := ⟨gb506, _, none⟩) (by first | exact Nat.ne_of_lt (Nat.lt_of_lt_of_le (by have := World.block_lt_of_cell? _ _ hw508_2; first | rwa [add_block] at this | exact this) GW506.out) | (rw [add_block]; exact Nat.ne_of_lt (Nat.lt_of_lt_of_le (by have := World.block_lt_of_cell? _ _ hw508_2; first | rwa [add_block] at this | exact this) GW506.out)) | (show (Addr.add _ _).block ≠ _; rw [add_block]; exact Nat.ne_of_lt (Nat.lt_of_lt_of_le (by have := World.block_lt_of_cell? _ _ hw508_2; first | rwa [add_block] at this | exact this) GW506.out)) | (dsimp only; exact Nat.ne_of_lt (Nat.lt_of_lt_of_le (by have := World.block_lt_of_cell? _ _ hw508_2; first | rwa [add_block] at this | exact this) GW506.out))) _).trans (((cell_far (p := ⟨gb506, _, none⟩) (by first | exact Nat.ne_of_lt (Nat.lt_of_lt_of_le (by have := World.block_lt_of_cell? _ _ hw508_2; first | rwa [add_block] at this | exact this) GW506.out) | (rw [add_block]; exact Nat.ne_of_lt (Nat.lt_of_lt_of_le (by have := World.block_lt_of_cell? _ _ hw508_2; first | rwa [add_block] at this | exact this) GW506.out)) | (show (Addr.add _ _).block ≠ _; rw [add_block]; exact Nat.ne_of_lt (Nat.lt_of_lt_of_le (by have := World.block_lt_of_cell? _ _ hw508_2; first | rwa [add_block] at this | exact this) GW506.out)) | (dsimp only; exact Nat.ne_of_lt (Nat.lt_of_lt_of_le (by have := World.block_lt_of_cell? _ _ hw508_2; first | rwa [add_block] at this | exact this) GW506.out))) _).trans (hHeld.2.2.1)))), ((cell_far (p := ⟨gb506, _, none⟩) (by first | exact Nat.ne_of_lt (Nat.lt_of_lt_of_le (by have := World.block_lt_of_cell? _ _ hw508_3; first | rwa [add_block] at this | exact this) GW506.out) | (rw [add_block]; exact Nat.ne_of_lt (Nat.lt_of_lt_of_le (by have := World.block_lt_of_cell? _ _ hw508_3; first | rwa [add_block] at this | exact this) GW506.out)) | (show (Addr.add _ _).block ≠ _; rw [add_block]; exact Nat.ne_of_lt (Nat.lt_of_lt_of_le (by have := World.block_lt_of_cell? _ _ hw508_3; first | rwa [add_block] at this | exact this) GW506.out)) | (dsimp only; exact Nat.ne_of_lt (Nat.lt_of_lt_of_le (by have := World.block_lt_of_cell? _ _ hw508_3; first | rwa [add_block] at this | exact this) GW506.out))) _).trans (((cell_far (p := ⟨gb506, _, none⟩) (by first | exact Nat.ne_of_lt (Nat.lt_of_lt_of_le (by have := World.block_lt_of_cell? _ _ hw508_3; first | rwa [add_block] at this | exact this) GW506.out) | (rw [add_block]; exact Nat.ne_of_lt (Nat.lt_of_lt_of_le (by have := World.block_lt_of_cell? _ _ hw508_3; first | rwa [add_block] at this | exact this) GW506.out)) | (show (Addr.add _ _).block ≠ _; rw [add_block]; exact Nat.ne_of_lt (Nat.lt_of_lt_of_le (by have := World.block_lt_of_cell? _ _ hw508_3; first | rwa [add_block] at this | exact this) GW506.out)) | (dsimp only; exact Nat.ne_of_lt (Nat.lt_of_lt_of_le (by have := World.block_lt_of_cell? _ _ hw508_3; first | rwa [add_block] at this | exact this) GW506.out))) _).trans (hHeld.2.2.2.1)))), ((cell_far (p := ⟨gb506, _, none⟩) (by first | exact Nat.ne_of_lt (Nat.lt_of_lt_of_le (by have := World.block_lt_of_cell? _ _ hw508_4; first | rwa [add_block] at this | exact this) GW506.out) | (rw [add_block]; exact Nat.ne_of_lt (Nat.lt_of_lt_of_le (by have := World.block_lt_of_cell? _ _ hw508_4; first | rwa [add_block] at this | exact this) GW506.out)) | (show (Addr.add _ _).block ≠ _; rw [add_block]; exact Nat.ne_of_lt (Nat.lt_of_lt_of_le (by have := World.block_lt_of_cell? _ _ hw508_4; first | rwa [add_block] at this | exact this) GW506.out)) | (dsimp only; exact Nat.ne_of_lt (Nat.lt_of_lt_of_le (by have := World.block_lt_of_cell? _ _ hw508_4; first | rwa [add_block] at this | exact this) GW506.out))) _).trans (((cell_far (p := ⟨gb506, _, none⟩) (by first | exact Nat.ne_of_lt (Nat.lt_of_lt_of_le (by have := World.block_lt_of_cell? _ _ hw508_4; first | rwa [add_block] at this | exact this) GW506.out) | (rw [add_block]; exact Nat.ne_of_lt (Nat.lt_of_lt_of_le (by have := World.block_lt_of_cell? _ _ hw508_4; first | rwa [add_block] at this | exact this) GW506.out)) | (show (Addr.add _ _).block ≠ _; rw [add_block]; exact Nat.ne_of_lt (Nat.lt_of_lt_of_le (by have := World.block_lt_of_cell? _ _ hw508_4; first | rwa [add_block] at this | exact this) GW506.out)) | (dsimp only; exact Nat.ne_of_lt (Nat.lt_of_lt_of_le (by have := World.block_lt_of_cell? _ _ hw508_4; first | rwa [add_block] at this | exact this) GW506.out))) _).trans (hHeld.2.2.2.2.1)))), ((cell_far (p := ⟨gb506, _, none⟩) (by first | exact Nat.ne_of_lt (Nat.lt_of_lt_of_le (by have := World.block_lt_of_cell? _ _ hw508_5; first | rwa [add_block] at this | exact this) GW506.out) | (rw [add_block]; exact Nat.ne_of_lt (Nat.lt_of_lt_of_le (by have := World.block_lt_of_cell? _ _ hw508_5; first | rwa [add_block] at this | exact this) GW506.out)) | (show (Addr.add _ _).block ≠ _; rw [add_block]; exact Nat.ne_of_lt (Nat.lt_of_lt_of_le (by have := World.block_lt_of_cell? _ _ hw508_5; first | rwa [add_block] at this | exact this) GW506.out)) | (dsimp only; exact Nat.ne_of_lt (Nat.lt_of_lt_of_le (by have := World.block_lt_of_cell? _ _ hw508_5; first | rwa [add_block] at this | exact this) GW506.out))) _).trans (((cell_far (p := ⟨gb506, _, none⟩) (by first | exact Nat.ne_of_lt (Nat.lt_of_lt_of_le (by have := World.block_lt_of_cell? _ _ hw508_5; first | rwa [add_block] at this | exact this) GW506.out) | (rw [add_block]; exact Nat.ne_of_lt (Nat.lt_of_lt_of_le (by have := World.block_lt_of_cell? _ _ hw508_5; first | rwa [add_block] at this | exact this) GW506.out)) | (show (Addr.add _ _).block ≠ _; rw [add_block]; exact Nat.ne_of_lt (Nat.lt_of_lt_of_le (by have := World.block_lt_of_cell? _ _ hw508_5; first | rwa [add_block] at this | exact this) GW506.out)) | (dsimp only; exact Nat.ne_of_lt (Nat.lt_of_lt_of_le (by have := World.block_lt_of_cell? _ _ hw508_5; first | rwa [add_block] at this | exact this) GW506.out))) _).trans (hHeld.2.2.2.2.2.1)))), ((cell_far (p := ⟨gb506, _, none⟩) (by first | exact Nat.ne_of_lt (Nat.lt_of_lt_of_le (by have := World.block_lt_of_cell? _ _ hw509_0; first | rwa [add_block] at this | exact this) GW506.out) | (rw [add_block]; exact Nat.ne_of_lt (Nat.lt_of_lt_of_le (by have := World.block_lt_of_cell? _ _ hw509_0; first | rwa [add_block] at this | exact this) GW506.out)) | (show (Addr.add _ _).block ≠ _; rw [add_block]; exact Nat.ne_of_lt (Nat.lt_of_lt_of_le (by have := World.block_lt_of_cell? _ _ hw509_0; first | rwa [add_block] at this | exact this) GW506.out)) | (dsimp only; exact Nat.ne_of_lt (Nat.lt_of_lt_of_le (by have := World.block_lt_of_cell? _ _ hw509_0; first | rwa [add_block] at this | exact this) GW506.out))) _).trans (((cell_far (p := ⟨gb506, _, none⟩) (by first | exact Nat.ne_of_lt (Nat.lt_of_lt_of_le (by have := World.block_lt_of_cell? _ _ hw509_0; first | rwa [add_block] at this | exact this) GW506.out) | (rw [add_block]; exact Nat.ne_of_lt (Nat.lt_of_lt_of_le (by have := World.block_lt_of_cell? _ _ hw509_0; first | rwa [add_block] at this | exact this) GW506.out)) | (show (Addr.add _ _).block ≠ _; rw [add_block]; exact Nat.ne_of_lt (Nat.lt_of_lt_of_le (by have := World.block_lt_of_cell? _ _ hw509_0; first | rwa [add_block] at this | exact this) GW506.out)) | (dsimp only; exact Nat.ne_of_lt (Nat.lt_of_lt_of_le (by have := World.block_lt_of_cell? _ _ hw509_0; first | rwa [add_block] at this | exact this) GW506.out))) _).trans (hHeld.2.2.2.2.2.2.1)))), ((cell_far (p := ⟨gb506, _, none⟩) (by first | exact Nat.ne_of_lt (Nat.lt_of_lt_of_le (by have := World.block_lt_of_cell? _ _ hw509_1; first | rwa [add_block] at this | exact this) GW506.out) | (rw [add_block]; exact Nat.ne_of_lt (Nat.lt_of_lt_of_le (by have := World.block_lt_of_cell? _ _ hw509_1; first | rwa [add_block] at this | exact this) GW506.out)) | (show (Addr.add _ _).block ≠ _; rw [add_block]; exact Nat.ne_of_lt (Nat.lt_of_lt_of_le (by have := World.block_lt_of_cell? _ _ hw509_1; first | rwa [add_block] at this | exact this) GW506.out)) | (dsimp only; exact Nat.ne_of_lt (Nat.lt_of_lt_of_le (by have := World.block_lt_of_cell? _ _ hw509_1; first | rwa [add_block] at this | exact this) GW506.out))) _).trans (((cell_far (p := ⟨gb506, _, none⟩) (by first | exact Nat.ne_of_lt (Nat.lt_of_lt_of_le (by have := World.block_lt_of_cell? _ _ hw509_1; first | rwa [add_block] at this | exact this) GW506.out) | (rw [add_block]; exact Nat.ne_of_lt (Nat.lt_of_lt_of_le (by have := World.block_lt_of_cell? _ _ hw509_1; first | rwa [add_block] at this | exact this) GW506.out)) | (show (Addr.add _ _).block ≠ _; rw [add_block]; exact Nat.ne_of_lt (Nat.lt_of_lt_of_le (by have := World.block_lt_of_cell? _ _ hw509_1; first | rwa [add_block] at this | exact this) GW506.out)) | (dsimp only; exact Nat.ne_of_lt (Nat.lt_of_lt_of_le (by have := World.block_lt_of_cell? _ _ hw509_1; first | rwa [add_block] at this | exact this) GW506.out))) _).trans (hHeld.2.2.2.2.2.2.2.1)))), ((cell_far (p := ⟨gb506, _, none⟩) (by first | exact Nat.ne_of_lt (Nat.lt_of_lt_of_le (by have := World.block_lt_of_cell? _ _ hw509_2; first | rwa [add_block] at this | exact this) GW506.out) | (rw [add_block]; exact Nat.ne_of_lt (Nat.lt_of_lt_of_le (by have := World.block_lt_of_cell? _ _ hw509_2; first | rwa [add_block] at this | exact this) GW506.out)) | (show (Addr.add _ _).block ≠ _; rw [add_block]; exact Nat.ne_of_lt (Nat.lt_of_lt_of_le (by have := World.block_lt_of_cell? _ _ hw509_2; first | rwa [add_block] at this | exact this) GW506.out)) | (dsimp only; exact Nat.ne_of_lt (Nat.lt_of_lt_of_le (by have := World.block_lt_of_cell? _ _ hw509_2; first | rwa [add_block] at this | exact this) GW506.out))) _).trans (((cell_far (p := ⟨gb506, _, none⟩) (by first | exact Nat.ne_of_lt (Nat.lt_of_lt_of_le (by have := World.block_lt_of_cell? _ _ hw509_2; first | rwa [add_block] at this | exact this) GW506.out) | (rw [add_block]; exact Nat.ne_of_lt (Nat.lt_of_lt_of_le (by have := World.block_lt_of_cell? _ _ hw509_2; first | rwa [add_block] at this | exact this) GW506.out)) | (show (Addr.add _ _).block ≠ _; rw [add_block]; exact Nat.ne_of_lt (Nat.lt_of_lt_of_le (by have := World.block_lt_of_cell? _ _ hw509_2; first | rwa [add_block] at this | exact this) GW506.out)) | (dsimp only; exact Nat.ne_of_lt (Nat.lt_of_lt_of_le (by have := World.block_lt_of_cell? _ _ hw509_2; first | rwa [add_block] at this | exact this) GW506.out))) _).trans (hHeld.2.2.2.2.2.2.2.2.1)))), ((cell_far (p := ⟨gb506, _, none⟩) (by first | exact Nat.ne_of_lt (Nat.lt_of_lt_of_le (by have := World.block_lt_of_cell? _ _ hw509_3; first | rwa [add_block] at this | exact this) GW506.out) | (rw [add_block]; exact Nat.ne_of_lt (Nat.lt_of_lt_of_le (by have := World.block_lt_of_cell? _ _ hw509_3; first | rwa [add_block] at this | exact this) GW506.out)) | (show (Addr.add _ _).block ≠ _; rw [add_block]; exact Nat.ne_of_lt (Nat.lt_of_lt_of_le (by have := World.block_lt_of_cell? _ _ hw509_3; first | rwa [add_block] at this | exact this) GW506.out)) | (dsimp only; exact Nat.ne_of_lt (Nat.lt_of_lt_of_le (by have := World.block_lt_of_cell? _ _ hw509_3; first | rwa [add_block] at this | exact this) GW506.out))) _).trans (((cell_far (p := ⟨gb506, _, none⟩) (by first | exact Nat.ne_of_lt (Nat.lt_of_lt_of_le (by have := World.block_lt_of_cell? _ _ hw509_3; first | rwa [add_block] at this | exact this) GW506.out) | (rw [add_block]; exact Nat.ne_of_lt (Nat.lt_of_lt_of_le (by have := World.block_lt_of_cell? _ _ hw509_3; first | rwa [add_block] at this | exact this) GW506.out)) | (show (Addr.add _ _).block ≠ _; rw [add_block]; exact Nat.ne_of_lt (Nat.lt_of_lt_of_le (by have := World.block_lt_of_cell? _ _ hw509_3; first | rwa [add_block] at this | exact this) GW506.out)) | (dsimp only; exact Nat.ne_of_lt (Nat.lt_of_lt_of_le (by have := World.block_lt_of_cell? _ _ hw509_3; first | rwa [add_block] at this | exact this) GW506.out))) _).trans (hHeld.2.2.2.2.2.2.2.2.2.1)))), ((cell_far (p := ⟨gb506, _, none⟩) (by first | exact Nat.ne_of_lt (Nat.lt_of_lt_of_le (by have := World.block_lt_of_cell? _ _ hw509_4; first | rwa [add_block] at this | exact this) GW506.out) | (rw [add_block]; exact Nat.ne_of_lt (Nat.lt_of_lt_of_le (by have := World.block_lt_of_cell? _ _ hw509_4; first | rwa [add_block] at this | exact this) GW506.out)) | (show (Addr.add _ _).block ≠ _; rw [add_block]; exact Nat.ne_of_lt (Nat.lt_of_lt_of_le (by have := World.block_lt_of_cell? _ _ hw509_4; first | rwa [add_block] at this | exact this) GW506.out)) | (dsimp only; exact Nat.ne_of_lt (Nat.lt_of_lt_of_le (by have := World.block_lt_of_cell? _ _ hw509_4; first | rwa [add_block] at this | exact this) GW506.out))) _).trans (((cell_far (p := ⟨gb506, _, none⟩) (by first | exact Nat.ne_of_lt (Nat.lt_of_lt_of_le (by have := World.block_lt_of_cell? _ _ hw509_4; first | rwa [add_block] at this | exact this) GW506.out) | (rw [add_block]; exact Nat.ne_of_lt (Nat.lt_of_lt_of_le (by have := World.block_lt_of_cell? _ _ hw509_4; first | rwa [add_block] at this | exact this) GW506.out)) | (show (Addr.add _ _).block ≠ _; rw [add_block]; exact Nat.ne_of_lt (Nat.lt_of_lt_of_le (by have := World.block_lt_of_cell? _ _ hw509_4; first | rwa [add_block] at this | exact this) GW506.out)) | (dsimp only; exact Nat.ne_of_lt (Nat.lt_of_lt_of_le (by have := World.block_lt_of_cell? _ _ hw509_4; first | rwa [add_block] at this | exact this) GW506.out))) _).trans (hHeld.2.2.2.2.2.2.2.2.2.2.1)))), ((cell_far (p := ⟨gb506, _, none⟩) (by first | exact Nat.ne_of_lt (Nat.lt_of_lt_of_le (by have := World.block_lt_of_cell? _ _ hw509_5; first | rwa [add_block] at this | exact this) GW506.out) | (rw [add_block]; exact Nat.ne_of_lt (Nat.lt_of_lt_of_le (by have := World.block_lt_of_cell? _ _ hw509_5; first | rwa [add_block] at this | exact this) GW506.out)) | (show (Addr.add _ _).block ≠ _; rw [add_block]; exact Nat.ne_of_lt (Nat.lt_of_lt_of_le (by have := World.block_lt_of_cell? _ _ hw509_5; first | rwa [add_block] at this | exact this) GW506.out)) | (dsimp only; exact Nat.ne_of_lt (Nat.lt_of_lt_of_le (by have := World.block_lt_of_cell? _ _ hw509_5; first | rwa [add_block] at this | exact this) GW506.out))) _).trans (((cell_far (p := ⟨gb506, _, none⟩) (by first | exact Nat.ne_of_lt (Nat.lt_of_lt_of_le (by have := World.block_lt_of_cell? _ _ hw509_5; first | rwa [add_block] at this | exact this) GW506.out) | (rw [add_block]; exact Nat.ne_of_lt (Nat.lt_of_lt_of_le (by have := World.block_lt_of_cell? _ _ hw509_5; first | rwa [add_block] at this | exact this) GW506.out)) | (show (Addr.add _ _).block ≠ _; rw [add_block]; exact Nat.ne_of_lt (Nat.lt_of_lt_of_le (by have := World.block_lt_of_cell? _ _ hw509_5; first | rwa [add_block] at this | exact this) GW506.out)) | (dsimp only; exact Nat.ne_of_lt (Nat.lt_of_lt_of_le (by have := World.block_lt_of_cell? _ _ hw509_5; first | rwa [add_block] at this | exact this) GW506.out))) _).trans (hHeld.2.2.2.2.2.2.2.2.2.2.2))))⟩ (fun hHeld => ?_)
                      clear hK K
                      refine pure_ (i := 16) (N := some 6) (v := ?_) (a' := ?_) #[true, true, true, true, true, true, true, true, true, true, true, true, true, true, true, true, true] rfl rfl (any_of HT_.out (by kernel_rfl)) (fun _ _ _ h => h) (Or.inl ⟨by rfl, ?_⟩) ?_ ?_
                      rotate_left
                      · intro w'
                        go_simp
                        with_reducible rfl
                      rotate_left
                      · simp only [Act.put, List.setIfInBounds_toArray, List.set_cons_zero, List.set_cons_succ, i64_w, i32_w]
                        rfl
                      refine done_ (done_of HT_.out (by kernel_rfl)) ?_
                      try go_wp2
                      go_ret
                      exact ⟨by first | rfl | (simp [errW_none, errW_some] <;> rfl) | (simp [*, errW_none, errW_some] <;> rfl), by repeat (first | (with_reducible first | exact HB.out | apply below_alloc | apply pw_below_drewN | apply below_drew1 | refine below_set ?_ GE496.out | refine below_set ?_ GE502.out | refine below_set ?_ GE506.out) | exact HB.out)⟩
                case rest =>
                  clear HC24
                  try clear c1
                  try clear c2
                  try clear p2
                  try clear c3
                  try clear c4
                  try clear p5
                  try clear q5
                  try clear hx5
                  try clear c6
                  try clear c6b0
                  try clear c6b1
                  try clear c15
                  try clear c16
                  try clear c19
                  try clear c19b0
                  try clear c19b1
                  try clear c19b2
                  try clear c20
                  try clear c20b0
                  try clear c21
                  try clear c22
                  try clear c22b0
                  try clear c23
                  try clear c23b0
                  try clear c26
                  try clear c26b0
                  try clear c26b1
                  try clear c26b2
                  try clear c28
                  try clear c28b0
                  try clear c28b1
                  try clear hcz10_0
                  try clear hcz10_1
                  try clear hcz10_2
                  try clear hcz12_0
                  try clear hcz12_1
                  try clear hcz12_2
                  try clear hcz16_0
                  try clear hcz16_1
                  try clear hcz17_0
                  try clear hcz17_1
                  try clear hcz17_2
                  try clear hfz10_0
                  try clear hfz10_1
                  try clear hfz10_2
                  try clear hfz12_0
                  try clear hfz12_1
                  try clear hfz12_2
                  try clear hfz16_0
                  try clear hfz16_1
                  try clear hfz17_0
                  try clear hfz17_1
                  try clear hfz17_2
                  try clear hx507_0
                  try clear hx507_1
                  try clear hx507_2
                  try clear hx507_3
                  try clear hx507_4
                  try clear hx507_5
                  try clear hx508_0
                  try clear hx508_1
                  try clear hx508_2
                  try clear hx508_3
                  try clear hx508_4
                  try clear hx508_5
                  try clear hx509_0
                  try clear hx509_1
                  try clear hx509_2
                  try clear hx509_3
                  try clear hx509_4
                  try clear hx509_5
                  try clear p2
                  try clear p507
                  try clear p508
                  try clear p509
                  try clear q507
                  try clear q508
                  try clear q509
                  obtain ⟨kq, x507000_23, x507001_23, HA, HJ23, BK496, BK502, BK506, HB⟩ := hcut
                  cases kq with
                  | zero => exact absurd HA.out (by simp [metrolablaw52_CalibrateAdds.j1])
                  | succ kj23 =>
                    have H := HA.out
                    clear HA
                    simp only [metrolablaw52_CalibrateAdds.j1] at H
                    have HC37 := Aside0.mk H
                    clear H
                    go_upto_region 14 with (fail)
                    go_cut [107] (fun v107 wc => ∃ (kq : Nat) (x107_36 : Bool), v107 = .bool x107_36 ∧ Aside0 (metrolablaw52_CalibrateAdds.j2 kq l0 x107_36 a1_0 a1_1 a1_2 t499 t500 = some r) ∧ Aside0 (kq ≤ kj23) ∧ Aside0 (wc.heap[gb496]? = some (.cells #[.string a1_0, .int .i64 a1_1, .int .i64 a1_2] 51 (0, 0))) ∧ Aside0 (wc.heap[gb502]? = some (.cells #[.int .i64 t499, .int .i64 t500] 25 (0, 0))) ∧ Aside0 (wc.heap[gb506]? = some (.cells #[.int .i64 x507000_23, .int .i64 x507001_23] 25 (0, 0))) ∧ Aside0 (Below w.heap.size w wc))
                    case first =>
                      have H := HC37.out
                      clear HC37
                      by_cases c38 : 0 ≤ t504
                      · rw [if_pos c38] at H
                        have c38b0 : decide (0 ≤ t504) = true := decide_eq_true c38
                        clear c38
                        (first | rw [c38b0] | (simp only [i64_w, i32_w]; rw [c38b0]) | (rw [c38b2]; try simp only [Bool.not_true, Bool.not_false]) | skip)
                        by_cases c39 : t504 < (l0.length : Int)
                        · rw [if_pos c39] at H
                          have c39b0 : decide (t504 < (l0.length : Int)) = true := decide_eq_true c39
                          clear c39
                          by_cases c40 : t499 = (wrap64 ((wrap64 (x507000_23 + ((rd_T68 l0 t504).f2))) - ((rd_T68 l0 t504).f3)))
                          · rw [if_pos c40] at H
                            have c40b0 : (t499 == (wrap64 ((wrap64 (x507000_23 + ((rd_T68 l0 t504).f2))) - ((rd_T68 l0 t504).f3)))) = true := beq_iff_eq.mpr c40
                            have c40b1 : (t499 != (wrap64 ((wrap64 (x507000_23 + ((rd_T68 l0 t504).f2))) - ((rd_T68 l0 t504).f3)))) = false := bne_eq_false_iff_eq.mpr c40
                            clear c40
                            have H' := Aside0.mk H
                            clear H
                            try go_wp2
                            have n0_ := Aside0.mk (blk_drew BK496.out)
                            have n1_ := Aside0.mk (blk_drew BK502.out)
                            have n2_ := Aside0.mk (blk_drew BK506.out)
                            have n3_ := Aside0.mk (below_drew1 HB.out)
                            clear BK496
                            clear BK502
                            clear BK506
                            clear HB
                            have BK496 := n0_
                            have BK502 := n1_
                            have BK506 := n2_
                            have HB := n3_
                            clear n0_ n1_ n2_ n3_
                            have p513 : 0 ≤ (t504 : Int) := of_decide_eq_true (by first | (with_reducible assumption) | assumption)
                            have q513 : t504 < (l0.length : Int) := of_decide_eq_true (by first | (with_reducible assumption) | assumption)
                            obtain ⟨ad513, e513, hx513_0, hx513_1, hx513_2, hx513_3, hx513_4, hx513_5⟩ := at_T68 HR0.out t504 p513 q513
                            have hw513_5 := hx513_5
                            have hw513_4 := hx513_4
                            have hw513_3 := hx513_3
                            have hw513_2 := hx513_2
                            have hw513_1 := hx513_1
                            have hw513_0 := hx513_0
                            obtain rfl : ad507 = ad513 := (by injection e513)
                            replace hx513_0 := (HB.out.cell (World.block_lt_of_cell? w _ hx513_0)).trans hx513_0
                            replace hx513_1 := (HB.out.cell (World.block_lt_of_cell? w _ hx513_1)).trans hx513_1
                            replace hx513_2 := (HB.out.cell (World.block_lt_of_cell? w _ hx513_2)).trans hx513_2
                            replace hx513_3 := (HB.out.cell (World.block_lt_of_cell? w _ hx513_3)).trans hx513_3
                            replace hx513_4 := (HB.out.cell (World.block_lt_of_cell? w _ hx513_4)).trans hx513_4
                            replace hx513_5 := (HB.out.cell (World.block_lt_of_cell? w _ hx513_5)).trans hx513_5
                            replace p513 := eq_true p513
                            replace q513 := eq_true q513
                            have p514 : 0 ≤ (t504 : Int) := of_decide_eq_true (by first | (with_reducible assumption) | assumption)
                            have q514 : t504 < (l0.length : Int) := of_decide_eq_true (by first | (with_reducible assumption) | assumption)
                            obtain ⟨ad514, e514, hx514_0, hx514_1, hx514_2, hx514_3, hx514_4, hx514_5⟩ := at_T68 HR0.out t504 p514 q514
                            have hw514_5 := hx514_5
                            have hw514_4 := hx514_4
                            have hw514_3 := hx514_3
                            have hw514_2 := hx514_2
                            have hw514_1 := hx514_1
                            have hw514_0 := hx514_0
                            obtain rfl : ad507 = ad514 := (by injection e514)
                            replace hx514_0 := (HB.out.cell (World.block_lt_of_cell? w _ hx514_0)).trans hx514_0
                            replace hx514_1 := (HB.out.cell (World.block_lt_of_cell? w _ hx514_1)).trans hx514_1
                            replace hx514_2 := (HB.out.cell (World.block_lt_of_cell? w _ hx514_2)).trans hx514_2
                            replace hx514_3 := (HB.out.cell (World.block_lt_of_cell? w _ hx514_3)).trans hx514_3
                            replace hx514_4 := (HB.out.cell (World.block_lt_of_cell? w _ hx514_4)).trans hx514_4
                            replace hx514_5 := (HB.out.cell (World.block_lt_of_cell? w _ hx514_5)).trans hx514_5
                            replace p514 := eq_true p514
                            replace q514 := eq_true q514
                            have p515 : 0 ≤ (t504 : Int) := of_decide_eq_true (by first | (with_reducible assumption) | assumption)
                            have q515 : t504 < (l0.length : Int) := of_decide_eq_true (by first | (with_reducible assumption) | assumption)
                            obtain ⟨ad515, e515, hx515_0, hx515_1, hx515_2, hx515_3, hx515_4, hx515_5⟩ := at_T68 HR0.out t504 p515 q515
                            have hw515_5 := hx515_5
                            have hw515_4 := hx515_4
                            have hw515_3 := hx515_3
                            have hw515_2 := hx515_2
                            have hw515_1 := hx515_1
                            have hw515_0 := hx515_0
                            obtain rfl : ad507 = ad515 := (by injection e515)
                            replace hx515_0 := (HB.out.cell (World.block_lt_of_cell? w _ hx515_0)).trans hx515_0
                            replace hx515_1 := (HB.out.cell (World.block_lt_of_cell? w _ hx515_1)).trans hx515_1
                            replace hx515_2 := (HB.out.cell (World.block_lt_of_cell? w _ hx515_2)).trans hx515_2
                            replace hx515_3 := (HB.out.cell (World.block_lt_of_cell? w _ hx515_3)).trans hx515_3
                            replace hx515_4 := (HB.out.cell (World.block_lt_of_cell? w _ hx515_4)).trans hx515_4
                            replace hx515_5 := (HB.out.cell (World.block_lt_of_cell? w _ hx515_5)).trans hx515_5
                            replace p515 := eq_true p515
                            replace q515 := eq_true q515
                            have p516 : 0 ≤ (t504 : Int) := of_decide_eq_true (by first | (with_reducible assumption) | assumption)
                            have q516 : t504 < (l0.length : Int) := of_decide_eq_true (by first | (with_reducible assumption) | assumption)
                            obtain ⟨ad516, e516, hx516_0, hx516_1, hx516_2, hx516_3, hx516_4, hx516_5⟩ := at_T68 HR0.out t504 p516 q516
                            have hw516_5 := hx516_5
                            have hw516_4 := hx516_4
                            have hw516_3 := hx516_3
                            have hw516_2 := hx516_2
                            have hw516_1 := hx516_1
                            have hw516_0 := hx516_0
                            obtain rfl : ad507 = ad516 := (by injection e516)
                            replace hx516_0 := (HB.out.cell (World.block_lt_of_cell? w _ hx516_0)).trans hx516_0
                            replace hx516_1 := (HB.out.cell (World.block_lt_of_cell? w _ hx516_1)).trans hx516_1
                            replace hx516_2 := (HB.out.cell (World.block_lt_of_cell? w _ hx516_2)).trans hx516_2
                            replace hx516_3 := (HB.out.cell (World.block_lt_of_cell? w _ hx516_3)).trans hx516_3
                            replace hx516_4 := (HB.out.cell (World.block_lt_of_cell? w _ hx516_4)).trans hx516_4
                            replace hx516_5 := (HB.out.cell (World.block_lt_of_cell? w _ hx516_5)).trans hx516_5
                            replace p516 := eq_true p516
                            replace q516 := eq_true q516
                            refine start_ (n := 36) (S := fun w' => w'.cell? ⟨gb502, 0, none⟩ = some (.int .i64 t499) ∧ w'.cell? ⟨gb502, 1, none⟩ = some (.int .i64 t500) ∧ w'.cell? ⟨gb506, 0, none⟩ = some (.int .i64 x507000_23) ∧ w'.cell? ⟨gb506, 1, none⟩ = some (.int .i64 x507001_23) ∧ w'.cell? (ad507.add ((t504).toNat * 6)) = some (.string ((rd_T68 l0 t504).f0)) ∧ w'.cell? ⟨(ad507.add ((t504).toNat * 6)).block, (ad507.add ((t504).toNat * 6)).off + 1, none⟩ = some (.string ((rd_T68 l0 t504).f1)) ∧ w'.cell? ⟨(ad507.add ((t504).toNat * 6)).block, (ad507.add ((t504).toNat * 6)).off + 2, none⟩ = some (.int .i64 ((rd_T68 l0 t504).f2)) ∧ w'.cell? ⟨(ad507.add ((t504).toNat * 6)).block, (ad507.add ((t504).toNat * 6)).off + 3, none⟩ = some (.int .i64 ((rd_T68 l0 t504).f3)) ∧ w'.cell? ⟨(ad507.add ((t504).toNat * 6)).block, (ad507.add ((t504).toNat * 6)).off + 4, none⟩ = some (.int .i64 ((rd_T68 l0 t504).f4)) ∧ w'.cell? ⟨(ad507.add ((t504).toNat * 6)).block, (ad507.add ((t504).toNat * 6)).off + 5, none⟩ = some (.int .i64 ((rd_T68 l0 t504).f5)) ∧ w'.cell? (ad507.add ((t504).toNat * 6)) = some (.string ((rd_T68 l0 t504).f0)) ∧ w'.cell? ⟨(ad507.add ((t504).toNat * 6)).block, (ad507.add ((t504).toNat * 6)).off + 1, none⟩ = some (.string ((rd_T68 l0 t504).f1)) ∧ w'.cell? ⟨(ad507.add ((t504).toNat * 6)).block, (ad507.add ((t504).toNat * 6)).off + 2, none⟩ = some (.int .i64 ((rd_T68 l0 t504).f2)) ∧ w'.cell? ⟨(ad507.add ((t504).toNat * 6)).block, (ad507.add ((t504).toNat * 6)).off + 3, none⟩ = some (.int .i64 ((rd_T68 l0 t504).f3)) ∧ w'.cell? ⟨(ad507.add ((t504).toNat * 6)).block, (ad507.add ((t504).toNat * 6)).off + 4, none⟩ = some (.int .i64 ((rd_T68 l0 t504).f4)) ∧ w'.cell? ⟨(ad507.add ((t504).toNat * 6)).block, (ad507.add ((t504).toNat * 6)).off + 5, none⟩ = some (.int .i64 ((rd_T68 l0 t504).f5)) ∧ w'.cell? (ad507.add ((t504).toNat * 6)) = some (.string ((rd_T68 l0 t504).f0)) ∧ w'.cell? ⟨(ad507.add ((t504).toNat * 6)).block, (ad507.add ((t504).toNat * 6)).off + 1, none⟩ = some (.string ((rd_T68 l0 t504).f1)) ∧ w'.cell? ⟨(ad507.add ((t504).toNat * 6)).block, (ad507.add ((t504).toNat * 6)).off + 2, none⟩ = some (.int .i64 ((rd_T68 l0 t504).f2)) ∧ w'.cell? ⟨(ad507.add ((t504).toNat * 6)).block, (ad507.add ((t504).toNat * 6)).off + 3, none⟩ = some (.int .i64 ((rd_T68 l0 t504).f3)) ∧ w'.cell? ⟨(ad507.add ((t504).toNat * 6)).block, (ad507.add ((t504).toNat * 6)).off + 4, none⟩ = some (.int .i64 ((rd_T68 l0 t504).f4)) ∧ w'.cell? ⟨(ad507.add ((t504).toNat * 6)).block, (ad507.add ((t504).toNat * 6)).off + 5, none⟩ = some (.int .i64 ((rd_T68 l0 t504).f5)) ∧ w'.cell? (ad507.add ((t504).toNat * 6)) = some (.string ((rd_T68 l0 t504).f0)) ∧ w'.cell? ⟨(ad507.add ((t504).toNat * 6)).block, (ad507.add ((t504).toNat * 6)).off + 1, none⟩ = some (.string ((rd_T68 l0 t504).f1)) ∧ w'.cell? ⟨(ad507.add ((t504).toNat * 6)).block, (ad507.add ((t504).toNat * 6)).off + 2, none⟩ = some (.int .i64 ((rd_T68 l0 t504).f2)) ∧ w'.cell? ⟨(ad507.add ((t504).toNat * 6)).block, (ad507.add ((t504).toNat * 6)).off + 3, none⟩ = some (.int .i64 ((rd_T68 l0 t504).f3)) ∧ w'.cell? ⟨(ad507.add ((t504).toNat * 6)).block, (ad507.add ((t504).toNat * 6)).off + 4, none⟩ = some (.int .i64 ((rd_T68 l0 t504).f4)) ∧ w'.cell? ⟨(ad507.add ((t504).toNat * 6)).block, (ad507.add ((t504).toNat * 6)).off + 5, none⟩ = some (.int .i64 ((rd_T68 l0 t504).f5))) (ds := []) #[false, false, false, false, false, false, false, false, false, false, false, false, false, false, false, false, false, false, false, false, false, false, false, false, false, false, false, false, false, false, false, false, false, false, false, false] (by kernel_rfl) rfl rfl ⟨(blk_cell BK502.out 0).trans rfl, (blk_cell BK502.out 1).trans rfl, (blk_cell BK506.out 0).trans rfl, (blk_cell BK506.out 1).trans rfl, ((HB.out.cell (World.block_lt_of_cell? w _ hw513_0)).trans hw513_0), ((HB.out.cell (World.block_lt_of_cell? w _ hw513_1)).trans hw513_1), ((HB.out.cell (World.block_lt_of_cell? w _ hw513_2)).trans hw513_2), ((HB.out.cell (World.block_lt_of_cell? w _ hw513_3)).trans hw513_3), ((HB.out.cell (World.block_lt_of_cell? w _ hw513_4)).trans hw513_4), ((HB.out.cell (World.block_lt_of_cell? w _ hw513_5)).trans hw513_5), ((HB.out.cell (World.block_lt_of_cell? w _ hw514_0)).trans hw514_0), ((HB.out.cell (World.block_lt_of_cell? w _ hw514_1)).trans hw514_1), ((HB.out.cell (World.block_lt_of_cell? w _ hw514_2)).trans hw514_2), ((HB.out.cell (World.block_lt_of_cell? w _ hw514_3)).trans hw514_3), ((HB.out.cell (World.block_lt_of_cell? w _ hw514_4)).trans hw514_4), ((HB.out.cell (World.block_lt_of_cell? w _ hw514_5)).trans hw514_5), ((HB.out.cell (World.block_lt_of_cell? w _ hw515_0)).trans hw515_0), ((HB.out.cell (World.block_lt_of_cell? w _ hw515_1)).trans hw515_1), ((HB.out.cell (World.block_lt_of_cell? w _ hw515_2)).trans hw515_2), ((HB.out.cell (World.block_lt_of_cell? w _ hw515_3)).trans hw515_3), ((HB.out.cell (World.block_lt_of_cell? w _ hw515_4)).trans hw515_4), ((HB.out.cell (World.block_lt_of_cell? w _ hw515_5)).trans hw515_5), ((HB.out.cell (World.block_lt_of_cell? w _ hw516_0)).trans hw516_0), ((HB.out.cell (World.block_lt_of_cell? w _ hw516_1)).trans hw516_1), ((HB.out.cell (World.block_lt_of_cell? w _ hw516_2)).trans hw516_2), ((HB.out.cell (World.block_lt_of_cell? w _ hw516_3)).trans hw516_3), ((HB.out.cell (World.block_lt_of_cell? w _ hw516_4)).trans hw516_4), ((HB.out.cell (World.block_lt_of_cell? w _ hw516_5)).trans hw516_5)⟩ (fun hHeld => ?_); refine with_tabW metrolablaw52_CalibrateAdds.tab14 metrolablaw52_CalibrateAdds.bits14 (fun HT_ HW_ => ?_)
                            generalize wc.drew = w41 at BK496 BK502 BK506 HB hx513_0 hx513_1 hx513_2 hx513_3 hx513_4 hx513_5 hx514_0 hx514_1 hx514_2 hx514_3 hx514_4 hx514_5 hx515_0 hx515_1 hx515_2 hx515_3 hx515_4 hx515_5 hx516_0 hx516_1 hx516_2 hx516_3 hx516_4 hx516_5 hHeld ⊢
                            refine pure_ (i := 0) (N := some 72) (v := ?_) (a' := ?_) #[true, false, false, false, false, false, false, false, false, false, false, false, false, false, false, false, false, false, false, false, false, false, false, false, false, false, false, false, false, false, false, false, false, false, false, false] rfl rfl (any_of HT_.out (by kernel_rfl)) (fun _ _ _ h => h) (Or.inl ⟨by rfl, ?_⟩) ?_ ?_
                            rotate_left
                            · intro w'
                              go_simp
                              with_reducible rfl
                            rotate_left
                            · simp only [Act.put, List.setIfInBounds_toArray, List.set_cons_zero, List.set_cons_succ, i64_w, i32_w]
                              rfl
                            refine pure_ (i := 2) (N := some 74) (v := ?_) (a' := ?_) #[true, false, true, false, false, false, false, false, false, false, false, false, false, false, false, false, false, false, false, false, false, false, false, false, false, false, false, false, false, false, false, false, false, false, false, false] rfl rfl (any_of HT_.out (by kernel_rfl)) (fun _ _ _ h => h) (Or.inl ⟨by rfl, ?_⟩) ?_ ?_
                            rotate_left
                            · intro w'
                              go_simp
                              with_reducible rfl
                            rotate_left
                            · simp only [Act.put, List.setIfInBounds_toArray, List.set_cons_zero, List.set_cons_succ, i64_w, i32_w]
                              rfl
                            refine pure_ (i := 4) (N := some 76) (v := ?_) (a' := ?_) #[true, false, true, false, true, false, false, false, false, false, false, false, false, false, false, false, false, false, false, false, false, false, false, false, false, false, false, false, false, false, false, false, false, false, false, false] rfl rfl (any_of HT_.out (by kernel_rfl)) (fun _ _ _ h => h) (Or.inl ⟨by rfl, ?_⟩) ?_ ?_
                            rotate_left
                            · intro w'
                              go_simp
                              with_reducible rfl
                            rotate_left
                            · simp only [Act.put, List.setIfInBounds_toArray, List.set_cons_zero, List.set_cons_succ, i64_w, i32_w]
                              rfl
                            refine pure_ (i := 5) (N := some 77) (v := ?_) (a' := ?_) #[true, false, true, false, true, true, false, false, false, false, false, false, false, false, false, false, false, false, false, false, false, false, false, false, false, false, false, false, false, false, false, false, false, false, false, false] rfl rfl (any_of HT_.out (by kernel_rfl)) (fun _ _ _ h => h) (Or.inl ⟨by rfl, ?_⟩) ?_ ?_
                            rotate_left
                            · intro w'
                              go_simp
                              with_reducible rfl
                            rotate_left
                            · simp only [Act.put, List.setIfInBounds_toArray, List.set_cons_zero, List.set_cons_succ, i64_w, i32_w]
                              rfl
                            refine pure_ (i := 6) (N := some 78) (v := ?_) (a' := ?_) #[true, false, true, false, true, true, true, false, false, false, false, false, false, false, false, false, false, false, false, false, false, false, false, false, false, false, false, false, false, false, false, false, false, false, false, false] rfl rfl (any_of HT_.out (by kernel_rfl)) (fun _ _ _ h => h) (Or.inl ⟨by rfl, ?_⟩) ?_ ?_
                            rotate_left
                            · intro w'
                              go_simp
                              with_reducible rfl
                            rotate_left
                            · simp only [Act.put, List.setIfInBounds_toArray, List.set_cons_zero, List.set_cons_succ, i64_w, i32_w]
                              rfl
                            refine pure_ (i := 7) (N := some 79) (v := ?_) (a' := ?_) #[true, false, true, false, true, true, true, true, false, false, false, false, false, false, false, false, false, false, false, false, false, false, false, false, false, false, false, false, false, false, false, false, false, false, false, false] rfl rfl (any_of HT_.out (by kernel_rfl)) (fun _ _ _ h => h) (Or.inl ⟨by rfl, ?_⟩) ?_ ?_
                            rotate_left
                            · intro w'
                              go_simp
                              with_reducible rfl
                            rotate_left
                            · simp only [Act.put, List.setIfInBounds_toArray, List.set_cons_zero, List.set_cons_succ, i64_w, i32_w]
                              rfl
                            refine pure_ (i := 10) (N := some 82) (v := ?_) (a' := ?_) #[true, false, true, false, true, true, true, true, false, false, true, false, false, false, false, false, false, false, false, false, false, false, false, false, false, false, false, false, false, false, false, false, false, false, false, false] rfl rfl (any_of HT_.out (by kernel_rfl)) (fun _ _ _ h => h) (Or.inl ⟨by rfl, ?_⟩) ?_ ?_
                            rotate_left
                            · intro w'
                              go_simp
                              with_reducible rfl
                            rotate_left
                            · simp only [Act.put, List.setIfInBounds_toArray, List.set_cons_zero, List.set_cons_succ, i64_w, i32_w]
                              rfl
                            refine pure_ (i := 11) (N := some 83) (v := ?_) (a' := ?_) #[true, false, true, false, true, true, true, true, false, false, true, true, false, false, false, false, false, false, false, false, false, false, false, false, false, false, false, false, false, false, false, false, false, false, false, false] rfl rfl (any_of HT_.out (by kernel_rfl)) (fun _ _ _ h => h) (Or.inl ⟨by rfl, ?_⟩) ?_ ?_
                            rotate_left
                            · intro w'
                              go_simp
                              with_reducible rfl
                            rotate_left
                            · simp only [Act.put, List.setIfInBounds_toArray, List.set_cons_zero, List.set_cons_succ, i64_w, i32_w]
                              rfl
                            refine pure_ (i := 12) (N := some 84) (v := ?_) (a' := ?_) #[true, false, true, false, true, true, true, true, false, false, true, true, true, false, false, false, false, false, false, false, false, false, false, false, false, false, false, false, false, false, false, false, false, false, false, false] rfl rfl (any_of HT_.out (by kernel_rfl)) (fun _ _ _ h => h) (Or.inl ⟨by rfl, ?_⟩) ?_ ?_
                            rotate_left
                            · intro w'
                              go_simp
                              with_reducible rfl
                            rotate_left
                            · simp only [Act.put, List.setIfInBounds_toArray, List.set_cons_zero, List.set_cons_succ, i64_w, i32_w]
                              rfl
                            refine pure_ (i := 13) (N := some 85) (v := ?_) (a' := ?_) #[true, false, true, false, true, true, true, true, false, false, true, true, true, true, false, false, false, false, false, false, false, false, false, false, false, false, false, false, false, false, false, false, false, false, false, false] rfl rfl (any_of HT_.out (by kernel_rfl)) (fun _ _ _ h => h) (Or.inl ⟨by rfl, ?_⟩) ?_ ?_
                            rotate_left
                            · intro w'
                              go_simp
                              with_reducible rfl
                            rotate_left
                            · simp only [Act.put, List.setIfInBounds_toArray, List.set_cons_zero, List.set_cons_succ, i64_w, i32_w]
                              rfl
                            refine take_ (i := 1) (N := some 73) (v := ?_) (a' := ?_) #[true, true, true, false, true, true, true, true, false, false, true, true, true, true, false, false, false, false, false, false, false, false, false, false, false, false, false, false, false, false, false, false, false, false, false, false] rfl rfl (take_ofW HT_.out HW_.out (by kernel_rfl)) (fun _ _ _ h => h) (Or.inl ⟨by rfl, ?_⟩) hHeld ?_ ?_
                            rotate_left
                            · rintro w' ⟨s0, s1, s2, s3, s4, s5, s6, s7, s8, s9, s10, s11, s12, s13, s14, s15, s16, s17, s18, s19, s20, s21, s22, s23, s24, s25, s26, s27⟩
                              go_simp
                              with_reducible rfl
                            rotate_left
                            · simp only [Act.put, List.setIfInBounds_toArray, List.set_cons_zero, List.set_cons_succ, i64_w, i32_w]
                              rfl
                            refine take_ (i := 3) (N := some 75) (v := ?_) (a' := ?_) #[true, true, true, true, true, true, true, true, false, false, true, true, true, true, false, false, false, false, false, false, false, false, false, false, false, false, false, false, false, false, false, false, false, false, false, false] rfl rfl (take_ofW HT_.out HW_.out (by kernel_rfl)) (fun _ _ _ h => h) (Or.inl ⟨by rfl, ?_⟩) hHeld ?_ ?_
                            rotate_left
                            · rintro w' ⟨s0, s1, s2, s3, s4, s5, s6, s7, s8, s9, s10, s11, s12, s13, s14, s15, s16, s17, s18, s19, s20, s21, s22, s23, s24, s25, s26, s27⟩
                              go_simp
                              with_reducible rfl
                            rotate_left
                            · simp only [Act.put, List.setIfInBounds_toArray, List.set_cons_zero, List.set_cons_succ, i64_w, i32_w]
                              rfl
                            refine take_ (i := 8) (N := some 80) (v := ?_) (a' := ?_) #[true, true, true, true, true, true, true, true, true, false, true, true, true, true, false, false, false, false, false, false, false, false, false, false, false, false, false, false, false, false, false, false, false, false, false, false] rfl rfl (take_ofW HT_.out HW_.out (by kernel_rfl)) (fun _ _ _ h => h) (Or.inl ⟨by rfl, ?_⟩) hHeld ?_ ?_
                            rotate_left
                            · rintro w' ⟨s0, s1, s2, s3, s4, s5, s6, s7, s8, s9, s10, s11, s12, s13, s14, s15, s16, s17, s18, s19, s20, s21, s22, s23, s24, s25, s26, s27⟩
                              go_simp
                              with_reducible rfl
                            rotate_left
                            · simp only [Act.put, List.setIfInBounds_toArray, List.set_cons_zero, List.set_cons_succ, i64_w, i32_w]
                              rfl
                            refine pure_ (i := 9) (N := some 81) (v := ?_) (a' := ?_) #[true, true, true, true, true, true, true, true, true, true, true, true, true, true, false, false, false, false, false, false, false, false, false, false, false, false, false, false, false, false, false, false, false, false, false, false] rfl rfl (any_of HT_.out (by kernel_rfl)) (fun _ _ _ h => h) (Or.inl ⟨by rfl, ?_⟩) ?_ ?_
                            rotate_left
                            · intro w'
                              go_simp
                              with_reducible rfl
                            rotate_left
                            · simp only [Act.put, List.setIfInBounds_toArray, List.set_cons_zero, List.set_cons_succ, i64_w, i32_w]
                              rfl
                            refine take_ (i := 14) (N := some 86) (v := ?_) (a' := ?_) #[true, true, true, true, true, true, true, true, true, true, true, true, true, true, true, false, false, false, false, false, false, false, false, false, false, false, false, false, false, false, false, false, false, false, false, false] rfl rfl (take_ofW HT_.out HW_.out (by kernel_rfl)) (fun _ _ _ h => h) (Or.inl ⟨by rfl, ?_⟩) hHeld ?_ ?_
                            rotate_left
                            · rintro w' ⟨s0, s1, s2, s3, s4, s5, s6, s7, s8, s9, s10, s11, s12, s13, s14, s15, s16, s17, s18, s19, s20, s21, s22, s23, s24, s25, s26, s27⟩
                              go_simp
                              with_reducible rfl
                            rotate_left
                            · simp only [Act.put, List.setIfInBounds_toArray, List.set_cons_zero, List.set_cons_succ, i64_w, i32_w]
                              rfl
                            refine pure_ (i := 15) (N := some 87) (v := ?_) (a' := ?_) #[true, true, true, true, true, true, true, true, true, true, true, true, true, true, true, true, false, false, false, false, false, false, false, false, false, false, false, false, false, false, false, false, false, false, false, false] rfl rfl (any_of HT_.out (by kernel_rfl)) (fun _ _ _ h => h) (Or.inl ⟨by rfl, ?_⟩) ?_ ?_
                            rotate_left
                            · intro w'
                              go_simp
                              with_reducible rfl
                            rotate_left
                            · simp only [Act.put, List.setIfInBounds_toArray, List.set_cons_zero, List.set_cons_succ, i64_w, i32_w]
                              rfl
                            refine pure_ (i := 16) (N := some 88) (v := ?_) (a' := ?_) #[true, true, true, true, true, true, true, true, true, true, true, true, true, true, true, true, true, false, false, false, false, false, false, false, false, false, false, false, false, false, false, false, false, false, false, false] rfl rfl (any_of HT_.out (by kernel_rfl)) (fun _ _ _ h => h) (Or.inl ⟨by rfl, ?_⟩) ?_ ?_
                            rotate_left
                            · intro w'
                              go_simp
                              with_reducible rfl
                            rotate_left
                            · simp only [Act.put, List.setIfInBounds_toArray, List.set_cons_zero, List.set_cons_succ, i64_w, i32_w]
                              rfl
                            refine pure_ (i := 17) (N := some 89) (v := ?_) (a' := ?_) #[true, true, true, true, true, true, true, true, true, true, true, true, true, true, true, true, true, true, false, false, false, false, false, false, false, false, false, false, false, false, false, false, false, false, false, false] rfl rfl (any_of HT_.out (by kernel_rfl)) (fun _ _ _ h => h) (Or.inl ⟨by rfl, ?_⟩) ?_ ?_
                            rotate_left
                            · intro w'
                              go_simp
                              with_reducible rfl
                            rotate_left
                            · simp only [Act.put, List.setIfInBounds_toArray, List.set_cons_zero, List.set_cons_succ, i64_w, i32_w]
                              rfl
                            refine pure_ (i := 18) (N := some 90) (v := ?_) (a' := ?_) #[true, true, true, true, true, true, true, true, true, true, true, true, true, true, true, true, true, true, true, false, false, false, false, false, false, false, false, false, false, false, false, false, false, false, false, false] rfl rfl (any_of HT_.out (by kernel_rfl)) (fun _ _ _ h => h) (Or.inl ⟨by rfl, ?_⟩) ?_ ?_
                            rotate_left
                            · intro w'
                              go_simp
                              with_reducible rfl
                            rotate_left
                            · simp only [Act.put, List.setIfInBounds_toArray, List.set_cons_zero, List.set_cons_succ, i64_w, i32_w]
                              rfl
                            refine pure_ (i := 20) (N := some 92) (v := ?_) (a' := ?_) #[true, true, true, true, true, true, true, true, true, true, true, true, true, true, true, true, true, true, true, false, true, false, false, false, false, false, false, false, false, false, false, false, false, false, false, false] rfl rfl (any_of HT_.out (by kernel_rfl)) (fun _ _ _ h => h) (Or.inl ⟨by rfl, ?_⟩) ?_ ?_
                            rotate_left
                            · intro w'
                              go_simp
                              with_reducible rfl
                            rotate_left
                            · simp only [Act.put, List.setIfInBounds_toArray, List.set_cons_zero, List.set_cons_succ, i64_w, i32_w]
                              rfl
                            refine pure_ (i := 22) (N := some 94) (v := ?_) (a' := ?_) #[true, true, true, true, true, true, true, true, true, true, true, true, true, true, true, true, true, true, true, false, true, false, true, false, false, false, false, false, false, false, false, false, false, false, false, false] rfl rfl (any_of HT_.out (by kernel_rfl)) (fun _ _ _ h => h) (Or.inl ⟨by rfl, ?_⟩) ?_ ?_
                            rotate_left
                            · intro w'
                              go_simp
                              with_reducible rfl
                            rotate_left
                            · simp only [Act.put, List.setIfInBounds_toArray, List.set_cons_zero, List.set_cons_succ, i64_w, i32_w]
                              rfl
                            refine pure_ (i := 23) (N := some 95) (v := ?_) (a' := ?_) #[true, true, true, true, true, true, true, true, true, true, true, true, true, true, true, true, true, true, true, false, true, false, true, true, false, false, false, false, false, false, false, false, false, false, false, false] rfl rfl (any_of HT_.out (by kernel_rfl)) (fun _ _ _ h => h) (Or.inl ⟨by rfl, ?_⟩) ?_ ?_
                            rotate_left
                            · intro w'
                              go_simp
                              with_reducible rfl
                            rotate_left
                            · simp only [Act.put, List.setIfInBounds_toArray, List.set_cons_zero, List.set_cons_succ, i64_w, i32_w]
                              rfl
                            refine pure_ (i := 24) (N := some 96) (v := ?_) (a' := ?_) #[true, true, true, true, true, true, true, true, true, true, true, true, true, true, true, true, true, true, true, false, true, false, true, true, true, false, false, false, false, false, false, false, false, false, false, false] rfl rfl (any_of HT_.out (by kernel_rfl)) (fun _ _ _ h => h) (Or.inl ⟨by rfl, ?_⟩) ?_ ?_
                            rotate_left
                            · intro w'
                              go_simp
                              with_reducible rfl
                            rotate_left
                            · simp only [Act.put, List.setIfInBounds_toArray, List.set_cons_zero, List.set_cons_succ, i64_w, i32_w]
                              rfl
                            refine pure_ (i := 25) (N := some 97) (v := ?_) (a' := ?_) #[true, true, true, true, true, true, true, true, true, true, true, true, true, true, true, true, true, true, true, false, true, false, true, true, true, true, false, false, false, false, false, false, false, false, false, false] rfl rfl (any_of HT_.out (by kernel_rfl)) (fun _ _ _ h => h) (Or.inl ⟨by rfl, ?_⟩) ?_ ?_
                            rotate_left
                            · intro w'
                              go_simp
                              with_reducible rfl
                            rotate_left
                            · simp only [Act.put, List.setIfInBounds_toArray, List.set_cons_zero, List.set_cons_succ, i64_w, i32_w]
                              rfl
                            refine pure_ (i := 28) (N := some 100) (v := ?_) (a' := ?_) #[true, true, true, true, true, true, true, true, true, true, true, true, true, true, true, true, true, true, true, false, true, false, true, true, true, true, false, false, true, false, false, false, false, false, false, false] rfl rfl (any_of HT_.out (by kernel_rfl)) (fun _ _ _ h => h) (Or.inl ⟨by rfl, ?_⟩) ?_ ?_
                            rotate_left
                            · intro w'
                              go_simp
                              with_reducible rfl
                            rotate_left
                            · simp only [Act.put, List.setIfInBounds_toArray, List.set_cons_zero, List.set_cons_succ, i64_w, i32_w]
                              rfl
                            refine pure_ (i := 29) (N := some 101) (v := ?_) (a' := ?_) #[true, true, true, true, true, true, true, true, true, true, true, true, true, true, true, true, true, true, true, false, true, false, true, true, true, true, false, false, true, true, false, false, false, false, false, false] rfl rfl (any_of HT_.out (by kernel_rfl)) (fun _ _ _ h => h) (Or.inl ⟨by rfl, ?_⟩) ?_ ?_
                            rotate_left
                            · intro w'
                              go_simp
                              with_reducible rfl
                            rotate_left
                            · simp only [Act.put, List.setIfInBounds_toArray, List.set_cons_zero, List.set_cons_succ, i64_w, i32_w]
                              rfl
                            refine pure_ (i := 30) (N := some 102) (v := ?_) (a' := ?_) #[true, true, true, true, true, true, true, true, true, true, true, true, true, true, true, true, true, true, true, false, true, false, true, true, true, true, false, false, true, true, true, false, false, false, false, false] rfl rfl (any_of HT_.out (by kernel_rfl)) (fun _ _ _ h => h) (Or.inl ⟨by rfl, ?_⟩) ?_ ?_
                            rotate_left
                            · intro w'
                              go_simp
                              with_reducible rfl
                            rotate_left
                            · simp only [Act.put, List.setIfInBounds_toArray, List.set_cons_zero, List.set_cons_succ, i64_w, i32_w]
                              rfl
                            refine pure_ (i := 31) (N := some 103) (v := ?_) (a' := ?_) #[true, true, true, true, true, true, true, true, true, true, true, true, true, true, true, true, true, true, true, false, true, false, true, true, true, true, false, false, true, true, true, true, false, false, false, false] rfl rfl (any_of HT_.out (by kernel_rfl)) (fun _ _ _ h => h) (Or.inl ⟨by rfl, ?_⟩) ?_ ?_
                            rotate_left
                            · intro w'
                              go_simp
                              with_reducible rfl
                            rotate_left
                            · simp only [Act.put, List.setIfInBounds_toArray, List.set_cons_zero, List.set_cons_succ, i64_w, i32_w]
                              rfl
                            refine take_ (i := 19) (N := some 91) (v := ?_) (a' := ?_) #[true, true, true, true, true, true, true, true, true, true, true, true, true, true, true, true, true, true, true, true, true, false, true, true, true, true, false, false, true, true, true, true, false, false, false, false] rfl rfl (take_ofW HT_.out HW_.out (by kernel_rfl)) (fun _ _ _ h => h) (Or.inl ⟨by rfl, ?_⟩) hHeld ?_ ?_
                            rotate_left
                            · rintro w' ⟨s0, s1, s2, s3, s4, s5, s6, s7, s8, s9, s10, s11, s12, s13, s14, s15, s16, s17, s18, s19, s20, s21, s22, s23, s24, s25, s26, s27⟩
                              go_simp
                              with_reducible rfl
                            rotate_left
                            · simp only [Act.put, List.setIfInBounds_toArray, List.set_cons_zero, List.set_cons_succ, i64_w, i32_w]
                              rfl
                            refine take_ (i := 21) (N := some 93) (v := ?_) (a' := ?_) #[true, true, true, true, true, true, true, true, true, true, true, true, true, true, true, true, true, true, true, true, true, true, true, true, true, true, false, false, true, true, true, true, false, false, false, false] rfl rfl (take_ofW HT_.out HW_.out (by kernel_rfl)) (fun _ _ _ h => h) (Or.inl ⟨by rfl, ?_⟩) hHeld ?_ ?_
                            rotate_left
                            · rintro w' ⟨s0, s1, s2, s3, s4, s5, s6, s7, s8, s9, s10, s11, s12, s13, s14, s15, s16, s17, s18, s19, s20, s21, s22, s23, s24, s25, s26, s27⟩
                              go_simp
                              with_reducible rfl
                            rotate_left
                            · simp only [Act.put, List.setIfInBounds_toArray, List.set_cons_zero, List.set_cons_succ, i64_w, i32_w]
                              rfl
                            refine take_ (i := 26) (N := some 98) (v := ?_) (a' := ?_) #[true, true, true, true, true, true, true, true, true, true, true, true, true, true, true, true, true, true, true, true, true, true, true, true, true, true, true, false, true, true, true, true, false, false, false, false] rfl rfl (take_ofW HT_.out HW_.out (by kernel_rfl)) (fun _ _ _ h => h) (Or.inl ⟨by rfl, ?_⟩) hHeld ?_ ?_
                            rotate_left
                            · rintro w' ⟨s0, s1, s2, s3, s4, s5, s6, s7, s8, s9, s10, s11, s12, s13, s14, s15, s16, s17, s18, s19, s20, s21, s22, s23, s24, s25, s26, s27⟩
                              go_simp
                              with_reducible rfl
                            rotate_left
                            · simp only [Act.put, List.setIfInBounds_toArray, List.set_cons_zero, List.set_cons_succ, i64_w, i32_w]
                              rfl
                            refine pure_ (i := 27) (N := some 99) (v := ?_) (a' := ?_) #[true, true, true, true, true, true, true, true, true, true, true, true, true, true, true, true, true, true, true, true, true, true, true, true, true, true, true, true, true, true, true, true, false, false, false, false] rfl rfl (any_of HT_.out (by kernel_rfl)) (fun _ _ _ h => h) (Or.inl ⟨by rfl, ?_⟩) ?_ ?_
                            rotate_left
                            · intro w'
                              go_simp
                              with_reducible rfl
                            rotate_left
                            · simp only [Act.put, List.setIfInBounds_toArray, List.set_cons_zero, List.set_cons_succ, i64_w, i32_w]
                              rfl
                            refine take_ (i := 32) (N := some 104) (v := ?_) (a' := ?_) #[true, true, true, true, true, true, true, true, true, true, true, true, true, true, true, true, true, true, true, true, true, true, true, true, true, true, true, true, true, true, true, true, true, false, false, false] rfl rfl (take_ofW HT_.out HW_.out (by kernel_rfl)) (fun _ _ _ h => h) (Or.inl ⟨by rfl, ?_⟩) hHeld ?_ ?_
                            rotate_left
                            · rintro w' ⟨s0, s1, s2, s3, s4, s5, s6, s7, s8, s9, s10, s11, s12, s13, s14, s15, s16, s17, s18, s19, s20, s21, s22, s23, s24, s25, s26, s27⟩
                              go_simp
                              with_reducible rfl
                            rotate_left
                            · simp only [Act.put, List.setIfInBounds_toArray, List.set_cons_zero, List.set_cons_succ, i64_w, i32_w]
                              rfl
                            refine pure_ (i := 33) (N := some 105) (v := ?_) (a' := ?_) #[true, true, true, true, true, true, true, true, true, true, true, true, true, true, true, true, true, true, true, true, true, true, true, true, true, true, true, true, true, true, true, true, true, true, false, false] rfl rfl (any_of HT_.out (by kernel_rfl)) (fun _ _ _ h => h) (Or.inl ⟨by rfl, ?_⟩) ?_ ?_
                            rotate_left
                            · intro w'
                              go_simp
                              with_reducible rfl
                            rotate_left
                            · simp only [Act.put, List.setIfInBounds_toArray, List.set_cons_zero, List.set_cons_succ, i64_w, i32_w]
                              rfl
                            refine pure_ (i := 34) (N := some 106) (v := ?_) (a' := ?_) #[true, true, true, true, true, true, true, true, true, true, true, true, true, true, true, true, true, true, true, true, true, true, true, true, true, true, true, true, true, true, true, true, true, true, true, false] rfl rfl (any_of HT_.out (by kernel_rfl)) (fun _ _ _ h => h) (Or.inl ⟨by rfl, ?_⟩) ?_ ?_
                            rotate_left
                            · intro w'
                              go_simp
                              with_reducible rfl
                            rotate_left
                            · simp only [Act.put, List.setIfInBounds_toArray, List.set_cons_zero, List.set_cons_succ, i64_w, i32_w]
                              rfl
                            refine pure_ (i := 35) (N := some 107) (v := ?_) (a' := ?_) #[true, true, true, true, true, true, true, true, true, true, true, true, true, true, true, true, true, true, true, true, true, true, true, true, true, true, true, true, true, true, true, true, true, true, true, true] rfl rfl (any_of HT_.out (by kernel_rfl)) (fun _ _ _ h => h) (Or.inl ⟨by rfl, ?_⟩) ?_ ?_
                            rotate_left
                            · intro w'
                              go_simp
                              with_reducible rfl
                            rotate_left
                            · simp only [Act.put, List.setIfInBounds_toArray, List.set_cons_zero, List.set_cons_succ, i64_w, i32_w]
                              rfl
                            refine done_ (done_of HT_.out (by kernel_rfl)) ?_
                            try go_wp2
                            go_meet
                            case rel => exact ⟨_, ((t500 != (wrap64 ((wrap64 (x507001_23 + ((rd_T68 l0 t504).f2))) + ((rd_T68 l0 t504).f3))))), (by first | rfl | (simp; done) | (simp [*]; done)), H', ⟨by have := HJ7.out; have := HJ23.out; first | omega | exact Nat.le_refl _⟩, ⟨by (with_reducible repeat (first | refine blk_drewN ?_ _ | refine blk_drew ?_ | refine blk_alloc ?_ _)); exact BK496.out⟩, ⟨by (with_reducible repeat (first | refine blk_drewN ?_ _ | refine blk_drew ?_ | refine blk_alloc ?_ _)); exact BK502.out⟩, ⟨by (with_reducible repeat (first | refine blk_drewN ?_ _ | refine blk_drew ?_ | refine blk_alloc ?_ _)); exact BK506.out⟩, ⟨by repeat (first | (with_reducible first | exact HB.out | apply below_alloc | apply pw_below_drewN | apply below_drew1 | refine below_set ?_ GE496.out | refine below_set ?_ GE502.out | refine below_set ?_ GE506.out) | exact HB.out)⟩⟩
                          · rw [if_neg c40] at H
                            have c40b0 : (t499 == (wrap64 ((wrap64 (x507000_23 + ((rd_T68 l0 t504).f2))) - ((rd_T68 l0 t504).f3)))) = false := beq_eq_false_iff_ne.mpr c40
                            have c40b1 : (t499 != (wrap64 ((wrap64 (x507000_23 + ((rd_T68 l0 t504).f2))) - ((rd_T68 l0 t504).f3)))) = true := bne_iff_ne.mpr c40
                            have H' := Aside0.mk H
                            clear H
                            try go_wp2
                            have n0_ := Aside0.mk (blk_drew BK496.out)
                            have n1_ := Aside0.mk (blk_drew BK502.out)
                            have n2_ := Aside0.mk (blk_drew BK506.out)
                            have n3_ := Aside0.mk (below_drew1 HB.out)
                            clear BK496
                            clear BK502
                            clear BK506
                            clear HB
                            have BK496 := n0_
                            have BK502 := n1_
                            have BK506 := n2_
                            have HB := n3_
                            clear n0_ n1_ n2_ n3_
                            have p513 : 0 ≤ (t504 : Int) := of_decide_eq_true (by first | (with_reducible assumption) | assumption)
                            have q513 : t504 < (l0.length : Int) := of_decide_eq_true (by first | (with_reducible assumption) | assumption)
                            obtain ⟨ad513, e513, hx513_0, hx513_1, hx513_2, hx513_3, hx513_4, hx513_5⟩ := at_T68 HR0.out t504 p513 q513
                            have hw513_5 := hx513_5
                            have hw513_4 := hx513_4
                            have hw513_3 := hx513_3
                            have hw513_2 := hx513_2
                            have hw513_1 := hx513_1
                            have hw513_0 := hx513_0
                            obtain rfl : ad507 = ad513 := (by injection e513)
                            replace hx513_0 := (HB.out.cell (World.block_lt_of_cell? w _ hx513_0)).trans hx513_0
                            replace hx513_1 := (HB.out.cell (World.block_lt_of_cell? w _ hx513_1)).trans hx513_1
                            replace hx513_2 := (HB.out.cell (World.block_lt_of_cell? w _ hx513_2)).trans hx513_2
                            replace hx513_3 := (HB.out.cell (World.block_lt_of_cell? w _ hx513_3)).trans hx513_3
                            replace hx513_4 := (HB.out.cell (World.block_lt_of_cell? w _ hx513_4)).trans hx513_4
                            replace hx513_5 := (HB.out.cell (World.block_lt_of_cell? w _ hx513_5)).trans hx513_5
                            replace p513 := eq_true p513
                            replace q513 := eq_true q513
                            have p514 : 0 ≤ (t504 : Int) := of_decide_eq_true (by first | (with_reducible assumption) | assumption)
                            have q514 : t504 < (l0.length : Int) := of_decide_eq_true (by first | (with_reducible assumption) | assumption)
                            obtain ⟨ad514, e514, hx514_0, hx514_1, hx514_2, hx514_3, hx514_4, hx514_5⟩ := at_T68 HR0.out t504 p514 q514
                            have hw514_5 := hx514_5
                            have hw514_4 := hx514_4
                            have hw514_3 := hx514_3
                            have hw514_2 := hx514_2
                            have hw514_1 := hx514_1
                            have hw514_0 := hx514_0
                            obtain rfl : ad507 = ad514 := (by injection e514)
                            replace hx514_0 := (HB.out.cell (World.block_lt_of_cell? w _ hx514_0)).trans hx514_0
                            replace hx514_1 := (HB.out.cell (World.block_lt_of_cell? w _ hx514_1)).trans hx514_1
                            replace hx514_2 := (HB.out.cell (World.block_lt_of_cell? w _ hx514_2)).trans hx514_2
                            replace hx514_3 := (HB.out.cell (World.block_lt_of_cell? w _ hx514_3)).trans hx514_3
                            replace hx514_4 := (HB.out.cell (World.block_lt_of_cell? w _ hx514_4)).trans hx514_4
                            replace hx514_5 := (HB.out.cell (World.block_lt_of_cell? w _ hx514_5)).trans hx514_5
                            replace p514 := eq_true p514
                            replace q514 := eq_true q514
                            refine start_ (n := 36) (S := fun w' => w'.cell? ⟨gb502, 0, none⟩ = some (.int .i64 t499) ∧ w'.cell? ⟨gb502, 1, none⟩ = some (.int .i64 t500) ∧ w'.cell? ⟨gb506, 0, none⟩ = some (.int .i64 x507000_23) ∧ w'.cell? ⟨gb506, 1, none⟩ = some (.int .i64 x507001_23) ∧ w'.cell? (ad507.add ((t504).toNat * 6)) = some (.string ((rd_T68 l0 t504).f0)) ∧ w'.cell? ⟨(ad507.add ((t504).toNat * 6)).block, (ad507.add ((t504).toNat * 6)).off + 1, none⟩ = some (.string ((rd_T68 l0 t504).f1)) ∧ w'.cell? ⟨(ad507.add ((t504).toNat * 6)).block, (ad507.add ((t504).toNat * 6)).off + 2, none⟩ = some (.int .i64 ((rd_T68 l0 t504).f2)) ∧ w'.cell? ⟨(ad507.add ((t504).toNat * 6)).block, (ad507.add ((t504).toNat * 6)).off + 3, none⟩ = some (.int .i64 ((rd_T68 l0 t504).f3)) ∧ w'.cell? ⟨(ad507.add ((t504).toNat * 6)).block, (ad507.add ((t504).toNat * 6)).off + 4, none⟩ = some (.int .i64 ((rd_T68 l0 t504).f4)) ∧ w'.cell? ⟨(ad507.add ((t504).toNat * 6)).block, (ad507.add ((t504).toNat * 6)).off + 5, none⟩ = some (.int .i64 ((rd_T68 l0 t504).f5)) ∧ w'.cell? (ad507.add ((t504).toNat * 6)) = some (.string ((rd_T68 l0 t504).f0)) ∧ w'.cell? ⟨(ad507.add ((t504).toNat * 6)).block, (ad507.add ((t504).toNat * 6)).off + 1, none⟩ = some (.string ((rd_T68 l0 t504).f1)) ∧ w'.cell? ⟨(ad507.add ((t504).toNat * 6)).block, (ad507.add ((t504).toNat * 6)).off + 2, none⟩ = some (.int .i64 ((rd_T68 l0 t504).f2)) ∧ w'.cell? ⟨(ad507.add ((t504).toNat * 6)).block, (ad507.add ((t504).toNat * 6)).off + 3, none⟩ = some (.int .i64 ((rd_T68 l0 t504).f3)) ∧ w'.cell? ⟨(ad507.add ((t504).toNat * 6)).block, (ad507.add ((t504).toNat * 6)).off + 4, none⟩ = some (.int .i64 ((rd_T68 l0 t504).f4)) ∧ w'.cell? ⟨(ad507.add ((t504).toNat * 6)).block, (ad507.add ((t504).toNat * 6)).off + 5, none⟩ = some (.int .i64 ((rd_T68 l0 t504).f5))) (ds := []) #[false, false, false, false, false, false, false, false, false, false, false, false, false, false, false, false, false, false, false, false, false, false, false, false, false, false, false, false, false, false, false, false, false, false, false, false] (by kernel_rfl) rfl rfl ⟨(blk_cell BK502.out 0).trans rfl, (blk_cell BK502.out 1).trans rfl, (blk_cell BK506.out 0).trans rfl, (blk_cell BK506.out 1).trans rfl, ((HB.out.cell (World.block_lt_of_cell? w _ hw513_0)).trans hw513_0), ((HB.out.cell (World.block_lt_of_cell? w _ hw513_1)).trans hw513_1), ((HB.out.cell (World.block_lt_of_cell? w _ hw513_2)).trans hw513_2), ((HB.out.cell (World.block_lt_of_cell? w _ hw513_3)).trans hw513_3), ((HB.out.cell (World.block_lt_of_cell? w _ hw513_4)).trans hw513_4), ((HB.out.cell (World.block_lt_of_cell? w _ hw513_5)).trans hw513_5), ((HB.out.cell (World.block_lt_of_cell? w _ hw514_0)).trans hw514_0), ((HB.out.cell (World.block_lt_of_cell? w _ hw514_1)).trans hw514_1), ((HB.out.cell (World.block_lt_of_cell? w _ hw514_2)).trans hw514_2), ((HB.out.cell (World.block_lt_of_cell? w _ hw514_3)).trans hw514_3), ((HB.out.cell (World.block_lt_of_cell? w _ hw514_4)).trans hw514_4), ((HB.out.cell (World.block_lt_of_cell? w _ hw514_5)).trans hw514_5)⟩ (fun hHeld => ?_); refine with_tabW metrolablaw52_CalibrateAdds.tab14 metrolablaw52_CalibrateAdds.bits14 (fun HT_ HW_ => ?_)
                            generalize wc.drew = w42 at BK496 BK502 BK506 HB hx513_0 hx513_1 hx513_2 hx513_3 hx513_4 hx513_5 hx514_0 hx514_1 hx514_2 hx514_3 hx514_4 hx514_5 hHeld ⊢
                            refine pure_ (i := 0) (N := some 72) (v := ?_) (a' := ?_) #[true, false, false, false, false, false, false, false, false, false, false, false, false, false, false, false, false, false, false, false, false, false, false, false, false, false, false, false, false, false, false, false, false, false, false, false] rfl rfl (any_of HT_.out (by kernel_rfl)) (fun _ _ _ h => h) (Or.inl ⟨by rfl, ?_⟩) ?_ ?_
                            rotate_left
                            · intro w'
                              go_simp
                              with_reducible rfl
                            rotate_left
                            · simp only [Act.put, List.setIfInBounds_toArray, List.set_cons_zero, List.set_cons_succ, i64_w, i32_w]
                              rfl
                            refine pure_ (i := 2) (N := some 74) (v := ?_) (a' := ?_) #[true, false, true, false, false, false, false, false, false, false, false, false, false, false, false, false, false, false, false, false, false, false, false, false, false, false, false, false, false, false, false, false, false, false, false, false] rfl rfl (any_of HT_.out (by kernel_rfl)) (fun _ _ _ h => h) (Or.inl ⟨by rfl, ?_⟩) ?_ ?_
                            rotate_left
                            · intro w'
                              go_simp
                              with_reducible rfl
                            rotate_left
                            · simp only [Act.put, List.setIfInBounds_toArray, List.set_cons_zero, List.set_cons_succ, i64_w, i32_w]
                              rfl
                            refine pure_ (i := 4) (N := some 76) (v := ?_) (a' := ?_) #[true, false, true, false, true, false, false, false, false, false, false, false, false, false, false, false, false, false, false, false, false, false, false, false, false, false, false, false, false, false, false, false, false, false, false, false] rfl rfl (any_of HT_.out (by kernel_rfl)) (fun _ _ _ h => h) (Or.inl ⟨by rfl, ?_⟩) ?_ ?_
                            rotate_left
                            · intro w'
                              go_simp
                              with_reducible rfl
                            rotate_left
                            · simp only [Act.put, List.setIfInBounds_toArray, List.set_cons_zero, List.set_cons_succ, i64_w, i32_w]
                              rfl
                            refine pure_ (i := 5) (N := some 77) (v := ?_) (a' := ?_) #[true, false, true, false, true, true, false, false, false, false, false, false, false, false, false, false, false, false, false, false, false, false, false, false, false, false, false, false, false, false, false, false, false, false, false, false] rfl rfl (any_of HT_.out (by kernel_rfl)) (fun _ _ _ h => h) (Or.inl ⟨by rfl, ?_⟩) ?_ ?_
                            rotate_left
                            · intro w'
                              go_simp
                              with_reducible rfl
                            rotate_left
                            · simp only [Act.put, List.setIfInBounds_toArray, List.set_cons_zero, List.set_cons_succ, i64_w, i32_w]
                              rfl
                            refine pure_ (i := 6) (N := some 78) (v := ?_) (a' := ?_) #[true, false, true, false, true, true, true, false, false, false, false, false, false, false, false, false, false, false, false, false, false, false, false, false, false, false, false, false, false, false, false, false, false, false, false, false] rfl rfl (any_of HT_.out (by kernel_rfl)) (fun _ _ _ h => h) (Or.inl ⟨by rfl, ?_⟩) ?_ ?_
                            rotate_left
                            · intro w'
                              go_simp
                              with_reducible rfl
                            rotate_left
                            · simp only [Act.put, List.setIfInBounds_toArray, List.set_cons_zero, List.set_cons_succ, i64_w, i32_w]
                              rfl
                            refine pure_ (i := 7) (N := some 79) (v := ?_) (a' := ?_) #[true, false, true, false, true, true, true, true, false, false, false, false, false, false, false, false, false, false, false, false, false, false, false, false, false, false, false, false, false, false, false, false, false, false, false, false] rfl rfl (any_of HT_.out (by kernel_rfl)) (fun _ _ _ h => h) (Or.inl ⟨by rfl, ?_⟩) ?_ ?_
                            rotate_left
                            · intro w'
                              go_simp
                              with_reducible rfl
                            rotate_left
                            · simp only [Act.put, List.setIfInBounds_toArray, List.set_cons_zero, List.set_cons_succ, i64_w, i32_w]
                              rfl
                            refine pure_ (i := 10) (N := some 82) (v := ?_) (a' := ?_) #[true, false, true, false, true, true, true, true, false, false, true, false, false, false, false, false, false, false, false, false, false, false, false, false, false, false, false, false, false, false, false, false, false, false, false, false] rfl rfl (any_of HT_.out (by kernel_rfl)) (fun _ _ _ h => h) (Or.inl ⟨by rfl, ?_⟩) ?_ ?_
                            rotate_left
                            · intro w'
                              go_simp
                              with_reducible rfl
                            rotate_left
                            · simp only [Act.put, List.setIfInBounds_toArray, List.set_cons_zero, List.set_cons_succ, i64_w, i32_w]
                              rfl
                            refine pure_ (i := 11) (N := some 83) (v := ?_) (a' := ?_) #[true, false, true, false, true, true, true, true, false, false, true, true, false, false, false, false, false, false, false, false, false, false, false, false, false, false, false, false, false, false, false, false, false, false, false, false] rfl rfl (any_of HT_.out (by kernel_rfl)) (fun _ _ _ h => h) (Or.inl ⟨by rfl, ?_⟩) ?_ ?_
                            rotate_left
                            · intro w'
                              go_simp
                              with_reducible rfl
                            rotate_left
                            · simp only [Act.put, List.setIfInBounds_toArray, List.set_cons_zero, List.set_cons_succ, i64_w, i32_w]
                              rfl
                            refine pure_ (i := 12) (N := some 84) (v := ?_) (a' := ?_) #[true, false, true, false, true, true, true, true, false, false, true, true, true, false, false, false, false, false, false, false, false, false, false, false, false, false, false, false, false, false, false, false, false, false, false, false] rfl rfl (any_of HT_.out (by kernel_rfl)) (fun _ _ _ h => h) (Or.inl ⟨by rfl, ?_⟩) ?_ ?_
                            rotate_left
                            · intro w'
                              go_simp
                              with_reducible rfl
                            rotate_left
                            · simp only [Act.put, List.setIfInBounds_toArray, List.set_cons_zero, List.set_cons_succ, i64_w, i32_w]
                              rfl
                            refine pure_ (i := 13) (N := some 85) (v := ?_) (a' := ?_) #[true, false, true, false, true, true, true, true, false, false, true, true, true, true, false, false, false, false, false, false, false, false, false, false, false, false, false, false, false, false, false, false, false, false, false, false] rfl rfl (any_of HT_.out (by kernel_rfl)) (fun _ _ _ h => h) (Or.inl ⟨by rfl, ?_⟩) ?_ ?_
                            rotate_left
                            · intro w'
                              go_simp
                              with_reducible rfl
                            rotate_left
                            · simp only [Act.put, List.setIfInBounds_toArray, List.set_cons_zero, List.set_cons_succ, i64_w, i32_w]
                              rfl
                            refine take_ (i := 1) (N := some 73) (v := ?_) (a' := ?_) #[true, true, true, false, true, true, true, true, false, false, true, true, true, true, false, false, false, false, false, false, false, false, false, false, false, false, false, false, false, false, false, false, false, false, false, false] rfl rfl (take_ofW HT_.out HW_.out (by kernel_rfl)) (fun _ _ _ h => h) (Or.inl ⟨by rfl, ?_⟩) hHeld ?_ ?_
                            rotate_left
                            · rintro w' ⟨s0, s1, s2, s3, s4, s5, s6, s7, s8, s9, s10, s11, s12, s13, s14, s15⟩
                              go_simp
                              with_reducible rfl
                            rotate_left
                            · simp only [Act.put, List.setIfInBounds_toArray, List.set_cons_zero, List.set_cons_succ, i64_w, i32_w]
                              rfl
                            refine take_ (i := 3) (N := some 75) (v := ?_) (a' := ?_) #[true, true, true, true, true, true, true, true, false, false, true, true, true, true, false, false, false, false, false, false, false, false, false, false, false, false, false, false, false, false, false, false, false, false, false, false] rfl rfl (take_ofW HT_.out HW_.out (by kernel_rfl)) (fun _ _ _ h => h) (Or.inl ⟨by rfl, ?_⟩) hHeld ?_ ?_
                            rotate_left
                            · rintro w' ⟨s0, s1, s2, s3, s4, s5, s6, s7, s8, s9, s10, s11, s12, s13, s14, s15⟩
                              go_simp
                              with_reducible rfl
                            rotate_left
                            · simp only [Act.put, List.setIfInBounds_toArray, List.set_cons_zero, List.set_cons_succ, i64_w, i32_w]
                              rfl
                            refine take_ (i := 8) (N := some 80) (v := ?_) (a' := ?_) #[true, true, true, true, true, true, true, true, true, false, true, true, true, true, false, false, false, false, false, false, false, false, false, false, false, false, false, false, false, false, false, false, false, false, false, false] rfl rfl (take_ofW HT_.out HW_.out (by kernel_rfl)) (fun _ _ _ h => h) (Or.inl ⟨by rfl, ?_⟩) hHeld ?_ ?_
                            rotate_left
                            · rintro w' ⟨s0, s1, s2, s3, s4, s5, s6, s7, s8, s9, s10, s11, s12, s13, s14, s15⟩
                              go_simp
                              with_reducible rfl
                            rotate_left
                            · simp only [Act.put, List.setIfInBounds_toArray, List.set_cons_zero, List.set_cons_succ, i64_w, i32_w]
                              rfl
                            refine pure_ (i := 9) (N := some 81) (v := ?_) (a' := ?_) #[true, true, true, true, true, true, true, true, true, true, true, true, true, true, false, false, false, false, false, false, false, false, false, false, false, false, false, false, false, false, false, false, false, false, false, false] rfl rfl (any_of HT_.out (by kernel_rfl)) (fun _ _ _ h => h) (Or.inl ⟨by rfl, ?_⟩) ?_ ?_
                            rotate_left
                            · intro w'
                              go_simp
                              with_reducible rfl
                            rotate_left
                            · simp only [Act.put, List.setIfInBounds_toArray, List.set_cons_zero, List.set_cons_succ, i64_w, i32_w]
                              rfl
                            refine take_ (i := 14) (N := some 86) (v := ?_) (a' := ?_) #[true, true, true, true, true, true, true, true, true, true, true, true, true, true, true, false, false, false, false, false, false, false, false, false, false, false, false, false, false, false, false, false, false, false, false, false] rfl rfl (take_ofW HT_.out HW_.out (by kernel_rfl)) (fun _ _ _ h => h) (Or.inl ⟨by rfl, ?_⟩) hHeld ?_ ?_
                            rotate_left
                            · rintro w' ⟨s0, s1, s2, s3, s4, s5, s6, s7, s8, s9, s10, s11, s12, s13, s14, s15⟩
                              go_simp
                              with_reducible rfl
                            rotate_left
                            · simp only [Act.put, List.setIfInBounds_toArray, List.set_cons_zero, List.set_cons_succ, i64_w, i32_w]
                              rfl
                            refine pure_ (i := 15) (N := some 87) (v := ?_) (a' := ?_) #[true, true, true, true, true, true, true, true, true, true, true, true, true, true, true, true, false, false, false, false, false, false, false, false, false, false, false, false, false, false, false, false, false, false, false, false] rfl rfl (any_of HT_.out (by kernel_rfl)) (fun _ _ _ h => h) (Or.inl ⟨by rfl, ?_⟩) ?_ ?_
                            rotate_left
                            · intro w'
                              go_simp
                              with_reducible rfl
                            rotate_left
                            · simp only [Act.put, List.setIfInBounds_toArray, List.set_cons_zero, List.set_cons_succ, i64_w, i32_w]
                              rfl
                            refine pure_ (i := 16) (N := some 88) (v := ?_) (a' := ?_) #[true, true, true, true, true, true, true, true, true, true, true, true, true, true, true, true, true, false, false, false, false, false, false, false, false, false, false, false, false, false, false, false, false, false, false, false] rfl rfl (any_of HT_.out (by kernel_rfl)) (fun _ _ _ h => h) (Or.inl ⟨by rfl, ?_⟩) ?_ ?_
                            rotate_left
                            · intro w'
                              go_simp
                              with_reducible rfl
                            rotate_left
                            · simp only [Act.put, List.setIfInBounds_toArray, List.set_cons_zero, List.set_cons_succ, i64_w, i32_w]
                              rfl
                            refine pure_ (i := 17) (N := some 89) (v := ?_) (a' := ?_) #[true, true, true, true, true, true, true, true, true, true, true, true, true, true, true, true, true, true, false, false, false, false, false, false, false, false, false, false, false, false, false, false, false, false, false, false] rfl rfl (any_of HT_.out (by kernel_rfl)) (fun _ _ _ h => h) (Or.inl ⟨by rfl, ?_⟩) ?_ ?_
                            rotate_left
                            · intro w'
                              go_simp
                              with_reducible rfl
                            rotate_left
                            · simp only [Act.put, List.setIfInBounds_toArray, List.set_cons_zero, List.set_cons_succ, i64_w, i32_w]
                              rfl
                            refine pure_ (i := 18) (N := some 90) (v := undef) (a' := ?_) #[true, true, true, true, true, true, true, true, true, true, true, true, true, true, true, true, true, true, true, false, false, false, false, false, false, false, false, false, false, false, false, false, false, false, false, false] rfl rfl (any_of HT_.out (by kernel_rfl)) (fun _ _ _ h => h) (Or.inr ⟨by rfl, rfl⟩) ?_ ?_
                            rotate_left
                            · simp only [Act.put, List.setIfInBounds_toArray, List.set_cons_zero, List.set_cons_succ, i64_w, i32_w]
                              rfl
                            refine pure_ (i := 19) (N := some 91) (v := undef) (a' := ?_) #[true, true, true, true, true, true, true, true, true, true, true, true, true, true, true, true, true, true, true, true, false, false, false, false, false, false, false, false, false, false, false, false, false, false, false, false] rfl rfl (any_of HT_.out (by kernel_rfl)) (fun _ _ _ h => h) (Or.inr ⟨by rfl, rfl⟩) ?_ ?_
                            rotate_left
                            · simp only [Act.put, List.setIfInBounds_toArray, List.set_cons_zero, List.set_cons_succ, i64_w, i32_w]
                              rfl
                            refine pure_ (i := 20) (N := some 92) (v := undef) (a' := ?_) #[true, true, true, true, true, true, true, true, true, true, true, true, true, true, true, true, true, true, true, true, true, false, false, false, false, false, false, false, false, false, false, false, false, false, false, false] rfl rfl (any_of HT_.out (by kernel_rfl)) (fun _ _ _ h => h) (Or.inr ⟨by rfl, rfl⟩) ?_ ?_
                            rotate_left
                            · simp only [Act.put, List.setIfInBounds_toArray, List.set_cons_zero, List.set_cons_succ, i64_w, i32_w]
                              rfl
                            refine pure_ (i := 21) (N := some 93) (v := undef) (a' := ?_) #[true, true, true, true, true, true, true, true, true, true, true, true, true, true, true, true, true, true, true, true, true, true, false, false, false, false, false, false, false, false, false, false, false, false, false, false] rfl rfl (any_of HT_.out (by kernel_rfl)) (fun _ _ _ h => h) (Or.inr ⟨by rfl, rfl⟩) ?_ ?_
                            rotate_left
                            · simp only [Act.put, List.setIfInBounds_toArray, List.set_cons_zero, List.set_cons_succ, i64_w, i32_w]
                              rfl
                            refine pure_ (i := 22) (N := some 94) (v := undef) (a' := ?_) #[true, true, true, true, true, true, true, true, true, true, true, true, true, true, true, true, true, true, true, true, true, true, true, false, false, false, false, false, false, false, false, false, false, false, false, false] rfl rfl (any_of HT_.out (by kernel_rfl)) (fun _ _ _ h => h) (Or.inr ⟨by rfl, rfl⟩) ?_ ?_
                            rotate_left
                            · simp only [Act.put, List.setIfInBounds_toArray, List.set_cons_zero, List.set_cons_succ, i64_w, i32_w]
                              rfl
                            refine pure_ (i := 23) (N := some 95) (v := undef) (a' := ?_) #[true, true, true, true, true, true, true, true, true, true, true, true, true, true, true, true, true, true, true, true, true, true, true, true, false, false, false, false, false, false, false, false, false, false, false, false] rfl rfl (any_of HT_.out (by kernel_rfl)) (fun _ _ _ h => h) (Or.inr ⟨by rfl, rfl⟩) ?_ ?_
                            rotate_left
                            · simp only [Act.put, List.setIfInBounds_toArray, List.set_cons_zero, List.set_cons_succ, i64_w, i32_w]
                              rfl
                            refine pure_ (i := 24) (N := some 96) (v := undef) (a' := ?_) #[true, true, true, true, true, true, true, true, true, true, true, true, true, true, true, true, true, true, true, true, true, true, true, true, true, false, false, false, false, false, false, false, false, false, false, false] rfl rfl (any_of HT_.out (by kernel_rfl)) (fun _ _ _ h => h) (Or.inr ⟨by rfl, rfl⟩) ?_ ?_
                            rotate_left
                            · simp only [Act.put, List.setIfInBounds_toArray, List.set_cons_zero, List.set_cons_succ, i64_w, i32_w]
                              rfl
                            refine pure_ (i := 25) (N := some 97) (v := undef) (a' := ?_) #[true, true, true, true, true, true, true, true, true, true, true, true, true, true, true, true, true, true, true, true, true, true, true, true, true, true, false, false, false, false, false, false, false, false, false, false] rfl rfl (any_of HT_.out (by kernel_rfl)) (fun _ _ _ h => h) (Or.inr ⟨by rfl, rfl⟩) ?_ ?_
                            rotate_left
                            · simp only [Act.put, List.setIfInBounds_toArray, List.set_cons_zero, List.set_cons_succ, i64_w, i32_w]
                              rfl
                            refine pure_ (i := 26) (N := some 98) (v := undef) (a' := ?_) #[true, true, true, true, true, true, true, true, true, true, true, true, true, true, true, true, true, true, true, true, true, true, true, true, true, true, true, false, false, false, false, false, false, false, false, false] rfl rfl (any_of HT_.out (by kernel_rfl)) (fun _ _ _ h => h) (Or.inr ⟨by rfl, rfl⟩) ?_ ?_
                            rotate_left
                            · simp only [Act.put, List.setIfInBounds_toArray, List.set_cons_zero, List.set_cons_succ, i64_w, i32_w]
                              rfl
                            refine pure_ (i := 27) (N := some 99) (v := undef) (a' := ?_) #[true, true, true, true, true, true, true, true, true, true, true, true, true, true, true, true, true, true, true, true, true, true, true, true, true, true, true, true, false, false, false, false, false, false, false, false] rfl rfl (any_of HT_.out (by kernel_rfl)) (fun _ _ _ h => h) (Or.inr ⟨by rfl, rfl⟩) ?_ ?_
                            rotate_left
                            · simp only [Act.put, List.setIfInBounds_toArray, List.set_cons_zero, List.set_cons_succ, i64_w, i32_w]
                              rfl
                            refine pure_ (i := 28) (N := some 100) (v := undef) (a' := ?_) #[true, true, true, true, true, true, true, true, true, true, true, true, true, true, true, true, true, true, true, true, true, true, true, true, true, true, true, true, true, false, false, false, false, false, false, false] rfl rfl (any_of HT_.out (by kernel_rfl)) (fun _ _ _ h => h) (Or.inr ⟨by rfl, rfl⟩) ?_ ?_
                            rotate_left
                            · simp only [Act.put, List.setIfInBounds_toArray, List.set_cons_zero, List.set_cons_succ, i64_w, i32_w]
                              rfl
                            refine pure_ (i := 29) (N := some 101) (v := undef) (a' := ?_) #[true, true, true, true, true, true, true, true, true, true, true, true, true, true, true, true, true, true, true, true, true, true, true, true, true, true, true, true, true, true, false, false, false, false, false, false] rfl rfl (any_of HT_.out (by kernel_rfl)) (fun _ _ _ h => h) (Or.inr ⟨by rfl, rfl⟩) ?_ ?_
                            rotate_left
                            · simp only [Act.put, List.setIfInBounds_toArray, List.set_cons_zero, List.set_cons_succ, i64_w, i32_w]
                              rfl
                            refine pure_ (i := 30) (N := some 102) (v := undef) (a' := ?_) #[true, true, true, true, true, true, true, true, true, true, true, true, true, true, true, true, true, true, true, true, true, true, true, true, true, true, true, true, true, true, true, false, false, false, false, false] rfl rfl (any_of HT_.out (by kernel_rfl)) (fun _ _ _ h => h) (Or.inr ⟨by rfl, rfl⟩) ?_ ?_
                            rotate_left
                            · simp only [Act.put, List.setIfInBounds_toArray, List.set_cons_zero, List.set_cons_succ, i64_w, i32_w]
                              rfl
                            refine pure_ (i := 31) (N := some 103) (v := undef) (a' := ?_) #[true, true, true, true, true, true, true, true, true, true, true, true, true, true, true, true, true, true, true, true, true, true, true, true, true, true, true, true, true, true, true, true, false, false, false, false] rfl rfl (any_of HT_.out (by kernel_rfl)) (fun _ _ _ h => h) (Or.inr ⟨by rfl, rfl⟩) ?_ ?_
                            rotate_left
                            · simp only [Act.put, List.setIfInBounds_toArray, List.set_cons_zero, List.set_cons_succ, i64_w, i32_w]
                              rfl
                            refine pure_ (i := 32) (N := some 104) (v := undef) (a' := ?_) #[true, true, true, true, true, true, true, true, true, true, true, true, true, true, true, true, true, true, true, true, true, true, true, true, true, true, true, true, true, true, true, true, true, false, false, false] rfl rfl (any_of HT_.out (by kernel_rfl)) (fun _ _ _ h => h) (Or.inr ⟨by rfl, rfl⟩) ?_ ?_
                            rotate_left
                            · simp only [Act.put, List.setIfInBounds_toArray, List.set_cons_zero, List.set_cons_succ, i64_w, i32_w]
                              rfl
                            refine pure_ (i := 33) (N := some 105) (v := undef) (a' := ?_) #[true, true, true, true, true, true, true, true, true, true, true, true, true, true, true, true, true, true, true, true, true, true, true, true, true, true, true, true, true, true, true, true, true, true, false, false] rfl rfl (any_of HT_.out (by kernel_rfl)) (fun _ _ _ h => h) (Or.inr ⟨by rfl, rfl⟩) ?_ ?_
                            rotate_left
                            · simp only [Act.put, List.setIfInBounds_toArray, List.set_cons_zero, List.set_cons_succ, i64_w, i32_w]
                              rfl
                            refine pure_ (i := 34) (N := some 106) (v := undef) (a' := ?_) #[true, true, true, true, true, true, true, true, true, true, true, true, true, true, true, true, true, true, true, true, true, true, true, true, true, true, true, true, true, true, true, true, true, true, true, false] rfl rfl (any_of HT_.out (by kernel_rfl)) (fun _ _ _ h => h) (Or.inr ⟨by rfl, rfl⟩) ?_ ?_
                            rotate_left
                            · simp only [Act.put, List.setIfInBounds_toArray, List.set_cons_zero, List.set_cons_succ, i64_w, i32_w]
                              rfl
                            refine pure_ (i := 35) (N := some 107) (v := ?_) (a' := ?_) #[true, true, true, true, true, true, true, true, true, true, true, true, true, true, true, true, true, true, true, true, true, true, true, true, true, true, true, true, true, true, true, true, true, true, true, true] rfl rfl (any_of HT_.out (by kernel_rfl)) (fun _ _ _ h => h) (Or.inl ⟨by rfl, ?_⟩) ?_ ?_
                            rotate_left
                            · intro w'
                              go_simp
                              with_reducible rfl
                            rotate_left
                            · simp only [Act.put, List.setIfInBounds_toArray, List.set_cons_zero, List.set_cons_succ, i64_w, i32_w]
                              rfl
                            refine done_ (done_of HT_.out (by kernel_rfl)) ?_
                            try go_wp2
                            go_meet
                            case rel => exact ⟨_, (true), (by first | rfl | (simp; done) | (simp [*]; done)), H', ⟨by have := HJ7.out; have := HJ23.out; first | omega | exact Nat.le_refl _⟩, ⟨by (with_reducible repeat (first | refine blk_drewN ?_ _ | refine blk_drew ?_ | refine blk_alloc ?_ _)); exact BK496.out⟩, ⟨by (with_reducible repeat (first | refine blk_drewN ?_ _ | refine blk_drew ?_ | refine blk_alloc ?_ _)); exact BK502.out⟩, ⟨by (with_reducible repeat (first | refine blk_drewN ?_ _ | refine blk_drew ?_ | refine blk_alloc ?_ _)); exact BK506.out⟩, ⟨by repeat (first | (with_reducible first | exact HB.out | apply below_alloc | apply pw_below_drewN | apply below_drew1 | refine below_set ?_ GE496.out | refine below_set ?_ GE502.out | refine below_set ?_ GE506.out) | exact HB.out)⟩⟩
                        · rw [if_neg c39] at H
                          exact absurd H (by simp)
                      · rw [if_neg c38] at H
                        exact absurd H (by simp)
                    case rest =>
                      clear HC37
                      try clear p2
                      try clear c3
                      try clear c4
                      try clear p5
                      try clear q5
                      try clear hx5
                      try clear p6
                      try clear c38
                      try clear c39
                      try clear c40
                      try clear c40b0
                      try clear c40b1
                      try clear hx513_0
                      try clear hx513_1
                      try clear hx513_2
                      try clear hx513_3
                      try clear hx513_4
                      try clear hx513_5
                      try clear hx514_0
                      try clear hx514_1
                      try clear hx514_2
                      try clear hx514_3
                      try clear hx514_4
                      try clear hx514_5
                      try clear hx515_0
                      try clear hx515_1
                      try clear hx515_2
                      try clear hx515_3
                      try clear hx515_4
                      try clear hx515_5
                      try clear hx516_0
                      try clear hx516_1
                      try clear hx516_2
                      try clear hx516_3
                      try clear hx516_4
                      try clear hx516_5
                      try clear p513
                      try clear p514
                      try clear p516
                      try clear q513
                      try clear q514
                      try clear q515
                      try clear q516
                      obtain ⟨kq, x107_36, rfl, HA, HJ36, BK496, BK502, BK506, HB⟩ := hcut
                      cases kq with
                      | zero => exact absurd HA.out (by simp [metrolablaw52_CalibrateAdds.j2])
                      | succ kj36 =>
                        have H := HA.out
                        clear HA
                        simp only [metrolablaw52_CalibrateAdds.j2] at H
                        by_cases c43 : x107_36 = true
                        · subst c43
                          have H1 : (some false) = some r := by rw [if_pos rfl] at H; exact H
                          clear H
                          have H := H1
                          clear H1
                          obtain rfl := Option.some.inj H
                          go_wp2
                          go_ret
                          exact ⟨by first | rfl | (simp [errW_none, errW_some] <;> rfl) | (simp [*, errW_none, errW_some] <;> rfl), by repeat (first | (with_reducible first | exact HB.out | apply below_alloc | apply pw_below_drewN | apply below_drew1 | refine below_set ?_ GE496.out | refine below_set ?_ GE502.out | refine below_set ?_ GE506.out) | exact HB.out)⟩
                        · replace c43 := Bool.eq_false_iff.mpr c43
                          subst c43
                          have H1 : ((calibrate_Value.f kj36 l0 a1_0 a1_1 a1_2).bind fun bt517 => (if bt517.2.2 = 0 then (if (wrap64 (bt517.1 + t500)) = a1_2 then (if (wrap64 (bt517.2.1 + t499)) = a1_2 then ((metrolablaw52_awake.f kj36).bind fun t521 => (some t521)) else (some false)) else (some false)) else (if bt517.2.2 = 2 then ((metrolabref17_In.f a1_2).bind fun t522 => (if t522 = true then (some false) else ((metrolablaw52_awake.f kj36).bind fun t523 => (some t523)))) else (some false)))) = some r := by rw [if_neg (show ¬ (false = true) by decide)] at H; exact H
                          clear H
                          have H := H1
                          clear H1
                          replace H := Option.bind_eq_some_iff.mp H
                          obtain ⟨⟨t517, t518, t519⟩, A440, H⟩ := H
                          replace H : (if t519 = 0 then (if (wrap64 (t517 + t500)) = a1_2 then (if (wrap64 (t518 + t499)) = a1_2 then ((metrolablaw52_awake.f kj36).bind fun t521 => (some t521)) else (some false)) else (some false)) else (if t519 = 2 then ((metrolabref17_In.f a1_2).bind fun t522 => (if t522 = true then (some false) else ((metrolablaw52_awake.f kj36).bind fun t523 => (some t523)))) else (some false))) = some r := H
                          have A44 := Aside0.mk A440
                          clear A440
                          by_cases c45 : t519 = 0
                          · rw [if_pos c45] at H
                            have c45b0 : (t519 == 0) = true := beq_iff_eq.mpr c45
                            have c45b1 : (t519 != 0) = false := bne_eq_false_iff_eq.mpr c45
                            clear c45
                            by_cases c46 : (wrap64 (t517 + t500)) = a1_2
                            · rw [if_pos c46] at H
                              have c46b0 : ((wrap64 (t517 + t500)) == a1_2) = true := beq_iff_eq.mpr c46
                              have c46b1 : ((wrap64 (t517 + t500)) != a1_2) = false := bne_eq_false_iff_eq.mpr c46
                              clear c46
                              by_cases c47 : (wrap64 (t518 + t499)) = a1_2
                              · rw [if_pos c47] at H
                                have c47b0 : ((wrap64 (t518 + t499)) == a1_2) = true := beq_iff_eq.mpr c47
                                have c47b1 : ((wrap64 (t518 + t499)) != a1_2) = false := bne_eq_false_iff_eq.mpr c47
                                clear c47
                                replace H := Option.bind_eq_some_iff.mp H
                                obtain ⟨t521, A480, H⟩ := H
                                replace H : (some t521) = some r := H
                                have A48 := Aside0.mk A480
                                clear A480
                                obtain rfl := Option.some.inj H
                                have hnb49 := NB496_502.out
                                have hnc49 := NB502_496.out
                                have hnb50 := NB496_506.out
                                have hnc50 := NB506_496.out
                                have hcz51_0 : wc.cell? ⟨gb496, 0, none⟩ = some (.string a1_0) := (blk_cell BK496.out 0).trans rfl
                                have hcz51_1 : wc.cell? ⟨gb496, 1, none⟩ = some (.int .i64 a1_1) := (blk_cell BK496.out 1).trans rfl
                                have hcz51_2 : wc.cell? ⟨gb496, 2, none⟩ = some (.int .i64 a1_2) := (blk_cell BK496.out 2).trans rfl
                                have hfz51_0 := blk_frozen BK496.out 0
                                have hfz51_1 := blk_frozen BK496.out 1
                                have hfz51_2 := blk_frozen BK496.out 2
                                go_wp2_with (first | ((with_reducible refine gate_callee (f := 63) rfl ?_); refine goesL_ (some 111) rfl rfl Try.func63 (by kernel_rfl) rfl #[.slice (some ad507) l0.length c0, .agg #[.string a1_0, .int .i64 a1_1, .int .i64 a1_2]] rfl (by (try simp only [List.map_toArray, List.map_cons, List.map_nil]); first | done | rfl | (simp only [List.length_drop, List.length_take]; rfl)) ?_; (with_reducible refine (calibrate_Value.calls kj36 _ _ l0 a1_0 a1_1 a1_2 t517 t518 t519 _ ?side1 ?side2 A44.out).mono ?_); (case side1 => repeat (first | exact (Kd.C_below HR0.out HB.out) | (with_reducible refine Kd.C_alloc ?_ _) | (with_reducible refine Kd.C_drewN ?_ _) | (with_reducible refine Kd.C_drew ?_))); (case side2 => exact HC0.out); rintro e w52 ⟨rfl, hb⟩; refine ⟨_, rfl, ?_⟩; have n0_ := Aside0.mk (blk_below (g := gb496) (o := .cells #[.string a1_0, .int .i64 a1_1, .int .i64 a1_2] 51 (0, 0)) (by (with_reducible repeat (first | refine blk_drewN ?_ _ | refine blk_drew ?_ | refine blk_alloc ?_ _)); exact BK496.out) hb); have n1_ := Aside0.mk (blk_below (g := gb502) (o := .cells #[.int .i64 t499, .int .i64 t500] 25 (0, 0)) (by (with_reducible repeat (first | refine blk_drewN ?_ _ | refine blk_drew ?_ | refine blk_alloc ?_ _)); exact BK502.out) hb); have n2_ := Aside0.mk (blk_below (g := gb506) (o := .cells #[.int .i64 x507000_23, .int .i64 x507001_23] 25 (0, 0)) (by (with_reducible repeat (first | refine blk_drewN ?_ _ | refine blk_drew ?_ | refine blk_alloc ?_ _)); exact BK506.out) hb); have n3_ := Aside0.mk (below_step (by repeat (first | (with_reducible first | exact HB.out | apply below_alloc | apply pw_below_drewN | apply below_drew1 | refine below_set ?_ GE496.out | refine below_set ?_ GE502.out | refine below_set ?_ GE506.out) | exact HB.out)) hb); clear BK496; clear BK502; clear BK506; clear HB; have BK496 := n0_; have BK502 := n1_; have BK506 := n2_; have HB := n3_; clear n0_ n1_ n2_ n3_; (try clear hb); (try clear hb2); (try clear hk); (try clear hi)) | ((with_reducible refine gate_dst (N := 9) rfl ?_); (try (refine gate_guard (by rfl) ?_; dsimp only)); refine box_event ?hg (N := 9) ?hd (cs := #[.int .i64 0, .int .i64 0]) (t := 25) ?hr ?_; (case hd => rfl); (case hg => rfl); (case hr => first | (go_simp; done) | (go_simp; rfl)); intro gb520 hg w53 hbox hb; have n0_ := Aside0.mk (blk_below (g := gb496) (o := .cells #[.string a1_0, .int .i64 a1_1, .int .i64 a1_2] 51 (0, 0)) (by (with_reducible repeat (first | refine blk_drewN ?_ _ | refine blk_drew ?_ | refine blk_alloc ?_ _)); exact BK496.out) hb); have n1_ := Aside0.mk (blk_below (g := gb502) (o := .cells #[.int .i64 t499, .int .i64 t500] 25 (0, 0)) (by (with_reducible repeat (first | refine blk_drewN ?_ _ | refine blk_drew ?_ | refine blk_alloc ?_ _)); exact BK502.out) hb); have n2_ := Aside0.mk (blk_below (g := gb506) (o := .cells #[.int .i64 x507000_23, .int .i64 x507001_23] 25 (0, 0)) (by (with_reducible repeat (first | refine blk_drewN ?_ _ | refine blk_drew ?_ | refine blk_alloc ?_ _)); exact BK506.out) hb); have n3_ := Aside0.mk (below_step (by repeat (first | (with_reducible first | exact HB.out | apply below_alloc | apply pw_below_drewN | apply below_drew1 | refine below_set ?_ GE496.out | refine below_set ?_ GE502.out | refine below_set ?_ GE506.out) | exact HB.out)) hb); have n4_ := Aside0.mk (hbox); have n5_ := Aside0.mk ((by rw [hg]; exact (below_size (by repeat (first | (with_reducible first | exact HB.out | apply below_alloc | apply pw_below_drewN | apply below_drew1 | refine below_set ?_ GE496.out | refine below_set ?_ GE502.out | refine below_set ?_ GE506.out) | exact HB.out))) : w.heap.size ≤ gb520)); have n6_ := Aside0.mk ((by rw [hg]; exact (below_size (by repeat (first | (with_reducible first | exact HB.out | apply below_alloc | apply pw_below_drewN | apply below_drew1 | refine below_set ?_ GE496.out | refine below_set ?_ GE502.out | refine below_set ?_ GE506.out) | exact HB.out))) : w.heap.size ≤ gb520)); have n7_ := Aside0.mk ((by rw [hg]; exact Nat.ne_of_lt (blk_lt (g := gb496) (o := .cells #[.string a1_0, .int .i64 a1_1, .int .i64 a1_2] 51 (0, 0)) (by (with_reducible repeat (first | refine blk_drewN ?_ _ | refine blk_drew ?_ | refine blk_alloc ?_ _)); exact BK496.out)) : gb496 ≠ gb520)); have n8_ := Aside0.mk ((by rw [hg]; exact Nat.ne_of_gt (blk_lt (g := gb496) (o := .cells #[.string a1_0, .int .i64 a1_1, .int .i64 a1_2] 51 (0, 0)) (by (with_reducible repeat (first | refine blk_drewN ?_ _ | refine blk_drew ?_ | refine blk_alloc ?_ _)); exact BK496.out)) : gb520 ≠ gb496)); have n9_ := Aside0.mk ((by rw [hg]; exact Nat.ne_of_lt (blk_lt (g := gb502) (o := .cells #[.int .i64 t499, .int .i64 t500] 25 (0, 0)) (by (with_reducible repeat (first | refine blk_drewN ?_ _ | refine blk_drew ?_ | refine blk_alloc ?_ _)); exact BK502.out)) : gb502 ≠ gb520)); have n10_ := Aside0.mk ((by rw [hg]; exact Nat.ne_of_gt (blk_lt (g := gb502) (o := .cells #[.int .i64 t499, .int .i64 t500] 25 (0, 0)) (by (with_reducible repeat (first | refine blk_drewN ?_ _ | refine blk_drew ?_ | refine blk_alloc ?_ _)); exact BK502.out)) : gb520 ≠ gb502)); have n11_ := Aside0.mk ((by rw [hg]; exact Nat.ne_of_lt (blk_lt (g := gb506) (o := .cells #[.int .i64 x507000_23, .int .i64 x507001_23] 25 (0, 0)) (by (with_reducible repeat (first | refine blk_drewN ?_ _ | refine blk_drew ?_ | refine blk_alloc ?_ _)); exact BK506.out)) : gb506 ≠ gb520)); have n12_ := Aside0.mk ((by rw [hg]; exact Nat.ne_of_gt (blk_lt (g := gb506) (o := .cells #[.int .i64 x507000_23, .int .i64 x507001_23] 25 (0, 0)) (by (with_reducible repeat (first | refine blk_drewN ?_ _ | refine blk_drew ?_ | refine blk_alloc ?_ _)); exact BK506.out)) : gb520 ≠ gb506)); clear BK496; clear BK502; clear BK506; clear HB; have BK496 := n0_; have BK502 := n1_; have BK506 := n2_; have HB := n3_; have BK520 := n4_; have GW520 := n5_; have GE520 := n6_; have NB496_520 := n7_; have NB520_496 := n8_; have NB502_520 := n9_; have NB520_502 := n10_; have NB506_520 := n11_; have NB520_506 := n12_; clear n0_ n1_ n2_ n3_ n4_ n5_ n6_ n7_ n8_ n9_ n10_ n11_ n12_; clear hb hbox hg; have hnb54 := NB520_496.out; have hnc54 := NB496_520.out; have hnb55 := NB520_502.out; have hnc55 := NB502_520.out; have hnb56 := NB520_506.out; have hnc56 := NB506_520.out; have hcz57_0 : w53.cell? ⟨gb520, 0, none⟩ = some (.int .i64 0) := (blk_cell BK520.out 0).trans rfl; have hcz57_1 : w53.cell? ⟨gb520, 1, none⟩ = some (.int .i64 0) := (blk_cell BK520.out 1).trans rfl; have hfz57_0 := blk_frozen BK520.out 0; have hfz57_1 := blk_frozen BK520.out 1; have hnb58 := NB502_506.out; have hnc58 := NB506_502.out; have hcz59_0 : w53.cell? ⟨gb502, 0, none⟩ = some (.int .i64 t499) := (blk_cell BK502.out 0).trans rfl; have hcz59_1 : w53.cell? ⟨gb502, 1, none⟩ = some (.int .i64 t500) := (blk_cell BK502.out 1).trans rfl; have hfz59_0 := blk_frozen BK502.out 0; have hfz59_1 := blk_frozen BK502.out 1; have hcz60_0 : w53.cell? ⟨gb496, 0, none⟩ = some (.string a1_0) := (blk_cell BK496.out 0).trans rfl; have hcz60_1 : w53.cell? ⟨gb496, 1, none⟩ = some (.int .i64 a1_1) := (blk_cell BK496.out 1).trans rfl; have hcz60_2 : w53.cell? ⟨gb496, 2, none⟩ = some (.int .i64 a1_2) := (blk_cell BK496.out 2).trans rfl; have hfz60_0 := blk_frozen BK496.out 0; have hfz60_1 := blk_frozen BK496.out 1; have hfz60_2 := blk_frozen BK496.out 2) | (go_at_call 34; (with_reducible refine (metrolablaw52_awake.calls kj36  t521 _ A48.out).mono ?_); rintro e w61 ⟨rfl, hb⟩; have n0_ := Aside0.mk (blk_below (g := gb496) (o := .cells #[.string a1_0, .int .i64 a1_1, .int .i64 a1_2] 51 (0, 0)) (by (with_reducible repeat (first | refine blk_drewN ?_ _ | refine blk_drew ?_ | refine blk_alloc ?_ _)); refine blk_far ?_ NB496_520.out _; (with_reducible repeat (first | refine blk_drewN ?_ _ | refine blk_drew ?_ | refine blk_alloc ?_ _)); refine blk_far ?_ NB496_520.out _; (with_reducible repeat (first | refine blk_drewN ?_ _ | refine blk_drew ?_ | refine blk_alloc ?_ _)); exact BK496.out) hb); have n1_ := Aside0.mk (blk_below (g := gb502) (o := .cells #[.int .i64 t499, .int .i64 t500] 25 (0, 0)) (by (with_reducible repeat (first | refine blk_drewN ?_ _ | refine blk_drew ?_ | refine blk_alloc ?_ _)); refine blk_far ?_ NB502_520.out _; (with_reducible repeat (first | refine blk_drewN ?_ _ | refine blk_drew ?_ | refine blk_alloc ?_ _)); refine blk_far ?_ NB502_520.out _; (with_reducible repeat (first | refine blk_drewN ?_ _ | refine blk_drew ?_ | refine blk_alloc ?_ _)); exact BK502.out) hb); have n2_ := Aside0.mk (blk_below (g := gb506) (o := .cells #[.int .i64 x507000_23, .int .i64 x507001_23] 25 (0, 0)) (by (with_reducible repeat (first | refine blk_drewN ?_ _ | refine blk_drew ?_ | refine blk_alloc ?_ _)); refine blk_far ?_ NB506_520.out _; (with_reducible repeat (first | refine blk_drewN ?_ _ | refine blk_drew ?_ | refine blk_alloc ?_ _)); refine blk_far ?_ NB506_520.out _; (with_reducible repeat (first | refine blk_drewN ?_ _ | refine blk_drew ?_ | refine blk_alloc ?_ _)); exact BK506.out) hb); have n3_ := Aside0.mk (blk_below (g := gb520) (o := .cells #[.int .i64 t517, .int .i64 t518] 25 (0, 0)) (by (with_reducible repeat (first | refine blk_drewN ?_ _ | refine blk_drew ?_ | refine blk_alloc ?_ _)); refine blk_put (cs := #[.int .i64 t517, .int .i64 0]) ?_ 1 _ rfl; (with_reducible repeat (first | refine blk_drewN ?_ _ | refine blk_drew ?_ | refine blk_alloc ?_ _)); refine blk_put (cs := #[.int .i64 0, .int .i64 0]) ?_ 0 _ rfl; (with_reducible repeat (first | refine blk_drewN ?_ _ | refine blk_drew ?_ | refine blk_alloc ?_ _)); exact BK520.out) hb); have n4_ := Aside0.mk (below_step (by repeat (first | (with_reducible first | exact HB.out | apply below_alloc | apply pw_below_drewN | apply below_drew1 | refine below_set ?_ GE496.out | refine below_set ?_ GE502.out | refine below_set ?_ GE506.out | refine below_set ?_ GE520.out) | exact HB.out)) hb); clear BK496; clear BK502; clear BK506; clear BK520; clear HB; have BK496 := n0_; have BK502 := n1_; have BK506 := n2_; have BK520 := n3_; have HB := n4_; clear n0_ n1_ n2_ n3_ n4_; (try clear hb); (try clear hb2); (try clear hk); (try clear hi)))
                                go_ret
                                exact ⟨by first | rfl | (simp [errW_none, errW_some] <;> rfl) | (simp [*, errW_none, errW_some] <;> rfl), by repeat (first | (with_reducible first | exact HB.out | apply below_alloc | apply pw_below_drewN | apply below_drew1 | refine below_set ?_ GE496.out | refine below_set ?_ GE502.out | refine below_set ?_ GE506.out | refine below_set ?_ GE520.out) | exact HB.out)⟩
                              · rw [if_neg c47] at H
                                have c47b0 : ((wrap64 (t518 + t499)) == a1_2) = false := beq_eq_false_iff_ne.mpr c47
                                have c47b1 : ((wrap64 (t518 + t499)) != a1_2) = true := bne_iff_ne.mpr c47
                                obtain rfl := Option.some.inj H
                                have hnb62 := NB496_502.out
                                have hnc62 := NB502_496.out
                                have hnb63 := NB496_506.out
                                have hnc63 := NB506_496.out
                                have hcz64_0 : wc.cell? ⟨gb496, 0, none⟩ = some (.string a1_0) := (blk_cell BK496.out 0).trans rfl
                                have hcz64_1 : wc.cell? ⟨gb496, 1, none⟩ = some (.int .i64 a1_1) := (blk_cell BK496.out 1).trans rfl
                                have hcz64_2 : wc.cell? ⟨gb496, 2, none⟩ = some (.int .i64 a1_2) := (blk_cell BK496.out 2).trans rfl
                                have hfz64_0 := blk_frozen BK496.out 0
                                have hfz64_1 := blk_frozen BK496.out 1
                                have hfz64_2 := blk_frozen BK496.out 2
                                go_wp2_with (first | ((with_reducible refine gate_callee (f := 63) rfl ?_); refine goesL_ (some 111) rfl rfl Try.func63 (by kernel_rfl) rfl #[.slice (some ad507) l0.length c0, .agg #[.string a1_0, .int .i64 a1_1, .int .i64 a1_2]] rfl (by (try simp only [List.map_toArray, List.map_cons, List.map_nil]); first | done | rfl | (simp only [List.length_drop, List.length_take]; rfl)) ?_; (with_reducible refine (calibrate_Value.calls kj36 _ _ l0 a1_0 a1_1 a1_2 t517 t518 t519 _ ?side1 ?side2 A44.out).mono ?_); (case side1 => repeat (first | exact (Kd.C_below HR0.out HB.out) | (with_reducible refine Kd.C_alloc ?_ _) | (with_reducible refine Kd.C_drewN ?_ _) | (with_reducible refine Kd.C_drew ?_))); (case side2 => exact HC0.out); rintro e w65 ⟨rfl, hb⟩; refine ⟨_, rfl, ?_⟩; have n0_ := Aside0.mk (blk_below (g := gb496) (o := .cells #[.string a1_0, .int .i64 a1_1, .int .i64 a1_2] 51 (0, 0)) (by (with_reducible repeat (first | refine blk_drewN ?_ _ | refine blk_drew ?_ | refine blk_alloc ?_ _)); exact BK496.out) hb); have n1_ := Aside0.mk (blk_below (g := gb502) (o := .cells #[.int .i64 t499, .int .i64 t500] 25 (0, 0)) (by (with_reducible repeat (first | refine blk_drewN ?_ _ | refine blk_drew ?_ | refine blk_alloc ?_ _)); exact BK502.out) hb); have n2_ := Aside0.mk (blk_below (g := gb506) (o := .cells #[.int .i64 x507000_23, .int .i64 x507001_23] 25 (0, 0)) (by (with_reducible repeat (first | refine blk_drewN ?_ _ | refine blk_drew ?_ | refine blk_alloc ?_ _)); exact BK506.out) hb); have n3_ := Aside0.mk (below_step (by repeat (first | (with_reducible first | exact HB.out | apply below_alloc | apply pw_below_drewN | apply below_drew1 | refine below_set ?_ GE496.out | refine below_set ?_ GE502.out | refine below_set ?_ GE506.out) | exact HB.out)) hb); clear BK496; clear BK502; clear BK506; clear HB; have BK496 := n0_; have BK502 := n1_; have BK506 := n2_; have HB := n3_; clear n0_ n1_ n2_ n3_; (try clear hb); (try clear hb2); (try clear hk); (try clear hi)) | ((with_reducible refine gate_dst (N := 9) rfl ?_); (try (refine gate_guard (by rfl) ?_; dsimp only)); refine box_event ?hg (N := 9) ?hd (cs := #[.int .i64 0, .int .i64 0]) (t := 25) ?hr ?_; (case hd => rfl); (case hg => rfl); (case hr => first | (go_simp; done) | (go_simp; rfl)); intro gb520 hg w66 hbox hb; have n0_ := Aside0.mk (blk_below (g := gb496) (o := .cells #[.string a1_0, .int .i64 a1_1, .int .i64 a1_2] 51 (0, 0)) (by (with_reducible repeat (first | refine blk_drewN ?_ _ | refine blk_drew ?_ | refine blk_alloc ?_ _)); exact BK496.out) hb); have n1_ := Aside0.mk (blk_below (g := gb502) (o := .cells #[.int .i64 t499, .int .i64 t500] 25 (0, 0)) (by (with_reducible repeat (first | refine blk_drewN ?_ _ | refine blk_drew ?_ | refine blk_alloc ?_ _)); exact BK502.out) hb); have n2_ := Aside0.mk (blk_below (g := gb506) (o := .cells #[.int .i64 x507000_23, .int .i64 x507001_23] 25 (0, 0)) (by (with_reducible repeat (first | refine blk_drewN ?_ _ | refine blk_drew ?_ | refine blk_alloc ?_ _)); exact BK506.out) hb); have n3_ := Aside0.mk (below_step (by repeat (first | (with_reducible first | exact HB.out | apply below_alloc | apply pw_below_drewN | apply below_drew1 | refine below_set ?_ GE496.out | refine below_set ?_ GE502.out | refine below_set ?_ GE506.out) | exact HB.out)) hb); have n4_ := Aside0.mk (hbox); have n5_ := Aside0.mk ((by rw [hg]; exact (below_size (by repeat (first | (with_reducible first | exact HB.out | apply below_alloc | apply pw_below_drewN | apply below_drew1 | refine below_set ?_ GE496.out | refine below_set ?_ GE502.out | refine below_set ?_ GE506.out) | exact HB.out))) : w.heap.size ≤ gb520)); have n6_ := Aside0.mk ((by rw [hg]; exact (below_size (by repeat (first | (with_reducible first | exact HB.out | apply below_alloc | apply pw_below_drewN | apply below_drew1 | refine below_set ?_ GE496.out | refine below_set ?_ GE502.out | refine below_set ?_ GE506.out) | exact HB.out))) : w.heap.size ≤ gb520)); have n7_ := Aside0.mk ((by rw [hg]; exact Nat.ne_of_lt (blk_lt (g := gb496) (o := .cells #[.string a1_0, .int .i64 a1_1, .int .i64 a1_2] 51 (0, 0)) (by (with_reducible repeat (first | refine blk_drewN ?_ _ | refine blk_drew ?_ | refine blk_alloc ?_ _)); exact BK496.out)) : gb496 ≠ gb520)); have n8_ := Aside0.mk ((by rw [hg]; exact Nat.ne_of_gt (blk_lt (g := gb496) (o := .cells #[.string a1_0, .int .i64 a1_1, .int .i64 a1_2] 51 (0, 0)) (by (with_reducible repeat (first | refine blk_drewN ?_ _ | refine blk_drew ?_ | refine blk_alloc ?_ _)); exact BK496.out)) : gb520 ≠ gb496)); have n9_ := Aside0.mk ((by rw [hg]; exact Nat.ne_of_lt (blk_lt (g := gb502) (o := .cells #[.int .i64 t499, .int .i64 t500] 25 (0, 0)) (by (with_reducible repeat (first | refine blk_drewN ?_ _ | refine blk_drew ?_ | refine blk_alloc ?_ _)); exact BK502.out)) : gb502 ≠ gb520)); have n10_ := Aside0.mk ((by rw [hg]; exact Nat.ne_of_gt (blk_lt (g := gb502) (o := .cells #[.int .i64 t499, .int .i64 t500] 25 (0, 0)) (by (with_reducible repeat (first | refine blk_drewN ?_ _ | refine blk_drew ?_ | refine blk_alloc ?_ _)); exact BK502.out)) : gb520 ≠ gb502)); have n11_ := Aside0.mk ((by rw [hg]; exact Nat.ne_of_lt (blk_lt (g := gb506) (o := .cells #[.int .i64 x507000_23, .int .i64 x507001_23] 25 (0, 0)) (by (with_reducible repeat (first | refine blk_drewN ?_ _ | refine blk_drew ?_ | refine blk_alloc ?_ _)); exact BK506.out)) : gb506 ≠ gb520)); have n12_ := Aside0.mk ((by rw [hg]; exact Nat.ne_of_gt (blk_lt (g := gb506) (o := .cells #[.int .i64 x507000_23, .int .i64 x507001_23] 25 (0, 0)) (by (with_reducible repeat (first | refine blk_drewN ?_ _ | refine blk_drew ?_ | refine blk_alloc ?_ _)); exact BK506.out)) : gb520 ≠ gb506)); clear BK496; clear BK502; clear BK506; clear HB; have BK496 := n0_; have BK502 := n1_; have BK506 := n2_; have HB := n3_; have BK520 := n4_; have GW520 := n5_; have GE520 := n6_; have NB496_520 := n7_; have NB520_496 := n8_; have NB502_520 := n9_; have NB520_502 := n10_; have NB506_520 := n11_; have NB520_506 := n12_; clear n0_ n1_ n2_ n3_ n4_ n5_ n6_ n7_ n8_ n9_ n10_ n11_ n12_; clear hb hbox hg; have hnb67 := NB520_496.out; have hnc67 := NB496_520.out; have hnb68 := NB520_502.out; have hnc68 := NB502_520.out; have hnb69 := NB520_506.out; have hnc69 := NB506_520.out; have hcz70_0 : w66.cell? ⟨gb520, 0, none⟩ = some (.int .i64 0) := (blk_cell BK520.out 0).trans rfl; have hcz70_1 : w66.cell? ⟨gb520, 1, none⟩ = some (.int .i64 0) := (blk_cell BK520.out 1).trans rfl; have hfz70_0 := blk_frozen BK520.out 0; have hfz70_1 := blk_frozen BK520.out 1; have hnb71 := NB502_506.out; have hnc71 := NB506_502.out; have hcz72_0 : w66.cell? ⟨gb502, 0, none⟩ = some (.int .i64 t499) := (blk_cell BK502.out 0).trans rfl; have hcz72_1 : w66.cell? ⟨gb502, 1, none⟩ = some (.int .i64 t500) := (blk_cell BK502.out 1).trans rfl; have hfz72_0 := blk_frozen BK502.out 0; have hfz72_1 := blk_frozen BK502.out 1; have hcz73_0 : w66.cell? ⟨gb496, 0, none⟩ = some (.string a1_0) := (blk_cell BK496.out 0).trans rfl; have hcz73_1 : w66.cell? ⟨gb496, 1, none⟩ = some (.int .i64 a1_1) := (blk_cell BK496.out 1).trans rfl; have hcz73_2 : w66.cell? ⟨gb496, 2, none⟩ = some (.int .i64 a1_2) := (blk_cell BK496.out 2).trans rfl; have hfz73_0 := blk_frozen BK496.out 0; have hfz73_1 := blk_frozen BK496.out 1; have hfz73_2 := blk_frozen BK496.out 2))
                                go_ret
                                exact ⟨by first | rfl | (simp [errW_none, errW_some] <;> rfl) | (simp [*, errW_none, errW_some] <;> rfl), by repeat (first | (with_reducible first | exact HB.out | apply below_alloc | apply pw_below_drewN | apply below_drew1 | refine below_set ?_ GE496.out | refine below_set ?_ GE502.out | refine below_set ?_ GE506.out | refine below_set ?_ GE520.out) | exact HB.out)⟩
                            · rw [if_neg c46] at H
                              have c46b0 : ((wrap64 (t517 + t500)) == a1_2) = false := beq_eq_false_iff_ne.mpr c46
                              have c46b1 : ((wrap64 (t517 + t500)) != a1_2) = true := bne_iff_ne.mpr c46
                              obtain rfl := Option.some.inj H
                              have hnb74 := NB496_502.out
                              have hnc74 := NB502_496.out
                              have hnb75 := NB496_506.out
                              have hnc75 := NB506_496.out
                              have hcz76_0 : wc.cell? ⟨gb496, 0, none⟩ = some (.string a1_0) := (blk_cell BK496.out 0).trans rfl
                              have hcz76_1 : wc.cell? ⟨gb496, 1, none⟩ = some (.int .i64 a1_1) := (blk_cell BK496.out 1).trans rfl
                              have hcz76_2 : wc.cell? ⟨gb496, 2, none⟩ = some (.int .i64 a1_2) := (blk_cell BK496.out 2).trans rfl
                              have hfz76_0 := blk_frozen BK496.out 0
                              have hfz76_1 := blk_frozen BK496.out 1
                              have hfz76_2 := blk_frozen BK496.out 2
                              go_wp2_with (first | ((with_reducible refine gate_callee (f := 63) rfl ?_); refine goesL_ (some 111) rfl rfl Try.func63 (by kernel_rfl) rfl #[.slice (some ad507) l0.length c0, .agg #[.string a1_0, .int .i64 a1_1, .int .i64 a1_2]] rfl (by (try simp only [List.map_toArray, List.map_cons, List.map_nil]); first | done | rfl | (simp only [List.length_drop, List.length_take]; rfl)) ?_; (with_reducible refine (calibrate_Value.calls kj36 _ _ l0 a1_0 a1_1 a1_2 t517 t518 t519 _ ?side1 ?side2 A44.out).mono ?_); (case side1 => repeat (first | exact (Kd.C_below HR0.out HB.out) | (with_reducible refine Kd.C_alloc ?_ _) | (with_reducible refine Kd.C_drewN ?_ _) | (with_reducible refine Kd.C_drew ?_))); (case side2 => exact HC0.out); rintro e w77 ⟨rfl, hb⟩; refine ⟨_, rfl, ?_⟩; have n0_ := Aside0.mk (blk_below (g := gb496) (o := .cells #[.string a1_0, .int .i64 a1_1, .int .i64 a1_2] 51 (0, 0)) (by (with_reducible repeat (first | refine blk_drewN ?_ _ | refine blk_drew ?_ | refine blk_alloc ?_ _)); exact BK496.out) hb); have n1_ := Aside0.mk (blk_below (g := gb502) (o := .cells #[.int .i64 t499, .int .i64 t500] 25 (0, 0)) (by (with_reducible repeat (first | refine blk_drewN ?_ _ | refine blk_drew ?_ | refine blk_alloc ?_ _)); exact BK502.out) hb); have n2_ := Aside0.mk (blk_below (g := gb506) (o := .cells #[.int .i64 x507000_23, .int .i64 x507001_23] 25 (0, 0)) (by (with_reducible repeat (first | refine blk_drewN ?_ _ | refine blk_drew ?_ | refine blk_alloc ?_ _)); exact BK506.out) hb); have n3_ := Aside0.mk (below_step (by repeat (first | (with_reducible first | exact HB.out | apply below_alloc | apply pw_below_drewN | apply below_drew1 | refine below_set ?_ GE496.out | refine below_set ?_ GE502.out | refine below_set ?_ GE506.out) | exact HB.out)) hb); clear BK496; clear BK502; clear BK506; clear HB; have BK496 := n0_; have BK502 := n1_; have BK506 := n2_; have HB := n3_; clear n0_ n1_ n2_ n3_; (try clear hb); (try clear hb2); (try clear hk); (try clear hi)) | ((with_reducible refine gate_dst (N := 9) rfl ?_); (try (refine gate_guard (by rfl) ?_; dsimp only)); refine box_event ?hg (N := 9) ?hd (cs := #[.int .i64 0, .int .i64 0]) (t := 25) ?hr ?_; (case hd => rfl); (case hg => rfl); (case hr => first | (go_simp; done) | (go_simp; rfl)); intro gb520 hg w78 hbox hb; have n0_ := Aside0.mk (blk_below (g := gb496) (o := .cells #[.string a1_0, .int .i64 a1_1, .int .i64 a1_2] 51 (0, 0)) (by (with_reducible repeat (first | refine blk_drewN ?_ _ | refine blk_drew ?_ | refine blk_alloc ?_ _)); exact BK496.out) hb); have n1_ := Aside0.mk (blk_below (g := gb502) (o := .cells #[.int .i64 t499, .int .i64 t500] 25 (0, 0)) (by (with_reducible repeat (first | refine blk_drewN ?_ _ | refine blk_drew ?_ | refine blk_alloc ?_ _)); exact BK502.out) hb); have n2_ := Aside0.mk (blk_below (g := gb506) (o := .cells #[.int .i64 x507000_23, .int .i64 x507001_23] 25 (0, 0)) (by (with_reducible repeat (first | refine blk_drewN ?_ _ | refine blk_drew ?_ | refine blk_alloc ?_ _)); exact BK506.out) hb); have n3_ := Aside0.mk (below_step (by repeat (first | (with_reducible first | exact HB.out | apply below_alloc | apply pw_below_drewN | apply below_drew1 | refine below_set ?_ GE496.out | refine below_set ?_ GE502.out | refine below_set ?_ GE506.out) | exact HB.out)) hb); have n4_ := Aside0.mk (hbox); have n5_ := Aside0.mk ((by rw [hg]; exact (below_size (by repeat (first | (with_reducible first | exact HB.out | apply below_alloc | apply pw_below_drewN | apply below_drew1 | refine below_set ?_ GE496.out | refine below_set ?_ GE502.out | refine below_set ?_ GE506.out) | exact HB.out))) : w.heap.size ≤ gb520)); have n6_ := Aside0.mk ((by rw [hg]; exact (below_size (by repeat (first | (with_reducible first | exact HB.out | apply below_alloc | apply pw_below_drewN | apply below_drew1 | refine below_set ?_ GE496.out | refine below_set ?_ GE502.out | refine below_set ?_ GE506.out) | exact HB.out))) : w.heap.size ≤ gb520)); have n7_ := Aside0.mk ((by rw [hg]; exact Nat.ne_of_lt (blk_lt (g := gb496) (o := .cells #[.string a1_0, .int .i64 a1_1, .int .i64 a1_2] 51 (0, 0)) (by (with_reducible repeat (first | refine blk_drewN ?_ _ | refine blk_drew ?_ | refine blk_alloc ?_ _)); exact BK496.out)) : gb496 ≠ gb520)); have n8_ := Aside0.mk ((by rw [hg]; exact Nat.ne_of_gt (blk_lt (g := gb496) (o := .cells #[.string a1_0, .int .i64 a1_1, .int .i64 a1_2] 51 (0, 0)) (by (with_reducible repeat (first | refine blk_drewN ?_ _ | refine blk_drew ?_ | refine blk_alloc ?_ _)); exact BK496.out)) : gb520 ≠ gb496)); have n9_ := Aside0.mk ((by rw [hg]; exact Nat.ne_of_lt (blk_lt (g := gb502) (o := .cells #[.int .i64 t499, .int .i64 t500] 25 (0, 0)) (by (with_reducible repeat (first | refine blk_drewN ?_ _ | refine blk_drew ?_ | refine blk_alloc ?_ _)); exact BK502.out)) : gb502 ≠ gb520)); have n10_ := Aside0.mk ((by rw [hg]; exact Nat.ne_of_gt (blk_lt (g := gb502) (o := .cells #[.int .i64 t499, .int .i64 t500] 25 (0, 0)) (by (with_reducible repeat (first | refine blk_drewN ?_ _ | refine blk_drew ?_ | refine blk_alloc ?_ _)); exact BK502.out)) : gb520 ≠ gb502)); have n11_ := Aside0.mk ((by rw [hg]; exact Nat.ne_of_lt (blk_lt (g := gb506) (o := .cells #[.int .i64 x507000_23, .int .i64 x507001_23] 25 (0, 0)) (by (with_reducible repeat (first | refine blk_drewN ?_ _ | refine blk_drew ?_ | refine blk_alloc ?_ _)); exact BK506.out)) : gb506 ≠ gb520)); have n12_ := Aside0.mk ((by rw [hg]; exact Nat.ne_of_gt (blk_lt (g := gb506) (o := .cells #[.int .i64 x507000_23, .int .i64 x507001_23] 25 (0, 0)) (by (with_reducible repeat (first | refine blk_drewN ?_ _ | refine blk_drew ?_ | refine blk_alloc ?_ _)); exact BK506.out)) : gb520 ≠ gb506)); clear BK496; clear BK502; clear BK506; clear HB; have BK496 := n0_; have BK502 := n1_; have BK506 := n2_; have HB := n3_; have BK520 := n4_; have GW520 := n5_; have GE520 := n6_; have NB496_520 := n7_; have NB520_496 := n8_; have NB502_520 := n9_; have NB520_502 := n10_; have NB506_520 := n11_; have NB520_506 := n12_; clear n0_ n1_ n2_ n3_ n4_ n5_ n6_ n7_ n8_ n9_ n10_ n11_ n12_; clear hb hbox hg; have hnb79 := NB520_496.out; have hnc79 := NB496_520.out; have hnb80 := NB520_502.out; have hnc80 := NB502_520.out; have hnb81 := NB520_506.out; have hnc81 := NB506_520.out; have hcz82_0 : w78.cell? ⟨gb520, 0, none⟩ = some (.int .i64 0) := (blk_cell BK520.out 0).trans rfl; have hcz82_1 : w78.cell? ⟨gb520, 1, none⟩ = some (.int .i64 0) := (blk_cell BK520.out 1).trans rfl; have hfz82_0 := blk_frozen BK520.out 0; have hfz82_1 := blk_frozen BK520.out 1; have hnb83 := NB502_506.out; have hnc83 := NB506_502.out; have hcz84_0 : w78.cell? ⟨gb502, 0, none⟩ = some (.int .i64 t499) := (blk_cell BK502.out 0).trans rfl; have hcz84_1 : w78.cell? ⟨gb502, 1, none⟩ = some (.int .i64 t500) := (blk_cell BK502.out 1).trans rfl; have hfz84_0 := blk_frozen BK502.out 0; have hfz84_1 := blk_frozen BK502.out 1; have hcz85_0 : w78.cell? ⟨gb496, 0, none⟩ = some (.string a1_0) := (blk_cell BK496.out 0).trans rfl; have hcz85_1 : w78.cell? ⟨gb496, 1, none⟩ = some (.int .i64 a1_1) := (blk_cell BK496.out 1).trans rfl; have hcz85_2 : w78.cell? ⟨gb496, 2, none⟩ = some (.int .i64 a1_2) := (blk_cell BK496.out 2).trans rfl; have hfz85_0 := blk_frozen BK496.out 0; have hfz85_1 := blk_frozen BK496.out 1; have hfz85_2 := blk_frozen BK496.out 2))
                              go_ret
                              exact ⟨by first | rfl | (simp [errW_none, errW_some] <;> rfl) | (simp [*, errW_none, errW_some] <;> rfl), by repeat (first | (with_reducible first | exact HB.out | apply below_alloc | apply pw_below_drewN | apply below_drew1 | refine below_set ?_ GE496.out | refine below_set ?_ GE502.out | refine below_set ?_ GE506.out | refine below_set ?_ GE520.out) | exact HB.out)⟩
                          · rw [if_neg c45] at H
                            have c45b0 : (t519 == 0) = false := beq_eq_false_iff_ne.mpr c45
                            have c45b1 : (t519 != 0) = true := bne_iff_ne.mpr c45
                            by_cases c86 : t519 = 2
                            · rw [if_pos c86] at H
                              have c86b0 : (t519 == 2) = true := beq_iff_eq.mpr c86
                              have c86b1 : (t519 != 2) = false := bne_eq_false_iff_eq.mpr c86
                              clear c86
                              replace H := Option.bind_eq_some_iff.mp H
                              obtain ⟨t522, A870, H⟩ := H
                              replace H : (if t522 = true then (some false) else ((metrolablaw52_awake.f kj36).bind fun t523 => (some t523))) = some r := H
                              have A87 := Aside0.mk A870
                              clear A870
                              by_cases c88 : t522 = true
                              · subst c88
                                have H1 : (some false) = some r := by rw [if_pos rfl] at H; exact H
                                clear H
                                have H := H1
                                clear H1
                                obtain rfl := Option.some.inj H
                                have hnb89 := NB496_502.out
                                have hnc89 := NB502_496.out
                                have hnb90 := NB496_506.out
                                have hnc90 := NB506_496.out
                                have hcz91_0 : wc.cell? ⟨gb496, 0, none⟩ = some (.string a1_0) := (blk_cell BK496.out 0).trans rfl
                                have hcz91_1 : wc.cell? ⟨gb496, 1, none⟩ = some (.int .i64 a1_1) := (blk_cell BK496.out 1).trans rfl
                                have hcz91_2 : wc.cell? ⟨gb496, 2, none⟩ = some (.int .i64 a1_2) := (blk_cell BK496.out 2).trans rfl
                                have hfz91_0 := blk_frozen BK496.out 0
                                have hfz91_1 := blk_frozen BK496.out 1
                                have hfz91_2 := blk_frozen BK496.out 2
                                go_wp2_with (first | ((with_reducible refine gate_callee (f := 63) rfl ?_); refine goesL_ (some 111) rfl rfl Try.func63 (by kernel_rfl) rfl #[.slice (some ad507) l0.length c0, .agg #[.string a1_0, .int .i64 a1_1, .int .i64 a1_2]] rfl (by (try simp only [List.map_toArray, List.map_cons, List.map_nil]); first | done | rfl | (simp only [List.length_drop, List.length_take]; rfl)) ?_; (with_reducible refine (calibrate_Value.calls kj36 _ _ l0 a1_0 a1_1 a1_2 t517 t518 t519 _ ?side1 ?side2 A44.out).mono ?_); (case side1 => repeat (first | exact (Kd.C_below HR0.out HB.out) | (with_reducible refine Kd.C_alloc ?_ _) | (with_reducible refine Kd.C_drewN ?_ _) | (with_reducible refine Kd.C_drew ?_))); (case side2 => exact HC0.out); rintro e w92 ⟨rfl, hb⟩; refine ⟨_, rfl, ?_⟩; have n0_ := Aside0.mk (blk_below (g := gb496) (o := .cells #[.string a1_0, .int .i64 a1_1, .int .i64 a1_2] 51 (0, 0)) (by (with_reducible repeat (first | refine blk_drewN ?_ _ | refine blk_drew ?_ | refine blk_alloc ?_ _)); exact BK496.out) hb); have n1_ := Aside0.mk (blk_below (g := gb502) (o := .cells #[.int .i64 t499, .int .i64 t500] 25 (0, 0)) (by (with_reducible repeat (first | refine blk_drewN ?_ _ | refine blk_drew ?_ | refine blk_alloc ?_ _)); exact BK502.out) hb); have n2_ := Aside0.mk (blk_below (g := gb506) (o := .cells #[.int .i64 x507000_23, .int .i64 x507001_23] 25 (0, 0)) (by (with_reducible repeat (first | refine blk_drewN ?_ _ | refine blk_drew ?_ | refine blk_alloc ?_ _)); exact BK506.out) hb); have n3_ := Aside0.mk (below_step (by repeat (first | (with_reducible first | exact HB.out | apply below_alloc | apply pw_below_drewN | apply below_drew1 | refine below_set ?_ GE496.out | refine below_set ?_ GE502.out | refine below_set ?_ GE506.out) | exact HB.out)) hb); clear BK496; clear BK502; clear BK506; clear HB; have BK496 := n0_; have BK502 := n1_; have BK506 := n2_; have HB := n3_; clear n0_ n1_ n2_ n3_; (try clear hb); (try clear hb2); (try clear hk); (try clear hi)) | ((with_reducible refine gate_dst (N := 9) rfl ?_); (try (refine gate_guard (by rfl) ?_; dsimp only)); refine box_event ?hg (N := 9) ?hd (cs := #[.int .i64 0, .int .i64 0]) (t := 25) ?hr ?_; (case hd => rfl); (case hg => rfl); (case hr => first | (go_simp; done) | (go_simp; rfl)); intro gb520 hg w93 hbox hb; have n0_ := Aside0.mk (blk_below (g := gb496) (o := .cells #[.string a1_0, .int .i64 a1_1, .int .i64 a1_2] 51 (0, 0)) (by (with_reducible repeat (first | refine blk_drewN ?_ _ | refine blk_drew ?_ | refine blk_alloc ?_ _)); exact BK496.out) hb); have n1_ := Aside0.mk (blk_below (g := gb502) (o := .cells #[.int .i64 t499, .int .i64 t500] 25 (0, 0)) (by (with_reducible repeat (first | refine blk_drewN ?_ _ | refine blk_drew ?_ | refine blk_alloc ?_ _)); exact BK502.out) hb); have n2_ := Aside0.mk (blk_below (g := gb506) (o := .cells #[.int .i64 x507000_23, .int .i64 x507001_23] 25 (0, 0)) (by (with_reducible repeat (first | refine blk_drewN ?_ _ | refine blk_drew ?_ | refine blk_alloc ?_ _)); exact BK506.out) hb); have n3_ := Aside0.mk (below_step (by repeat (first | (with_reducible first | exact HB.out | apply below_alloc | apply pw_below_drewN | apply below_drew1 | refine below_set ?_ GE496.out | refine below_set ?_ GE502.out | refine below_set ?_ GE506.out) | exact HB.out)) hb); have n4_ := Aside0.mk (hbox); have n5_ := Aside0.mk ((by rw [hg]; exact (below_size (by repeat (first | (with_reducible first | exact HB.out | apply below_alloc | apply pw_below_drewN | apply below_drew1 | refine below_set ?_ GE496.out | refine below_set ?_ GE502.out | refine below_set ?_ GE506.out) | exact HB.out))) : w.heap.size ≤ gb520)); have n6_ := Aside0.mk ((by rw [hg]; exact (below_size (by repeat (first | (with_reducible first | exact HB.out | apply below_alloc | apply pw_below_drewN | apply below_drew1 | refine below_set ?_ GE496.out | refine below_set ?_ GE502.out | refine below_set ?_ GE506.out) | exact HB.out))) : w.heap.size ≤ gb520)); have n7_ := Aside0.mk ((by rw [hg]; exact Nat.ne_of_lt (blk_lt (g := gb496) (o := .cells #[.string a1_0, .int .i64 a1_1, .int .i64 a1_2] 51 (0, 0)) (by (with_reducible repeat (first | refine blk_drewN ?_ _ | refine blk_drew ?_ | refine blk_alloc ?_ _)); exact BK496.out)) : gb496 ≠ gb520)); have n8_ := Aside0.mk ((by rw [hg]; exact Nat.ne_of_gt (blk_lt (g := gb496) (o := .cells #[.string a1_0, .int .i64 a1_1, .int .i64 a1_2] 51 (0, 0)) (by (with_reducible repeat (first | refine blk_drewN ?_ _ | refine blk_drew ?_ | refine blk_alloc ?_ _)); exact BK496.out)) : gb520 ≠ gb496)); have n9_ := Aside0.mk ((by rw [hg]; exact Nat.ne_of_lt (blk_lt (g := gb502) (o := .cells #[.int .i64 t499, .int .i64 t500] 25 (0, 0)) (by (with_reducible repeat (first | refine blk_drewN ?_ _ | refine blk_drew ?_ | refine blk_alloc ?_ _)); exact BK502.out)) : gb502 ≠ gb520)); have n10_ := Aside0.mk ((by rw [hg]; exact Nat.ne_of_gt (blk_lt (g := gb502) (o := .cells #[.int .i64 t499, .int .i64 t500] 25 (0, 0)) (by (with_reducible repeat (first | refine blk_drewN ?_ _ | refine blk_drew ?_ | refine blk_alloc ?_ _)); exact BK502.out)) : gb520 ≠ gb502)); have n11_ := Aside0.mk ((by rw [hg]; exact Nat.ne_of_lt (blk_lt (g := gb506) (o := .cells #[.int .i64 x507000_23, .int .i64 x507001_23] 25 (0, 0)) (by (with_reducible repeat (first | refine blk_drewN ?_ _ | refine blk_drew ?_ | refine blk_alloc ?_ _)); exact BK506.out)) : gb506 ≠ gb520)); have n12_ := Aside0.mk ((by rw [hg]; exact Nat.ne_of_gt (blk_lt (g := gb506) (o := .cells #[.int .i64 x507000_23, .int .i64 x507001_23] 25 (0, 0)) (by (with_reducible repeat (first | refine blk_drewN ?_ _ | refine blk_drew ?_ | refine blk_alloc ?_ _)); exact BK506.out)) : gb520 ≠ gb506)); clear BK496; clear BK502; clear BK506; clear HB; have BK496 := n0_; have BK502 := n1_; have BK506 := n2_; have HB := n3_; have BK520 := n4_; have GW520 := n5_; have GE520 := n6_; have NB496_520 := n7_; have NB520_496 := n8_; have NB502_520 := n9_; have NB520_502 := n10_; have NB506_520 := n11_; have NB520_506 := n12_; clear n0_ n1_ n2_ n3_ n4_ n5_ n6_ n7_ n8_ n9_ n10_ n11_ n12_; clear hb hbox hg; have hnb94 := NB520_496.out; have hnc94 := NB496_520.out; have hnb95 := NB520_502.out; have hnc95 := NB502_520.out; have hnb96 := NB520_506.out; have hnc96 := NB506_520.out; have hcz97_0 : w93.cell? ⟨gb520, 0, none⟩ = some (.int .i64 0) := (blk_cell BK520.out 0).trans rfl; have hcz97_1 : w93.cell? ⟨gb520, 1, none⟩ = some (.int .i64 0) := (blk_cell BK520.out 1).trans rfl; have hfz97_0 := blk_frozen BK520.out 0; have hfz97_1 := blk_frozen BK520.out 1; have hcz98_0 : w93.cell? ⟨gb496, 0, none⟩ = some (.string a1_0) := (blk_cell BK496.out 0).trans rfl; have hcz98_1 : w93.cell? ⟨gb496, 1, none⟩ = some (.int .i64 a1_1) := (blk_cell BK496.out 1).trans rfl; have hcz98_2 : w93.cell? ⟨gb496, 2, none⟩ = some (.int .i64 a1_2) := (blk_cell BK496.out 2).trans rfl; have hfz98_0 := blk_frozen BK496.out 0; have hfz98_1 := blk_frozen BK496.out 1; have hfz98_2 := blk_frozen BK496.out 2) | (go_at_call 66; (with_reducible refine (metrolabref17_In.calls a1_2 true _ A87.out).mono ?_); rintro e w' ⟨rfl, ⟨nd, rfl⟩⟩))
                                go_ret
                                exact ⟨by first | rfl | (simp [errW_none, errW_some] <;> rfl) | (simp [*, errW_none, errW_some] <;> rfl), by repeat (first | (with_reducible first | exact HB.out | apply below_alloc | apply pw_below_drewN | apply below_drew1 | refine below_set ?_ GE496.out | refine below_set ?_ GE502.out | refine below_set ?_ GE506.out | refine below_set ?_ GE520.out) | exact HB.out)⟩
                              · replace c88 := Bool.eq_false_iff.mpr c88
                                subst c88
                                have H1 : ((metrolablaw52_awake.f kj36).bind fun t523 => (some t523)) = some r := by rw [if_neg (show ¬ (false = true) by decide)] at H; exact H
                                clear H
                                have H := H1
                                clear H1
                                replace H := Option.bind_eq_some_iff.mp H
                                obtain ⟨t523, A990, H⟩ := H
                                replace H : (some t523) = some r := H
                                have A99 := Aside0.mk A990
                                clear A990
                                obtain rfl := Option.some.inj H
                                have hnb100 := NB496_502.out
                                have hnc100 := NB502_496.out
                                have hnb101 := NB496_506.out
                                have hnc101 := NB506_496.out
                                have hcz102_0 : wc.cell? ⟨gb496, 0, none⟩ = some (.string a1_0) := (blk_cell BK496.out 0).trans rfl
                                have hcz102_1 : wc.cell? ⟨gb496, 1, none⟩ = some (.int .i64 a1_1) := (blk_cell BK496.out 1).trans rfl
                                have hcz102_2 : wc.cell? ⟨gb496, 2, none⟩ = some (.int .i64 a1_2) := (blk_cell BK496.out 2).trans rfl
                                have hfz102_0 := blk_frozen BK496.out 0
                                have hfz102_1 := blk_frozen BK496.out 1
                                have hfz102_2 := blk_frozen BK496.out 2
                                go_wp2_with (first | ((with_reducible refine gate_callee (f := 63) rfl ?_); refine goesL_ (some 111) rfl rfl Try.func63 (by kernel_rfl) rfl #[.slice (some ad507) l0.length c0, .agg #[.string a1_0, .int .i64 a1_1, .int .i64 a1_2]] rfl (by (try simp only [List.map_toArray, List.map_cons, List.map_nil]); first | done | rfl | (simp only [List.length_drop, List.length_take]; rfl)) ?_; (with_reducible refine (calibrate_Value.calls kj36 _ _ l0 a1_0 a1_1 a1_2 t517 t518 t519 _ ?side1 ?side2 A44.out).mono ?_); (case side1 => repeat (first | exact (Kd.C_below HR0.out HB.out) | (with_reducible refine Kd.C_alloc ?_ _) | (with_reducible refine Kd.C_drewN ?_ _) | (with_reducible refine Kd.C_drew ?_))); (case side2 => exact HC0.out); rintro e w103 ⟨rfl, hb⟩; refine ⟨_, rfl, ?_⟩; have n0_ := Aside0.mk (blk_below (g := gb496) (o := .cells #[.string a1_0, .int .i64 a1_1, .int .i64 a1_2] 51 (0, 0)) (by (with_reducible repeat (first | refine blk_drewN ?_ _ | refine blk_drew ?_ | refine blk_alloc ?_ _)); exact BK496.out) hb); have n1_ := Aside0.mk (blk_below (g := gb502) (o := .cells #[.int .i64 t499, .int .i64 t500] 25 (0, 0)) (by (with_reducible repeat (first | refine blk_drewN ?_ _ | refine blk_drew ?_ | refine blk_alloc ?_ _)); exact BK502.out) hb); have n2_ := Aside0.mk (blk_below (g := gb506) (o := .cells #[.int .i64 x507000_23, .int .i64 x507001_23] 25 (0, 0)) (by (with_reducible repeat (first | refine blk_drewN ?_ _ | refine blk_drew ?_ | refine blk_alloc ?_ _)); exact BK506.out) hb); have n3_ := Aside0.mk (below_step (by repeat (first | (with_reducible first | exact HB.out | apply below_alloc | apply pw_below_drewN | apply below_drew1 | refine below_set ?_ GE496.out | refine below_set ?_ GE502.out | refine below_set ?_ GE506.out) | exact HB.out)) hb); clear BK496; clear BK502; clear BK506; clear HB; have BK496 := n0_; have BK502 := n1_; have BK506 := n2_; have HB := n3_; clear n0_ n1_ n2_ n3_; (try clear hb); (try clear hb2); (try clear hk); (try clear hi)) | ((with_reducible refine gate_dst (N := 9) rfl ?_); (try (refine gate_guard (by rfl) ?_; dsimp only)); refine box_event ?hg (N := 9) ?hd (cs := #[.int .i64 0, .int .i64 0]) (t := 25) ?hr ?_; (case hd => rfl); (case hg => rfl); (case hr => first | (go_simp; done) | (go_simp; rfl)); intro gb520 hg w104 hbox hb; have n0_ := Aside0.mk (blk_below (g := gb496) (o := .cells #[.string a1_0, .int .i64 a1_1, .int .i64 a1_2] 51 (0, 0)) (by (with_reducible repeat (first | refine blk_drewN ?_ _ | refine blk_drew ?_ | refine blk_alloc ?_ _)); exact BK496.out) hb); have n1_ := Aside0.mk (blk_below (g := gb502) (o := .cells #[.int .i64 t499, .int .i64 t500] 25 (0, 0)) (by (with_reducible repeat (first | refine blk_drewN ?_ _ | refine blk_drew ?_ | refine blk_alloc ?_ _)); exact BK502.out) hb); have n2_ := Aside0.mk (blk_below (g := gb506) (o := .cells #[.int .i64 x507000_23, .int .i64 x507001_23] 25 (0, 0)) (by (with_reducible repeat (first | refine blk_drewN ?_ _ | refine blk_drew ?_ | refine blk_alloc ?_ _)); exact BK506.out) hb); have n3_ := Aside0.mk (below_step (by repeat (first | (with_reducible first | exact HB.out | apply below_alloc | apply pw_below_drewN | apply below_drew1 | refine below_set ?_ GE496.out | refine below_set ?_ GE502.out | refine below_set ?_ GE506.out) | exact HB.out)) hb); have n4_ := Aside0.mk (hbox); have n5_ := Aside0.mk ((by rw [hg]; exact (below_size (by repeat (first | (with_reducible first | exact HB.out | apply below_alloc | apply pw_below_drewN | apply below_drew1 | refine below_set ?_ GE496.out | refine below_set ?_ GE502.out | refine below_set ?_ GE506.out) | exact HB.out))) : w.heap.size ≤ gb520)); have n6_ := Aside0.mk ((by rw [hg]; exact (below_size (by repeat (first | (with_reducible first | exact HB.out | apply below_alloc | apply pw_below_drewN | apply below_drew1 | refine below_set ?_ GE496.out | refine below_set ?_ GE502.out | refine below_set ?_ GE506.out) | exact HB.out))) : w.heap.size ≤ gb520)); have n7_ := Aside0.mk ((by rw [hg]; exact Nat.ne_of_lt (blk_lt (g := gb496) (o := .cells #[.string a1_0, .int .i64 a1_1, .int .i64 a1_2] 51 (0, 0)) (by (with_reducible repeat (first | refine blk_drewN ?_ _ | refine blk_drew ?_ | refine blk_alloc ?_ _)); exact BK496.out)) : gb496 ≠ gb520)); have n8_ := Aside0.mk ((by rw [hg]; exact Nat.ne_of_gt (blk_lt (g := gb496) (o := .cells #[.string a1_0, .int .i64 a1_1, .int .i64 a1_2] 51 (0, 0)) (by (with_reducible repeat (first | refine blk_drewN ?_ _ | refine blk_drew ?_ | refine blk_alloc ?_ _)); exact BK496.out)) : gb520 ≠ gb496)); have n9_ := Aside0.mk ((by rw [hg]; exact Nat.ne_of_lt (blk_lt (g := gb502) (o := .cells #[.int .i64 t499, .int .i64 t500] 25 (0, 0)) (by (with_reducible repeat (first | refine blk_drewN ?_ _ | refine blk_drew ?_ | refine blk_alloc ?_ _)); exact BK502.out)) : gb502 ≠ gb520)); have n10_ := Aside0.mk ((by rw [hg]; exact Nat.ne_of_gt (blk_lt (g := gb502) (o := .cells #[.int .i64 t499, .int .i64 t500] 25 (0, 0)) (by (with_reducible repeat (first | refine blk_drewN ?_ _ | refine blk_drew ?_ | refine blk_alloc ?_ _)); exact BK502.out)) : gb520 ≠ gb502)); have n11_ := Aside0.mk ((by rw [hg]; exact Nat.ne_of_lt (blk_lt (g := gb506) (o := .cells #[.int .i64 x507000_23, .int .i64 x507001_23] 25 (0, 0)) (by (with_reducible repeat (first | refine blk_drewN ?_ _ | refine blk_drew ?_ | refine blk_alloc ?_ _)); exact BK506.out)) : gb506 ≠ gb520)); have n12_ := Aside0.mk ((by rw [hg]; exact Nat.ne_of_gt (blk_lt (g := gb506) (o := .cells #[.int .i64 x507000_23, .int .i64 x507001_23] 25 (0, 0)) (by (with_reducible repeat (first | refine blk_drewN ?_ _ | refine blk_drew ?_ | refine blk_alloc ?_ _)); exact BK506.out)) : gb520 ≠ gb506)); clear BK496; clear BK502; clear BK506; clear HB; have BK496 := n0_; have BK502 := n1_; have BK506 := n2_; have HB := n3_; have BK520 := n4_; have GW520 := n5_; have GE520 := n6_; have NB496_520 := n7_; have NB520_496 := n8_; have NB502_520 := n9_; have NB520_502 := n10_; have NB506_520 := n11_; have NB520_506 := n12_; clear n0_ n1_ n2_ n3_ n4_ n5_ n6_ n7_ n8_ n9_ n10_ n11_ n12_; clear hb hbox hg; have hnb105 := NB520_496.out; have hnc105 := NB496_520.out; have hnb106 := NB520_502.out; have hnc106 := NB502_520.out; have hnb107 := NB520_506.out; have hnc107 := NB506_520.out; have hcz108_0 : w104.cell? ⟨gb520, 0, none⟩ = some (.int .i64 0) := (blk_cell BK520.out 0).trans rfl; have hcz108_1 : w104.cell? ⟨gb520, 1, none⟩ = some (.int .i64 0) := (blk_cell BK520.out 1).trans rfl; have hfz108_0 := blk_frozen BK520.out 0; have hfz108_1 := blk_frozen BK520.out 1; have hcz109_0 : w104.cell? ⟨gb496, 0, none⟩ = some (.string a1_0) := (blk_cell BK496.out 0).trans rfl; have hcz109_1 : w104.cell? ⟨gb496, 1, none⟩ = some (.int .i64 a1_1) := (blk_cell BK496.out 1).trans rfl; have hcz109_2 : w104.cell? ⟨gb496, 2, none⟩ = some (.int .i64 a1_2) := (blk_cell BK496.out 2).trans rfl; have hfz109_0 := blk_frozen BK496.out 0; have hfz109_1 := blk_frozen BK496.out 1; have hfz109_2 := blk_frozen BK496.out 2) | (go_at_call 66; (with_reducible refine (metrolabref17_In.calls a1_2 false _ A87.out).mono ?_); rintro e w' ⟨rfl, ⟨nd, rfl⟩⟩) | (go_at_call 34; (with_reducible refine (metrolablaw52_awake.calls kj36  t523 _ A99.out).mono ?_); rintro e w110 ⟨rfl, hb⟩; have n0_ := Aside0.mk (blk_below (g := gb496) (o := .cells #[.string a1_0, .int .i64 a1_1, .int .i64 a1_2] 51 (0, 0)) (by (with_reducible repeat (first | refine blk_drewN ?_ _ | refine blk_drew ?_ | refine blk_alloc ?_ _)); refine blk_far ?_ NB496_520.out _; (with_reducible repeat (first | refine blk_drewN ?_ _ | refine blk_drew ?_ | refine blk_alloc ?_ _)); refine blk_far ?_ NB496_520.out _; (with_reducible repeat (first | refine blk_drewN ?_ _ | refine blk_drew ?_ | refine blk_alloc ?_ _)); exact BK496.out) hb); have n1_ := Aside0.mk (blk_below (g := gb502) (o := .cells #[.int .i64 t499, .int .i64 t500] 25 (0, 0)) (by (with_reducible repeat (first | refine blk_drewN ?_ _ | refine blk_drew ?_ | refine blk_alloc ?_ _)); refine blk_far ?_ NB502_520.out _; (with_reducible repeat (first | refine blk_drewN ?_ _ | refine blk_drew ?_ | refine blk_alloc ?_ _)); refine blk_far ?_ NB502_520.out _; (with_reducible repeat (first | refine blk_drewN ?_ _ | refine blk_drew ?_ | refine blk_alloc ?_ _)); exact BK502.out) hb); have n2_ := Aside0.mk (blk_below (g := gb506) (o := .cells #[.int .i64 x507000_23, .int .i64 x507001_23] 25 (0, 0)) (by (with_reducible repeat (first | refine blk_drewN ?_ _ | refine blk_drew ?_ | refine blk_alloc ?_ _)); refine blk_far ?_ NB506_520.out _; (with_reducible repeat (first | refine blk_drewN ?_ _ | refine blk_drew ?_ | refine blk_alloc ?_ _)); refine blk_far ?_ NB506_520.out _; (with_reducible repeat (first | refine blk_drewN ?_ _ | refine blk_drew ?_ | refine blk_alloc ?_ _)); exact BK506.out) hb); have n3_ := Aside0.mk (blk_below (g := gb520) (o := .cells #[.int .i64 t517, .int .i64 t518] 25 (0, 0)) (by (with_reducible repeat (first | refine blk_drewN ?_ _ | refine blk_drew ?_ | refine blk_alloc ?_ _)); refine blk_put (cs := #[.int .i64 t517, .int .i64 0]) ?_ 1 _ rfl; (with_reducible repeat (first | refine blk_drewN ?_ _ | refine blk_drew ?_ | refine blk_alloc ?_ _)); refine blk_put (cs := #[.int .i64 0, .int .i64 0]) ?_ 0 _ rfl; (with_reducible repeat (first | refine blk_drewN ?_ _ | refine blk_drew ?_ | refine blk_alloc ?_ _)); exact BK520.out) hb); have n4_ := Aside0.mk (below_step (by repeat (first | (with_reducible first | exact HB.out | apply below_alloc | apply pw_below_drewN | apply below_drew1 | refine below_set ?_ GE496.out | refine below_set ?_ GE502.out | refine below_set ?_ GE506.out | refine below_set ?_ GE520.out) | exact HB.out)) hb); clear BK496; clear BK502; clear BK506; clear BK520; clear HB; have BK496 := n0_; have BK502 := n1_; have BK506 := n2_; have BK520 := n3_; have HB := n4_; clear n0_ n1_ n2_ n3_ n4_; (try clear hb); (try clear hb2); (try clear hk); (try clear hi)))
                                go_ret
                                exact ⟨by first | rfl | (simp [errW_none, errW_some] <;> rfl) | (simp [*, errW_none, errW_some] <;> rfl), by repeat (first | (with_reducible first | exact HB.out | apply below_alloc | apply pw_below_drewN | apply below_drew1 | refine below_set ?_ GE496.out | refine below_set ?_ GE502.out | refine below_set ?_ GE506.out | refine below_set ?_ GE520.out) | exact HB.out)⟩
                            · rw [if_neg c86] at H
                              have c86b0 : (t519 == 2) = false := beq_eq_false_iff_ne.mpr c86
                              have c86b1 : (t519 != 2) = true := bne_iff_ne.mpr c86
                              obtain rfl := Option.some.inj H
                              have hnb111 := NB496_502.out
                              have hnc111 := NB502_496.out
                              have hnb112 := NB496_506.out
                              have hnc112 := NB506_496.out
                              have hcz113_0 : wc.cell? ⟨gb496, 0, none⟩ = some (.string a1_0) := (blk_cell BK496.out 0).trans rfl
                              have hcz113_1 : wc.cell? ⟨gb496, 1, none⟩ = some (.int .i64 a1_1) := (blk_cell BK496.out 1).trans rfl
                              have hcz113_2 : wc.cell? ⟨gb496, 2, none⟩ = some (.int .i64 a1_2) := (blk_cell BK496.out 2).trans rfl
                              have hfz113_0 := blk_frozen BK496.out 0
                              have hfz113_1 := blk_frozen BK496.out 1
                              have hfz113_2 := blk_frozen BK496.out 2
                              go_wp2_with (first | ((with_reducible refine gate_callee (f := 63) rfl ?_); refine goesL_ (some 111) rfl rfl Try.func63 (by kernel_rfl) rfl #[.slice (some ad507) l0.length c0, .agg #[.string a1_0, .int .i64 a1_1, .int .i64 a1_2]] rfl (by (try simp only [List.map_toArray, List.map_cons, List.map_nil]); first | done | rfl | (simp only [List.length_drop, List.length_take]; rfl)) ?_; (with_reducible refine (calibrate_Value.calls kj36 _ _ l0 a1_0 a1_1 a1_2 t517 t518 t519 _ ?side1 ?side2 A44.out).mono ?_); (case side1 => repeat (first | exact (Kd.C_below HR0.out HB.out) | (with_reducible refine Kd.C_alloc ?_ _) | (with_reducible refine Kd.C_drewN ?_ _) | (with_reducible refine Kd.C_drew ?_))); (case side2 => exact HC0.out); rintro e w114 ⟨rfl, hb⟩; refine ⟨_, rfl, ?_⟩; have n0_ := Aside0.mk (blk_below (g := gb496) (o := .cells #[.string a1_0, .int .i64 a1_1, .int .i64 a1_2] 51 (0, 0)) (by (with_reducible repeat (first | refine blk_drewN ?_ _ | refine blk_drew ?_ | refine blk_alloc ?_ _)); exact BK496.out) hb); have n1_ := Aside0.mk (blk_below (g := gb502) (o := .cells #[.int .i64 t499, .int .i64 t500] 25 (0, 0)) (by (with_reducible repeat (first | refine blk_drewN ?_ _ | refine blk_drew ?_ | refine blk_alloc ?_ _)); exact BK502.out) hb); have n2_ := Aside0.mk (blk_below (g := gb506) (o := .cells #[.int .i64 x507000_23, .int .i64 x507001_23] 25 (0, 0)) (by (with_reducible repeat (first | refine blk_drewN ?_ _ | refine blk_drew ?_ | refine blk_alloc ?_ _)); exact BK506.out) hb); have n3_ := Aside0.mk (below_step (by repeat (first | (with_reducible first | exact HB.out | apply below_alloc | apply pw_below_drewN | apply below_drew1 | refine below_set ?_ GE496.out | refine below_set ?_ GE502.out | refine below_set ?_ GE506.out) | exact HB.out)) hb); clear BK496; clear BK502; clear BK506; clear HB; have BK496 := n0_; have BK502 := n1_; have BK506 := n2_; have HB := n3_; clear n0_ n1_ n2_ n3_; (try clear hb); (try clear hb2); (try clear hk); (try clear hi)) | ((with_reducible refine gate_dst (N := 9) rfl ?_); (try (refine gate_guard (by rfl) ?_; dsimp only)); refine box_event ?hg (N := 9) ?hd (cs := #[.int .i64 0, .int .i64 0]) (t := 25) ?hr ?_; (case hd => rfl); (case hg => rfl); (case hr => first | (go_simp; done) | (go_simp; rfl)); intro gb520 hg w115 hbox hb; have n0_ := Aside0.mk (blk_below (g := gb496) (o := .cells #[.string a1_0, .int .i64 a1_1, .int .i64 a1_2] 51 (0, 0)) (by (with_reducible repeat (first | refine blk_drewN ?_ _ | refine blk_drew ?_ | refine blk_alloc ?_ _)); exact BK496.out) hb); have n1_ := Aside0.mk (blk_below (g := gb502) (o := .cells #[.int .i64 t499, .int .i64 t500] 25 (0, 0)) (by (with_reducible repeat (first | refine blk_drewN ?_ _ | refine blk_drew ?_ | refine blk_alloc ?_ _)); exact BK502.out) hb); have n2_ := Aside0.mk (blk_below (g := gb506) (o := .cells #[.int .i64 x507000_23, .int .i64 x507001_23] 25 (0, 0)) (by (with_reducible repeat (first | refine blk_drewN ?_ _ | refine blk_drew ?_ | refine blk_alloc ?_ _)); exact BK506.out) hb); have n3_ := Aside0.mk (below_step (by repeat (first | (with_reducible first | exact HB.out | apply below_alloc | apply pw_below_drewN | apply below_drew1 | refine below_set ?_ GE496.out | refine below_set ?_ GE502.out | refine below_set ?_ GE506.out) | exact HB.out)) hb); have n4_ := Aside0.mk (hbox); have n5_ := Aside0.mk ((by rw [hg]; exact (below_size (by repeat (first | (with_reducible first | exact HB.out | apply below_alloc | apply pw_below_drewN | apply below_drew1 | refine below_set ?_ GE496.out | refine below_set ?_ GE502.out | refine below_set ?_ GE506.out) | exact HB.out))) : w.heap.size ≤ gb520)); have n6_ := Aside0.mk ((by rw [hg]; exact (below_size (by repeat (first | (with_reducible first | exact HB.out | apply below_alloc | apply pw_below_drewN | apply below_drew1 | refine below_set ?_ GE496.out | refine below_set ?_ GE502.out | refine below_set ?_ GE506.out) | exact HB.out))) : w.heap.size ≤ gb520)); have n7_ := Aside0.mk ((by rw [hg]; exact Nat.ne_of_lt (blk_lt (g := gb496) (o := .cells #[.string a1_0, .int .i64 a1_1, .int .i64 a1_2] 51 (0, 0)) (by (with_reducible repeat (first | refine blk_drewN ?_ _ | refine blk_drew ?_ | refine blk_alloc ?_ _)); exact BK496.out)) : gb496 ≠ gb520)); have n8_ := Aside0.mk ((by rw [hg]; exact Nat.ne_of_gt (blk_lt (g := gb496) (o := .cells #[.string a1_0, .int .i64 a1_1, .int .i64 a1_2] 51 (0, 0)) (by (with_reducible repeat (first | refine blk_drewN ?_ _ | refine blk_drew ?_ | refine blk_alloc ?_ _)); exact BK496.out)) : gb520 ≠ gb496)); have n9_ := Aside0.mk ((by rw [hg]; exact Nat.ne_of_lt (blk_lt (g := gb502) (o := .cells #[.int .i64 t499, .int .i64 t500] 25 (0, 0)) (by (with_reducible repeat (first | refine blk_drewN ?_ _ | refine blk_drew ?_ | refine blk_alloc ?_ _)); exact BK502.out)) : gb502 ≠ gb520)); have n10_ := Aside0.mk ((by rw [hg]; exact Nat.ne_of_gt (blk_lt (g := gb502) (o := .cells #[.int .i64 t499, .int .i64 t500] 25 (0, 0)) (by (with_reducible repeat (first | refine blk_drewN ?_ _ | refine blk_drew ?_ | refine blk_alloc ?_ _)); exact BK502.out)) : gb520 ≠ gb502)); have n11_ := Aside0.mk ((by rw [hg]; exact Nat.ne_of_lt (blk_lt (g := gb506) (o := .cells #[.int .i64 x507000_23, .int .i64 x507001_23] 25 (0, 0)) (by (with_reducible repeat (first | refine blk_drewN ?_ _ | refine blk_drew ?_ | refine blk_alloc ?_ _)); exact BK506.out)) : gb506 ≠ gb520)); have n12_ := Aside0.mk ((by rw [hg]; exact Nat.ne_of_gt (blk_lt (g := gb506) (o := .cells #[.int .i64 x507000_23, .int .i64 x507001_23] 25 (0, 0)) (by (with_reducible repeat (first | refine blk_drewN ?_ _ | refine blk_drew ?_ | refine blk_alloc ?_ _)); exact BK506.out)) : gb520 ≠ gb506)); clear BK496; clear BK502; clear BK506; clear HB; have BK496 := n0_; have BK502 := n1_; have BK506 := n2_; have HB := n3_; have BK520 := n4_; have GW520 := n5_; have GE520 := n6_; have NB496_520 := n7_; have NB520_496 := n8_; have NB502_520 := n9_; have NB520_502 := n10_; have NB506_520 := n11_; have NB520_506 := n12_; clear n0_ n1_ n2_ n3_ n4_ n5_ n6_ n7_ n8_ n9_ n10_ n11_ n12_; clear hb hbox hg; have hnb116 := NB520_496.out; have hnc116 := NB496_520.out; have hnb117 := NB520_502.out; have hnc117 := NB502_520.out; have hnb118 := NB520_506.out; have hnc118 := NB506_520.out; have hcz119_0 : w115.cell? ⟨gb520, 0, none⟩ = some (.int .i64 0) := (blk_cell BK520.out 0).trans rfl; have hcz119_1 : w115.cell? ⟨gb520, 1, none⟩ = some (.int .i64 0) := (blk_cell BK520.out 1).trans rfl; have hfz119_0 := blk_frozen BK520.out 0; have hfz119_1 := blk_frozen BK520.out 1))
                              go_ret
                              exact ⟨by first | rfl | (simp [errW_none, errW_some] <;> rfl) | (simp [*, errW_none, errW_some] <;> rfl), by repeat (first | (with_reducible first | exact HB.out | apply below_alloc | apply pw_below_drewN | apply below_drew1 | refine below_set ?_ GE496.out | refine below_set ?_ GE502.out | refine below_set ?_ GE506.out | refine below_set ?_ GE520.out) | exact HB.out)⟩
              · rw [if_neg c23] at H
                exact absurd H (by simp)
            · rw [if_neg c22] at H
              exact absurd H (by simp)
    · rw [if_neg c6] at H
      have c6b0 : (t501 == 0) = false := beq_eq_false_iff_ne.mpr c6
      have c6b1 : (t501 != 0) = true := bne_iff_ne.mpr c6
      replace H := Option.bind_eq_some_iff.mp H
      obtain ⟨t503, A1200, H⟩ := H
      replace H : (some t503) = some r := H
      have A120 := Aside0.mk A1200
      clear A1200
      obtain rfl := Option.some.inj H
      go_enter Try.func16, Try.ntmps16
      go_wp2_with (first | ((with_reducible refine gate_dst (N := 3) rfl ?_); (try (refine gate_guard (by rfl) ?_; dsimp only)); refine box_event ?hg (N := 3) ?hd (cs := #[.string a1_0, .int .i64 a1_1, .int .i64 a1_2]) (t := 51) ?hr ?_; (case hd => rfl); (case hg => rfl); (case hr => first | (go_simp; done) | (go_simp; rfl)); intro gb496 hg w121 hbox hb; have n0_ := Aside0.mk (below_step (by repeat (first | (with_reducible first | exact HB.out | apply below_alloc | apply pw_below_drewN | apply below_drew1) | exact HB.out)) hb); have n1_ := Aside0.mk (hbox); have n2_ := Aside0.mk ((by rw [hg]; exact (below_size (by repeat (first | (with_reducible first | exact HB.out | apply below_alloc | apply pw_below_drewN | apply below_drew1) | exact HB.out))) : w.heap.size ≤ gb496)); have n3_ := Aside0.mk ((by rw [hg]; exact (below_size (by repeat (first | (with_reducible first | exact HB.out | apply below_alloc | apply pw_below_drewN | apply below_drew1) | exact HB.out))) : w.heap.size ≤ gb496)); clear HB; have HB := n0_; have BK496 := n1_; have GW496 := n2_; have GE496 := n3_; clear n0_ n1_ n2_ n3_; clear hb hbox hg; have hcz122_0 : w121.cell? ⟨gb496, 0, none⟩ = some (.string a1_0) := (blk_cell BK496.out 0).trans rfl; have hcz122_1 : w121.cell? ⟨gb496, 1, none⟩ = some (.int .i64 a1_1) := (blk_cell BK496.out 1).trans rfl; have hcz122_2 : w121.cell? ⟨gb496, 2, none⟩ = some (.int .i64 a1_2) := (blk_cell BK496.out 2).trans rfl; have hfz122_0 := blk_frozen BK496.out 0; have hfz122_1 := blk_frozen BK496.out 1; have hfz122_2 := blk_frozen BK496.out 2) | ((with_reducible refine gate_callee (f := 32) rfl ?_); refine goesL_ (some 13) rfl rfl Try.func32 (by kernel_rfl) rfl #[.slice A0 l0.length c0, .string a1_0] rfl (by (try simp only [List.map_toArray, List.map_cons, List.map_nil]); first | done | rfl | (simp only [List.length_drop, List.length_take]; rfl)) ?_; (with_reducible refine (metrolablaw52_few.calls k _ _ l0 a1_0 true _ ?side1 ?side2 A3.out).mono ?_); (case side1 => repeat (first | exact (Kd.C_below HR0.out HB.out) | (with_reducible refine Kd.C_alloc ?_ _) | (with_reducible refine Kd.C_drewN ?_ _) | (with_reducible refine Kd.C_drew ?_))); (case side2 => exact HC0.out); rintro e w123 ⟨rfl, hb⟩; refine ⟨_, rfl, ?_⟩; have n0_ := Aside0.mk (blk_below (g := gb496) (o := .cells #[.string a1_0, .int .i64 a1_1, .int .i64 a1_2] 51 (0, 0)) (by (with_reducible repeat (first | refine blk_drewN ?_ _ | refine blk_drew ?_ | refine blk_alloc ?_ _)); exact BK496.out) hb); have n1_ := Aside0.mk (below_step (by repeat (first | (with_reducible first | exact HB.out | apply below_alloc | apply pw_below_drewN | apply below_drew1 | refine below_set ?_ GE496.out) | exact HB.out)) hb); clear BK496; clear HB; have BK496 := n0_; have HB := n1_; clear n0_ n1_; (try clear hb); (try clear hb2); (try clear hk); (try clear hi); have hcz124_0 : w123.cell? ⟨gb496, 0, none⟩ = some (.string a1_0) := (blk_cell BK496.out 0).trans rfl; have hcz124_1 : w123.cell? ⟨gb496, 1, none⟩ = some (.int .i64 a1_1) := (blk_cell BK496.out 1).trans rfl; have hcz124_2 : w123.cell? ⟨gb496, 2, none⟩ = some (.int .i64 a1_2) := (blk_cell BK496.out 2).trans rfl; have hfz124_0 := blk_frozen BK496.out 0; have hfz124_1 := blk_frozen BK496.out 1; have hfz124_2 := blk_frozen BK496.out 2) | ((with_reducible refine gate_callee (f := 61) rfl ?_); refine goesL_ (some 22) rfl rfl Try.func61 (by kernel_rfl) rfl #[.slice A0 l0.length c0, .string a1_0, .int .i64 a1_1] rfl (by (try simp only [List.map_toArray, List.map_cons, List.map_nil]); first | done | rfl | (simp only [List.length_drop, List.length_take]; rfl)) ?_; (with_reducible refine (calibrate_Error.calls k _ _ l0 a1_0 a1_1 t499 t500 t501 _ ?side1 ?side2 A5.out).mono ?_); (case side1 => repeat (first | exact (Kd.C_below HR0.out HB.out) | (with_reducible refine Kd.C_alloc ?_ _) | (with_reducible refine Kd.C_drewN ?_ _) | (with_reducible refine Kd.C_drew ?_))); (case side2 => exact HC0.out); rintro e w125 ⟨rfl, hb⟩; refine ⟨_, rfl, ?_⟩; have n0_ := Aside0.mk (blk_below (g := gb496) (o := .cells #[.string a1_0, .int .i64 a1_1, .int .i64 a1_2] 51 (0, 0)) (by (with_reducible repeat (first | refine blk_drewN ?_ _ | refine blk_drew ?_ | refine blk_alloc ?_ _)); exact BK496.out) hb); have n1_ := Aside0.mk (below_step (by repeat (first | (with_reducible first | exact HB.out | apply below_alloc | apply pw_below_drewN | apply below_drew1 | refine below_set ?_ GE496.out) | exact HB.out)) hb); clear BK496; clear HB; have BK496 := n0_; have HB := n1_; clear n0_ n1_; (try clear hb); (try clear hb2); (try clear hk); (try clear hi)) | ((with_reducible refine gate_dst (N := 5) rfl ?_); (try (refine gate_guard (by rfl) ?_; dsimp only)); refine box_event ?hg (N := 5) ?hd (cs := #[.int .i64 0, .int .i64 0]) (t := 25) ?hr ?_; (case hd => rfl); (case hg => rfl); (case hr => first | (go_simp; done) | (go_simp; rfl)); intro gb502 hg w126 hbox hb; have n0_ := Aside0.mk (blk_below (g := gb496) (o := .cells #[.string a1_0, .int .i64 a1_1, .int .i64 a1_2] 51 (0, 0)) (by (with_reducible repeat (first | refine blk_drewN ?_ _ | refine blk_drew ?_ | refine blk_alloc ?_ _)); exact BK496.out) hb); have n1_ := Aside0.mk (below_step (by repeat (first | (with_reducible first | exact HB.out | apply below_alloc | apply pw_below_drewN | apply below_drew1 | refine below_set ?_ GE496.out) | exact HB.out)) hb); have n2_ := Aside0.mk (hbox); have n3_ := Aside0.mk ((by rw [hg]; exact (below_size (by repeat (first | (with_reducible first | exact HB.out | apply below_alloc | apply pw_below_drewN | apply below_drew1 | refine below_set ?_ GE496.out) | exact HB.out))) : w.heap.size ≤ gb502)); have n4_ := Aside0.mk ((by rw [hg]; exact (below_size (by repeat (first | (with_reducible first | exact HB.out | apply below_alloc | apply pw_below_drewN | apply below_drew1 | refine below_set ?_ GE496.out) | exact HB.out))) : w.heap.size ≤ gb502)); have n5_ := Aside0.mk ((by rw [hg]; exact Nat.ne_of_lt (blk_lt (g := gb496) (o := .cells #[.string a1_0, .int .i64 a1_1, .int .i64 a1_2] 51 (0, 0)) (by (with_reducible repeat (first | refine blk_drewN ?_ _ | refine blk_drew ?_ | refine blk_alloc ?_ _)); exact BK496.out)) : gb496 ≠ gb502)); have n6_ := Aside0.mk ((by rw [hg]; exact Nat.ne_of_gt (blk_lt (g := gb496) (o := .cells #[.string a1_0, .int .i64 a1_1, .int .i64 a1_2] 51 (0, 0)) (by (with_reducible repeat (first | refine blk_drewN ?_ _ | refine blk_drew ?_ | refine blk_alloc ?_ _)); exact BK496.out)) : gb502 ≠ gb496)); clear BK496; clear HB; have BK496 := n0_; have HB := n1_; have BK502 := n2_; have GW502 := n3_; have GE502 := n4_; have NB496_502 := n5_; have NB502_496 := n6_; clear n0_ n1_ n2_ n3_ n4_ n5_ n6_; clear hb hbox hg; have hnb127 := NB502_496.out; have hnc127 := NB496_502.out; have hcz128_0 : w126.cell? ⟨gb502, 0, none⟩ = some (.int .i64 0) := (blk_cell BK502.out 0).trans rfl; have hcz128_1 : w126.cell? ⟨gb502, 1, none⟩ = some (.int .i64 0) := (blk_cell BK502.out 1).trans rfl; have hfz128_0 := blk_frozen BK502.out 0; have hfz128_1 := blk_frozen BK502.out 1) | ((with_reducible refine gate_callee (f := 34) rfl ?_); refine goesL_ (some 27) rfl rfl Try.func34 (by kernel_rfl) rfl #[] rfl (by (try simp only [List.map_toArray, List.map_cons, List.map_nil]); first | done | rfl | (simp only [List.length_drop, List.length_take]; rfl)) ?_; (with_reducible refine (metrolablaw52_awake.calls k  t503 _ A120.out).mono ?_); rintro e w129 ⟨rfl, hb⟩; refine ⟨_, rfl, ?_⟩; have n0_ := Aside0.mk (blk_below (g := gb496) (o := .cells #[.string a1_0, .int .i64 a1_1, .int .i64 a1_2] 51 (0, 0)) (by (with_reducible repeat (first | refine blk_drewN ?_ _ | refine blk_drew ?_ | refine blk_alloc ?_ _)); refine blk_far ?_ NB496_502.out _; (with_reducible repeat (first | refine blk_drewN ?_ _ | refine blk_drew ?_ | refine blk_alloc ?_ _)); refine blk_far ?_ NB496_502.out _; (with_reducible repeat (first | refine blk_drewN ?_ _ | refine blk_drew ?_ | refine blk_alloc ?_ _)); exact BK496.out) hb); have n1_ := Aside0.mk (blk_below (g := gb502) (o := .cells #[.int .i64 t499, .int .i64 t500] 25 (0, 0)) (by (with_reducible repeat (first | refine blk_drewN ?_ _ | refine blk_drew ?_ | refine blk_alloc ?_ _)); refine blk_put (cs := #[.int .i64 t499, .int .i64 0]) ?_ 1 _ rfl; (with_reducible repeat (first | refine blk_drewN ?_ _ | refine blk_drew ?_ | refine blk_alloc ?_ _)); refine blk_put (cs := #[.int .i64 0, .int .i64 0]) ?_ 0 _ rfl; (with_reducible repeat (first | refine blk_drewN ?_ _ | refine blk_drew ?_ | refine blk_alloc ?_ _)); exact BK502.out) hb); have n2_ := Aside0.mk (below_step (by repeat (first | (with_reducible first | exact HB.out | apply below_alloc | apply pw_below_drewN | apply below_drew1 | refine below_set ?_ GE496.out | refine below_set ?_ GE502.out) | exact HB.out)) hb); clear BK496; clear BK502; clear HB; have BK496 := n0_; have BK502 := n1_; have HB := n2_; clear n0_ n1_ n2_; (try clear hb); (try clear hb2); (try clear hk); (try clear hi)))
      go_ret
      exact ⟨by first | rfl | (simp [errW_none, errW_some] <;> rfl) | (simp [*, errW_none, errW_some] <;> rfl), by repeat (first | (with_reducible first | exact HB.out | apply below_alloc | apply pw_below_drewN | apply below_drew1 | refine below_set ?_ GE496.out | refine below_set ?_ GE502.out) | exact HB.out)⟩
  · replace c4 := Bool.eq_false_iff.mpr c4
    subst c4
    have H1 : ((metrolablaw52_awake.f k).bind fun t498 => (some t498)) = some r := by rw [if_neg (show ¬ (false = true) by decide)] at H; exact H
    clear H
    have H := H1
    clear H1
    replace H := Option.bind_eq_some_iff.mp H
    obtain ⟨t498, A1300, H⟩ := H
    replace H : (some t498) = some r := H
    have A130 := Aside0.mk A1300
    clear A1300
    obtain rfl := Option.some.inj H
    go_enter Try.func16, Try.ntmps16
    go_wp2_with (first | ((with_reducible refine gate_dst (N := 3) rfl ?_); (try (refine gate_guard (by rfl) ?_; dsimp only)); refine box_event ?hg (N := 3) ?hd (cs := #[.string a1_0, .int .i64 a1_1, .int .i64 a1_2]) (t := 51) ?hr ?_; (case hd => rfl); (case hg => rfl); (case hr => first | (go_simp; done) | (go_simp; rfl)); intro gb496 hg w131 hbox hb; have n0_ := Aside0.mk (below_step (by repeat (first | (with_reducible first | exact HB.out | apply below_alloc | apply pw_below_drewN | apply below_drew1) | exact HB.out)) hb); have n1_ := Aside0.mk (hbox); have n2_ := Aside0.mk ((by rw [hg]; exact (below_size (by repeat (first | (with_reducible first | exact HB.out | apply below_alloc | apply pw_below_drewN | apply below_drew1) | exact HB.out))) : w.heap.size ≤ gb496)); have n3_ := Aside0.mk ((by rw [hg]; exact (below_size (by repeat (first | (with_reducible first | exact HB.out | apply below_alloc | apply pw_below_drewN | apply below_drew1) | exact HB.out))) : w.heap.size ≤ gb496)); clear HB; have HB := n0_; have BK496 := n1_; have GW496 := n2_; have GE496 := n3_; clear n0_ n1_ n2_ n3_; clear hb hbox hg; have hcz132_0 : w131.cell? ⟨gb496, 0, none⟩ = some (.string a1_0) := (blk_cell BK496.out 0).trans rfl; have hcz132_1 : w131.cell? ⟨gb496, 1, none⟩ = some (.int .i64 a1_1) := (blk_cell BK496.out 1).trans rfl; have hcz132_2 : w131.cell? ⟨gb496, 2, none⟩ = some (.int .i64 a1_2) := (blk_cell BK496.out 2).trans rfl; have hfz132_0 := blk_frozen BK496.out 0; have hfz132_1 := blk_frozen BK496.out 1; have hfz132_2 := blk_frozen BK496.out 2) | ((with_reducible refine gate_callee (f := 32) rfl ?_); refine goesL_ (some 13) rfl rfl Try.func32 (by kernel_rfl) rfl #[.slice A0 l0.length c0, .string a1_0] rfl (by (try simp only [List.map_toArray, List.map_cons, List.map_nil]); first | done | rfl | (simp only [List.length_drop, List.length_take]; rfl)) ?_; (with_reducible refine (metrolablaw52_few.calls k _ _ l0 a1_0 false _ ?side1 ?side2 A3.out).mono ?_); (case side1 => repeat (first | exact (Kd.C_below HR0.out HB.out) | (with_reducible refine Kd.C_alloc ?_ _) | (with_reducible refine Kd.C_drewN ?_ _) | (with_reducible refine Kd.C_drew ?_))); (case side2 => exact HC0.out); rintro e w133 ⟨rfl, hb⟩; refine ⟨_, rfl, ?_⟩; have n0_ := Aside0.mk (blk_below (g := gb496) (o := .cells #[.string a1_0, .int .i64 a1_1, .int .i64 a1_2] 51 (0, 0)) (by (with_reducible repeat (first | refine blk_drewN ?_ _ | refine blk_drew ?_ | refine blk_alloc ?_ _)); exact BK496.out) hb); have n1_ := Aside0.mk (below_step (by repeat (first | (with_reducible first | exact HB.out | apply below_alloc | apply pw_below_drewN | apply below_drew1 | refine below_set ?_ GE496.out) | exact HB.out)) hb); clear BK496; clear HB; have BK496 := n0_; have HB := n1_; clear n0_ n1_; (try clear hb); (try clear hb2); (try clear hk); (try clear hi)) | ((with_reducible refine gate_callee (f := 34) rfl ?_); refine goesL_ (some 15) rfl rfl Try.func34 (by kernel_rfl) rfl #[] rfl (by (try simp only [List.map_toArray, List.map_cons, List.map_nil]); first | done | rfl | (simp only [List.length_drop, List.length_take]; rfl)) ?_; (with_reducible refine (metrolablaw52_awake.calls k  t498 _ A130.out).mono ?_); rintro e w134 ⟨rfl, hb⟩; refine ⟨_, rfl, ?_⟩; have n0_ := Aside0.mk (blk_below (g := gb496) (o := .cells #[.string a1_0, .int .i64 a1_1, .int .i64 a1_2] 51 (0, 0)) (by (with_reducible repeat (first | refine blk_drewN ?_ _ | refine blk_drew ?_ | refine blk_alloc ?_ _)); exact BK496.out) hb); have n1_ := Aside0.mk (below_step (by repeat (first | (with_reducible first | exact HB.out | apply below_alloc | apply pw_below_drewN | apply below_drew1 | refine below_set ?_ GE496.out) | exact HB.out)) hb); clear BK496; clear HB; have BK496 := n0_; have HB := n1_; clear n0_ n1_; (try clear hb); (try clear hb2); (try clear hk); (try clear hi)))
    go_ret
    exact ⟨by first | rfl | (simp [errW_none, errW_some] <;> rfl) | (simp [*, errW_none, errW_some] <;> rfl), by repeat (first | (with_reducible first | exact HB.out | apply below_alloc | apply pw_below_drewN | apply below_drew1 | refine below_set ?_ GE496.out) | exact HB.out)⟩
end Go.Proofs.Ytkgdlbepjmgaiaa.Cal
