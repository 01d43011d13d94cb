/- FeatureReturns: for every input the law returns true, and each argument reads behind the call as it read before: the row, out of the walk and the plain law. No condition. -/
import Derived.Test.YtkgdlbepjmgaiaaProg
import Derived.WalkKit
import Derived.ProofKit
import Derived.ChangeArms
import Derived.SizedLaws
import Derived.Test.YtkgdlbepjmgaiaaRows
import Derived.OpenShut
import Derived.ShutString
import Derived.ChangeOld
import Derived.Below
import Derived.Test.YtkgdlbepjmgaiaaZReturns6
namespace Go.Proofs.Ytkgdlbepjmgaiaa.Fea
open Go.RowKit Go.Proofs.YtkgdlbepjmgaiaaW.PrintWords Go.Proofs.YtkgdlbepjmgaiaaW.PrintLast Go.Proofs.YtkgdlbepjmgaiaaW.PrintMore
attribute [local go_sem] max2_int min2_int max_two min_two max_three min_three max_four min_four
set_option linter.unusedVariables false
set_option linter.unusedSimpArgs false
def metrolablaw18_FeatureReturns.j0 : Nat → Bool → ByteArray → Int → Int → Int → Int → Int → Int → Int → List (S104) → Int → Int → Int → Option (Bool)
  | 0, _, _, _, _, _, _, _, _, _, _, _, _, _ => none
  | k + 1, x64, x492000, x492001, x492002, x492003, x492004, x492005, x492006, x492007, x492008, x493000, x493001, x493002 => if x64 = true then (some false) else ((feature_Move.f x492000 x492001 x492002 x492003 x492004 x492005 x492006 x492007 x492008 x493000 x493001 x493002).bind fun bt536 => (if bt536.2.2.2.2.2.2.2.2.2 = 0 then ((feature_Move.f bt536.1 bt536.2.1 bt536.2.2.1 bt536.2.2.2.1 bt536.2.2.2.2.1 bt536.2.2.2.2.2.1 bt536.2.2.2.2.2.2.1 bt536.2.2.2.2.2.2.2.1 bt536.2.2.2.2.2.2.2.2.1 (wrap64 (-x493000)) (wrap64 (-x493001)) (wrap64 (-x493002))).bind fun bt549 => (if bt549.2.2.2.2.2.2.2.2.2 = 0 then ((metrolabref18_Same.f k bt549.1 bt549.2.1 bt549.2.2.1 bt549.2.2.2.1 bt549.2.2.2.2.1 bt549.2.2.2.2.2.1 bt549.2.2.2.2.2.2.1 bt549.2.2.2.2.2.2.2.1 bt549.2.2.2.2.2.2.2.2.1 x492000 x492001 x492002 x492003 x492004 x492005 x492006 x492007 x492008).bind fun t562 => (if t562 = true then ((metrolablaw18_awake.f).bind fun t563 => (some t563)) else (some false))) else (some false))) else (if bt536.2.2.2.2.2.2.2.2.2 = 2 then ((metrolablaw18_awake.f).bind fun t564 => (some t564)) else (some false))))
def metrolablaw18_FeatureReturns.c (k : Nat) (t496 : ByteArray) (t497 : Int) (t498 : Int) (t499 : Int) (t500 : Int) (t501 : Int) (t502 : Int) (t503 : Int) (t504 : List (S104)) (a0_0 : ByteArray) (a0_1 : Int) (a0_2 : Int) (a0_3 : Int) (a0_4 : Int) (a0_5 : Int) (a0_6 : Int) (a0_7 : Int) (l0_8 : List (S104)) (a1_0 : Int) (a1_1 : Int) (a1_2 : Int) (a2 : Int) : Option Bool := (feature_Mirror.f a0_0 a0_1 a0_2 a0_3 a0_4 a0_5 a0_6 a0_7 l0_8 (Int.tmod (wrap64 (a2)) 3)).bind fun bt508 => ((feature_Mirror.f bt508.1 bt508.2.1 bt508.2.2.1 bt508.2.2.2.1 bt508.2.2.2.2.1 bt508.2.2.2.2.2.1 bt508.2.2.2.2.2.2.1 bt508.2.2.2.2.2.2.2.1 bt508.2.2.2.2.2.2.2.2.1 (Int.tmod (wrap64 (a2)) 3)).bind fun bt521 => (if (wrap64 (bt508.2.2.2.2.2.2.2.2.2 + bt521.2.2.2.2.2.2.2.2.2)) = 0 then ((metrolabref18_Same.f k t496 t497 t498 t499 t500 t501 t502 t503 t504 a0_0 a0_1 a0_2 a0_3 a0_4 a0_5 a0_6 a0_7 l0_8).bind fun t534 => (if t534 = true then ((metrolabref18_Same.f k bt521.1 bt521.2.1 bt521.2.2.1 bt521.2.2.2.1 bt521.2.2.2.2.1 bt521.2.2.2.2.2.1 bt521.2.2.2.2.2.2.1 bt521.2.2.2.2.2.2.2.1 bt521.2.2.2.2.2.2.2.2.1 a0_0 a0_1 a0_2 a0_3 a0_4 a0_5 a0_6 a0_7 l0_8).bind fun t535 => (metrolablaw18_FeatureReturns.j0 k (!t535) a0_0 a0_1 a0_2 a0_3 a0_4 a0_5 a0_6 a0_7 l0_8 a1_0 a1_1 a1_2)) else (metrolablaw18_FeatureReturns.j0 k true a0_0 a0_1 a0_2 a0_3 a0_4 a0_5 a0_6 a0_7 l0_8 a1_0 a1_1 a1_2))) else (metrolablaw18_FeatureReturns.j0 k true a0_0 a0_1 a0_2 a0_3 a0_4 a0_5 a0_6 a0_7 l0_8 a1_0 a1_1 a1_2)))
def metrolablaw18_FeatureReturns.L (k : Nat) : Nat → ByteArray → Int → Int → Int → Int → Int → Int → Int → List S104 → ByteArray → Int → Int → Int → Int → Int → Int → Int → List S104 → Int → Int → Int → Int → Option Bool
  | 0, t496, t497, t498, t499, t500, t501, t502, t503, t504, a0_0, a0_1, a0_2, a0_3, a0_4, a0_5, a0_6, a0_7, l0_8, a1_0, a1_1, a1_2, a2 => metrolablaw18_FeatureReturns.c k t496 t497 t498 t499 t500 t501 t502 t503 t504 a0_0 a0_1 a0_2 a0_3 a0_4 a0_5 a0_6 a0_7 l0_8 a1_0 a1_1 a1_2 a2
  | n + 1, t496, t497, t498, t499, t500, t501, t502, t503, t504, a0_0, a0_1, a0_2, a0_3, a0_4, a0_5, a0_6, a0_7, l0_8, a1_0, a1_1, a1_2, a2 => (feature_Turn.f t496 t497 t498 t499 t500 t501 t502 t503 t504 (Int.tmod (wrap64 (a2)) 3)).bind fun bt => (if bt.2.2.2.2.2.2.2.2.2 = 0 then (metrolablaw18_FeatureReturns.L k n bt.1 bt.2.1 bt.2.2.1 bt.2.2.2.1 bt.2.2.2.2.1 bt.2.2.2.2.2.1 bt.2.2.2.2.2.2.1 bt.2.2.2.2.2.2.2.1 bt.2.2.2.2.2.2.2.2.1 a0_0 a0_1 a0_2 a0_3 a0_4 a0_5 a0_6 a0_7 l0_8 a1_0 a1_1 a1_2 a2) else (some false))
def metrolablaw18_FeatureReturns.f (k : Nat) (a0_0 : ByteArray) (a0_1 : Int) (a0_2 : Int) (a0_3 : Int) (a0_4 : Int) (a0_5 : Int) (a0_6 : Int) (a0_7 : Int) (l0_8 : List (S104)) (a1_0 : Int) (a1_1 : Int) (a1_2 : Int) (a2 : Int) : Option Bool := (metrolablaw18_right.f k a0_0 a0_1 a0_2 a0_3 a0_4 a0_5 a0_6 a0_7 l0_8).bind fun t493 => (if t493 = true then (metrolablaw18_FeatureReturns.L k 4 a0_0 a0_1 a0_2 a0_3 a0_4 a0_5 a0_6 a0_7 l0_8 a0_0 a0_1 a0_2 a0_3 a0_4 a0_5 a0_6 a0_7 l0_8 a1_0 a1_1 a1_2 a2) else ((metrolablaw18_awake.f).bind fun t494 => (some t494)))
theorem metrolablaw18_FeatureReturns.mono_l : ∀ k, (∀ y0 y1 y2 y3 y4 y5 y6 y7 y8 y9 y10 y11 y12, LeO (metrolablaw18_FeatureReturns.j0 k y0 y1 y2 y3 y4 y5 y6 y7 y8 y9 y10 y11 y12) (metrolablaw18_FeatureReturns.j0 (k + 1) y0 y1 y2 y3 y4 y5 y6 y7 y8 y9 y10 y11 y12))
 | 0 => fun _ _ _ _ _ _ _ _ _ _ _ _ _ r h => by simp [metrolablaw18_FeatureReturns.j0] at h
 | k + 1 => by
  have ih0:=metrolablaw18_FeatureReturns.mono_l k
  ·intro y0 y1 y2 y3 y4 y5 y6 y7 y8 y9 y10 y11 y12
   unfold metrolablaw18_FeatureReturns.j0
   repeat' first
   | (with_reducible exact ih0 _ _ _ _ _ _ _ _ _ _ _ _ _)
   | (with_reducible exact metrolablaw18_right.mono _ _ _ _ _ _ _ _ _ _)
   | (with_reducible exact metrolabref18_Same.mono _ _ _ _ _ _ _ _ _ _ _ _ _ _ _ _ _ _ _)
   | (with_reducible exact LeO.refl _)
   | (with_reducible exact LeO.none _)
   | (with_reducible refine LeO.ite ?_ ?_)
   | (with_reducible refine LeO.bind ?_ (fun _ => ?_))
   | exact ih0 _ _ _ _ _ _ _ _ _ _ _ _ _
   | exact metrolablaw18_right.mono _ _ _ _ _ _ _ _ _ _
   | exact metrolabref18_Same.mono _ _ _ _ _ _ _ _ _ _ _ _ _ _ _ _ _ _ _
   | exact LeO.none _
   | refine LeO.ite ?_ ?_
   | refine LeO.bind ?_ (fun _ => ?_)
theorem ret_dead {k : Nat} {n1 : ByteArray} {y1 y2 y3 y4 y5 y6 y7 z1 z2 z3 : Int} {m1 : List S104} {r : Bool} (h : metrolablaw18_FeatureReturns.j0 k true n1 y1 y2 y3 y4 y5 y6 y7 m1 z1 z2 z3 = some r) (hr : r = true) : False := by
 cases k with
 | zero => simp [metrolablaw18_FeatureReturns.j0] at h
 | succ k =>
  rw [metrolablaw18_FeatureReturns.j0,if_pos rfl] at h
  have:=(Option.some.inj h).trans hr
  cases this
set_option maxHeartbeats 8000000 in
set_option maxRecDepth 100000 in
theorem metrolablaw18_FeatureReturns.calls (k : Nat) (a0_0 : ByteArray) (a0_1 : Int) (a0_2 : Int) (a0_3 : Int) (a0_4 : Int) (a0_5 : Int) (a0_6 : Int) (a0_7 : Int) (A0_8 : Option Addr) (c0_8 : Nat) (l0_8 : List (S104)) (a1_0 : Int) (a1_1 : Int) (a1_2 : Int) (a2 : Int) (r : Bool) (w : World) (hr0_8 : Kd.C k104 w A0_8 l0_8.length l0_8) (hc0_8 : l0_8.length ≤ c0_8) (hrt : r = true) (h : metrolablaw18_FeatureReturns.f k a0_0 a0_1 a0_2 a0_3 a0_4 a0_5 a0_6 a0_7 l0_8 a1_0 a1_1 a1_2 a2 = some r) :
 Calls Try.prog 11 #[.agg #[.string a0_0,.int .i64 a0_1,.int .i64 a0_2,.int .i64 a0_3,.int .i64 a0_4,.int .i64 a0_5,.int .i64 a0_6,.int .i64 a0_7,.slice A0_8 l0_8.length c0_8],.agg #[.int .i64 a1_0,.int .i64 a1_1,.int .i64 a1_2],.int .u8 a2] w fun e w'=>e = .returned (.bool r) ∧ Below w.heap.size w w':=by
 have HRT:=zm hrt
 clear hrt
 have hu28:=Try.underlying28
 have hu23:=Try.underlying23
 have HR0_8:=zm hr0_8
 have HC0_8:=zm hc0_8
 clear hr0_8 hc0_8
 have HB:=zm (Below.refl w.heap.size w)
 unfold metrolablaw18_FeatureReturns.f at h
 have H:=h
 clear h
 replace H:=Option.bind_eq_some_iff.mp H
 obtain ⟨t493,A40,H⟩:=H
 have A4:=zm A40
 clear A40
 by_cases c5 : t493 = true
 ·subst c5
  rw [if_pos rfl] at H
  have HL:=zm H
  clear H
  go_enter Try.func11,Try.ntmps11
  go_upto_region 5 with (first|((with_reducible refine gate_dst (N:=3) rfl ?_);refine box_event ?hg (N:=3) ?hd (cs:=#[.string a0_0,.int .i64 a0_1,.int .i64 a0_2,.int .i64 a0_3,.int .i64 a0_4,.int .i64 a0_5,.int .i64 a0_6,.int .i64 a0_7,.slice A0_8 l0_8.length c0_8]) (t:=28) ?hr ?_;(case hd=>rfl);(case hg=>rfl);(case hr=>first|(go_simp;done)|(go_simp;rfl));intro gb491 hg w11 hbox hb;have n0_:=zm (below_step (by repeat (first|(with_reducible first|exact HB.out|apply zA|apply zD|apply zE)|exact HB.out)) hb);have n1_:=zm (hbox);have n2_:=zm ((by rw [hg];exact (below_size (by repeat (first|(with_reducible first|exact HB.out|apply zA|apply zD|apply zE)|exact HB.out))) : w.heap.size ≤ gb491));have n3_:=zm ((by rw [hg];exact (below_size (by repeat (first|(with_reducible first|exact HB.out|apply zA|apply zD|apply zE)|exact HB.out))) : w.heap.size ≤ gb491));clear HB;have HB:=n0_;have BK491:=n1_;have GW491:=n2_;have GE491:=n3_;clear n0_ n1_ n2_ n3_;clear hb hbox hg)|((with_reducible refine gate_dst (N:=4) rfl ?_);refine box_event ?hg (N:=4) ?hd (cs:=#[.int .i64 a1_0,.int .i64 a1_1,.int .i64 a1_2]) (t:=23) ?hr ?_;(case hd=>rfl);(case hg=>rfl);(case hr=>first|(go_simp;done)|(go_simp;rfl));intro gb492 hg w12 hbox hb;have n0_:=zm (zb (g:=gb491) (o:=.cells #[.string a0_0,.int .i64 a0_1,.int .i64 a0_2,.int .i64 a0_3,.int .i64 a0_4,.int .i64 a0_5,.int .i64 a0_6,.int .i64 a0_7,.slice A0_8 l0_8.length c0_8] 28 (0,0)) (by (with_reducible repeat first|apply zd|apply ze|apply za);exact BK491.out) hb);have n1_:=zm (below_step (by repeat (first|(with_reducible first|exact HB.out|apply zA|apply zD|apply zE|refine zS ?_ GE491.out)|exact HB.out)) hb);have n2_:=zm (hbox);have n3_:=zm ((by rw [hg];exact (below_size (by repeat (first|(with_reducible first|exact HB.out|apply zA|apply zD|apply zE|refine zS ?_ GE491.out)|exact HB.out))) : w.heap.size ≤ gb492));have n4_:=zm ((by rw [hg];exact (below_size (by repeat (first|(with_reducible first|exact HB.out|apply zA|apply zD|apply zE|refine zS ?_ GE491.out)|exact HB.out))) : w.heap.size ≤ gb492));have n5_:=zm ((by rw [hg];exact Nat.ne_of_lt (blk_lt (g:=gb491) (o:=.cells #[.string a0_0,.int .i64 a0_1,.int .i64 a0_2,.int .i64 a0_3,.int .i64 a0_4,.int .i64 a0_5,.int .i64 a0_6,.int .i64 a0_7,.slice A0_8 l0_8.length c0_8] 28 (0,0)) (by (with_reducible repeat first|apply zd|apply ze|apply za);exact BK491.out)) : gb491 ≠ gb492));have n6_:=zm ((by rw [hg];exact Nat.ne_of_gt (blk_lt (g:=gb491) (o:=.cells #[.string a0_0,.int .i64 a0_1,.int .i64 a0_2,.int .i64 a0_3,.int .i64 a0_4,.int .i64 a0_5,.int .i64 a0_6,.int .i64 a0_7,.slice A0_8 l0_8.length c0_8] 28 (0,0)) (by (with_reducible repeat first|apply zd|apply ze|apply za);exact BK491.out)) : gb492 ≠ gb491));clear BK491 HB;have BK491:=n0_;have HB:=n1_;have BK492:=n2_;have GW492:=n3_;have GE492:=n4_;have NB491_492:=n5_;have NB492_491:=n6_;clear n0_ n1_ n2_ n3_ n4_ n5_ n6_;clear hb hbox hg;have hnb13:=NB491_492.out;have hnc13:=NB492_491.out;have hcz14_0:=zc BK491.out 0 (.string a0_0) rfl;have hcz14_1:=zc BK491.out 1 (.int .i64 a0_1) rfl;have hcz14_2:=zc BK491.out 2 (.int .i64 a0_2) rfl;have hcz14_3:=zc BK491.out 3 (.int .i64 a0_3) rfl;have hcz14_4:=zc BK491.out 4 (.int .i64 a0_4) rfl;have hcz14_5:=zc BK491.out 5 (.int .i64 a0_5) rfl;have hcz14_6:=zc BK491.out 6 (.int .i64 a0_6) rfl;have hcz14_7:=zc BK491.out 7 (.int .i64 a0_7) rfl;have hcz14_8:=zc BK491.out 8 (.slice A0_8 l0_8.length c0_8) rfl;have hfz14_0:=zf BK491.out 0;have hfz14_1:=zf BK491.out 1;have hfz14_2:=zf BK491.out 2;have hfz14_3:=zf BK491.out 3;have hfz14_4:=zf BK491.out 4;have hfz14_5:=zf BK491.out 5;have hfz14_6:=zf BK491.out 6;have hfz14_7:=zf BK491.out 7;have hfz14_8:=zf BK491.out 8)|((with_reducible refine gate_callee (f:=31) rfl ?_);refine goesL_ (some 18) rfl rfl Try.func31 (by kernel_rfl) rfl #[.agg #[.string a0_0,.int .i64 a0_1,.int .i64 a0_2,.int .i64 a0_3,.int .i64 a0_4,.int .i64 a0_5,.int .i64 a0_6,.int .i64 a0_7,.slice A0_8 l0_8.length c0_8]] rfl (by (try simp only [List.map_toArray,List.map_cons,List.map_nil]);first|done|rfl|(simp only [List.length_drop,List.length_take];rfl)) ?_;(with_reducible refine (metrolablaw18_right.calls k a0_0 a0_1 a0_2 a0_3 a0_4 a0_5 a0_6 a0_7 _ _ l0_8 true _ ?side1 ?side2 A4.out).mono ?_);(case side1=>repeat (first|exact (Kd.C_below HR0_8.out HB.out)|(with_reducible refine Kd.C_alloc ?_ _)|(with_reducible refine Kd.C_drewN ?_ _)|(with_reducible refine Kd.C_drew ?_)));(case side2=>exact HC0_8.out);rintro e w15 ⟨rfl,hb⟩;refine ⟨_,rfl,?_⟩;have n0_:=zm (zb (g:=gb491) (o:=.cells #[.string a0_0,.int .i64 a0_1,.int .i64 a0_2,.int .i64 a0_3,.int .i64 a0_4,.int .i64 a0_5,.int .i64 a0_6,.int .i64 a0_7,.slice A0_8 l0_8.length c0_8] 28 (0,0)) (by (with_reducible repeat first|apply zd|apply ze|apply za);exact BK491.out) hb);have n1_:=zm (zb (g:=gb492) (o:=.cells #[.int .i64 a1_0,.int .i64 a1_1,.int .i64 a1_2] 23 (0,0)) (by (with_reducible repeat first|apply zd|apply ze|apply za);exact BK492.out) hb);have n2_:=zm (below_step (by repeat (first|(with_reducible first|exact HB.out|apply zA|apply zD|apply zE|refine zS ?_ GE491.out|refine zS ?_ GE492.out)|exact HB.out)) hb);clear BK491 BK492 HB;have BK491:=n0_;have BK492:=n1_;have HB:=n2_;clear n0_ n1_ n2_;(try clear hb);(try clear hb2);(try clear hk);(try clear hi);have hcz16_0:=zc BK491.out 0 (.string a0_0) rfl;have hcz16_1:=zc BK491.out 1 (.int .i64 a0_1) rfl;have hcz16_2:=zc BK491.out 2 (.int .i64 a0_2) rfl;have hcz16_3:=zc BK491.out 3 (.int .i64 a0_3) rfl;have hcz16_4:=zc BK491.out 4 (.int .i64 a0_4) rfl;have hcz16_5:=zc BK491.out 5 (.int .i64 a0_5) rfl;have hcz16_6:=zc BK491.out 6 (.int .i64 a0_6) rfl;have hcz16_7:=zc BK491.out 7 (.int .i64 a0_7) rfl;have hcz16_8:=zc BK491.out 8 (.slice A0_8 l0_8.length c0_8) rfl;have hfz16_0:=zf BK491.out 0;have hfz16_1:=zf BK491.out 1;have hfz16_2:=zf BK491.out 2;have hfz16_3:=zf BK491.out 3;have hfz16_4:=zf BK491.out 4;have hfz16_5:=zf BK491.out 5;have hfz16_6:=zf BK491.out 6;have hfz16_7:=zf BK491.out 7;have hfz16_8:=zf BK491.out 8)|((with_reducible refine gate_dst (N:=8) rfl ?_);refine box_event ?hg (N:=8) ?hd (cs:=#[.string (⟨#[]⟩ : ByteArray),.int .i64 0,.int .i64 0,.int .i64 0,.int .i64 0,.int .i64 0,.int .i64 0,.int .i64 0,.slice none 0 0]) (t:=28) ?hr ?_;(case hd=>rfl);(case hg=>rfl);(case hr=>first|(go_simp;done)|(go_simp;rfl));intro gb495 hg w17 hbox hb;have n0_:=zm (zb (g:=gb491) (o:=.cells #[.string a0_0,.int .i64 a0_1,.int .i64 a0_2,.int .i64 a0_3,.int .i64 a0_4,.int .i64 a0_5,.int .i64 a0_6,.int .i64 a0_7,.slice A0_8 l0_8.length c0_8] 28 (0,0)) (by (with_reducible repeat first|apply zd|apply ze|apply za);exact BK491.out) hb);have n1_:=zm (zb (g:=gb492) (o:=.cells #[.int .i64 a1_0,.int .i64 a1_1,.int .i64 a1_2] 23 (0,0)) (by (with_reducible repeat first|apply zd|apply ze|apply za);exact BK492.out) hb);have n2_:=zm (below_step (by repeat (first|(with_reducible first|exact HB.out|apply zA|apply zD|apply zE|refine zS ?_ GE491.out|refine zS ?_ GE492.out)|exact HB.out)) hb);have n3_:=zm (hbox);have n4_:=zm ((by rw [hg];exact (below_size (by repeat (first|(with_reducible first|exact HB.out|apply zA|apply zD|apply zE|refine zS ?_ GE491.out|refine zS ?_ GE492.out)|exact HB.out))) : w.heap.size ≤ gb495));have n5_:=zm ((by rw [hg];exact (below_size (by repeat (first|(with_reducible first|exact HB.out|apply zA|apply zD|apply zE|refine zS ?_ GE491.out|refine zS ?_ GE492.out)|exact HB.out))) : w.heap.size ≤ gb495));have n6_:=zm ((by rw [hg];exact Nat.ne_of_lt (blk_lt (g:=gb491) (o:=.cells #[.string a0_0,.int .i64 a0_1,.int .i64 a0_2,.int .i64 a0_3,.int .i64 a0_4,.int .i64 a0_5,.int .i64 a0_6,.int .i64 a0_7,.slice A0_8 l0_8.length c0_8] 28 (0,0)) (by (with_reducible repeat first|apply zd|apply ze|apply za);exact BK491.out)) : gb491 ≠ gb495));have n7_:=zm ((by rw [hg];exact Nat.ne_of_gt (blk_lt (g:=gb491) (o:=.cells #[.string a0_0,.int .i64 a0_1,.int .i64 a0_2,.int .i64 a0_3,.int .i64 a0_4,.int .i64 a0_5,.int .i64 a0_6,.int .i64 a0_7,.slice A0_8 l0_8.length c0_8] 28 (0,0)) (by (with_reducible repeat first|apply zd|apply ze|apply za);exact BK491.out)) : gb495 ≠ gb491));have n8_:=zm ((by rw [hg];exact Nat.ne_of_lt (blk_lt (g:=gb492) (o:=.cells #[.int .i64 a1_0,.int .i64 a1_1,.int .i64 a1_2] 23 (0,0)) (by (with_reducible repeat first|apply zd|apply ze|apply za);exact BK492.out)) : gb492 ≠ gb495));have n9_:=zm ((by rw [hg];exact Nat.ne_of_gt (blk_lt (g:=gb492) (o:=.cells #[.int .i64 a1_0,.int .i64 a1_1,.int .i64 a1_2] 23 (0,0)) (by (with_reducible repeat first|apply zd|apply ze|apply za);exact BK492.out)) : gb495 ≠ gb492));clear BK491 BK492 HB;have BK491:=n0_;have BK492:=n1_;have HB:=n2_;have BK495:=n3_;have GW495:=n4_;have GE495:=n5_;have NB491_495:=n6_;have NB495_491:=n7_;have NB492_495:=n8_;have NB495_492:=n9_;clear n0_ n1_ n2_ n3_ n4_ n5_ n6_ n7_ n8_ n9_;clear hb hbox hg;have hnb18:=NB495_491.out;have hnc18:=NB491_495.out;have hnb19:=NB495_492.out;have hnc19:=NB492_495.out;have hcz20_0:=zc BK495.out 0 (.string (⟨#[]⟩ : ByteArray)) rfl;have hcz20_1:=zc BK495.out 1 (.int .i64 0) rfl;have hcz20_2:=zc BK495.out 2 (.int .i64 0) rfl;have hcz20_3:=zc BK495.out 3 (.int .i64 0) rfl;have hcz20_4:=zc BK495.out 4 (.int .i64 0) rfl;have hcz20_5:=zc BK495.out 5 (.int .i64 0) rfl;have hcz20_6:=zc BK495.out 6 (.int .i64 0) rfl;have hcz20_7:=zc BK495.out 7 (.int .i64 0) rfl;have hcz20_8:=zc BK495.out 8 (.slice none 0 0) rfl;have hfz20_0:=zf BK495.out 0;have hfz20_1:=zf BK495.out 1;have hfz20_2:=zf BK495.out 2;have hfz20_3:=zf BK495.out 3;have hfz20_4:=zf BK495.out 4;have hfz20_5:=zf BK495.out 5;have hfz20_6:=zf BK495.out 6;have hfz20_7:=zf BK495.out 7;have hfz20_8:=zf BK495.out 8))
  go_wp2
  go_loopg [25] 4 (fun kx v25 W_=>∃ (i_ : Nat) (t496 : ByteArray) (t497 : Int) (t498 : Int) (t499 : Int) (t500 : Int) (t501 : Int) (t502 : Int) (t503 : Int) (t504 : List (S104)) (Ao23 : Option Addr) (co23 : Nat),v25 = .int .i64 i_ ∧ i_ ≤ 4 ∧ 4 - i_ ≤ kx ∧ Aside0 (metrolablaw18_FeatureReturns.L k (4 - i_) t496 t497 t498 t499 t500 t501 t502 t503 t504 a0_0 a0_1 a0_2 a0_3 a0_4 a0_5 a0_6 a0_7 l0_8 a1_0 a1_1 a1_2 a2 = some r) ∧ Aside0 (Kd.V k104 104 W_ w.heap.size (fun k_=>k_ ≠ gb491 ∧ k_ ≠ gb492 ∧ k_ ≠ gb495) (.slice Ao23 t504.length co23) t504) ∧ Aside0 (W_.heap[gb491]? = some (.cells #[.string a0_0,.int .i64 a0_1,.int .i64 a0_2,.int .i64 a0_3,.int .i64 a0_4,.int .i64 a0_5,.int .i64 a0_6,.int .i64 a0_7,.slice A0_8 l0_8.length c0_8] 28 (0,0))) ∧ Aside0 (W_.heap[gb492]? = some (.cells #[.int .i64 a1_0,.int .i64 a1_1,.int .i64 a1_2] 23 (0,0))) ∧ Aside0 (W_.heap[gb495]? = some (.cells #[.string t496,.int .i64 t497,.int .i64 t498,.int .i64 t499,.int .i64 t500,.int .i64 t501,.int .i64 t502,.int .i64 t503,.slice Ao23 t504.length co23] 28 (0,0))) ∧ Aside0 (Below w.heap.size w W_))
  case atStart =>
   refine ⟨0,a0_0,a0_1,a0_2,a0_3,a0_4,a0_5,a0_6,a0_7,l0_8,A0_8,c0_8,rfl,by omega,by omega,HL,⟨?_⟩,⟨?_⟩,⟨?_⟩,⟨?_⟩,⟨?_⟩⟩
   · exact Kd.V_mono (Kd.V_mk HC0_8.out (Kd.F_below (Kd.C_F k104_heap HR0_8.out) (by repeat (first|(with_reducible first|exact HB.out|apply zA|apply zD|apply zE|refine zS ?_ GE491.out|refine zS ?_ GE492.out|refine zS ?_ GE495.out)|exact HB.out)))) (fun k_ (hk : k_ < w.heap.size)=>⟨by have:=GE491.out;omega,by have:=GE492.out;omega,by have:=GE495.out;omega⟩)
   · (with_reducible repeat first|apply zd|apply ze|apply za);refine zF ?_ NB491_495.out _ _ _ _ _ _ _ _ _;exact BK491.out
   · (with_reducible repeat first|apply zd|apply ze|apply za);refine zF ?_ NB492_495.out _ _ _ _ _ _ _ _ _;exact BK492.out
   · (with_reducible repeat first|apply zd|apply ze|apply za);apply zP;(with_reducible repeat first|apply zd|apply ze|apply za);exact BK495.out
   · exact (by repeat (first|(with_reducible first|exact HB.out|apply zA|apply zD|apply zE|refine zS ?_ GE491.out|refine zS ?_ GE492.out|refine zS ?_ GE495.out)|exact HB.out))
  case round =>
   clear HL BK491 BK492 BK495 HB
   obtain ⟨i_,t496,t497,t498,t499,t500,t501,t502,t503,t504,Ao23,co23,rfl,hi4,hik,HL,HO506,BK491,BK492,BK495,HB⟩:=hrel
   have hcy_0:=zc BK495.out 0 (.string t496) rfl
   have hcy_1:=zc BK495.out 1 (.int .i64 t497) rfl
   have hcy_2:=zc BK495.out 2 (.int .i64 t498) rfl
   have hcy_3:=zc BK495.out 3 (.int .i64 t499) rfl
   have hcy_4:=zc BK495.out 4 (.int .i64 t500) rfl
   have hcy_5:=zc BK495.out 5 (.int .i64 t501) rfl
   have hcy_6:=zc BK495.out 6 (.int .i64 t502) rfl
   have hcy_7:=zc BK495.out 7 (.int .i64 t503) rfl
   have hcy_8:=zc BK495.out 8 (.slice Ao23 t504.length co23) rfl
   have hfy_0:=zf BK495.out 0
   have hfy_1:=zf BK495.out 1
   have hfy_2:=zf BK495.out 2
   have hfy_3:=zf BK495.out 3
   have hfy_4:=zf BK495.out 4
   have hfy_5:=zf BK495.out 5
   have hfy_6:=zf BK495.out 6
   have hfy_7:=zf BK495.out 7
   have hfy_8:=zf BK495.out 8
   have hcz_0:=zc BK491.out 0 (.string a0_0) rfl
   have hcz_1:=zc BK491.out 1 (.int .i64 a0_1) rfl
   have hcz_2:=zc BK491.out 2 (.int .i64 a0_2) rfl
   have hcz_3:=zc BK491.out 3 (.int .i64 a0_3) rfl
   have hcz_4:=zc BK491.out 4 (.int .i64 a0_4) rfl
   have hcz_5:=zc BK491.out 5 (.int .i64 a0_5) rfl
   have hcz_6:=zc BK491.out 6 (.int .i64 a0_6) rfl
   have hcz_7:=zc BK491.out 7 (.int .i64 a0_7) rfl
   have hcz_8:=zc BK491.out 8 (.slice A0_8 l0_8.length c0_8) rfl
   have hfz_0:=zf BK491.out 0
   have hfz_1:=zf BK491.out 1
   have hfz_2:=zf BK491.out 2
   have hfz_3:=zf BK491.out 3
   have hfz_4:=zf BK491.out 4
   have hfz_5:=zf BK491.out 5
   have hfz_6:=zf BK491.out 6
   have hfz_7:=zf BK491.out 7
   have hfz_8:=zf BK491.out 8
   by_cases hlt : i_ < 4
   ·have hlt' : (i_ : Int) < 4:=by omega
    have H:=HL.out
    clear HL
    rw [show 4 - i_ = (4 - (i_ + 1)) + 1 by omega,metrolablaw18_FeatureReturns.L] at H
    replace H:=Option.bind_eq_some_iff.mp H
    obtain ⟨⟨t508,t509,t510,t511,t512,t513,t514,t515,t516,t519⟩,A80,H⟩:=H
    have A8:=zm A80
    clear A80
    dsimp only at H
    by_cases c9 : t519 = 0
    ·rw [if_pos c9] at H
     have c9b0 : (t519 == 0) = true:=beq_iff_eq.mpr c9
     have c9b1 : (t519 != 0) = false:=bne_eq_false_iff_eq.mpr c9
     clear c9
     have H':=zm H
     clear H
     go_wp2_with (first|((with_reducible refine gate_callee (f:=46) rfl ?_);refine goesL_ (some 30) rfl rfl Try.func46 (by kernel_rfl) rfl #[.agg #[.string t496,.int .i64 t497,.int .i64 t498,.int .i64 t499,.int .i64 t500,.int .i64 t501,.int .i64 t502,.int .i64 t503,.slice Ao23 t504.length co23],.int .i64 (Int.tmod (wrap64 (a2)) 3)] rfl (by (try simp only [List.map_toArray,List.map_cons,List.map_nil]);first|done|rfl|(simp only [List.length_drop,List.length_take];rfl)) ?_;(with_reducible refine (feature_Turn.calls t496 t497 t498 t499 t500 t501 t502 t503 _ _ t504 (Int.tmod (wrap64 (a2)) 3) t508 t509 t510 t511 t512 t513 t514 t515 t516 t519 _ ?side1 ?side2 A8.out).mono ?_);(case side1=>refine (Kd.V_reads' (e:=104) (base:=w.heap.size) (ok:=fun k_=>(k_ ≠ gb491 ∧ (k_ ≠ gb492 ∧ k_ ≠ gb495))) (n:=t504.length) (c:=co23) ?_).2.2;exact (by (with_reducible repeat (first|apply Kd.V_alloc|apply Kd.V_drewN|apply Kd.V_drew));exact HO506.out));(case side2=>exact (Kd.V_reads' HO506.out).2.1);rintro e w26 ⟨v517,rfl,ho0,hb⟩;refine ⟨_,rfl,?_⟩;have n0_:=zm (Kd.V_below (by (with_reducible repeat (first|apply Kd.V_alloc|apply Kd.V_drewN|apply Kd.V_drew));exact HO506.out) hb);have n1_:=zm (Kd.V_lower (Kd.V_mono (ok':=fun k_=>k_ ≠ gb491 ∧ k_ ≠ gb492 ∧ k_ ≠ gb495) ho0 (fun k_ hk_=>⟨(Kd.freshB (g:=gb491) (o:=.cells #[.string a0_0,.int .i64 a0_1,.int .i64 a0_2,.int .i64 a0_3,.int .i64 a0_4,.int .i64 a0_5,.int .i64 a0_6,.int .i64 a0_7,.slice A0_8 l0_8.length c0_8] 28 (0,0)) (by (with_reducible repeat first|apply zd|apply ze|apply za);exact BK491.out) k_ hk_),(Kd.freshB (g:=gb492) (o:=.cells #[.int .i64 a1_0,.int .i64 a1_1,.int .i64 a1_2] 23 (0,0)) (by (with_reducible repeat first|apply zd|apply ze|apply za);exact BK492.out) k_ hk_),(Kd.freshB (g:=gb495) (o:=.cells #[.string t496,.int .i64 t497,.int .i64 t498,.int .i64 t499,.int .i64 t500,.int .i64 t501,.int .i64 t502,.int .i64 t503,.slice Ao23 t504.length co23] 28 (0,0)) (by (with_reducible repeat first|apply zd|apply ze|apply za);exact BK495.out) k_ hk_)⟩)) (below_size (by repeat (first|(with_reducible first|exact HB.out|apply zA|apply zD|apply zE|refine zS ?_ GE491.out|refine zS ?_ GE492.out|refine zS ?_ GE495.out)|exact HB.out))));have n2_:=zm (zb (g:=gb491) (o:=.cells #[.string a0_0,.int .i64 a0_1,.int .i64 a0_2,.int .i64 a0_3,.int .i64 a0_4,.int .i64 a0_5,.int .i64 a0_6,.int .i64 a0_7,.slice A0_8 l0_8.length c0_8] 28 (0,0)) (by (with_reducible repeat first|apply zd|apply ze|apply za);exact BK491.out) hb);have n3_:=zm (zb (g:=gb492) (o:=.cells #[.int .i64 a1_0,.int .i64 a1_1,.int .i64 a1_2] 23 (0,0)) (by (with_reducible repeat first|apply zd|apply ze|apply za);exact BK492.out) hb);have n4_:=zm (zb (g:=gb495) (o:=.cells #[.string t496,.int .i64 t497,.int .i64 t498,.int .i64 t499,.int .i64 t500,.int .i64 t501,.int .i64 t502,.int .i64 t503,.slice Ao23 t504.length co23] 28 (0,0)) (by (with_reducible repeat first|apply zd|apply ze|apply za);exact BK495.out) hb);have n5_:=zm (below_step (by repeat (first|(with_reducible first|exact HB.out|apply zA|apply zD|apply zE|refine zS ?_ GE491.out|refine zS ?_ GE492.out|refine zS ?_ GE495.out)|exact HB.out)) hb);clear HO506 BK491 BK492 BK495 HB;have HO506:=n0_;have HO518:=n1_;have BK491:=n2_;have BK492:=n3_;have BK495:=n4_;have HB:=n5_;clear n0_ n1_ n2_ n3_ n4_ n5_;(try clear hb);(try clear hb2);(try clear hk);(try clear hi);(try clear ho0))|((with_reducible refine gate_dst (N:=9) rfl ?_);refine box_event ?hg (N:=9) ?hd (cs:=#[.string (⟨#[]⟩ : ByteArray),.int .i64 0,.int .i64 0,.int .i64 0,.int .i64 0,.int .i64 0,.int .i64 0,.int .i64 0,.slice none 0 0]) (t:=28) ?hr ?_;(case hd=>rfl);(case hg=>rfl);(case hr=>first|(go_simp;done)|(go_simp;rfl));intro gb520 hg w27 hbox hb;have n0_:=zm (Kd.V_below (Kd.V_elderB (by (with_reducible repeat (first|apply Kd.V_alloc|apply Kd.V_drewN|apply Kd.V_drew));exact HO506.out) gb520 (Nat.le_of_eq hg.symm)) hb);have n1_:=zm (Kd.V_below (Kd.V_elderB (by (with_reducible repeat (first|apply Kd.V_alloc|apply Kd.V_drewN|apply Kd.V_drew));exact HO518.out) gb520 (Nat.le_of_eq hg.symm)) hb);have n2_:=zm (zb (g:=gb491) (o:=.cells #[.string a0_0,.int .i64 a0_1,.int .i64 a0_2,.int .i64 a0_3,.int .i64 a0_4,.int .i64 a0_5,.int .i64 a0_6,.int .i64 a0_7,.slice A0_8 l0_8.length c0_8] 28 (0,0)) (by (with_reducible repeat first|apply zd|apply ze|apply za);exact BK491.out) hb);have n3_:=zm (zb (g:=gb492) (o:=.cells #[.int .i64 a1_0,.int .i64 a1_1,.int .i64 a1_2] 23 (0,0)) (by (with_reducible repeat first|apply zd|apply ze|apply za);exact BK492.out) hb);have n4_:=zm (zb (g:=gb495) (o:=.cells #[.string t496,.int .i64 t497,.int .i64 t498,.int .i64 t499,.int .i64 t500,.int .i64 t501,.int .i64 t502,.int .i64 t503,.slice Ao23 t504.length co23] 28 (0,0)) (by (with_reducible repeat first|apply zd|apply ze|apply za);exact BK495.out) hb);have n5_:=zm (below_step (by repeat (first|(with_reducible first|exact HB.out|apply zA|apply zD|apply zE|refine zS ?_ GE491.out|refine zS ?_ GE492.out|refine zS ?_ GE495.out)|exact HB.out)) hb);have n6_:=zm (hbox);have n7_:=zm ((by rw [hg];exact (below_size (by repeat (first|(with_reducible first|exact HB.out|apply zA|apply zD|apply zE|refine zS ?_ GE491.out|refine zS ?_ GE492.out|refine zS ?_ GE495.out)|exact HB.out))) : w.heap.size ≤ gb520));have n8_:=zm ((by rw [hg];exact (below_size (by repeat (first|(with_reducible first|exact HB.out|apply zA|apply zD|apply zE|refine zS ?_ GE491.out|refine zS ?_ GE492.out|refine zS ?_ GE495.out)|exact HB.out))) : w.heap.size ≤ gb520));have n9_:=zm ((by rw [hg];exact Nat.ne_of_lt (blk_lt (g:=gb491) (o:=.cells #[.string a0_0,.int .i64 a0_1,.int .i64 a0_2,.int .i64 a0_3,.int .i64 a0_4,.int .i64 a0_5,.int .i64 a0_6,.int .i64 a0_7,.slice A0_8 l0_8.length c0_8] 28 (0,0)) (by (with_reducible repeat first|apply zd|apply ze|apply za);exact BK491.out)) : gb491 ≠ gb520));have n10_:=zm ((by rw [hg];exact Nat.ne_of_gt (blk_lt (g:=gb491) (o:=.cells #[.string a0_0,.int .i64 a0_1,.int .i64 a0_2,.int .i64 a0_3,.int .i64 a0_4,.int .i64 a0_5,.int .i64 a0_6,.int .i64 a0_7,.slice A0_8 l0_8.length c0_8] 28 (0,0)) (by (with_reducible repeat first|apply zd|apply ze|apply za);exact BK491.out)) : gb520 ≠ gb491));have n11_:=zm ((by rw [hg];exact Nat.ne_of_lt (blk_lt (g:=gb492) (o:=.cells #[.int .i64 a1_0,.int .i64 a1_1,.int .i64 a1_2] 23 (0,0)) (by (with_reducible repeat first|apply zd|apply ze|apply za);exact BK492.out)) : gb492 ≠ gb520));have n12_:=zm ((by rw [hg];exact Nat.ne_of_gt (blk_lt (g:=gb492) (o:=.cells #[.int .i64 a1_0,.int .i64 a1_1,.int .i64 a1_2] 23 (0,0)) (by (with_reducible repeat first|apply zd|apply ze|apply za);exact BK492.out)) : gb520 ≠ gb492));have n13_:=zm ((by rw [hg];exact Nat.ne_of_lt (blk_lt (g:=gb495) (o:=.cells #[.string t496,.int .i64 t497,.int .i64 t498,.int .i64 t499,.int .i64 t500,.int .i64 t501,.int .i64 t502,.int .i64 t503,.slice Ao23 t504.length co23] 28 (0,0)) (by (with_reducible repeat first|apply zd|apply ze|apply za);exact BK495.out)) : gb495 ≠ gb520));have n14_:=zm ((by rw [hg];exact Nat.ne_of_gt (blk_lt (g:=gb495) (o:=.cells #[.string t496,.int .i64 t497,.int .i64 t498,.int .i64 t499,.int .i64 t500,.int .i64 t501,.int .i64 t502,.int .i64 t503,.slice Ao23 t504.length co23] 28 (0,0)) (by (with_reducible repeat first|apply zd|apply ze|apply za);exact BK495.out)) : gb520 ≠ gb495));clear HO506 HO518 BK491 BK492 BK495 HB;have HO506:=n0_;have HO518:=n1_;have BK491:=n2_;have BK492:=n3_;have BK495:=n4_;have HB:=n5_;have BK520:=n6_;have GW520:=n7_;have GE520:=n8_;have NB491_520:=n9_;have NB520_491:=n10_;have NB492_520:=n11_;have NB520_492:=n12_;have NB495_520:=n13_;have NB520_495:=n14_;clear n0_ n1_ n2_ n3_ n4_ n5_ n6_ n7_ n8_ n9_ n10_ n11_ n12_ n13_ n14_;clear hb hbox hg;have hnb28:=NB520_491.out;have hnc28:=NB491_520.out;have hnb29:=NB520_492.out;have hnc29:=NB492_520.out;have hnb30:=NB520_495.out;have hnc30:=NB495_520.out;have hcz31_0:=zc BK520.out 0 (.string (⟨#[]⟩ : ByteArray)) rfl;have hcz31_1:=zc BK520.out 1 (.int .i64 0) rfl;have hcz31_2:=zc BK520.out 2 (.int .i64 0) rfl;have hcz31_3:=zc BK520.out 3 (.int .i64 0) rfl;have hcz31_4:=zc BK520.out 4 (.int .i64 0) rfl;have hcz31_5:=zc BK520.out 5 (.int .i64 0) rfl;have hcz31_6:=zc BK520.out 6 (.int .i64 0) rfl;have hcz31_7:=zc BK520.out 7 (.int .i64 0) rfl;have hcz31_8:=zc BK520.out 8 (.slice none 0 0) rfl;have hfz31_0:=zf BK520.out 0;have hfz31_1:=zf BK520.out 1;have hfz31_2:=zf BK520.out 2;have hfz31_3:=zf BK520.out 3;have hfz31_4:=zf BK520.out 4;have hfz31_5:=zf BK520.out 5;have hfz31_6:=zf BK520.out 6;have hfz31_7:=zf BK520.out 7;have hfz31_8:=zf BK520.out 8;obtain ⟨Ao32,co32,eo32⟩:=Kd.V_slice HO518.out;subst eo32;have hcz33_0:=zc BK495.out 0 (.string t496) rfl;have hcz33_1:=zc BK495.out 1 (.int .i64 t497) rfl;have hcz33_2:=zc BK495.out 2 (.int .i64 t498) rfl;have hcz33_3:=zc BK495.out 3 (.int .i64 t499) rfl;have hcz33_4:=zc BK495.out 4 (.int .i64 t500) rfl;have hcz33_5:=zc BK495.out 5 (.int .i64 t501) rfl;have hcz33_6:=zc BK495.out 6 (.int .i64 t502) rfl;have hcz33_7:=zc BK495.out 7 (.int .i64 t503) rfl;have hcz33_8:=zc BK495.out 8 (.slice Ao23 t504.length co23) rfl;have hfz33_0:=zf BK495.out 0;have hfz33_1:=zf BK495.out 1;have hfz33_2:=zf BK495.out 2;have hfz33_3:=zf BK495.out 3;have hfz33_4:=zf BK495.out 4;have hfz33_5:=zf BK495.out 5;have hfz33_6:=zf BK495.out 6;have hfz33_7:=zf BK495.out 7;have hfz33_8:=zf BK495.out 8;have hcz34_0:=zc BK491.out 0 (.string a0_0) rfl;have hcz34_1:=zc BK491.out 1 (.int .i64 a0_1) rfl;have hcz34_2:=zc BK491.out 2 (.int .i64 a0_2) rfl;have hcz34_3:=zc BK491.out 3 (.int .i64 a0_3) rfl;have hcz34_4:=zc BK491.out 4 (.int .i64 a0_4) rfl;have hcz34_5:=zc BK491.out 5 (.int .i64 a0_5) rfl;have hcz34_6:=zc BK491.out 6 (.int .i64 a0_6) rfl;have hcz34_7:=zc BK491.out 7 (.int .i64 a0_7) rfl;have hcz34_8:=zc BK491.out 8 (.slice A0_8 l0_8.length c0_8) rfl;have hfz34_0:=zf BK491.out 0;have hfz34_1:=zf BK491.out 1;have hfz34_2:=zf BK491.out 2;have hfz34_3:=zf BK491.out 3;have hfz34_4:=zf BK491.out 4;have hfz34_5:=zf BK491.out 5;have hfz34_6:=zf BK491.out 6;have hfz34_7:=zf BK491.out 7;have hfz34_8:=zf BK491.out 8))
     go_roundg (4 - (i_ + 1))
     case measure=>omega
     case rel =>
      refine ⟨i_ + 1,t508,t509,t510,t511,t512,t513,t514,t515,t516,Ao32,co32,rfl,by omega,Nat.le_refl _,H',⟨?_⟩,⟨?_⟩,⟨?_⟩,⟨?_⟩,⟨?_⟩⟩
      · (with_reducible repeat (first|apply Kd.V_alloc|apply Kd.V_drewN|apply Kd.V_drew));exact Kd.V_mono (zV gb495 (zV gb520 HO518.out (fun _ hk=>hk.2) _ _ _ _ _ _ _ _ _) (fun _ hk=>hk.1.2.2) _ _ _ _ _ _ _ _ _) (fun k_ hk=>hk.1)
      · (with_reducible repeat first|apply zd|apply ze|apply za);refine zF ?_ NB491_495.out _ _ _ _ _ _ _ _ _;(with_reducible repeat first|apply zd|apply ze|apply za);refine zF ?_ NB491_520.out _ _ _ _ _ _ _ _ _;exact BK491.out
      · (with_reducible repeat first|apply zd|apply ze|apply za);refine zF ?_ NB492_495.out _ _ _ _ _ _ _ _ _;(with_reducible repeat first|apply zd|apply ze|apply za);refine zF ?_ NB492_520.out _ _ _ _ _ _ _ _ _;exact BK492.out
      · (with_reducible repeat first|apply zd|apply ze|apply za);apply zP;(with_reducible repeat first|apply zd|apply ze|apply za);refine zF ?_ NB495_520.out _ _ _ _ _ _ _ _ _;exact BK495.out
      · exact (by repeat (first|(with_reducible first|exact HB.out|apply zA|apply zD|apply zE|refine zS ?_ GE491.out|refine zS ?_ GE492.out|refine zS ?_ GE495.out|refine zS ?_ GE520.out)|exact HB.out))
    ·rw [if_neg c9] at H
     exact absurd ((Option.some.inj H).trans HRT.out) (by decide)
   ·obtain rfl : i_ = 4:=by omega
    have H:=HL.out
    clear HL
    rw [show 4 - 4 = 0 from rfl,metrolablaw18_FeatureReturns.L] at H
    unfold metrolablaw18_FeatureReturns.c at H
    replace H:=Option.bind_eq_some_iff.mp H
    obtain ⟨⟨t508,t509,t510,t511,t512,t513,t514,t515,t516,t519⟩,A80,H⟩:=H
    replace H : ((feature_Mirror.f t508 t509 t510 t511 t512 t513 t514 t515 t516 (Int.tmod (wrap64 (a2)) 3)).bind fun bt521=>(if (wrap64 (t519 + bt521.2.2.2.2.2.2.2.2.2)) = 0 then ((metrolabref18_Same.f k t496 t497 t498 t499 t500 t501 t502 t503 t504 a0_0 a0_1 a0_2 a0_3 a0_4 a0_5 a0_6 a0_7 l0_8).bind fun t534=>(if t534 = true then ((metrolabref18_Same.f k bt521.1 bt521.2.1 bt521.2.2.1 bt521.2.2.2.1 bt521.2.2.2.2.1 bt521.2.2.2.2.2.1 bt521.2.2.2.2.2.2.1 bt521.2.2.2.2.2.2.2.1 bt521.2.2.2.2.2.2.2.2.1 a0_0 a0_1 a0_2 a0_3 a0_4 a0_5 a0_6 a0_7 l0_8).bind fun t535=>(metrolablaw18_FeatureReturns.j0 k (!t535) a0_0 a0_1 a0_2 a0_3 a0_4 a0_5 a0_6 a0_7 l0_8 a1_0 a1_1 a1_2)) else (metrolablaw18_FeatureReturns.j0 k true a0_0 a0_1 a0_2 a0_3 a0_4 a0_5 a0_6 a0_7 l0_8 a1_0 a1_1 a1_2))) else (metrolablaw18_FeatureReturns.j0 k true a0_0 a0_1 a0_2 a0_3 a0_4 a0_5 a0_6 a0_7 l0_8 a1_0 a1_1 a1_2))) = some r:=H
    have A8:=zm A80
    clear A80
    replace H:=Option.bind_eq_some_iff.mp H
    obtain ⟨⟨t521,t522,t523,t524,t525,t526,t527,t528,t529,t532⟩,A90,H⟩:=H
    replace H : (if (wrap64 (t519 + t532)) = 0 then ((metrolabref18_Same.f k t496 t497 t498 t499 t500 t501 t502 t503 t504 a0_0 a0_1 a0_2 a0_3 a0_4 a0_5 a0_6 a0_7 l0_8).bind fun t534=>(if t534 = true then ((metrolabref18_Same.f k t521 t522 t523 t524 t525 t526 t527 t528 t529 a0_0 a0_1 a0_2 a0_3 a0_4 a0_5 a0_6 a0_7 l0_8).bind fun t535=>(metrolablaw18_FeatureReturns.j0 k (!t535) a0_0 a0_1 a0_2 a0_3 a0_4 a0_5 a0_6 a0_7 l0_8 a1_0 a1_1 a1_2)) else (metrolablaw18_FeatureReturns.j0 k true a0_0 a0_1 a0_2 a0_3 a0_4 a0_5 a0_6 a0_7 l0_8 a1_0 a1_1 a1_2))) else (metrolablaw18_FeatureReturns.j0 k true a0_0 a0_1 a0_2 a0_3 a0_4 a0_5 a0_6 a0_7 l0_8 a1_0 a1_1 a1_2)) = some r:=H
    have A9:=zm A90
    clear A90
    have HC10:=zm H
    clear H
    go_upto_region 14 with (first|((with_reducible refine gate_callee (f:=47) rfl ?_);refine goesL_ (some 40) rfl rfl Try.func47 (by kernel_rfl) rfl #[.agg #[.string a0_0,.int .i64 a0_1,.int .i64 a0_2,.int .i64 a0_3,.int .i64 a0_4,.int .i64 a0_5,.int .i64 a0_6,.int .i64 a0_7,.slice A0_8 l0_8.length c0_8],.int .i64 (Int.tmod (wrap64 (a2)) 3)] rfl (by (try simp only [List.map_toArray,List.map_cons,List.map_nil]);first|done|rfl|(simp only [List.length_drop,List.length_take];rfl)) ?_;(with_reducible refine (feature_Mirror.calls a0_0 a0_1 a0_2 a0_3 a0_4 a0_5 a0_6 a0_7 _ _ l0_8 (Int.tmod (wrap64 (a2)) 3) t508 t509 t510 t511 t512 t513 t514 t515 t516 t519 _ ?side1 ?side2 A8.out).mono ?_);(case side1=>exact Kd.C_below HR0_8.out (by repeat (first|(with_reducible first|exact HB.out|apply zA|apply zD|apply zE|refine zS ?_ GE491.out|refine zS ?_ GE492.out|refine zS ?_ GE495.out)|exact HB.out)));(case side2=>exact HC0_8.out);rintro e w25 ⟨v517,rfl,ho0,hb⟩;refine ⟨_,rfl,?_⟩;have n0_:=zm (Kd.V_below (by (with_reducible repeat (first|apply Kd.V_alloc|apply Kd.V_drewN|apply Kd.V_drew));exact HO506.out) hb);have n1_:=zm (Kd.V_lower (Kd.V_mono (ok':=fun k_=>k_ ≠ gb491 ∧ k_ ≠ gb492 ∧ k_ ≠ gb495) ho0 (fun k_ hk_=>⟨(Kd.freshB (g:=gb491) (o:=.cells #[.string a0_0,.int .i64 a0_1,.int .i64 a0_2,.int .i64 a0_3,.int .i64 a0_4,.int .i64 a0_5,.int .i64 a0_6,.int .i64 a0_7,.slice A0_8 l0_8.length c0_8] 28 (0,0)) (by (with_reducible repeat first|apply zd|apply ze|apply za);exact BK491.out) k_ hk_),(Kd.freshB (g:=gb492) (o:=.cells #[.int .i64 a1_0,.int .i64 a1_1,.int .i64 a1_2] 23 (0,0)) (by (with_reducible repeat first|apply zd|apply ze|apply za);exact BK492.out) k_ hk_),(Kd.freshB (g:=gb495) (o:=.cells #[.string t496,.int .i64 t497,.int .i64 t498,.int .i64 t499,.int .i64 t500,.int .i64 t501,.int .i64 t502,.int .i64 t503,.slice Ao23 t504.length co23] 28 (0,0)) (by (with_reducible repeat first|apply zd|apply ze|apply za);exact BK495.out) k_ hk_)⟩)) (below_size (by repeat (first|(with_reducible first|exact HB.out|apply zA|apply zD|apply zE|refine zS ?_ GE491.out|refine zS ?_ GE492.out|refine zS ?_ GE495.out)|exact HB.out))));have n2_:=zm (zb (g:=gb491) (o:=.cells #[.string a0_0,.int .i64 a0_1,.int .i64 a0_2,.int .i64 a0_3,.int .i64 a0_4,.int .i64 a0_5,.int .i64 a0_6,.int .i64 a0_7,.slice A0_8 l0_8.length c0_8] 28 (0,0)) (by (with_reducible repeat first|apply zd|apply ze|apply za);exact BK491.out) hb);have n3_:=zm (zb (g:=gb492) (o:=.cells #[.int .i64 a1_0,.int .i64 a1_1,.int .i64 a1_2] 23 (0,0)) (by (with_reducible repeat first|apply zd|apply ze|apply za);exact BK492.out) hb);have n4_:=zm (zb (g:=gb495) (o:=.cells #[.string t496,.int .i64 t497,.int .i64 t498,.int .i64 t499,.int .i64 t500,.int .i64 t501,.int .i64 t502,.int .i64 t503,.slice Ao23 t504.length co23] 28 (0,0)) (by (with_reducible repeat first|apply zd|apply ze|apply za);exact BK495.out) hb);have n5_:=zm (below_step (by repeat (first|(with_reducible first|exact HB.out|apply zA|apply zD|apply zE|refine zS ?_ GE491.out|refine zS ?_ GE492.out|refine zS ?_ GE495.out)|exact HB.out)) hb);clear HO506 BK491 BK492 BK495 HB;have HO506:=n0_;have HO518:=n1_;have BK491:=n2_;have BK492:=n3_;have BK495:=n4_;have HB:=n5_;clear n0_ n1_ n2_ n3_ n4_ n5_;(try clear hb);(try clear hb2);(try clear hk);(try clear hi);(try clear ho0))|((with_reducible refine gate_dst (N:=11) rfl ?_);refine box_event ?hg (N:=11) ?hd (cs:=#[.string (⟨#[]⟩ : ByteArray),.int .i64 0,.int .i64 0,.int .i64 0,.int .i64 0,.int .i64 0,.int .i64 0,.int .i64 0,.slice none 0 0]) (t:=28) ?hr ?_;(case hd=>rfl);(case hg=>rfl);(case hr=>first|(go_simp;done)|(go_simp;rfl));intro gb520 hg w26 hbox hb;have n0_:=zm (Kd.V_below (Kd.V_elderB (by (with_reducible repeat (first|apply Kd.V_alloc|apply Kd.V_drewN|apply Kd.V_drew));exact HO506.out) gb520 (Nat.le_of_eq hg.symm)) hb);have n1_:=zm (Kd.V_below (Kd.V_elderB (by (with_reducible repeat (first|apply Kd.V_alloc|apply Kd.V_drewN|apply Kd.V_drew));exact HO518.out) gb520 (Nat.le_of_eq hg.symm)) hb);have n2_:=zm (zb (g:=gb491) (o:=.cells #[.string a0_0,.int .i64 a0_1,.int .i64 a0_2,.int .i64 a0_3,.int .i64 a0_4,.int .i64 a0_5,.int .i64 a0_6,.int .i64 a0_7,.slice A0_8 l0_8.length c0_8] 28 (0,0)) (by (with_reducible repeat first|apply zd|apply ze|apply za);exact BK491.out) hb);have n3_:=zm (zb (g:=gb492) (o:=.cells #[.int .i64 a1_0,.int .i64 a1_1,.int .i64 a1_2] 23 (0,0)) (by (with_reducible repeat first|apply zd|apply ze|apply za);exact BK492.out) hb);have n4_:=zm (zb (g:=gb495) (o:=.cells #[.string t496,.int .i64 t497,.int .i64 t498,.int .i64 t499,.int .i64 t500,.int .i64 t501,.int .i64 t502,.int .i64 t503,.slice Ao23 t504.length co23] 28 (0,0)) (by (with_reducible repeat first|apply zd|apply ze|apply za);exact BK495.out) hb);have n5_:=zm (below_step (by repeat (first|(with_reducible first|exact HB.out|apply zA|apply zD|apply zE|refine zS ?_ GE491.out|refine zS ?_ GE492.out|refine zS ?_ GE495.out)|exact HB.out)) hb);have n6_:=zm (hbox);have n7_:=zm ((by rw [hg];exact (below_size (by repeat (first|(with_reducible first|exact HB.out|apply zA|apply zD|apply zE|refine zS ?_ GE491.out|refine zS ?_ GE492.out|refine zS ?_ GE495.out)|exact HB.out))) : w.heap.size ≤ gb520));have n8_:=zm ((by rw [hg];exact (below_size (by repeat (first|(with_reducible first|exact HB.out|apply zA|apply zD|apply zE|refine zS ?_ GE491.out|refine zS ?_ GE492.out|refine zS ?_ GE495.out)|exact HB.out))) : w.heap.size ≤ gb520));have n9_:=zm ((by rw [hg];exact Nat.ne_of_lt (blk_lt (g:=gb491) (o:=.cells #[.string a0_0,.int .i64 a0_1,.int .i64 a0_2,.int .i64 a0_3,.int .i64 a0_4,.int .i64 a0_5,.int .i64 a0_6,.int .i64 a0_7,.slice A0_8 l0_8.length c0_8] 28 (0,0)) (by (with_reducible repeat first|apply zd|apply ze|apply za);exact BK491.out)) : gb491 ≠ gb520));have n10_:=zm ((by rw [hg];exact Nat.ne_of_gt (blk_lt (g:=gb491) (o:=.cells #[.string a0_0,.int .i64 a0_1,.int .i64 a0_2,.int .i64 a0_3,.int .i64 a0_4,.int .i64 a0_5,.int .i64 a0_6,.int .i64 a0_7,.slice A0_8 l0_8.length c0_8] 28 (0,0)) (by (with_reducible repeat first|apply zd|apply ze|apply za);exact BK491.out)) : gb520 ≠ gb491));have n11_:=zm ((by rw [hg];exact Nat.ne_of_lt (blk_lt (g:=gb492) (o:=.cells #[.int .i64 a1_0,.int .i64 a1_1,.int .i64 a1_2] 23 (0,0)) (by (with_reducible repeat first|apply zd|apply ze|apply za);exact BK492.out)) : gb492 ≠ gb520));have n12_:=zm ((by rw [hg];exact Nat.ne_of_gt (blk_lt (g:=gb492) (o:=.cells #[.int .i64 a1_0,.int .i64 a1_1,.int .i64 a1_2] 23 (0,0)) (by (with_reducible repeat first|apply zd|apply ze|apply za);exact BK492.out)) : gb520 ≠ gb492));have n13_:=zm ((by rw [hg];exact Nat.ne_of_lt (blk_lt (g:=gb495) (o:=.cells #[.string t496,.int .i64 t497,.int .i64 t498,.int .i64 t499,.int .i64 t500,.int .i64 t501,.int .i64 t502,.int .i64 t503,.slice Ao23 t504.length co23] 28 (0,0)) (by (with_reducible repeat first|apply zd|apply ze|apply za);exact BK495.out)) : gb495 ≠ gb520));have n14_:=zm ((by rw [hg];exact Nat.ne_of_gt (blk_lt (g:=gb495) (o:=.cells #[.string t496,.int .i64 t497,.int .i64 t498,.int .i64 t499,.int .i64 t500,.int .i64 t501,.int .i64 t502,.int .i64 t503,.slice Ao23 t504.length co23] 28 (0,0)) (by (with_reducible repeat first|apply zd|apply ze|apply za);exact BK495.out)) : gb520 ≠ gb495));clear HO506 HO518 BK491 BK492 BK495 HB;have HO506:=n0_;have HO518:=n1_;have BK491:=n2_;have BK492:=n3_;have BK495:=n4_;have HB:=n5_;have BK520:=n6_;have GW520:=n7_;have GE520:=n8_;have NB491_520:=n9_;have NB520_491:=n10_;have NB492_520:=n11_;have NB520_492:=n12_;have NB495_520:=n13_;have NB520_495:=n14_;clear n0_ n1_ n2_ n3_ n4_ n5_ n6_ n7_ n8_ n9_ n10_ n11_ n12_ n13_ n14_;clear hb hbox hg;have hnb27:=NB520_491.out;have hnc27:=NB491_520.out;have hnb28:=NB520_492.out;have hnc28:=NB492_520.out;have hnb29:=NB520_495.out;have hnc29:=NB495_520.out;have hcz30_0:=zc BK520.out 0 (.string (⟨#[]⟩ : ByteArray)) rfl;have hcz30_1:=zc BK520.out 1 (.int .i64 0) rfl;have hcz30_2:=zc BK520.out 2 (.int .i64 0) rfl;have hcz30_3:=zc BK520.out 3 (.int .i64 0) rfl;have hcz30_4:=zc BK520.out 4 (.int .i64 0) rfl;have hcz30_5:=zc BK520.out 5 (.int .i64 0) rfl;have hcz30_6:=zc BK520.out 6 (.int .i64 0) rfl;have hcz30_7:=zc BK520.out 7 (.int .i64 0) rfl;have hcz30_8:=zc BK520.out 8 (.slice none 0 0) rfl;have hfz30_0:=zf BK520.out 0;have hfz30_1:=zf BK520.out 1;have hfz30_2:=zf BK520.out 2;have hfz30_3:=zf BK520.out 3;have hfz30_4:=zf BK520.out 4;have hfz30_5:=zf BK520.out 5;have hfz30_6:=zf BK520.out 6;have hfz30_7:=zf BK520.out 7;have hfz30_8:=zf BK520.out 8;obtain ⟨Ao31,co31,eo31⟩:=Kd.V_slice HO518.out;subst eo31)|((with_reducible refine gate_callee (f:=47) rfl ?_);refine goesL_ (some 46) rfl rfl Try.func47 (by kernel_rfl) rfl #[.agg #[.string t508,.int .i64 t509,.int .i64 t510,.int .i64 t511,.int .i64 t512,.int .i64 t513,.int .i64 t514,.int .i64 t515,.slice Ao31 t516.length co31],.int .i64 (Int.tmod (wrap64 (a2)) 3)] rfl (by (try simp only [List.map_toArray,List.map_cons,List.map_nil]);first|done|rfl|(simp only [List.length_drop,List.length_take];rfl)) ?_;(with_reducible refine (feature_Mirror.calls t508 t509 t510 t511 t512 t513 t514 t515 _ _ t516 (Int.tmod (wrap64 (a2)) 3) t521 t522 t523 t524 t525 t526 t527 t528 t529 t532 _ ?side1 ?side2 A9.out).mono ?_);(case side1=>refine (Kd.V_reads' (e:=104) (base:=w.heap.size) (ok:=fun k_=>((k_ ≠ gb491 ∧ (k_ ≠ gb492 ∧ k_ ≠ gb495)) ∧ k_ ≠ gb520)) (n:=t516.length) (c:=co31) ?_).2.2;exact (by (with_reducible repeat (first|apply Kd.V_alloc|apply Kd.V_drewN|apply Kd.V_drew));exact (Kd.V_mono (zV gb520 (Kd.V_mono HO518.out (fun k_ hk=>(⟨hk,hk.2⟩ : _ ∧ k_ ≠ gb520))) (fun _ hk=>hk.2) (.string t508) (.int .i64 t509) (.int .i64 t510) (.int .i64 t511) (.int .i64 t512) (.int .i64 t513) (.int .i64 t514) (.int .i64 t515) (.slice Ao31 t516.length co31)) (fun _ h_=>h_.1))));(case side2=>exact (Kd.V_reads' HO518.out).2.1);rintro e w32 ⟨v530,rfl,ho0,hb⟩;refine ⟨_,rfl,?_⟩;have n0_:=zm (Kd.V_below (by (with_reducible repeat (first|apply Kd.V_alloc|apply Kd.V_drewN|apply Kd.V_drew));exact (Kd.V_mono (zV gb520 (Kd.V_mono HO506.out (fun k_ hk=>(⟨hk,hk.2⟩ : _ ∧ k_ ≠ gb520))) (fun _ hk=>hk.2) (.string t508) (.int .i64 t509) (.int .i64 t510) (.int .i64 t511) (.int .i64 t512) (.int .i64 t513) (.int .i64 t514) (.int .i64 t515) (.slice Ao31 t516.length co31)) (fun _ h_=>h_.1))) hb);have n1_:=zm (Kd.V_below (by (with_reducible repeat (first|apply Kd.V_alloc|apply Kd.V_drewN|apply Kd.V_drew));exact (Kd.V_mono (zV gb520 (Kd.V_mono HO518.out (fun k_ hk=>(⟨hk,hk.2⟩ : _ ∧ k_ ≠ gb520))) (fun _ hk=>hk.2) (.string t508) (.int .i64 t509) (.int .i64 t510) (.int .i64 t511) (.int .i64 t512) (.int .i64 t513) (.int .i64 t514) (.int .i64 t515) (.slice Ao31 t516.length co31)) (fun _ h_=>h_.1))) hb);have n2_:=zm (Kd.V_lower (Kd.V_mono (ok':=fun k_=>k_ ≠ gb491 ∧ k_ ≠ gb492 ∧ k_ ≠ gb495 ∧ k_ ≠ gb520) ho0 (fun k_ hk_=>⟨(Kd.freshB (g:=gb491) (o:=.cells #[.string a0_0,.int .i64 a0_1,.int .i64 a0_2,.int .i64 a0_3,.int .i64 a0_4,.int .i64 a0_5,.int .i64 a0_6,.int .i64 a0_7,.slice A0_8 l0_8.length c0_8] 28 (0,0)) (by (with_reducible repeat first|apply zd|apply ze|apply za);refine zF ?_ NB491_520.out _ _ _ _ _ _ _ _ _;exact BK491.out) k_ hk_),(Kd.freshB (g:=gb492) (o:=.cells #[.int .i64 a1_0,.int .i64 a1_1,.int .i64 a1_2] 23 (0,0)) (by (with_reducible repeat first|apply zd|apply ze|apply za);refine zF ?_ NB492_520.out _ _ _ _ _ _ _ _ _;exact BK492.out) k_ hk_),(Kd.freshB (g:=gb495) (o:=.cells #[.string t496,.int .i64 t497,.int .i64 t498,.int .i64 t499,.int .i64 t500,.int .i64 t501,.int .i64 t502,.int .i64 t503,.slice Ao23 t504.length co23] 28 (0,0)) (by (with_reducible repeat first|apply zd|apply ze|apply za);refine zF ?_ NB495_520.out _ _ _ _ _ _ _ _ _;exact BK495.out) k_ hk_),(Kd.freshB (g:=gb520) (o:=.cells #[.string t508,.int .i64 t509,.int .i64 t510,.int .i64 t511,.int .i64 t512,.int .i64 t513,.int .i64 t514,.int .i64 t515,.slice Ao31 t516.length co31] 28 (0,0)) (by (with_reducible repeat first|apply zd|apply ze|apply za);refine blk_put (cs:=#[.string t508,.int .i64 t509,.int .i64 t510,.int .i64 t511,.int .i64 t512,.int .i64 t513,.int .i64 t514,.int .i64 t515,.slice none 0 0]) ?_ 8 _ rfl;(with_reducible repeat first|apply zd|apply ze|apply za);refine blk_put (cs:=#[.string t508,.int .i64 t509,.int .i64 t510,.int .i64 t511,.int .i64 t512,.int .i64 t513,.int .i64 t514,.int .i64 0,.slice none 0 0]) ?_ 7 _ rfl;(with_reducible repeat first|apply zd|apply ze|apply za);refine blk_put (cs:=#[.string t508,.int .i64 t509,.int .i64 t510,.int .i64 t511,.int .i64 t512,.int .i64 t513,.int .i64 0,.int .i64 0,.slice none 0 0]) ?_ 6 _ rfl;(with_reducible repeat first|apply zd|apply ze|apply za);refine blk_put (cs:=#[.string t508,.int .i64 t509,.int .i64 t510,.int .i64 t511,.int .i64 t512,.int .i64 0,.int .i64 0,.int .i64 0,.slice none 0 0]) ?_ 5 _ rfl;(with_reducible repeat first|apply zd|apply ze|apply za);refine blk_put (cs:=#[.string t508,.int .i64 t509,.int .i64 t510,.int .i64 t511,.int .i64 0,.int .i64 0,.int .i64 0,.int .i64 0,.slice none 0 0]) ?_ 4 _ rfl;(with_reducible repeat first|apply zd|apply ze|apply za);refine blk_put (cs:=#[.string t508,.int .i64 t509,.int .i64 t510,.int .i64 0,.int .i64 0,.int .i64 0,.int .i64 0,.int .i64 0,.slice none 0 0]) ?_ 3 _ rfl;(with_reducible repeat first|apply zd|apply ze|apply za);refine blk_put (cs:=#[.string t508,.int .i64 t509,.int .i64 0,.int .i64 0,.int .i64 0,.int .i64 0,.int .i64 0,.int .i64 0,.slice none 0 0]) ?_ 2 _ rfl;(with_reducible repeat first|apply zd|apply ze|apply za);refine blk_put (cs:=#[.string t508,.int .i64 0,.int .i64 0,.int .i64 0,.int .i64 0,.int .i64 0,.int .i64 0,.int .i64 0,.slice none 0 0]) ?_ 1 _ rfl;(with_reducible repeat first|apply zd|apply ze|apply za);refine blk_put (cs:=#[.string (⟨#[]⟩ : ByteArray),.int .i64 0,.int .i64 0,.int .i64 0,.int .i64 0,.int .i64 0,.int .i64 0,.int .i64 0,.slice none 0 0]) ?_ 0 _ rfl;(with_reducible repeat first|apply zd|apply ze|apply za);exact BK520.out) k_ hk_)⟩)) (below_size (by repeat (first|(with_reducible first|exact HB.out|apply zA|apply zD|apply zE|refine zS ?_ GE491.out|refine zS ?_ GE492.out|refine zS ?_ GE495.out|refine zS ?_ GE520.out)|exact HB.out))));have n3_:=zm (zb (g:=gb491) (o:=.cells #[.string a0_0,.int .i64 a0_1,.int .i64 a0_2,.int .i64 a0_3,.int .i64 a0_4,.int .i64 a0_5,.int .i64 a0_6,.int .i64 a0_7,.slice A0_8 l0_8.length c0_8] 28 (0,0)) (by (with_reducible repeat first|apply zd|apply ze|apply za);refine zF ?_ NB491_520.out _ _ _ _ _ _ _ _ _;exact BK491.out) hb);have n4_:=zm (zb (g:=gb492) (o:=.cells #[.int .i64 a1_0,.int .i64 a1_1,.int .i64 a1_2] 23 (0,0)) (by (with_reducible repeat first|apply zd|apply ze|apply za);refine zF ?_ NB492_520.out _ _ _ _ _ _ _ _ _;exact BK492.out) hb);have n5_:=zm (zb (g:=gb495) (o:=.cells #[.string t496,.int .i64 t497,.int .i64 t498,.int .i64 t499,.int .i64 t500,.int .i64 t501,.int .i64 t502,.int .i64 t503,.slice Ao23 t504.length co23] 28 (0,0)) (by (with_reducible repeat first|apply zd|apply ze|apply za);refine zF ?_ NB495_520.out _ _ _ _ _ _ _ _ _;exact BK495.out) hb);have n6_:=zm (zb (g:=gb520) (o:=.cells #[.string t508,.int .i64 t509,.int .i64 t510,.int .i64 t511,.int .i64 t512,.int .i64 t513,.int .i64 t514,.int .i64 t515,.slice Ao31 t516.length co31] 28 (0,0)) (by (with_reducible repeat first|apply zd|apply ze|apply za);refine blk_put (cs:=#[.string t508,.int .i64 t509,.int .i64 t510,.int .i64 t511,.int .i64 t512,.int .i64 t513,.int .i64 t514,.int .i64 t515,.slice none 0 0]) ?_ 8 _ rfl;(with_reducible repeat first|apply zd|apply ze|apply za);refine blk_put (cs:=#[.string t508,.int .i64 t509,.int .i64 t510,.int .i64 t511,.int .i64 t512,.int .i64 t513,.int .i64 t514,.int .i64 0,.slice none 0 0]) ?_ 7 _ rfl;(with_reducible repeat first|apply zd|apply ze|apply za);refine blk_put (cs:=#[.string t508,.int .i64 t509,.int .i64 t510,.int .i64 t511,.int .i64 t512,.int .i64 t513,.int .i64 0,.int .i64 0,.slice none 0 0]) ?_ 6 _ rfl;(with_reducible repeat first|apply zd|apply ze|apply za);refine blk_put (cs:=#[.string t508,.int .i64 t509,.int .i64 t510,.int .i64 t511,.int .i64 t512,.int .i64 0,.int .i64 0,.int .i64 0,.slice none 0 0]) ?_ 5 _ rfl;(with_reducible repeat first|apply zd|apply ze|apply za);refine blk_put (cs:=#[.string t508,.int .i64 t509,.int .i64 t510,.int .i64 t511,.int .i64 0,.int .i64 0,.int .i64 0,.int .i64 0,.slice none 0 0]) ?_ 4 _ rfl;(with_reducible repeat first|apply zd|apply ze|apply za);refine blk_put (cs:=#[.string t508,.int .i64 t509,.int .i64 t510,.int .i64 0,.int .i64 0,.int .i64 0,.int .i64 0,.int .i64 0,.slice none 0 0]) ?_ 3 _ rfl;(with_reducible repeat first|apply zd|apply ze|apply za);refine blk_put (cs:=#[.string t508,.int .i64 t509,.int .i64 0,.int .i64 0,.int .i64 0,.int .i64 0,.int .i64 0,.int .i64 0,.slice none 0 0]) ?_ 2 _ rfl;(with_reducible repeat first|apply zd|apply ze|apply za);refine blk_put (cs:=#[.string t508,.int .i64 0,.int .i64 0,.int .i64 0,.int .i64 0,.int .i64 0,.int .i64 0,.int .i64 0,.slice none 0 0]) ?_ 1 _ rfl;(with_reducible repeat first|apply zd|apply ze|apply za);refine blk_put (cs:=#[.string (⟨#[]⟩ : ByteArray),.int .i64 0,.int .i64 0,.int .i64 0,.int .i64 0,.int .i64 0,.int .i64 0,.int .i64 0,.slice none 0 0]) ?_ 0 _ rfl;(with_reducible repeat first|apply zd|apply ze|apply za);exact BK520.out) hb);have n7_:=zm (below_step (by repeat (first|(with_reducible first|exact HB.out|apply zA|apply zD|apply zE|refine zS ?_ GE491.out|refine zS ?_ GE492.out|refine zS ?_ GE495.out|refine zS ?_ GE520.out)|exact HB.out)) hb);clear HO506 HO518 BK491 BK492 BK495 BK520 HB;have HO506:=n0_;have HO518:=n1_;have HO531:=n2_;have BK491:=n3_;have BK492:=n4_;have BK495:=n5_;have BK520:=n6_;have HB:=n7_;clear n0_ n1_ n2_ n3_ n4_ n5_ n6_ n7_;(try clear hb);(try clear hb2);(try clear hk);(try clear hi);(try clear ho0))|((with_reducible refine gate_dst (N:=13) rfl ?_);refine box_event ?hg (N:=13) ?hd (cs:=#[.string (⟨#[]⟩ : ByteArray),.int .i64 0,.int .i64 0,.int .i64 0,.int .i64 0,.int .i64 0,.int .i64 0,.int .i64 0,.slice none 0 0]) (t:=28) ?hr ?_;(case hd=>rfl);(case hg=>rfl);(case hr=>first|(go_simp;done)|(go_simp;rfl));intro gb533 hg w33 hbox hb;have n0_:=zm (Kd.V_below (Kd.V_elderB (by (with_reducible repeat (first|apply Kd.V_alloc|apply Kd.V_drewN|apply Kd.V_drew));exact HO506.out) gb533 (Nat.le_of_eq hg.symm)) hb);have n1_:=zm (Kd.V_below (Kd.V_elderB (by (with_reducible repeat (first|apply Kd.V_alloc|apply Kd.V_drewN|apply Kd.V_drew));exact HO518.out) gb533 (Nat.le_of_eq hg.symm)) hb);have n2_:=zm (Kd.V_below (Kd.V_elderB (by (with_reducible repeat (first|apply Kd.V_alloc|apply Kd.V_drewN|apply Kd.V_drew));exact HO531.out) gb533 (Nat.le_of_eq hg.symm)) hb);have n3_:=zm (zb (g:=gb491) (o:=.cells #[.string a0_0,.int .i64 a0_1,.int .i64 a0_2,.int .i64 a0_3,.int .i64 a0_4,.int .i64 a0_5,.int .i64 a0_6,.int .i64 a0_7,.slice A0_8 l0_8.length c0_8] 28 (0,0)) (by (with_reducible repeat first|apply zd|apply ze|apply za);exact BK491.out) hb);have n4_:=zm (zb (g:=gb492) (o:=.cells #[.int .i64 a1_0,.int .i64 a1_1,.int .i64 a1_2] 23 (0,0)) (by (with_reducible repeat first|apply zd|apply ze|apply za);exact BK492.out) hb);have n5_:=zm (zb (g:=gb495) (o:=.cells #[.string t496,.int .i64 t497,.int .i64 t498,.int .i64 t499,.int .i64 t500,.int .i64 t501,.int .i64 t502,.int .i64 t503,.slice Ao23 t504.length co23] 28 (0,0)) (by (with_reducible repeat first|apply zd|apply ze|apply za);exact BK495.out) hb);have n6_:=zm (zb (g:=gb520) (o:=.cells #[.string t508,.int .i64 t509,.int .i64 t510,.int .i64 t511,.int .i64 t512,.int .i64 t513,.int .i64 t514,.int .i64 t515,.slice Ao31 t516.length co31] 28 (0,0)) (by (with_reducible repeat first|apply zd|apply ze|apply za);exact BK520.out) hb);have n7_:=zm (below_step (by repeat (first|(with_reducible first|exact HB.out|apply zA|apply zD|apply zE|refine zS ?_ GE491.out|refine zS ?_ GE492.out|refine zS ?_ GE495.out|refine zS ?_ GE520.out)|exact HB.out)) hb);have n8_:=zm (hbox);have n9_:=zm ((by rw [hg];exact (below_size (by repeat (first|(with_reducible first|exact HB.out|apply zA|apply zD|apply zE|refine zS ?_ GE491.out|refine zS ?_ GE492.out|refine zS ?_ GE495.out|refine zS ?_ GE520.out)|exact HB.out))) : w.heap.size ≤ gb533));have n10_:=zm ((by rw [hg];exact (below_size (by repeat (first|(with_reducible first|exact HB.out|apply zA|apply zD|apply zE|refine zS ?_ GE491.out|refine zS ?_ GE492.out|refine zS ?_ GE495.out|refine zS ?_ GE520.out)|exact HB.out))) : w.heap.size ≤ gb533));have n11_:=zm ((by rw [hg];exact Nat.ne_of_lt (blk_lt (g:=gb491) (o:=.cells #[.string a0_0,.int .i64 a0_1,.int .i64 a0_2,.int .i64 a0_3,.int .i64 a0_4,.int .i64 a0_5,.int .i64 a0_6,.int .i64 a0_7,.slice A0_8 l0_8.length c0_8] 28 (0,0)) (by (with_reducible repeat first|apply zd|apply ze|apply za);exact BK491.out)) : gb491 ≠ gb533));have n12_:=zm ((by rw [hg];exact Nat.ne_of_gt (blk_lt (g:=gb491) (o:=.cells #[.string a0_0,.int .i64 a0_1,.int .i64 a0_2,.int .i64 a0_3,.int .i64 a0_4,.int .i64 a0_5,.int .i64 a0_6,.int .i64 a0_7,.slice A0_8 l0_8.length c0_8] 28 (0,0)) (by (with_reducible repeat first|apply zd|apply ze|apply za);exact BK491.out)) : gb533 ≠ gb491));have n13_:=zm ((by rw [hg];exact Nat.ne_of_lt (blk_lt (g:=gb492) (o:=.cells #[.int .i64 a1_0,.int .i64 a1_1,.int .i64 a1_2] 23 (0,0)) (by (with_reducible repeat first|apply zd|apply ze|apply za);exact BK492.out)) : gb492 ≠ gb533));have n14_:=zm ((by rw [hg];exact Nat.ne_of_gt (blk_lt (g:=gb492) (o:=.cells #[.int .i64 a1_0,.int .i64 a1_1,.int .i64 a1_2] 23 (0,0)) (by (with_reducible repeat first|apply zd|apply ze|apply za);exact BK492.out)) : gb533 ≠ gb492));have n15_:=zm ((by rw [hg];exact Nat.ne_of_lt (blk_lt (g:=gb495) (o:=.cells #[.string t496,.int .i64 t497,.int .i64 t498,.int .i64 t499,.int .i64 t500,.int .i64 t501,.int .i64 t502,.int .i64 t503,.slice Ao23 t504.length co23] 28 (0,0)) (by (with_reducible repeat first|apply zd|apply ze|apply za);exact BK495.out)) : gb495 ≠ gb533));have n16_:=zm ((by rw [hg];exact Nat.ne_of_gt (blk_lt (g:=gb495) (o:=.cells #[.string t496,.int .i64 t497,.int .i64 t498,.int .i64 t499,.int .i64 t500,.int .i64 t501,.int .i64 t502,.int .i64 t503,.slice Ao23 t504.length co23] 28 (0,0)) (by (with_reducible repeat first|apply zd|apply ze|apply za);exact BK495.out)) : gb533 ≠ gb495));have n17_:=zm ((by rw [hg];exact Nat.ne_of_lt (blk_lt (g:=gb520) (o:=.cells #[.string t508,.int .i64 t509,.int .i64 t510,.int .i64 t511,.int .i64 t512,.int .i64 t513,.int .i64 t514,.int .i64 t515,.slice Ao31 t516.length co31] 28 (0,0)) (by (with_reducible repeat first|apply zd|apply ze|apply za);exact BK520.out)) : gb520 ≠ gb533));have n18_:=zm ((by rw [hg];exact Nat.ne_of_gt (blk_lt (g:=gb520) (o:=.cells #[.string t508,.int .i64 t509,.int .i64 t510,.int .i64 t511,.int .i64 t512,.int .i64 t513,.int .i64 t514,.int .i64 t515,.slice Ao31 t516.length co31] 28 (0,0)) (by (with_reducible repeat first|apply zd|apply ze|apply za);exact BK520.out)) : gb533 ≠ gb520));clear HO506 HO518 HO531 BK491 BK492 BK495 BK520 HB;have HO506:=n0_;have HO518:=n1_;have HO531:=n2_;have BK491:=n3_;have BK492:=n4_;have BK495:=n5_;have BK520:=n6_;have HB:=n7_;have BK533:=n8_;have GW533:=n9_;have GE533:=n10_;have NB491_533:=n11_;have NB533_491:=n12_;have NB492_533:=n13_;have NB533_492:=n14_;have NB495_533:=n15_;have NB533_495:=n16_;have NB520_533:=n17_;have NB533_520:=n18_;clear n0_ n1_ n2_ n3_ n4_ n5_ n6_ n7_ n8_ n9_ n10_ n11_ n12_ n13_ n14_ n15_ n16_ n17_ n18_;clear hb hbox hg;have hnb34:=NB533_491.out;have hnc34:=NB491_533.out;have hnb35:=NB533_492.out;have hnc35:=NB492_533.out;have hnb36:=NB533_495.out;have hnc36:=NB495_533.out;have hnb37:=NB533_520.out;have hnc37:=NB520_533.out;have hcz38_0:=zc BK533.out 0 (.string (⟨#[]⟩ : ByteArray)) rfl;have hcz38_1:=zc BK533.out 1 (.int .i64 0) rfl;have hcz38_2:=zc BK533.out 2 (.int .i64 0) rfl;have hcz38_3:=zc BK533.out 3 (.int .i64 0) rfl;have hcz38_4:=zc BK533.out 4 (.int .i64 0) rfl;have hcz38_5:=zc BK533.out 5 (.int .i64 0) rfl;have hcz38_6:=zc BK533.out 6 (.int .i64 0) rfl;have hcz38_7:=zc BK533.out 7 (.int .i64 0) rfl;have hcz38_8:=zc BK533.out 8 (.slice none 0 0) rfl;have hfz38_0:=zf BK533.out 0;have hfz38_1:=zf BK533.out 1;have hfz38_2:=zf BK533.out 2;have hfz38_3:=zf BK533.out 3;have hfz38_4:=zf BK533.out 4;have hfz38_5:=zf BK533.out 5;have hfz38_6:=zf BK533.out 6;have hfz38_7:=zf BK533.out 7;have hfz38_8:=zf BK533.out 8;obtain ⟨Ao39,co39,eo39⟩:=Kd.V_slice HO531.out;subst eo39))
    (try simp only [Act.put,zx,zy,zz])
    go_cut [64] (fun v64 wc=>∃ (kq : Nat) (x64_9 : Bool),v64 = .bool x64_9 ∧ Aside0 (metrolablaw18_FeatureReturns.j0 kq x64_9 a0_0 a0_1 a0_2 a0_3 a0_4 a0_5 a0_6 a0_7 l0_8 a1_0 a1_1 a1_2 = some r) ∧ Aside0 (kq ≤ k) ∧ Aside0 (Kd.V k104 104 wc w.heap.size (fun k_=>k_ ≠ gb491 ∧ k_ ≠ gb492 ∧ k_ ≠ gb495 ∧ k_ ≠ gb520 ∧ k_ ≠ gb533) (.slice Ao23 t504.length co23) t504) ∧ Aside0 (Kd.V k104 104 wc w.heap.size (fun k_=>k_ ≠ gb491 ∧ k_ ≠ gb492 ∧ k_ ≠ gb495 ∧ k_ ≠ gb520 ∧ k_ ≠ gb533) (.slice Ao31 t516.length co31) t516) ∧ Aside0 (Kd.V k104 104 wc w.heap.size (fun k_=>k_ ≠ gb491 ∧ k_ ≠ gb492 ∧ k_ ≠ gb495 ∧ k_ ≠ gb520 ∧ k_ ≠ gb533) (.slice Ao39 t529.length co39) t529) ∧ Aside0 (wc.heap[gb491]? = some (.cells #[.string a0_0,.int .i64 a0_1,.int .i64 a0_2,.int .i64 a0_3,.int .i64 a0_4,.int .i64 a0_5,.int .i64 a0_6,.int .i64 a0_7,(.slice A0_8 l0_8.length c0_8)] 28 (0,0))) ∧ Aside0 (wc.heap[gb492]? = some (.cells #[.int .i64 a1_0,.int .i64 a1_1,.int .i64 a1_2] 23 (0,0))) ∧ Aside0 (wc.heap[gb495]? = some (.cells #[.string t496,.int .i64 t497,.int .i64 t498,.int .i64 t499,.int .i64 t500,.int .i64 t501,.int .i64 t502,.int .i64 t503,(.slice Ao23 t504.length co23)] 28 (0,0))) ∧ Aside0 (wc.heap[gb520]? = some (.cells #[.string t508,.int .i64 t509,.int .i64 t510,.int .i64 t511,.int .i64 t512,.int .i64 t513,.int .i64 t514,.int .i64 t515,(.slice Ao31 t516.length co31)] 28 (0,0))) ∧ Aside0 (wc.heap[gb533]? = some (.cells #[.string t521,.int .i64 t522,.int .i64 t523,.int .i64 t524,.int .i64 t525,.int .i64 t526,.int .i64 t527,.int .i64 t528,(.slice Ao39 t529.length co39)] 28 (0,0))) ∧ Aside0 (Below w.heap.size w wc))
    case first =>
     have H:=HC10.out
     clear HC10
     by_cases c40 : (wrap64 (t519 + t532)) = 0
     ·rw [if_pos c40] at H
      have c40b0 : ((wrap64 (t519 + t532)) == 0) = true:=beq_iff_eq.mpr c40
      have c40b1 : ((wrap64 (t519 + t532)) != 0) = false:=bne_eq_false_iff_eq.mpr c40
      clear c40
      (first|rw [c40b0]|(simp only [i64_w,i32_w];rw [c40b0])|(rw [c40b2];try simp only [Bool.not_true,Bool.not_false])|skip)
      replace H:=Option.bind_eq_some_iff.mp H
      obtain ⟨t534,A410,H⟩:=H
      replace H : (if t534 = true then ((metrolabref18_Same.f k t521 t522 t523 t524 t525 t526 t527 t528 t529 a0_0 a0_1 a0_2 a0_3 a0_4 a0_5 a0_6 a0_7 l0_8).bind fun t535=>(metrolablaw18_FeatureReturns.j0 k (!t535) a0_0 a0_1 a0_2 a0_3 a0_4 a0_5 a0_6 a0_7 l0_8 a1_0 a1_1 a1_2)) else (metrolablaw18_FeatureReturns.j0 k true a0_0 a0_1 a0_2 a0_3 a0_4 a0_5 a0_6 a0_7 l0_8 a1_0 a1_1 a1_2)) = some r:=H
      have A41:=zm A410
      clear A410
      by_cases c42 : t534 = true
      ·subst c42
       have H1 : ((metrolabref18_Same.f k t521 t522 t523 t524 t525 t526 t527 t528 t529 a0_0 a0_1 a0_2 a0_3 a0_4 a0_5 a0_6 a0_7 l0_8).bind fun t535=>(metrolablaw18_FeatureReturns.j0 k (!t535) a0_0 a0_1 a0_2 a0_3 a0_4 a0_5 a0_6 a0_7 l0_8 a1_0 a1_1 a1_2)) = some r:=by rw [if_pos rfl] at H;exact H
       clear H
       have H:=H1
       clear H1
       replace H:=Option.bind_eq_some_iff.mp H
       obtain ⟨t535,A430,H⟩:=H
       replace H : (metrolablaw18_FeatureReturns.j0 k (!t535) a0_0 a0_1 a0_2 a0_3 a0_4 a0_5 a0_6 a0_7 l0_8 a1_0 a1_1 a1_2) = some r:=H
       have A43:=zm A430
       clear A430
       have H':=zm H
       clear H
       have hnb44:=NB495_491.out
       have hnc44:=NB491_495.out
       have hnb45:=NB495_492.out
       have hnc45:=NB492_495.out
       have hnb46:=NB495_520.out
       have hnc46:=NB520_495.out
       have hnb47:=NB495_533.out
       have hnc47:=NB533_495.out
       have hcz48_0:=zc BK495.out 0 (.string t496) rfl
       have hcz48_1:=zc BK495.out 1 (.int .i64 t497) rfl
       have hcz48_2:=zc BK495.out 2 (.int .i64 t498) rfl
       have hcz48_3:=zc BK495.out 3 (.int .i64 t499) rfl
       have hcz48_4:=zc BK495.out 4 (.int .i64 t500) rfl
       have hcz48_5:=zc BK495.out 5 (.int .i64 t501) rfl
       have hcz48_6:=zc BK495.out 6 (.int .i64 t502) rfl
       have hcz48_7:=zc BK495.out 7 (.int .i64 t503) rfl
       have hcz48_8:=zc BK495.out 8 (.slice Ao23 t504.length co23) rfl
       have hfz48_0:=zf BK495.out 0
       have hfz48_1:=zf BK495.out 1
       have hfz48_2:=zf BK495.out 2
       have hfz48_3:=zf BK495.out 3
       have hfz48_4:=zf BK495.out 4
       have hfz48_5:=zf BK495.out 5
       have hfz48_6:=zf BK495.out 6
       have hfz48_7:=zf BK495.out 7
       have hfz48_8:=zf BK495.out 8
       have hnb49:=NB491_492.out
       have hnc49:=NB492_491.out
       have hnb50:=NB491_520.out
       have hnc50:=NB520_491.out
       have hnb51:=NB491_533.out
       have hnc51:=NB533_491.out
       have hcz52_0:=zc BK491.out 0 (.string a0_0) rfl
       have hcz52_1:=zc BK491.out 1 (.int .i64 a0_1) rfl
       have hcz52_2:=zc BK491.out 2 (.int .i64 a0_2) rfl
       have hcz52_3:=zc BK491.out 3 (.int .i64 a0_3) rfl
       have hcz52_4:=zc BK491.out 4 (.int .i64 a0_4) rfl
       have hcz52_5:=zc BK491.out 5 (.int .i64 a0_5) rfl
       have hcz52_6:=zc BK491.out 6 (.int .i64 a0_6) rfl
       have hcz52_7:=zc BK491.out 7 (.int .i64 a0_7) rfl
       have hcz52_8:=zc BK491.out 8 (.slice A0_8 l0_8.length c0_8) rfl
       have hfz52_0:=zf BK491.out 0
       have hfz52_1:=zf BK491.out 1
       have hfz52_2:=zf BK491.out 2
       have hfz52_3:=zf BK491.out 3
       have hfz52_4:=zf BK491.out 4
       have hfz52_5:=zf BK491.out 5
       have hfz52_6:=zf BK491.out 6
       have hfz52_7:=zf BK491.out 7
       have hfz52_8:=zf BK491.out 8
       go_wp2_with (first|(go_at_call 49;(with_reducible refine (metrolabref18_Same.calls k t496 t497 t498 t499 t500 t501 t502 t503 _ _ t504 a0_0 a0_1 a0_2 a0_3 a0_4 a0_5 a0_6 a0_7 _ _ l0_8 true _ ?side1 ?side2 ?side3 ?side4 A41.out).mono ?_);(case side1=>refine (Kd.V_reads' (e:=104) (base:=w.heap.size) (ok:=fun k_=>(((k_ ≠ gb491 ∧ (k_ ≠ gb492 ∧ k_ ≠ gb495)) ∧ k_ ≠ gb520) ∧ k_ ≠ gb533)) (n:=t504.length) (c:=co23) ?_).2.2;exact (by (with_reducible repeat (first|apply Kd.V_alloc|apply Kd.V_drewN|apply Kd.V_drew));exact (Kd.V_mono (zV gb533 (Kd.V_mono HO506.out (fun k_ hk=>(⟨hk,hk.2⟩ : _ ∧ k_ ≠ gb533))) (fun _ hk=>hk.2) (.string t521) (.int .i64 t522) (.int .i64 t523) (.int .i64 t524) (.int .i64 t525) (.int .i64 t526) (.int .i64 t527) (.int .i64 t528) (.slice Ao39 t529.length co39)) (fun _ h_=>h_.1))));(case side2=>exact (Kd.V_reads' HO506.out).2.1);(case side3=>exact Kd.C_below HR0_8.out (by repeat (first|(with_reducible first|exact HB.out|apply zA|apply zD|apply zE|refine zS ?_ GE491.out|refine zS ?_ GE492.out|refine zS ?_ GE495.out|refine zS ?_ GE520.out|refine zS ?_ GE533.out)|exact HB.out)));(case side4=>exact HC0_8.out);rintro e w53 ⟨rfl,hb⟩;have n0_:=zm (Kd.V_below (by (with_reducible repeat (first|apply Kd.V_alloc|apply Kd.V_drewN|apply Kd.V_drew));exact (Kd.V_mono (zV gb533 (Kd.V_mono HO506.out (fun k_ hk=>(⟨hk,hk.2⟩ : _ ∧ k_ ≠ gb533))) (fun _ hk=>hk.2) (.string t521) (.int .i64 t522) (.int .i64 t523) (.int .i64 t524) (.int .i64 t525) (.int .i64 t526) (.int .i64 t527) (.int .i64 t528) (.slice Ao39 t529.length co39)) (fun _ h_=>h_.1))) hb);have n1_:=zm (Kd.V_below (by (with_reducible repeat (first|apply Kd.V_alloc|apply Kd.V_drewN|apply Kd.V_drew));exact (Kd.V_mono (zV gb533 (Kd.V_mono HO518.out (fun k_ hk=>(⟨hk,hk.2⟩ : _ ∧ k_ ≠ gb533))) (fun _ hk=>hk.2) (.string t521) (.int .i64 t522) (.int .i64 t523) (.int .i64 t524) (.int .i64 t525) (.int .i64 t526) (.int .i64 t527) (.int .i64 t528) (.slice Ao39 t529.length co39)) (fun _ h_=>h_.1))) hb);have n2_:=zm (Kd.V_below (by (with_reducible repeat (first|apply Kd.V_alloc|apply Kd.V_drewN|apply Kd.V_drew));exact (Kd.V_mono (zV gb533 (Kd.V_mono HO531.out (fun k_ hk=>(⟨hk,hk.2⟩ : _ ∧ k_ ≠ gb533))) (fun _ hk=>hk.2) (.string t521) (.int .i64 t522) (.int .i64 t523) (.int .i64 t524) (.int .i64 t525) (.int .i64 t526) (.int .i64 t527) (.int .i64 t528) (.slice Ao39 t529.length co39)) (fun _ h_=>h_.1))) hb);have n3_:=zm (zb (g:=gb491) (o:=.cells #[.string a0_0,.int .i64 a0_1,.int .i64 a0_2,.int .i64 a0_3,.int .i64 a0_4,.int .i64 a0_5,.int .i64 a0_6,.int .i64 a0_7,.slice A0_8 l0_8.length c0_8] 28 (0,0)) (by (with_reducible repeat first|apply zd|apply ze|apply za);refine zF ?_ NB491_533.out _ _ _ _ _ _ _ _ _;exact BK491.out) hb);have n4_:=zm (zb (g:=gb492) (o:=.cells #[.int .i64 a1_0,.int .i64 a1_1,.int .i64 a1_2] 23 (0,0)) (by (with_reducible repeat first|apply zd|apply ze|apply za);refine zF ?_ NB492_533.out _ _ _ _ _ _ _ _ _;exact BK492.out) hb);have n5_:=zm (zb (g:=gb495) (o:=.cells #[.string t496,.int .i64 t497,.int .i64 t498,.int .i64 t499,.int .i64 t500,.int .i64 t501,.int .i64 t502,.int .i64 t503,.slice Ao23 t504.length co23] 28 (0,0)) (by (with_reducible repeat first|apply zd|apply ze|apply za);refine zF ?_ NB495_533.out _ _ _ _ _ _ _ _ _;exact BK495.out) hb);have n6_:=zm (zb (g:=gb520) (o:=.cells #[.string t508,.int .i64 t509,.int .i64 t510,.int .i64 t511,.int .i64 t512,.int .i64 t513,.int .i64 t514,.int .i64 t515,.slice Ao31 t516.length co31] 28 (0,0)) (by (with_reducible repeat first|apply zd|apply ze|apply za);refine zF ?_ NB520_533.out _ _ _ _ _ _ _ _ _;exact BK520.out) hb);have n7_:=zm (zb (g:=gb533) (o:=.cells #[.string t521,.int .i64 t522,.int .i64 t523,.int .i64 t524,.int .i64 t525,.int .i64 t526,.int .i64 t527,.int .i64 t528,.slice Ao39 t529.length co39] 28 (0,0)) (by (with_reducible repeat first|apply zd|apply ze|apply za);refine blk_put (cs:=#[.string t521,.int .i64 t522,.int .i64 t523,.int .i64 t524,.int .i64 t525,.int .i64 t526,.int .i64 t527,.int .i64 t528,.slice none 0 0]) ?_ 8 _ rfl;(with_reducible repeat first|apply zd|apply ze|apply za);refine blk_put (cs:=#[.string t521,.int .i64 t522,.int .i64 t523,.int .i64 t524,.int .i64 t525,.int .i64 t526,.int .i64 t527,.int .i64 0,.slice none 0 0]) ?_ 7 _ rfl;(with_reducible repeat first|apply zd|apply ze|apply za);refine blk_put (cs:=#[.string t521,.int .i64 t522,.int .i64 t523,.int .i64 t524,.int .i64 t525,.int .i64 t526,.int .i64 0,.int .i64 0,.slice none 0 0]) ?_ 6 _ rfl;(with_reducible repeat first|apply zd|apply ze|apply za);refine blk_put (cs:=#[.string t521,.int .i64 t522,.int .i64 t523,.int .i64 t524,.int .i64 t525,.int .i64 0,.int .i64 0,.int .i64 0,.slice none 0 0]) ?_ 5 _ rfl;(with_reducible repeat first|apply zd|apply ze|apply za);refine blk_put (cs:=#[.string t521,.int .i64 t522,.int .i64 t523,.int .i64 t524,.int .i64 0,.int .i64 0,.int .i64 0,.int .i64 0,.slice none 0 0]) ?_ 4 _ rfl;(with_reducible repeat first|apply zd|apply ze|apply za);refine blk_put (cs:=#[.string t521,.int .i64 t522,.int .i64 t523,.int .i64 0,.int .i64 0,.int .i64 0,.int .i64 0,.int .i64 0,.slice none 0 0]) ?_ 3 _ rfl;(with_reducible repeat first|apply zd|apply ze|apply za);refine blk_put (cs:=#[.string t521,.int .i64 t522,.int .i64 0,.int .i64 0,.int .i64 0,.int .i64 0,.int .i64 0,.int .i64 0,.slice none 0 0]) ?_ 2 _ rfl;(with_reducible repeat first|apply zd|apply ze|apply za);refine blk_put (cs:=#[.string t521,.int .i64 0,.int .i64 0,.int .i64 0,.int .i64 0,.int .i64 0,.int .i64 0,.int .i64 0,.slice none 0 0]) ?_ 1 _ rfl;(with_reducible repeat first|apply zd|apply ze|apply za);refine blk_put (cs:=#[.string (⟨#[]⟩ : ByteArray),.int .i64 0,.int .i64 0,.int .i64 0,.int .i64 0,.int .i64 0,.int .i64 0,.int .i64 0,.slice none 0 0]) ?_ 0 _ rfl;(with_reducible repeat first|apply zd|apply ze|apply za);exact BK533.out) hb);have n8_:=zm (below_step (by repeat (first|(with_reducible first|exact HB.out|apply zA|apply zD|apply zE|refine zS ?_ GE491.out|refine zS ?_ GE492.out|refine zS ?_ GE495.out|refine zS ?_ GE520.out|refine zS ?_ GE533.out)|exact HB.out)) hb);clear HO506 HO518 HO531 BK491 BK492 BK495 BK520 BK533 HB;have HO506:=n0_;have HO518:=n1_;have HO531:=n2_;have BK491:=n3_;have BK492:=n4_;have BK495:=n5_;have BK520:=n6_;have BK533:=n7_;have HB:=n8_;clear n0_ n1_ n2_ n3_ n4_ n5_ n6_ n7_ n8_;(try clear hb);(try clear hb2);(try clear hk);(try clear hi);have hnb54:=NB533_492.out;have hnc54:=NB492_533.out;have hnb55:=NB533_520.out;have hnc55:=NB520_533.out;have hcz56_0:=zc BK533.out 0 (.string t521) rfl;have hcz56_1:=zc BK533.out 1 (.int .i64 t522) rfl;have hcz56_2:=zc BK533.out 2 (.int .i64 t523) rfl;have hcz56_3:=zc BK533.out 3 (.int .i64 t524) rfl;have hcz56_4:=zc BK533.out 4 (.int .i64 t525) rfl;have hcz56_5:=zc BK533.out 5 (.int .i64 t526) rfl;have hcz56_6:=zc BK533.out 6 (.int .i64 t527) rfl;have hcz56_7:=zc BK533.out 7 (.int .i64 t528) rfl;have hcz56_8:=zc BK533.out 8 (.slice Ao39 t529.length co39) rfl;have hfz56_0:=zf BK533.out 0;have hfz56_1:=zf BK533.out 1;have hfz56_2:=zf BK533.out 2;have hfz56_3:=zf BK533.out 3;have hfz56_4:=zf BK533.out 4;have hfz56_5:=zf BK533.out 5;have hfz56_6:=zf BK533.out 6;have hfz56_7:=zf BK533.out 7;have hfz56_8:=zf BK533.out 8;have hcz57_0:=zc BK491.out 0 (.string a0_0) rfl;have hcz57_1:=zc BK491.out 1 (.int .i64 a0_1) rfl;have hcz57_2:=zc BK491.out 2 (.int .i64 a0_2) rfl;have hcz57_3:=zc BK491.out 3 (.int .i64 a0_3) rfl;have hcz57_4:=zc BK491.out 4 (.int .i64 a0_4) rfl;have hcz57_5:=zc BK491.out 5 (.int .i64 a0_5) rfl;have hcz57_6:=zc BK491.out 6 (.int .i64 a0_6) rfl;have hcz57_7:=zc BK491.out 7 (.int .i64 a0_7) rfl;have hcz57_8:=zc BK491.out 8 (.slice A0_8 l0_8.length c0_8) rfl;have hfz57_0:=zf BK491.out 0;have hfz57_1:=zf BK491.out 1;have hfz57_2:=zf BK491.out 2;have hfz57_3:=zf BK491.out 3;have hfz57_4:=zf BK491.out 4;have hfz57_5:=zf BK491.out 5;have hfz57_6:=zf BK491.out 6;have hfz57_7:=zf BK491.out 7;have hfz57_8:=zf BK491.out 8)|(go_at_call 49;(with_reducible refine (metrolabref18_Same.calls k t521 t522 t523 t524 t525 t526 t527 t528 _ _ t529 a0_0 a0_1 a0_2 a0_3 a0_4 a0_5 a0_6 a0_7 _ _ l0_8 t535 _ ?side1 ?side2 ?side3 ?side4 A43.out).mono ?_);(case side1=>repeat (first|exact (Kd.V_reads' HO531.out).2.2|(with_reducible refine Kd.C_alloc ?_ _)|(with_reducible refine Kd.C_drewN ?_ _)|(with_reducible refine Kd.C_drew ?_)));(case side2=>exact (Kd.V_reads' HO531.out).2.1);(case side3=>repeat (first|exact (Kd.C_below HR0_8.out HB.out)|(with_reducible refine Kd.C_alloc ?_ _)|(with_reducible refine Kd.C_drewN ?_ _)|(with_reducible refine Kd.C_drew ?_)));(case side4=>exact HC0_8.out);rintro e w58 ⟨rfl,hb⟩;have n0_:=zm (Kd.V_below (by (with_reducible repeat (first|apply Kd.V_alloc|apply Kd.V_drewN|apply Kd.V_drew));exact HO506.out) hb);have n1_:=zm (Kd.V_below (by (with_reducible repeat (first|apply Kd.V_alloc|apply Kd.V_drewN|apply Kd.V_drew));exact HO518.out) hb);have n2_:=zm (Kd.V_below (by (with_reducible repeat (first|apply Kd.V_alloc|apply Kd.V_drewN|apply Kd.V_drew));exact HO531.out) hb);have n3_:=zm (zb (g:=gb491) (o:=.cells #[.string a0_0,.int .i64 a0_1,.int .i64 a0_2,.int .i64 a0_3,.int .i64 a0_4,.int .i64 a0_5,.int .i64 a0_6,.int .i64 a0_7,.slice A0_8 l0_8.length c0_8] 28 (0,0)) (by (with_reducible repeat first|apply zd|apply ze|apply za);exact BK491.out) hb);have n4_:=zm (zb (g:=gb492) (o:=.cells #[.int .i64 a1_0,.int .i64 a1_1,.int .i64 a1_2] 23 (0,0)) (by (with_reducible repeat first|apply zd|apply ze|apply za);exact BK492.out) hb);have n5_:=zm (zb (g:=gb495) (o:=.cells #[.string t496,.int .i64 t497,.int .i64 t498,.int .i64 t499,.int .i64 t500,.int .i64 t501,.int .i64 t502,.int .i64 t503,.slice Ao23 t504.length co23] 28 (0,0)) (by (with_reducible repeat first|apply zd|apply ze|apply za);exact BK495.out) hb);have n6_:=zm (zb (g:=gb520) (o:=.cells #[.string t508,.int .i64 t509,.int .i64 t510,.int .i64 t511,.int .i64 t512,.int .i64 t513,.int .i64 t514,.int .i64 t515,.slice Ao31 t516.length co31] 28 (0,0)) (by (with_reducible repeat first|apply zd|apply ze|apply za);exact BK520.out) hb);have n7_:=zm (zb (g:=gb533) (o:=.cells #[.string t521,.int .i64 t522,.int .i64 t523,.int .i64 t524,.int .i64 t525,.int .i64 t526,.int .i64 t527,.int .i64 t528,.slice Ao39 t529.length co39] 28 (0,0)) (by (with_reducible repeat first|apply zd|apply ze|apply za);exact BK533.out) hb);have n8_:=zm (below_step (by repeat (first|(with_reducible first|exact HB.out|apply zA|apply zD|apply zE|refine zS ?_ GE491.out|refine zS ?_ GE492.out|refine zS ?_ GE495.out|refine zS ?_ GE520.out|refine zS ?_ GE533.out)|exact HB.out)) hb);clear HO506 HO518 HO531 BK491 BK492 BK495 BK520 BK533 HB;have HO506:=n0_;have HO518:=n1_;have HO531:=n2_;have BK491:=n3_;have BK492:=n4_;have BK495:=n5_;have BK520:=n6_;have BK533:=n7_;have HB:=n8_;clear n0_ n1_ n2_ n3_ n4_ n5_ n6_ n7_ n8_;(try clear hb);(try clear hb2);(try clear hk);(try clear hi)))
       go_meet
       case rel=>exact ⟨_,(!t535),(by first|rfl|(simp;done)|(simp [*];done)),H',⟨by first|omega|exact Nat.le_refl _⟩,⟨by (with_reducible repeat (first|apply Kd.V_alloc|apply Kd.V_drewN|apply Kd.V_drew));exact Kd.V_mono HO506.out (fun _ hk=>⟨hk.1.1.1,⟨hk.1.1.2.1,⟨hk.1.1.2.2,⟨hk.1.2,hk.2⟩⟩⟩⟩)⟩,⟨by (with_reducible repeat (first|apply Kd.V_alloc|apply Kd.V_drewN|apply Kd.V_drew));exact Kd.V_mono HO518.out (fun _ hk=>⟨hk.1.1.1,⟨hk.1.1.2.1,⟨hk.1.1.2.2,⟨hk.1.2,hk.2⟩⟩⟩⟩)⟩,⟨by (with_reducible repeat (first|apply Kd.V_alloc|apply Kd.V_drewN|apply Kd.V_drew));exact Kd.V_mono HO531.out (fun _ hk=>⟨hk.1.1,⟨hk.1.2.1,⟨hk.1.2.2.1,⟨hk.1.2.2.2,hk.2⟩⟩⟩⟩)⟩,⟨by (with_reducible repeat first|apply zd|apply ze|apply za);exact BK491.out⟩,⟨by (with_reducible repeat first|apply zd|apply ze|apply za);exact BK492.out⟩,⟨by (with_reducible repeat first|apply zd|apply ze|apply za);exact BK495.out⟩,⟨by (with_reducible repeat first|apply zd|apply ze|apply za);exact BK520.out⟩,⟨by (with_reducible repeat first|apply zd|apply ze|apply za);exact BK533.out⟩,⟨by repeat (first|(with_reducible first|exact HB.out|apply zA|apply zD|apply zE|refine zS ?_ GE491.out|refine zS ?_ GE492.out|refine zS ?_ GE495.out|refine zS ?_ GE520.out|refine zS ?_ GE533.out)|exact HB.out)⟩⟩
      ·rw [if_neg c42] at H
       exact (ret_dead H HRT.out).elim
     ·rw [if_neg c40] at H
      exact (ret_dead H HRT.out).elim
    case rest =>
     clear HC10
     try clear c1
     try clear c2
     try clear p2
     try clear c3
     try clear c4
     try clear c5
     try clear c6
     try clear p6
     try clear c7
     try clear c7b0
     try clear c7b1
     try clear c11
     try clear c13
     try clear c18
     try clear c19
     try clear c27
     try clear c28
     try clear c29
     try clear c31
     try clear c34
     try clear c35
     try clear c36
     try clear c37
     try clear c40
     try clear c40b0
     try clear c40b1
     try clear c40b2
     try clear c42
     try clear c44
     try clear c45
     try clear c46
     try clear c47
     try clear c49
     try clear c50
     try clear c51
     try clear c54
     try clear c55
     try clear c59
     try clear c60
     try clear c61
     try clear c62
     try clear c64
     try clear p64
     try clear c65
     try clear c66
     try clear hcz14_0
     try clear hcz14_1
     try clear hcz14_2
     try clear hcz14_3
     try clear hcz14_4
     try clear hcz14_5
     try clear hcz14_6
     try clear hcz14_7
     try clear hcz14_8
     try clear hcz16_0
     try clear hcz16_1
     try clear hcz16_2
     try clear hcz16_3
     try clear hcz16_4
     try clear hcz16_5
     try clear hcz16_6
     try clear hcz16_7
     try clear hcz16_8
     try clear hcz20_0
     try clear hcz20_1
     try clear hcz20_2
     try clear hcz20_3
     try clear hcz20_4
     try clear hcz20_5
     try clear hcz20_6
     try clear hcz20_7
     try clear hcz20_8
     try clear hcz22_0
     try clear hcz22_1
     try clear hcz22_2
     try clear hcz22_3
     try clear hcz22_4
     try clear hcz22_5
     try clear hcz22_6
     try clear hcz22_7
     try clear hcz22_8
     try clear hcz24_0
     try clear hcz24_1
     try clear hcz24_2
     try clear hcz24_3
     try clear hcz24_4
     try clear hcz24_5
     try clear hcz24_6
     try clear hcz24_7
     try clear hcz24_8
     try clear hcz30_0
     try clear hcz30_1
     try clear hcz30_2
     try clear hcz30_3
     try clear hcz30_4
     try clear hcz30_5
     try clear hcz30_6
     try clear hcz30_7
     try clear hcz30_8
     try clear hcz38_0
     try clear hcz38_1
     try clear hcz38_2
     try clear hcz38_3
     try clear hcz38_4
     try clear hcz38_5
     try clear hcz38_6
     try clear hcz38_7
     try clear hcz38_8
     try clear hcz48_0
     try clear hcz48_1
     try clear hcz48_2
     try clear hcz48_3
     try clear hcz48_4
     try clear hcz48_5
     try clear hcz48_6
     try clear hcz48_7
     try clear hcz48_8
     try clear hcz52_0
     try clear hcz52_1
     try clear hcz52_2
     try clear hcz52_3
     try clear hcz52_4
     try clear hcz52_5
     try clear hcz52_6
     try clear hcz52_7
     try clear hcz52_8
     try clear hcz56_0
     try clear hcz56_1
     try clear hcz56_2
     try clear hcz56_3
     try clear hcz56_4
     try clear hcz56_5
     try clear hcz56_6
     try clear hcz56_7
     try clear hcz56_8
     try clear hcz57_0
     try clear hcz57_1
     try clear hcz57_2
     try clear hcz57_3
     try clear hcz57_4
     try clear hcz57_5
     try clear hcz57_6
     try clear hcz57_7
     try clear hcz57_8
     try clear hcz63_0
     try clear hcz63_1
     try clear hcz63_2
     try clear hcz63_3
     try clear hcz63_4
     try clear hcz63_5
     try clear hcz63_6
     try clear hcz63_7
     try clear hcz63_8
     try clear hcz67_0
     try clear hcz67_1
     try clear hcz67_2
     try clear hcz67_3
     try clear hcz67_4
     try clear hcz67_5
     try clear hcz67_6
     try clear hcz67_7
     try clear hcz67_8
     try clear hfz14_0
     try clear hfz14_1
     try clear hfz14_2
     try clear hfz14_3
     try clear hfz14_4
     try clear hfz14_5
     try clear hfz14_6
     try clear hfz14_7
     try clear hfz14_8
     try clear hfz16_0
     try clear hfz16_1
     try clear hfz16_2
     try clear hfz16_3
     try clear hfz16_4
     try clear hfz16_5
     try clear hfz16_6
     try clear hfz16_7
     try clear hfz16_8
     try clear hfz20_0
     try clear hfz20_1
     try clear hfz20_2
     try clear hfz20_3
     try clear hfz20_4
     try clear hfz20_5
     try clear hfz20_6
     try clear hfz20_7
     try clear hfz20_8
     try clear hfz22_0
     try clear hfz22_1
     try clear hfz22_2
     try clear hfz22_3
     try clear hfz22_4
     try clear hfz22_5
     try clear hfz22_6
     try clear hfz22_7
     try clear hfz22_8
     try clear hfz24_0
     try clear hfz24_1
     try clear hfz24_2
     try clear hfz24_3
     try clear hfz24_4
     try clear hfz24_5
     try clear hfz24_6
     try clear hfz24_7
     try clear hfz24_8
     try clear hfz30_0
     try clear hfz30_1
     try clear hfz30_2
     try clear hfz30_3
     try clear hfz30_4
     try clear hfz30_5
     try clear hfz30_6
     try clear hfz30_7
     try clear hfz30_8
     try clear hfz38_0
     try clear hfz38_1
     try clear hfz38_2
     try clear hfz38_3
     try clear hfz38_4
     try clear hfz38_5
     try clear hfz38_6
     try clear hfz38_7
     try clear hfz38_8
     try clear hfz48_0
     try clear hfz48_1
     try clear hfz48_2
     try clear hfz48_3
     try clear hfz48_4
     try clear hfz48_5
     try clear hfz48_6
     try clear hfz48_7
     try clear hfz48_8
     try clear hfz52_0
     try clear hfz52_1
     try clear hfz52_2
     try clear hfz52_3
     try clear hfz52_4
     try clear hfz52_5
     try clear hfz52_6
     try clear hfz52_7
     try clear hfz52_8
     try clear hfz56_0
     try clear hfz56_1
     try clear hfz56_2
     try clear hfz56_3
     try clear hfz56_4
     try clear hfz56_5
     try clear hfz56_6
     try clear hfz56_7
     try clear hfz56_8
     try clear hfz57_0
     try clear hfz57_1
     try clear hfz57_2
     try clear hfz57_3
     try clear hfz57_4
     try clear hfz57_5
     try clear hfz57_6
     try clear hfz57_7
     try clear hfz57_8
     try clear hfz63_0
     try clear hfz63_1
     try clear hfz63_2
     try clear hfz63_3
     try clear hfz63_4
     try clear hfz63_5
     try clear hfz63_6
     try clear hfz63_7
     try clear hfz63_8
     try clear hfz67_0
     try clear hfz67_1
     try clear hfz67_2
     try clear hfz67_3
     try clear hfz67_4
     try clear hfz67_5
     try clear hfz67_6
     try clear hfz67_7
     try clear hfz67_8
     obtain ⟨kq,x64_9,rfl,HA,HJ9,HO_496008,HO_521008,HO_534008,BK491,BK492,BK495,BK520,BK533,HB⟩:=hcut
     cases kq with
     | zero => exact absurd HA.out (by simp [metrolablaw18_FeatureReturns.j0])
     | succ kj9 =>
      have H:=HA.out
      clear HA
      simp only [metrolablaw18_FeatureReturns.j0] at H
      by_cases c69 : x64_9 = true
      ·rw [if_pos c69] at H
       exact absurd ((Option.some.inj H).trans HRT.out) (by decide)
      ·replace c69:=Bool.eq_false_iff.mpr c69
       subst c69
       have H1 : ((feature_Move.f a0_0 a0_1 a0_2 a0_3 a0_4 a0_5 a0_6 a0_7 l0_8 a1_0 a1_1 a1_2).bind fun bt536=>(if bt536.2.2.2.2.2.2.2.2.2 = 0 then ((feature_Move.f bt536.1 bt536.2.1 bt536.2.2.1 bt536.2.2.2.1 bt536.2.2.2.2.1 bt536.2.2.2.2.2.1 bt536.2.2.2.2.2.2.1 bt536.2.2.2.2.2.2.2.1 bt536.2.2.2.2.2.2.2.2.1 (wrap64 (-a1_0)) (wrap64 (-a1_1)) (wrap64 (-a1_2))).bind fun bt549=>(if bt549.2.2.2.2.2.2.2.2.2 = 0 then ((metrolabref18_Same.f kj9 bt549.1 bt549.2.1 bt549.2.2.1 bt549.2.2.2.1 bt549.2.2.2.2.1 bt549.2.2.2.2.2.1 bt549.2.2.2.2.2.2.1 bt549.2.2.2.2.2.2.2.1 bt549.2.2.2.2.2.2.2.2.1 a0_0 a0_1 a0_2 a0_3 a0_4 a0_5 a0_6 a0_7 l0_8).bind fun t562=>(if t562 = true then ((metrolablaw18_awake.f).bind fun t563=>(some t563)) else (some false))) else (some false))) else (if bt536.2.2.2.2.2.2.2.2.2 = 2 then ((metrolablaw18_awake.f).bind fun t564=>(some t564)) else (some false)))) = some r:=by rw [if_neg (show ¬ (false = true) by decide)] at H;exact H
       clear H
       have H:=H1
       clear H1
       replace H:=Option.bind_eq_some_iff.mp H
       obtain ⟨⟨t536,t537,t538,t539,t540,t541,t542,t543,t544,t547⟩,A700,H⟩:=H
       replace H : (if t547 = 0 then ((feature_Move.f t536 t537 t538 t539 t540 t541 t542 t543 t544 (wrap64 (-a1_0)) (wrap64 (-a1_1)) (wrap64 (-a1_2))).bind fun bt549=>(if bt549.2.2.2.2.2.2.2.2.2 = 0 then ((metrolabref18_Same.f kj9 bt549.1 bt549.2.1 bt549.2.2.1 bt549.2.2.2.1 bt549.2.2.2.2.1 bt549.2.2.2.2.2.1 bt549.2.2.2.2.2.2.1 bt549.2.2.2.2.2.2.2.1 bt549.2.2.2.2.2.2.2.2.1 a0_0 a0_1 a0_2 a0_3 a0_4 a0_5 a0_6 a0_7 l0_8).bind fun t562=>(if t562 = true then ((metrolablaw18_awake.f).bind fun t563=>(some t563)) else (some false))) else (some false))) else (if t547 = 2 then ((metrolablaw18_awake.f).bind fun t564=>(some t564)) else (some false))) = some r:=H
       have A70:=zm A700
       clear A700
       by_cases c71 : t547 = 0
       ·rw [if_pos c71] at H
        have c71b0 : (t547 == 0) = true:=beq_iff_eq.mpr c71
        have c71b1 : (t547 != 0) = false:=bne_eq_false_iff_eq.mpr c71
        clear c71
        replace H:=Option.bind_eq_some_iff.mp H
        obtain ⟨⟨t549,t550,t551,t552,t553,t554,t555,t556,t557,t560⟩,A720,H⟩:=H
        replace H : (if t560 = 0 then ((metrolabref18_Same.f kj9 t549 t550 t551 t552 t553 t554 t555 t556 t557 a0_0 a0_1 a0_2 a0_3 a0_4 a0_5 a0_6 a0_7 l0_8).bind fun t562=>(if t562 = true then ((metrolablaw18_awake.f).bind fun t563=>(some t563)) else (some false))) else (some false)) = some r:=H
        have A72:=zm A720
        clear A720
        by_cases c73 : t560 = 0
        ·rw [if_pos c73] at H
         have c73b0 : (t560 == 0) = true:=beq_iff_eq.mpr c73
         have c73b1 : (t560 != 0) = false:=bne_eq_false_iff_eq.mpr c73
         clear c73
         replace H:=Option.bind_eq_some_iff.mp H
         obtain ⟨t562,A740,H⟩:=H
         replace H : (if t562 = true then ((metrolablaw18_awake.f).bind fun t563=>(some t563)) else (some false)) = some r:=H
         have A74:=zm A740
         clear A740
         by_cases c75 : t562 = true
         ·subst c75
          have H1 : ((metrolablaw18_awake.f).bind fun t563=>(some t563)) = some r:=by rw [if_pos rfl] at H;exact H
          clear H
          have H:=H1
          clear H1
          replace H:=Option.bind_eq_some_iff.mp H
          obtain ⟨t563,A760,H⟩:=H
          replace H : (some t563) = some r:=H
          have A76:=zm A760
          clear A760
          obtain rfl:=Option.some.inj H
          have hnb77:=NB491_492.out
          have hnc77:=NB492_491.out
          have hnb78:=NB491_495.out
          have hnc78:=NB495_491.out
          have hnb79:=NB491_520.out
          have hnc79:=NB520_491.out
          have hnb80:=NB491_533.out
          have hnc80:=NB533_491.out
          have hcz81_0:=zc BK491.out 0 (.string a0_0) rfl
          have hcz81_1:=zc BK491.out 1 (.int .i64 a0_1) rfl
          have hcz81_2:=zc BK491.out 2 (.int .i64 a0_2) rfl
          have hcz81_3:=zc BK491.out 3 (.int .i64 a0_3) rfl
          have hcz81_4:=zc BK491.out 4 (.int .i64 a0_4) rfl
          have hcz81_5:=zc BK491.out 5 (.int .i64 a0_5) rfl
          have hcz81_6:=zc BK491.out 6 (.int .i64 a0_6) rfl
          have hcz81_7:=zc BK491.out 7 (.int .i64 a0_7) rfl
          have hcz81_8:=zc BK491.out 8 (.slice A0_8 l0_8.length c0_8) rfl
          have hfz81_0:=zf BK491.out 0
          have hfz81_1:=zf BK491.out 1
          have hfz81_2:=zf BK491.out 2
          have hfz81_3:=zf BK491.out 3
          have hfz81_4:=zf BK491.out 4
          have hfz81_5:=zf BK491.out 5
          have hfz81_6:=zf BK491.out 6
          have hfz81_7:=zf BK491.out 7
          have hfz81_8:=zf BK491.out 8
          have hnb82:=NB492_495.out
          have hnc82:=NB495_492.out
          have hnb83:=NB492_520.out
          have hnc83:=NB520_492.out
          have hnb84:=NB492_533.out
          have hnc84:=NB533_492.out
          have hcz85_0:=zc BK492.out 0 (.int .i64 a1_0) rfl
          have hcz85_1:=zc BK492.out 1 (.int .i64 a1_1) rfl
          have hcz85_2:=zc BK492.out 2 (.int .i64 a1_2) rfl
          have hfz85_0:=zf BK492.out 0
          have hfz85_1:=zf BK492.out 1
          have hfz85_2:=zf BK492.out 2
          go_wp2_with (first|((with_reducible refine gate_callee (f:=50) rfl ?_);refine goesL_ (some 68) rfl rfl Try.func50 (by kernel_rfl) rfl #[.agg #[.string a0_0,.int .i64 a0_1,.int .i64 a0_2,.int .i64 a0_3,.int .i64 a0_4,.int .i64 a0_5,.int .i64 a0_6,.int .i64 a0_7,.slice A0_8 l0_8.length c0_8],.agg #[.int .i64 a1_0,.int .i64 a1_1,.int .i64 a1_2]] rfl (by (try simp only [List.map_toArray,List.map_cons,List.map_nil]);first|done|rfl|(simp only [List.length_drop,List.length_take];rfl)) ?_;(with_reducible refine (feature_Move.calls a0_0 a0_1 a0_2 a0_3 a0_4 a0_5 a0_6 a0_7 _ _ l0_8 a1_0 a1_1 a1_2 t536 t537 t538 t539 t540 t541 t542 t543 t544 t547 _ ?side1 ?side2 A70.out).mono ?_);(case side1=>repeat (first|exact (Kd.C_below HR0_8.out HB.out)|(with_reducible refine Kd.C_alloc ?_ _)|(with_reducible refine Kd.C_drewN ?_ _)|(with_reducible refine Kd.C_drew ?_)));(case side2=>exact HC0_8.out);rintro e w86 ⟨v545,rfl,ho0,hb⟩;refine ⟨_,rfl,?_⟩;have n0_:=zm (Kd.V_below (by (with_reducible repeat (first|apply Kd.V_alloc|apply Kd.V_drewN|apply Kd.V_drew));exact HO_496008.out) hb);have n1_:=zm (Kd.V_below (by (with_reducible repeat (first|apply Kd.V_alloc|apply Kd.V_drewN|apply Kd.V_drew));exact HO_521008.out) hb);have n2_:=zm (Kd.V_below (by (with_reducible repeat (first|apply Kd.V_alloc|apply Kd.V_drewN|apply Kd.V_drew));exact HO_534008.out) hb);have n3_:=zm (Kd.V_lower (Kd.V_mono (ok':=fun k_=>k_ ≠ gb491 ∧ k_ ≠ gb492 ∧ k_ ≠ gb495 ∧ k_ ≠ gb520 ∧ k_ ≠ gb533) ho0 (fun k_ hk_=>⟨(Kd.freshB (g:=gb491) (o:=.cells #[.string a0_0,.int .i64 a0_1,.int .i64 a0_2,.int .i64 a0_3,.int .i64 a0_4,.int .i64 a0_5,.int .i64 a0_6,.int .i64 a0_7,.slice A0_8 l0_8.length c0_8] 28 (0,0)) (by (with_reducible repeat first|apply zd|apply ze|apply za);exact BK491.out) k_ hk_),(Kd.freshB (g:=gb492) (o:=.cells #[.int .i64 a1_0,.int .i64 a1_1,.int .i64 a1_2] 23 (0,0)) (by (with_reducible repeat first|apply zd|apply ze|apply za);exact BK492.out) k_ hk_),(Kd.freshB (g:=gb495) (o:=.cells #[.string t496,.int .i64 t497,.int .i64 t498,.int .i64 t499,.int .i64 t500,.int .i64 t501,.int .i64 t502,.int .i64 t503,.slice Ao23 t504.length co23] 28 (0,0)) (by (with_reducible repeat first|apply zd|apply ze|apply za);exact BK495.out) k_ hk_),(Kd.freshB (g:=gb520) (o:=.cells #[.string t508,.int .i64 t509,.int .i64 t510,.int .i64 t511,.int .i64 t512,.int .i64 t513,.int .i64 t514,.int .i64 t515,.slice Ao31 t516.length co31] 28 (0,0)) (by (with_reducible repeat first|apply zd|apply ze|apply za);exact BK520.out) k_ hk_),(Kd.freshB (g:=gb533) (o:=.cells #[.string t521,.int .i64 t522,.int .i64 t523,.int .i64 t524,.int .i64 t525,.int .i64 t526,.int .i64 t527,.int .i64 t528,.slice Ao39 t529.length co39] 28 (0,0)) (by (with_reducible repeat first|apply zd|apply ze|apply za);exact BK533.out) k_ hk_)⟩)) (below_size (by repeat (first|(with_reducible first|exact HB.out|apply zA|apply zD|apply zE|refine zS ?_ GE491.out|refine zS ?_ GE492.out|refine zS ?_ GE495.out|refine zS ?_ GE520.out|refine zS ?_ GE533.out)|exact HB.out))));have n4_:=zm (zb (g:=gb491) (o:=.cells #[.string a0_0,.int .i64 a0_1,.int .i64 a0_2,.int .i64 a0_3,.int .i64 a0_4,.int .i64 a0_5,.int .i64 a0_6,.int .i64 a0_7,.slice A0_8 l0_8.length c0_8] 28 (0,0)) (by (with_reducible repeat first|apply zd|apply ze|apply za);exact BK491.out) hb);have n5_:=zm (zb (g:=gb492) (o:=.cells #[.int .i64 a1_0,.int .i64 a1_1,.int .i64 a1_2] 23 (0,0)) (by (with_reducible repeat first|apply zd|apply ze|apply za);exact BK492.out) hb);have n6_:=zm (zb (g:=gb495) (o:=.cells #[.string t496,.int .i64 t497,.int .i64 t498,.int .i64 t499,.int .i64 t500,.int .i64 t501,.int .i64 t502,.int .i64 t503,.slice Ao23 t504.length co23] 28 (0,0)) (by (with_reducible repeat first|apply zd|apply ze|apply za);exact BK495.out) hb);have n7_:=zm (zb (g:=gb520) (o:=.cells #[.string t508,.int .i64 t509,.int .i64 t510,.int .i64 t511,.int .i64 t512,.int .i64 t513,.int .i64 t514,.int .i64 t515,.slice Ao31 t516.length co31] 28 (0,0)) (by (with_reducible repeat first|apply zd|apply ze|apply za);exact BK520.out) hb);have n8_:=zm (zb (g:=gb533) (o:=.cells #[.string t521,.int .i64 t522,.int .i64 t523,.int .i64 t524,.int .i64 t525,.int .i64 t526,.int .i64 t527,.int .i64 t528,.slice Ao39 t529.length co39] 28 (0,0)) (by (with_reducible repeat first|apply zd|apply ze|apply za);exact BK533.out) hb);have n9_:=zm (below_step (by repeat (first|(with_reducible first|exact HB.out|apply zA|apply zD|apply zE|refine zS ?_ GE491.out|refine zS ?_ GE492.out|refine zS ?_ GE495.out|refine zS ?_ GE520.out|refine zS ?_ GE533.out)|exact HB.out)) hb);clear HO_496008 HO_521008 HO_534008 BK491 BK492 BK495 BK520 BK533 HB;have HO_496008:=n0_;have HO_521008:=n1_;have HO_534008:=n2_;have HO546:=n3_;have BK491:=n4_;have BK492:=n5_;have BK495:=n6_;have BK520:=n7_;have BK533:=n8_;have HB:=n9_;clear n0_ n1_ n2_ n3_ n4_ n5_ n6_ n7_ n8_ n9_;(try clear hb);(try clear hb2);(try clear hk);(try clear hi);(try clear ho0))|((with_reducible refine gate_dst (N:=15) rfl ?_);refine box_event ?hg (N:=15) ?hd (cs:=#[.string (⟨#[]⟩ : ByteArray),.int .i64 0,.int .i64 0,.int .i64 0,.int .i64 0,.int .i64 0,.int .i64 0,.int .i64 0,.slice none 0 0]) (t:=28) ?hr ?_;(case hd=>rfl);(case hg=>rfl);(case hr=>first|(go_simp;done)|(go_simp;rfl));intro gb548 hg w87 hbox hb;have n0_:=zm (Kd.V_below (Kd.V_elderB (by (with_reducible repeat (first|apply Kd.V_alloc|apply Kd.V_drewN|apply Kd.V_drew));exact HO_496008.out) gb548 (Nat.le_of_eq hg.symm)) hb);have n1_:=zm (Kd.V_below (Kd.V_elderB (by (with_reducible repeat (first|apply Kd.V_alloc|apply Kd.V_drewN|apply Kd.V_drew));exact HO_521008.out) gb548 (Nat.le_of_eq hg.symm)) hb);have n2_:=zm (Kd.V_below (Kd.V_elderB (by (with_reducible repeat (first|apply Kd.V_alloc|apply Kd.V_drewN|apply Kd.V_drew));exact HO_534008.out) gb548 (Nat.le_of_eq hg.symm)) hb);have n3_:=zm (Kd.V_below (Kd.V_elderB (by (with_reducible repeat (first|apply Kd.V_alloc|apply Kd.V_drewN|apply Kd.V_drew));exact HO546.out) gb548 (Nat.le_of_eq hg.symm)) hb);have n4_:=zm (zb (g:=gb491) (o:=.cells #[.string a0_0,.int .i64 a0_1,.int .i64 a0_2,.int .i64 a0_3,.int .i64 a0_4,.int .i64 a0_5,.int .i64 a0_6,.int .i64 a0_7,.slice A0_8 l0_8.length c0_8] 28 (0,0)) (by (with_reducible repeat first|apply zd|apply ze|apply za);exact BK491.out) hb);have n5_:=zm (zb (g:=gb492) (o:=.cells #[.int .i64 a1_0,.int .i64 a1_1,.int .i64 a1_2] 23 (0,0)) (by (with_reducible repeat first|apply zd|apply ze|apply za);exact BK492.out) hb);have n6_:=zm (zb (g:=gb495) (o:=.cells #[.string t496,.int .i64 t497,.int .i64 t498,.int .i64 t499,.int .i64 t500,.int .i64 t501,.int .i64 t502,.int .i64 t503,.slice Ao23 t504.length co23] 28 (0,0)) (by (with_reducible repeat first|apply zd|apply ze|apply za);exact BK495.out) hb);have n7_:=zm (zb (g:=gb520) (o:=.cells #[.string t508,.int .i64 t509,.int .i64 t510,.int .i64 t511,.int .i64 t512,.int .i64 t513,.int .i64 t514,.int .i64 t515,.slice Ao31 t516.length co31] 28 (0,0)) (by (with_reducible repeat first|apply zd|apply ze|apply za);exact BK520.out) hb);have n8_:=zm (zb (g:=gb533) (o:=.cells #[.string t521,.int .i64 t522,.int .i64 t523,.int .i64 t524,.int .i64 t525,.int .i64 t526,.int .i64 t527,.int .i64 t528,.slice Ao39 t529.length co39] 28 (0,0)) (by (with_reducible repeat first|apply zd|apply ze|apply za);exact BK533.out) hb);have n9_:=zm (below_step (by repeat (first|(with_reducible first|exact HB.out|apply zA|apply zD|apply zE|refine zS ?_ GE491.out|refine zS ?_ GE492.out|refine zS ?_ GE495.out|refine zS ?_ GE520.out|refine zS ?_ GE533.out)|exact HB.out)) hb);have n10_:=zm (hbox);have n11_:=zm ((by rw [hg];exact (below_size (by repeat (first|(with_reducible first|exact HB.out|apply zA|apply zD|apply zE|refine zS ?_ GE491.out|refine zS ?_ GE492.out|refine zS ?_ GE495.out|refine zS ?_ GE520.out|refine zS ?_ GE533.out)|exact HB.out))) : w.heap.size ≤ gb548));have n12_:=zm ((by rw [hg];exact (below_size (by repeat (first|(with_reducible first|exact HB.out|apply zA|apply zD|apply zE|refine zS ?_ GE491.out|refine zS ?_ GE492.out|refine zS ?_ GE495.out|refine zS ?_ GE520.out|refine zS ?_ GE533.out)|exact HB.out))) : w.heap.size ≤ gb548));have n13_:=zm ((by rw [hg];exact Nat.ne_of_lt (blk_lt (g:=gb491) (o:=.cells #[.string a0_0,.int .i64 a0_1,.int .i64 a0_2,.int .i64 a0_3,.int .i64 a0_4,.int .i64 a0_5,.int .i64 a0_6,.int .i64 a0_7,.slice A0_8 l0_8.length c0_8] 28 (0,0)) (by (with_reducible repeat first|apply zd|apply ze|apply za);exact BK491.out)) : gb491 ≠ gb548));have n14_:=zm ((by rw [hg];exact Nat.ne_of_gt (blk_lt (g:=gb491) (o:=.cells #[.string a0_0,.int .i64 a0_1,.int .i64 a0_2,.int .i64 a0_3,.int .i64 a0_4,.int .i64 a0_5,.int .i64 a0_6,.int .i64 a0_7,.slice A0_8 l0_8.length c0_8] 28 (0,0)) (by (with_reducible repeat first|apply zd|apply ze|apply za);exact BK491.out)) : gb548 ≠ gb491));have n15_:=zm ((by rw [hg];exact Nat.ne_of_lt (blk_lt (g:=gb492) (o:=.cells #[.int .i64 a1_0,.int .i64 a1_1,.int .i64 a1_2] 23 (0,0)) (by (with_reducible repeat first|apply zd|apply ze|apply za);exact BK492.out)) : gb492 ≠ gb548));have n16_:=zm ((by rw [hg];exact Nat.ne_of_gt (blk_lt (g:=gb492) (o:=.cells #[.int .i64 a1_0,.int .i64 a1_1,.int .i64 a1_2] 23 (0,0)) (by (with_reducible repeat first|apply zd|apply ze|apply za);exact BK492.out)) : gb548 ≠ gb492));have n17_:=zm ((by rw [hg];exact Nat.ne_of_lt (blk_lt (g:=gb495) (o:=.cells #[.string t496,.int .i64 t497,.int .i64 t498,.int .i64 t499,.int .i64 t500,.int .i64 t501,.int .i64 t502,.int .i64 t503,.slice Ao23 t504.length co23] 28 (0,0)) (by (with_reducible repeat first|apply zd|apply ze|apply za);exact BK495.out)) : gb495 ≠ gb548));have n18_:=zm ((by rw [hg];exact Nat.ne_of_gt (blk_lt (g:=gb495) (o:=.cells #[.string t496,.int .i64 t497,.int .i64 t498,.int .i64 t499,.int .i64 t500,.int .i64 t501,.int .i64 t502,.int .i64 t503,.slice Ao23 t504.length co23] 28 (0,0)) (by (with_reducible repeat first|apply zd|apply ze|apply za);exact BK495.out)) : gb548 ≠ gb495));have n19_:=zm ((by rw [hg];exact Nat.ne_of_lt (blk_lt (g:=gb520) (o:=.cells #[.string t508,.int .i64 t509,.int .i64 t510,.int .i64 t511,.int .i64 t512,.int .i64 t513,.int .i64 t514,.int .i64 t515,.slice Ao31 t516.length co31] 28 (0,0)) (by (with_reducible repeat first|apply zd|apply ze|apply za);exact BK520.out)) : gb520 ≠ gb548));have n20_:=zm ((by rw [hg];exact Nat.ne_of_gt (blk_lt (g:=gb520) (o:=.cells #[.string t508,.int .i64 t509,.int .i64 t510,.int .i64 t511,.int .i64 t512,.int .i64 t513,.int .i64 t514,.int .i64 t515,.slice Ao31 t516.length co31] 28 (0,0)) (by (with_reducible repeat first|apply zd|apply ze|apply za);exact BK520.out)) : gb548 ≠ gb520));have n21_:=zm ((by rw [hg];exact Nat.ne_of_lt (blk_lt (g:=gb533) (o:=.cells #[.string t521,.int .i64 t522,.int .i64 t523,.int .i64 t524,.int .i64 t525,.int .i64 t526,.int .i64 t527,.int .i64 t528,.slice Ao39 t529.length co39] 28 (0,0)) (by (with_reducible repeat first|apply zd|apply ze|apply za);exact BK533.out)) : gb533 ≠ gb548));have n22_:=zm ((by rw [hg];exact Nat.ne_of_gt (blk_lt (g:=gb533) (o:=.cells #[.string t521,.int .i64 t522,.int .i64 t523,.int .i64 t524,.int .i64 t525,.int .i64 t526,.int .i64 t527,.int .i64 t528,.slice Ao39 t529.length co39] 28 (0,0)) (by (with_reducible repeat first|apply zd|apply ze|apply za);exact BK533.out)) : gb548 ≠ gb533));clear HO_496008 HO_521008 HO_534008 HO546 BK491 BK492 BK495 BK520 BK533 HB;have HO_496008:=n0_;have HO_521008:=n1_;have HO_534008:=n2_;have HO546:=n3_;have BK491:=n4_;have BK492:=n5_;have BK495:=n6_;have BK520:=n7_;have BK533:=n8_;have HB:=n9_;have BK548:=n10_;have GW548:=n11_;have GE548:=n12_;have NB491_548:=n13_;have NB548_491:=n14_;have NB492_548:=n15_;have NB548_492:=n16_;have NB495_548:=n17_;have NB548_495:=n18_;have NB520_548:=n19_;have NB548_520:=n20_;have NB533_548:=n21_;have NB548_533:=n22_;clear n0_ n1_ n2_ n3_ n4_ n5_ n6_ n7_ n8_ n9_ n10_ n11_ n12_ n13_ n14_ n15_ n16_ n17_ n18_ n19_ n20_ n21_ n22_;clear hb hbox hg;have hnb88:=NB548_491.out;have hnc88:=NB491_548.out;have hnb89:=NB548_492.out;have hnc89:=NB492_548.out;have hnb90:=NB548_495.out;have hnc90:=NB495_548.out;have hnb91:=NB548_520.out;have hnc91:=NB520_548.out;have hnb92:=NB548_533.out;have hnc92:=NB533_548.out;have hcz93_0:=zc BK548.out 0 (.string (⟨#[]⟩ : ByteArray)) rfl;have hcz93_1:=zc BK548.out 1 (.int .i64 0) rfl;have hcz93_2:=zc BK548.out 2 (.int .i64 0) rfl;have hcz93_3:=zc BK548.out 3 (.int .i64 0) rfl;have hcz93_4:=zc BK548.out 4 (.int .i64 0) rfl;have hcz93_5:=zc BK548.out 5 (.int .i64 0) rfl;have hcz93_6:=zc BK548.out 6 (.int .i64 0) rfl;have hcz93_7:=zc BK548.out 7 (.int .i64 0) rfl;have hcz93_8:=zc BK548.out 8 (.slice none 0 0) rfl;have hfz93_0:=zf BK548.out 0;have hfz93_1:=zf BK548.out 1;have hfz93_2:=zf BK548.out 2;have hfz93_3:=zf BK548.out 3;have hfz93_4:=zf BK548.out 4;have hfz93_5:=zf BK548.out 5;have hfz93_6:=zf BK548.out 6;have hfz93_7:=zf BK548.out 7;have hfz93_8:=zf BK548.out 8;obtain ⟨Ao94,co94,eo94⟩:=Kd.V_slice HO546.out;subst eo94;have hcz95_0:=zc BK492.out 0 (.int .i64 a1_0) rfl;have hcz95_1:=zc BK492.out 1 (.int .i64 a1_1) rfl;have hcz95_2:=zc BK492.out 2 (.int .i64 a1_2) rfl;have hfz95_0:=zf BK492.out 0;have hfz95_1:=zf BK492.out 1;have hfz95_2:=zf BK492.out 2)|((with_reducible refine gate_callee (f:=50) rfl ?_);refine goesL_ (some 90) rfl rfl Try.func50 (by kernel_rfl) rfl #[.agg #[.string t536,.int .i64 t537,.int .i64 t538,.int .i64 t539,.int .i64 t540,.int .i64 t541,.int .i64 t542,.int .i64 t543,.slice Ao94 t544.length co94],.agg #[.int .i64 (wrap64 (-a1_0)),.int .i64 (wrap64 (-a1_1)),.int .i64 (wrap64 (-a1_2))]] rfl (by (try simp only [List.map_toArray,List.map_cons,List.map_nil]);first|done|rfl|(simp only [List.length_drop,List.length_take];rfl)) ?_;(with_reducible refine (feature_Move.calls t536 t537 t538 t539 t540 t541 t542 t543 _ _ t544 (wrap64 (-a1_0)) (wrap64 (-a1_1)) (wrap64 (-a1_2)) t549 t550 t551 t552 t553 t554 t555 t556 t557 t560 _ ?side1 ?side2 A72.out).mono ?_);(case side1=>refine (Kd.V_reads' (e:=104) (base:=w.heap.size) (ok:=fun k_=>((k_ ≠ gb491 ∧ (k_ ≠ gb492 ∧ (k_ ≠ gb495 ∧ (k_ ≠ gb520 ∧ k_ ≠ gb533)))) ∧ k_ ≠ gb548)) (n:=t544.length) (c:=co94) ?_).2.2;exact (by (with_reducible repeat (first|apply Kd.V_alloc|apply Kd.V_drewN|apply Kd.V_drew));exact (Kd.V_mono (zV gb548 (Kd.V_mono HO546.out (fun k_ hk=>(⟨hk,hk.2⟩ : _ ∧ k_ ≠ gb548))) (fun _ hk=>hk.2) (.string t536) (.int .i64 t537) (.int .i64 t538) (.int .i64 t539) (.int .i64 t540) (.int .i64 t541) (.int .i64 t542) (.int .i64 t543) (.slice Ao94 t544.length co94)) (fun _ h_=>h_.1))));(case side2=>exact (Kd.V_reads' HO546.out).2.1);rintro e w96 ⟨v558,rfl,ho0,hb⟩;refine ⟨_,rfl,?_⟩;have n0_:=zm (Kd.V_below (by (with_reducible repeat (first|apply Kd.V_alloc|apply Kd.V_drewN|apply Kd.V_drew));exact (Kd.V_mono (zV gb548 (Kd.V_mono HO_496008.out (fun k_ hk=>(⟨hk,hk.2⟩ : _ ∧ k_ ≠ gb548))) (fun _ hk=>hk.2) (.string t536) (.int .i64 t537) (.int .i64 t538) (.int .i64 t539) (.int .i64 t540) (.int .i64 t541) (.int .i64 t542) (.int .i64 t543) (.slice Ao94 t544.length co94)) (fun _ h_=>h_.1))) hb);have n1_:=zm (Kd.V_below (by (with_reducible repeat (first|apply Kd.V_alloc|apply Kd.V_drewN|apply Kd.V_drew));exact (Kd.V_mono (zV gb548 (Kd.V_mono HO_521008.out (fun k_ hk=>(⟨hk,hk.2⟩ : _ ∧ k_ ≠ gb548))) (fun _ hk=>hk.2) (.string t536) (.int .i64 t537) (.int .i64 t538) (.int .i64 t539) (.int .i64 t540) (.int .i64 t541) (.int .i64 t542) (.int .i64 t543) (.slice Ao94 t544.length co94)) (fun _ h_=>h_.1))) hb);have n2_:=zm (Kd.V_below (by (with_reducible repeat (first|apply Kd.V_alloc|apply Kd.V_drewN|apply Kd.V_drew));exact (Kd.V_mono (zV gb548 (Kd.V_mono HO_534008.out (fun k_ hk=>(⟨hk,hk.2⟩ : _ ∧ k_ ≠ gb548))) (fun _ hk=>hk.2) (.string t536) (.int .i64 t537) (.int .i64 t538) (.int .i64 t539) (.int .i64 t540) (.int .i64 t541) (.int .i64 t542) (.int .i64 t543) (.slice Ao94 t544.length co94)) (fun _ h_=>h_.1))) hb);have n3_:=zm (Kd.V_below (by (with_reducible repeat (first|apply Kd.V_alloc|apply Kd.V_drewN|apply Kd.V_drew));exact (Kd.V_mono (zV gb548 (Kd.V_mono HO546.out (fun k_ hk=>(⟨hk,hk.2⟩ : _ ∧ k_ ≠ gb548))) (fun _ hk=>hk.2) (.string t536) (.int .i64 t537) (.int .i64 t538) (.int .i64 t539) (.int .i64 t540) (.int .i64 t541) (.int .i64 t542) (.int .i64 t543) (.slice Ao94 t544.length co94)) (fun _ h_=>h_.1))) hb);have n4_:=zm (Kd.V_lower (Kd.V_mono (ok':=fun k_=>k_ ≠ gb491 ∧ k_ ≠ gb492 ∧ k_ ≠ gb495 ∧ k_ ≠ gb520 ∧ k_ ≠ gb533 ∧ k_ ≠ gb548) ho0 (fun k_ hk_=>⟨(Kd.freshB (g:=gb491) (o:=.cells #[.string a0_0,.int .i64 a0_1,.int .i64 a0_2,.int .i64 a0_3,.int .i64 a0_4,.int .i64 a0_5,.int .i64 a0_6,.int .i64 a0_7,.slice A0_8 l0_8.length c0_8] 28 (0,0)) (by (with_reducible repeat first|apply zd|apply ze|apply za);refine zF ?_ NB491_548.out _ _ _ _ _ _ _ _ _;exact BK491.out) k_ hk_),(Kd.freshB (g:=gb492) (o:=.cells #[.int .i64 a1_0,.int .i64 a1_1,.int .i64 a1_2] 23 (0,0)) (by (with_reducible repeat first|apply zd|apply ze|apply za);refine zF ?_ NB492_548.out _ _ _ _ _ _ _ _ _;exact BK492.out) k_ hk_),(Kd.freshB (g:=gb495) (o:=.cells #[.string t496,.int .i64 t497,.int .i64 t498,.int .i64 t499,.int .i64 t500,.int .i64 t501,.int .i64 t502,.int .i64 t503,.slice Ao23 t504.length co23] 28 (0,0)) (by (with_reducible repeat first|apply zd|apply ze|apply za);refine zF ?_ NB495_548.out _ _ _ _ _ _ _ _ _;exact BK495.out) k_ hk_),(Kd.freshB (g:=gb520) (o:=.cells #[.string t508,.int .i64 t509,.int .i64 t510,.int .i64 t511,.int .i64 t512,.int .i64 t513,.int .i64 t514,.int .i64 t515,.slice Ao31 t516.length co31] 28 (0,0)) (by (with_reducible repeat first|apply zd|apply ze|apply za);refine zF ?_ NB520_548.out _ _ _ _ _ _ _ _ _;exact BK520.out) k_ hk_),(Kd.freshB (g:=gb533) (o:=.cells #[.string t521,.int .i64 t522,.int .i64 t523,.int .i64 t524,.int .i64 t525,.int .i64 t526,.int .i64 t527,.int .i64 t528,.slice Ao39 t529.length co39] 28 (0,0)) (by (with_reducible repeat first|apply zd|apply ze|apply za);refine zF ?_ NB533_548.out _ _ _ _ _ _ _ _ _;exact BK533.out) k_ hk_),(Kd.freshB (g:=gb548) (o:=.cells #[.string t536,.int .i64 t537,.int .i64 t538,.int .i64 t539,.int .i64 t540,.int .i64 t541,.int .i64 t542,.int .i64 t543,.slice Ao94 t544.length co94] 28 (0,0)) (by (with_reducible repeat first|apply zd|apply ze|apply za);refine blk_put (cs:=#[.string t536,.int .i64 t537,.int .i64 t538,.int .i64 t539,.int .i64 t540,.int .i64 t541,.int .i64 t542,.int .i64 t543,.slice none 0 0]) ?_ 8 _ rfl;(with_reducible repeat first|apply zd|apply ze|apply za);refine blk_put (cs:=#[.string t536,.int .i64 t537,.int .i64 t538,.int .i64 t539,.int .i64 t540,.int .i64 t541,.int .i64 t542,.int .i64 0,.slice none 0 0]) ?_ 7 _ rfl;(with_reducible repeat first|apply zd|apply ze|apply za);refine blk_put (cs:=#[.string t536,.int .i64 t537,.int .i64 t538,.int .i64 t539,.int .i64 t540,.int .i64 t541,.int .i64 0,.int .i64 0,.slice none 0 0]) ?_ 6 _ rfl;(with_reducible repeat first|apply zd|apply ze|apply za);refine blk_put (cs:=#[.string t536,.int .i64 t537,.int .i64 t538,.int .i64 t539,.int .i64 t540,.int .i64 0,.int .i64 0,.int .i64 0,.slice none 0 0]) ?_ 5 _ rfl;(with_reducible repeat first|apply zd|apply ze|apply za);refine blk_put (cs:=#[.string t536,.int .i64 t537,.int .i64 t538,.int .i64 t539,.int .i64 0,.int .i64 0,.int .i64 0,.int .i64 0,.slice none 0 0]) ?_ 4 _ rfl;(with_reducible repeat first|apply zd|apply ze|apply za);refine blk_put (cs:=#[.string t536,.int .i64 t537,.int .i64 t538,.int .i64 0,.int .i64 0,.int .i64 0,.int .i64 0,.int .i64 0,.slice none 0 0]) ?_ 3 _ rfl;(with_reducible repeat first|apply zd|apply ze|apply za);refine blk_put (cs:=#[.string t536,.int .i64 t537,.int .i64 0,.int .i64 0,.int .i64 0,.int .i64 0,.int .i64 0,.int .i64 0,.slice none 0 0]) ?_ 2 _ rfl;(with_reducible repeat first|apply zd|apply ze|apply za);refine blk_put (cs:=#[.string t536,.int .i64 0,.int .i64 0,.int .i64 0,.int .i64 0,.int .i64 0,.int .i64 0,.int .i64 0,.slice none 0 0]) ?_ 1 _ rfl;(with_reducible repeat first|apply zd|apply ze|apply za);refine blk_put (cs:=#[.string (⟨#[]⟩ : ByteArray),.int .i64 0,.int .i64 0,.int .i64 0,.int .i64 0,.int .i64 0,.int .i64 0,.int .i64 0,.slice none 0 0]) ?_ 0 _ rfl;(with_reducible repeat first|apply zd|apply ze|apply za);exact BK548.out) k_ hk_)⟩)) (below_size (by repeat (first|(with_reducible first|exact HB.out|apply zA|apply zD|apply zE|refine zS ?_ GE491.out|refine zS ?_ GE492.out|refine zS ?_ GE495.out|refine zS ?_ GE520.out|refine zS ?_ GE533.out|refine zS ?_ GE548.out)|exact HB.out))));have n5_:=zm (zb (g:=gb491) (o:=.cells #[.string a0_0,.int .i64 a0_1,.int .i64 a0_2,.int .i64 a0_3,.int .i64 a0_4,.int .i64 a0_5,.int .i64 a0_6,.int .i64 a0_7,.slice A0_8 l0_8.length c0_8] 28 (0,0)) (by (with_reducible repeat first|apply zd|apply ze|apply za);refine zF ?_ NB491_548.out _ _ _ _ _ _ _ _ _;exact BK491.out) hb);have n6_:=zm (zb (g:=gb492) (o:=.cells #[.int .i64 a1_0,.int .i64 a1_1,.int .i64 a1_2] 23 (0,0)) (by (with_reducible repeat first|apply zd|apply ze|apply za);refine zF ?_ NB492_548.out _ _ _ _ _ _ _ _ _;exact BK492.out) hb);have n7_:=zm (zb (g:=gb495) (o:=.cells #[.string t496,.int .i64 t497,.int .i64 t498,.int .i64 t499,.int .i64 t500,.int .i64 t501,.int .i64 t502,.int .i64 t503,.slice Ao23 t504.length co23] 28 (0,0)) (by (with_reducible repeat first|apply zd|apply ze|apply za);refine zF ?_ NB495_548.out _ _ _ _ _ _ _ _ _;exact BK495.out) hb);have n8_:=zm (zb (g:=gb520) (o:=.cells #[.string t508,.int .i64 t509,.int .i64 t510,.int .i64 t511,.int .i64 t512,.int .i64 t513,.int .i64 t514,.int .i64 t515,.slice Ao31 t516.length co31] 28 (0,0)) (by (with_reducible repeat first|apply zd|apply ze|apply za);refine zF ?_ NB520_548.out _ _ _ _ _ _ _ _ _;exact BK520.out) hb);have n9_:=zm (zb (g:=gb533) (o:=.cells #[.string t521,.int .i64 t522,.int .i64 t523,.int .i64 t524,.int .i64 t525,.int .i64 t526,.int .i64 t527,.int .i64 t528,.slice Ao39 t529.length co39] 28 (0,0)) (by (with_reducible repeat first|apply zd|apply ze|apply za);refine zF ?_ NB533_548.out _ _ _ _ _ _ _ _ _;exact BK533.out) hb);have n10_:=zm (zb (g:=gb548) (o:=.cells #[.string t536,.int .i64 t537,.int .i64 t538,.int .i64 t539,.int .i64 t540,.int .i64 t541,.int .i64 t542,.int .i64 t543,.slice Ao94 t544.length co94] 28 (0,0)) (by (with_reducible repeat first|apply zd|apply ze|apply za);refine blk_put (cs:=#[.string t536,.int .i64 t537,.int .i64 t538,.int .i64 t539,.int .i64 t540,.int .i64 t541,.int .i64 t542,.int .i64 t543,.slice none 0 0]) ?_ 8 _ rfl;(with_reducible repeat first|apply zd|apply ze|apply za);refine blk_put (cs:=#[.string t536,.int .i64 t537,.int .i64 t538,.int .i64 t539,.int .i64 t540,.int .i64 t541,.int .i64 t542,.int .i64 0,.slice none 0 0]) ?_ 7 _ rfl;(with_reducible repeat first|apply zd|apply ze|apply za);refine blk_put (cs:=#[.string t536,.int .i64 t537,.int .i64 t538,.int .i64 t539,.int .i64 t540,.int .i64 t541,.int .i64 0,.int .i64 0,.slice none 0 0]) ?_ 6 _ rfl;(with_reducible repeat first|apply zd|apply ze|apply za);refine blk_put (cs:=#[.string t536,.int .i64 t537,.int .i64 t538,.int .i64 t539,.int .i64 t540,.int .i64 0,.int .i64 0,.int .i64 0,.slice none 0 0]) ?_ 5 _ rfl;(with_reducible repeat first|apply zd|apply ze|apply za);refine blk_put (cs:=#[.string t536,.int .i64 t537,.int .i64 t538,.int .i64 t539,.int .i64 0,.int .i64 0,.int .i64 0,.int .i64 0,.slice none 0 0]) ?_ 4 _ rfl;(with_reducible repeat first|apply zd|apply ze|apply za);refine blk_put (cs:=#[.string t536,.int .i64 t537,.int .i64 t538,.int .i64 0,.int .i64 0,.int .i64 0,.int .i64 0,.int .i64 0,.slice none 0 0]) ?_ 3 _ rfl;(with_reducible repeat first|apply zd|apply ze|apply za);refine blk_put (cs:=#[.string t536,.int .i64 t537,.int .i64 0,.int .i64 0,.int .i64 0,.int .i64 0,.int .i64 0,.int .i64 0,.slice none 0 0]) ?_ 2 _ rfl;(with_reducible repeat first|apply zd|apply ze|apply za);refine blk_put (cs:=#[.string t536,.int .i64 0,.int .i64 0,.int .i64 0,.int .i64 0,.int .i64 0,.int .i64 0,.int .i64 0,.slice none 0 0]) ?_ 1 _ rfl;(with_reducible repeat first|apply zd|apply ze|apply za);refine blk_put (cs:=#[.string (⟨#[]⟩ : ByteArray),.int .i64 0,.int .i64 0,.int .i64 0,.int .i64 0,.int .i64 0,.int .i64 0,.int .i64 0,.slice none 0 0]) ?_ 0 _ rfl;(with_reducible repeat first|apply zd|apply ze|apply za);exact BK548.out) hb);have n11_:=zm (below_step (by repeat (first|(with_reducible first|exact HB.out|apply zA|apply zD|apply zE|refine zS ?_ GE491.out|refine zS ?_ GE492.out|refine zS ?_ GE495.out|refine zS ?_ GE520.out|refine zS ?_ GE533.out|refine zS ?_ GE548.out)|exact HB.out)) hb);clear HO_496008 HO_521008 HO_534008 HO546 BK491 BK492 BK495 BK520 BK533 BK548 HB;have HO_496008:=n0_;have HO_521008:=n1_;have HO_534008:=n2_;have HO546:=n3_;have HO559:=n4_;have BK491:=n5_;have BK492:=n6_;have BK495:=n7_;have BK520:=n8_;have BK533:=n9_;have BK548:=n10_;have HB:=n11_;clear n0_ n1_ n2_ n3_ n4_ n5_ n6_ n7_ n8_ n9_ n10_ n11_;(try clear hb);(try clear hb2);(try clear hk);(try clear hi);(try clear ho0))|((with_reducible refine gate_dst (N:=16) rfl ?_);refine box_event ?hg (N:=16) ?hd (cs:=#[.string (⟨#[]⟩ : ByteArray),.int .i64 0,.int .i64 0,.int .i64 0,.int .i64 0,.int .i64 0,.int .i64 0,.int .i64 0,.slice none 0 0]) (t:=28) ?hr ?_;(case hd=>rfl);(case hg=>rfl);(case hr=>first|(go_simp;done)|(go_simp;rfl));intro gb561 hg w97 hbox hb;have n0_:=zm (Kd.V_below (Kd.V_elderB (by (with_reducible repeat (first|apply Kd.V_alloc|apply Kd.V_drewN|apply Kd.V_drew));exact HO_496008.out) gb561 (Nat.le_of_eq hg.symm)) hb);have n1_:=zm (Kd.V_below (Kd.V_elderB (by (with_reducible repeat (first|apply Kd.V_alloc|apply Kd.V_drewN|apply Kd.V_drew));exact HO_521008.out) gb561 (Nat.le_of_eq hg.symm)) hb);have n2_:=zm (Kd.V_below (Kd.V_elderB (by (with_reducible repeat (first|apply Kd.V_alloc|apply Kd.V_drewN|apply Kd.V_drew));exact HO_534008.out) gb561 (Nat.le_of_eq hg.symm)) hb);have n3_:=zm (Kd.V_below (Kd.V_elderB (by (with_reducible repeat (first|apply Kd.V_alloc|apply Kd.V_drewN|apply Kd.V_drew));exact HO546.out) gb561 (Nat.le_of_eq hg.symm)) hb);have n4_:=zm (Kd.V_below (Kd.V_elderB (by (with_reducible repeat (first|apply Kd.V_alloc|apply Kd.V_drewN|apply Kd.V_drew));exact HO559.out) gb561 (Nat.le_of_eq hg.symm)) hb);have n5_:=zm (zb (g:=gb491) (o:=.cells #[.string a0_0,.int .i64 a0_1,.int .i64 a0_2,.int .i64 a0_3,.int .i64 a0_4,.int .i64 a0_5,.int .i64 a0_6,.int .i64 a0_7,.slice A0_8 l0_8.length c0_8] 28 (0,0)) (by (with_reducible repeat first|apply zd|apply ze|apply za);exact BK491.out) hb);have n6_:=zm (zb (g:=gb492) (o:=.cells #[.int .i64 a1_0,.int .i64 a1_1,.int .i64 a1_2] 23 (0,0)) (by (with_reducible repeat first|apply zd|apply ze|apply za);exact BK492.out) hb);have n7_:=zm (zb (g:=gb495) (o:=.cells #[.string t496,.int .i64 t497,.int .i64 t498,.int .i64 t499,.int .i64 t500,.int .i64 t501,.int .i64 t502,.int .i64 t503,.slice Ao23 t504.length co23] 28 (0,0)) (by (with_reducible repeat first|apply zd|apply ze|apply za);exact BK495.out) hb);have n8_:=zm (zb (g:=gb520) (o:=.cells #[.string t508,.int .i64 t509,.int .i64 t510,.int .i64 t511,.int .i64 t512,.int .i64 t513,.int .i64 t514,.int .i64 t515,.slice Ao31 t516.length co31] 28 (0,0)) (by (with_reducible repeat first|apply zd|apply ze|apply za);exact BK520.out) hb);have n9_:=zm (zb (g:=gb533) (o:=.cells #[.string t521,.int .i64 t522,.int .i64 t523,.int .i64 t524,.int .i64 t525,.int .i64 t526,.int .i64 t527,.int .i64 t528,.slice Ao39 t529.length co39] 28 (0,0)) (by (with_reducible repeat first|apply zd|apply ze|apply za);exact BK533.out) hb);have n10_:=zm (zb (g:=gb548) (o:=.cells #[.string t536,.int .i64 t537,.int .i64 t538,.int .i64 t539,.int .i64 t540,.int .i64 t541,.int .i64 t542,.int .i64 t543,.slice Ao94 t544.length co94] 28 (0,0)) (by (with_reducible repeat first|apply zd|apply ze|apply za);exact BK548.out) hb);have n11_:=zm (below_step (by repeat (first|(with_reducible first|exact HB.out|apply zA|apply zD|apply zE|refine zS ?_ GE491.out|refine zS ?_ GE492.out|refine zS ?_ GE495.out|refine zS ?_ GE520.out|refine zS ?_ GE533.out|refine zS ?_ GE548.out)|exact HB.out)) hb);have n12_:=zm (hbox);have n13_:=zm ((by rw [hg];exact (below_size (by repeat (first|(with_reducible first|exact HB.out|apply zA|apply zD|apply zE|refine zS ?_ GE491.out|refine zS ?_ GE492.out|refine zS ?_ GE495.out|refine zS ?_ GE520.out|refine zS ?_ GE533.out|refine zS ?_ GE548.out)|exact HB.out))) : w.heap.size ≤ gb561));have n14_:=zm ((by rw [hg];exact (below_size (by repeat (first|(with_reducible first|exact HB.out|apply zA|apply zD|apply zE|refine zS ?_ GE491.out|refine zS ?_ GE492.out|refine zS ?_ GE495.out|refine zS ?_ GE520.out|refine zS ?_ GE533.out|refine zS ?_ GE548.out)|exact HB.out))) : w.heap.size ≤ gb561));have n15_:=zm ((by rw [hg];exact Nat.ne_of_lt (blk_lt (g:=gb491) (o:=.cells #[.string a0_0,.int .i64 a0_1,.int .i64 a0_2,.int .i64 a0_3,.int .i64 a0_4,.int .i64 a0_5,.int .i64 a0_6,.int .i64 a0_7,.slice A0_8 l0_8.length c0_8] 28 (0,0)) (by (with_reducible repeat first|apply zd|apply ze|apply za);exact BK491.out)) : gb491 ≠ gb561));have n16_:=zm ((by rw [hg];exact Nat.ne_of_gt (blk_lt (g:=gb491) (o:=.cells #[.string a0_0,.int .i64 a0_1,.int .i64 a0_2,.int .i64 a0_3,.int .i64 a0_4,.int .i64 a0_5,.int .i64 a0_6,.int .i64 a0_7,.slice A0_8 l0_8.length c0_8] 28 (0,0)) (by (with_reducible repeat first|apply zd|apply ze|apply za);exact BK491.out)) : gb561 ≠ gb491));have n17_:=zm ((by rw [hg];exact Nat.ne_of_lt (blk_lt (g:=gb492) (o:=.cells #[.int .i64 a1_0,.int .i64 a1_1,.int .i64 a1_2] 23 (0,0)) (by (with_reducible repeat first|apply zd|apply ze|apply za);exact BK492.out)) : gb492 ≠ gb561));have n18_:=zm ((by rw [hg];exact Nat.ne_of_gt (blk_lt (g:=gb492) (o:=.cells #[.int .i64 a1_0,.int .i64 a1_1,.int .i64 a1_2] 23 (0,0)) (by (with_reducible repeat first|apply zd|apply ze|apply za);exact BK492.out)) : gb561 ≠ gb492));have n19_:=zm ((by rw [hg];exact Nat.ne_of_lt (blk_lt (g:=gb495) (o:=.cells #[.string t496,.int .i64 t497,.int .i64 t498,.int .i64 t499,.int .i64 t500,.int .i64 t501,.int .i64 t502,.int .i64 t503,.slice Ao23 t504.length co23] 28 (0,0)) (by (with_reducible repeat first|apply zd|apply ze|apply za);exact BK495.out)) : gb495 ≠ gb561));have n20_:=zm ((by rw [hg];exact Nat.ne_of_gt (blk_lt (g:=gb495) (o:=.cells #[.string t496,.int .i64 t497,.int .i64 t498,.int .i64 t499,.int .i64 t500,.int .i64 t501,.int .i64 t502,.int .i64 t503,.slice Ao23 t504.length co23] 28 (0,0)) (by (with_reducible repeat first|apply zd|apply ze|apply za);exact BK495.out)) : gb561 ≠ gb495));have n21_:=zm ((by rw [hg];exact Nat.ne_of_lt (blk_lt (g:=gb520) (o:=.cells #[.string t508,.int .i64 t509,.int .i64 t510,.int .i64 t511,.int .i64 t512,.int .i64 t513,.int .i64 t514,.int .i64 t515,.slice Ao31 t516.length co31] 28 (0,0)) (by (with_reducible repeat first|apply zd|apply ze|apply za);exact BK520.out)) : gb520 ≠ gb561));have n22_:=zm ((by rw [hg];exact Nat.ne_of_gt (blk_lt (g:=gb520) (o:=.cells #[.string t508,.int .i64 t509,.int .i64 t510,.int .i64 t511,.int .i64 t512,.int .i64 t513,.int .i64 t514,.int .i64 t515,.slice Ao31 t516.length co31] 28 (0,0)) (by (with_reducible repeat first|apply zd|apply ze|apply za);exact BK520.out)) : gb561 ≠ gb520));have n23_:=zm ((by rw [hg];exact Nat.ne_of_lt (blk_lt (g:=gb533) (o:=.cells #[.string t521,.int .i64 t522,.int .i64 t523,.int .i64 t524,.int .i64 t525,.int .i64 t526,.int .i64 t527,.int .i64 t528,.slice Ao39 t529.length co39] 28 (0,0)) (by (with_reducible repeat first|apply zd|apply ze|apply za);exact BK533.out)) : gb533 ≠ gb561));have n24_:=zm ((by rw [hg];exact Nat.ne_of_gt (blk_lt (g:=gb533) (o:=.cells #[.string t521,.int .i64 t522,.int .i64 t523,.int .i64 t524,.int .i64 t525,.int .i64 t526,.int .i64 t527,.int .i64 t528,.slice Ao39 t529.length co39] 28 (0,0)) (by (with_reducible repeat first|apply zd|apply ze|apply za);exact BK533.out)) : gb561 ≠ gb533));have n25_:=zm ((by rw [hg];exact Nat.ne_of_lt (blk_lt (g:=gb548) (o:=.cells #[.string t536,.int .i64 t537,.int .i64 t538,.int .i64 t539,.int .i64 t540,.int .i64 t541,.int .i64 t542,.int .i64 t543,.slice Ao94 t544.length co94] 28 (0,0)) (by (with_reducible repeat first|apply zd|apply ze|apply za);exact BK548.out)) : gb548 ≠ gb561));have n26_:=zm ((by rw [hg];exact Nat.ne_of_gt (blk_lt (g:=gb548) (o:=.cells #[.string t536,.int .i64 t537,.int .i64 t538,.int .i64 t539,.int .i64 t540,.int .i64 t541,.int .i64 t542,.int .i64 t543,.slice Ao94 t544.length co94] 28 (0,0)) (by (with_reducible repeat first|apply zd|apply ze|apply za);exact BK548.out)) : gb561 ≠ gb548));clear HO_496008 HO_521008 HO_534008 HO546 HO559 BK491 BK492 BK495 BK520 BK533 BK548 HB;have HO_496008:=n0_;have HO_521008:=n1_;have HO_534008:=n2_;have HO546:=n3_;have HO559:=n4_;have BK491:=n5_;have BK492:=n6_;have BK495:=n7_;have BK520:=n8_;have BK533:=n9_;have BK548:=n10_;have HB:=n11_;have BK561:=n12_;have GW561:=n13_;have GE561:=n14_;have NB491_561:=n15_;have NB561_491:=n16_;have NB492_561:=n17_;have NB561_492:=n18_;have NB495_561:=n19_;have NB561_495:=n20_;have NB520_561:=n21_;have NB561_520:=n22_;have NB533_561:=n23_;have NB561_533:=n24_;have NB548_561:=n25_;have NB561_548:=n26_;clear n0_ n1_ n2_ n3_ n4_ n5_ n6_ n7_ n8_ n9_ n10_ n11_ n12_ n13_ n14_ n15_ n16_ n17_ n18_ n19_ n20_ n21_ n22_ n23_ n24_ n25_ n26_;clear hb hbox hg;have hnb98:=NB561_491.out;have hnc98:=NB491_561.out;have hnb99:=NB561_492.out;have hnc99:=NB492_561.out;have hnb100:=NB561_495.out;have hnc100:=NB495_561.out;have hnb101:=NB561_520.out;have hnc101:=NB520_561.out;have hnb102:=NB561_533.out;have hnc102:=NB533_561.out;have hnb103:=NB561_548.out;have hnc103:=NB548_561.out;have hcz104_0:=zc BK561.out 0 (.string (⟨#[]⟩ : ByteArray)) rfl;have hcz104_1:=zc BK561.out 1 (.int .i64 0) rfl;have hcz104_2:=zc BK561.out 2 (.int .i64 0) rfl;have hcz104_3:=zc BK561.out 3 (.int .i64 0) rfl;have hcz104_4:=zc BK561.out 4 (.int .i64 0) rfl;have hcz104_5:=zc BK561.out 5 (.int .i64 0) rfl;have hcz104_6:=zc BK561.out 6 (.int .i64 0) rfl;have hcz104_7:=zc BK561.out 7 (.int .i64 0) rfl;have hcz104_8:=zc BK561.out 8 (.slice none 0 0) rfl;have hfz104_0:=zf BK561.out 0;have hfz104_1:=zf BK561.out 1;have hfz104_2:=zf BK561.out 2;have hfz104_3:=zf BK561.out 3;have hfz104_4:=zf BK561.out 4;have hfz104_5:=zf BK561.out 5;have hfz104_6:=zf BK561.out 6;have hfz104_7:=zf BK561.out 7;have hfz104_8:=zf BK561.out 8;obtain ⟨Ao105,co105,eo105⟩:=Kd.V_slice HO559.out;subst eo105;have hcz106_0:=zc BK491.out 0 (.string a0_0) rfl;have hcz106_1:=zc BK491.out 1 (.int .i64 a0_1) rfl;have hcz106_2:=zc BK491.out 2 (.int .i64 a0_2) rfl;have hcz106_3:=zc BK491.out 3 (.int .i64 a0_3) rfl;have hcz106_4:=zc BK491.out 4 (.int .i64 a0_4) rfl;have hcz106_5:=zc BK491.out 5 (.int .i64 a0_5) rfl;have hcz106_6:=zc BK491.out 6 (.int .i64 a0_6) rfl;have hcz106_7:=zc BK491.out 7 (.int .i64 a0_7) rfl;have hcz106_8:=zc BK491.out 8 (.slice A0_8 l0_8.length c0_8) rfl;have hfz106_0:=zf BK491.out 0;have hfz106_1:=zf BK491.out 1;have hfz106_2:=zf BK491.out 2;have hfz106_3:=zf BK491.out 3;have hfz106_4:=zf BK491.out 4;have hfz106_5:=zf BK491.out 5;have hfz106_6:=zf BK491.out 6;have hfz106_7:=zf BK491.out 7;have hfz106_8:=zf BK491.out 8)|(go_at_call 49;(with_reducible refine (metrolabref18_Same.calls kj9 t549 t550 t551 t552 t553 t554 t555 t556 _ _ t557 a0_0 a0_1 a0_2 a0_3 a0_4 a0_5 a0_6 a0_7 _ _ l0_8 true _ ?side1 ?side2 ?side3 ?side4 A74.out).mono ?_);(case side1=>refine (Kd.V_reads' (e:=104) (base:=w.heap.size) (ok:=fun k_=>((k_ ≠ gb491 ∧ (k_ ≠ gb492 ∧ (k_ ≠ gb495 ∧ (k_ ≠ gb520 ∧ (k_ ≠ gb533 ∧ k_ ≠ gb548))))) ∧ k_ ≠ gb561)) (n:=t557.length) (c:=co105) ?_).2.2;exact (by (with_reducible repeat (first|apply Kd.V_alloc|apply Kd.V_drewN|apply Kd.V_drew));exact (Kd.V_mono (zV gb561 (Kd.V_mono HO559.out (fun k_ hk=>(⟨hk,hk.2⟩ : _ ∧ k_ ≠ gb561))) (fun _ hk=>hk.2) (.string t549) (.int .i64 t550) (.int .i64 t551) (.int .i64 t552) (.int .i64 t553) (.int .i64 t554) (.int .i64 t555) (.int .i64 t556) (.slice Ao105 t557.length co105)) (fun _ h_=>h_.1))));(case side2=>exact (Kd.V_reads' HO559.out).2.1);(case side3=>exact Kd.C_below HR0_8.out (by repeat (first|(with_reducible first|exact HB.out|apply zA|apply zD|apply zE|refine zS ?_ GE491.out|refine zS ?_ GE492.out|refine zS ?_ GE495.out|refine zS ?_ GE520.out|refine zS ?_ GE533.out|refine zS ?_ GE548.out|refine zS ?_ GE561.out)|exact HB.out)));(case side4=>exact HC0_8.out);rintro e w107 ⟨rfl,hb⟩;have n0_:=zm (Kd.V_below (by (with_reducible repeat (first|apply Kd.V_alloc|apply Kd.V_drewN|apply Kd.V_drew));exact (Kd.V_mono (zV gb561 (Kd.V_mono HO_496008.out (fun k_ hk=>(⟨hk,hk.2⟩ : _ ∧ k_ ≠ gb561))) (fun _ hk=>hk.2) (.string t549) (.int .i64 t550) (.int .i64 t551) (.int .i64 t552) (.int .i64 t553) (.int .i64 t554) (.int .i64 t555) (.int .i64 t556) (.slice Ao105 t557.length co105)) (fun _ h_=>h_.1))) hb);have n1_:=zm (Kd.V_below (by (with_reducible repeat (first|apply Kd.V_alloc|apply Kd.V_drewN|apply Kd.V_drew));exact (Kd.V_mono (zV gb561 (Kd.V_mono HO_521008.out (fun k_ hk=>(⟨hk,hk.2⟩ : _ ∧ k_ ≠ gb561))) (fun _ hk=>hk.2) (.string t549) (.int .i64 t550) (.int .i64 t551) (.int .i64 t552) (.int .i64 t553) (.int .i64 t554) (.int .i64 t555) (.int .i64 t556) (.slice Ao105 t557.length co105)) (fun _ h_=>h_.1))) hb);have n2_:=zm (Kd.V_below (by (with_reducible repeat (first|apply Kd.V_alloc|apply Kd.V_drewN|apply Kd.V_drew));exact (Kd.V_mono (zV gb561 (Kd.V_mono HO_534008.out (fun k_ hk=>(⟨hk,hk.2⟩ : _ ∧ k_ ≠ gb561))) (fun _ hk=>hk.2) (.string t549) (.int .i64 t550) (.int .i64 t551) (.int .i64 t552) (.int .i64 t553) (.int .i64 t554) (.int .i64 t555) (.int .i64 t556) (.slice Ao105 t557.length co105)) (fun _ h_=>h_.1))) hb);have n3_:=zm (Kd.V_below (by (with_reducible repeat (first|apply Kd.V_alloc|apply Kd.V_drewN|apply Kd.V_drew));exact (Kd.V_mono (zV gb561 (Kd.V_mono HO546.out (fun k_ hk=>(⟨hk,hk.2⟩ : _ ∧ k_ ≠ gb561))) (fun _ hk=>hk.2) (.string t549) (.int .i64 t550) (.int .i64 t551) (.int .i64 t552) (.int .i64 t553) (.int .i64 t554) (.int .i64 t555) (.int .i64 t556) (.slice Ao105 t557.length co105)) (fun _ h_=>h_.1))) hb);have n4_:=zm (Kd.V_below (by (with_reducible repeat (first|apply Kd.V_alloc|apply Kd.V_drewN|apply Kd.V_drew));exact (Kd.V_mono (zV gb561 (Kd.V_mono HO559.out (fun k_ hk=>(⟨hk,hk.2⟩ : _ ∧ k_ ≠ gb561))) (fun _ hk=>hk.2) (.string t549) (.int .i64 t550) (.int .i64 t551) (.int .i64 t552) (.int .i64 t553) (.int .i64 t554) (.int .i64 t555) (.int .i64 t556) (.slice Ao105 t557.length co105)) (fun _ h_=>h_.1))) hb);have n5_:=zm (zb (g:=gb491) (o:=.cells #[.string a0_0,.int .i64 a0_1,.int .i64 a0_2,.int .i64 a0_3,.int .i64 a0_4,.int .i64 a0_5,.int .i64 a0_6,.int .i64 a0_7,.slice A0_8 l0_8.length c0_8] 28 (0,0)) (by (with_reducible repeat first|apply zd|apply ze|apply za);refine zF ?_ NB491_561.out _ _ _ _ _ _ _ _ _;exact BK491.out) hb);have n6_:=zm (zb (g:=gb492) (o:=.cells #[.int .i64 a1_0,.int .i64 a1_1,.int .i64 a1_2] 23 (0,0)) (by (with_reducible repeat first|apply zd|apply ze|apply za);refine zF ?_ NB492_561.out _ _ _ _ _ _ _ _ _;exact BK492.out) hb);have n7_:=zm (zb (g:=gb495) (o:=.cells #[.string t496,.int .i64 t497,.int .i64 t498,.int .i64 t499,.int .i64 t500,.int .i64 t501,.int .i64 t502,.int .i64 t503,.slice Ao23 t504.length co23] 28 (0,0)) (by (with_reducible repeat first|apply zd|apply ze|apply za);refine zF ?_ NB495_561.out _ _ _ _ _ _ _ _ _;exact BK495.out) hb);have n8_:=zm (zb (g:=gb520) (o:=.cells #[.string t508,.int .i64 t509,.int .i64 t510,.int .i64 t511,.int .i64 t512,.int .i64 t513,.int .i64 t514,.int .i64 t515,.slice Ao31 t516.length co31] 28 (0,0)) (by (with_reducible repeat first|apply zd|apply ze|apply za);refine zF ?_ NB520_561.out _ _ _ _ _ _ _ _ _;exact BK520.out) hb);have n9_:=zm (zb (g:=gb533) (o:=.cells #[.string t521,.int .i64 t522,.int .i64 t523,.int .i64 t524,.int .i64 t525,.int .i64 t526,.int .i64 t527,.int .i64 t528,.slice Ao39 t529.length co39] 28 (0,0)) (by (with_reducible repeat first|apply zd|apply ze|apply za);refine zF ?_ NB533_561.out _ _ _ _ _ _ _ _ _;exact BK533.out) hb);have n10_:=zm (zb (g:=gb548) (o:=.cells #[.string t536,.int .i64 t537,.int .i64 t538,.int .i64 t539,.int .i64 t540,.int .i64 t541,.int .i64 t542,.int .i64 t543,.slice Ao94 t544.length co94] 28 (0,0)) (by (with_reducible repeat first|apply zd|apply ze|apply za);refine zF ?_ NB548_561.out _ _ _ _ _ _ _ _ _;exact BK548.out) hb);have n11_:=zm (zb (g:=gb561) (o:=.cells #[.string t549,.int .i64 t550,.int .i64 t551,.int .i64 t552,.int .i64 t553,.int .i64 t554,.int .i64 t555,.int .i64 t556,.slice Ao105 t557.length co105] 28 (0,0)) (by (with_reducible repeat first|apply zd|apply ze|apply za);refine blk_put (cs:=#[.string t549,.int .i64 t550,.int .i64 t551,.int .i64 t552,.int .i64 t553,.int .i64 t554,.int .i64 t555,.int .i64 t556,.slice none 0 0]) ?_ 8 _ rfl;(with_reducible repeat first|apply zd|apply ze|apply za);refine blk_put (cs:=#[.string t549,.int .i64 t550,.int .i64 t551,.int .i64 t552,.int .i64 t553,.int .i64 t554,.int .i64 t555,.int .i64 0,.slice none 0 0]) ?_ 7 _ rfl;(with_reducible repeat first|apply zd|apply ze|apply za);refine blk_put (cs:=#[.string t549,.int .i64 t550,.int .i64 t551,.int .i64 t552,.int .i64 t553,.int .i64 t554,.int .i64 0,.int .i64 0,.slice none 0 0]) ?_ 6 _ rfl;(with_reducible repeat first|apply zd|apply ze|apply za);refine blk_put (cs:=#[.string t549,.int .i64 t550,.int .i64 t551,.int .i64 t552,.int .i64 t553,.int .i64 0,.int .i64 0,.int .i64 0,.slice none 0 0]) ?_ 5 _ rfl;(with_reducible repeat first|apply zd|apply ze|apply za);refine blk_put (cs:=#[.string t549,.int .i64 t550,.int .i64 t551,.int .i64 t552,.int .i64 0,.int .i64 0,.int .i64 0,.int .i64 0,.slice none 0 0]) ?_ 4 _ rfl;(with_reducible repeat first|apply zd|apply ze|apply za);refine blk_put (cs:=#[.string t549,.int .i64 t550,.int .i64 t551,.int .i64 0,.int .i64 0,.int .i64 0,.int .i64 0,.int .i64 0,.slice none 0 0]) ?_ 3 _ rfl;(with_reducible repeat first|apply zd|apply ze|apply za);refine blk_put (cs:=#[.string t549,.int .i64 t550,.int .i64 0,.int .i64 0,.int .i64 0,.int .i64 0,.int .i64 0,.int .i64 0,.slice none 0 0]) ?_ 2 _ rfl;(with_reducible repeat first|apply zd|apply ze|apply za);refine blk_put (cs:=#[.string t549,.int .i64 0,.int .i64 0,.int .i64 0,.int .i64 0,.int .i64 0,.int .i64 0,.int .i64 0,.slice none 0 0]) ?_ 1 _ rfl;(with_reducible repeat first|apply zd|apply ze|apply za);refine blk_put (cs:=#[.string (⟨#[]⟩ : ByteArray),.int .i64 0,.int .i64 0,.int .i64 0,.int .i64 0,.int .i64 0,.int .i64 0,.int .i64 0,.slice none 0 0]) ?_ 0 _ rfl;(with_reducible repeat first|apply zd|apply ze|apply za);exact BK561.out) hb);have n12_:=zm (below_step (by repeat (first|(with_reducible first|exact HB.out|apply zA|apply zD|apply zE|refine zS ?_ GE491.out|refine zS ?_ GE492.out|refine zS ?_ GE495.out|refine zS ?_ GE520.out|refine zS ?_ GE533.out|refine zS ?_ GE548.out|refine zS ?_ GE561.out)|exact HB.out)) hb);clear HO_496008 HO_521008 HO_534008 HO546 HO559 BK491 BK492 BK495 BK520 BK533 BK548 BK561 HB;have HO_496008:=n0_;have HO_521008:=n1_;have HO_534008:=n2_;have HO546:=n3_;have HO559:=n4_;have BK491:=n5_;have BK492:=n6_;have BK495:=n7_;have BK520:=n8_;have BK533:=n9_;have BK548:=n10_;have BK561:=n11_;have HB:=n12_;clear n0_ n1_ n2_ n3_ n4_ n5_ n6_ n7_ n8_ n9_ n10_ n11_ n12_;(try clear hb);(try clear hb2);(try clear hk);(try clear hi))|(go_at_call 18;(with_reducible refine (metrolablaw18_awake.calls  t563 _ A76.out).mono ?_);rintro e w108 ⟨rfl,hb⟩;have n0_:=zm (Kd.V_below (by (with_reducible repeat (first|apply Kd.V_alloc|apply Kd.V_drewN|apply Kd.V_drew));exact HO_496008.out) hb);have n1_:=zm (Kd.V_below (by (with_reducible repeat (first|apply Kd.V_alloc|apply Kd.V_drewN|apply Kd.V_drew));exact HO_521008.out) hb);have n2_:=zm (Kd.V_below (by (with_reducible repeat (first|apply Kd.V_alloc|apply Kd.V_drewN|apply Kd.V_drew));exact HO_534008.out) hb);have n3_:=zm (Kd.V_below (by (with_reducible repeat (first|apply Kd.V_alloc|apply Kd.V_drewN|apply Kd.V_drew));exact HO546.out) hb);have n4_:=zm (Kd.V_below (by (with_reducible repeat (first|apply Kd.V_alloc|apply Kd.V_drewN|apply Kd.V_drew));exact HO559.out) hb);have n5_:=zm (zb (g:=gb491) (o:=.cells #[.string a0_0,.int .i64 a0_1,.int .i64 a0_2,.int .i64 a0_3,.int .i64 a0_4,.int .i64 a0_5,.int .i64 a0_6,.int .i64 a0_7,.slice A0_8 l0_8.length c0_8] 28 (0,0)) (by (with_reducible repeat first|apply zd|apply ze|apply za);exact BK491.out) hb);have n6_:=zm (zb (g:=gb492) (o:=.cells #[.int .i64 a1_0,.int .i64 a1_1,.int .i64 a1_2] 23 (0,0)) (by (with_reducible repeat first|apply zd|apply ze|apply za);exact BK492.out) hb);have n7_:=zm (zb (g:=gb495) (o:=.cells #[.string t496,.int .i64 t497,.int .i64 t498,.int .i64 t499,.int .i64 t500,.int .i64 t501,.int .i64 t502,.int .i64 t503,.slice Ao23 t504.length co23] 28 (0,0)) (by (with_reducible repeat first|apply zd|apply ze|apply za);exact BK495.out) hb);have n8_:=zm (zb (g:=gb520) (o:=.cells #[.string t508,.int .i64 t509,.int .i64 t510,.int .i64 t511,.int .i64 t512,.int .i64 t513,.int .i64 t514,.int .i64 t515,.slice Ao31 t516.length co31] 28 (0,0)) (by (with_reducible repeat first|apply zd|apply ze|apply za);exact BK520.out) hb);have n9_:=zm (zb (g:=gb533) (o:=.cells #[.string t521,.int .i64 t522,.int .i64 t523,.int .i64 t524,.int .i64 t525,.int .i64 t526,.int .i64 t527,.int .i64 t528,.slice Ao39 t529.length co39] 28 (0,0)) (by (with_reducible repeat first|apply zd|apply ze|apply za);exact BK533.out) hb);have n10_:=zm (zb (g:=gb548) (o:=.cells #[.string t536,.int .i64 t537,.int .i64 t538,.int .i64 t539,.int .i64 t540,.int .i64 t541,.int .i64 t542,.int .i64 t543,.slice Ao94 t544.length co94] 28 (0,0)) (by (with_reducible repeat first|apply zd|apply ze|apply za);exact BK548.out) hb);have n11_:=zm (zb (g:=gb561) (o:=.cells #[.string t549,.int .i64 t550,.int .i64 t551,.int .i64 t552,.int .i64 t553,.int .i64 t554,.int .i64 t555,.int .i64 t556,.slice Ao105 t557.length co105] 28 (0,0)) (by (with_reducible repeat first|apply zd|apply ze|apply za);exact BK561.out) hb);have n12_:=zm (below_step (by repeat (first|(with_reducible first|exact HB.out|apply zA|apply zD|apply zE|refine zS ?_ GE491.out|refine zS ?_ GE492.out|refine zS ?_ GE495.out|refine zS ?_ GE520.out|refine zS ?_ GE533.out|refine zS ?_ GE548.out|refine zS ?_ GE561.out)|exact HB.out)) hb);clear HO_496008 HO_521008 HO_534008 HO546 HO559 BK491 BK492 BK495 BK520 BK533 BK548 BK561 HB;have HO_496008:=n0_;have HO_521008:=n1_;have HO_534008:=n2_;have HO546:=n3_;have HO559:=n4_;have BK491:=n5_;have BK492:=n6_;have BK495:=n7_;have BK520:=n8_;have BK533:=n9_;have BK548:=n10_;have BK561:=n11_;have HB:=n12_;clear n0_ n1_ n2_ n3_ n4_ n5_ n6_ n7_ n8_ n9_ n10_ n11_ n12_;(try clear hb);(try clear hb2);(try clear hk);(try clear hi)))
          go_ret
          exact ⟨by first|rfl|(simp [errW_none,errW_some] <;> rfl)|(simp [*,errW_none,errW_some] <;> rfl),by repeat (first|(with_reducible first|exact HB.out|apply zA|apply zD|apply zE|refine zS ?_ GE491.out|refine zS ?_ GE492.out|refine zS ?_ GE495.out|refine zS ?_ GE520.out|refine zS ?_ GE533.out|refine zS ?_ GE548.out|refine zS ?_ GE561.out)|exact HB.out)⟩
         ·rw [if_neg c75] at H
          exact absurd ((Option.some.inj H).trans HRT.out) (by decide)
        ·rw [if_neg c73] at H
         exact absurd ((Option.some.inj H).trans HRT.out) (by decide)
       ·rw [if_neg c71] at H
        have c71b0 : (t547 == 0) = false:=beq_eq_false_iff_ne.mpr c71
        have c71b1 : (t547 != 0) = true:=bne_iff_ne.mpr c71
        by_cases c169 : t547 = 2
        ·rw [if_pos c169] at H
         have c169b0 : (t547 == 2) = true:=beq_iff_eq.mpr c169
         have c169b1 : (t547 != 2) = false:=bne_eq_false_iff_eq.mpr c169
         clear c169
         replace H:=Option.bind_eq_some_iff.mp H
         obtain ⟨t564,A1700,H⟩:=H
         replace H : (some t564) = some r:=H
         have A170:=zm A1700
         clear A1700
         obtain rfl:=Option.some.inj H
         have hnb171:=NB491_492.out
         have hnc171:=NB492_491.out
         have hnb172:=NB491_495.out
         have hnc172:=NB495_491.out
         have hnb173:=NB491_520.out
         have hnc173:=NB520_491.out
         have hnb174:=NB491_533.out
         have hnc174:=NB533_491.out
         have hcz175_0:=zc BK491.out 0 (.string a0_0) rfl
         have hcz175_1:=zc BK491.out 1 (.int .i64 a0_1) rfl
         have hcz175_2:=zc BK491.out 2 (.int .i64 a0_2) rfl
         have hcz175_3:=zc BK491.out 3 (.int .i64 a0_3) rfl
         have hcz175_4:=zc BK491.out 4 (.int .i64 a0_4) rfl
         have hcz175_5:=zc BK491.out 5 (.int .i64 a0_5) rfl
         have hcz175_6:=zc BK491.out 6 (.int .i64 a0_6) rfl
         have hcz175_7:=zc BK491.out 7 (.int .i64 a0_7) rfl
         have hcz175_8:=zc BK491.out 8 (.slice A0_8 l0_8.length c0_8) rfl
         have hfz175_0:=zf BK491.out 0
         have hfz175_1:=zf BK491.out 1
         have hfz175_2:=zf BK491.out 2
         have hfz175_3:=zf BK491.out 3
         have hfz175_4:=zf BK491.out 4
         have hfz175_5:=zf BK491.out 5
         have hfz175_6:=zf BK491.out 6
         have hfz175_7:=zf BK491.out 7
         have hfz175_8:=zf BK491.out 8
         have hnb176:=NB492_495.out
         have hnc176:=NB495_492.out
         have hnb177:=NB492_520.out
         have hnc177:=NB520_492.out
         have hnb178:=NB492_533.out
         have hnc178:=NB533_492.out
         have hcz179_0:=zc BK492.out 0 (.int .i64 a1_0) rfl
         have hcz179_1:=zc BK492.out 1 (.int .i64 a1_1) rfl
         have hcz179_2:=zc BK492.out 2 (.int .i64 a1_2) rfl
         have hfz179_0:=zf BK492.out 0
         have hfz179_1:=zf BK492.out 1
         have hfz179_2:=zf BK492.out 2
         go_wp2_with (first|((with_reducible refine gate_callee (f:=50) rfl ?_);refine goesL_ (some 68) rfl rfl Try.func50 (by kernel_rfl) rfl #[.agg #[.string a0_0,.int .i64 a0_1,.int .i64 a0_2,.int .i64 a0_3,.int .i64 a0_4,.int .i64 a0_5,.int .i64 a0_6,.int .i64 a0_7,.slice A0_8 l0_8.length c0_8],.agg #[.int .i64 a1_0,.int .i64 a1_1,.int .i64 a1_2]] rfl (by (try simp only [List.map_toArray,List.map_cons,List.map_nil]);first|done|rfl|(simp only [List.length_drop,List.length_take];rfl)) ?_;(with_reducible refine (feature_Move.calls a0_0 a0_1 a0_2 a0_3 a0_4 a0_5 a0_6 a0_7 _ _ l0_8 a1_0 a1_1 a1_2 t536 t537 t538 t539 t540 t541 t542 t543 t544 t547 _ ?side1 ?side2 A70.out).mono ?_);(case side1=>repeat (first|exact (Kd.C_below HR0_8.out HB.out)|(with_reducible refine Kd.C_alloc ?_ _)|(with_reducible refine Kd.C_drewN ?_ _)|(with_reducible refine Kd.C_drew ?_)));(case side2=>exact HC0_8.out);rintro e w180 ⟨v545,rfl,ho0,hb⟩;refine ⟨_,rfl,?_⟩;have n0_:=zm (Kd.V_below (by (with_reducible repeat (first|apply Kd.V_alloc|apply Kd.V_drewN|apply Kd.V_drew));exact HO_496008.out) hb);have n1_:=zm (Kd.V_below (by (with_reducible repeat (first|apply Kd.V_alloc|apply Kd.V_drewN|apply Kd.V_drew));exact HO_521008.out) hb);have n2_:=zm (Kd.V_below (by (with_reducible repeat (first|apply Kd.V_alloc|apply Kd.V_drewN|apply Kd.V_drew));exact HO_534008.out) hb);have n3_:=zm (Kd.V_lower (Kd.V_mono (ok':=fun k_=>k_ ≠ gb491 ∧ k_ ≠ gb492 ∧ k_ ≠ gb495 ∧ k_ ≠ gb520 ∧ k_ ≠ gb533) ho0 (fun k_ hk_=>⟨(Kd.freshB (g:=gb491) (o:=.cells #[.string a0_0,.int .i64 a0_1,.int .i64 a0_2,.int .i64 a0_3,.int .i64 a0_4,.int .i64 a0_5,.int .i64 a0_6,.int .i64 a0_7,.slice A0_8 l0_8.length c0_8] 28 (0,0)) (by (with_reducible repeat first|apply zd|apply ze|apply za);exact BK491.out) k_ hk_),(Kd.freshB (g:=gb492) (o:=.cells #[.int .i64 a1_0,.int .i64 a1_1,.int .i64 a1_2] 23 (0,0)) (by (with_reducible repeat first|apply zd|apply ze|apply za);exact BK492.out) k_ hk_),(Kd.freshB (g:=gb495) (o:=.cells #[.string t496,.int .i64 t497,.int .i64 t498,.int .i64 t499,.int .i64 t500,.int .i64 t501,.int .i64 t502,.int .i64 t503,.slice Ao23 t504.length co23] 28 (0,0)) (by (with_reducible repeat first|apply zd|apply ze|apply za);exact BK495.out) k_ hk_),(Kd.freshB (g:=gb520) (o:=.cells #[.string t508,.int .i64 t509,.int .i64 t510,.int .i64 t511,.int .i64 t512,.int .i64 t513,.int .i64 t514,.int .i64 t515,.slice Ao31 t516.length co31] 28 (0,0)) (by (with_reducible repeat first|apply zd|apply ze|apply za);exact BK520.out) k_ hk_),(Kd.freshB (g:=gb533) (o:=.cells #[.string t521,.int .i64 t522,.int .i64 t523,.int .i64 t524,.int .i64 t525,.int .i64 t526,.int .i64 t527,.int .i64 t528,.slice Ao39 t529.length co39] 28 (0,0)) (by (with_reducible repeat first|apply zd|apply ze|apply za);exact BK533.out) k_ hk_)⟩)) (below_size (by repeat (first|(with_reducible first|exact HB.out|apply zA|apply zD|apply zE|refine zS ?_ GE491.out|refine zS ?_ GE492.out|refine zS ?_ GE495.out|refine zS ?_ GE520.out|refine zS ?_ GE533.out)|exact HB.out))));have n4_:=zm (zb (g:=gb491) (o:=.cells #[.string a0_0,.int .i64 a0_1,.int .i64 a0_2,.int .i64 a0_3,.int .i64 a0_4,.int .i64 a0_5,.int .i64 a0_6,.int .i64 a0_7,.slice A0_8 l0_8.length c0_8] 28 (0,0)) (by (with_reducible repeat first|apply zd|apply ze|apply za);exact BK491.out) hb);have n5_:=zm (zb (g:=gb492) (o:=.cells #[.int .i64 a1_0,.int .i64 a1_1,.int .i64 a1_2] 23 (0,0)) (by (with_reducible repeat first|apply zd|apply ze|apply za);exact BK492.out) hb);have n6_:=zm (zb (g:=gb495) (o:=.cells #[.string t496,.int .i64 t497,.int .i64 t498,.int .i64 t499,.int .i64 t500,.int .i64 t501,.int .i64 t502,.int .i64 t503,.slice Ao23 t504.length co23] 28 (0,0)) (by (with_reducible repeat first|apply zd|apply ze|apply za);exact BK495.out) hb);have n7_:=zm (zb (g:=gb520) (o:=.cells #[.string t508,.int .i64 t509,.int .i64 t510,.int .i64 t511,.int .i64 t512,.int .i64 t513,.int .i64 t514,.int .i64 t515,.slice Ao31 t516.length co31] 28 (0,0)) (by (with_reducible repeat first|apply zd|apply ze|apply za);exact BK520.out) hb);have n8_:=zm (zb (g:=gb533) (o:=.cells #[.string t521,.int .i64 t522,.int .i64 t523,.int .i64 t524,.int .i64 t525,.int .i64 t526,.int .i64 t527,.int .i64 t528,.slice Ao39 t529.length co39] 28 (0,0)) (by (with_reducible repeat first|apply zd|apply ze|apply za);exact BK533.out) hb);have n9_:=zm (below_step (by repeat (first|(with_reducible first|exact HB.out|apply zA|apply zD|apply zE|refine zS ?_ GE491.out|refine zS ?_ GE492.out|refine zS ?_ GE495.out|refine zS ?_ GE520.out|refine zS ?_ GE533.out)|exact HB.out)) hb);clear HO_496008 HO_521008 HO_534008 BK491 BK492 BK495 BK520 BK533 HB;have HO_496008:=n0_;have HO_521008:=n1_;have HO_534008:=n2_;have HO546:=n3_;have BK491:=n4_;have BK492:=n5_;have BK495:=n6_;have BK520:=n7_;have BK533:=n8_;have HB:=n9_;clear n0_ n1_ n2_ n3_ n4_ n5_ n6_ n7_ n8_ n9_;(try clear hb);(try clear hb2);(try clear hk);(try clear hi);(try clear ho0))|((with_reducible refine gate_dst (N:=15) rfl ?_);refine box_event ?hg (N:=15) ?hd (cs:=#[.string (⟨#[]⟩ : ByteArray),.int .i64 0,.int .i64 0,.int .i64 0,.int .i64 0,.int .i64 0,.int .i64 0,.int .i64 0,.slice none 0 0]) (t:=28) ?hr ?_;(case hd=>rfl);(case hg=>rfl);(case hr=>first|(go_simp;done)|(go_simp;rfl));intro gb548 hg w181 hbox hb;have n0_:=zm (Kd.V_below (Kd.V_elderB (by (with_reducible repeat (first|apply Kd.V_alloc|apply Kd.V_drewN|apply Kd.V_drew));exact HO_496008.out) gb548 (Nat.le_of_eq hg.symm)) hb);have n1_:=zm (Kd.V_below (Kd.V_elderB (by (with_reducible repeat (first|apply Kd.V_alloc|apply Kd.V_drewN|apply Kd.V_drew));exact HO_521008.out) gb548 (Nat.le_of_eq hg.symm)) hb);have n2_:=zm (Kd.V_below (Kd.V_elderB (by (with_reducible repeat (first|apply Kd.V_alloc|apply Kd.V_drewN|apply Kd.V_drew));exact HO_534008.out) gb548 (Nat.le_of_eq hg.symm)) hb);have n3_:=zm (Kd.V_below (Kd.V_elderB (by (with_reducible repeat (first|apply Kd.V_alloc|apply Kd.V_drewN|apply Kd.V_drew));exact HO546.out) gb548 (Nat.le_of_eq hg.symm)) hb);have n4_:=zm (zb (g:=gb491) (o:=.cells #[.string a0_0,.int .i64 a0_1,.int .i64 a0_2,.int .i64 a0_3,.int .i64 a0_4,.int .i64 a0_5,.int .i64 a0_6,.int .i64 a0_7,.slice A0_8 l0_8.length c0_8] 28 (0,0)) (by (with_reducible repeat first|apply zd|apply ze|apply za);exact BK491.out) hb);have n5_:=zm (zb (g:=gb492) (o:=.cells #[.int .i64 a1_0,.int .i64 a1_1,.int .i64 a1_2] 23 (0,0)) (by (with_reducible repeat first|apply zd|apply ze|apply za);exact BK492.out) hb);have n6_:=zm (zb (g:=gb495) (o:=.cells #[.string t496,.int .i64 t497,.int .i64 t498,.int .i64 t499,.int .i64 t500,.int .i64 t501,.int .i64 t502,.int .i64 t503,.slice Ao23 t504.length co23] 28 (0,0)) (by (with_reducible repeat first|apply zd|apply ze|apply za);exact BK495.out) hb);have n7_:=zm (zb (g:=gb520) (o:=.cells #[.string t508,.int .i64 t509,.int .i64 t510,.int .i64 t511,.int .i64 t512,.int .i64 t513,.int .i64 t514,.int .i64 t515,.slice Ao31 t516.length co31] 28 (0,0)) (by (with_reducible repeat first|apply zd|apply ze|apply za);exact BK520.out) hb);have n8_:=zm (zb (g:=gb533) (o:=.cells #[.string t521,.int .i64 t522,.int .i64 t523,.int .i64 t524,.int .i64 t525,.int .i64 t526,.int .i64 t527,.int .i64 t528,.slice Ao39 t529.length co39] 28 (0,0)) (by (with_reducible repeat first|apply zd|apply ze|apply za);exact BK533.out) hb);have n9_:=zm (below_step (by repeat (first|(with_reducible first|exact HB.out|apply zA|apply zD|apply zE|refine zS ?_ GE491.out|refine zS ?_ GE492.out|refine zS ?_ GE495.out|refine zS ?_ GE520.out|refine zS ?_ GE533.out)|exact HB.out)) hb);have n10_:=zm (hbox);have n11_:=zm ((by rw [hg];exact (below_size (by repeat (first|(with_reducible first|exact HB.out|apply zA|apply zD|apply zE|refine zS ?_ GE491.out|refine zS ?_ GE492.out|refine zS ?_ GE495.out|refine zS ?_ GE520.out|refine zS ?_ GE533.out)|exact HB.out))) : w.heap.size ≤ gb548));have n12_:=zm ((by rw [hg];exact (below_size (by repeat (first|(with_reducible first|exact HB.out|apply zA|apply zD|apply zE|refine zS ?_ GE491.out|refine zS ?_ GE492.out|refine zS ?_ GE495.out|refine zS ?_ GE520.out|refine zS ?_ GE533.out)|exact HB.out))) : w.heap.size ≤ gb548));have n13_:=zm ((by rw [hg];exact Nat.ne_of_lt (blk_lt (g:=gb491) (o:=.cells #[.string a0_0,.int .i64 a0_1,.int .i64 a0_2,.int .i64 a0_3,.int .i64 a0_4,.int .i64 a0_5,.int .i64 a0_6,.int .i64 a0_7,.slice A0_8 l0_8.length c0_8] 28 (0,0)) (by (with_reducible repeat first|apply zd|apply ze|apply za);exact BK491.out)) : gb491 ≠ gb548));have n14_:=zm ((by rw [hg];exact Nat.ne_of_gt (blk_lt (g:=gb491) (o:=.cells #[.string a0_0,.int .i64 a0_1,.int .i64 a0_2,.int .i64 a0_3,.int .i64 a0_4,.int .i64 a0_5,.int .i64 a0_6,.int .i64 a0_7,.slice A0_8 l0_8.length c0_8] 28 (0,0)) (by (with_reducible repeat first|apply zd|apply ze|apply za);exact BK491.out)) : gb548 ≠ gb491));have n15_:=zm ((by rw [hg];exact Nat.ne_of_lt (blk_lt (g:=gb492) (o:=.cells #[.int .i64 a1_0,.int .i64 a1_1,.int .i64 a1_2] 23 (0,0)) (by (with_reducible repeat first|apply zd|apply ze|apply za);exact BK492.out)) : gb492 ≠ gb548));have n16_:=zm ((by rw [hg];exact Nat.ne_of_gt (blk_lt (g:=gb492) (o:=.cells #[.int .i64 a1_0,.int .i64 a1_1,.int .i64 a1_2] 23 (0,0)) (by (with_reducible repeat first|apply zd|apply ze|apply za);exact BK492.out)) : gb548 ≠ gb492));have n17_:=zm ((by rw [hg];exact Nat.ne_of_lt (blk_lt (g:=gb495) (o:=.cells #[.string t496,.int .i64 t497,.int .i64 t498,.int .i64 t499,.int .i64 t500,.int .i64 t501,.int .i64 t502,.int .i64 t503,.slice Ao23 t504.length co23] 28 (0,0)) (by (with_reducible repeat first|apply zd|apply ze|apply za);exact BK495.out)) : gb495 ≠ gb548));have n18_:=zm ((by rw [hg];exact Nat.ne_of_gt (blk_lt (g:=gb495) (o:=.cells #[.string t496,.int .i64 t497,.int .i64 t498,.int .i64 t499,.int .i64 t500,.int .i64 t501,.int .i64 t502,.int .i64 t503,.slice Ao23 t504.length co23] 28 (0,0)) (by (with_reducible repeat first|apply zd|apply ze|apply za);exact BK495.out)) : gb548 ≠ gb495));have n19_:=zm ((by rw [hg];exact Nat.ne_of_lt (blk_lt (g:=gb520) (o:=.cells #[.string t508,.int .i64 t509,.int .i64 t510,.int .i64 t511,.int .i64 t512,.int .i64 t513,.int .i64 t514,.int .i64 t515,.slice Ao31 t516.length co31] 28 (0,0)) (by (with_reducible repeat first|apply zd|apply ze|apply za);exact BK520.out)) : gb520 ≠ gb548));have n20_:=zm ((by rw [hg];exact Nat.ne_of_gt (blk_lt (g:=gb520) (o:=.cells #[.string t508,.int .i64 t509,.int .i64 t510,.int .i64 t511,.int .i64 t512,.int .i64 t513,.int .i64 t514,.int .i64 t515,.slice Ao31 t516.length co31] 28 (0,0)) (by (with_reducible repeat first|apply zd|apply ze|apply za);exact BK520.out)) : gb548 ≠ gb520));have n21_:=zm ((by rw [hg];exact Nat.ne_of_lt (blk_lt (g:=gb533) (o:=.cells #[.string t521,.int .i64 t522,.int .i64 t523,.int .i64 t524,.int .i64 t525,.int .i64 t526,.int .i64 t527,.int .i64 t528,.slice Ao39 t529.length co39] 28 (0,0)) (by (with_reducible repeat first|apply zd|apply ze|apply za);exact BK533.out)) : gb533 ≠ gb548));have n22_:=zm ((by rw [hg];exact Nat.ne_of_gt (blk_lt (g:=gb533) (o:=.cells #[.string t521,.int .i64 t522,.int .i64 t523,.int .i64 t524,.int .i64 t525,.int .i64 t526,.int .i64 t527,.int .i64 t528,.slice Ao39 t529.length co39] 28 (0,0)) (by (with_reducible repeat first|apply zd|apply ze|apply za);exact BK533.out)) : gb548 ≠ gb533));clear HO_496008 HO_521008 HO_534008 HO546 BK491 BK492 BK495 BK520 BK533 HB;have HO_496008:=n0_;have HO_521008:=n1_;have HO_534008:=n2_;have HO546:=n3_;have BK491:=n4_;have BK492:=n5_;have BK495:=n6_;have BK520:=n7_;have BK533:=n8_;have HB:=n9_;have BK548:=n10_;have GW548:=n11_;have GE548:=n12_;have NB491_548:=n13_;have NB548_491:=n14_;have NB492_548:=n15_;have NB548_492:=n16_;have NB495_548:=n17_;have NB548_495:=n18_;have NB520_548:=n19_;have NB548_520:=n20_;have NB533_548:=n21_;have NB548_533:=n22_;clear n0_ n1_ n2_ n3_ n4_ n5_ n6_ n7_ n8_ n9_ n10_ n11_ n12_ n13_ n14_ n15_ n16_ n17_ n18_ n19_ n20_ n21_ n22_;clear hb hbox hg;have hnb182:=NB548_491.out;have hnc182:=NB491_548.out;have hnb183:=NB548_492.out;have hnc183:=NB492_548.out;have hnb184:=NB548_495.out;have hnc184:=NB495_548.out;have hnb185:=NB548_520.out;have hnc185:=NB520_548.out;have hnb186:=NB548_533.out;have hnc186:=NB533_548.out;have hcz187_0:=zc BK548.out 0 (.string (⟨#[]⟩ : ByteArray)) rfl;have hcz187_1:=zc BK548.out 1 (.int .i64 0) rfl;have hcz187_2:=zc BK548.out 2 (.int .i64 0) rfl;have hcz187_3:=zc BK548.out 3 (.int .i64 0) rfl;have hcz187_4:=zc BK548.out 4 (.int .i64 0) rfl;have hcz187_5:=zc BK548.out 5 (.int .i64 0) rfl;have hcz187_6:=zc BK548.out 6 (.int .i64 0) rfl;have hcz187_7:=zc BK548.out 7 (.int .i64 0) rfl;have hcz187_8:=zc BK548.out 8 (.slice none 0 0) rfl;have hfz187_0:=zf BK548.out 0;have hfz187_1:=zf BK548.out 1;have hfz187_2:=zf BK548.out 2;have hfz187_3:=zf BK548.out 3;have hfz187_4:=zf BK548.out 4;have hfz187_5:=zf BK548.out 5;have hfz187_6:=zf BK548.out 6;have hfz187_7:=zf BK548.out 7;have hfz187_8:=zf BK548.out 8;obtain ⟨Ao188,co188,eo188⟩:=Kd.V_slice HO546.out;subst eo188)|(go_at_call 18;(with_reducible refine (metrolablaw18_awake.calls  t564 _ A170.out).mono ?_);rintro e w189 ⟨rfl,hb⟩;have n0_:=zm (Kd.V_below (by (with_reducible repeat (first|apply Kd.V_alloc|apply Kd.V_drewN|apply Kd.V_drew));exact (Kd.V_mono (zV gb548 (Kd.V_mono HO_496008.out (fun k_ hk=>(⟨hk,hk.2⟩ : _ ∧ k_ ≠ gb548))) (fun _ hk=>hk.2) (.string t536) (.int .i64 t537) (.int .i64 t538) (.int .i64 t539) (.int .i64 t540) (.int .i64 t541) (.int .i64 t542) (.int .i64 t543) (.slice Ao188 t544.length co188)) (fun _ h_=>h_.1))) hb);have n1_:=zm (Kd.V_below (by (with_reducible repeat (first|apply Kd.V_alloc|apply Kd.V_drewN|apply Kd.V_drew));exact (Kd.V_mono (zV gb548 (Kd.V_mono HO_521008.out (fun k_ hk=>(⟨hk,hk.2⟩ : _ ∧ k_ ≠ gb548))) (fun _ hk=>hk.2) (.string t536) (.int .i64 t537) (.int .i64 t538) (.int .i64 t539) (.int .i64 t540) (.int .i64 t541) (.int .i64 t542) (.int .i64 t543) (.slice Ao188 t544.length co188)) (fun _ h_=>h_.1))) hb);have n2_:=zm (Kd.V_below (by (with_reducible repeat (first|apply Kd.V_alloc|apply Kd.V_drewN|apply Kd.V_drew));exact (Kd.V_mono (zV gb548 (Kd.V_mono HO_534008.out (fun k_ hk=>(⟨hk,hk.2⟩ : _ ∧ k_ ≠ gb548))) (fun _ hk=>hk.2) (.string t536) (.int .i64 t537) (.int .i64 t538) (.int .i64 t539) (.int .i64 t540) (.int .i64 t541) (.int .i64 t542) (.int .i64 t543) (.slice Ao188 t544.length co188)) (fun _ h_=>h_.1))) hb);have n3_:=zm (Kd.V_below (by (with_reducible repeat (first|apply Kd.V_alloc|apply Kd.V_drewN|apply Kd.V_drew));exact (Kd.V_mono (zV gb548 (Kd.V_mono HO546.out (fun k_ hk=>(⟨hk,hk.2⟩ : _ ∧ k_ ≠ gb548))) (fun _ hk=>hk.2) (.string t536) (.int .i64 t537) (.int .i64 t538) (.int .i64 t539) (.int .i64 t540) (.int .i64 t541) (.int .i64 t542) (.int .i64 t543) (.slice Ao188 t544.length co188)) (fun _ h_=>h_.1))) hb);have n4_:=zm (zb (g:=gb491) (o:=.cells #[.string a0_0,.int .i64 a0_1,.int .i64 a0_2,.int .i64 a0_3,.int .i64 a0_4,.int .i64 a0_5,.int .i64 a0_6,.int .i64 a0_7,.slice A0_8 l0_8.length c0_8] 28 (0,0)) (by (with_reducible repeat first|apply zd|apply ze|apply za);refine zF ?_ NB491_548.out _ _ _ _ _ _ _ _ _;exact BK491.out) hb);have n5_:=zm (zb (g:=gb492) (o:=.cells #[.int .i64 a1_0,.int .i64 a1_1,.int .i64 a1_2] 23 (0,0)) (by (with_reducible repeat first|apply zd|apply ze|apply za);refine zF ?_ NB492_548.out _ _ _ _ _ _ _ _ _;exact BK492.out) hb);have n6_:=zm (zb (g:=gb495) (o:=.cells #[.string t496,.int .i64 t497,.int .i64 t498,.int .i64 t499,.int .i64 t500,.int .i64 t501,.int .i64 t502,.int .i64 t503,.slice Ao23 t504.length co23] 28 (0,0)) (by (with_reducible repeat first|apply zd|apply ze|apply za);refine zF ?_ NB495_548.out _ _ _ _ _ _ _ _ _;exact BK495.out) hb);have n7_:=zm (zb (g:=gb520) (o:=.cells #[.string t508,.int .i64 t509,.int .i64 t510,.int .i64 t511,.int .i64 t512,.int .i64 t513,.int .i64 t514,.int .i64 t515,.slice Ao31 t516.length co31] 28 (0,0)) (by (with_reducible repeat first|apply zd|apply ze|apply za);refine zF ?_ NB520_548.out _ _ _ _ _ _ _ _ _;exact BK520.out) hb);have n8_:=zm (zb (g:=gb533) (o:=.cells #[.string t521,.int .i64 t522,.int .i64 t523,.int .i64 t524,.int .i64 t525,.int .i64 t526,.int .i64 t527,.int .i64 t528,.slice Ao39 t529.length co39] 28 (0,0)) (by (with_reducible repeat first|apply zd|apply ze|apply za);refine zF ?_ NB533_548.out _ _ _ _ _ _ _ _ _;exact BK533.out) hb);have n9_:=zm (zb (g:=gb548) (o:=.cells #[.string t536,.int .i64 t537,.int .i64 t538,.int .i64 t539,.int .i64 t540,.int .i64 t541,.int .i64 t542,.int .i64 t543,.slice Ao188 t544.length co188] 28 (0,0)) (by (with_reducible repeat first|apply zd|apply ze|apply za);refine blk_put (cs:=#[.string t536,.int .i64 t537,.int .i64 t538,.int .i64 t539,.int .i64 t540,.int .i64 t541,.int .i64 t542,.int .i64 t543,.slice none 0 0]) ?_ 8 _ rfl;(with_reducible repeat first|apply zd|apply ze|apply za);refine blk_put (cs:=#[.string t536,.int .i64 t537,.int .i64 t538,.int .i64 t539,.int .i64 t540,.int .i64 t541,.int .i64 t542,.int .i64 0,.slice none 0 0]) ?_ 7 _ rfl;(with_reducible repeat first|apply zd|apply ze|apply za);refine blk_put (cs:=#[.string t536,.int .i64 t537,.int .i64 t538,.int .i64 t539,.int .i64 t540,.int .i64 t541,.int .i64 0,.int .i64 0,.slice none 0 0]) ?_ 6 _ rfl;(with_reducible repeat first|apply zd|apply ze|apply za);refine blk_put (cs:=#[.string t536,.int .i64 t537,.int .i64 t538,.int .i64 t539,.int .i64 t540,.int .i64 0,.int .i64 0,.int .i64 0,.slice none 0 0]) ?_ 5 _ rfl;(with_reducible repeat first|apply zd|apply ze|apply za);refine blk_put (cs:=#[.string t536,.int .i64 t537,.int .i64 t538,.int .i64 t539,.int .i64 0,.int .i64 0,.int .i64 0,.int .i64 0,.slice none 0 0]) ?_ 4 _ rfl;(with_reducible repeat first|apply zd|apply ze|apply za);refine blk_put (cs:=#[.string t536,.int .i64 t537,.int .i64 t538,.int .i64 0,.int .i64 0,.int .i64 0,.int .i64 0,.int .i64 0,.slice none 0 0]) ?_ 3 _ rfl;(with_reducible repeat first|apply zd|apply ze|apply za);refine blk_put (cs:=#[.string t536,.int .i64 t537,.int .i64 0,.int .i64 0,.int .i64 0,.int .i64 0,.int .i64 0,.int .i64 0,.slice none 0 0]) ?_ 2 _ rfl;(with_reducible repeat first|apply zd|apply ze|apply za);refine blk_put (cs:=#[.string t536,.int .i64 0,.int .i64 0,.int .i64 0,.int .i64 0,.int .i64 0,.int .i64 0,.int .i64 0,.slice none 0 0]) ?_ 1 _ rfl;(with_reducible repeat first|apply zd|apply ze|apply za);refine blk_put (cs:=#[.string (⟨#[]⟩ : ByteArray),.int .i64 0,.int .i64 0,.int .i64 0,.int .i64 0,.int .i64 0,.int .i64 0,.int .i64 0,.slice none 0 0]) ?_ 0 _ rfl;(with_reducible repeat first|apply zd|apply ze|apply za);exact BK548.out) hb);have n10_:=zm (below_step (by repeat (first|(with_reducible first|exact HB.out|apply zA|apply zD|apply zE|refine zS ?_ GE491.out|refine zS ?_ GE492.out|refine zS ?_ GE495.out|refine zS ?_ GE520.out|refine zS ?_ GE533.out|refine zS ?_ GE548.out)|exact HB.out)) hb);clear HO_496008 HO_521008 HO_534008 HO546 BK491 BK492 BK495 BK520 BK533 BK548 HB;have HO_496008:=n0_;have HO_521008:=n1_;have HO_534008:=n2_;have HO546:=n3_;have BK491:=n4_;have BK492:=n5_;have BK495:=n6_;have BK520:=n7_;have BK533:=n8_;have BK548:=n9_;have HB:=n10_;clear n0_ n1_ n2_ n3_ n4_ n5_ n6_ n7_ n8_ n9_ n10_;(try clear hb);(try clear hb2);(try clear hk);(try clear hi)))
         go_ret
         exact ⟨by first|rfl|(simp [errW_none,errW_some] <;> rfl)|(simp [*,errW_none,errW_some] <;> rfl),by repeat (first|(with_reducible first|exact HB.out|apply zA|apply zD|apply zE|refine zS ?_ GE491.out|refine zS ?_ GE492.out|refine zS ?_ GE495.out|refine zS ?_ GE520.out|refine zS ?_ GE533.out|refine zS ?_ GE548.out)|exact HB.out)⟩
        ·rw [if_neg c169] at H
         exact absurd ((Option.some.inj H).trans HRT.out) (by decide)
 ·replace c5:=Bool.eq_false_iff.mpr c5
  subst c5
  have H1 : ((metrolablaw18_awake.f).bind fun t494=>(some t494)) = some r:=by rw [if_neg (show ¬ (false = true) by decide)] at H;exact H
  clear H
  have H:=H1
  clear H1
  replace H:=Option.bind_eq_some_iff.mp H
  obtain ⟨t494,A2210,H⟩:=H
  replace H : (some t494) = some r:=H
  have A221:=zm A2210
  clear A2210
  obtain rfl:=Option.some.inj H
  go_enter Try.func11,Try.ntmps11
  go_wp2_with (first|((with_reducible refine gate_dst (N:=3) rfl ?_);refine box_event ?hg (N:=3) ?hd (cs:=#[.string a0_0,.int .i64 a0_1,.int .i64 a0_2,.int .i64 a0_3,.int .i64 a0_4,.int .i64 a0_5,.int .i64 a0_6,.int .i64 a0_7,.slice A0_8 l0_8.length c0_8]) (t:=28) ?hr ?_;(case hd=>rfl);(case hg=>rfl);(case hr=>first|(go_simp;done)|(go_simp;rfl));intro gb491 hg w222 hbox hb;have n0_:=zm (below_step (by repeat (first|(with_reducible first|exact HB.out|apply zA|apply zD|apply zE)|exact HB.out)) hb);have n1_:=zm (hbox);have n2_:=zm ((by rw [hg];exact (below_size (by repeat (first|(with_reducible first|exact HB.out|apply zA|apply zD|apply zE)|exact HB.out))) : w.heap.size ≤ gb491));have n3_:=zm ((by rw [hg];exact (below_size (by repeat (first|(with_reducible first|exact HB.out|apply zA|apply zD|apply zE)|exact HB.out))) : w.heap.size ≤ gb491));clear HB;have HB:=n0_;have BK491:=n1_;have GW491:=n2_;have GE491:=n3_;clear n0_ n1_ n2_ n3_;clear hb hbox hg)|((with_reducible refine gate_dst (N:=4) rfl ?_);refine box_event ?hg (N:=4) ?hd (cs:=#[.int .i64 a1_0,.int .i64 a1_1,.int .i64 a1_2]) (t:=23) ?hr ?_;(case hd=>rfl);(case hg=>rfl);(case hr=>first|(go_simp;done)|(go_simp;rfl));intro gb492 hg w223 hbox hb;have n0_:=zm (zb (g:=gb491) (o:=.cells #[.string a0_0,.int .i64 a0_1,.int .i64 a0_2,.int .i64 a0_3,.int .i64 a0_4,.int .i64 a0_5,.int .i64 a0_6,.int .i64 a0_7,.slice A0_8 l0_8.length c0_8] 28 (0,0)) (by (with_reducible repeat first|apply zd|apply ze|apply za);exact BK491.out) hb);have n1_:=zm (below_step (by repeat (first|(with_reducible first|exact HB.out|apply zA|apply zD|apply zE|refine zS ?_ GE491.out)|exact HB.out)) hb);have n2_:=zm (hbox);have n3_:=zm ((by rw [hg];exact (below_size (by repeat (first|(with_reducible first|exact HB.out|apply zA|apply zD|apply zE|refine zS ?_ GE491.out)|exact HB.out))) : w.heap.size ≤ gb492));have n4_:=zm ((by rw [hg];exact (below_size (by repeat (first|(with_reducible first|exact HB.out|apply zA|apply zD|apply zE|refine zS ?_ GE491.out)|exact HB.out))) : w.heap.size ≤ gb492));have n5_:=zm ((by rw [hg];exact Nat.ne_of_lt (blk_lt (g:=gb491) (o:=.cells #[.string a0_0,.int .i64 a0_1,.int .i64 a0_2,.int .i64 a0_3,.int .i64 a0_4,.int .i64 a0_5,.int .i64 a0_6,.int .i64 a0_7,.slice A0_8 l0_8.length c0_8] 28 (0,0)) (by (with_reducible repeat first|apply zd|apply ze|apply za);exact BK491.out)) : gb491 ≠ gb492));have n6_:=zm ((by rw [hg];exact Nat.ne_of_gt (blk_lt (g:=gb491) (o:=.cells #[.string a0_0,.int .i64 a0_1,.int .i64 a0_2,.int .i64 a0_3,.int .i64 a0_4,.int .i64 a0_5,.int .i64 a0_6,.int .i64 a0_7,.slice A0_8 l0_8.length c0_8] 28 (0,0)) (by (with_reducible repeat first|apply zd|apply ze|apply za);exact BK491.out)) : gb492 ≠ gb491));clear BK491 HB;have BK491:=n0_;have HB:=n1_;have BK492:=n2_;have GW492:=n3_;have GE492:=n4_;have NB491_492:=n5_;have NB492_491:=n6_;clear n0_ n1_ n2_ n3_ n4_ n5_ n6_;clear hb hbox hg;have hnb224:=NB491_492.out;have hnc224:=NB492_491.out;have hcz225_0:=zc BK491.out 0 (.string a0_0) rfl;have hcz225_1:=zc BK491.out 1 (.int .i64 a0_1) rfl;have hcz225_2:=zc BK491.out 2 (.int .i64 a0_2) rfl;have hcz225_3:=zc BK491.out 3 (.int .i64 a0_3) rfl;have hcz225_4:=zc BK491.out 4 (.int .i64 a0_4) rfl;have hcz225_5:=zc BK491.out 5 (.int .i64 a0_5) rfl;have hcz225_6:=zc BK491.out 6 (.int .i64 a0_6) rfl;have hcz225_7:=zc BK491.out 7 (.int .i64 a0_7) rfl;have hcz225_8:=zc BK491.out 8 (.slice A0_8 l0_8.length c0_8) rfl;have hfz225_0:=zf BK491.out 0;have hfz225_1:=zf BK491.out 1;have hfz225_2:=zf BK491.out 2;have hfz225_3:=zf BK491.out 3;have hfz225_4:=zf BK491.out 4;have hfz225_5:=zf BK491.out 5;have hfz225_6:=zf BK491.out 6;have hfz225_7:=zf BK491.out 7;have hfz225_8:=zf BK491.out 8)|((with_reducible refine gate_callee (f:=31) rfl ?_);refine goesL_ (some 18) rfl rfl Try.func31 (by kernel_rfl) rfl #[.agg #[.string a0_0,.int .i64 a0_1,.int .i64 a0_2,.int .i64 a0_3,.int .i64 a0_4,.int .i64 a0_5,.int .i64 a0_6,.int .i64 a0_7,.slice A0_8 l0_8.length c0_8]] rfl (by (try simp only [List.map_toArray,List.map_cons,List.map_nil]);first|done|rfl|(simp only [List.length_drop,List.length_take];rfl)) ?_;(with_reducible refine (metrolablaw18_right.calls k a0_0 a0_1 a0_2 a0_3 a0_4 a0_5 a0_6 a0_7 _ _ l0_8 false _ ?side1 ?side2 A4.out).mono ?_);(case side1=>repeat (first|exact (Kd.C_below HR0_8.out HB.out)|(with_reducible refine Kd.C_alloc ?_ _)|(with_reducible refine Kd.C_drewN ?_ _)|(with_reducible refine Kd.C_drew ?_)));(case side2=>exact HC0_8.out);rintro e w226 ⟨rfl,hb⟩;refine ⟨_,rfl,?_⟩;have n0_:=zm (zb (g:=gb491) (o:=.cells #[.string a0_0,.int .i64 a0_1,.int .i64 a0_2,.int .i64 a0_3,.int .i64 a0_4,.int .i64 a0_5,.int .i64 a0_6,.int .i64 a0_7,.slice A0_8 l0_8.length c0_8] 28 (0,0)) (by (with_reducible repeat first|apply zd|apply ze|apply za);exact BK491.out) hb);have n1_:=zm (zb (g:=gb492) (o:=.cells #[.int .i64 a1_0,.int .i64 a1_1,.int .i64 a1_2] 23 (0,0)) (by (with_reducible repeat first|apply zd|apply ze|apply za);exact BK492.out) hb);have n2_:=zm (below_step (by repeat (first|(with_reducible first|exact HB.out|apply zA|apply zD|apply zE|refine zS ?_ GE491.out|refine zS ?_ GE492.out)|exact HB.out)) hb);clear BK491 BK492 HB;have BK491:=n0_;have BK492:=n1_;have HB:=n2_;clear n0_ n1_ n2_;(try clear hb);(try clear hb2);(try clear hk);(try clear hi))|((with_reducible refine gate_callee (f:=18) rfl ?_);refine goesL_ (some 20) rfl rfl Try.func18 (by kernel_rfl) rfl #[] rfl (by (try simp only [List.map_toArray,List.map_cons,List.map_nil]);first|done|rfl|(simp only [List.length_drop,List.length_take];rfl)) ?_;(with_reducible refine (metrolablaw18_awake.calls  t494 _ A221.out).mono ?_);rintro e w227 ⟨rfl,hb⟩;refine ⟨_,rfl,?_⟩;have n0_:=zm (zb (g:=gb491) (o:=.cells #[.string a0_0,.int .i64 a0_1,.int .i64 a0_2,.int .i64 a0_3,.int .i64 a0_4,.int .i64 a0_5,.int .i64 a0_6,.int .i64 a0_7,.slice A0_8 l0_8.length c0_8] 28 (0,0)) (by (with_reducible repeat first|apply zd|apply ze|apply za);exact BK491.out) hb);have n1_:=zm (zb (g:=gb492) (o:=.cells #[.int .i64 a1_0,.int .i64 a1_1,.int .i64 a1_2] 23 (0,0)) (by (with_reducible repeat first|apply zd|apply ze|apply za);exact BK492.out) hb);have n2_:=zm (below_step (by repeat (first|(with_reducible first|exact HB.out|apply zA|apply zD|apply zE|refine zS ?_ GE491.out|refine zS ?_ GE492.out)|exact HB.out)) hb);clear BK491 BK492 HB;have BK491:=n0_;have BK492:=n1_;have HB:=n2_;clear n0_ n1_ n2_;(try clear hb);(try clear hb2);(try clear hk);(try clear hi)))
  go_ret
  exact ⟨by first|rfl|(simp [errW_none,errW_some] <;> rfl)|(simp [*,errW_none,errW_some] <;> rfl),by repeat (first|(with_reducible first|exact HB.out|apply zA|apply zD|apply zE|refine zS ?_ GE491.out|refine zS ?_ GE492.out)|exact HB.out)⟩
end Go.Proofs.Ytkgdlbepjmgaiaa.Fea
set_option linter.unusedVariables false
set_option linter.unusedSimpArgs false
namespace Go.Proofs.Ytkgdlbepjmgaiaa.Fea
open Go.RowKit Go.Proofs.YtkgdlbepjmgaiaaW.PrintWords Go.Proofs.YtkgdlbepjmgaiaaW.PrintLast Go.Proofs.YtkgdlbepjmgaiaaW.PrintMore
theorem u8_rngR {n : Int} (h : (Lit.int .u8 n).wf = true) : 0 ≤ n ∧ n < 256 := by
  have h' : (Lit.int .u8 n).wf = true := h
  simp only [Lit.wf, Bool.and_eq_true, decide_eq_true_eq, show IntKind.u8.min = 0 by decide, show IntKind.u8.max = 255 by decide] at h'
  omega
theorem ax4 {k ax a : Int} (hx : 0 ≤ ax ∧ ax < 3) (ha : 0 ≤ a ∧ a < 3) : turnAx k (turnAx k ax a) a = ax := by
  have h : ax = 0 ∨ ax = 1 ∨ ax = 2 := by omega
  have g : a = 0 ∨ a = 1 ∨ a = 2 := by omega
  unfold turnAx
  by_cases h4 : k = 4
  · simp [h4]
  · rcases h with rfl | rfl | rfl <;> rcases g with rfl | rfl | rfl <;> simp [h4]
theorem turn4 (x y z a : Int) : (let p := turn3 x y z a; let q := turn3 p.1 p.2.1 p.2.2 a; let s := turn3 q.1 q.2.1 q.2.2 a; turn3 s.1 s.2.1 s.2.2 a) = (x, y, z) := by
  unfold turn3
  by_cases h0 : a = 0
  · simp [h0]
  · by_cases h1 : a = 1
    · simp [h1]
    · simp [h0, h1]
theorem mir2 (x y z a : Int) : (let p := mir3 x y z a; mir3 p.1 p.2.1 p.2.2 a) = (x, y, z) := by
  unfold mir3
  by_cases h0 : a = 0
  · simp [h0]
  · by_cases h1 : a = 1
    · simp [h1]
    · simp [h0, h1]
theorem wback {x b : Int} (hx : -100000 ≤ x ∧ x ≤ 100000) (hb : -100000 ≤ b ∧ b ≤ 100000) : wrap64 (wrap64 (x + b) + wrap64 (-b)) = x := by
  rw [w64 (n := x + b) (by omega), w64 (n := -b) (by omega), w64 (by omega)]
  omega
theorem in3_iff {x y z : Int} : in3 x y z = true ↔ (-100000 ≤ x ∧ x ≤ 100000) ∧ (-100000 ≤ y ∧ y ≤ 100000) ∧ (-100000 ≤ z ∧ z ≤ 100000) := by
  simp only [in3, inR, Bool.and_eq_true, decide_eq_true_eq]
theorem Move_eq {nm : ByteArray} {k ax x y z lo hi : Int} {l : List S104} {b1 b2 b3 : Int} (hs : small l = true) (hc : chkF nm k ax x y z lo hi = 0) :
    feature_Move.f nm k ax x y z lo hi l b1 b2 b3 = some (if (in3 b1 b2 b3 && in3 (wrap64 (x + b1)) (wrap64 (y + b2)) (wrap64 (z + b3))) = true then (nm, k, ax, wrap64 (x + b1), wrap64 (y + b2), wrap64 (z + b3), lo, hi, l, 0) else (⟨#[]⟩, 0, 0, 0, 0, 0, 0, 0, [], 2)) := by
  unfold feature_Move.f
  rw [if_pos hs, if_pos hc]
theorem FeatureReturns_pure (nm : ByteArray) (k ax x y z lo hi : Int) (l : List S104) (b1 b2 b3 : Int) (b : Int) (hw : (Lit.int .u8 b).wf = true) :
    ∃ n, metrolablaw18_FeatureReturns.f n nm k ax x y z lo hi l b1 b2 b3 b = some true := by
  refine Ev.rounds (g := fun n => metrolablaw18_FeatureReturns.f n nm k ax x y z lo hi l b1 b2 b3 b) ?_
  have hb := u8_rngR hw
  unfold metrolablaw18_FeatureReturns.f metrolablaw18_awake.f
  simp only [Option.bind_some]
  refine Ev.bind (right_ev nm k ax x y z lo hi l) (Ev.ite (fun hr => ?_) (fun _ => Ev.now _))
  simp only [rightV, Bool.and_eq_true, beq_iff_eq] at hr
  have hs := small_few hr.1
  have ht := tiny_few hr.1
  have R := (chkF_ok.1 hr.2).2
  have hn := (chkF_ok.1 hr.2).1
  have ha : 0 ≤ Int.tmod b 3 ∧ Int.tmod b 3 < 3 := by rw [Int.tmod_eq_emod_of_nonneg hb.1]; omega
  have hwb : wrap64 b = b := w64 (by omega)
  have R1 := turn_Rgt R ha
  have R2 := turn_Rgt R1 ha
  have R3 := turn_Rgt R2 ha
  have c1 := chkF_ok.2 ⟨hn, R1⟩
  have c2 := chkF_ok.2 ⟨hn, R2⟩
  have c3 := chkF_ok.2 ⟨hn, R3⟩
  have m1 := chkF_ok.2 ⟨hn, mir_Rgt (a := Int.tmod b 3) R⟩
  have e4 := turn4 x y z (Int.tmod b 3)
  have em := mir2 x y z (Int.tmod b 3)
  have ex := ax4 (k := k) ⟨R1.a1, R1.a2⟩ ha
  have ex0 := ax4 (k := k) ⟨R.a1, R.a2⟩ ha
  rw [ex0] at c2 c3
  dsimp only at e4 em
  simp only [metrolablaw18_FeatureReturns.L, hwb, Turn_eq hs hr.2 ha, Turn_eq hs c1 ha, Turn_eq hs c2 ha, Turn_eq hs c3 ha, Option.bind_some, if_true, e4, ex0]
  have j0 : Ev (fun n => metrolablaw18_FeatureReturns.j0 n false nm k ax x y z lo hi l b1 b2 b3) true := by
    refine Ev.step (fun n => by rw [metrolablaw18_FeatureReturns.j0]) ?_
    unfold metrolablaw18_awake.f
    simp only [Option.bind_some]
    refine Ev.e (by decide) ?_
    simp only [Move_eq hs hr.2, Option.bind_some]
    by_cases hm : (in3 b1 b2 b3 && in3 (wrap64 (x + b1)) (wrap64 (y + b2)) (wrap64 (z + b3))) = true
    · simp only [if_pos hm]
      have hm' := hm
      simp only [Bool.and_eq_true, in3_iff] at hm'
      obtain ⟨⟨i1, i2, i3⟩, i4, i5, i6⟩ := hm'
      have cm : chkF nm k ax (wrap64 (x + b1)) (wrap64 (y + b2)) (wrap64 (z + b3)) lo hi = 0 := chkF_ok.2 ⟨hn, ⟨R.k1, R.k2, R.a1, R.a2, R.ball, i4, i5, i6, R.plane, R.size⟩⟩
      have hback : (in3 (wrap64 (-b1)) (wrap64 (-b2)) (wrap64 (-b3)) && in3 x y z) = true := by
        rw [w64 (n := -b1) (by omega), w64 (n := -b2) (by omega), w64 (n := -b3) (by omega), Bool.and_eq_true, in3_iff, in3_iff]
        exact ⟨⟨by omega, by omega, by omega⟩, R.x1, R.y1, R.z1⟩
      simp only [Move_eq hs cm, Option.bind_some, wback R.x1 i1, wback R.y1 i2, wback R.z1 i3, hback, if_true]
      refine Ev.bind (RSame_ev nm k ax x y z lo hi l nm k ax x y z lo hi l ht) ?_
      exact Ev.t (sameV_refl _ _ _ _ _ _ _ _ _) (Ev.now _)
    · simp only [if_neg hm]
      exact Ev.e (by decide) (Ev.t (by trivial) (Ev.now _))
  unfold metrolablaw18_FeatureReturns.c
  simp only [hwb, Mirror_eq hs hr.2 ha, Mirror_eq hs m1 ha, Option.bind_some, em]
  refine Ev.t (by simp [wrap64]) ?_
  refine Ev.bind (RSame_ev nm k ax x y z lo hi l nm k ax x y z lo hi l ht) (Ev.t (sameV_refl _ _ _ _ _ _ _ _ _) (Ev.bind (RSame_ev nm k ax x y z lo hi l nm k ax x y z lo hi l ht) ?_))
  rw [sameV_refl]
  exact j0
end Go.Proofs.Ytkgdlbepjmgaiaa.Fea
set_option linter.unusedVariables false
set_option linter.unusedSimpArgs false
namespace Go.Proofs.Ytkgdlbepjmgaiaa.Row
open Go.RowKit Go.Proofs.YtkgdlbepjmgaiaaW.PrintWords
def Opens {α : Type} (P : Program) (k : Kd α) (t : TypeId) (Q : α → Prop) : Prop :=
  ∀ (H : Type) (enc : TypeId × Value → H) (w : World) (base : Nat) (spare : Nat → Bool) (held : Bool) (fuel : Nat) (cs : List Value) (x : DataW H × List MemPlace),
    DataW.trod enc P w base spare held fuel t cs = some x → ∃ a, k.K w a cs ∧ Q a
variable {P : Program}
theorem opens_int {t : TypeId} {q : IntKind} (ht : P.underlying t = some (.int q)) : Opens P (Kd.int q) t (fun n => (Lit.int q n).wf = true) := by
  intro H enc w base spare held fuel cs x h
  obtain ⟨n, rfl, _, hw⟩ := DataW.trod_int ht h
  exact ⟨n, rfl, hw⟩
theorem opens_bool {t : TypeId} (ht : P.underlying t = some .bool) : Opens P Kd.bool t (fun _ => True) := by
  intro H enc w base spare held fuel cs x h
  obtain ⟨n, rfl, _⟩ := DataW.trod_bool ht h
  exact ⟨n, rfl, trivial⟩
theorem opens_string {t : TypeId} (ht : P.underlying t = some .string) : Opens P Kd.string t (fun s => s.size ≤ maxLen) := by
  intro H enc w base spare held fuel cs x h
  obtain ⟨n, rfl, _, hw⟩ := DataW.trod_string ht h
  exact ⟨n, rfl, hw⟩
theorem cells_get {w : World} {base : Nat} {a : Addr} {n : Nat} {c : List Value} (h : w.cells? base a n = some c) : c.length = n ∧ ∀ i u, c[i]? = some u → w.cell? (a.add i) = some u := by
  unfold World.cells? at h
  split at h
  case isFalse => cases h
  have hl : c.length = n := by simpa using mapM_some_length h
  refine ⟨hl, fun i u hi => ?_⟩
  have hlt : i < n := by rw [← hl]; exact (List.getElem?_eq_some_iff.1 hi).1
  rw [← hi]
  exact mapM_some_get h i i (by simp [hlt])
theorem list_of {α : Type} {R : Nat → α → Prop} : ∀ n, (∀ i, i < n → ∃ a, R i a) → ∃ l : List α, l.length = n ∧ ∀ i a, l[i]? = some a → R i a
  | 0, _ => ⟨[], rfl, fun i a h => by simp at h⟩
  | n + 1, h => by
    obtain ⟨l, hl, hr⟩ := list_of n (fun i hi => h i (by omega))
    obtain ⟨a, ha⟩ := h n (by omega)
    refine ⟨l ++ [a], by simp [hl], fun i b hi => ?_⟩
    rcases Nat.lt_or_ge i n with hlt | hge
    · rw [List.getElem?_append_left (by omega)] at hi
      exact hr i b hi
    · have hi' : i < (l ++ [a]).length := (List.getElem?_eq_some_iff.1 hi).1
      obtain rfl : i = n := by simp [hl] at hi'; omega
      rw [List.getElem?_append_right (by omega), hl] at hi
      simp at hi
      subst hi
      exact ha
theorem opens_slice {α : Type} {d : Kd α} {t e : TypeId} {Q : α → Prop} (ht : P.underlying t = some (.slice e)) (hs : P.cellsOf e = d.sz) (h : Opens P d e Q) : Opens P (Kd.slice e d) t (fun xs => xs.length ≤ maxLen ∧ ∀ x ∈ xs, Q x) := by
  intro H enc w base spare held fuel cs x hx
  rcases DataW.trod_slice ht hx with ⟨rfl, rfl⟩ | ⟨a, len, cap, elems, rest, n, _, rfl, rfl, hb, hl, hm, hlen, hel, _, _⟩
  · exact ⟨[], ⟨none, 0, rfl, Nat.le_refl _, rfl, by simp, fun h => absurd h (by simp)⟩, by simp, by simp⟩
  · have each : ∀ i, i < len → ∃ a', Q a' ∧ ∃ c, c.length = d.sz ∧ d.K w a' c ∧ ∀ j u, c[j]? = some u → w.cell? (a.add (i * d.sz + j)) = some u := by
      intro i hi
      have h1 := hel i hi
      have hy : ∃ y, elems[i]? = some y := ⟨elems[i]'(by omega), List.getElem?_eq_getElem (by omega)⟩
      obtain ⟨y, hy⟩ := hy
      rw [hy, Option.bind_eq_some_iff] at h1
      obtain ⟨c, hc, hr⟩ := h1
      obtain ⟨a', hK, hQ⟩ := h H enc w base spare held n c y hr
      obtain ⟨hcl, hcc⟩ := cells_get hc
      refine ⟨a', hQ, c, d.K_len hK, hK, fun j u hj => ?_⟩
      have := hcc j u hj
      rw [hs, add_add] at this
      exact this
    obtain ⟨xs, hxl, hxs⟩ := list_of len each
    refine ⟨xs, ⟨some a, cap, by rw [hxl], by omega, ⟨rfl, by unfold maxLen at hm; omega, fun _ => ⟨a, rfl, fun j p hp => (hxs j p hp).2⟩⟩⟩, by omega, fun x hx => ?_⟩
    obtain ⟨j, hj⟩ := List.getElem?_of_mem hx
    exact (hxs j x hj).1
def OpensF {α : Type} (P : Program) (k : Kd α) (fs : List Field) (off : Nat) (Q : α → Prop) : Prop :=
  ∀ (H : Type) (enc : TypeId × Value → H) (w : World) (base : Nat) (spare : Nat → Bool) (held : Bool) (n : Nat) (cs : List Value),
    cs.length = off + k.sz → (∀ f ∈ fs, ∃ y, DataW.trod enc P w base spare held n f.type ((cs.drop f.offset).take (P.cellsOf f.type)) = some y) → ∃ a, k.K w a (cs.drop off) ∧ Q a
theorem opensF_one {α : Type} {k : Kd α} {f : Field} {off : Nat} {Q : α → Prop} (ho : f.offset = off) (hs : P.cellsOf f.type = k.sz) (h : Opens P k f.type Q) : OpensF P k [f] off Q := by
  intro H enc w base spare held n cs hl hf
  obtain ⟨y, hy⟩ := hf f (by simp)
  obtain ⟨a, hK, hQ⟩ := h H enc w base spare held n _ y hy
  refine ⟨a, ?_, hQ⟩
  rw [ho, hs, List.take_of_length_le (by simp; omega)] at hK
  exact hK
theorem opensF_cons {α β : Type} {a : Kd α} {b : Kd β} {f : Field} {fs : List Field} {off : Nat} {Q : α → Prop} {R : β → Prop} (ho : f.offset = off) (hs : P.cellsOf f.type = a.sz) (h : Opens P a f.type Q) (hr : OpensF P b fs (off + a.sz) R) :
    OpensF P (Kd.pair a b) (f :: fs) off (fun x => Q x.1 ∧ R x.2) := by
  intro H enc w base spare held n cs hl hf
  have hl' : cs.length = off + (a.sz + b.sz) := hl
  obtain ⟨y, hy⟩ := hf f (by simp)
  obtain ⟨x, hK, hQ⟩ := h H enc w base spare held n _ y hy
  obtain ⟨z, hK2, hR⟩ := hr H enc w base spare held n cs (by omega) (fun g hg => hf g (by simp [hg]))
  refine ⟨(x, z), ⟨(cs.drop off).take a.sz, cs.drop (off + a.sz), ?_, ?_, hK2⟩, hQ, hR⟩
  · rw [← List.drop_drop, List.take_append_drop]
  · rw [ho, hs] at hK; exact hK
theorem opens_struct {α β : Type} {k : Kd α} {t : TypeId} {fs : Array Field} {Q : α → Prop} {g : β → α} {R : β → Prop} (ht : P.underlying t = some (.struct fs)) (hs : P.cellsOf t = k.sz) (h : OpensF P k fs.toList 0 Q)
    (hg : ∀ a, Q a → ∃ b, g b = a ∧ R b) : Opens P (Kd.iso k g) t R := by
  intro H enc w base spare held fuel cs x hx
  obtain ⟨xs, n, _, _, hl, hlen, hf⟩ := DataW.trod_struct ht hx
  obtain ⟨a, hK, hQ⟩ := h H enc w base spare held n cs (by omega) (fun f hf' => by
    obtain ⟨i, hi⟩ := List.getElem?_of_mem hf'
    have h1 := hf i f (by simpa using hi)
    have hlt : i < xs.length := by
      have := (List.getElem?_eq_some_iff.1 hi).1
      rw [hlen]; simpa using this
    exact ⟨xs[i], by rw [h1, List.getElem?_eq_getElem hlt]⟩)
  obtain ⟨b, rfl, hR⟩ := hg a hQ
  refine ⟨b, ?_, hR⟩
  show k.K w (g b) cs
  simpa using hK
theorem sized_rows {H : Type} {enc : TypeId × Value → H} {w : World} {base : Nat} {spare : Nat → Bool} {held : Bool} {ts : List TypeId} {ds : List (DataW H)} {j : Nat} {t e : TypeId} {A : Option Addr} {n c bytes : Nat} {d : DataW H} {p : List MemPlace}
    (hsz : (DataW.weightsEach P ts ds).all (· ≤ reachBytes) = true) (ht : ts[j]? = some t) (hd : ds[j]? = some d) (hu : P.underlying t = some (.slice e)) (hB : P.bytesOf e = bytes)
    (h : DataW.Trod enc P w base spare held t (.slice A n c) d p) : n * bytes ≤ 140737488351232 := by
  obtain ⟨fuel, hf⟩ := h
  rcases DataW.trod_slice hu hf with ⟨hcs, hx⟩ | ⟨a, len, cap, elems, rest, m, _, hcs, hx, _, hl, _, hlen, _⟩
  · simp [Value.cells] at hcs
    obtain ⟨_, rfl, _⟩ := hcs
    simp
  · simp [Value.cells] at hcs
    obtain ⟨_, rfl, rfl⟩ := hcs
    obtain ⟨hx, _⟩ := Prod.mk.inj hx
    subst hx
    have z := sized_slice hsz ht hd hu
    rw [hB] at z
    have h1 : n ≤ (elems.map (·.1)).length + (rest.map (·.1)).length := by simp; omega
    exact Nat.le_trans (Nat.mul_le_mul_right _ h1) z
end Go.Proofs.Ytkgdlbepjmgaiaa.Row
set_option linter.unusedVariables false
namespace Go.Proofs.Ytkgdlbepjmgaiaa.Fea
open Go.RowKit Go.Proofs.YtkgdlbepjmgaiaaW.PrintWords Go.Proofs.Ytkgdlbepjmgaiaa.Row
theorem o106 : Opens Try.prog k106 106 (fun _ => True) :=
  opens_struct Try.underlying106 (by kernel_rfl)
    (opensF_cons rfl (by kernel_rfl) (opens_string Try.underlying9) (opensF_one rfl (by kernel_rfl) (opens_int Try.underlying3)))
    (fun a _ => ⟨⟨a.1, a.2⟩, rfl, trivial⟩)
theorem o104 : Opens Try.prog k104 104 (fun _ => True) :=
  opens_struct Try.underlying104 (by kernel_rfl)
    (opensF_cons rfl (by kernel_rfl) (opens_int Try.underlying3) (opensF_cons rfl (by kernel_rfl) (opens_bool Try.underlying4) (opensF_cons rfl (by kernel_rfl) (opens_int Try.underlying3)
      (opensF_cons rfl (by kernel_rfl) (opens_int Try.underlying3) (opensF_one rfl (by kernel_rfl) (opens_slice Try.underlying102 (by kernel_rfl) o106))))))
    (fun a _ => ⟨⟨a.1, a.2.1, a.2.2.1, a.2.2.2.1, a.2.2.2.2⟩, rfl, trivial⟩)
theorem o23 : Opens Try.prog k23 23 (fun _ => True) :=
  opens_struct Try.underlying23 (by kernel_rfl)
    (opensF_cons rfl (by kernel_rfl) (opens_int Try.underlying3) (opensF_cons rfl (by kernel_rfl) (opens_int Try.underlying3) (opensF_one rfl (by kernel_rfl) (opens_int Try.underlying3))))
    (fun a _ => ⟨⟨a.1, a.2.1, a.2.2⟩, rfl, trivial⟩)
theorem o25 : Opens Try.prog k25 25 (fun _ => True) :=
  opens_struct Try.underlying25 (by kernel_rfl)
    (opensF_cons rfl (by kernel_rfl) (opens_int Try.underlying3) (opensF_one rfl (by kernel_rfl) (opens_int Try.underlying3)))
    (fun a _ => ⟨⟨a.1, a.2⟩, rfl, trivial⟩)
theorem o28 : Opens Try.prog k28 28 (fun _ => True) :=
  opens_struct Try.underlying28 (by kernel_rfl)
    (opensF_cons rfl (by kernel_rfl) (opens_string Try.underlying9) (opensF_cons rfl (by kernel_rfl) (opens_int Try.underlying3) (opensF_cons rfl (by kernel_rfl) (opens_int Try.underlying3)
      (opensF_cons rfl (by kernel_rfl) o23 (opensF_cons rfl (by kernel_rfl) o25 (opensF_one rfl (by kernel_rfl) (opens_slice Try.underlying26 (by kernel_rfl) o104)))))))
    (fun a _ => ⟨⟨a.1, a.2.1, a.2.2.1, a.2.2.2.1, a.2.2.2.2.1, a.2.2.2.2.2⟩, rfl, trivial⟩)
end Go.Proofs.Ytkgdlbepjmgaiaa.Fea
set_option linter.unusedVariables false
set_option linter.unusedSimpArgs false
namespace Go.Proofs.Ytkgdlbepjmgaiaa.featureReturns
open Go.ChangeShapes Go.WideShapes Go.ChangeAt Go.RowKit
open Go.ChangeMaps (open_string shut_string)
open Go.Proofs.YtkgdlbepjmgaiaaW.PrintWords Go.Proofs.Ytkgdlbepjmgaiaa.Row Go.Proofs.Ytkgdlbepjmgaiaa.Fea
theorem own : ownKnob Try.prog.godebug = none := by kernel_rfl
theorem laidOut : laidOutB Try.prog = true := by kernel_rfl
set_option maxRecDepth 100000 in
set_option maxHeartbeats 1000000 in
theorem lifted (os : Os) (started : os.Started) (H : Type) (enc : TypeId × Value → H) :
    ReturnsInHanded {} Try.checked os 11 .any (Rows.featureReturnsSpec.pre6 enc Try.prog Try.f11 Rows.featureReturnsRow.domain false) (Rows.featureReturnsSpec.post enc Try.prog Try.f11 false true false false) := by
  refine returnsInHanded_of_change_sized (C := Try.checked) own started (by kernel_rfl) Try.func11
    (ChangeSpec.witness6 (enc := enc) (C := Try.checked) false ⟨#[], #[.agg #[.string ByteArray.empty, .int .i64 0, .int .i64 0, .int .i64 0, .int .i64 0, .int .i64 0, .int .i64 0, .int .i64 0, .slice none 0 0], .agg #[.int .i64 0, .int .i64 0, .int .i64 0], .int .u8 0], []⟩ 8 (by kernel_rfl) (by kernel_rfl) (by kernel_rfl) (by kernel_rfl)) ?_
  intro W base args ds gs before hval0 hW hcnd hsz0 _
  have hsz : (DataW.weightsEach Try.prog (Try.f11.params.toList ++ Rows.featureReturnsSpec.plain.varTypes Try.prog) (ds ++ gs)).all (· ≤ reachBytes) = true := hsz0
  have hval : ∀ (j : Nat) t v, Try.f11.params[j]? = some t → args[j]? = some v → Value.okWide Try.prog W .any base t v := hval0
  have hW' := hW
  obtain ⟨p, q, hA0, hV, rfl, hfz, hnd⟩ := hW
  have hA : DataW.TrodAll enc Try.prog W 0 (fun _ => true) true Try.f11.params.toList args.toList ds p := hA0
  rw [Try.params11] at hA hval hsz
  obtain ⟨v0, vs0, d0, ds0, p0, q0, hargs, rfl, rfl, h0, r0⟩ := trodAll_cons hA
  obtain ⟨v1, vs1, d1, ds1, p1, q1, rfl, rfl, rfl, h1, r1⟩ := trodAll_cons r0
  obtain ⟨v2, vs2, d2, ds2, p2, q2, rfl, rfl, rfl, h2, r2⟩ := trodAll_cons r1
  obtain ⟨rfl, rfl, rfl⟩ := trodAll_nil r2
  obtain rfl : args = #[v0, v1, v2] := by cases args; simp_all
  obtain ⟨rfl, rfl⟩ := trodVars_none hV
  have k0 := h0
  have lt0 : ∀ x ∈ p0, x.block < W.heap.size := by obtain ⟨m, hm⟩ := k0; exact DataW.trod_lt m _ _ _ hm
  obtain ⟨cs0, rfl, hn0⟩ := okWide_struct Try.underlying28 (hval 0 28 v0 rfl rfl)
  obtain ⟨x0, hK0, _⟩ : ∃ x, k28.K W x (Value.agg cs0).cells.toList ∧ True := by obtain ⟨fuel, hf⟩ := h0; exact o28 _ _ _ _ _ _ _ _ _ hf
  obtain ⟨A0, c0, hq0, hlc0, hC0⟩ := k28_open hK0
  obtain rfl : cs0 = #[.string x0.f0, .int .i64 x0.f1, .int .i64 x0.f2, .int .i64 x0.f3.f0, .int .i64 x0.f3.f1, .int .i64 x0.f3.f2, .int .i64 x0.f4.f0, .int .i64 x0.f4.f1, .slice A0 x0.f5.length c0] := Array.toList_inj.1 hq0
  have k1 := h1
  have lt1 : ∀ x ∈ p1, x.block < W.heap.size := by obtain ⟨m, hm⟩ := k1; exact DataW.trod_lt m _ _ _ hm
  obtain ⟨cs1, rfl, hn1⟩ := okWide_struct Try.underlying23 (hval 1 23 v1 rfl rfl)
  obtain ⟨x1, hK1, _⟩ : ∃ x, k23.K W x (Value.agg cs1).cells.toList ∧ True := by obtain ⟨fuel, hf⟩ := h1; exact o23 _ _ _ _ _ _ _ _ _ hf
  have hq1 := k23_open hK1
  obtain rfl : cs1 = #[.int .i64 x1.f0, .int .i64 x1.f1, .int .i64 x1.f2] := Array.toList_inj.1 hq1
  have k2 := h2
  have lt2 : ∀ x ∈ p2, x.block < W.heap.size := by obtain ⟨m, hm⟩ := k2; exact DataW.trod_lt m _ _ _ hm
  obtain ⟨a2, rfl, rfl, rfl, w2⟩ := open_int Try.underlying5 (hval 2 5 v2 rfl rfl) h2
  clear hA0 hval0 hsz0 hsz
  obtain ⟨k, hk⟩ := FeatureReturns_pure x0.f0 x0.f1 x0.f2 x0.f3.f0 x0.f3.f1 x0.f3.f2 x0.f4.f0 x0.f4.f1 x0.f5 (x1.f0) (x1.f1) (x1.f2) a2 w2
  refine (metrolablaw18_FeatureReturns.calls k x0.f0 x0.f1 x0.f2 x0.f3.f0 x0.f3.f1 x0.f3.f2 x0.f4.f0 x0.f4.f1 _ _ x0.f5 (x1.f0) (x1.f1) (x1.f2) a2 true W hC0 hlc0 rfl hk).mono fun e W' ⟨he, bel⟩ => ?_
  subst he
  exact ⟨_, rfl, _, _, _, [], _, [], hW', trodAll_mk1 (shut_bool Try.underlying4 _), (trodAll_cons_mk (Below.trod laidOut (by kernel_rfl) (of_decide_eq_true (by kernel_rfl)) k0 bel lt0) (trodAll_cons_mk (Below.trod laidOut (by kernel_rfl) (of_decide_eq_true (by kernel_rfl)) k1 bel lt1) (trodAll_cons_mk (Below.trod laidOut (by kernel_rfl) (of_decide_eq_true (by kernel_rfl)) k2 bel lt2) trodAll_mk0))), rfl, bel.frame _, fun h => by cases h⟩
theorem over : Rows.featureReturnsRow.holds Try.pinned (OpenSpec.ofChange Rows.featureReturnsSpec) :=
  OpenClaim.holds_of_wide 11 Try.f11 rfl rfl rfl rfl rfl rfl rfl ⟨rfl, rfl, rfl, rfl, rfl⟩ rfl rfl rfl rfl rfl (by kernel_rfl) Try.func11 (by kernel_rfl)
    (of_decide_eq_true (by kernel_rfl)) (by unfold Func.isWrapper; first | (rw [if_pos (by decide +kernel)]; kernel_rfl) | (rw [if_neg (by decide +kernel)]; exact ⟨rfl, rfl⟩))
    (fun os started H enc _ => lifted os started H enc)
theorem proved : Rows.FeatureReturnsSaid := over
#print axioms proved
end Go.Proofs.Ytkgdlbepjmgaiaa.featureReturns
namespace Go.Proofs.Ytkgdlbepjmgaiaa
theorem featureReturns_holds : Rows.FeatureReturnsSaid := featureReturns.proved
end Go.Proofs.Ytkgdlbepjmgaiaa
