/- Part 6 of the texts behind the last one of this claim. -/
import Derived.Shelf.Abstract
import Derived.RegionTactic
import Derived.BigRegion
import Derived.LoopN
import Derived.Deep.RegionHeld3
import Derived.Test.YtkgdlbepjmgaiaaZMoves5
set_option linter.unusedVariables false
set_option linter.unusedSimpArgs false
namespace Go.Proofs.Ytkgdlbepjmgaiaa.Fea
open Go.RowKit YtkgdlbepjmgaiaaW.PrintWords YtkgdlbepjmgaiaaW.PrintLast YtkgdlbepjmgaiaaW.PrintMore
attribute [local go_sem] max2_int min2_int max_two min_two max_three min_three max_four min_four
attribute [local go_sem high] eqA23 eqA25
def awk0.f (k:Nat) :Option (Bool):=(ml_Hole.f).bind fun bt151=>((fe_Maximum.f k bt151.1 bt151.2.1 bt151.2.2.1 bt151.2.2.2.1 bt151.2.2.2.2.1 bt151.2.2.2.2.2.1 bt151.2.2.2.2.2.2.1 bt151.2.2.2.2.2.2.2.1 bt151.2.2.2.2.2.2.2.2).bind fun bt162=>((ml_Hole.f).bind fun bt164=>((fe_Reach.f k bt164.1 bt164.2.1 bt164.2.2.1 bt164.2.2.2.1 bt164.2.2.2.2.1 bt164.2.2.2.2.2.1 bt164.2.2.2.2.2.2.1 bt164.2.2.2.2.2.2.2.1 bt164.2.2.2.2.2.2.2.2 0).bind fun bt175=>((ml_Hole.f).bind fun bt179=>((fe_Reach.f k bt179.1 bt179.2.1 bt179.2.2.1 bt179.2.2.2.1 bt179.2.2.2.2.1 bt179.2.2.2.2.2.1 bt179.2.2.2.2.2.2.1 bt179.2.2.2.2.2.2.2.1 bt179.2.2.2.2.2.2.2.2 2).bind fun bt190=>((ml_Hole.f).bind fun bt194=>((fe_Turn.f bt194.1 bt194.2.1 bt194.2.2.1 bt194.2.2.2.1 bt194.2.2.2.2.1 bt194.2.2.2.2.2.1 bt194.2.2.2.2.2.2.1 bt194.2.2.2.2.2.2.2.1 bt194.2.2.2.2.2.2.2.2 2).bind fun bt205=>((ml_Hole.f).bind fun bt218=>((fe_Turn.f bt218.1 bt218.2.1 bt218.2.2.1 bt218.2.2.2.1 bt218.2.2.2.2.1 bt218.2.2.2.2.2.1 bt218.2.2.2.2.2.2.1 bt218.2.2.2.2.2.2.2.1 bt218.2.2.2.2.2.2.2.2 0).bind fun bt229=>((ml_Hole.f).bind fun bt243=>((fe_Separate.f k bt243.1 bt243.2.1 bt243.2.2.1 bt243.2.2.2.1 bt243.2.2.2.2.1 bt243.2.2.2.2.2.1 bt243.2.2.2.2.2.2.1 bt243.2.2.2.2.2.2.2.1 bt243.2.2.2.2.2.2.2.2 (⟨#[87]⟩:ByteArray) 0 0 5507 0 0 0 0 ([]:List (S104))).bind fun bt254=>((ml_Hole.f).bind fun bt256=>((fe_Separate.f k bt256.1 bt256.2.1 bt256.2.2.1 bt256.2.2.2.1 bt256.2.2.2.2.1 bt256.2.2.2.2.2.1 bt256.2.2.2.2.2.2.1 bt256.2.2.2.2.2.2.2.1 bt256.2.2.2.2.2.2.2.2 (⟨#[87]⟩:ByteArray) 0 0 5506 0 0 0 0 ([]:List (S104))).bind fun bt267=>(if(wrap64 ((wrap64 ((wrap64 ((wrap64 ((wrap64 (bt162.2+bt175.2.2))+bt205.2.2.2.2.2.2.2.2.2))+bt229.2.2.2.2.2.2.2.2.2))+bt254.2))+bt267.2))=0 then(if bt190.2.2=14 then(if bt162.1=1000 then(if bt254.1=true then(if bt267.1=true then(some false) else(if(bt175.1==4494&&(bt175.2.1==5506))=true then(if(bt205.2.2.2.1==0&&(bt205.2.2.2.2.1==5000&&(bt205.2.2.2.2.2.1==0)))=true then(if bt205.2.2.1=2 then(if(bt229.2.2.2.1==5000&&(bt229.2.2.2.2.1==0&&(bt229.2.2.2.2.2.1==0)))=true then(some (bt229.2.2.1==1)) else(some false)) else(some false)) else(some false)) else(some false))) else(some false)) else(some false)) else(some false)) else(some false)))))))))))))))
theorem awk0.mono:∀ k,LeO (awk0.f k ) (awk0.f (k+1) ):=by
 intro  k
 unfold awk0.f
 repeat' first
  | (with_reducible exact fe_Maximum.mono _ _ _ _ _ _ _ _ _ _)
  | (with_reducible exact fe_Reach.mono _ _ _ _ _ _ _ _ _ _ _)
  | (with_reducible exact fe_Separate.mono _ _ _ _ _ _ _ _ _ _ _ _ _ _ _ _ _ _ _)
  | (with_reducible exact LeO.refl _)
  | (with_reducible exact LeO.none _)
  | (with_reducible refine LeO.ite ?_ ?_)
  | (with_reducible refine LeO.bind ?_ (fun _=>?_))
  | exact fe_Maximum.mono _ _ _ _ _ _ _ _ _ _
  | exact fe_Reach.mono _ _ _ _ _ _ _ _ _ _ _
  | exact fe_Separate.mono _ _ _ _ _ _ _ _ _ _ _ _ _ _ _ _ _ _ _
  | exact LeO.none _
  | refine LeO.ite ?_ ?_
  | refine LeO.bind ?_ (fun _=>?_)
def awk0.T7:Bool×List (List Nat×List Nat):=(true,[([],[]),([],[]),([0,1,0],[0,1]),([2],[2]),([3],[3]),([3],[3]),([4,2,0,1,2,3,4],[4]),([5,6,0,1,2,3,4,5,6],[5])])
def awk0.B7:List Nat:=[0,0,3,7,15,15,31,127]
theorem awk0.tab7:rtab .any (opsOf Try.f18 7)=awk0.T7:=by kernel_rfl
theorem awk0.bits7:waitsOk awk0.T7.2 awk0.B7=true:=by kernel_rfl
def awk0.T9:Bool×List (List Nat×List Nat):=(true,[([],[]),([],[]),([0,1,0],[0,1]),([2],[2]),([3],[3]),([3],[3]),([4,2,0,1,2,3,4],[4]),([5,6,0,1,2,3,4,5,6],[5])])
def awk0.B9:List Nat:=[0,0,3,7,15,15,31,127]
theorem awk0.tab9:rtab .any (opsOf Try.f18 9)=awk0.T9:=by kernel_rfl
theorem awk0.bits9:waitsOk awk0.T9.2 awk0.B9=true:=by kernel_rfl
set_option maxHeartbeats 8000000 in
set_option maxRecDepth 100000 in
theorem awk0.calls (k:Nat)  (r:Bool) (w:World) (hrt:r=true) (h:awk0.f k =some r):
 Calls Try.prog 18 #[] w fun e w'=>e=.returned (.bool r)∧Below w.heap.size w w':=by
 have HRT:=zm hrt
 clear hrt
 have hu25:=Try.underlying25
 have hu28:=Try.underlying28
 have hu23:=Try.underlying23
 have HB:=zm (Below.refl w.heap.size w)
 have H:((ml_Hole.f).bind fun bt151=>((fe_Maximum.f k bt151.1 bt151.2.1 bt151.2.2.1 bt151.2.2.2.1 bt151.2.2.2.2.1 bt151.2.2.2.2.2.1 bt151.2.2.2.2.2.2.1 bt151.2.2.2.2.2.2.2.1 bt151.2.2.2.2.2.2.2.2).bind fun bt162=>((ml_Hole.f).bind fun bt164=>((fe_Reach.f k bt164.1 bt164.2.1 bt164.2.2.1 bt164.2.2.2.1 bt164.2.2.2.2.1 bt164.2.2.2.2.2.1 bt164.2.2.2.2.2.2.1 bt164.2.2.2.2.2.2.2.1 bt164.2.2.2.2.2.2.2.2 0).bind fun bt175=>((ml_Hole.f).bind fun bt179=>((fe_Reach.f k bt179.1 bt179.2.1 bt179.2.2.1 bt179.2.2.2.1 bt179.2.2.2.2.1 bt179.2.2.2.2.2.1 bt179.2.2.2.2.2.2.1 bt179.2.2.2.2.2.2.2.1 bt179.2.2.2.2.2.2.2.2 2).bind fun bt190=>((ml_Hole.f).bind fun bt194=>((fe_Turn.f bt194.1 bt194.2.1 bt194.2.2.1 bt194.2.2.2.1 bt194.2.2.2.2.1 bt194.2.2.2.2.2.1 bt194.2.2.2.2.2.2.1 bt194.2.2.2.2.2.2.2.1 bt194.2.2.2.2.2.2.2.2 2).bind fun bt205=>((ml_Hole.f).bind fun bt218=>((fe_Turn.f bt218.1 bt218.2.1 bt218.2.2.1 bt218.2.2.2.1 bt218.2.2.2.2.1 bt218.2.2.2.2.2.1 bt218.2.2.2.2.2.2.1 bt218.2.2.2.2.2.2.2.1 bt218.2.2.2.2.2.2.2.2 0).bind fun bt229=>((ml_Hole.f).bind fun bt243=>((fe_Separate.f k bt243.1 bt243.2.1 bt243.2.2.1 bt243.2.2.2.1 bt243.2.2.2.2.1 bt243.2.2.2.2.2.1 bt243.2.2.2.2.2.2.1 bt243.2.2.2.2.2.2.2.1 bt243.2.2.2.2.2.2.2.2 (⟨#[87]⟩:ByteArray) 0 0 5507 0 0 0 0 ([]:List (S104))).bind fun bt254=>((ml_Hole.f).bind fun bt256=>((fe_Separate.f k bt256.1 bt256.2.1 bt256.2.2.1 bt256.2.2.2.1 bt256.2.2.2.2.1 bt256.2.2.2.2.2.1 bt256.2.2.2.2.2.2.1 bt256.2.2.2.2.2.2.2.1 bt256.2.2.2.2.2.2.2.2 (⟨#[87]⟩:ByteArray) 0 0 5506 0 0 0 0 ([]:List (S104))).bind fun bt267=>(if(wrap64 ((wrap64 ((wrap64 ((wrap64 ((wrap64 (bt162.2+bt175.2.2))+bt205.2.2.2.2.2.2.2.2.2))+bt229.2.2.2.2.2.2.2.2.2))+bt254.2))+bt267.2))=0 then(if bt190.2.2=14 then(if bt162.1=1000 then(if bt254.1=true then(if bt267.1=true then(some false) else(if(bt175.1==4494&&(bt175.2.1==5506))=true then(if(bt205.2.2.2.1==0&&(bt205.2.2.2.2.1==5000&&(bt205.2.2.2.2.2.1==0)))=true then(if bt205.2.2.1=2 then(if(bt229.2.2.2.1==5000&&(bt229.2.2.2.2.1==0&&(bt229.2.2.2.2.2.1==0)))=true then(some (bt229.2.2.1==1)) else(some false)) else(some false)) else(some false)) else(some false))) else(some false)) else(some false)) else(some false)) else(some false))))))))))))))))=some r:=h
 clear h
 replace H:=Option.bind_eq_some_iff.mp H
 obtain⟨⟨t151,t152,t153,t154,t155,t156,t157,t158,t159⟩,A10,H⟩:=H
 replace H:((fe_Maximum.f k t151 t152 t153 t154 t155 t156 t157 t158 t159).bind fun bt162=>((ml_Hole.f).bind fun bt164=>((fe_Reach.f k bt164.1 bt164.2.1 bt164.2.2.1 bt164.2.2.2.1 bt164.2.2.2.2.1 bt164.2.2.2.2.2.1 bt164.2.2.2.2.2.2.1 bt164.2.2.2.2.2.2.2.1 bt164.2.2.2.2.2.2.2.2 0).bind fun bt175=>((ml_Hole.f).bind fun bt179=>((fe_Reach.f k bt179.1 bt179.2.1 bt179.2.2.1 bt179.2.2.2.1 bt179.2.2.2.2.1 bt179.2.2.2.2.2.1 bt179.2.2.2.2.2.2.1 bt179.2.2.2.2.2.2.2.1 bt179.2.2.2.2.2.2.2.2 2).bind fun bt190=>((ml_Hole.f).bind fun bt194=>((fe_Turn.f bt194.1 bt194.2.1 bt194.2.2.1 bt194.2.2.2.1 bt194.2.2.2.2.1 bt194.2.2.2.2.2.1 bt194.2.2.2.2.2.2.1 bt194.2.2.2.2.2.2.2.1 bt194.2.2.2.2.2.2.2.2 2).bind fun bt205=>((ml_Hole.f).bind fun bt218=>((fe_Turn.f bt218.1 bt218.2.1 bt218.2.2.1 bt218.2.2.2.1 bt218.2.2.2.2.1 bt218.2.2.2.2.2.1 bt218.2.2.2.2.2.2.1 bt218.2.2.2.2.2.2.2.1 bt218.2.2.2.2.2.2.2.2 0).bind fun bt229=>((ml_Hole.f).bind fun bt243=>((fe_Separate.f k bt243.1 bt243.2.1 bt243.2.2.1 bt243.2.2.2.1 bt243.2.2.2.2.1 bt243.2.2.2.2.2.1 bt243.2.2.2.2.2.2.1 bt243.2.2.2.2.2.2.2.1 bt243.2.2.2.2.2.2.2.2 (⟨#[87]⟩:ByteArray) 0 0 5507 0 0 0 0 ([]:List (S104))).bind fun bt254=>((ml_Hole.f).bind fun bt256=>((fe_Separate.f k bt256.1 bt256.2.1 bt256.2.2.1 bt256.2.2.2.1 bt256.2.2.2.2.1 bt256.2.2.2.2.2.1 bt256.2.2.2.2.2.2.1 bt256.2.2.2.2.2.2.2.1 bt256.2.2.2.2.2.2.2.2 (⟨#[87]⟩:ByteArray) 0 0 5506 0 0 0 0 ([]:List (S104))).bind fun bt267=>(if(wrap64 ((wrap64 ((wrap64 ((wrap64 ((wrap64 (bt162.2+bt175.2.2))+bt205.2.2.2.2.2.2.2.2.2))+bt229.2.2.2.2.2.2.2.2.2))+bt254.2))+bt267.2))=0 then(if bt190.2.2=14 then(if bt162.1=1000 then(if bt254.1=true then(if bt267.1=true then(some false) else(if(bt175.1==4494&&(bt175.2.1==5506))=true then(if(bt205.2.2.2.1==0&&(bt205.2.2.2.2.1==5000&&(bt205.2.2.2.2.2.1==0)))=true then(if bt205.2.2.1=2 then(if(bt229.2.2.2.1==5000&&(bt229.2.2.2.2.1==0&&(bt229.2.2.2.2.2.1==0)))=true then(some (bt229.2.2.1==1)) else(some false)) else(some false)) else(some false)) else(some false))) else(some false)) else(some false)) else(some false)) else(some false)))))))))))))))=some r:=H
 have A1:=zm A10
 clear A10
 replace H:=Option.bind_eq_some_iff.mp H
 obtain⟨⟨t162,t163⟩,A20,H⟩:=H
 replace H:((ml_Hole.f).bind fun bt164=>((fe_Reach.f k bt164.1 bt164.2.1 bt164.2.2.1 bt164.2.2.2.1 bt164.2.2.2.2.1 bt164.2.2.2.2.2.1 bt164.2.2.2.2.2.2.1 bt164.2.2.2.2.2.2.2.1 bt164.2.2.2.2.2.2.2.2 0).bind fun bt175=>((ml_Hole.f).bind fun bt179=>((fe_Reach.f k bt179.1 bt179.2.1 bt179.2.2.1 bt179.2.2.2.1 bt179.2.2.2.2.1 bt179.2.2.2.2.2.1 bt179.2.2.2.2.2.2.1 bt179.2.2.2.2.2.2.2.1 bt179.2.2.2.2.2.2.2.2 2).bind fun bt190=>((ml_Hole.f).bind fun bt194=>((fe_Turn.f bt194.1 bt194.2.1 bt194.2.2.1 bt194.2.2.2.1 bt194.2.2.2.2.1 bt194.2.2.2.2.2.1 bt194.2.2.2.2.2.2.1 bt194.2.2.2.2.2.2.2.1 bt194.2.2.2.2.2.2.2.2 2).bind fun bt205=>((ml_Hole.f).bind fun bt218=>((fe_Turn.f bt218.1 bt218.2.1 bt218.2.2.1 bt218.2.2.2.1 bt218.2.2.2.2.1 bt218.2.2.2.2.2.1 bt218.2.2.2.2.2.2.1 bt218.2.2.2.2.2.2.2.1 bt218.2.2.2.2.2.2.2.2 0).bind fun bt229=>((ml_Hole.f).bind fun bt243=>((fe_Separate.f k bt243.1 bt243.2.1 bt243.2.2.1 bt243.2.2.2.1 bt243.2.2.2.2.1 bt243.2.2.2.2.2.1 bt243.2.2.2.2.2.2.1 bt243.2.2.2.2.2.2.2.1 bt243.2.2.2.2.2.2.2.2 (⟨#[87]⟩:ByteArray) 0 0 5507 0 0 0 0 ([]:List (S104))).bind fun bt254=>((ml_Hole.f).bind fun bt256=>((fe_Separate.f k bt256.1 bt256.2.1 bt256.2.2.1 bt256.2.2.2.1 bt256.2.2.2.2.1 bt256.2.2.2.2.2.1 bt256.2.2.2.2.2.2.1 bt256.2.2.2.2.2.2.2.1 bt256.2.2.2.2.2.2.2.2 (⟨#[87]⟩:ByteArray) 0 0 5506 0 0 0 0 ([]:List (S104))).bind fun bt267=>(if(wrap64 ((wrap64 ((wrap64 ((wrap64 ((wrap64 (t163+bt175.2.2))+bt205.2.2.2.2.2.2.2.2.2))+bt229.2.2.2.2.2.2.2.2.2))+bt254.2))+bt267.2))=0 then(if bt190.2.2=14 then(if t162=1000 then(if bt254.1=true then(if bt267.1=true then(some false) else(if(bt175.1==4494&&(bt175.2.1==5506))=true then(if(bt205.2.2.2.1==0&&(bt205.2.2.2.2.1==5000&&(bt205.2.2.2.2.2.1==0)))=true then(if bt205.2.2.1=2 then(if(bt229.2.2.2.1==5000&&(bt229.2.2.2.2.1==0&&(bt229.2.2.2.2.2.1==0)))=true then(some (bt229.2.2.1==1)) else(some false)) else(some false)) else(some false)) else(some false))) else(some false)) else(some false)) else(some false)) else(some false))))))))))))))=some r:=H
 have A2:=zm A20
 clear A20
 replace H:=Option.bind_eq_some_iff.mp H
 obtain⟨⟨t164,t165,t166,t167,t168,t169,t170,t171,t172⟩,A30,H⟩:=H
 replace H:((fe_Reach.f k t164 t165 t166 t167 t168 t169 t170 t171 t172 0).bind fun bt175=>((ml_Hole.f).bind fun bt179=>((fe_Reach.f k bt179.1 bt179.2.1 bt179.2.2.1 bt179.2.2.2.1 bt179.2.2.2.2.1 bt179.2.2.2.2.2.1 bt179.2.2.2.2.2.2.1 bt179.2.2.2.2.2.2.2.1 bt179.2.2.2.2.2.2.2.2 2).bind fun bt190=>((ml_Hole.f).bind fun bt194=>((fe_Turn.f bt194.1 bt194.2.1 bt194.2.2.1 bt194.2.2.2.1 bt194.2.2.2.2.1 bt194.2.2.2.2.2.1 bt194.2.2.2.2.2.2.1 bt194.2.2.2.2.2.2.2.1 bt194.2.2.2.2.2.2.2.2 2).bind fun bt205=>((ml_Hole.f).bind fun bt218=>((fe_Turn.f bt218.1 bt218.2.1 bt218.2.2.1 bt218.2.2.2.1 bt218.2.2.2.2.1 bt218.2.2.2.2.2.1 bt218.2.2.2.2.2.2.1 bt218.2.2.2.2.2.2.2.1 bt218.2.2.2.2.2.2.2.2 0).bind fun bt229=>((ml_Hole.f).bind fun bt243=>((fe_Separate.f k bt243.1 bt243.2.1 bt243.2.2.1 bt243.2.2.2.1 bt243.2.2.2.2.1 bt243.2.2.2.2.2.1 bt243.2.2.2.2.2.2.1 bt243.2.2.2.2.2.2.2.1 bt243.2.2.2.2.2.2.2.2 (⟨#[87]⟩:ByteArray) 0 0 5507 0 0 0 0 ([]:List (S104))).bind fun bt254=>((ml_Hole.f).bind fun bt256=>((fe_Separate.f k bt256.1 bt256.2.1 bt256.2.2.1 bt256.2.2.2.1 bt256.2.2.2.2.1 bt256.2.2.2.2.2.1 bt256.2.2.2.2.2.2.1 bt256.2.2.2.2.2.2.2.1 bt256.2.2.2.2.2.2.2.2 (⟨#[87]⟩:ByteArray) 0 0 5506 0 0 0 0 ([]:List (S104))).bind fun bt267=>(if(wrap64 ((wrap64 ((wrap64 ((wrap64 ((wrap64 (t163+bt175.2.2))+bt205.2.2.2.2.2.2.2.2.2))+bt229.2.2.2.2.2.2.2.2.2))+bt254.2))+bt267.2))=0 then(if bt190.2.2=14 then(if t162=1000 then(if bt254.1=true then(if bt267.1=true then(some false) else(if(bt175.1==4494&&(bt175.2.1==5506))=true then(if(bt205.2.2.2.1==0&&(bt205.2.2.2.2.1==5000&&(bt205.2.2.2.2.2.1==0)))=true then(if bt205.2.2.1=2 then(if(bt229.2.2.2.1==5000&&(bt229.2.2.2.2.1==0&&(bt229.2.2.2.2.2.1==0)))=true then(some (bt229.2.2.1==1)) else(some false)) else(some false)) else(some false)) else(some false))) else(some false)) else(some false)) else(some false)) else(some false)))))))))))))=some r:=H
 have A3:=zm A30
 clear A30
 replace H:=Option.bind_eq_some_iff.mp H
 obtain⟨⟨t175,t176,t177⟩,A40,H⟩:=H
 replace H:((ml_Hole.f).bind fun bt179=>((fe_Reach.f k bt179.1 bt179.2.1 bt179.2.2.1 bt179.2.2.2.1 bt179.2.2.2.2.1 bt179.2.2.2.2.2.1 bt179.2.2.2.2.2.2.1 bt179.2.2.2.2.2.2.2.1 bt179.2.2.2.2.2.2.2.2 2).bind fun bt190=>((ml_Hole.f).bind fun bt194=>((fe_Turn.f bt194.1 bt194.2.1 bt194.2.2.1 bt194.2.2.2.1 bt194.2.2.2.2.1 bt194.2.2.2.2.2.1 bt194.2.2.2.2.2.2.1 bt194.2.2.2.2.2.2.2.1 bt194.2.2.2.2.2.2.2.2 2).bind fun bt205=>((ml_Hole.f).bind fun bt218=>((fe_Turn.f bt218.1 bt218.2.1 bt218.2.2.1 bt218.2.2.2.1 bt218.2.2.2.2.1 bt218.2.2.2.2.2.1 bt218.2.2.2.2.2.2.1 bt218.2.2.2.2.2.2.2.1 bt218.2.2.2.2.2.2.2.2 0).bind fun bt229=>((ml_Hole.f).bind fun bt243=>((fe_Separate.f k bt243.1 bt243.2.1 bt243.2.2.1 bt243.2.2.2.1 bt243.2.2.2.2.1 bt243.2.2.2.2.2.1 bt243.2.2.2.2.2.2.1 bt243.2.2.2.2.2.2.2.1 bt243.2.2.2.2.2.2.2.2 (⟨#[87]⟩:ByteArray) 0 0 5507 0 0 0 0 ([]:List (S104))).bind fun bt254=>((ml_Hole.f).bind fun bt256=>((fe_Separate.f k bt256.1 bt256.2.1 bt256.2.2.1 bt256.2.2.2.1 bt256.2.2.2.2.1 bt256.2.2.2.2.2.1 bt256.2.2.2.2.2.2.1 bt256.2.2.2.2.2.2.2.1 bt256.2.2.2.2.2.2.2.2 (⟨#[87]⟩:ByteArray) 0 0 5506 0 0 0 0 ([]:List (S104))).bind fun bt267=>(if(wrap64 ((wrap64 ((wrap64 ((wrap64 ((wrap64 (t163+t177))+bt205.2.2.2.2.2.2.2.2.2))+bt229.2.2.2.2.2.2.2.2.2))+bt254.2))+bt267.2))=0 then(if bt190.2.2=14 then(if t162=1000 then(if bt254.1=true then(if bt267.1=true then(some false) else(if(t175==4494&&(t176==5506))=true then(if(bt205.2.2.2.1==0&&(bt205.2.2.2.2.1==5000&&(bt205.2.2.2.2.2.1==0)))=true then(if bt205.2.2.1=2 then(if(bt229.2.2.2.1==5000&&(bt229.2.2.2.2.1==0&&(bt229.2.2.2.2.2.1==0)))=true then(some (bt229.2.2.1==1)) else(some false)) else(some false)) else(some false)) else(some false))) else(some false)) else(some false)) else(some false)) else(some false))))))))))))=some r:=H
 have A4:=zm A40
 clear A40
 replace H:=Option.bind_eq_some_iff.mp H
 obtain⟨⟨t179,t180,t181,t182,t183,t184,t185,t186,t187⟩,A50,H⟩:=H
 replace H:((fe_Reach.f k t179 t180 t181 t182 t183 t184 t185 t186 t187 2).bind fun bt190=>((ml_Hole.f).bind fun bt194=>((fe_Turn.f bt194.1 bt194.2.1 bt194.2.2.1 bt194.2.2.2.1 bt194.2.2.2.2.1 bt194.2.2.2.2.2.1 bt194.2.2.2.2.2.2.1 bt194.2.2.2.2.2.2.2.1 bt194.2.2.2.2.2.2.2.2 2).bind fun bt205=>((ml_Hole.f).bind fun bt218=>((fe_Turn.f bt218.1 bt218.2.1 bt218.2.2.1 bt218.2.2.2.1 bt218.2.2.2.2.1 bt218.2.2.2.2.2.1 bt218.2.2.2.2.2.2.1 bt218.2.2.2.2.2.2.2.1 bt218.2.2.2.2.2.2.2.2 0).bind fun bt229=>((ml_Hole.f).bind fun bt243=>((fe_Separate.f k bt243.1 bt243.2.1 bt243.2.2.1 bt243.2.2.2.1 bt243.2.2.2.2.1 bt243.2.2.2.2.2.1 bt243.2.2.2.2.2.2.1 bt243.2.2.2.2.2.2.2.1 bt243.2.2.2.2.2.2.2.2 (⟨#[87]⟩:ByteArray) 0 0 5507 0 0 0 0 ([]:List (S104))).bind fun bt254=>((ml_Hole.f).bind fun bt256=>((fe_Separate.f k bt256.1 bt256.2.1 bt256.2.2.1 bt256.2.2.2.1 bt256.2.2.2.2.1 bt256.2.2.2.2.2.1 bt256.2.2.2.2.2.2.1 bt256.2.2.2.2.2.2.2.1 bt256.2.2.2.2.2.2.2.2 (⟨#[87]⟩:ByteArray) 0 0 5506 0 0 0 0 ([]:List (S104))).bind fun bt267=>(if(wrap64 ((wrap64 ((wrap64 ((wrap64 ((wrap64 (t163+t177))+bt205.2.2.2.2.2.2.2.2.2))+bt229.2.2.2.2.2.2.2.2.2))+bt254.2))+bt267.2))=0 then(if bt190.2.2=14 then(if t162=1000 then(if bt254.1=true then(if bt267.1=true then(some false) else(if(t175==4494&&(t176==5506))=true then(if(bt205.2.2.2.1==0&&(bt205.2.2.2.2.1==5000&&(bt205.2.2.2.2.2.1==0)))=true then(if bt205.2.2.1=2 then(if(bt229.2.2.2.1==5000&&(bt229.2.2.2.2.1==0&&(bt229.2.2.2.2.2.1==0)))=true then(some (bt229.2.2.1==1)) else(some false)) else(some false)) else(some false)) else(some false))) else(some false)) else(some false)) else(some false)) else(some false)))))))))))=some r:=H
 have A5:=zm A50
 clear A50
 replace H:=Option.bind_eq_some_iff.mp H
 obtain⟨⟨t190,t191,t192⟩,A60,H⟩:=H
 replace H:((ml_Hole.f).bind fun bt194=>((fe_Turn.f bt194.1 bt194.2.1 bt194.2.2.1 bt194.2.2.2.1 bt194.2.2.2.2.1 bt194.2.2.2.2.2.1 bt194.2.2.2.2.2.2.1 bt194.2.2.2.2.2.2.2.1 bt194.2.2.2.2.2.2.2.2 2).bind fun bt205=>((ml_Hole.f).bind fun bt218=>((fe_Turn.f bt218.1 bt218.2.1 bt218.2.2.1 bt218.2.2.2.1 bt218.2.2.2.2.1 bt218.2.2.2.2.2.1 bt218.2.2.2.2.2.2.1 bt218.2.2.2.2.2.2.2.1 bt218.2.2.2.2.2.2.2.2 0).bind fun bt229=>((ml_Hole.f).bind fun bt243=>((fe_Separate.f k bt243.1 bt243.2.1 bt243.2.2.1 bt243.2.2.2.1 bt243.2.2.2.2.1 bt243.2.2.2.2.2.1 bt243.2.2.2.2.2.2.1 bt243.2.2.2.2.2.2.2.1 bt243.2.2.2.2.2.2.2.2 (⟨#[87]⟩:ByteArray) 0 0 5507 0 0 0 0 ([]:List (S104))).bind fun bt254=>((ml_Hole.f).bind fun bt256=>((fe_Separate.f k bt256.1 bt256.2.1 bt256.2.2.1 bt256.2.2.2.1 bt256.2.2.2.2.1 bt256.2.2.2.2.2.1 bt256.2.2.2.2.2.2.1 bt256.2.2.2.2.2.2.2.1 bt256.2.2.2.2.2.2.2.2 (⟨#[87]⟩:ByteArray) 0 0 5506 0 0 0 0 ([]:List (S104))).bind fun bt267=>(if(wrap64 ((wrap64 ((wrap64 ((wrap64 ((wrap64 (t163+t177))+bt205.2.2.2.2.2.2.2.2.2))+bt229.2.2.2.2.2.2.2.2.2))+bt254.2))+bt267.2))=0 then(if t192=14 then(if t162=1000 then(if bt254.1=true then(if bt267.1=true then(some false) else(if(t175==4494&&(t176==5506))=true then(if(bt205.2.2.2.1==0&&(bt205.2.2.2.2.1==5000&&(bt205.2.2.2.2.2.1==0)))=true then(if bt205.2.2.1=2 then(if(bt229.2.2.2.1==5000&&(bt229.2.2.2.2.1==0&&(bt229.2.2.2.2.2.1==0)))=true then(some (bt229.2.2.1==1)) else(some false)) else(some false)) else(some false)) else(some false))) else(some false)) else(some false)) else(some false)) else(some false))))))))))=some r:=H
 have A6:=zm A60
 clear A60
 replace H:=Option.bind_eq_some_iff.mp H
 obtain⟨⟨t194,t195,t196,t197,t198,t199,t200,t201,t202⟩,A70,H⟩:=H
 replace H:((fe_Turn.f t194 t195 t196 t197 t198 t199 t200 t201 t202 2).bind fun bt205=>((ml_Hole.f).bind fun bt218=>((fe_Turn.f bt218.1 bt218.2.1 bt218.2.2.1 bt218.2.2.2.1 bt218.2.2.2.2.1 bt218.2.2.2.2.2.1 bt218.2.2.2.2.2.2.1 bt218.2.2.2.2.2.2.2.1 bt218.2.2.2.2.2.2.2.2 0).bind fun bt229=>((ml_Hole.f).bind fun bt243=>((fe_Separate.f k bt243.1 bt243.2.1 bt243.2.2.1 bt243.2.2.2.1 bt243.2.2.2.2.1 bt243.2.2.2.2.2.1 bt243.2.2.2.2.2.2.1 bt243.2.2.2.2.2.2.2.1 bt243.2.2.2.2.2.2.2.2 (⟨#[87]⟩:ByteArray) 0 0 5507 0 0 0 0 ([]:List (S104))).bind fun bt254=>((ml_Hole.f).bind fun bt256=>((fe_Separate.f k bt256.1 bt256.2.1 bt256.2.2.1 bt256.2.2.2.1 bt256.2.2.2.2.1 bt256.2.2.2.2.2.1 bt256.2.2.2.2.2.2.1 bt256.2.2.2.2.2.2.2.1 bt256.2.2.2.2.2.2.2.2 (⟨#[87]⟩:ByteArray) 0 0 5506 0 0 0 0 ([]:List (S104))).bind fun bt267=>(if(wrap64 ((wrap64 ((wrap64 ((wrap64 ((wrap64 (t163+t177))+bt205.2.2.2.2.2.2.2.2.2))+bt229.2.2.2.2.2.2.2.2.2))+bt254.2))+bt267.2))=0 then(if t192=14 then(if t162=1000 then(if bt254.1=true then(if bt267.1=true then(some false) else(if(t175==4494&&(t176==5506))=true then(if(bt205.2.2.2.1==0&&(bt205.2.2.2.2.1==5000&&(bt205.2.2.2.2.2.1==0)))=true then(if bt205.2.2.1=2 then(if(bt229.2.2.2.1==5000&&(bt229.2.2.2.2.1==0&&(bt229.2.2.2.2.2.1==0)))=true then(some (bt229.2.2.1==1)) else(some false)) else(some false)) else(some false)) else(some false))) else(some false)) else(some false)) else(some false)) else(some false)))))))))=some r:=H
 have A7:=zm A70
 clear A70
 replace H:=Option.bind_eq_some_iff.mp H
 obtain⟨⟨t205,t206,t207,t208,t209,t210,t211,t212,t213,t216⟩,A80,H⟩:=H
 replace H:((ml_Hole.f).bind fun bt218=>((fe_Turn.f bt218.1 bt218.2.1 bt218.2.2.1 bt218.2.2.2.1 bt218.2.2.2.2.1 bt218.2.2.2.2.2.1 bt218.2.2.2.2.2.2.1 bt218.2.2.2.2.2.2.2.1 bt218.2.2.2.2.2.2.2.2 0).bind fun bt229=>((ml_Hole.f).bind fun bt243=>((fe_Separate.f k bt243.1 bt243.2.1 bt243.2.2.1 bt243.2.2.2.1 bt243.2.2.2.2.1 bt243.2.2.2.2.2.1 bt243.2.2.2.2.2.2.1 bt243.2.2.2.2.2.2.2.1 bt243.2.2.2.2.2.2.2.2 (⟨#[87]⟩:ByteArray) 0 0 5507 0 0 0 0 ([]:List (S104))).bind fun bt254=>((ml_Hole.f).bind fun bt256=>((fe_Separate.f k bt256.1 bt256.2.1 bt256.2.2.1 bt256.2.2.2.1 bt256.2.2.2.2.1 bt256.2.2.2.2.2.1 bt256.2.2.2.2.2.2.1 bt256.2.2.2.2.2.2.2.1 bt256.2.2.2.2.2.2.2.2 (⟨#[87]⟩:ByteArray) 0 0 5506 0 0 0 0 ([]:List (S104))).bind fun bt267=>(if(wrap64 ((wrap64 ((wrap64 ((wrap64 ((wrap64 (t163+t177))+t216))+bt229.2.2.2.2.2.2.2.2.2))+bt254.2))+bt267.2))=0 then(if t192=14 then(if t162=1000 then(if bt254.1=true then(if bt267.1=true then(some false) else(if(t175==4494&&(t176==5506))=true then(if(t208==0&&(t209==5000&&(t210==0)))=true then(if t207=2 then(if(bt229.2.2.2.1==5000&&(bt229.2.2.2.2.1==0&&(bt229.2.2.2.2.2.1==0)))=true then(some (bt229.2.2.1==1)) else(some false)) else(some false)) else(some false)) else(some false))) else(some false)) else(some false)) else(some false)) else(some false))))))))=some r:=H
 have A8:=zm A80
 clear A80
 replace H:=Option.bind_eq_some_iff.mp H
 obtain⟨⟨t218,t219,t220,t221,t222,t223,t224,t225,t226⟩,A90,H⟩:=H
 replace H:((fe_Turn.f t218 t219 t220 t221 t222 t223 t224 t225 t226 0).bind fun bt229=>((ml_Hole.f).bind fun bt243=>((fe_Separate.f k bt243.1 bt243.2.1 bt243.2.2.1 bt243.2.2.2.1 bt243.2.2.2.2.1 bt243.2.2.2.2.2.1 bt243.2.2.2.2.2.2.1 bt243.2.2.2.2.2.2.2.1 bt243.2.2.2.2.2.2.2.2 (⟨#[87]⟩:ByteArray) 0 0 5507 0 0 0 0 ([]:List (S104))).bind fun bt254=>((ml_Hole.f).bind fun bt256=>((fe_Separate.f k bt256.1 bt256.2.1 bt256.2.2.1 bt256.2.2.2.1 bt256.2.2.2.2.1 bt256.2.2.2.2.2.1 bt256.2.2.2.2.2.2.1 bt256.2.2.2.2.2.2.2.1 bt256.2.2.2.2.2.2.2.2 (⟨#[87]⟩:ByteArray) 0 0 5506 0 0 0 0 ([]:List (S104))).bind fun bt267=>(if(wrap64 ((wrap64 ((wrap64 ((wrap64 ((wrap64 (t163+t177))+t216))+bt229.2.2.2.2.2.2.2.2.2))+bt254.2))+bt267.2))=0 then(if t192=14 then(if t162=1000 then(if bt254.1=true then(if bt267.1=true then(some false) else(if(t175==4494&&(t176==5506))=true then(if(t208==0&&(t209==5000&&(t210==0)))=true then(if t207=2 then(if(bt229.2.2.2.1==5000&&(bt229.2.2.2.2.1==0&&(bt229.2.2.2.2.2.1==0)))=true then(some (bt229.2.2.1==1)) else(some false)) else(some false)) else(some false)) else(some false))) else(some false)) else(some false)) else(some false)) else(some false)))))))=some r:=H
 have A9:=zm A90
 clear A90
 replace H:=Option.bind_eq_some_iff.mp H
 obtain⟨⟨t229,t230,t231,t232,t233,t234,t235,t236,t237,t240⟩,A100,H⟩:=H
 replace H:((ml_Hole.f).bind fun bt243=>((fe_Separate.f k bt243.1 bt243.2.1 bt243.2.2.1 bt243.2.2.2.1 bt243.2.2.2.2.1 bt243.2.2.2.2.2.1 bt243.2.2.2.2.2.2.1 bt243.2.2.2.2.2.2.2.1 bt243.2.2.2.2.2.2.2.2 (⟨#[87]⟩:ByteArray) 0 0 5507 0 0 0 0 ([]:List (S104))).bind fun bt254=>((ml_Hole.f).bind fun bt256=>((fe_Separate.f k bt256.1 bt256.2.1 bt256.2.2.1 bt256.2.2.2.1 bt256.2.2.2.2.1 bt256.2.2.2.2.2.1 bt256.2.2.2.2.2.2.1 bt256.2.2.2.2.2.2.2.1 bt256.2.2.2.2.2.2.2.2 (⟨#[87]⟩:ByteArray) 0 0 5506 0 0 0 0 ([]:List (S104))).bind fun bt267=>(if(wrap64 ((wrap64 ((wrap64 ((wrap64 ((wrap64 (t163+t177))+t216))+t240))+bt254.2))+bt267.2))=0 then(if t192=14 then(if t162=1000 then(if bt254.1=true then(if bt267.1=true then(some false) else(if(t175==4494&&(t176==5506))=true then(if(t208==0&&(t209==5000&&(t210==0)))=true then(if t207=2 then(if(t232==5000&&(t233==0&&(t234==0)))=true then(some (t231==1)) else(some false)) else(some false)) else(some false)) else(some false))) else(some false)) else(some false)) else(some false)) else(some false))))))=some r:=H
 have A10:=zm A100
 clear A100
 replace H:=Option.bind_eq_some_iff.mp H
 obtain⟨⟨t243,t244,t245,t246,t247,t248,t249,t250,t251⟩,A110,H⟩:=H
 replace H:((fe_Separate.f k t243 t244 t245 t246 t247 t248 t249 t250 t251 (⟨#[87]⟩:ByteArray) 0 0 5507 0 0 0 0 ([]:List (S104))).bind fun bt254=>((ml_Hole.f).bind fun bt256=>((fe_Separate.f k bt256.1 bt256.2.1 bt256.2.2.1 bt256.2.2.2.1 bt256.2.2.2.2.1 bt256.2.2.2.2.2.1 bt256.2.2.2.2.2.2.1 bt256.2.2.2.2.2.2.2.1 bt256.2.2.2.2.2.2.2.2 (⟨#[87]⟩:ByteArray) 0 0 5506 0 0 0 0 ([]:List (S104))).bind fun bt267=>(if(wrap64 ((wrap64 ((wrap64 ((wrap64 ((wrap64 (t163+t177))+t216))+t240))+bt254.2))+bt267.2))=0 then(if t192=14 then(if t162=1000 then(if bt254.1=true then(if bt267.1=true then(some false) else(if(t175==4494&&(t176==5506))=true then(if(t208==0&&(t209==5000&&(t210==0)))=true then(if t207=2 then(if(t232==5000&&(t233==0&&(t234==0)))=true then(some (t231==1)) else(some false)) else(some false)) else(some false)) else(some false))) else(some false)) else(some false)) else(some false)) else(some false)))))=some r:=H
 have A11:=zm A110
 clear A110
 replace H:=Option.bind_eq_some_iff.mp H
 obtain⟨⟨t254,t255⟩,A120,H⟩:=H
 replace H:((ml_Hole.f).bind fun bt256=>((fe_Separate.f k bt256.1 bt256.2.1 bt256.2.2.1 bt256.2.2.2.1 bt256.2.2.2.2.1 bt256.2.2.2.2.2.1 bt256.2.2.2.2.2.2.1 bt256.2.2.2.2.2.2.2.1 bt256.2.2.2.2.2.2.2.2 (⟨#[87]⟩:ByteArray) 0 0 5506 0 0 0 0 ([]:List (S104))).bind fun bt267=>(if(wrap64 ((wrap64 ((wrap64 ((wrap64 ((wrap64 (t163+t177))+t216))+t240))+t255))+bt267.2))=0 then(if t192=14 then(if t162=1000 then(if t254=true then(if bt267.1=true then(some false) else(if(t175==4494&&(t176==5506))=true then(if(t208==0&&(t209==5000&&(t210==0)))=true then(if t207=2 then(if(t232==5000&&(t233==0&&(t234==0)))=true then(some (t231==1)) else(some false)) else(some false)) else(some false)) else(some false))) else(some false)) else(some false)) else(some false)) else(some false))))=some r:=H
 have A12:=zm A120
 clear A120
 replace H:=Option.bind_eq_some_iff.mp H
 obtain⟨⟨t256,t257,t258,t259,t260,t261,t262,t263,t264⟩,A130,H⟩:=H
 replace H:((fe_Separate.f k t256 t257 t258 t259 t260 t261 t262 t263 t264 (⟨#[87]⟩:ByteArray) 0 0 5506 0 0 0 0 ([]:List (S104))).bind fun bt267=>(if(wrap64 ((wrap64 ((wrap64 ((wrap64 ((wrap64 (t163+t177))+t216))+t240))+t255))+bt267.2))=0 then(if t192=14 then(if t162=1000 then(if t254=true then(if bt267.1=true then(some false) else(if(t175==4494&&(t176==5506))=true then(if(t208==0&&(t209==5000&&(t210==0)))=true then(if t207=2 then(if(t232==5000&&(t233==0&&(t234==0)))=true then(some (t231==1)) else(some false)) else(some false)) else(some false)) else(some false))) else(some false)) else(some false)) else(some false)) else(some false)))=some r:=H
 have A13:=zm A130
 clear A130
 replace H:=Option.bind_eq_some_iff.mp H
 obtain⟨⟨t267,t268⟩,A140,H⟩:=H
 replace H:(if(wrap64 ((wrap64 ((wrap64 ((wrap64 ((wrap64 (t163+t177))+t216))+t240))+t255))+t268))=0 then(if t192=14 then(if t162=1000 then(if t254=true then(if t267=true then(some false) else(if(t175==4494&&(t176==5506))=true then(if(t208==0&&(t209==5000&&(t210==0)))=true then(if t207=2 then(if(t232==5000&&(t233==0&&(t234==0)))=true then(some (t231==1)) else(some false)) else(some false)) else(some false)) else(some false))) else(some false)) else(some false)) else(some false)) else(some false))=some r:=H
 have A14:=zm A140
 clear A140
 by_cases c15:(wrap64 ((wrap64 ((wrap64 ((wrap64 ((wrap64 (t163+t177))+t216))+t240))+t255))+t268))=0
 ·rw[if_pos c15] at H
  have c15b0:((wrap64 ((wrap64 ((wrap64 ((wrap64 ((wrap64 (t163+t177))+t216))+t240))+t255))+t268))==0)=true:=beq_iff_eq.mpr c15
  have c15b1:((wrap64 ((wrap64 ((wrap64 ((wrap64 ((wrap64 (t163+t177))+t216))+t240))+t255))+t268)) != 0)=false:=bne_eq_false_iff_eq.mpr c15
  clear c15
  by_cases c16:t192=14
  ·rw[if_pos c16] at H
   have c16b0:(t192==14)=true:=beq_iff_eq.mpr c16
   have c16b1:(t192 != 14)=false:=bne_eq_false_iff_eq.mpr c16
   clear c16
   by_cases c17:t162=1000
   ·rw[if_pos c17] at H
    have c17b0:(t162==1000)=true:=beq_iff_eq.mpr c17
    have c17b1:(t162 != 1000)=false:=bne_eq_false_iff_eq.mpr c17
    clear c17
    by_cases c18:t254=true
    ·subst c18
     have H1:(if t267=true then(some false) else(if(t175==4494&&(t176==5506))=true then(if(t208==0&&(t209==5000&&(t210==0)))=true then(if t207=2 then(if(t232==5000&&(t233==0&&(t234==0)))=true then(some (t231==1)) else(some false)) else(some false)) else(some false)) else(some false)))=some r:=by rw[if_pos rfl] at H;exact H
     clear H
     have H:=H1
     clear H1
     by_cases c19:t267=true
     ·rw[if_pos c19] at H
      exact absurd ((Option.some.inj H).trans HRT.out) (by decide)
     ·replace c19:=Bool.eq_false_iff.mpr c19
      subst c19
      have H1:(if(t175==4494&&(t176==5506))=true then(if(t208==0&&(t209==5000&&(t210==0)))=true then(if t207=2 then(if(t232==5000&&(t233==0&&(t234==0)))=true then(some (t231==1)) else(some false)) else(some false)) else(some false)) else(some false))=some r:=by rw[if_neg (show ¬(false=true) by decide)] at H;exact H
      clear H
      have H:=H1
      clear H1
      by_cases c68:(t175==4494&&(t176==5506))=true
      ·rw[if_pos c68] at H
       have c68b0:(t175==4494&&(t176==5506))=true:=c68
       (try(have c68b1:decide (t175=4494&&(t176==5506))=true:=by simpa using c68))
       (try(have c68b2:(t175==4494&&(t176==5506))=true:=by simpa using c68))
       clear c68
       by_cases c69:(t208==0&&(t209==5000&&(t210==0)))=true
       ·rw[if_pos c69] at H
        have c69b0:(t208==0&&(t209==5000&&(t210==0)))=true:=c69
        (try(have c69b1:decide (t208=0&&(t209==5000&&(t210==0)))=true:=by simpa using c69))
        (try(have c69b2:(t208==0&&(t209==5000&&(t210==0)))=true:=by simpa using c69))
        clear c69
        by_cases c70:t207=2
        ·rw[if_pos c70] at H
         have c70b0:(t207==2)=true:=beq_iff_eq.mpr c70
         have c70b1:(t207 != 2)=false:=bne_eq_false_iff_eq.mpr c70
         clear c70
         by_cases c71:(t232==5000&&(t233==0&&(t234==0)))=true
         ·rw[if_pos c71] at H
          have c71b0:(t232==5000&&(t233==0&&(t234==0)))=true:=c71
          (try(have c71b1:decide (t232=5000&&(t233==0&&(t234==0)))=true:=by simpa using c71))
          (try(have c71b2:(t232==5000&&(t233==0&&(t234==0)))=true:=by simpa using c71))
          clear c71
          obtain rfl:=Option.some.inj H
          go_enter Try.func18,Try.ntmps18
          try go_wp2_with (first|((with_reducible refine gate_callee (f:=67) rfl ?_);refine goesL_ (some 17) rfl rfl Try.func67 (by kernel_rfl) rfl #[] rfl (by(try simp only[List.map_toArray,List.map_cons,List.map_nil]);first|done|rfl|(simp only[List.length_drop,List.length_take];rfl)) ?_;(with_reducible refine(ml_Hole.calls  t151 t152 t153 t154 t155 t156 t157 t158 t159 _ A1.out).mono ?_);rintro e w72 ⟨v160,rfl,ho0,hb⟩;refine⟨_,rfl,?_⟩;have n0_:=zm (Kd.S_lower ho0 (below_size (by repeat(first|(with_reducible first|exact HB.out|apply zA|apply zD|apply zE)|exact HB.out))));have n1_:=zm (below_step (by repeat(first|(with_reducible first|exact HB.out|apply zA|apply zD|apply zE)|exact HB.out)) hb);clear HB;have HO161:=n0_;have HB:=n1_;clear n0_ n1_;(try clear hb);(try clear hb2);(try clear hk);(try clear hi);(try clear ho0);obtain⟨Ao73,co73,eo73⟩:=Kd.S_slice HO161.out;subst eo73)|((with_reducible refine gate_callee (f:=25) rfl ?_);refine goesL_ (some 18) rfl rfl Try.func25 (by kernel_rfl) rfl #[.agg #[.string t151,.int .i64 t152,.int .i64 t153,.int .i64 t154,.int .i64 t155,.int .i64 t156,.int .i64 t157,.int .i64 t158,.slice Ao73 t159.length co73]] rfl (by(try simp only[List.map_toArray,List.map_cons,List.map_nil]);first|done|rfl|(simp only[List.length_drop,List.length_take];rfl)) ?_;(with_reducible refine(fe_Maximum.calls k t151 t152 t153 t154 t155 t156 t157 t158 _ _ t159 t162 t163 _ ?side1 ?side2 A2.out).mono ?_);(case side1=>repeat(first|exact(Kd.S_reads' HO161.out).2.2|(with_reducible refine Kd.C_alloc ?_ _)|(with_reducible refine Kd.C_drewN ?_ _)|(with_reducible refine Kd.C_drew ?_)));(case side2=>exact(Kd.S_reads' HO161.out).2.1);rintro e w74 ⟨rfl,hb⟩;refine⟨_,rfl,?_⟩;have n0_:=zm (Kd.S_below (by(with_reducible repeat(first|apply Kd.S_alloc|apply Kd.S_drewN|apply Kd.S_drew));exact HO161.out) hb);have n1_:=zm (below_step (by repeat(first|(with_reducible first|exact HB.out|apply zA|apply zD|apply zE)|exact HB.out)) hb);clear HO161 HB;have HO161:=n0_;have HB:=n1_;clear n0_ n1_;(try clear hb);(try clear hb2);(try clear hk);(try clear hi))|((with_reducible refine gate_callee (f:=67) rfl ?_);refine goesL_ (some 22) rfl rfl Try.func67 (by kernel_rfl) rfl #[] rfl (by(try simp only[List.map_toArray,List.map_cons,List.map_nil]);first|done|rfl|(simp only[List.length_drop,List.length_take];rfl)) ?_;(with_reducible refine(ml_Hole.calls  t164 t165 t166 t167 t168 t169 t170 t171 t172 _ A3.out).mono ?_);rintro e w75 ⟨v173,rfl,ho0,hb⟩;refine⟨_,rfl,?_⟩;have n0_:=zm (Kd.S_elder' (by(with_reducible repeat(first|apply Kd.S_alloc|apply Kd.S_drewN|apply Kd.S_drew));exact HO161.out) (Kd.S_base ho0) hb);have n1_:=zm (Kd.S_lower (Kd.S_new' ho0 (Kd.S_lt (by(with_reducible repeat(first|apply Kd.S_alloc|apply Kd.S_drewN|apply Kd.S_drew));exact HO161.out))) (below_size (by repeat(first|(with_reducible first|exact HB.out|apply zA|apply zD|apply zE)|exact HB.out))));have n2_:=zm (below_step (by repeat(first|(with_reducible first|exact HB.out|apply zA|apply zD|apply zE)|exact HB.out)) hb);clear HO161 HB;have HO161:=n0_;have HO174:=n1_;have HB:=n2_;clear n0_ n1_ n2_;(try clear hb);(try clear hb2);(try clear hk);(try clear hi);(try clear ho0);obtain⟨Ao76,co76,eo76⟩:=Kd.S_slice HO174.out;subst eo76)|((with_reducible refine gate_callee (f:=19) rfl ?_);refine goesL_ (some 23) rfl rfl Try.func19 (by kernel_rfl) rfl #[.agg #[.string t164,.int .i64 t165,.int .i64 t166,.int .i64 t167,.int .i64 t168,.int .i64 t169,.int .i64 t170,.int .i64 t171,.slice Ao76 t172.length co76],.int .i64 0] rfl (by(try simp only[List.map_toArray,List.map_cons,List.map_nil]);first|done|rfl|(simp only[List.length_drop,List.length_take];rfl)) ?_;(with_reducible refine(fe_Reach.calls k t164 t165 t166 t167 t168 t169 t170 t171 _ _ t172 0 t175 t176 t177 _ ?side1 ?side2 A4.out).mono ?_);(case side1=>repeat(first|exact(Kd.S_reads' HO174.out).2.2|(with_reducible refine Kd.C_alloc ?_ _)|(with_reducible refine Kd.C_drewN ?_ _)|(with_reducible refine Kd.C_drew ?_)));(case side2=>exact(Kd.S_reads' HO174.out).2.1);rintro e w77 ⟨rfl,hb⟩;refine⟨_,rfl,?_⟩;have n0_:=zm (Kd.S_below (by(with_reducible repeat(first|apply Kd.S_alloc|apply Kd.S_drewN|apply Kd.S_drew));exact HO161.out) hb);have n1_:=zm (Kd.S_below (by(with_reducible repeat(first|apply Kd.S_alloc|apply Kd.S_drewN|apply Kd.S_drew));exact HO174.out) hb);have n2_:=zm (below_step (by repeat(first|(with_reducible first|exact HB.out|apply zA|apply zD|apply zE)|exact HB.out)) hb);clear HO161 HO174 HB;have HO161:=n0_;have HO174:=n1_;have HB:=n2_;clear n0_ n1_ n2_;(try clear hb);(try clear hb2);(try clear hk);(try clear hi))|((with_reducible refine gate_dst (N:=3) rfl ?_);refine box_event ?hg (N:=3) ?hd (cs:=#[.int .i64 0,.int .i64 0]) (t:=25) ?hr ?_;(case hd=>rfl);(case hg=>rfl);(case hr=>first|(go_simp;done)|(go_simp;rfl));intro gb178 hg w78 hbox hb;have n0_:=zm (Kd.S_below (by(with_reducible repeat(first|apply Kd.S_alloc|apply Kd.S_drewN|apply Kd.S_drew));exact HO161.out) hb);have n1_:=zm (Kd.S_below (by(with_reducible repeat(first|apply Kd.S_alloc|apply Kd.S_drewN|apply Kd.S_drew));exact HO174.out) hb);have n2_:=zm (below_step (by repeat(first|(with_reducible first|exact HB.out|apply zA|apply zD|apply zE)|exact HB.out)) hb);have n3_:=zm (hbox);have n4_:=zm ((by rw[hg];exact(below_size (by repeat(first|(with_reducible first|exact HB.out|apply zA|apply zD|apply zE)|exact HB.out))):w.heap.size≤gb178));have n5_:=zm ((by rw[hg];exact(below_size (by repeat(first|(with_reducible first|exact HB.out|apply zA|apply zD|apply zE)|exact HB.out))):w.heap.size≤gb178));clear HO161 HO174 HB;have HO161:=n0_;have HO174:=n1_;have HB:=n2_;have BK178:=n3_;have GW178:=n4_;have GE178:=n5_;clear n0_ n1_ n2_ n3_ n4_ n5_;clear hb hbox hg;have hcz79_0:=zc BK178.out 0 (.int .i64 0) rfl;have hcz79_1:=zc BK178.out 1 (.int .i64 0) rfl;have hfz79_0:=zf BK178.out 0;have hfz79_1:=zf BK178.out 1)|((with_reducible refine gate_callee (f:=67) rfl ?_);refine goesL_ (some 27) rfl rfl Try.func67 (by kernel_rfl) rfl #[] rfl (by(try simp only[List.map_toArray,List.map_cons,List.map_nil]);first|done|rfl|(simp only[List.length_drop,List.length_take];rfl)) ?_;(with_reducible refine(ml_Hole.calls  t179 t180 t181 t182 t183 t184 t185 t186 t187 _ A5.out).mono ?_);rintro e w80 ⟨v188,rfl,ho0,hb⟩;refine⟨_,rfl,?_⟩;have n0_:=zm (Kd.S_elder' (by(with_reducible repeat(first|apply Kd.S_alloc|apply Kd.S_drewN|apply Kd.S_drew));exact(Kd.S_mono (Kd.S_far (p:=⟨gb178,1,none⟩) (Kd.S_far (p:=⟨gb178,0,none⟩) (Kd.S_types HO161.out BK178.out (by decide)) (fun _ hk=>hk.2) (.int .i64 t175)) (fun _ hk=>hk.2) (.int .i64 t176)) (fun _ h_=>h_.1))) (Kd.S_base ho0) hb);have n1_:=zm (Kd.S_elder' (by(with_reducible repeat(first|apply Kd.S_alloc|apply Kd.S_drewN|apply Kd.S_drew));exact(Kd.S_mono (Kd.S_far (p:=⟨gb178,1,none⟩) (Kd.S_far (p:=⟨gb178,0,none⟩) (Kd.S_types HO174.out BK178.out (by decide)) (fun _ hk=>hk.2) (.int .i64 t175)) (fun _ hk=>hk.2) (.int .i64 t176)) (fun _ h_=>h_.1))) (Kd.S_base ho0) hb);have n2_:=zm (Kd.S_lower (Kd.S_new' (Kd.S_new' ho0 (Kd.S_lt (by(with_reducible repeat(first|apply Kd.S_alloc|apply Kd.S_drewN|apply Kd.S_drew));exact(Kd.S_mono (Kd.S_far (p:=⟨gb178,1,none⟩) (Kd.S_far (p:=⟨gb178,0,none⟩) (Kd.S_types HO161.out BK178.out (by decide)) (fun _ hk=>hk.2) (.int .i64 t175)) (fun _ hk=>hk.2) (.int .i64 t176)) (fun _ h_=>h_.1))))) (Kd.S_lt (by(with_reducible repeat(first|apply Kd.S_alloc|apply Kd.S_drewN|apply Kd.S_drew));exact(Kd.S_mono (Kd.S_far (p:=⟨gb178,1,none⟩) (Kd.S_far (p:=⟨gb178,0,none⟩) (Kd.S_types HO174.out BK178.out (by decide)) (fun _ hk=>hk.2) (.int .i64 t175)) (fun _ hk=>hk.2) (.int .i64 t176)) (fun _ h_=>h_.1))))) (below_size (by repeat(first|(with_reducible first|exact HB.out|apply zA|apply zD|apply zE|refine zS ?_ GE178.out)|exact HB.out))));have n3_:=zm (zb (g:=gb178) (o:=.cells #[.int .i64 t175,.int .i64 t176] 25 (0,0)) (by(with_reducible repeat first|apply zd|apply ze|apply za);refine blk_put (cs:=#[.int .i64 t175,.int .i64 0]) ?_ 1 _ rfl;(with_reducible repeat first|apply zd|apply ze|apply za);refine blk_put (cs:=#[.int .i64 0,.int .i64 0]) ?_ 0 _ rfl;(with_reducible repeat first|apply zd|apply ze|apply za);exact BK178.out) hb);have n4_:=zm (below_step (by repeat(first|(with_reducible first|exact HB.out|apply zA|apply zD|apply zE|refine zS ?_ GE178.out)|exact HB.out)) hb);clear HO161 HO174 BK178 HB;have HO161:=n0_;have HO174:=n1_;have HO189:=n2_;have BK178:=n3_;have HB:=n4_;clear n0_ n1_ n2_ n3_ n4_;(try clear hb);(try clear hb2);(try clear hk);(try clear hi);(try clear ho0);obtain⟨Ao81,co81,eo81⟩:=Kd.S_slice HO189.out;subst eo81)|((with_reducible refine gate_callee (f:=19) rfl ?_);refine goesL_ (some 28) rfl rfl Try.func19 (by kernel_rfl) rfl #[.agg #[.string t179,.int .i64 t180,.int .i64 t181,.int .i64 t182,.int .i64 t183,.int .i64 t184,.int .i64 t185,.int .i64 t186,.slice Ao81 t187.length co81],.int .i64 2] rfl (by(try simp only[List.map_toArray,List.map_cons,List.map_nil]);first|done|rfl|(simp only[List.length_drop,List.length_take];rfl)) ?_;(with_reducible refine(fe_Reach.calls k t179 t180 t181 t182 t183 t184 t185 t186 _ _ t187 2 t190 t191 t192 _ ?side1 ?side2 A6.out).mono ?_);(case side1=>repeat(first|exact(Kd.S_reads' HO189.out).2.2|(with_reducible refine Kd.C_alloc ?_ _)|(with_reducible refine Kd.C_drewN ?_ _)|(with_reducible refine Kd.C_drew ?_)));(case side2=>exact(Kd.S_reads' HO189.out).2.1);rintro e w82 ⟨rfl,hb⟩;refine⟨_,rfl,?_⟩;have n0_:=zm (Kd.S_below (by(with_reducible repeat(first|apply Kd.S_alloc|apply Kd.S_drewN|apply Kd.S_drew));exact HO161.out) hb);have n1_:=zm (Kd.S_below (by(with_reducible repeat(first|apply Kd.S_alloc|apply Kd.S_drewN|apply Kd.S_drew));exact HO174.out) hb);have n2_:=zm (Kd.S_below (by(with_reducible repeat(first|apply Kd.S_alloc|apply Kd.S_drewN|apply Kd.S_drew));exact HO189.out) hb);have n3_:=zm (zb (g:=gb178) (o:=.cells #[.int .i64 t175,.int .i64 t176] 25 (0,0)) (by(with_reducible repeat first|apply zd|apply ze|apply za);exact BK178.out) hb);have n4_:=zm (below_step (by repeat(first|(with_reducible first|exact HB.out|apply zA|apply zD|apply zE|refine zS ?_ GE178.out)|exact HB.out)) hb);clear HO161 HO174 HO189 BK178 HB;have HO161:=n0_;have HO174:=n1_;have HO189:=n2_;have BK178:=n3_;have HB:=n4_;clear n0_ n1_ n2_ n3_ n4_;(try clear hb);(try clear hb2);(try clear hk);(try clear hi))|((with_reducible refine gate_dst (N:=5) rfl ?_);refine box_event ?hg (N:=5) ?hd (cs:=#[.int .i64 0,.int .i64 0]) (t:=25) ?hr ?_;(case hd=>rfl);(case hg=>rfl);(case hr=>first|(go_simp;done)|(go_simp;rfl));intro gb193 hg w83 hbox hb;have n0_:=zm (Kd.S_below (by(with_reducible repeat(first|apply Kd.S_alloc|apply Kd.S_drewN|apply Kd.S_drew));exact HO161.out) hb);have n1_:=zm (Kd.S_below (by(with_reducible repeat(first|apply Kd.S_alloc|apply Kd.S_drewN|apply Kd.S_drew));exact HO174.out) hb);have n2_:=zm (Kd.S_below (by(with_reducible repeat(first|apply Kd.S_alloc|apply Kd.S_drewN|apply Kd.S_drew));exact HO189.out) hb);have n3_:=zm (zb (g:=gb178) (o:=.cells #[.int .i64 t175,.int .i64 t176] 25 (0,0)) (by(with_reducible repeat first|apply zd|apply ze|apply za);exact BK178.out) hb);have n4_:=zm (below_step (by repeat(first|(with_reducible first|exact HB.out|apply zA|apply zD|apply zE|refine zS ?_ GE178.out)|exact HB.out)) hb);have n5_:=zm (hbox);have n6_:=zm ((by rw[hg];exact(below_size (by repeat(first|(with_reducible first|exact HB.out|apply zA|apply zD|apply zE|refine zS ?_ GE178.out)|exact HB.out))):w.heap.size≤gb193));have n7_:=zm ((by rw[hg];exact(below_size (by repeat(first|(with_reducible first|exact HB.out|apply zA|apply zD|apply zE|refine zS ?_ GE178.out)|exact HB.out))):w.heap.size≤gb193));have n8_:=zm ((by rw[hg];exact Nat.ne_of_lt (blk_lt (g:=gb178) (o:=.cells #[.int .i64 t175,.int .i64 t176] 25 (0,0)) (by(with_reducible repeat first|apply zd|apply ze|apply za);exact BK178.out)):gb178≠gb193));have n9_:=zm ((by rw[hg];exact Nat.ne_of_gt (blk_lt (g:=gb178) (o:=.cells #[.int .i64 t175,.int .i64 t176] 25 (0,0)) (by(with_reducible repeat first|apply zd|apply ze|apply za);exact BK178.out)):gb193≠gb178));clear HO161 HO174 HO189 BK178 HB;have HO161:=n0_;have HO174:=n1_;have HO189:=n2_;have BK178:=n3_;have HB:=n4_;have BK193:=n5_;have GW193:=n6_;have GE193:=n7_;have NB178_193:=n8_;have NB193_178:=n9_;clear n0_ n1_ n2_ n3_ n4_ n5_ n6_ n7_ n8_ n9_;clear hb hbox hg;have hnb84:=NB193_178.out;have hnc84:=NB178_193.out;have hcz85_0:=zc BK193.out 0 (.int .i64 0) rfl;have hcz85_1:=zc BK193.out 1 (.int .i64 0) rfl;have hfz85_0:=zf BK193.out 0;have hfz85_1:=zf BK193.out 1)|((with_reducible refine gate_callee (f:=67) rfl ?_);refine goesL_ (some 32) rfl rfl Try.func67 (by kernel_rfl) rfl #[] rfl (by(try simp only[List.map_toArray,List.map_cons,List.map_nil]);first|done|rfl|(simp only[List.length_drop,List.length_take];rfl)) ?_;(with_reducible refine(ml_Hole.calls  t194 t195 t196 t197 t198 t199 t200 t201 t202 _ A7.out).mono ?_);rintro e w86 ⟨v203,rfl,ho0,hb⟩;refine⟨_,rfl,?_⟩;have n0_:=zm (Kd.S_elder' (by(with_reducible repeat(first|apply Kd.S_alloc|apply Kd.S_drewN|apply Kd.S_drew));exact(Kd.S_mono (Kd.S_far (p:=⟨gb193,1,none⟩) (Kd.S_far (p:=⟨gb193,0,none⟩) (Kd.S_types HO161.out BK193.out (by decide)) (fun _ hk=>hk.2) (.int .i64 t190)) (fun _ hk=>hk.2) (.int .i64 t191)) (fun _ h_=>h_.1))) (Kd.S_base ho0) hb);have n1_:=zm (Kd.S_elder' (by(with_reducible repeat(first|apply Kd.S_alloc|apply Kd.S_drewN|apply Kd.S_drew));exact(Kd.S_mono (Kd.S_far (p:=⟨gb193,1,none⟩) (Kd.S_far (p:=⟨gb193,0,none⟩) (Kd.S_types HO174.out BK193.out (by decide)) (fun _ hk=>hk.2) (.int .i64 t190)) (fun _ hk=>hk.2) (.int .i64 t191)) (fun _ h_=>h_.1))) (Kd.S_base ho0) hb);have n2_:=zm (Kd.S_elder' (by(with_reducible repeat(first|apply Kd.S_alloc|apply Kd.S_drewN|apply Kd.S_drew));exact(Kd.S_mono (Kd.S_far (p:=⟨gb193,1,none⟩) (Kd.S_far (p:=⟨gb193,0,none⟩) (Kd.S_types HO189.out BK193.out (by decide)) (fun _ hk=>hk.2) (.int .i64 t190)) (fun _ hk=>hk.2) (.int .i64 t191)) (fun _ h_=>h_.1))) (Kd.S_base ho0) hb);have n3_:=zm (Kd.S_lower (Kd.S_new' (Kd.S_new' (Kd.S_new' ho0 (Kd.S_lt (by(with_reducible repeat(first|apply Kd.S_alloc|apply Kd.S_drewN|apply Kd.S_drew));exact(Kd.S_mono (Kd.S_far (p:=⟨gb193,1,none⟩) (Kd.S_far (p:=⟨gb193,0,none⟩) (Kd.S_types HO161.out BK193.out (by decide)) (fun _ hk=>hk.2) (.int .i64 t190)) (fun _ hk=>hk.2) (.int .i64 t191)) (fun _ h_=>h_.1))))) (Kd.S_lt (by(with_reducible repeat(first|apply Kd.S_alloc|apply Kd.S_drewN|apply Kd.S_drew));exact(Kd.S_mono (Kd.S_far (p:=⟨gb193,1,none⟩) (Kd.S_far (p:=⟨gb193,0,none⟩) (Kd.S_types HO174.out BK193.out (by decide)) (fun _ hk=>hk.2) (.int .i64 t190)) (fun _ hk=>hk.2) (.int .i64 t191)) (fun _ h_=>h_.1))))) (Kd.S_lt (by(with_reducible repeat(first|apply Kd.S_alloc|apply Kd.S_drewN|apply Kd.S_drew));exact(Kd.S_mono (Kd.S_far (p:=⟨gb193,1,none⟩) (Kd.S_far (p:=⟨gb193,0,none⟩) (Kd.S_types HO189.out BK193.out (by decide)) (fun _ hk=>hk.2) (.int .i64 t190)) (fun _ hk=>hk.2) (.int .i64 t191)) (fun _ h_=>h_.1))))) (below_size (by repeat(first|(with_reducible first|exact HB.out|apply zA|apply zD|apply zE|refine zS ?_ GE178.out|refine zS ?_ GE193.out)|exact HB.out))));have n4_:=zm (zb (g:=gb178) (o:=.cells #[.int .i64 t175,.int .i64 t176] 25 (0,0)) (by(with_reducible repeat first|apply zd|apply ze|apply za);refine blk_far ?_ NB178_193.out _;(with_reducible repeat first|apply zd|apply ze|apply za);refine blk_far ?_ NB178_193.out _;(with_reducible repeat first|apply zd|apply ze|apply za);exact BK178.out) hb);have n5_:=zm (zb (g:=gb193) (o:=.cells #[.int .i64 t190,.int .i64 t191] 25 (0,0)) (by(with_reducible repeat first|apply zd|apply ze|apply za);refine blk_put (cs:=#[.int .i64 t190,.int .i64 0]) ?_ 1 _ rfl;(with_reducible repeat first|apply zd|apply ze|apply za);refine blk_put (cs:=#[.int .i64 0,.int .i64 0]) ?_ 0 _ rfl;(with_reducible repeat first|apply zd|apply ze|apply za);exact BK193.out) hb);have n6_:=zm (below_step (by repeat(first|(with_reducible first|exact HB.out|apply zA|apply zD|apply zE|refine zS ?_ GE178.out|refine zS ?_ GE193.out)|exact HB.out)) hb);clear HO161 HO174 HO189 BK178 BK193 HB;have HO161:=n0_;have HO174:=n1_;have HO189:=n2_;have HO204:=n3_;have BK178:=n4_;have BK193:=n5_;have HB:=n6_;clear n0_ n1_ n2_ n3_ n4_ n5_ n6_;(try clear hb);(try clear hb2);(try clear hk);(try clear hi);(try clear ho0);obtain⟨Ao87,co87,eo87⟩:=Kd.S_slice HO204.out;subst eo87)|((with_reducible refine gate_callee (f:=46) rfl ?_);refine goesL_ (some 33) rfl rfl Try.func46 (by kernel_rfl) rfl #[.agg #[.string t194,.int .i64 t195,.int .i64 t196,.int .i64 t197,.int .i64 t198,.int .i64 t199,.int .i64 t200,.int .i64 t201,.slice Ao87 t202.length co87],.int .i64 2] rfl (by(try simp only[List.map_toArray,List.map_cons,List.map_nil]);first|done|rfl|(simp only[List.length_drop,List.length_take];rfl)) ?_;(with_reducible refine(fe_Turn.calls t194 t195 t196 t197 t198 t199 t200 t201 _ _ t202 2 t205 t206 t207 t208 t209 t210 t211 t212 t213 t216 _ ?side1 ?side2 A8.out).mono ?_);(case side1=>repeat(first|exact(Kd.S_reads' HO204.out).2.2|(with_reducible refine Kd.C_alloc ?_ _)|(with_reducible refine Kd.C_drewN ?_ _)|(with_reducible refine Kd.C_drew ?_)));(case side2=>exact(Kd.S_reads' HO204.out).2.1);rintro e w88 ⟨v214,rfl,ho0,hb⟩;refine⟨_,rfl,?_⟩;have n0_:=zm (Kd.S_below (by(with_reducible repeat(first|apply Kd.S_alloc|apply Kd.S_drewN|apply Kd.S_drew));exact HO161.out) hb);have n1_:=zm (Kd.S_below (by(with_reducible repeat(first|apply Kd.S_alloc|apply Kd.S_drewN|apply Kd.S_drew));exact HO174.out) hb);have n2_:=zm (Kd.S_below (by(with_reducible repeat(first|apply Kd.S_alloc|apply Kd.S_drewN|apply Kd.S_drew));exact HO189.out) hb);have n3_:=zm (Kd.S_below (by(with_reducible repeat(first|apply Kd.S_alloc|apply Kd.S_drewN|apply Kd.S_drew));exact HO204.out) hb);have n4_:=zm (Kd.V_lower (Kd.V_mono (ok':=fun k_=>some k_≠(.slice Ao73 t159.length co73:Value).ownBlock∧some k_≠(.slice Ao76 t172.length co76:Value).ownBlock∧some k_≠(.slice Ao81 t187.length co81:Value).ownBlock∧some k_≠(.slice Ao87 t202.length co87:Value).ownBlock∧k_≠gb178∧k_≠gb193) ho0 (fun k_ hk_=>⟨(Kd.fresh' (Kd.S_lt (by(with_reducible repeat(first|apply Kd.S_alloc|apply Kd.S_drewN|apply Kd.S_drew));exact HO161.out)) k_ hk_),(Kd.fresh' (Kd.S_lt (by(with_reducible repeat(first|apply Kd.S_alloc|apply Kd.S_drewN|apply Kd.S_drew));exact HO174.out)) k_ hk_),(Kd.fresh' (Kd.S_lt (by(with_reducible repeat(first|apply Kd.S_alloc|apply Kd.S_drewN|apply Kd.S_drew));exact HO189.out)) k_ hk_),(Kd.fresh' (Kd.S_lt (by(with_reducible repeat(first|apply Kd.S_alloc|apply Kd.S_drewN|apply Kd.S_drew));exact HO204.out)) k_ hk_),(Kd.freshB (g:=gb178) (o:=.cells #[.int .i64 t175,.int .i64 t176] 25 (0,0)) (by(with_reducible repeat first|apply zd|apply ze|apply za);exact BK178.out) k_ hk_),(Kd.freshB (g:=gb193) (o:=.cells #[.int .i64 t190,.int .i64 t191] 25 (0,0)) (by(with_reducible repeat first|apply zd|apply ze|apply za);exact BK193.out) k_ hk_)⟩)) (below_size (by repeat(first|(with_reducible first|exact HB.out|apply zA|apply zD|apply zE|refine zS ?_ GE178.out|refine zS ?_ GE193.out)|exact HB.out))));have n5_:=zm (zb (g:=gb178) (o:=.cells #[.int .i64 t175,.int .i64 t176] 25 (0,0)) (by(with_reducible repeat first|apply zd|apply ze|apply za);exact BK178.out) hb);have n6_:=zm (zb (g:=gb193) (o:=.cells #[.int .i64 t190,.int .i64 t191] 25 (0,0)) (by(with_reducible repeat first|apply zd|apply ze|apply za);exact BK193.out) hb);have n7_:=zm (below_step (by repeat(first|(with_reducible first|exact HB.out|apply zA|apply zD|apply zE|refine zS ?_ GE178.out|refine zS ?_ GE193.out)|exact HB.out)) hb);clear HO161 HO174 HO189 HO204 BK178 BK193 HB;have HO161:=n0_;have HO174:=n1_;have HO189:=n2_;have HO204:=n3_;have HO215:=n4_;have BK178:=n5_;have BK193:=n6_;have HB:=n7_;clear n0_ n1_ n2_ n3_ n4_ n5_ n6_ n7_;(try clear hb);(try clear hb2);(try clear hk);(try clear hi);(try clear ho0))|((with_reducible refine gate_dst (N:=7) rfl ?_);refine box_event ?hg (N:=7) ?hd (cs:=#[.string (⟨#[]⟩:ByteArray),.int .i64 0,.int .i64 0,.int .i64 0,.int .i64 0,.int .i64 0,.int .i64 0,.int .i64 0,.slice none 0 0]) (t:=28) ?hr ?_;(case hd=>rfl);(case hg=>rfl);(case hr=>first|(go_simp;done)|(go_simp;rfl));intro gb217 hg w89 hbox hb;have n0_:=zm (Kd.S_below (by(with_reducible repeat(first|apply Kd.S_alloc|apply Kd.S_drewN|apply Kd.S_drew));exact HO161.out) hb);have n1_:=zm (Kd.S_below (by(with_reducible repeat(first|apply Kd.S_alloc|apply Kd.S_drewN|apply Kd.S_drew));exact HO174.out) hb);have n2_:=zm (Kd.S_below (by(with_reducible repeat(first|apply Kd.S_alloc|apply Kd.S_drewN|apply Kd.S_drew));exact HO189.out) hb);have n3_:=zm (Kd.S_below (by(with_reducible repeat(first|apply Kd.S_alloc|apply Kd.S_drewN|apply Kd.S_drew));exact HO204.out) hb);have n4_:=zm (Kd.V_below (Kd.V_elderB (by(with_reducible repeat(first|apply Kd.V_alloc|apply Kd.V_drewN|apply Kd.V_drew));exact HO215.out) gb217 (Nat.le_of_eq hg.symm)) hb);have n5_:=zm (zb (g:=gb178) (o:=.cells #[.int .i64 t175,.int .i64 t176] 25 (0,0)) (by(with_reducible repeat first|apply zd|apply ze|apply za);exact BK178.out) hb);have n6_:=zm (zb (g:=gb193) (o:=.cells #[.int .i64 t190,.int .i64 t191] 25 (0,0)) (by(with_reducible repeat first|apply zd|apply ze|apply za);exact BK193.out) hb);have n7_:=zm (below_step (by repeat(first|(with_reducible first|exact HB.out|apply zA|apply zD|apply zE|refine zS ?_ GE178.out|refine zS ?_ GE193.out)|exact HB.out)) hb);have n8_:=zm (hbox);have n9_:=zm ((by rw[hg];exact(below_size (by repeat(first|(with_reducible first|exact HB.out|apply zA|apply zD|apply zE|refine zS ?_ GE178.out|refine zS ?_ GE193.out)|exact HB.out))):w.heap.size≤gb217));have n10_:=zm ((by rw[hg];exact(below_size (by repeat(first|(with_reducible first|exact HB.out|apply zA|apply zD|apply zE|refine zS ?_ GE178.out|refine zS ?_ GE193.out)|exact HB.out))):w.heap.size≤gb217));have n11_:=zm ((by rw[hg];exact Nat.ne_of_lt (blk_lt (g:=gb178) (o:=.cells #[.int .i64 t175,.int .i64 t176] 25 (0,0)) (by(with_reducible repeat first|apply zd|apply ze|apply za);exact BK178.out)):gb178≠gb217));have n12_:=zm ((by rw[hg];exact Nat.ne_of_gt (blk_lt (g:=gb178) (o:=.cells #[.int .i64 t175,.int .i64 t176] 25 (0,0)) (by(with_reducible repeat first|apply zd|apply ze|apply za);exact BK178.out)):gb217≠gb178));have n13_:=zm ((by rw[hg];exact Nat.ne_of_lt (blk_lt (g:=gb193) (o:=.cells #[.int .i64 t190,.int .i64 t191] 25 (0,0)) (by(with_reducible repeat first|apply zd|apply ze|apply za);exact BK193.out)):gb193≠gb217));have n14_:=zm ((by rw[hg];exact Nat.ne_of_gt (blk_lt (g:=gb193) (o:=.cells #[.int .i64 t190,.int .i64 t191] 25 (0,0)) (by(with_reducible repeat first|apply zd|apply ze|apply za);exact BK193.out)):gb217≠gb193));clear HO161 HO174 HO189 HO204 HO215 BK178 BK193 HB;have HO161:=n0_;have HO174:=n1_;have HO189:=n2_;have HO204:=n3_;have HO215:=n4_;have BK178:=n5_;have BK193:=n6_;have HB:=n7_;have BK217:=n8_;have GW217:=n9_;have GE217:=n10_;have NB178_217:=n11_;have NB217_178:=n12_;have NB193_217:=n13_;have NB217_193:=n14_;clear n0_ n1_ n2_ n3_ n4_ n5_ n6_ n7_ n8_ n9_ n10_ n11_ n12_ n13_ n14_;clear hb hbox hg;have hnb90:=NB217_178.out;have hnc90:=NB178_217.out;have hnb91:=NB217_193.out;have hnc91:=NB193_217.out;have hcz92_0:=zc BK217.out 0 (.string (⟨#[]⟩:ByteArray)) rfl;have hcz92_1:=zc BK217.out 1 (.int .i64 0) rfl;have hcz92_2:=zc BK217.out 2 (.int .i64 0) rfl;have hcz92_3:=zc BK217.out 3 (.int .i64 0) rfl;have hcz92_4:=zc BK217.out 4 (.int .i64 0) rfl;have hcz92_5:=zc BK217.out 5 (.int .i64 0) rfl;have hcz92_6:=zc BK217.out 6 (.int .i64 0) rfl;have hcz92_7:=zc BK217.out 7 (.int .i64 0) rfl;have hcz92_8:=zc BK217.out 8 (.slice none 0 0) rfl;have hfz92_0:=zf BK217.out 0;have hfz92_1:=zf BK217.out 1;have hfz92_2:=zf BK217.out 2;have hfz92_3:=zf BK217.out 3;have hfz92_4:=zf BK217.out 4;have hfz92_5:=zf BK217.out 5;have hfz92_6:=zf BK217.out 6;have hfz92_7:=zf BK217.out 7;have hfz92_8:=zf BK217.out 8;obtain⟨Ao93,co93,eo93⟩:=Kd.V_slice HO215.out;subst eo93)|((with_reducible refine gate_callee (f:=67) rfl ?_);refine goesL_ (some 37) rfl rfl Try.func67 (by kernel_rfl) rfl #[] rfl (by(try simp only[List.map_toArray,List.map_cons,List.map_nil]);first|done|rfl|(simp only[List.length_drop,List.length_take];rfl)) ?_;(with_reducible refine(ml_Hole.calls  t218 t219 t220 t221 t222 t223 t224 t225 t226 _ A9.out).mono ?_);rintro e w94 ⟨v227,rfl,ho0,hb⟩;refine⟨_,rfl,?_⟩;have n0_:=zm (Kd.S_elder' (by(with_reducible repeat(first|apply Kd.S_alloc|apply Kd.S_drewN|apply Kd.S_drew));exact(Kd.S_mono (Kd.S_far (p:=⟨gb217,8,none⟩) (Kd.S_far (p:=⟨gb217,7,none⟩) (Kd.S_far (p:=⟨gb217,6,none⟩) (Kd.S_far (p:=⟨gb217,5,none⟩) (Kd.S_far (p:=⟨gb217,4,none⟩) (Kd.S_far (p:=⟨gb217,3,none⟩) (Kd.S_far (p:=⟨gb217,2,none⟩) (Kd.S_far (p:=⟨gb217,1,none⟩) (Kd.S_far (p:=⟨gb217,0,none⟩) (Kd.S_types HO161.out BK217.out (by decide)) (fun _ hk=>hk.2) (.string t205)) (fun _ hk=>hk.2) (.int .i64 t206)) (fun _ hk=>hk.2) (.int .i64 t207)) (fun _ hk=>hk.2) (.int .i64 t208)) (fun _ hk=>hk.2) (.int .i64 t209)) (fun _ hk=>hk.2) (.int .i64 t210)) (fun _ hk=>hk.2) (.int .i64 t211)) (fun _ hk=>hk.2) (.int .i64 t212)) (fun _ hk=>hk.2) (.slice Ao93 t213.length co93)) (fun _ h_=>h_.1))) (Kd.S_base ho0) hb);have n1_:=zm (Kd.S_elder' (by(with_reducible repeat(first|apply Kd.S_alloc|apply Kd.S_drewN|apply Kd.S_drew));exact(Kd.S_mono (Kd.S_far (p:=⟨gb217,8,none⟩) (Kd.S_far (p:=⟨gb217,7,none⟩) (Kd.S_far (p:=⟨gb217,6,none⟩) (Kd.S_far (p:=⟨gb217,5,none⟩) (Kd.S_far (p:=⟨gb217,4,none⟩) (Kd.S_far (p:=⟨gb217,3,none⟩) (Kd.S_far (p:=⟨gb217,2,none⟩) (Kd.S_far (p:=⟨gb217,1,none⟩) (Kd.S_far (p:=⟨gb217,0,none⟩) (Kd.S_types HO174.out BK217.out (by decide)) (fun _ hk=>hk.2) (.string t205)) (fun _ hk=>hk.2) (.int .i64 t206)) (fun _ hk=>hk.2) (.int .i64 t207)) (fun _ hk=>hk.2) (.int .i64 t208)) (fun _ hk=>hk.2) (.int .i64 t209)) (fun _ hk=>hk.2) (.int .i64 t210)) (fun _ hk=>hk.2) (.int .i64 t211)) (fun _ hk=>hk.2) (.int .i64 t212)) (fun _ hk=>hk.2) (.slice Ao93 t213.length co93)) (fun _ h_=>h_.1))) (Kd.S_base ho0) hb);have n2_:=zm (Kd.S_elder' (by(with_reducible repeat(first|apply Kd.S_alloc|apply Kd.S_drewN|apply Kd.S_drew));exact(Kd.S_mono (Kd.S_far (p:=⟨gb217,8,none⟩) (Kd.S_far (p:=⟨gb217,7,none⟩) (Kd.S_far (p:=⟨gb217,6,none⟩) (Kd.S_far (p:=⟨gb217,5,none⟩) (Kd.S_far (p:=⟨gb217,4,none⟩) (Kd.S_far (p:=⟨gb217,3,none⟩) (Kd.S_far (p:=⟨gb217,2,none⟩) (Kd.S_far (p:=⟨gb217,1,none⟩) (Kd.S_far (p:=⟨gb217,0,none⟩) (Kd.S_types HO189.out BK217.out (by decide)) (fun _ hk=>hk.2) (.string t205)) (fun _ hk=>hk.2) (.int .i64 t206)) (fun _ hk=>hk.2) (.int .i64 t207)) (fun _ hk=>hk.2) (.int .i64 t208)) (fun _ hk=>hk.2) (.int .i64 t209)) (fun _ hk=>hk.2) (.int .i64 t210)) (fun _ hk=>hk.2) (.int .i64 t211)) (fun _ hk=>hk.2) (.int .i64 t212)) (fun _ hk=>hk.2) (.slice Ao93 t213.length co93)) (fun _ h_=>h_.1))) (Kd.S_base ho0) hb);have n3_:=zm (Kd.S_elder' (by(with_reducible repeat(first|apply Kd.S_alloc|apply Kd.S_drewN|apply Kd.S_drew));exact(Kd.S_mono (Kd.S_far (p:=⟨gb217,8,none⟩) (Kd.S_far (p:=⟨gb217,7,none⟩) (Kd.S_far (p:=⟨gb217,6,none⟩) (Kd.S_far (p:=⟨gb217,5,none⟩) (Kd.S_far (p:=⟨gb217,4,none⟩) (Kd.S_far (p:=⟨gb217,3,none⟩) (Kd.S_far (p:=⟨gb217,2,none⟩) (Kd.S_far (p:=⟨gb217,1,none⟩) (Kd.S_far (p:=⟨gb217,0,none⟩) (Kd.S_types HO204.out BK217.out (by decide)) (fun _ hk=>hk.2) (.string t205)) (fun _ hk=>hk.2) (.int .i64 t206)) (fun _ hk=>hk.2) (.int .i64 t207)) (fun _ hk=>hk.2) (.int .i64 t208)) (fun _ hk=>hk.2) (.int .i64 t209)) (fun _ hk=>hk.2) (.int .i64 t210)) (fun _ hk=>hk.2) (.int .i64 t211)) (fun _ hk=>hk.2) (.int .i64 t212)) (fun _ hk=>hk.2) (.slice Ao93 t213.length co93)) (fun _ h_=>h_.1))) (Kd.S_base ho0) hb);have n4_:=zm (Kd.V_elder' (by(with_reducible repeat(first|apply Kd.V_alloc|apply Kd.V_drewN|apply Kd.V_drew));exact(Kd.V_mono (zV gb217 (Kd.V_mono HO215.out (fun k_ hk=>(⟨hk,hk.2⟩:_∧k_≠gb217))) (fun _ hk=>hk.2) (.string t205) (.int .i64 t206) (.int .i64 t207) (.int .i64 t208) (.int .i64 t209) (.int .i64 t210) (.int .i64 t211) (.int .i64 t212) (.slice Ao93 t213.length co93)) (fun _ h_=>h_.1))) (Kd.S_base ho0) hb);have n5_:=zm (Kd.S_lower (Kd.S_new' (Kd.S_new' (Kd.S_new' (Kd.S_new' ho0 (Kd.S_lt (by(with_reducible repeat(first|apply Kd.S_alloc|apply Kd.S_drewN|apply Kd.S_drew));exact(Kd.S_mono (Kd.S_far (p:=⟨gb217,8,none⟩) (Kd.S_far (p:=⟨gb217,7,none⟩) (Kd.S_far (p:=⟨gb217,6,none⟩) (Kd.S_far (p:=⟨gb217,5,none⟩) (Kd.S_far (p:=⟨gb217,4,none⟩) (Kd.S_far (p:=⟨gb217,3,none⟩) (Kd.S_far (p:=⟨gb217,2,none⟩) (Kd.S_far (p:=⟨gb217,1,none⟩) (Kd.S_far (p:=⟨gb217,0,none⟩) (Kd.S_types HO161.out BK217.out (by decide)) (fun _ hk=>hk.2) (.string t205)) (fun _ hk=>hk.2) (.int .i64 t206)) (fun _ hk=>hk.2) (.int .i64 t207)) (fun _ hk=>hk.2) (.int .i64 t208)) (fun _ hk=>hk.2) (.int .i64 t209)) (fun _ hk=>hk.2) (.int .i64 t210)) (fun _ hk=>hk.2) (.int .i64 t211)) (fun _ hk=>hk.2) (.int .i64 t212)) (fun _ hk=>hk.2) (.slice Ao93 t213.length co93)) (fun _ h_=>h_.1))))) (Kd.S_lt (by(with_reducible repeat(first|apply Kd.S_alloc|apply Kd.S_drewN|apply Kd.S_drew));exact(Kd.S_mono (Kd.S_far (p:=⟨gb217,8,none⟩) (Kd.S_far (p:=⟨gb217,7,none⟩) (Kd.S_far (p:=⟨gb217,6,none⟩) (Kd.S_far (p:=⟨gb217,5,none⟩) (Kd.S_far (p:=⟨gb217,4,none⟩) (Kd.S_far (p:=⟨gb217,3,none⟩) (Kd.S_far (p:=⟨gb217,2,none⟩) (Kd.S_far (p:=⟨gb217,1,none⟩) (Kd.S_far (p:=⟨gb217,0,none⟩) (Kd.S_types HO174.out BK217.out (by decide)) (fun _ hk=>hk.2) (.string t205)) (fun _ hk=>hk.2) (.int .i64 t206)) (fun _ hk=>hk.2) (.int .i64 t207)) (fun _ hk=>hk.2) (.int .i64 t208)) (fun _ hk=>hk.2) (.int .i64 t209)) (fun _ hk=>hk.2) (.int .i64 t210)) (fun _ hk=>hk.2) (.int .i64 t211)) (fun _ hk=>hk.2) (.int .i64 t212)) (fun _ hk=>hk.2) (.slice Ao93 t213.length co93)) (fun _ h_=>h_.1))))) (Kd.S_lt (by(with_reducible repeat(first|apply Kd.S_alloc|apply Kd.S_drewN|apply Kd.S_drew));exact(Kd.S_mono (Kd.S_far (p:=⟨gb217,8,none⟩) (Kd.S_far (p:=⟨gb217,7,none⟩) (Kd.S_far (p:=⟨gb217,6,none⟩) (Kd.S_far (p:=⟨gb217,5,none⟩) (Kd.S_far (p:=⟨gb217,4,none⟩) (Kd.S_far (p:=⟨gb217,3,none⟩) (Kd.S_far (p:=⟨gb217,2,none⟩) (Kd.S_far (p:=⟨gb217,1,none⟩) (Kd.S_far (p:=⟨gb217,0,none⟩) (Kd.S_types HO189.out BK217.out (by decide)) (fun _ hk=>hk.2) (.string t205)) (fun _ hk=>hk.2) (.int .i64 t206)) (fun _ hk=>hk.2) (.int .i64 t207)) (fun _ hk=>hk.2) (.int .i64 t208)) (fun _ hk=>hk.2) (.int .i64 t209)) (fun _ hk=>hk.2) (.int .i64 t210)) (fun _ hk=>hk.2) (.int .i64 t211)) (fun _ hk=>hk.2) (.int .i64 t212)) (fun _ hk=>hk.2) (.slice Ao93 t213.length co93)) (fun _ h_=>h_.1))))) (Kd.S_lt (by(with_reducible repeat(first|apply Kd.S_alloc|apply Kd.S_drewN|apply Kd.S_drew));exact(Kd.S_mono (Kd.S_far (p:=⟨gb217,8,none⟩) (Kd.S_far (p:=⟨gb217,7,none⟩) (Kd.S_far (p:=⟨gb217,6,none⟩) (Kd.S_far (p:=⟨gb217,5,none⟩) (Kd.S_far (p:=⟨gb217,4,none⟩) (Kd.S_far (p:=⟨gb217,3,none⟩) (Kd.S_far (p:=⟨gb217,2,none⟩) (Kd.S_far (p:=⟨gb217,1,none⟩) (Kd.S_far (p:=⟨gb217,0,none⟩) (Kd.S_types HO204.out BK217.out (by decide)) (fun _ hk=>hk.2) (.string t205)) (fun _ hk=>hk.2) (.int .i64 t206)) (fun _ hk=>hk.2) (.int .i64 t207)) (fun _ hk=>hk.2) (.int .i64 t208)) (fun _ hk=>hk.2) (.int .i64 t209)) (fun _ hk=>hk.2) (.int .i64 t210)) (fun _ hk=>hk.2) (.int .i64 t211)) (fun _ hk=>hk.2) (.int .i64 t212)) (fun _ hk=>hk.2) (.slice Ao93 t213.length co93)) (fun _ h_=>h_.1))))) (below_size (by repeat(first|(with_reducible first|exact HB.out|apply zA|apply zD|apply zE|refine zS ?_ GE178.out|refine zS ?_ GE193.out|refine zS ?_ GE217.out)|exact HB.out))));have n6_:=zm (zb (g:=gb178) (o:=.cells #[.int .i64 t175,.int .i64 t176] 25 (0,0)) (by(with_reducible repeat first|apply zd|apply ze|apply za);refine zF ?_ NB178_217.out _ _ _ _ _ _ _ _ _;(with_reducible repeat first|apply zd|apply ze|apply za);exact BK178.out) hb);have n7_:=zm (zb (g:=gb193) (o:=.cells #[.int .i64 t190,.int .i64 t191] 25 (0,0)) (by(with_reducible repeat first|apply zd|apply ze|apply za);refine zF ?_ NB193_217.out _ _ _ _ _ _ _ _ _;(with_reducible repeat first|apply zd|apply ze|apply za);exact BK193.out) hb);have n8_:=zm (zb (g:=gb217) (o:=.cells #[.string t205,.int .i64 t206,.int .i64 t207,.int .i64 t208,.int .i64 t209,.int .i64 t210,.int .i64 t211,.int .i64 t212,.slice Ao93 t213.length co93] 28 (0,0)) (by(with_reducible repeat first|apply zd|apply ze|apply za);refine blk_put (cs:=#[.string t205,.int .i64 t206,.int .i64 t207,.int .i64 t208,.int .i64 t209,.int .i64 t210,.int .i64 t211,.int .i64 t212,.slice none 0 0]) ?_ 8 _ rfl;(with_reducible repeat first|apply zd|apply ze|apply za);refine blk_put (cs:=#[.string t205,.int .i64 t206,.int .i64 t207,.int .i64 t208,.int .i64 t209,.int .i64 t210,.int .i64 t211,.int .i64 0,.slice none 0 0]) ?_ 7 _ rfl;(with_reducible repeat first|apply zd|apply ze|apply za);refine blk_put (cs:=#[.string t205,.int .i64 t206,.int .i64 t207,.int .i64 t208,.int .i64 t209,.int .i64 t210,.int .i64 0,.int .i64 0,.slice none 0 0]) ?_ 6 _ rfl;(with_reducible repeat first|apply zd|apply ze|apply za);refine blk_put (cs:=#[.string t205,.int .i64 t206,.int .i64 t207,.int .i64 t208,.int .i64 t209,.int .i64 0,.int .i64 0,.int .i64 0,.slice none 0 0]) ?_ 5 _ rfl;(with_reducible repeat first|apply zd|apply ze|apply za);refine blk_put (cs:=#[.string t205,.int .i64 t206,.int .i64 t207,.int .i64 t208,.int .i64 0,.int .i64 0,.int .i64 0,.int .i64 0,.slice none 0 0]) ?_ 4 _ rfl;(with_reducible repeat first|apply zd|apply ze|apply za);refine blk_put (cs:=#[.string t205,.int .i64 t206,.int .i64 t207,.int .i64 0,.int .i64 0,.int .i64 0,.int .i64 0,.int .i64 0,.slice none 0 0]) ?_ 3 _ rfl;(with_reducible repeat first|apply zd|apply ze|apply za);refine blk_put (cs:=#[.string t205,.int .i64 t206,.int .i64 0,.int .i64 0,.int .i64 0,.int .i64 0,.int .i64 0,.int .i64 0,.slice none 0 0]) ?_ 2 _ rfl;(with_reducible repeat first|apply zd|apply ze|apply za);refine blk_put (cs:=#[.string t205,.int .i64 0,.int .i64 0,.int .i64 0,.int .i64 0,.int .i64 0,.int .i64 0,.int .i64 0,.slice none 0 0]) ?_ 1 _ rfl;(with_reducible repeat first|apply zd|apply ze|apply za);refine blk_put (cs:=#[.string (⟨#[]⟩:ByteArray),.int .i64 0,.int .i64 0,.int .i64 0,.int .i64 0,.int .i64 0,.int .i64 0,.int .i64 0,.slice none 0 0]) ?_ 0 _ rfl;(with_reducible repeat first|apply zd|apply ze|apply za);exact BK217.out) hb);have n9_:=zm (below_step (by repeat(first|(with_reducible first|exact HB.out|apply zA|apply zD|apply zE|refine zS ?_ GE178.out|refine zS ?_ GE193.out|refine zS ?_ GE217.out)|exact HB.out)) hb);clear HO161 HO174 HO189 HO204 HO215 BK178 BK193 BK217 HB;have HO161:=n0_;have HO174:=n1_;have HO189:=n2_;have HO204:=n3_;have HO215:=n4_;have HO228:=n5_;have BK178:=n6_;have BK193:=n7_;have BK217:=n8_;have HB:=n9_;clear n0_ n1_ n2_ n3_ n4_ n5_ n6_ n7_ n8_ n9_;(try clear hb);(try clear hb2);(try clear hk);(try clear hi);(try clear ho0);obtain⟨Ao95,co95,eo95⟩:=Kd.S_slice HO228.out;subst eo95)|((with_reducible refine gate_callee (f:=46) rfl ?_);refine goesL_ (some 38) rfl rfl Try.func46 (by kernel_rfl) rfl #[.agg #[.string t218,.int .i64 t219,.int .i64 t220,.int .i64 t221,.int .i64 t222,.int .i64 t223,.int .i64 t224,.int .i64 t225,.slice Ao95 t226.length co95],.int .i64 0] rfl (by(try simp only[List.map_toArray,List.map_cons,List.map_nil]);first|done|rfl|(simp only[List.length_drop,List.length_take];rfl)) ?_;(with_reducible refine(fe_Turn.calls t218 t219 t220 t221 t222 t223 t224 t225 _ _ t226 0 t229 t230 t231 t232 t233 t234 t235 t236 t237 t240 _ ?side1 ?side2 A10.out).mono ?_);(case side1=>repeat(first|exact(Kd.S_reads' HO228.out).2.2|(with_reducible refine Kd.C_alloc ?_ _)|(with_reducible refine Kd.C_drewN ?_ _)|(with_reducible refine Kd.C_drew ?_)));(case side2=>exact(Kd.S_reads' HO228.out).2.1);rintro e w96 ⟨v238,rfl,ho0,hb⟩;refine⟨_,rfl,?_⟩;have n0_:=zm (Kd.S_below (by(with_reducible repeat(first|apply Kd.S_alloc|apply Kd.S_drewN|apply Kd.S_drew));exact HO161.out) hb);have n1_:=zm (Kd.S_below (by(with_reducible repeat(first|apply Kd.S_alloc|apply Kd.S_drewN|apply Kd.S_drew));exact HO174.out) hb);have n2_:=zm (Kd.S_below (by(with_reducible repeat(first|apply Kd.S_alloc|apply Kd.S_drewN|apply Kd.S_drew));exact HO189.out) hb);have n3_:=zm (Kd.S_below (by(with_reducible repeat(first|apply Kd.S_alloc|apply Kd.S_drewN|apply Kd.S_drew));exact HO204.out) hb);have n4_:=zm (Kd.V_below (by(with_reducible repeat(first|apply Kd.V_alloc|apply Kd.V_drewN|apply Kd.V_drew));exact HO215.out) hb);have n5_:=zm (Kd.S_below (by(with_reducible repeat(first|apply Kd.S_alloc|apply Kd.S_drewN|apply Kd.S_drew));exact HO228.out) hb);have n6_:=zm (Kd.V_lower (Kd.V_mono (ok':=fun k_=>some k_≠(.slice Ao73 t159.length co73:Value).ownBlock∧some k_≠(.slice Ao76 t172.length co76:Value).ownBlock∧some k_≠(.slice Ao81 t187.length co81:Value).ownBlock∧some k_≠(.slice Ao87 t202.length co87:Value).ownBlock∧some k_≠(.slice Ao95 t226.length co95:Value).ownBlock∧k_≠gb178∧k_≠gb193∧k_≠gb217) ho0 (fun k_ hk_=>⟨(Kd.fresh' (Kd.S_lt (by(with_reducible repeat(first|apply Kd.S_alloc|apply Kd.S_drewN|apply Kd.S_drew));exact HO161.out)) k_ hk_),(Kd.fresh' (Kd.S_lt (by(with_reducible repeat(first|apply Kd.S_alloc|apply Kd.S_drewN|apply Kd.S_drew));exact HO174.out)) k_ hk_),(Kd.fresh' (Kd.S_lt (by(with_reducible repeat(first|apply Kd.S_alloc|apply Kd.S_drewN|apply Kd.S_drew));exact HO189.out)) k_ hk_),(Kd.fresh' (Kd.S_lt (by(with_reducible repeat(first|apply Kd.S_alloc|apply Kd.S_drewN|apply Kd.S_drew));exact HO204.out)) k_ hk_),(Kd.fresh' (Kd.S_lt (by(with_reducible repeat(first|apply Kd.S_alloc|apply Kd.S_drewN|apply Kd.S_drew));exact HO228.out)) k_ hk_),(Kd.freshB (g:=gb178) (o:=.cells #[.int .i64 t175,.int .i64 t176] 25 (0,0)) (by(with_reducible repeat first|apply zd|apply ze|apply za);exact BK178.out) k_ hk_),(Kd.freshB (g:=gb193) (o:=.cells #[.int .i64 t190,.int .i64 t191] 25 (0,0)) (by(with_reducible repeat first|apply zd|apply ze|apply za);exact BK193.out) k_ hk_),(Kd.freshB (g:=gb217) (o:=.cells #[.string t205,.int .i64 t206,.int .i64 t207,.int .i64 t208,.int .i64 t209,.int .i64 t210,.int .i64 t211,.int .i64 t212,.slice Ao93 t213.length co93] 28 (0,0)) (by(with_reducible repeat first|apply zd|apply ze|apply za);exact BK217.out) k_ hk_)⟩)) (below_size (by repeat(first|(with_reducible first|exact HB.out|apply zA|apply zD|apply zE|refine zS ?_ GE178.out|refine zS ?_ GE193.out|refine zS ?_ GE217.out)|exact HB.out))));have n7_:=zm (zb (g:=gb178) (o:=.cells #[.int .i64 t175,.int .i64 t176] 25 (0,0)) (by(with_reducible repeat first|apply zd|apply ze|apply za);exact BK178.out) hb);have n8_:=zm (zb (g:=gb193) (o:=.cells #[.int .i64 t190,.int .i64 t191] 25 (0,0)) (by(with_reducible repeat first|apply zd|apply ze|apply za);exact BK193.out) hb);have n9_:=zm (zb (g:=gb217) (o:=.cells #[.string t205,.int .i64 t206,.int .i64 t207,.int .i64 t208,.int .i64 t209,.int .i64 t210,.int .i64 t211,.int .i64 t212,.slice Ao93 t213.length co93] 28 (0,0)) (by(with_reducible repeat first|apply zd|apply ze|apply za);exact BK217.out) hb);have n10_:=zm (below_step (by repeat(first|(with_reducible first|exact HB.out|apply zA|apply zD|apply zE|refine zS ?_ GE178.out|refine zS ?_ GE193.out|refine zS ?_ GE217.out)|exact HB.out)) hb);clear HO161 HO174 HO189 HO204 HO215 HO228 BK178 BK193 BK217 HB;have HO161:=n0_;have HO174:=n1_;have HO189:=n2_;have HO204:=n3_;have HO215:=n4_;have HO228:=n5_;have HO239:=n6_;have BK178:=n7_;have BK193:=n8_;have BK217:=n9_;have HB:=n10_;clear n0_ n1_ n2_ n3_ n4_ n5_ n6_ n7_ n8_ n9_ n10_;(try clear hb);(try clear hb2);(try clear hk);(try clear hi);(try clear ho0))|((with_reducible refine gate_dst (N:=9) rfl ?_);refine box_event ?hg (N:=9) ?hd (cs:=#[.string (⟨#[]⟩:ByteArray),.int .i64 0,.int .i64 0,.int .i64 0,.int .i64 0,.int .i64 0,.int .i64 0,.int .i64 0,.slice none 0 0]) (t:=28) ?hr ?_;(case hd=>rfl);(case hg=>rfl);(case hr=>first|(go_simp;done)|(go_simp;rfl));intro gb241 hg w97 hbox hb;have n0_:=zm (Kd.S_below (by(with_reducible repeat(first|apply Kd.S_alloc|apply Kd.S_drewN|apply Kd.S_drew));exact HO161.out) hb);have n1_:=zm (Kd.S_below (by(with_reducible repeat(first|apply Kd.S_alloc|apply Kd.S_drewN|apply Kd.S_drew));exact HO174.out) hb);have n2_:=zm (Kd.S_below (by(with_reducible repeat(first|apply Kd.S_alloc|apply Kd.S_drewN|apply Kd.S_drew));exact HO189.out) hb);have n3_:=zm (Kd.S_below (by(with_reducible repeat(first|apply Kd.S_alloc|apply Kd.S_drewN|apply Kd.S_drew));exact HO204.out) hb);have n4_:=zm (Kd.V_below (Kd.V_elderB (by(with_reducible repeat(first|apply Kd.V_alloc|apply Kd.V_drewN|apply Kd.V_drew));exact HO215.out) gb241 (Nat.le_of_eq hg.symm)) hb);have n5_:=zm (Kd.S_below (by(with_reducible repeat(first|apply Kd.S_alloc|apply Kd.S_drewN|apply Kd.S_drew));exact HO228.out) hb);have n6_:=zm (Kd.V_below (Kd.V_elderB (by(with_reducible repeat(first|apply Kd.V_alloc|apply Kd.V_drewN|apply Kd.V_drew));exact HO239.out) gb241 (Nat.le_of_eq hg.symm)) hb);have n7_:=zm (zb (g:=gb178) (o:=.cells #[.int .i64 t175,.int .i64 t176] 25 (0,0)) (by(with_reducible repeat first|apply zd|apply ze|apply za);exact BK178.out) hb);have n8_:=zm (zb (g:=gb193) (o:=.cells #[.int .i64 t190,.int .i64 t191] 25 (0,0)) (by(with_reducible repeat first|apply zd|apply ze|apply za);exact BK193.out) hb);have n9_:=zm (zb (g:=gb217) (o:=.cells #[.string t205,.int .i64 t206,.int .i64 t207,.int .i64 t208,.int .i64 t209,.int .i64 t210,.int .i64 t211,.int .i64 t212,.slice Ao93 t213.length co93] 28 (0,0)) (by(with_reducible repeat first|apply zd|apply ze|apply za);exact BK217.out) hb);have n10_:=zm (below_step (by repeat(first|(with_reducible first|exact HB.out|apply zA|apply zD|apply zE|refine zS ?_ GE178.out|refine zS ?_ GE193.out|refine zS ?_ GE217.out)|exact HB.out)) hb);have n11_:=zm (hbox);have n12_:=zm ((by rw[hg];exact(below_size (by repeat(first|(with_reducible first|exact HB.out|apply zA|apply zD|apply zE|refine zS ?_ GE178.out|refine zS ?_ GE193.out|refine zS ?_ GE217.out)|exact HB.out))):w.heap.size≤gb241));have n13_:=zm ((by rw[hg];exact(below_size (by repeat(first|(with_reducible first|exact HB.out|apply zA|apply zD|apply zE|refine zS ?_ GE178.out|refine zS ?_ GE193.out|refine zS ?_ GE217.out)|exact HB.out))):w.heap.size≤gb241));have n14_:=zm ((by rw[hg];exact Nat.ne_of_lt (blk_lt (g:=gb178) (o:=.cells #[.int .i64 t175,.int .i64 t176] 25 (0,0)) (by(with_reducible repeat first|apply zd|apply ze|apply za);exact BK178.out)):gb178≠gb241));have n15_:=zm ((by rw[hg];exact Nat.ne_of_gt (blk_lt (g:=gb178) (o:=.cells #[.int .i64 t175,.int .i64 t176] 25 (0,0)) (by(with_reducible repeat first|apply zd|apply ze|apply za);exact BK178.out)):gb241≠gb178));have n16_:=zm ((by rw[hg];exact Nat.ne_of_lt (blk_lt (g:=gb193) (o:=.cells #[.int .i64 t190,.int .i64 t191] 25 (0,0)) (by(with_reducible repeat first|apply zd|apply ze|apply za);exact BK193.out)):gb193≠gb241));have n17_:=zm ((by rw[hg];exact Nat.ne_of_gt (blk_lt (g:=gb193) (o:=.cells #[.int .i64 t190,.int .i64 t191] 25 (0,0)) (by(with_reducible repeat first|apply zd|apply ze|apply za);exact BK193.out)):gb241≠gb193));have n18_:=zm ((by rw[hg];exact Nat.ne_of_lt (blk_lt (g:=gb217) (o:=.cells #[.string t205,.int .i64 t206,.int .i64 t207,.int .i64 t208,.int .i64 t209,.int .i64 t210,.int .i64 t211,.int .i64 t212,.slice Ao93 t213.length co93] 28 (0,0)) (by(with_reducible repeat first|apply zd|apply ze|apply za);exact BK217.out)):gb217≠gb241));have n19_:=zm ((by rw[hg];exact Nat.ne_of_gt (blk_lt (g:=gb217) (o:=.cells #[.string t205,.int .i64 t206,.int .i64 t207,.int .i64 t208,.int .i64 t209,.int .i64 t210,.int .i64 t211,.int .i64 t212,.slice Ao93 t213.length co93] 28 (0,0)) (by(with_reducible repeat first|apply zd|apply ze|apply za);exact BK217.out)):gb241≠gb217));clear HO161 HO174 HO189 HO204 HO215 HO228 HO239 BK178 BK193 BK217 HB;have HO161:=n0_;have HO174:=n1_;have HO189:=n2_;have HO204:=n3_;have HO215:=n4_;have HO228:=n5_;have HO239:=n6_;have BK178:=n7_;have BK193:=n8_;have BK217:=n9_;have HB:=n10_;have BK241:=n11_;have GW241:=n12_;have GE241:=n13_;have NB178_241:=n14_;have NB241_178:=n15_;have NB193_241:=n16_;have NB241_193:=n17_;have NB217_241:=n18_;have NB241_217:=n19_;clear n0_ n1_ n2_ n3_ n4_ n5_ n6_ n7_ n8_ n9_ n10_ n11_ n12_ n13_ n14_ n15_ n16_ n17_ n18_ n19_;clear hb hbox hg;have hnb98:=NB241_178.out;have hnc98:=NB178_241.out;have hnb99:=NB241_193.out;have hnc99:=NB193_241.out;have hnb100:=NB241_217.out;have hnc100:=NB217_241.out;have hcz101_0:=zc BK241.out 0 (.string (⟨#[]⟩:ByteArray)) rfl;have hcz101_1:=zc BK241.out 1 (.int .i64 0) rfl;have hcz101_2:=zc BK241.out 2 (.int .i64 0) rfl;have hcz101_3:=zc BK241.out 3 (.int .i64 0) rfl;have hcz101_4:=zc BK241.out 4 (.int .i64 0) rfl;have hcz101_5:=zc BK241.out 5 (.int .i64 0) rfl;have hcz101_6:=zc BK241.out 6 (.int .i64 0) rfl;have hcz101_7:=zc BK241.out 7 (.int .i64 0) rfl;have hcz101_8:=zc BK241.out 8 (.slice none 0 0) rfl;have hfz101_0:=zf BK241.out 0;have hfz101_1:=zf BK241.out 1;have hfz101_2:=zf BK241.out 2;have hfz101_3:=zf BK241.out 3;have hfz101_4:=zf BK241.out 4;have hfz101_5:=zf BK241.out 5;have hfz101_6:=zf BK241.out 6;have hfz101_7:=zf BK241.out 7;have hfz101_8:=zf BK241.out 8;obtain⟨Ao102,co102,eo102⟩:=Kd.V_slice HO239.out;subst eo102)|((with_reducible refine gate_dst (N:=11) rfl ?_);refine box_event ?hg (N:=11) ?hd (cs:=#[.string (⟨#[]⟩:ByteArray),.int .i64 0,.int .i64 0,.int .i64 0,.int .i64 0,.int .i64 0,.int .i64 0,.int .i64 0,.slice none 0 0]) (t:=28) ?hr ?_;(case hd=>rfl);(case hg=>rfl);(case hr=>first|(go_simp;done)|(go_simp;rfl));intro gb242 hg w103 hbox hb;have n0_:=zm (Kd.S_below (by(with_reducible repeat(first|apply Kd.S_alloc|apply Kd.S_drewN|apply Kd.S_drew));exact(Kd.S_mono (Kd.S_far (p:=⟨gb241,8,none⟩) (Kd.S_far (p:=⟨gb241,7,none⟩) (Kd.S_far (p:=⟨gb241,6,none⟩) (Kd.S_far (p:=⟨gb241,5,none⟩) (Kd.S_far (p:=⟨gb241,4,none⟩) (Kd.S_far (p:=⟨gb241,3,none⟩) (Kd.S_far (p:=⟨gb241,2,none⟩) (Kd.S_far (p:=⟨gb241,1,none⟩) (Kd.S_far (p:=⟨gb241,0,none⟩) (Kd.S_types HO161.out BK241.out (by decide)) (fun _ hk=>hk.2) (.string t229)) (fun _ hk=>hk.2) (.int .i64 t230)) (fun _ hk=>hk.2) (.int .i64 t231)) (fun _ hk=>hk.2) (.int .i64 t232)) (fun _ hk=>hk.2) (.int .i64 t233)) (fun _ hk=>hk.2) (.int .i64 t234)) (fun _ hk=>hk.2) (.int .i64 t235)) (fun _ hk=>hk.2) (.int .i64 t236)) (fun _ hk=>hk.2) (.slice Ao102 t237.length co102)) (fun _ h_=>h_.1))) hb);have n1_:=zm (Kd.S_below (by(with_reducible repeat(first|apply Kd.S_alloc|apply Kd.S_drewN|apply Kd.S_drew));exact(Kd.S_mono (Kd.S_far (p:=⟨gb241,8,none⟩) (Kd.S_far (p:=⟨gb241,7,none⟩) (Kd.S_far (p:=⟨gb241,6,none⟩) (Kd.S_far (p:=⟨gb241,5,none⟩) (Kd.S_far (p:=⟨gb241,4,none⟩) (Kd.S_far (p:=⟨gb241,3,none⟩) (Kd.S_far (p:=⟨gb241,2,none⟩) (Kd.S_far (p:=⟨gb241,1,none⟩) (Kd.S_far (p:=⟨gb241,0,none⟩) (Kd.S_types HO174.out BK241.out (by decide)) (fun _ hk=>hk.2) (.string t229)) (fun _ hk=>hk.2) (.int .i64 t230)) (fun _ hk=>hk.2) (.int .i64 t231)) (fun _ hk=>hk.2) (.int .i64 t232)) (fun _ hk=>hk.2) (.int .i64 t233)) (fun _ hk=>hk.2) (.int .i64 t234)) (fun _ hk=>hk.2) (.int .i64 t235)) (fun _ hk=>hk.2) (.int .i64 t236)) (fun _ hk=>hk.2) (.slice Ao102 t237.length co102)) (fun _ h_=>h_.1))) hb);have n2_:=zm (Kd.S_below (by(with_reducible repeat(first|apply Kd.S_alloc|apply Kd.S_drewN|apply Kd.S_drew));exact(Kd.S_mono (Kd.S_far (p:=⟨gb241,8,none⟩) (Kd.S_far (p:=⟨gb241,7,none⟩) (Kd.S_far (p:=⟨gb241,6,none⟩) (Kd.S_far (p:=⟨gb241,5,none⟩) (Kd.S_far (p:=⟨gb241,4,none⟩) (Kd.S_far (p:=⟨gb241,3,none⟩) (Kd.S_far (p:=⟨gb241,2,none⟩) (Kd.S_far (p:=⟨gb241,1,none⟩) (Kd.S_far (p:=⟨gb241,0,none⟩) (Kd.S_types HO189.out BK241.out (by decide)) (fun _ hk=>hk.2) (.string t229)) (fun _ hk=>hk.2) (.int .i64 t230)) (fun _ hk=>hk.2) (.int .i64 t231)) (fun _ hk=>hk.2) (.int .i64 t232)) (fun _ hk=>hk.2) (.int .i64 t233)) (fun _ hk=>hk.2) (.int .i64 t234)) (fun _ hk=>hk.2) (.int .i64 t235)) (fun _ hk=>hk.2) (.int .i64 t236)) (fun _ hk=>hk.2) (.slice Ao102 t237.length co102)) (fun _ h_=>h_.1))) hb);have n3_:=zm (Kd.S_below (by(with_reducible repeat(first|apply Kd.S_alloc|apply Kd.S_drewN|apply Kd.S_drew));exact(Kd.S_mono (Kd.S_far (p:=⟨gb241,8,none⟩) (Kd.S_far (p:=⟨gb241,7,none⟩) (Kd.S_far (p:=⟨gb241,6,none⟩) (Kd.S_far (p:=⟨gb241,5,none⟩) (Kd.S_far (p:=⟨gb241,4,none⟩) (Kd.S_far (p:=⟨gb241,3,none⟩) (Kd.S_far (p:=⟨gb241,2,none⟩) (Kd.S_far (p:=⟨gb241,1,none⟩) (Kd.S_far (p:=⟨gb241,0,none⟩) (Kd.S_types HO204.out BK241.out (by decide)) (fun _ hk=>hk.2) (.string t229)) (fun _ hk=>hk.2) (.int .i64 t230)) (fun _ hk=>hk.2) (.int .i64 t231)) (fun _ hk=>hk.2) (.int .i64 t232)) (fun _ hk=>hk.2) (.int .i64 t233)) (fun _ hk=>hk.2) (.int .i64 t234)) (fun _ hk=>hk.2) (.int .i64 t235)) (fun _ hk=>hk.2) (.int .i64 t236)) (fun _ hk=>hk.2) (.slice Ao102 t237.length co102)) (fun _ h_=>h_.1))) hb);have n4_:=zm (Kd.V_below (Kd.V_elderB (by(with_reducible repeat(first|apply Kd.V_alloc|apply Kd.V_drewN|apply Kd.V_drew));exact(Kd.V_mono (zV gb241 (Kd.V_mono HO215.out (fun k_ hk=>(⟨hk,hk.2⟩:_∧k_≠gb241))) (fun _ hk=>hk.2) (.string t229) (.int .i64 t230) (.int .i64 t231) (.int .i64 t232) (.int .i64 t233) (.int .i64 t234) (.int .i64 t235) (.int .i64 t236) (.slice Ao102 t237.length co102)) (fun _ h_=>h_.1))) gb242 (Nat.le_of_eq hg.symm)) hb);have n5_:=zm (Kd.S_below (by(with_reducible repeat(first|apply Kd.S_alloc|apply Kd.S_drewN|apply Kd.S_drew));exact(Kd.S_mono (Kd.S_far (p:=⟨gb241,8,none⟩) (Kd.S_far (p:=⟨gb241,7,none⟩) (Kd.S_far (p:=⟨gb241,6,none⟩) (Kd.S_far (p:=⟨gb241,5,none⟩) (Kd.S_far (p:=⟨gb241,4,none⟩) (Kd.S_far (p:=⟨gb241,3,none⟩) (Kd.S_far (p:=⟨gb241,2,none⟩) (Kd.S_far (p:=⟨gb241,1,none⟩) (Kd.S_far (p:=⟨gb241,0,none⟩) (Kd.S_types HO228.out BK241.out (by decide)) (fun _ hk=>hk.2) (.string t229)) (fun _ hk=>hk.2) (.int .i64 t230)) (fun _ hk=>hk.2) (.int .i64 t231)) (fun _ hk=>hk.2) (.int .i64 t232)) (fun _ hk=>hk.2) (.int .i64 t233)) (fun _ hk=>hk.2) (.int .i64 t234)) (fun _ hk=>hk.2) (.int .i64 t235)) (fun _ hk=>hk.2) (.int .i64 t236)) (fun _ hk=>hk.2) (.slice Ao102 t237.length co102)) (fun _ h_=>h_.1))) hb);have n6_:=zm (Kd.V_below (Kd.V_elderB (by(with_reducible repeat(first|apply Kd.V_alloc|apply Kd.V_drewN|apply Kd.V_drew));exact(Kd.V_mono (zV gb241 (Kd.V_mono HO239.out (fun k_ hk=>(⟨hk,hk.2⟩:_∧k_≠gb241))) (fun _ hk=>hk.2) (.string t229) (.int .i64 t230) (.int .i64 t231) (.int .i64 t232) (.int .i64 t233) (.int .i64 t234) (.int .i64 t235) (.int .i64 t236) (.slice Ao102 t237.length co102)) (fun _ h_=>h_.1))) gb242 (Nat.le_of_eq hg.symm)) hb);have n7_:=zm (zb (g:=gb178) (o:=.cells #[.int .i64 t175,.int .i64 t176] 25 (0,0)) (by(with_reducible repeat first|apply zd|apply ze|apply za);refine zF ?_ NB178_241.out _ _ _ _ _ _ _ _ _;(with_reducible repeat first|apply zd|apply ze|apply za);exact BK178.out) hb);have n8_:=zm (zb (g:=gb193) (o:=.cells #[.int .i64 t190,.int .i64 t191] 25 (0,0)) (by(with_reducible repeat first|apply zd|apply ze|apply za);refine zF ?_ NB193_241.out _ _ _ _ _ _ _ _ _;(with_reducible repeat first|apply zd|apply ze|apply za);exact BK193.out) hb);have n9_:=zm (zb (g:=gb217) (o:=.cells #[.string t205,.int .i64 t206,.int .i64 t207,.int .i64 t208,.int .i64 t209,.int .i64 t210,.int .i64 t211,.int .i64 t212,.slice Ao93 t213.length co93] 28 (0,0)) (by(with_reducible repeat first|apply zd|apply ze|apply za);refine zF ?_ NB217_241.out _ _ _ _ _ _ _ _ _;(with_reducible repeat first|apply zd|apply ze|apply za);exact BK217.out) hb);have n10_:=zm (zb (g:=gb241) (o:=.cells #[.string t229,.int .i64 t230,.int .i64 t231,.int .i64 t232,.int .i64 t233,.int .i64 t234,.int .i64 t235,.int .i64 t236,.slice Ao102 t237.length co102] 28 (0,0)) (by(with_reducible repeat first|apply zd|apply ze|apply za);refine blk_put (cs:=#[.string t229,.int .i64 t230,.int .i64 t231,.int .i64 t232,.int .i64 t233,.int .i64 t234,.int .i64 t235,.int .i64 t236,.slice none 0 0]) ?_ 8 _ rfl;(with_reducible repeat first|apply zd|apply ze|apply za);refine blk_put (cs:=#[.string t229,.int .i64 t230,.int .i64 t231,.int .i64 t232,.int .i64 t233,.int .i64 t234,.int .i64 t235,.int .i64 0,.slice none 0 0]) ?_ 7 _ rfl;(with_reducible repeat first|apply zd|apply ze|apply za);refine blk_put (cs:=#[.string t229,.int .i64 t230,.int .i64 t231,.int .i64 t232,.int .i64 t233,.int .i64 t234,.int .i64 0,.int .i64 0,.slice none 0 0]) ?_ 6 _ rfl;(with_reducible repeat first|apply zd|apply ze|apply za);refine blk_put (cs:=#[.string t229,.int .i64 t230,.int .i64 t231,.int .i64 t232,.int .i64 t233,.int .i64 0,.int .i64 0,.int .i64 0,.slice none 0 0]) ?_ 5 _ rfl;(with_reducible repeat first|apply zd|apply ze|apply za);refine blk_put (cs:=#[.string t229,.int .i64 t230,.int .i64 t231,.int .i64 t232,.int .i64 0,.int .i64 0,.int .i64 0,.int .i64 0,.slice none 0 0]) ?_ 4 _ rfl;(with_reducible repeat first|apply zd|apply ze|apply za);refine blk_put (cs:=#[.string t229,.int .i64 t230,.int .i64 t231,.int .i64 0,.int .i64 0,.int .i64 0,.int .i64 0,.int .i64 0,.slice none 0 0]) ?_ 3 _ rfl;(with_reducible repeat first|apply zd|apply ze|apply za);refine blk_put (cs:=#[.string t229,.int .i64 t230,.int .i64 0,.int .i64 0,.int .i64 0,.int .i64 0,.int .i64 0,.int .i64 0,.slice none 0 0]) ?_ 2 _ rfl;(with_reducible repeat first|apply zd|apply ze|apply za);refine blk_put (cs:=#[.string t229,.int .i64 0,.int .i64 0,.int .i64 0,.int .i64 0,.int .i64 0,.int .i64 0,.int .i64 0,.slice none 0 0]) ?_ 1 _ rfl;(with_reducible repeat first|apply zd|apply ze|apply za);refine blk_put (cs:=#[.string (⟨#[]⟩:ByteArray),.int .i64 0,.int .i64 0,.int .i64 0,.int .i64 0,.int .i64 0,.int .i64 0,.int .i64 0,.slice none 0 0]) ?_ 0 _ rfl;(with_reducible repeat first|apply zd|apply ze|apply za);exact BK241.out) hb);have n11_:=zm (below_step (by repeat(first|(with_reducible first|exact HB.out|apply zA|apply zD|apply zE|refine zS ?_ GE178.out|refine zS ?_ GE193.out|refine zS ?_ GE217.out|refine zS ?_ GE241.out)|exact HB.out)) hb);have n12_:=zm (hbox);have n13_:=zm ((by rw[hg];exact(below_size (by repeat(first|(with_reducible first|exact HB.out|apply zA|apply zD|apply zE|refine zS ?_ GE178.out|refine zS ?_ GE193.out|refine zS ?_ GE217.out|refine zS ?_ GE241.out)|exact HB.out))):w.heap.size≤gb242));have n14_:=zm ((by rw[hg];exact(below_size (by repeat(first|(with_reducible first|exact HB.out|apply zA|apply zD|apply zE|refine zS ?_ GE178.out|refine zS ?_ GE193.out|refine zS ?_ GE217.out|refine zS ?_ GE241.out)|exact HB.out))):w.heap.size≤gb242));have n15_:=zm ((by rw[hg];exact Nat.ne_of_lt (blk_lt (g:=gb178) (o:=.cells #[.int .i64 t175,.int .i64 t176] 25 (0,0)) (by(with_reducible repeat first|apply zd|apply ze|apply za);refine zF ?_ NB178_241.out _ _ _ _ _ _ _ _ _;(with_reducible repeat first|apply zd|apply ze|apply za);exact BK178.out)):gb178≠gb242));have n16_:=zm ((by rw[hg];exact Nat.ne_of_gt (blk_lt (g:=gb178) (o:=.cells #[.int .i64 t175,.int .i64 t176] 25 (0,0)) (by(with_reducible repeat first|apply zd|apply ze|apply za);refine zF ?_ NB178_241.out _ _ _ _ _ _ _ _ _;(with_reducible repeat first|apply zd|apply ze|apply za);exact BK178.out)):gb242≠gb178));have n17_:=zm ((by rw[hg];exact Nat.ne_of_lt (blk_lt (g:=gb193) (o:=.cells #[.int .i64 t190,.int .i64 t191] 25 (0,0)) (by(with_reducible repeat first|apply zd|apply ze|apply za);refine zF ?_ NB193_241.out _ _ _ _ _ _ _ _ _;(with_reducible repeat first|apply zd|apply ze|apply za);exact BK193.out)):gb193≠gb242));have n18_:=zm ((by rw[hg];exact Nat.ne_of_gt (blk_lt (g:=gb193) (o:=.cells #[.int .i64 t190,.int .i64 t191] 25 (0,0)) (by(with_reducible repeat first|apply zd|apply ze|apply za);refine zF ?_ NB193_241.out _ _ _ _ _ _ _ _ _;(with_reducible repeat first|apply zd|apply ze|apply za);exact BK193.out)):gb242≠gb193));have n19_:=zm ((by rw[hg];exact Nat.ne_of_lt (blk_lt (g:=gb217) (o:=.cells #[.string t205,.int .i64 t206,.int .i64 t207,.int .i64 t208,.int .i64 t209,.int .i64 t210,.int .i64 t211,.int .i64 t212,.slice Ao93 t213.length co93] 28 (0,0)) (by(with_reducible repeat first|apply zd|apply ze|apply za);refine zF ?_ NB217_241.out _ _ _ _ _ _ _ _ _;(with_reducible repeat first|apply zd|apply ze|apply za);exact BK217.out)):gb217≠gb242));have n20_:=zm ((by rw[hg];exact Nat.ne_of_gt (blk_lt (g:=gb217) (o:=.cells #[.string t205,.int .i64 t206,.int .i64 t207,.int .i64 t208,.int .i64 t209,.int .i64 t210,.int .i64 t211,.int .i64 t212,.slice Ao93 t213.length co93] 28 (0,0)) (by(with_reducible repeat first|apply zd|apply ze|apply za);refine zF ?_ NB217_241.out _ _ _ _ _ _ _ _ _;(with_reducible repeat first|apply zd|apply ze|apply za);exact BK217.out)):gb242≠gb217));have n21_:=zm ((by rw[hg];exact Nat.ne_of_lt (blk_lt (g:=gb241) (o:=.cells #[.string t229,.int .i64 t230,.int .i64 t231,.int .i64 t232,.int .i64 t233,.int .i64 t234,.int .i64 t235,.int .i64 t236,.slice Ao102 t237.length co102] 28 (0,0)) (by(with_reducible repeat first|apply zd|apply ze|apply za);refine blk_put (cs:=#[.string t229,.int .i64 t230,.int .i64 t231,.int .i64 t232,.int .i64 t233,.int .i64 t234,.int .i64 t235,.int .i64 t236,.slice none 0 0]) ?_ 8 _ rfl;(with_reducible repeat first|apply zd|apply ze|apply za);refine blk_put (cs:=#[.string t229,.int .i64 t230,.int .i64 t231,.int .i64 t232,.int .i64 t233,.int .i64 t234,.int .i64 t235,.int .i64 0,.slice none 0 0]) ?_ 7 _ rfl;(with_reducible repeat first|apply zd|apply ze|apply za);refine blk_put (cs:=#[.string t229,.int .i64 t230,.int .i64 t231,.int .i64 t232,.int .i64 t233,.int .i64 t234,.int .i64 0,.int .i64 0,.slice none 0 0]) ?_ 6 _ rfl;(with_reducible repeat first|apply zd|apply ze|apply za);refine blk_put (cs:=#[.string t229,.int .i64 t230,.int .i64 t231,.int .i64 t232,.int .i64 t233,.int .i64 0,.int .i64 0,.int .i64 0,.slice none 0 0]) ?_ 5 _ rfl;(with_reducible repeat first|apply zd|apply ze|apply za);refine blk_put (cs:=#[.string t229,.int .i64 t230,.int .i64 t231,.int .i64 t232,.int .i64 0,.int .i64 0,.int .i64 0,.int .i64 0,.slice none 0 0]) ?_ 4 _ rfl;(with_reducible repeat first|apply zd|apply ze|apply za);refine blk_put (cs:=#[.string t229,.int .i64 t230,.int .i64 t231,.int .i64 0,.int .i64 0,.int .i64 0,.int .i64 0,.int .i64 0,.slice none 0 0]) ?_ 3 _ rfl;(with_reducible repeat first|apply zd|apply ze|apply za);refine blk_put (cs:=#[.string t229,.int .i64 t230,.int .i64 0,.int .i64 0,.int .i64 0,.int .i64 0,.int .i64 0,.int .i64 0,.slice none 0 0]) ?_ 2 _ rfl;(with_reducible repeat first|apply zd|apply ze|apply za);refine blk_put (cs:=#[.string t229,.int .i64 0,.int .i64 0,.int .i64 0,.int .i64 0,.int .i64 0,.int .i64 0,.int .i64 0,.slice none 0 0]) ?_ 1 _ rfl;(with_reducible repeat first|apply zd|apply ze|apply za);refine blk_put (cs:=#[.string (⟨#[]⟩:ByteArray),.int .i64 0,.int .i64 0,.int .i64 0,.int .i64 0,.int .i64 0,.int .i64 0,.int .i64 0,.slice none 0 0]) ?_ 0 _ rfl;(with_reducible repeat first|apply zd|apply ze|apply za);exact BK241.out)):gb241≠gb242));have n22_:=zm ((by rw[hg];exact Nat.ne_of_gt (blk_lt (g:=gb241) (o:=.cells #[.string t229,.int .i64 t230,.int .i64 t231,.int .i64 t232,.int .i64 t233,.int .i64 t234,.int .i64 t235,.int .i64 t236,.slice Ao102 t237.length co102] 28 (0,0)) (by(with_reducible repeat first|apply zd|apply ze|apply za);refine blk_put (cs:=#[.string t229,.int .i64 t230,.int .i64 t231,.int .i64 t232,.int .i64 t233,.int .i64 t234,.int .i64 t235,.int .i64 t236,.slice none 0 0]) ?_ 8 _ rfl;(with_reducible repeat first|apply zd|apply ze|apply za);refine blk_put (cs:=#[.string t229,.int .i64 t230,.int .i64 t231,.int .i64 t232,.int .i64 t233,.int .i64 t234,.int .i64 t235,.int .i64 0,.slice none 0 0]) ?_ 7 _ rfl;(with_reducible repeat first|apply zd|apply ze|apply za);refine blk_put (cs:=#[.string t229,.int .i64 t230,.int .i64 t231,.int .i64 t232,.int .i64 t233,.int .i64 t234,.int .i64 0,.int .i64 0,.slice none 0 0]) ?_ 6 _ rfl;(with_reducible repeat first|apply zd|apply ze|apply za);refine blk_put (cs:=#[.string t229,.int .i64 t230,.int .i64 t231,.int .i64 t232,.int .i64 t233,.int .i64 0,.int .i64 0,.int .i64 0,.slice none 0 0]) ?_ 5 _ rfl;(with_reducible repeat first|apply zd|apply ze|apply za);refine blk_put (cs:=#[.string t229,.int .i64 t230,.int .i64 t231,.int .i64 t232,.int .i64 0,.int .i64 0,.int .i64 0,.int .i64 0,.slice none 0 0]) ?_ 4 _ rfl;(with_reducible repeat first|apply zd|apply ze|apply za);refine blk_put (cs:=#[.string t229,.int .i64 t230,.int .i64 t231,.int .i64 0,.int .i64 0,.int .i64 0,.int .i64 0,.int .i64 0,.slice none 0 0]) ?_ 3 _ rfl;(with_reducible repeat first|apply zd|apply ze|apply za);refine blk_put (cs:=#[.string t229,.int .i64 t230,.int .i64 0,.int .i64 0,.int .i64 0,.int .i64 0,.int .i64 0,.int .i64 0,.slice none 0 0]) ?_ 2 _ rfl;(with_reducible repeat first|apply zd|apply ze|apply za);refine blk_put (cs:=#[.string t229,.int .i64 0,.int .i64 0,.int .i64 0,.int .i64 0,.int .i64 0,.int .i64 0,.int .i64 0,.slice none 0 0]) ?_ 1 _ rfl;(with_reducible repeat first|apply zd|apply ze|apply za);refine blk_put (cs:=#[.string (⟨#[]⟩:ByteArray),.int .i64 0,.int .i64 0,.int .i64 0,.int .i64 0,.int .i64 0,.int .i64 0,.int .i64 0,.slice none 0 0]) ?_ 0 _ rfl;(with_reducible repeat first|apply zd|apply ze|apply za);exact BK241.out)):gb242≠gb241));clear HO161 HO174 HO189 HO204 HO215 HO228 HO239 BK178 BK193 BK217 BK241 HB;have HO161:=n0_;have HO174:=n1_;have HO189:=n2_;have HO204:=n3_;have HO215:=n4_;have HO228:=n5_;have HO239:=n6_;have BK178:=n7_;have BK193:=n8_;have BK217:=n9_;have BK241:=n10_;have HB:=n11_;have BK242:=n12_;have GW242:=n13_;have GE242:=n14_;have NB178_242:=n15_;have NB242_178:=n16_;have NB193_242:=n17_;have NB242_193:=n18_;have NB217_242:=n19_;have NB242_217:=n20_;have NB241_242:=n21_;have NB242_241:=n22_;clear n0_ n1_ n2_ n3_ n4_ n5_ n6_ n7_ n8_ n9_ n10_ n11_ n12_ n13_ n14_ n15_ n16_ n17_ n18_ n19_ n20_ n21_ n22_;clear hb hbox hg;have hnb104:=NB242_178.out;have hnc104:=NB178_242.out;have hnb105:=NB242_193.out;have hnc105:=NB193_242.out;have hnb106:=NB242_217.out;have hnc106:=NB217_242.out;have hnb107:=NB242_241.out;have hnc107:=NB241_242.out;have hcz108_0:=zc BK242.out 0 (.string (⟨#[]⟩:ByteArray)) rfl;have hcz108_1:=zc BK242.out 1 (.int .i64 0) rfl;have hcz108_2:=zc BK242.out 2 (.int .i64 0) rfl;have hcz108_3:=zc BK242.out 3 (.int .i64 0) rfl;have hcz108_4:=zc BK242.out 4 (.int .i64 0) rfl;have hcz108_5:=zc BK242.out 5 (.int .i64 0) rfl;have hcz108_6:=zc BK242.out 6 (.int .i64 0) rfl;have hcz108_7:=zc BK242.out 7 (.int .i64 0) rfl;have hcz108_8:=zc BK242.out 8 (.slice none 0 0) rfl;have hfz108_0:=zf BK242.out 0;have hfz108_1:=zf BK242.out 1;have hfz108_2:=zf BK242.out 2;have hfz108_3:=zf BK242.out 3;have hfz108_4:=zf BK242.out 4;have hfz108_5:=zf BK242.out 5;have hfz108_6:=zf BK242.out 6;have hfz108_7:=zf BK242.out 7;have hfz108_8:=zf BK242.out 8))
          have n0_:Aside0 (Kd.S k104 104 (((((((((w103.setCell ⟨gb242,0,none⟩ (.string (⟨#[87]⟩:ByteArray))).setCell ⟨gb242,1,none⟩ (.int .i64 0)).setCell ⟨gb242,2,none⟩ (.int .i64 0)).setCell ⟨gb242,3,none⟩ (.int .i64 5507)).setCell ⟨gb242,4,none⟩ (.int .i64 0)).setCell ⟨gb242,5,none⟩ (.int .i64 0)).setCell ⟨gb242,6,none⟩ (.int .i64 0)).setCell ⟨gb242,7,none⟩ (.int .i64 0)).setCell ⟨gb242,8,none⟩ (.slice none 0 0)) w.heap.size (fun k_=>some k_≠(.slice Ao76 t172.length co76:Value).ownBlock∧some k_≠(.slice Ao81 t187.length co81:Value).ownBlock∧some k_≠(.slice Ao87 t202.length co87:Value).ownBlock∧some k_≠(.slice Ao95 t226.length co95:Value).ownBlock) (.slice Ao73 t159.length co73) t159):=⟨by(with_reducible repeat(first|apply Kd.S_alloc|apply Kd.S_drewN|apply Kd.S_drew));exact Kd.S_mono (Kd.S_far (p:=⟨gb242,8,none⟩) (Kd.S_far (p:=⟨gb242,7,none⟩) (Kd.S_far (p:=⟨gb242,6,none⟩) (Kd.S_far (p:=⟨gb242,5,none⟩) (Kd.S_far (p:=⟨gb242,4,none⟩) (Kd.S_far (p:=⟨gb242,3,none⟩) (Kd.S_far (p:=⟨gb242,2,none⟩) (Kd.S_far (p:=⟨gb242,1,none⟩) (Kd.S_far (p:=⟨gb242,0,none⟩) (Kd.S_types HO161.out BK242.out (by decide)) (fun _ hk=>hk.2) (.string (⟨#[87]⟩:ByteArray))) (fun _ hk=>hk.2) (.int .i64 0)) (fun _ hk=>hk.2) (.int .i64 0)) (fun _ hk=>hk.2) (.int .i64 5507)) (fun _ hk=>hk.2) (.int .i64 0)) (fun _ hk=>hk.2) (.int .i64 0)) (fun _ hk=>hk.2) (.int .i64 0)) (fun _ hk=>hk.2) (.int .i64 0)) (fun _ hk=>hk.2) (.slice none 0 0)) (fun _ hk=>⟨hk.1.1.1.1.2,⟨hk.1.1.1.2,⟨hk.1.1.2,hk.1.2⟩⟩⟩)⟩
          have n1_:Aside0 (Kd.S k104 104 (((((((((w103.setCell ⟨gb242,0,none⟩ (.string (⟨#[87]⟩:ByteArray))).setCell ⟨gb242,1,none⟩ (.int .i64 0)).setCell ⟨gb242,2,none⟩ (.int .i64 0)).setCell ⟨gb242,3,none⟩ (.int .i64 5507)).setCell ⟨gb242,4,none⟩ (.int .i64 0)).setCell ⟨gb242,5,none⟩ (.int .i64 0)).setCell ⟨gb242,6,none⟩ (.int .i64 0)).setCell ⟨gb242,7,none⟩ (.int .i64 0)).setCell ⟨gb242,8,none⟩ (.slice none 0 0)) w.heap.size (fun k_=>some k_≠(.slice Ao73 t159.length co73:Value).ownBlock∧some k_≠(.slice Ao81 t187.length co81:Value).ownBlock∧some k_≠(.slice Ao87 t202.length co87:Value).ownBlock∧some k_≠(.slice Ao95 t226.length co95:Value).ownBlock) (.slice Ao76 t172.length co76) t172):=⟨by(with_reducible repeat(first|apply Kd.S_alloc|apply Kd.S_drewN|apply Kd.S_drew));exact Kd.S_mono (Kd.S_far (p:=⟨gb242,8,none⟩) (Kd.S_far (p:=⟨gb242,7,none⟩) (Kd.S_far (p:=⟨gb242,6,none⟩) (Kd.S_far (p:=⟨gb242,5,none⟩) (Kd.S_far (p:=⟨gb242,4,none⟩) (Kd.S_far (p:=⟨gb242,3,none⟩) (Kd.S_far (p:=⟨gb242,2,none⟩) (Kd.S_far (p:=⟨gb242,1,none⟩) (Kd.S_far (p:=⟨gb242,0,none⟩) (Kd.S_types HO174.out BK242.out (by decide)) (fun _ hk=>hk.2) (.string (⟨#[87]⟩:ByteArray))) (fun _ hk=>hk.2) (.int .i64 0)) (fun _ hk=>hk.2) (.int .i64 0)) (fun _ hk=>hk.2) (.int .i64 5507)) (fun _ hk=>hk.2) (.int .i64 0)) (fun _ hk=>hk.2) (.int .i64 0)) (fun _ hk=>hk.2) (.int .i64 0)) (fun _ hk=>hk.2) (.int .i64 0)) (fun _ hk=>hk.2) (.slice none 0 0)) (fun _ hk=>⟨hk.1.1.1.1.2,⟨hk.1.1.1.2,⟨hk.1.1.2,hk.1.2⟩⟩⟩)⟩
          have n2_:Aside0 (Kd.S k104 104 (((((((((w103.setCell ⟨gb242,0,none⟩ (.string (⟨#[87]⟩:ByteArray))).setCell ⟨gb242,1,none⟩ (.int .i64 0)).setCell ⟨gb242,2,none⟩ (.int .i64 0)).setCell ⟨gb242,3,none⟩ (.int .i64 5507)).setCell ⟨gb242,4,none⟩ (.int .i64 0)).setCell ⟨gb242,5,none⟩ (.int .i64 0)).setCell ⟨gb242,6,none⟩ (.int .i64 0)).setCell ⟨gb242,7,none⟩ (.int .i64 0)).setCell ⟨gb242,8,none⟩ (.slice none 0 0)) w.heap.size (fun k_=>some k_≠(.slice Ao73 t159.length co73:Value).ownBlock∧some k_≠(.slice Ao76 t172.length co76:Value).ownBlock∧some k_≠(.slice Ao87 t202.length co87:Value).ownBlock∧some k_≠(.slice Ao95 t226.length co95:Value).ownBlock) (.slice Ao81 t187.length co81) t187):=⟨by(with_reducible repeat(first|apply Kd.S_alloc|apply Kd.S_drewN|apply Kd.S_drew));exact Kd.S_mono (Kd.S_far (p:=⟨gb242,8,none⟩) (Kd.S_far (p:=⟨gb242,7,none⟩) (Kd.S_far (p:=⟨gb242,6,none⟩) (Kd.S_far (p:=⟨gb242,5,none⟩) (Kd.S_far (p:=⟨gb242,4,none⟩) (Kd.S_far (p:=⟨gb242,3,none⟩) (Kd.S_far (p:=⟨gb242,2,none⟩) (Kd.S_far (p:=⟨gb242,1,none⟩) (Kd.S_far (p:=⟨gb242,0,none⟩) (Kd.S_types HO189.out BK242.out (by decide)) (fun _ hk=>hk.2) (.string (⟨#[87]⟩:ByteArray))) (fun _ hk=>hk.2) (.int .i64 0)) (fun _ hk=>hk.2) (.int .i64 0)) (fun _ hk=>hk.2) (.int .i64 5507)) (fun _ hk=>hk.2) (.int .i64 0)) (fun _ hk=>hk.2) (.int .i64 0)) (fun _ hk=>hk.2) (.int .i64 0)) (fun _ hk=>hk.2) (.int .i64 0)) (fun _ hk=>hk.2) (.slice none 0 0)) (fun _ hk=>⟨hk.1.1.1.1.2,⟨hk.1.1.1.2,⟨hk.1.1.2,hk.1.2⟩⟩⟩)⟩
          have n3_:Aside0 (Kd.S k104 104 (((((((((w103.setCell ⟨gb242,0,none⟩ (.string (⟨#[87]⟩:ByteArray))).setCell ⟨gb242,1,none⟩ (.int .i64 0)).setCell ⟨gb242,2,none⟩ (.int .i64 0)).setCell ⟨gb242,3,none⟩ (.int .i64 5507)).setCell ⟨gb242,4,none⟩ (.int .i64 0)).setCell ⟨gb242,5,none⟩ (.int .i64 0)).setCell ⟨gb242,6,none⟩ (.int .i64 0)).setCell ⟨gb242,7,none⟩ (.int .i64 0)).setCell ⟨gb242,8,none⟩ (.slice none 0 0)) w.heap.size (fun k_=>some k_≠(.slice Ao73 t159.length co73:Value).ownBlock∧some k_≠(.slice Ao76 t172.length co76:Value).ownBlock∧some k_≠(.slice Ao81 t187.length co81:Value).ownBlock∧some k_≠(.slice Ao95 t226.length co95:Value).ownBlock) (.slice Ao87 t202.length co87) t202):=⟨by(with_reducible repeat(first|apply Kd.S_alloc|apply Kd.S_drewN|apply Kd.S_drew));exact Kd.S_mono (Kd.S_far (p:=⟨gb242,8,none⟩) (Kd.S_far (p:=⟨gb242,7,none⟩) (Kd.S_far (p:=⟨gb242,6,none⟩) (Kd.S_far (p:=⟨gb242,5,none⟩) (Kd.S_far (p:=⟨gb242,4,none⟩) (Kd.S_far (p:=⟨gb242,3,none⟩) (Kd.S_far (p:=⟨gb242,2,none⟩) (Kd.S_far (p:=⟨gb242,1,none⟩) (Kd.S_far (p:=⟨gb242,0,none⟩) (Kd.S_types HO204.out BK242.out (by decide)) (fun _ hk=>hk.2) (.string (⟨#[87]⟩:ByteArray))) (fun _ hk=>hk.2) (.int .i64 0)) (fun _ hk=>hk.2) (.int .i64 0)) (fun _ hk=>hk.2) (.int .i64 5507)) (fun _ hk=>hk.2) (.int .i64 0)) (fun _ hk=>hk.2) (.int .i64 0)) (fun _ hk=>hk.2) (.int .i64 0)) (fun _ hk=>hk.2) (.int .i64 0)) (fun _ hk=>hk.2) (.slice none 0 0)) (fun _ hk=>⟨hk.1.1.1.1.2,⟨hk.1.1.1.2,⟨hk.1.1.2,hk.1.2⟩⟩⟩)⟩
          have n4_:Aside0 (Kd.V k104 104 (((((((((w103.setCell ⟨gb242,0,none⟩ (.string (⟨#[87]⟩:ByteArray))).setCell ⟨gb242,1,none⟩ (.int .i64 0)).setCell ⟨gb242,2,none⟩ (.int .i64 0)).setCell ⟨gb242,3,none⟩ (.int .i64 5507)).setCell ⟨gb242,4,none⟩ (.int .i64 0)).setCell ⟨gb242,5,none⟩ (.int .i64 0)).setCell ⟨gb242,6,none⟩ (.int .i64 0)).setCell ⟨gb242,7,none⟩ (.int .i64 0)).setCell ⟨gb242,8,none⟩ (.slice none 0 0)) w.heap.size (fun k_=>some k_≠(.slice Ao73 t159.length co73:Value).ownBlock∧some k_≠(.slice Ao76 t172.length co76:Value).ownBlock∧some k_≠(.slice Ao81 t187.length co81:Value).ownBlock∧some k_≠(.slice Ao87 t202.length co87:Value).ownBlock∧some k_≠(.slice Ao95 t226.length co95:Value).ownBlock∧k_≠gb178∧k_≠gb193∧k_≠gb217∧k_≠gb241∧k_≠gb242) (.slice Ao93 t213.length co93) t213):=⟨by(with_reducible repeat(first|apply Kd.V_alloc|apply Kd.V_drewN|apply Kd.V_drew));exact Kd.V_mono (zV gb242 (Kd.V_mono HO215.out (fun k_ hk=>(⟨hk,hk.2⟩:_∧k_≠gb242))) (fun _ hk=>hk.2) (.string (⟨#[87]⟩:ByteArray)) (.int .i64 0) (.int .i64 0) (.int .i64 5507) (.int .i64 0) (.int .i64 0) (.int .i64 0) (.int .i64 0) (.slice none 0 0)) (fun _ hk=>⟨hk.1.1.1.1.1.1,⟨hk.1.1.1.1.1.2.1,⟨hk.1.1.1.1.1.2.2.1,⟨hk.1.1.1.1.1.2.2.2.1,⟨hk.1.1.1.2,⟨hk.1.1.1.1.1.2.2.2.2.1,⟨hk.1.1.1.1.1.2.2.2.2.2,⟨hk.1.1.1.1.2,⟨hk.1.1.2,hk.1.2⟩⟩⟩⟩⟩⟩⟩⟩⟩)⟩
          have n5_:Aside0 (Kd.S k104 104 (((((((((w103.setCell ⟨gb242,0,none⟩ (.string (⟨#[87]⟩:ByteArray))).setCell ⟨gb242,1,none⟩ (.int .i64 0)).setCell ⟨gb242,2,none⟩ (.int .i64 0)).setCell ⟨gb242,3,none⟩ (.int .i64 5507)).setCell ⟨gb242,4,none⟩ (.int .i64 0)).setCell ⟨gb242,5,none⟩ (.int .i64 0)).setCell ⟨gb242,6,none⟩ (.int .i64 0)).setCell ⟨gb242,7,none⟩ (.int .i64 0)).setCell ⟨gb242,8,none⟩ (.slice none 0 0)) w.heap.size (fun k_=>some k_≠(.slice Ao73 t159.length co73:Value).ownBlock∧some k_≠(.slice Ao76 t172.length co76:Value).ownBlock∧some k_≠(.slice Ao81 t187.length co81:Value).ownBlock∧some k_≠(.slice Ao87 t202.length co87:Value).ownBlock) (.slice Ao95 t226.length co95) t226):=⟨by(with_reducible repeat(first|apply Kd.S_alloc|apply Kd.S_drewN|apply Kd.S_drew));exact Kd.S_mono (Kd.S_far (p:=⟨gb242,8,none⟩) (Kd.S_far (p:=⟨gb242,7,none⟩) (Kd.S_far (p:=⟨gb242,6,none⟩) (Kd.S_far (p:=⟨gb242,5,none⟩) (Kd.S_far (p:=⟨gb242,4,none⟩) (Kd.S_far (p:=⟨gb242,3,none⟩) (Kd.S_far (p:=⟨gb242,2,none⟩) (Kd.S_far (p:=⟨gb242,1,none⟩) (Kd.S_far (p:=⟨gb242,0,none⟩) (Kd.S_types HO228.out BK242.out (by decide)) (fun _ hk=>hk.2) (.string (⟨#[87]⟩:ByteArray))) (fun _ hk=>hk.2) (.int .i64 0)) (fun _ hk=>hk.2) (.int .i64 0)) (fun _ hk=>hk.2) (.int .i64 5507)) (fun _ hk=>hk.2) (.int .i64 0)) (fun _ hk=>hk.2) (.int .i64 0)) (fun _ hk=>hk.2) (.int .i64 0)) (fun _ hk=>hk.2) (.int .i64 0)) (fun _ hk=>hk.2) (.slice none 0 0)) (fun _ hk=>⟨hk.1.1.1.1.2,⟨hk.1.1.1.2,⟨hk.1.1.2,hk.1.2⟩⟩⟩)⟩
          have n6_:Aside0 (Kd.V k104 104 (((((((((w103.setCell ⟨gb242,0,none⟩ (.string (⟨#[87]⟩:ByteArray))).setCell ⟨gb242,1,none⟩ (.int .i64 0)).setCell ⟨gb242,2,none⟩ (.int .i64 0)).setCell ⟨gb242,3,none⟩ (.int .i64 5507)).setCell ⟨gb242,4,none⟩ (.int .i64 0)).setCell ⟨gb242,5,none⟩ (.int .i64 0)).setCell ⟨gb242,6,none⟩ (.int .i64 0)).setCell ⟨gb242,7,none⟩ (.int .i64 0)).setCell ⟨gb242,8,none⟩ (.slice none 0 0)) w.heap.size (fun k_=>some k_≠(.slice Ao73 t159.length co73:Value).ownBlock∧some k_≠(.slice Ao76 t172.length co76:Value).ownBlock∧some k_≠(.slice Ao81 t187.length co81:Value).ownBlock∧some k_≠(.slice Ao87 t202.length co87:Value).ownBlock∧some k_≠(.slice Ao95 t226.length co95:Value).ownBlock∧k_≠gb178∧k_≠gb193∧k_≠gb217∧k_≠gb241∧k_≠gb242) (.slice Ao102 t237.length co102) t237):=⟨by(with_reducible repeat(first|apply Kd.V_alloc|apply Kd.V_drewN|apply Kd.V_drew));exact Kd.V_mono (zV gb242 (Kd.V_mono HO239.out (fun k_ hk=>(⟨hk,hk.2⟩:_∧k_≠gb242))) (fun _ hk=>hk.2) (.string (⟨#[87]⟩:ByteArray)) (.int .i64 0) (.int .i64 0) (.int .i64 5507) (.int .i64 0) (.int .i64 0) (.int .i64 0) (.int .i64 0) (.slice none 0 0)) (fun _ hk=>⟨hk.1.1.1.1,⟨hk.1.1.1.2.1,⟨hk.1.1.1.2.2.1,⟨hk.1.1.1.2.2.2.1,⟨hk.1.1.1.2.2.2.2.1,⟨hk.1.1.1.2.2.2.2.2.1,⟨hk.1.1.1.2.2.2.2.2.2.1,⟨hk.1.1.1.2.2.2.2.2.2.2,⟨hk.1.1.2,hk.1.2⟩⟩⟩⟩⟩⟩⟩⟩⟩)⟩
          have n7_:Aside0 ((((((((((w103.setCell ⟨gb242,0,none⟩ (.string (⟨#[87]⟩:ByteArray))).setCell ⟨gb242,1,none⟩ (.int .i64 0)).setCell ⟨gb242,2,none⟩ (.int .i64 0)).setCell ⟨gb242,3,none⟩ (.int .i64 5507)).setCell ⟨gb242,4,none⟩ (.int .i64 0)).setCell ⟨gb242,5,none⟩ (.int .i64 0)).setCell ⟨gb242,6,none⟩ (.int .i64 0)).setCell ⟨gb242,7,none⟩ (.int .i64 0)).setCell ⟨gb242,8,none⟩ (.slice none 0 0)).heap[gb178]?=some (.cells #[.int .i64 t175,.int .i64 t176] 25 (0,0))):=⟨by(with_reducible repeat first|apply zd|apply ze|apply za);refine zF ?_ NB178_242.out _ _ _ _ _ _ _ _ _;(with_reducible repeat first|apply zd|apply ze|apply za);exact BK178.out⟩
          have n8_:Aside0 ((((((((((w103.setCell ⟨gb242,0,none⟩ (.string (⟨#[87]⟩:ByteArray))).setCell ⟨gb242,1,none⟩ (.int .i64 0)).setCell ⟨gb242,2,none⟩ (.int .i64 0)).setCell ⟨gb242,3,none⟩ (.int .i64 5507)).setCell ⟨gb242,4,none⟩ (.int .i64 0)).setCell ⟨gb242,5,none⟩ (.int .i64 0)).setCell ⟨gb242,6,none⟩ (.int .i64 0)).setCell ⟨gb242,7,none⟩ (.int .i64 0)).setCell ⟨gb242,8,none⟩ (.slice none 0 0)).heap[gb193]?=some (.cells #[.int .i64 t190,.int .i64 t191] 25 (0,0))):=⟨by(with_reducible repeat first|apply zd|apply ze|apply za);refine zF ?_ NB193_242.out _ _ _ _ _ _ _ _ _;(with_reducible repeat first|apply zd|apply ze|apply za);exact BK193.out⟩
          have n9_:Aside0 ((((((((((w103.setCell ⟨gb242,0,none⟩ (.string (⟨#[87]⟩:ByteArray))).setCell ⟨gb242,1,none⟩ (.int .i64 0)).setCell ⟨gb242,2,none⟩ (.int .i64 0)).setCell ⟨gb242,3,none⟩ (.int .i64 5507)).setCell ⟨gb242,4,none⟩ (.int .i64 0)).setCell ⟨gb242,5,none⟩ (.int .i64 0)).setCell ⟨gb242,6,none⟩ (.int .i64 0)).setCell ⟨gb242,7,none⟩ (.int .i64 0)).setCell ⟨gb242,8,none⟩ (.slice none 0 0)).heap[gb217]?=some (.cells #[.string t205,.int .i64 t206,.int .i64 t207,.int .i64 t208,.int .i64 t209,.int .i64 t210,.int .i64 t211,.int .i64 t212,.slice Ao93 t213.length co93] 28 (0,0))):=⟨by(with_reducible repeat first|apply zd|apply ze|apply za);refine zF ?_ NB217_242.out _ _ _ _ _ _ _ _ _;(with_reducible repeat first|apply zd|apply ze|apply za);exact BK217.out⟩
          have n10_:Aside0 ((((((((((w103.setCell ⟨gb242,0,none⟩ (.string (⟨#[87]⟩:ByteArray))).setCell ⟨gb242,1,none⟩ (.int .i64 0)).setCell ⟨gb242,2,none⟩ (.int .i64 0)).setCell ⟨gb242,3,none⟩ (.int .i64 5507)).setCell ⟨gb242,4,none⟩ (.int .i64 0)).setCell ⟨gb242,5,none⟩ (.int .i64 0)).setCell ⟨gb242,6,none⟩ (.int .i64 0)).setCell ⟨gb242,7,none⟩ (.int .i64 0)).setCell ⟨gb242,8,none⟩ (.slice none 0 0)).heap[gb241]?=some (.cells #[.string t229,.int .i64 t230,.int .i64 t231,.int .i64 t232,.int .i64 t233,.int .i64 t234,.int .i64 t235,.int .i64 t236,.slice Ao102 t237.length co102] 28 (0,0))):=⟨by(with_reducible repeat first|apply zd|apply ze|apply za);refine zF ?_ NB241_242.out _ _ _ _ _ _ _ _ _;(with_reducible repeat first|apply zd|apply ze|apply za);exact BK241.out⟩
          have n11_:Aside0 ((((((((((w103.setCell ⟨gb242,0,none⟩ (.string (⟨#[87]⟩:ByteArray))).setCell ⟨gb242,1,none⟩ (.int .i64 0)).setCell ⟨gb242,2,none⟩ (.int .i64 0)).setCell ⟨gb242,3,none⟩ (.int .i64 5507)).setCell ⟨gb242,4,none⟩ (.int .i64 0)).setCell ⟨gb242,5,none⟩ (.int .i64 0)).setCell ⟨gb242,6,none⟩ (.int .i64 0)).setCell ⟨gb242,7,none⟩ (.int .i64 0)).setCell ⟨gb242,8,none⟩ (.slice none 0 0)).heap[gb242]?=some (.cells #[.string (⟨#[87]⟩:ByteArray),.int .i64 0,.int .i64 0,.int .i64 5507,.int .i64 0,.int .i64 0,.int .i64 0,.int .i64 0,.slice none 0 0] 28 (0,0))):=⟨by(with_reducible repeat first|apply zd|apply ze|apply za);refine blk_put (cs:=#[.string (⟨#[87]⟩:ByteArray),.int .i64 0,.int .i64 0,.int .i64 5507,.int .i64 0,.int .i64 0,.int .i64 0,.int .i64 0,.slice none 0 0]) ?_ 8 _ rfl;(with_reducible repeat first|apply zd|apply ze|apply za);refine blk_put (cs:=#[.string (⟨#[87]⟩:ByteArray),.int .i64 0,.int .i64 0,.int .i64 5507,.int .i64 0,.int .i64 0,.int .i64 0,.int .i64 0,.slice none 0 0]) ?_ 7 _ rfl;(with_reducible repeat first|apply zd|apply ze|apply za);refine blk_put (cs:=#[.string (⟨#[87]⟩:ByteArray),.int .i64 0,.int .i64 0,.int .i64 5507,.int .i64 0,.int .i64 0,.int .i64 0,.int .i64 0,.slice none 0 0]) ?_ 6 _ rfl;(with_reducible repeat first|apply zd|apply ze|apply za);refine blk_put (cs:=#[.string (⟨#[87]⟩:ByteArray),.int .i64 0,.int .i64 0,.int .i64 5507,.int .i64 0,.int .i64 0,.int .i64 0,.int .i64 0,.slice none 0 0]) ?_ 5 _ rfl;(with_reducible repeat first|apply zd|apply ze|apply za);refine blk_put (cs:=#[.string (⟨#[87]⟩:ByteArray),.int .i64 0,.int .i64 0,.int .i64 5507,.int .i64 0,.int .i64 0,.int .i64 0,.int .i64 0,.slice none 0 0]) ?_ 4 _ rfl;(with_reducible repeat first|apply zd|apply ze|apply za);refine blk_put (cs:=#[.string (⟨#[87]⟩:ByteArray),.int .i64 0,.int .i64 0,.int .i64 0,.int .i64 0,.int .i64 0,.int .i64 0,.int .i64 0,.slice none 0 0]) ?_ 3 _ rfl;(with_reducible repeat first|apply zd|apply ze|apply za);refine blk_put (cs:=#[.string (⟨#[87]⟩:ByteArray),.int .i64 0,.int .i64 0,.int .i64 0,.int .i64 0,.int .i64 0,.int .i64 0,.int .i64 0,.slice none 0 0]) ?_ 2 _ rfl;(with_reducible repeat first|apply zd|apply ze|apply za);refine blk_put (cs:=#[.string (⟨#[87]⟩:ByteArray),.int .i64 0,.int .i64 0,.int .i64 0,.int .i64 0,.int .i64 0,.int .i64 0,.int .i64 0,.slice none 0 0]) ?_ 1 _ rfl;(with_reducible repeat first|apply zd|apply ze|apply za);refine blk_put (cs:=#[.string (⟨#[]⟩:ByteArray),.int .i64 0,.int .i64 0,.int .i64 0,.int .i64 0,.int .i64 0,.int .i64 0,.int .i64 0,.slice none 0 0]) ?_ 0 _ rfl;(with_reducible repeat first|apply zd|apply ze|apply za);exact BK242.out⟩
          have n12_:Aside0 (Below w.heap.size w (((((((((w103.setCell ⟨gb242,0,none⟩ (.string (⟨#[87]⟩:ByteArray))).setCell ⟨gb242,1,none⟩ (.int .i64 0)).setCell ⟨gb242,2,none⟩ (.int .i64 0)).setCell ⟨gb242,3,none⟩ (.int .i64 5507)).setCell ⟨gb242,4,none⟩ (.int .i64 0)).setCell ⟨gb242,5,none⟩ (.int .i64 0)).setCell ⟨gb242,6,none⟩ (.int .i64 0)).setCell ⟨gb242,7,none⟩ (.int .i64 0)).setCell ⟨gb242,8,none⟩ (.slice none 0 0))):=⟨by repeat(first|(with_reducible first|exact HB.out|apply zA|apply zD|apply zE|refine zS ?_ GE178.out|refine zS ?_ GE193.out|refine zS ?_ GE217.out|refine zS ?_ GE241.out|refine zS ?_ GE242.out)|exact HB.out)⟩
          (try clear HO161)
          (try clear HO174)
          (try clear HO189)
          (try clear HO204)
          (try clear HO215)
          (try clear HO228)
          (try clear HO239)
          (try clear BK178)
          (try clear BK193)
          (try clear BK217)
          (try clear BK241)
          (try clear BK242)
          (try clear HB)
          generalize (((((((((w103.setCell ⟨gb242,0,none⟩ (.string (⟨#[87]⟩:ByteArray))).setCell ⟨gb242,1,none⟩ (.int .i64 0)).setCell ⟨gb242,2,none⟩ (.int .i64 0)).setCell ⟨gb242,3,none⟩ (.int .i64 5507)).setCell ⟨gb242,4,none⟩ (.int .i64 0)).setCell ⟨gb242,5,none⟩ (.int .i64 0)).setCell ⟨gb242,6,none⟩ (.int .i64 0)).setCell ⟨gb242,7,none⟩ (.int .i64 0)).setCell ⟨gb242,8,none⟩ (.slice none 0 0))=w109 at n0_ n1_ n2_ n3_ n4_ n5_ n6_ n7_ n8_ n9_ n10_ n11_ n12_ ⊢
          have HO161:=n0_
          have HO174:=n1_
          have HO189:=n2_
          have HO204:=n3_
          have HO215:=n4_
          have HO228:=n5_
          have HO239:=n6_
          have BK178:=n7_
          have BK193:=n8_
          have BK217:=n9_
          have BK241:=n10_
          have BK242:=n11_
          have HB:=n12_
          clear n0_ n1_ n2_ n3_ n4_ n5_ n6_ n7_ n8_ n9_ n10_ n11_ n12_
          have n0_:=zm (Kd.S_drew HO161.out)
          have n1_:=zm (Kd.S_drew HO174.out)
          have n2_:=zm (Kd.S_drew HO189.out)
          have n3_:=zm (Kd.S_drew HO204.out)
          have n4_:=zm (Kd.V_drew HO215.out)
          have n5_:=zm (Kd.S_drew HO228.out)
          have n6_:=zm (Kd.V_drew HO239.out)
          have n7_:=zm (ze BK178.out)
          have n8_:=zm (ze BK193.out)
          have n9_:=zm (ze BK217.out)
          have n10_:=zm (ze BK241.out)
          have n11_:=zm (ze BK242.out)
          have n12_:=zm (zE HB.out)
          clear HO161 HO174 HO189 HO204 HO215 HO228 HO239 BK178 BK193 BK217 BK241 BK242 HB
          have HO161:=n0_
          have HO174:=n1_
          have HO189:=n2_
          have HO204:=n3_
          have HO215:=n4_
          have HO228:=n5_
          have HO239:=n6_
          have BK178:=n7_
          have BK193:=n8_
          have BK217:=n9_
          have BK241:=n10_
          have BK242:=n11_
          have HB:=n12_
          clear n0_ n1_ n2_ n3_ n4_ n5_ n6_ n7_ n8_ n9_ n10_ n11_ n12_
          refine start_ (n:=8) (S:=fun w'=>w'.cell? ⟨gb242,0,none⟩=some (.string (⟨#[87]⟩:ByteArray))∧w'.cell? ⟨gb242,1,none⟩=some (.int .i64 0)∧w'.cell? ⟨gb242,2,none⟩=some (.int .i64 0)∧w'.cell? ⟨gb242,3,none⟩=some (.int .i64 5507)∧w'.cell? ⟨gb242,4,none⟩=some (.int .i64 0)∧w'.cell? ⟨gb242,5,none⟩=some (.int .i64 0)∧w'.cell? ⟨gb242,6,none⟩=some (.int .i64 0)∧w'.cell? ⟨gb242,7,none⟩=some (.int .i64 0)∧w'.cell? ⟨gb242,8,none⟩=some (.slice none 0 0)) (ds:=[]) #[false,false,false,false,false,false,false,false] (by kernel_rfl) rfl rfl ⟨(blk_cell BK242.out 0).trans rfl,(blk_cell BK242.out 1).trans rfl,(blk_cell BK242.out 2).trans rfl,(blk_cell BK242.out 3).trans rfl,(blk_cell BK242.out 4).trans rfl,(blk_cell BK242.out 5).trans rfl,(blk_cell BK242.out 6).trans rfl,(blk_cell BK242.out 7).trans rfl,(blk_cell BK242.out 8).trans rfl⟩ (fun hHeld=>?_);refine with_tabW awk0.tab7 awk0.bits7 (fun HT_ HW_=>?_)
          generalize w109.drew=w110 at HO161 HO174 HO189 HO204 HO215 HO228 HO239 BK178 BK193 BK217 BK241 BK242 HB hHeld ⊢
          refine take_ (i:=1) (N:=some 45) (v:=?_) (a':=?_) #[false,true,false,false,false,false,false,false] rfl rfl (take_ofW HT_.out HW_.out (by kernel_rfl)) (fun _ _ _ h=>h) (Or.inl ⟨by rfl,?_⟩) hHeld ?_ ?_
          rotate_left
          ·rintro w' ⟨s0,s1,s2,s3,s4,s5,s6,s7,s8⟩
           go_simp
           with_reducible rfl
          rotate_left
          ·simp only[Act.put,zx,zy,zz,i64_w,i32_w]
           rfl
          refine one_ (i:=0) (N:=some 44) #[true,true,false,false,false,false,false,false] rfl rfl (one_of HT_.out (by kernel_rfl)) (by decide) (fun K hK=>?_)
          refine goes_ Try.func67 (by kernel_rfl) rfl #[] (by rfl) rfl rfl (by(try simp only[List.map_toArray,List.map_cons,List.map_nil]);first|done|rfl|(simp only[List.length_drop,List.length_take];rfl)) ?_
          with_reducible refine(ml_Hole.calls  t243 t244 t245 t246 t247 t248 t249 t250 t251 _ A11.out).mono ?_
          rintro e w111 ⟨v252,rfl,ho0,hb⟩
          refine⟨_,rfl,?_⟩
          have n0_:=zm (Kd.S_elder' (by(with_reducible repeat(first|apply Kd.S_alloc|apply Kd.S_drewN|apply Kd.S_drew));exact HO161.out) (Kd.S_base ho0) hb)
          have n1_:=zm (Kd.S_elder' (by(with_reducible repeat(first|apply Kd.S_alloc|apply Kd.S_drewN|apply Kd.S_drew));exact HO174.out) (Kd.S_base ho0) hb)
          have n2_:=zm (Kd.S_elder' (by(with_reducible repeat(first|apply Kd.S_alloc|apply Kd.S_drewN|apply Kd.S_drew));exact HO189.out) (Kd.S_base ho0) hb)
          have n3_:=zm (Kd.S_elder' (by(with_reducible repeat(first|apply Kd.S_alloc|apply Kd.S_drewN|apply Kd.S_drew));exact HO204.out) (Kd.S_base ho0) hb)
          have n4_:=zm (Kd.V_elder' (by(with_reducible repeat(first|apply Kd.V_alloc|apply Kd.V_drewN|apply Kd.V_drew));exact HO215.out) (Kd.S_base ho0) hb)
          have n5_:=zm (Kd.S_elder' (by(with_reducible repeat(first|apply Kd.S_alloc|apply Kd.S_drewN|apply Kd.S_drew));exact HO228.out) (Kd.S_base ho0) hb)
          have n6_:=zm (Kd.V_elder' (by(with_reducible repeat(first|apply Kd.V_alloc|apply Kd.V_drewN|apply Kd.V_drew));exact HO239.out) (Kd.S_base ho0) hb)
          have n7_:=zm (Kd.S_lower (Kd.S_new' (Kd.S_new' (Kd.S_new' (Kd.S_new' (Kd.S_new' ho0 (Kd.S_lt (by(with_reducible repeat(first|apply Kd.S_alloc|apply Kd.S_drewN|apply Kd.S_drew));exact HO161.out))) (Kd.S_lt (by(with_reducible repeat(first|apply Kd.S_alloc|apply Kd.S_drewN|apply Kd.S_drew));exact HO174.out))) (Kd.S_lt (by(with_reducible repeat(first|apply Kd.S_alloc|apply Kd.S_drewN|apply Kd.S_drew));exact HO189.out))) (Kd.S_lt (by(with_reducible repeat(first|apply Kd.S_alloc|apply Kd.S_drewN|apply Kd.S_drew));exact HO204.out))) (Kd.S_lt (by(with_reducible repeat(first|apply Kd.S_alloc|apply Kd.S_drewN|apply Kd.S_drew));exact HO228.out))) (below_size (by repeat(first|(with_reducible first|exact HB.out|apply zA|apply zD|apply zE|refine zS ?_ GE178.out|refine zS ?_ GE193.out|refine zS ?_ GE217.out|refine zS ?_ GE241.out|refine zS ?_ GE242.out)|exact HB.out))))
          have n8_:=zm (zb (g:=gb178) (by(with_reducible repeat first|apply zd|apply ze|apply za);exact BK178.out) hb)
          have n9_:=zm (zb (g:=gb193) (by(with_reducible repeat first|apply zd|apply ze|apply za);exact BK193.out) hb)
          have n10_:=zm (zb (g:=gb217) (by(with_reducible repeat first|apply zd|apply ze|apply za);exact BK217.out) hb)
          have n11_:=zm (zb (g:=gb241) (by(with_reducible repeat first|apply zd|apply ze|apply za);exact BK241.out) hb)
          have n12_:=zm (zb (g:=gb242) (o:=.cells #[.string (⟨#[87]⟩:ByteArray),.int .i64 0,.int .i64 0,.int .i64 5507,.int .i64 0,.int .i64 0,.int .i64 0,.int .i64 0,.slice none 0 0] 28 (0,0)) (by(with_reducible repeat first|apply zd|apply ze|apply za);exact BK242.out) hb)
          have n13_:=zm (below_step (by repeat(first|(with_reducible first|exact HB.out|apply zA|apply zD|apply zE|refine zS ?_ GE178.out|refine zS ?_ GE193.out|refine zS ?_ GE217.out|refine zS ?_ GE241.out|refine zS ?_ GE242.out)|exact HB.out)) hb)
          clear HO161 HO174 HO189 HO204 HO215 HO228 HO239 BK178 BK193 BK217 BK241 BK242 HB
          have HO161:=n0_
          have HO174:=n1_
          have HO189:=n2_
          have HO204:=n3_
          have HO215:=n4_
          have HO228:=n5_
          have HO239:=n6_
          have HO253:=n7_
          have BK178:=n8_
          have BK193:=n9_
          have BK217:=n10_
          have BK241:=n11_
          have BK242:=n12_
          have HB:=n13_
          clear n0_ n1_ n2_ n3_ n4_ n5_ n6_ n7_ n8_ n9_ n10_ n11_ n12_ n13_
          (try clear hb)
          (try clear hb2)
          (try clear hk)
          (try clear hi)
          (try clear ho0)
          obtain⟨Ao112,co112,eo112⟩:=Kd.S_slice HO253.out
          (first|subst eo112|(injection eo112 with f1_ f2_ f3_;have f4_:=f1_.symm;have f5_:=f3_.symm;clear f1_ f2_ f3_;subst f4_;subst f5_))
          refine hK.out _ _ ⟨(blk_cell BK242.out 0).trans rfl,(blk_cell BK242.out 1).trans rfl,(blk_cell BK242.out 2).trans rfl,(blk_cell BK242.out 3).trans rfl,(blk_cell BK242.out 4).trans rfl,(blk_cell BK242.out 5).trans rfl,(blk_cell BK242.out 6).trans rfl,(blk_cell BK242.out 7).trans rfl,(blk_cell BK242.out 8).trans rfl⟩ (fun hHeld=>?_)
          clear hK K
          refine norm_ (a':=?_) ?_ ?_
          rotate_left
          ·show Act.put _ (some 44) _=_
           simp only[Act.put,zx,zy,zz,i64_w,i32_w]
           rfl
          refine one_ (i:=2) (N:=some 46) #[true,true,true,false,false,false,false,false] rfl rfl (one_of HT_.out (by kernel_rfl)) (by decide) (fun K hK=>?_)
          refine goes_ Try.func21 (by kernel_rfl) rfl #[.agg #[.string t243,.int .i64 t244,.int .i64 t245,.int .i64 t246,.int .i64 t247,.int .i64 t248,.int .i64 t249,.int .i64 t250,.slice Ao112 t251.length co112],.agg #[.string (⟨#[87]⟩:ByteArray),.int .i64 0,.int .i64 0,.int .i64 5507,.int .i64 0,.int .i64 0,.int .i64 0,.int .i64 0,.slice none 0 0]] (by rfl) rfl rfl (by(try simp only[List.map_toArray,List.map_cons,List.map_nil]);first|done|rfl|(simp only[List.length_drop,List.length_take];rfl)) ?_
          refine(fe_Separate.calls k t243 t244 t245 t246 t247 t248 t249 t250 (fun k_=>((((((((((True∧some k_≠(.slice Ao73 t159.length co73:Value).ownBlock)∧some k_≠(.slice Ao76 t172.length co76:Value).ownBlock)∧some k_≠(.slice Ao81 t187.length co81:Value).ownBlock)∧some k_≠(.slice Ao87 t202.length co87:Value).ownBlock)∧some k_≠(.slice Ao95 t226.length co95:Value).ownBlock)∧k_≠gb178)∧k_≠gb193)∧k_≠gb217)∧k_≠gb241)∧k_≠gb242)) _ _ t251 (⟨#[87]⟩:ByteArray) 0 0 5507 0 0 0 0 (fun k_=>False) _ _ ([]:List (S104)) true t255 _ ?side1 ?side2 A12.out).mono ?_
          (case side1=>exact Kd.S_V (Kd.S_types (Kd.S_types (Kd.S_types (Kd.S_types (Kd.S_types (HO253.out) BK178.out (by decide)) BK193.out (by decide)) BK217.out (by decide)) BK241.out (by decide)) BK242.out (by decide)))
          (case side2=>exact Kd.V_nil _ _ _ _ _)
          rintro e w113 ⟨rfl,hb⟩
          refine⟨_,rfl,?_⟩
          have n0_:=zm (Kd.S_below (by(with_reducible repeat(first|apply Kd.S_alloc|apply Kd.S_drewN|apply Kd.S_drew));exact HO161.out) hb)
          have n1_:=zm (Kd.S_below (by(with_reducible repeat(first|apply Kd.S_alloc|apply Kd.S_drewN|apply Kd.S_drew));exact HO174.out) hb)
          have n2_:=zm (Kd.S_below (by(with_reducible repeat(first|apply Kd.S_alloc|apply Kd.S_drewN|apply Kd.S_drew));exact HO189.out) hb)
          have n3_:=zm (Kd.S_below (by(with_reducible repeat(first|apply Kd.S_alloc|apply Kd.S_drewN|apply Kd.S_drew));exact HO204.out) hb)
          have n4_:=zm (Kd.V_below (by(with_reducible repeat(first|apply Kd.V_alloc|apply Kd.V_drewN|apply Kd.V_drew));exact HO215.out) hb)
          have n5_:=zm (Kd.S_below (by(with_reducible repeat(first|apply Kd.S_alloc|apply Kd.S_drewN|apply Kd.S_drew));exact HO228.out) hb)
          have n6_:=zm (Kd.V_below (by(with_reducible repeat(first|apply Kd.V_alloc|apply Kd.V_drewN|apply Kd.V_drew));exact HO239.out) hb)
          have n7_:=zm (Kd.S_below (by(with_reducible repeat(first|apply Kd.S_alloc|apply Kd.S_drewN|apply Kd.S_drew));exact HO253.out) hb)
          have n8_:=zm (zb (g:=gb178) (by(with_reducible repeat first|apply zd|apply ze|apply za);exact BK178.out) hb)
          have n9_:=zm (zb (g:=gb193) (by(with_reducible repeat first|apply zd|apply ze|apply za);exact BK193.out) hb)
          have n10_:=zm (zb (g:=gb217) (by(with_reducible repeat first|apply zd|apply ze|apply za);exact BK217.out) hb)
          have n11_:=zm (zb (g:=gb241) (by(with_reducible repeat first|apply zd|apply ze|apply za);exact BK241.out) hb)
          have n12_:=zm (zb (g:=gb242) (o:=.cells #[.string (⟨#[87]⟩:ByteArray),.int .i64 0,.int .i64 0,.int .i64 5507,.int .i64 0,.int .i64 0,.int .i64 0,.int .i64 0,.slice none 0 0] 28 (0,0)) (by(with_reducible repeat first|apply zd|apply ze|apply za);exact BK242.out) hb)
          have n13_:=zm (below_step (by repeat(first|(with_reducible first|exact HB.out|apply zA|apply zD|apply zE|refine zS ?_ GE178.out|refine zS ?_ GE193.out|refine zS ?_ GE217.out|refine zS ?_ GE241.out|refine zS ?_ GE242.out)|exact HB.out)) hb)
          clear HO161 HO174 HO189 HO204 HO215 HO228 HO239 HO253 BK178 BK193 BK217 BK241 BK242 HB
          have HO161:=n0_
          have HO174:=n1_
          have HO189:=n2_
          have HO204:=n3_
          have HO215:=n4_
          have HO228:=n5_
          have HO239:=n6_
          have HO253:=n7_
          have BK178:=n8_
          have BK193:=n9_
          have BK217:=n10_
          have BK241:=n11_
          have BK242:=n12_
          have HB:=n13_
          clear n0_ n1_ n2_ n3_ n4_ n5_ n6_ n7_ n8_ n9_ n10_ n11_ n12_ n13_
          (try clear hb)
          (try clear hb2)
          (try clear hk)
          (try clear hi)
          refine hK.out _ _ ⟨(blk_cell BK242.out 0).trans rfl,(blk_cell BK242.out 1).trans rfl,(blk_cell BK242.out 2).trans rfl,(blk_cell BK242.out 3).trans rfl,(blk_cell BK242.out 4).trans rfl,(blk_cell BK242.out 5).trans rfl,(blk_cell BK242.out 6).trans rfl,(blk_cell BK242.out 7).trans rfl,(blk_cell BK242.out 8).trans rfl⟩ (fun hHeld=>?_)
          clear hK K
          refine norm_ (a':=?_) ?_ ?_
          rotate_left
          ·show Act.put _ (some 46) _=_
           simp only[Act.put,zx,zy,zz,i64_w,i32_w]
           rfl
          refine pure_ (i:=3) (N:=some 43) (v:=?_) (a':=?_) #[true,true,true,true,false,false,false,false] rfl rfl (any_of HT_.out (by kernel_rfl)) (fun _ _ _ h=>h) (Or.inl ⟨by rfl,?_⟩) ?_ ?_
          rotate_left
          ·intro w'
           go_simp
           with_reducible rfl
          rotate_left
          ·simp only[Act.put,zx,zy,zz,i64_w,i32_w]
           rfl
          refine pure_ (i:=4) (N:=some 47) (v:=?_) (a':=?_) #[true,true,true,true,true,false,false,false] rfl rfl (any_of HT_.out (by kernel_rfl)) (fun _ _ _ h=>h) (Or.inl ⟨by rfl,?_⟩) ?_ ?_
          rotate_left
          ·intro w'
           go_simp
           with_reducible rfl
          rotate_left
          ·simp only[Act.put,zx,zy,zz,i64_w,i32_w]
           rfl
          refine pure_ (i:=5) (N:=some 48) (v:=?_) (a':=?_) #[true,true,true,true,true,true,false,false] rfl rfl (any_of HT_.out (by kernel_rfl)) (fun _ _ _ h=>h) (Or.inl ⟨by rfl,?_⟩) ?_ ?_
          rotate_left
          ·intro w'
           go_simp
           with_reducible rfl
          rotate_left
          ·simp only[Act.put,zx,zy,zz,i64_w,i32_w]
           rfl
          refine pure_ (i:=6) (N:=some 12) (v:=?_) (a':=?_) #[true,true,true,true,true,true,true,false] rfl rfl (any_of HT_.out (by kernel_rfl)) (fun _ _ _ h=>h) (Or.inl ⟨by rfl,?_⟩) ?_ ?_
          rotate_left
          ·intro w'
           go_simp
           with_reducible rfl
          rotate_left
          ·simp only[Act.put,zx,zy,zz,i64_w,i32_w]
           rfl
          refine pure_ (i:=7) (N:=some 13) (v:=?_) (a':=?_) #[true,true,true,true,true,true,true,true] rfl rfl (any_of HT_.out (by kernel_rfl)) (fun _ _ _ h=>h) (Or.inl ⟨by rfl,?_⟩) ?_ ?_
          rotate_left
          ·intro w'
           go_simp
           with_reducible rfl
          rotate_left
          ·simp only[Act.put,zx,zy,zz,i64_w,i32_w]
           rfl
          refine done_ (done_of HT_.out (by kernel_rfl)) ?_
          have hcz114_0:=zc BK242.out 0 (.string (⟨#[87]⟩:ByteArray)) rfl
          have hcz114_1:=zc BK242.out 1 (.int .i64 0) rfl
          have hcz114_2:=zc BK242.out 2 (.int .i64 0) rfl
          have hcz114_3:=zc BK242.out 3 (.int .i64 5507) rfl
          have hcz114_4:=zc BK242.out 4 (.int .i64 0) rfl
          have hcz114_5:=zc BK242.out 5 (.int .i64 0) rfl
          have hcz114_6:=zc BK242.out 6 (.int .i64 0) rfl
          have hcz114_7:=zc BK242.out 7 (.int .i64 0) rfl
          have hcz114_8:=zc BK242.out 8 (.slice none 0 0) rfl
          have hfz114_0:=zf BK242.out 0
          have hfz114_1:=zf BK242.out 1
          have hfz114_2:=zf BK242.out 2
          have hfz114_3:=zf BK242.out 3
          have hfz114_4:=zf BK242.out 4
          have hfz114_5:=zf BK242.out 5
          have hfz114_6:=zf BK242.out 6
          have hfz114_7:=zf BK242.out 7
          have hfz114_8:=zf BK242.out 8
          try go_wp2
          have n0_:Aside0 (Kd.S k104 104 (w113.setCell ⟨gb242,3,none⟩ (.int .i64 5506)) w.heap.size (fun k_=>some k_≠(.slice Ao76 t172.length co76:Value).ownBlock∧some k_≠(.slice Ao81 t187.length co81:Value).ownBlock∧some k_≠(.slice Ao87 t202.length co87:Value).ownBlock∧some k_≠(.slice Ao95 t226.length co95:Value).ownBlock∧some k_≠(.slice Ao112 t251.length co112:Value).ownBlock) (.slice Ao73 t159.length co73) t159):=⟨by(with_reducible repeat(first|apply Kd.S_alloc|apply Kd.S_drewN|apply Kd.S_drew));exact Kd.S_mono (Kd.S_far (p:=⟨gb242,3,none⟩) (Kd.S_types HO161.out BK242.out (by decide)) (fun _ hk=>hk.2) (.int .i64 5506)) (fun _ hk=>⟨hk.1.1.1,⟨hk.1.1.2.1,⟨hk.1.1.2.2.1,⟨hk.1.1.2.2.2,hk.1.2⟩⟩⟩⟩)⟩
          have n1_:Aside0 (Kd.S k104 104 (w113.setCell ⟨gb242,3,none⟩ (.int .i64 5506)) w.heap.size (fun k_=>some k_≠(.slice Ao73 t159.length co73:Value).ownBlock∧some k_≠(.slice Ao81 t187.length co81:Value).ownBlock∧some k_≠(.slice Ao87 t202.length co87:Value).ownBlock∧some k_≠(.slice Ao95 t226.length co95:Value).ownBlock∧some k_≠(.slice Ao112 t251.length co112:Value).ownBlock) (.slice Ao76 t172.length co76) t172):=⟨by(with_reducible repeat(first|apply Kd.S_alloc|apply Kd.S_drewN|apply Kd.S_drew));exact Kd.S_mono (Kd.S_far (p:=⟨gb242,3,none⟩) (Kd.S_types HO174.out BK242.out (by decide)) (fun _ hk=>hk.2) (.int .i64 5506)) (fun _ hk=>⟨hk.1.1.1,⟨hk.1.1.2.1,⟨hk.1.1.2.2.1,⟨hk.1.1.2.2.2,hk.1.2⟩⟩⟩⟩)⟩
          have n2_:Aside0 (Kd.S k104 104 (w113.setCell ⟨gb242,3,none⟩ (.int .i64 5506)) w.heap.size (fun k_=>some k_≠(.slice Ao73 t159.length co73:Value).ownBlock∧some k_≠(.slice Ao76 t172.length co76:Value).ownBlock∧some k_≠(.slice Ao87 t202.length co87:Value).ownBlock∧some k_≠(.slice Ao95 t226.length co95:Value).ownBlock∧some k_≠(.slice Ao112 t251.length co112:Value).ownBlock) (.slice Ao81 t187.length co81) t187):=⟨by(with_reducible repeat(first|apply Kd.S_alloc|apply Kd.S_drewN|apply Kd.S_drew));exact Kd.S_mono (Kd.S_far (p:=⟨gb242,3,none⟩) (Kd.S_types HO189.out BK242.out (by decide)) (fun _ hk=>hk.2) (.int .i64 5506)) (fun _ hk=>⟨hk.1.1.1,⟨hk.1.1.2.1,⟨hk.1.1.2.2.1,⟨hk.1.1.2.2.2,hk.1.2⟩⟩⟩⟩)⟩
          have n3_:Aside0 (Kd.S k104 104 (w113.setCell ⟨gb242,3,none⟩ (.int .i64 5506)) w.heap.size (fun k_=>some k_≠(.slice Ao73 t159.length co73:Value).ownBlock∧some k_≠(.slice Ao76 t172.length co76:Value).ownBlock∧some k_≠(.slice Ao81 t187.length co81:Value).ownBlock∧some k_≠(.slice Ao95 t226.length co95:Value).ownBlock∧some k_≠(.slice Ao112 t251.length co112:Value).ownBlock) (.slice Ao87 t202.length co87) t202):=⟨by(with_reducible repeat(first|apply Kd.S_alloc|apply Kd.S_drewN|apply Kd.S_drew));exact Kd.S_mono (Kd.S_far (p:=⟨gb242,3,none⟩) (Kd.S_types HO204.out BK242.out (by decide)) (fun _ hk=>hk.2) (.int .i64 5506)) (fun _ hk=>⟨hk.1.1.1,⟨hk.1.1.2.1,⟨hk.1.1.2.2.1,⟨hk.1.1.2.2.2,hk.1.2⟩⟩⟩⟩)⟩
          have n4_:Aside0 (Kd.V k104 104 (w113.setCell ⟨gb242,3,none⟩ (.int .i64 5506)) w.heap.size (fun k_=>some k_≠(.slice Ao73 t159.length co73:Value).ownBlock∧some k_≠(.slice Ao76 t172.length co76:Value).ownBlock∧some k_≠(.slice Ao81 t187.length co81:Value).ownBlock∧some k_≠(.slice Ao87 t202.length co87:Value).ownBlock∧some k_≠(.slice Ao95 t226.length co95:Value).ownBlock∧some k_≠(.slice Ao112 t251.length co112:Value).ownBlock∧k_≠gb178∧k_≠gb193∧k_≠gb217∧k_≠gb241∧k_≠gb242) (.slice Ao93 t213.length co93) t213):=⟨by(with_reducible repeat(first|apply Kd.V_alloc|apply Kd.V_drewN|apply Kd.V_drew));exact Kd.V_mono (Kd.V_far (p:=⟨gb242,3,none⟩) (Kd.V_mono HO215.out (fun k_ hk=>(⟨hk,hk.1.2.2.2.2.2.2.2.2.2⟩:_∧k_≠gb242))) (fun _ hk=>hk.2) (.int .i64 5506)) (fun _ hk=>⟨hk.1.1.1,⟨hk.1.1.2.1,⟨hk.1.1.2.2.1,⟨hk.1.1.2.2.2.1,⟨hk.1.1.2.2.2.2.1,⟨hk.1.2,⟨hk.1.1.2.2.2.2.2.1,⟨hk.1.1.2.2.2.2.2.2.1,⟨hk.1.1.2.2.2.2.2.2.2.1,⟨hk.1.1.2.2.2.2.2.2.2.2.1,hk.1.1.2.2.2.2.2.2.2.2.2⟩⟩⟩⟩⟩⟩⟩⟩⟩⟩)⟩
          have n5_:Aside0 (Kd.S k104 104 (w113.setCell ⟨gb242,3,none⟩ (.int .i64 5506)) w.heap.size (fun k_=>some k_≠(.slice Ao73 t159.length co73:Value).ownBlock∧some k_≠(.slice Ao76 t172.length co76:Value).ownBlock∧some k_≠(.slice Ao81 t187.length co81:Value).ownBlock∧some k_≠(.slice Ao87 t202.length co87:Value).ownBlock∧some k_≠(.slice Ao112 t251.length co112:Value).ownBlock) (.slice Ao95 t226.length co95) t226):=⟨by(with_reducible repeat(first|apply Kd.S_alloc|apply Kd.S_drewN|apply Kd.S_drew));exact Kd.S_mono (Kd.S_far (p:=⟨gb242,3,none⟩) (Kd.S_types HO228.out BK242.out (by decide)) (fun _ hk=>hk.2) (.int .i64 5506)) (fun _ hk=>⟨hk.1.1.1,⟨hk.1.1.2.1,⟨hk.1.1.2.2.1,⟨hk.1.1.2.2.2,hk.1.2⟩⟩⟩⟩)⟩
          have n6_:Aside0 (Kd.V k104 104 (w113.setCell ⟨gb242,3,none⟩ (.int .i64 5506)) w.heap.size (fun k_=>some k_≠(.slice Ao73 t159.length co73:Value).ownBlock∧some k_≠(.slice Ao76 t172.length co76:Value).ownBlock∧some k_≠(.slice Ao81 t187.length co81:Value).ownBlock∧some k_≠(.slice Ao87 t202.length co87:Value).ownBlock∧some k_≠(.slice Ao95 t226.length co95:Value).ownBlock∧some k_≠(.slice Ao112 t251.length co112:Value).ownBlock∧k_≠gb178∧k_≠gb193∧k_≠gb217∧k_≠gb241∧k_≠gb242) (.slice Ao102 t237.length co102) t237):=⟨by(with_reducible repeat(first|apply Kd.V_alloc|apply Kd.V_drewN|apply Kd.V_drew));exact Kd.V_mono (Kd.V_far (p:=⟨gb242,3,none⟩) (Kd.V_mono HO239.out (fun k_ hk=>(⟨hk,hk.1.2.2.2.2.2.2.2.2.2⟩:_∧k_≠gb242))) (fun _ hk=>hk.2) (.int .i64 5506)) (fun _ hk=>⟨hk.1.1.1,⟨hk.1.1.2.1,⟨hk.1.1.2.2.1,⟨hk.1.1.2.2.2.1,⟨hk.1.1.2.2.2.2.1,⟨hk.1.2,⟨hk.1.1.2.2.2.2.2.1,⟨hk.1.1.2.2.2.2.2.2.1,⟨hk.1.1.2.2.2.2.2.2.2.1,⟨hk.1.1.2.2.2.2.2.2.2.2.1,hk.1.1.2.2.2.2.2.2.2.2.2⟩⟩⟩⟩⟩⟩⟩⟩⟩⟩)⟩
          have n7_:Aside0 (Kd.S k104 104 (w113.setCell ⟨gb242,3,none⟩ (.int .i64 5506)) w.heap.size (fun k_=>some k_≠(.slice Ao73 t159.length co73:Value).ownBlock∧some k_≠(.slice Ao76 t172.length co76:Value).ownBlock∧some k_≠(.slice Ao81 t187.length co81:Value).ownBlock∧some k_≠(.slice Ao87 t202.length co87:Value).ownBlock∧some k_≠(.slice Ao95 t226.length co95:Value).ownBlock) (.slice Ao112 t251.length co112) t251):=⟨by(with_reducible repeat(first|apply Kd.S_alloc|apply Kd.S_drewN|apply Kd.S_drew));exact Kd.S_mono (Kd.S_far (p:=⟨gb242,3,none⟩) (Kd.S_types HO253.out BK242.out (by decide)) (fun _ hk=>hk.2) (.int .i64 5506)) (fun _ hk=>⟨hk.1.1.1.1.1.2,⟨hk.1.1.1.1.2,⟨hk.1.1.1.2,⟨hk.1.1.2,hk.1.2⟩⟩⟩⟩)⟩
          have n8_:Aside0 ((w113.setCell ⟨gb242,3,none⟩ (.int .i64 5506)).heap[gb178]?=some (.cells #[.int .i64 t175,.int .i64 t176] 25 (0,0))):=⟨by(with_reducible repeat first|apply zd|apply ze|apply za);refine blk_far ?_ NB178_242.out _;(with_reducible repeat first|apply zd|apply ze|apply za);exact BK178.out⟩
          have n9_:Aside0 ((w113.setCell ⟨gb242,3,none⟩ (.int .i64 5506)).heap[gb193]?=some (.cells #[.int .i64 t190,.int .i64 t191] 25 (0,0))):=⟨by(with_reducible repeat first|apply zd|apply ze|apply za);refine blk_far ?_ NB193_242.out _;(with_reducible repeat first|apply zd|apply ze|apply za);exact BK193.out⟩
          have n10_:Aside0 ((w113.setCell ⟨gb242,3,none⟩ (.int .i64 5506)).heap[gb217]?=some (.cells #[.string t205,.int .i64 t206,.int .i64 t207,.int .i64 t208,.int .i64 t209,.int .i64 t210,.int .i64 t211,.int .i64 t212,.slice Ao93 t213.length co93] 28 (0,0))):=⟨by(with_reducible repeat first|apply zd|apply ze|apply za);refine blk_far ?_ NB217_242.out _;(with_reducible repeat first|apply zd|apply ze|apply za);exact BK217.out⟩
          have n11_:Aside0 ((w113.setCell ⟨gb242,3,none⟩ (.int .i64 5506)).heap[gb241]?=some (.cells #[.string t229,.int .i64 t230,.int .i64 t231,.int .i64 t232,.int .i64 t233,.int .i64 t234,.int .i64 t235,.int .i64 t236,.slice Ao102 t237.length co102] 28 (0,0))):=⟨by(with_reducible repeat first|apply zd|apply ze|apply za);refine blk_far ?_ NB241_242.out _;(with_reducible repeat first|apply zd|apply ze|apply za);exact BK241.out⟩
          have n12_:Aside0 ((w113.setCell ⟨gb242,3,none⟩ (.int .i64 5506)).heap[gb242]?=some (.cells #[.string (⟨#[87]⟩:ByteArray),.int .i64 0,.int .i64 0,.int .i64 5506,.int .i64 0,.int .i64 0,.int .i64 0,.int .i64 0,.slice none 0 0] 28 (0,0))):=⟨by(with_reducible repeat first|apply zd|apply ze|apply za);refine blk_put (cs:=#[.string (⟨#[87]⟩:ByteArray),.int .i64 0,.int .i64 0,.int .i64 5507,.int .i64 0,.int .i64 0,.int .i64 0,.int .i64 0,.slice none 0 0]) ?_ 3 _ rfl;(with_reducible repeat first|apply zd|apply ze|apply za);exact BK242.out⟩
          have n13_:Aside0 (Below w.heap.size w (w113.setCell ⟨gb242,3,none⟩ (.int .i64 5506))):=⟨by repeat(first|(with_reducible first|exact HB.out|apply zA|apply zD|apply zE|refine zS ?_ GE178.out|refine zS ?_ GE193.out|refine zS ?_ GE217.out|refine zS ?_ GE241.out|refine zS ?_ GE242.out)|exact HB.out)⟩
          (try clear HO161)
          (try clear HO174)
          (try clear HO189)
          (try clear HO204)
          (try clear HO215)
          (try clear HO228)
          (try clear HO239)
          (try clear HO253)
          (try clear BK178)
          (try clear BK193)
          (try clear BK217)
          (try clear BK241)
          (try clear BK242)
          (try clear HB)
          generalize (w113.setCell ⟨gb242,3,none⟩ (.int .i64 5506))=w115 at n0_ n1_ n2_ n3_ n4_ n5_ n6_ n7_ n8_ n9_ n10_ n11_ n12_ n13_ ⊢
          have HO161:=n0_
          have HO174:=n1_
          have HO189:=n2_
          have HO204:=n3_
          have HO215:=n4_
          have HO228:=n5_
          have HO239:=n6_
          have HO253:=n7_
          have BK178:=n8_
          have BK193:=n9_
          have BK217:=n10_
          have BK241:=n11_
          have BK242:=n12_
          have HB:=n13_
          clear n0_ n1_ n2_ n3_ n4_ n5_ n6_ n7_ n8_ n9_ n10_ n11_ n12_ n13_
          have n0_:=zm (Kd.S_drew HO161.out)
          have n1_:=zm (Kd.S_drew HO174.out)
          have n2_:=zm (Kd.S_drew HO189.out)
          have n3_:=zm (Kd.S_drew HO204.out)
          have n4_:=zm (Kd.V_drew HO215.out)
          have n5_:=zm (Kd.S_drew HO228.out)
          have n6_:=zm (Kd.V_drew HO239.out)
          have n7_:=zm (Kd.S_drew HO253.out)
          have n8_:=zm (ze BK178.out)
          have n9_:=zm (ze BK193.out)
          have n10_:=zm (ze BK217.out)
          have n11_:=zm (ze BK241.out)
          have n12_:=zm (ze BK242.out)
          have n13_:=zm (zE HB.out)
          clear HO161 HO174 HO189 HO204 HO215 HO228 HO239 HO253 BK178 BK193 BK217 BK241 BK242 HB
          have HO161:=n0_
          have HO174:=n1_
          have HO189:=n2_
          have HO204:=n3_
          have HO215:=n4_
          have HO228:=n5_
          have HO239:=n6_
          have HO253:=n7_
          have BK178:=n8_
          have BK193:=n9_
          have BK217:=n10_
          have BK241:=n11_
          have BK242:=n12_
          have HB:=n13_
          clear n0_ n1_ n2_ n3_ n4_ n5_ n6_ n7_ n8_ n9_ n10_ n11_ n12_ n13_
          refine start_ (n:=8) (S:=fun w'=>w'.cell? ⟨gb242,0,none⟩=some (.string (⟨#[87]⟩:ByteArray))∧w'.cell? ⟨gb242,1,none⟩=some (.int .i64 0)∧w'.cell? ⟨gb242,2,none⟩=some (.int .i64 0)∧w'.cell? ⟨gb242,3,none⟩=some (.int .i64 5506)∧w'.cell? ⟨gb242,4,none⟩=some (.int .i64 0)∧w'.cell? ⟨gb242,5,none⟩=some (.int .i64 0)∧w'.cell? ⟨gb242,6,none⟩=some (.int .i64 0)∧w'.cell? ⟨gb242,7,none⟩=some (.int .i64 0)∧w'.cell? ⟨gb242,8,none⟩=some (.slice none 0 0)) (ds:=[]) #[false,false,false,false,false,false,false,false] (by kernel_rfl) rfl rfl ⟨(blk_cell BK242.out 0).trans rfl,(blk_cell BK242.out 1).trans rfl,(blk_cell BK242.out 2).trans rfl,(blk_cell BK242.out 3).trans rfl,(blk_cell BK242.out 4).trans rfl,(blk_cell BK242.out 5).trans rfl,(blk_cell BK242.out 6).trans rfl,(blk_cell BK242.out 7).trans rfl,(blk_cell BK242.out 8).trans rfl⟩ (fun hHeld=>?_);refine with_tabW awk0.tab9 awk0.bits9 (fun HT_ HW_=>?_)
          generalize w115.drew=w116 at HO161 HO174 HO189 HO204 HO215 HO228 HO239 HO253 BK178 BK193 BK217 BK241 BK242 HB hHeld ⊢
          refine take_ (i:=1) (N:=some 57) (v:=?_) (a':=?_) #[false,true,false,false,false,false,false,false] rfl rfl (take_ofW HT_.out HW_.out (by kernel_rfl)) (fun _ _ _ h=>h) (Or.inl ⟨by rfl,?_⟩) hHeld ?_ ?_
          rotate_left
          ·rintro w' ⟨s0,s1,s2,s3,s4,s5,s6,s7,s8⟩
           go_simp
           with_reducible rfl
          rotate_left
          ·simp only[Act.put,zx,zy,zz,i64_w,i32_w]
           rfl
          refine one_ (i:=0) (N:=some 56) #[true,true,false,false,false,false,false,false] rfl rfl (one_of HT_.out (by kernel_rfl)) (by decide) (fun K hK=>?_)
          refine goes_ Try.func67 (by kernel_rfl) rfl #[] (by rfl) rfl rfl (by(try simp only[List.map_toArray,List.map_cons,List.map_nil]);first|done|rfl|(simp only[List.length_drop,List.length_take];rfl)) ?_
          with_reducible refine(ml_Hole.calls  t256 t257 t258 t259 t260 t261 t262 t263 t264 _ A13.out).mono ?_
          rintro e w117 ⟨v265,rfl,ho0,hb⟩
          refine⟨_,rfl,?_⟩
          have n0_:=zm (Kd.S_elder' (by(with_reducible repeat(first|apply Kd.S_alloc|apply Kd.S_drewN|apply Kd.S_drew));exact HO161.out) (Kd.S_base ho0) hb)
          have n1_:=zm (Kd.S_elder' (by(with_reducible repeat(first|apply Kd.S_alloc|apply Kd.S_drewN|apply Kd.S_drew));exact HO174.out) (Kd.S_base ho0) hb)
          have n2_:=zm (Kd.S_elder' (by(with_reducible repeat(first|apply Kd.S_alloc|apply Kd.S_drewN|apply Kd.S_drew));exact HO189.out) (Kd.S_base ho0) hb)
          have n3_:=zm (Kd.S_elder' (by(with_reducible repeat(first|apply Kd.S_alloc|apply Kd.S_drewN|apply Kd.S_drew));exact HO204.out) (Kd.S_base ho0) hb)
          have n4_:=zm (Kd.V_elder' (by(with_reducible repeat(first|apply Kd.V_alloc|apply Kd.V_drewN|apply Kd.V_drew));exact HO215.out) (Kd.S_base ho0) hb)
          have n5_:=zm (Kd.S_elder' (by(with_reducible repeat(first|apply Kd.S_alloc|apply Kd.S_drewN|apply Kd.S_drew));exact HO228.out) (Kd.S_base ho0) hb)
          have n6_:=zm (Kd.V_elder' (by(with_reducible repeat(first|apply Kd.V_alloc|apply Kd.V_drewN|apply Kd.V_drew));exact HO239.out) (Kd.S_base ho0) hb)
          have n7_:=zm (Kd.S_elder' (by(with_reducible repeat(first|apply Kd.S_alloc|apply Kd.S_drewN|apply Kd.S_drew));exact HO253.out) (Kd.S_base ho0) hb)
          have n8_:=zm (Kd.S_lower (Kd.S_new' (Kd.S_new' (Kd.S_new' (Kd.S_new' (Kd.S_new' (Kd.S_new' ho0 (Kd.S_lt (by(with_reducible repeat(first|apply Kd.S_alloc|apply Kd.S_drewN|apply Kd.S_drew));exact HO161.out))) (Kd.S_lt (by(with_reducible repeat(first|apply Kd.S_alloc|apply Kd.S_drewN|apply Kd.S_drew));exact HO174.out))) (Kd.S_lt (by(with_reducible repeat(first|apply Kd.S_alloc|apply Kd.S_drewN|apply Kd.S_drew));exact HO189.out))) (Kd.S_lt (by(with_reducible repeat(first|apply Kd.S_alloc|apply Kd.S_drewN|apply Kd.S_drew));exact HO204.out))) (Kd.S_lt (by(with_reducible repeat(first|apply Kd.S_alloc|apply Kd.S_drewN|apply Kd.S_drew));exact HO228.out))) (Kd.S_lt (by(with_reducible repeat(first|apply Kd.S_alloc|apply Kd.S_drewN|apply Kd.S_drew));exact HO253.out))) (below_size (by repeat(first|(with_reducible first|exact HB.out|apply zA|apply zD|apply zE|refine zS ?_ GE178.out|refine zS ?_ GE193.out|refine zS ?_ GE217.out|refine zS ?_ GE241.out|refine zS ?_ GE242.out)|exact HB.out))))
          have n9_:=zm (zb (g:=gb178) (by(with_reducible repeat first|apply zd|apply ze|apply za);exact BK178.out) hb)
          have n10_:=zm (zb (g:=gb193) (by(with_reducible repeat first|apply zd|apply ze|apply za);exact BK193.out) hb)
          have n11_:=zm (zb (g:=gb217) (by(with_reducible repeat first|apply zd|apply ze|apply za);exact BK217.out) hb)
          have n12_:=zm (zb (g:=gb241) (by(with_reducible repeat first|apply zd|apply ze|apply za);exact BK241.out) hb)
          have n13_:=zm (zb (g:=gb242) (o:=.cells #[.string (⟨#[87]⟩:ByteArray),.int .i64 0,.int .i64 0,.int .i64 5506,.int .i64 0,.int .i64 0,.int .i64 0,.int .i64 0,.slice none 0 0] 28 (0,0)) (by(with_reducible repeat first|apply zd|apply ze|apply za);exact BK242.out) hb)
          have n14_:=zm (below_step (by repeat(first|(with_reducible first|exact HB.out|apply zA|apply zD|apply zE|refine zS ?_ GE178.out|refine zS ?_ GE193.out|refine zS ?_ GE217.out|refine zS ?_ GE241.out|refine zS ?_ GE242.out)|exact HB.out)) hb)
          clear HO161 HO174 HO189 HO204 HO215 HO228 HO239 HO253 BK178 BK193 BK217 BK241 BK242 HB
          have HO161:=n0_
          have HO174:=n1_
          have HO189:=n2_
          have HO204:=n3_
          have HO215:=n4_
          have HO228:=n5_
          have HO239:=n6_
          have HO253:=n7_
          have HO266:=n8_
          have BK178:=n9_
          have BK193:=n10_
          have BK217:=n11_
          have BK241:=n12_
          have BK242:=n13_
          have HB:=n14_
          clear n0_ n1_ n2_ n3_ n4_ n5_ n6_ n7_ n8_ n9_ n10_ n11_ n12_ n13_ n14_
          (try clear hb)
          (try clear hb2)
          (try clear hk)
          (try clear hi)
          (try clear ho0)
          obtain⟨Ao118,co118,eo118⟩:=Kd.S_slice HO266.out
          (first|subst eo118|(injection eo118 with f1_ f2_ f3_;have f4_:=f1_.symm;have f5_:=f3_.symm;clear f1_ f2_ f3_;subst f4_;subst f5_))
          refine hK.out _ _ ⟨(blk_cell BK242.out 0).trans rfl,(blk_cell BK242.out 1).trans rfl,(blk_cell BK242.out 2).trans rfl,(blk_cell BK242.out 3).trans rfl,(blk_cell BK242.out 4).trans rfl,(blk_cell BK242.out 5).trans rfl,(blk_cell BK242.out 6).trans rfl,(blk_cell BK242.out 7).trans rfl,(blk_cell BK242.out 8).trans rfl⟩ (fun hHeld=>?_)
          clear hK K
          refine norm_ (a':=?_) ?_ ?_
          rotate_left
          ·show Act.put _ (some 56) _=_
           simp only[Act.put,zx,zy,zz,i64_w,i32_w]
           rfl
          refine one_ (i:=2) (N:=some 58) #[true,true,true,false,false,false,false,false] rfl rfl (one_of HT_.out (by kernel_rfl)) (by decide) (fun K hK=>?_)
          refine goes_ Try.func21 (by kernel_rfl) rfl #[.agg #[.string t256,.int .i64 t257,.int .i64 t258,.int .i64 t259,.int .i64 t260,.int .i64 t261,.int .i64 t262,.int .i64 t263,.slice Ao118 t264.length co118],.agg #[.string (⟨#[87]⟩:ByteArray),.int .i64 0,.int .i64 0,.int .i64 5506,.int .i64 0,.int .i64 0,.int .i64 0,.int .i64 0,.slice none 0 0]] (by rfl) rfl rfl (by(try simp only[List.map_toArray,List.map_cons,List.map_nil]);first|done|rfl|(simp only[List.length_drop,List.length_take];rfl)) ?_
          refine(fe_Separate.calls k t256 t257 t258 t259 t260 t261 t262 t263 (fun k_=>(((((((((((True∧some k_≠(.slice Ao73 t159.length co73:Value).ownBlock)∧some k_≠(.slice Ao76 t172.length co76:Value).ownBlock)∧some k_≠(.slice Ao81 t187.length co81:Value).ownBlock)∧some k_≠(.slice Ao87 t202.length co87:Value).ownBlock)∧some k_≠(.slice Ao95 t226.length co95:Value).ownBlock)∧some k_≠(.slice Ao112 t251.length co112:Value).ownBlock)∧k_≠gb178)∧k_≠gb193)∧k_≠gb217)∧k_≠gb241)∧k_≠gb242)) _ _ t264 (⟨#[87]⟩:ByteArray) 0 0 5506 0 0 0 0 (fun k_=>False) _ _ ([]:List (S104)) false t268 _ ?side1 ?side2 A14.out).mono ?_
          (case side1=>exact Kd.S_V (Kd.S_types (Kd.S_types (Kd.S_types (Kd.S_types (Kd.S_types (HO266.out) BK178.out (by decide)) BK193.out (by decide)) BK217.out (by decide)) BK241.out (by decide)) BK242.out (by decide)))
          (case side2=>exact Kd.V_nil _ _ _ _ _)
          rintro e w119 ⟨rfl,hb⟩
          refine⟨_,rfl,?_⟩
          have n0_:=zm (Kd.S_below (by(with_reducible repeat(first|apply Kd.S_alloc|apply Kd.S_drewN|apply Kd.S_drew));exact HO161.out) hb)
          have n1_:=zm (Kd.S_below (by(with_reducible repeat(first|apply Kd.S_alloc|apply Kd.S_drewN|apply Kd.S_drew));exact HO174.out) hb)
          have n2_:=zm (Kd.S_below (by(with_reducible repeat(first|apply Kd.S_alloc|apply Kd.S_drewN|apply Kd.S_drew));exact HO189.out) hb)
          have n3_:=zm (Kd.S_below (by(with_reducible repeat(first|apply Kd.S_alloc|apply Kd.S_drewN|apply Kd.S_drew));exact HO204.out) hb)
          have n4_:=zm (Kd.V_below (by(with_reducible repeat(first|apply Kd.V_alloc|apply Kd.V_drewN|apply Kd.V_drew));exact HO215.out) hb)
          have n5_:=zm (Kd.S_below (by(with_reducible repeat(first|apply Kd.S_alloc|apply Kd.S_drewN|apply Kd.S_drew));exact HO228.out) hb)
          have n6_:=zm (Kd.V_below (by(with_reducible repeat(first|apply Kd.V_alloc|apply Kd.V_drewN|apply Kd.V_drew));exact HO239.out) hb)
          have n7_:=zm (Kd.S_below (by(with_reducible repeat(first|apply Kd.S_alloc|apply Kd.S_drewN|apply Kd.S_drew));exact HO253.out) hb)
          have n8_:=zm (Kd.S_below (by(with_reducible repeat(first|apply Kd.S_alloc|apply Kd.S_drewN|apply Kd.S_drew));exact HO266.out) hb)
          have n9_:=zm (zb (g:=gb178) (by(with_reducible repeat first|apply zd|apply ze|apply za);exact BK178.out) hb)
          have n10_:=zm (zb (g:=gb193) (by(with_reducible repeat first|apply zd|apply ze|apply za);exact BK193.out) hb)
          have n11_:=zm (zb (g:=gb217) (by(with_reducible repeat first|apply zd|apply ze|apply za);exact BK217.out) hb)
          have n12_:=zm (zb (g:=gb241) (by(with_reducible repeat first|apply zd|apply ze|apply za);exact BK241.out) hb)
          have n13_:=zm (zb (g:=gb242) (o:=.cells #[.string (⟨#[87]⟩:ByteArray),.int .i64 0,.int .i64 0,.int .i64 5506,.int .i64 0,.int .i64 0,.int .i64 0,.int .i64 0,.slice none 0 0] 28 (0,0)) (by(with_reducible repeat first|apply zd|apply ze|apply za);exact BK242.out) hb)
          have n14_:=zm (below_step (by repeat(first|(with_reducible first|exact HB.out|apply zA|apply zD|apply zE|refine zS ?_ GE178.out|refine zS ?_ GE193.out|refine zS ?_ GE217.out|refine zS ?_ GE241.out|refine zS ?_ GE242.out)|exact HB.out)) hb)
          clear HO161 HO174 HO189 HO204 HO215 HO228 HO239 HO253 HO266 BK178 BK193 BK217 BK241 BK242 HB
          have HO161:=n0_
          have HO174:=n1_
          have HO189:=n2_
          have HO204:=n3_
          have HO215:=n4_
          have HO228:=n5_
          have HO239:=n6_
          have HO253:=n7_
          have HO266:=n8_
          have BK178:=n9_
          have BK193:=n10_
          have BK217:=n11_
          have BK241:=n12_
          have BK242:=n13_
          have HB:=n14_
          clear n0_ n1_ n2_ n3_ n4_ n5_ n6_ n7_ n8_ n9_ n10_ n11_ n12_ n13_ n14_
          (try clear hb)
          (try clear hb2)
          (try clear hk)
          (try clear hi)
          refine hK.out _ _ ⟨(blk_cell BK242.out 0).trans rfl,(blk_cell BK242.out 1).trans rfl,(blk_cell BK242.out 2).trans rfl,(blk_cell BK242.out 3).trans rfl,(blk_cell BK242.out 4).trans rfl,(blk_cell BK242.out 5).trans rfl,(blk_cell BK242.out 6).trans rfl,(blk_cell BK242.out 7).trans rfl,(blk_cell BK242.out 8).trans rfl⟩ (fun hHeld=>?_)
          clear hK K
          refine norm_ (a':=?_) ?_ ?_
          rotate_left
          ·show Act.put _ (some 58) _=_
           simp only[Act.put,zx,zy,zz,i64_w,i32_w]
           rfl
          refine pure_ (i:=3) (N:=some 55) (v:=?_) (a':=?_) #[true,true,true,true,false,false,false,false] rfl rfl (any_of HT_.out (by kernel_rfl)) (fun _ _ _ h=>h) (Or.inl ⟨by rfl,?_⟩) ?_ ?_
          rotate_left
          ·intro w'
           go_simp
           with_reducible rfl
          rotate_left
          ·simp only[Act.put,zx,zy,zz,i64_w,i32_w]
           rfl
          refine pure_ (i:=4) (N:=some 59) (v:=?_) (a':=?_) #[true,true,true,true,true,false,false,false] rfl rfl (any_of HT_.out (by kernel_rfl)) (fun _ _ _ h=>h) (Or.inl ⟨by rfl,?_⟩) ?_ ?_
          rotate_left
          ·intro w'
           go_simp
           with_reducible rfl
          rotate_left
          ·simp only[Act.put,zx,zy,zz,i64_w,i32_w]
           rfl
          refine pure_ (i:=5) (N:=some 60) (v:=?_) (a':=?_) #[true,true,true,true,true,true,false,false] rfl rfl (any_of HT_.out (by kernel_rfl)) (fun _ _ _ h=>h) (Or.inl ⟨by rfl,?_⟩) ?_ ?_
          rotate_left
          ·intro w'
           go_simp
           with_reducible rfl
          rotate_left
          ·simp only[Act.put,zx,zy,zz,i64_w,i32_w]
           rfl
          refine pure_ (i:=6) (N:=some 14) (v:=?_) (a':=?_) #[true,true,true,true,true,true,true,false] rfl rfl (any_of HT_.out (by kernel_rfl)) (fun _ _ _ h=>h) (Or.inl ⟨by rfl,?_⟩) ?_ ?_
          rotate_left
          ·intro w'
           go_simp
           with_reducible rfl
          rotate_left
          ·simp only[Act.put,zx,zy,zz,i64_w,i32_w]
           rfl
          refine pure_ (i:=7) (N:=some 15) (v:=?_) (a':=?_) #[true,true,true,true,true,true,true,true] rfl rfl (any_of HT_.out (by kernel_rfl)) (fun _ _ _ h=>h) (Or.inl ⟨by rfl,?_⟩) ?_ ?_
          rotate_left
          ·intro w'
           go_simp
           with_reducible rfl
          rotate_left
          ·simp only[Act.put,zx,zy,zz,i64_w,i32_w]
           rfl
          refine done_ (done_of HT_.out (by kernel_rfl)) ?_
          have hcz120_0:=zc BK178.out 0 (.int .i64 t175) rfl
          have hcz120_1:=zc BK178.out 1 (.int .i64 t176) rfl
          have hfz120_0:=zf BK178.out 0
          have hfz120_1:=zf BK178.out 1
          have hcz121_0:=zc BK217.out 0 (.string t205) rfl
          have hcz121_1:=zc BK217.out 1 (.int .i64 t206) rfl
          have hcz121_2:=zc BK217.out 2 (.int .i64 t207) rfl
          have hcz121_3:=zc BK217.out 3 (.int .i64 t208) rfl
          have hcz121_4:=zc BK217.out 4 (.int .i64 t209) rfl
          have hcz121_5:=zc BK217.out 5 (.int .i64 t210) rfl
          have hcz121_6:=zc BK217.out 6 (.int .i64 t211) rfl
          have hcz121_7:=zc BK217.out 7 (.int .i64 t212) rfl
          have hcz121_8:=zc BK217.out 8 (.slice Ao93 t213.length co93) rfl
          have hfz121_0:=zf BK217.out 0
          have hfz121_1:=zf BK217.out 1
          have hfz121_2:=zf BK217.out 2
          have hfz121_3:=zf BK217.out 3
          have hfz121_4:=zf BK217.out 4
          have hfz121_5:=zf BK217.out 5
          have hfz121_6:=zf BK217.out 6
          have hfz121_7:=zf BK217.out 7
          have hfz121_8:=zf BK217.out 8
          have hcz122_0:=zc BK241.out 0 (.string t229) rfl
          have hcz122_1:=zc BK241.out 1 (.int .i64 t230) rfl
          have hcz122_2:=zc BK241.out 2 (.int .i64 t231) rfl
          have hcz122_3:=zc BK241.out 3 (.int .i64 t232) rfl
          have hcz122_4:=zc BK241.out 4 (.int .i64 t233) rfl
          have hcz122_5:=zc BK241.out 5 (.int .i64 t234) rfl
          have hcz122_6:=zc BK241.out 6 (.int .i64 t235) rfl
          have hcz122_7:=zc BK241.out 7 (.int .i64 t236) rfl
          have hcz122_8:=zc BK241.out 8 (.slice Ao102 t237.length co102) rfl
          have hfz122_0:=zf BK241.out 0
          have hfz122_1:=zf BK241.out 1
          have hfz122_2:=zf BK241.out 2
          have hfz122_3:=zf BK241.out 3
          have hfz122_4:=zf BK241.out 4
          have hfz122_5:=zf BK241.out 5
          have hfz122_6:=zf BK241.out 6
          have hfz122_7:=zf BK241.out 7
          have hfz122_8:=zf BK241.out 8
          try go_wp2
          go_ret
          exact⟨by first|rfl|(simp[errW_none,errW_some]<;>rfl)|(simp[*,errW_none,errW_some]<;>rfl),by repeat(first|(with_reducible first|exact HB.out|apply zA|apply zD|apply zE|refine zS ?_ GE178.out|refine zS ?_ GE193.out|refine zS ?_ GE217.out|refine zS ?_ GE241.out|refine zS ?_ GE242.out)|exact HB.out)⟩
         ·rw[if_neg c71] at H
          exact absurd ((Option.some.inj H).trans HRT.out) (by decide)
        ·rw[if_neg c70] at H
         exact absurd ((Option.some.inj H).trans HRT.out) (by decide)
       ·rw[if_neg c69] at H
        exact absurd ((Option.some.inj H).trans HRT.out) (by decide)
      ·rw[if_neg c68] at H
       exact absurd ((Option.some.inj H).trans HRT.out) (by decide)
    ·rw[if_neg c18] at H
     exact absurd ((Option.some.inj H).trans HRT.out) (by decide)
   ·rw[if_neg c17] at H
    exact absurd ((Option.some.inj H).trans HRT.out) (by decide)
  ·rw[if_neg c16] at H
   exact absurd ((Option.some.inj H).trans HRT.out) (by decide)
 ·rw[if_neg c15] at H
  exact absurd ((Option.some.inj H).trans HRT.out) (by decide)
end Go.Proofs.Ytkgdlbepjmgaiaa.Fea
namespace Go.Proofs.Ytkgdlbepjmgaiaa.Fea
open Go.RowKit YtkgdlbepjmgaiaaW.PrintWords YtkgdlbepjmgaiaaW.PrintLast YtkgdlbepjmgaiaaW.PrintMore
set_option maxRecDepth 100000 in
theorem awk0_val:awk0.f 100=some true:=by kernel_rfl
theorem awake_calls (w:World):Calls Try.prog 18 #[] w fun e w'=>e=.returned (.bool true)∧Below w.heap.size w w':=awk0.calls 100 true w rfl awk0_val
end Go.Proofs.Ytkgdlbepjmgaiaa.Fea
namespace Go.Proofs.Ytkgdlbepjmgaiaa.Fea
open Go.RowKit YtkgdlbepjmgaiaaW.PrintWords YtkgdlbepjmgaiaaW.PrintLast YtkgdlbepjmgaiaaW.PrintMore
attribute [local go_sem] max2_int min2_int max_two min_two max_three min_three max_four min_four
def ml_awake.f:Option (Bool):=some true
theorem ml_awake.calls (r:Bool) (w:World) (h:ml_awake.f=some r):
    Calls Try.prog 18 #[] w fun e w'=>e=.returned (.bool r)∧Below w.heap.size w w':=by
  obtain rfl:=Option.some.inj h
  exact awake_calls w
end Go.Proofs.Ytkgdlbepjmgaiaa.Fea
namespace Go.Proofs.Ytkgdlbepjmgaiaa.Fea
open Go.RowKit YtkgdlbepjmgaiaaW.PrintWords YtkgdlbepjmgaiaaW.PrintLast YtkgdlbepjmgaiaaW.PrintMore
theorem heap3Mira (w:World) (o o' o2:Obj):(((w.alloc o).alloc o').alloc o2).heap[w.heap.size]?=some o:=blk_alloc (heap2o w o o') o2
theorem heap3Mirb (w:World) (o o' o2:Obj):(((w.alloc o).alloc o').alloc o2).heap[w.heap.size+1]?=some o':=blk_alloc (heap2 w o o') o2
theorem heap3Mirc (w:World) (o o' o2:Obj):(((w.alloc o).alloc o').alloc o2).heap[w.heap.size+2]?=some o2:=by
  have h:=blk_new ((w.alloc o).alloc o') o2
  have e:((w.alloc o).alloc o').heap.size=w.heap.size+2:=by
    show ((w.heap.push o).push o').size=_
    rw[Array.size_push,Array.size_push]
  rwa[e] at h
theorem bel3Mir (w:World) (o o' o2:Obj):Below w.heap.size w (((w.alloc o).alloc o').alloc o2):=below_alloc (bel2 w o o') _
set_option maxHeartbeats 16000000 in
set_option maxRecDepth 100000 in
theorem mirror_bad (nm:ByteArray) (k ax x y z lo hi:Int) (A:Option Addr) (c:Nat) (l:List S104) (a:Int) (w:World) (hr:Kd.C k104 w A l.length l) (hc:l.length≤c) (hne:alongV nm k ax x y z lo hi a≠0):
    Calls Try.prog 47 #[.agg (ftV nm k ax x y z lo hi A l.length c),.int .i64 a] w fun e w'=>∃ v8_:Value,e=.returned (.tuple #[.agg (ftU ⟨#[]⟩ 0 0 0 0 0 0 0 v8_),.int .i64 (alongV nm k ax x y z lo hi a)])∧Kd.V k104 104 w' w.heap.size (fun k_=>w.heap.size≤k_) v8_ []∧Below w.heap.size w w':=by
  have hu28:=Try.underlying28
  have hu23:=Try.underlying23
  obtain⟨kk,hkk⟩:=(along_ev nm k ax x y z lo hi l a).rounds
  have HR:=Aside0.mk hr
  clear hr
  have n0:(alongV nm k ax x y z lo hi a==0)=false:=beq_eq_false_iff_ne.2 hne
  have n1:(alongV nm k ax x y z lo hi a != 0)=true:=bne_iff_ne.2 hne
  generalize alongV nm k ax x y z lo hi a=er at *
  clear hne
  go_enter Try.func47,Try.ntmps47
  go_upto_region 1 with (fail)
  have h0:=heap3Mira w (.cells (ftV nm k ax x y z lo hi A l.length c) 28) (.cells #[.int .i64 a] 3) (.cells ft0 28)
  have h1:=heap3Mirb w (.cells (ftV nm k ax x y z lo hi A l.length c) 28) (.cells #[.int .i64 a] 3) (.cells ft0 28)
  have h2:=heap3Mirc w (.cells (ftV nm k ax x y z lo hi A l.length c) 28) (.cells #[.int .i64 a] 3) (.cells ft0 28)
  have hB:=bel3Mir w (.cells (ftV nm k ax x y z lo hi A l.length c) 28) (.cells #[.int .i64 a] 3) (.cells ft0 28)
  generalize ((w.alloc (.cells (ftV nm k ax x y z lo hi A l.length c) 28)).alloc (.cells #[.int .i64 a] 3)).alloc (.cells ft0 28)=W1 at *
  have c0:=(blk_cell h0 0).trans (rfl:_=some (Value.string nm))
  have c1:=(blk_cell h0 1).trans (rfl:_=some (Value.int .i64 k))
  have c2:=(blk_cell h0 2).trans (rfl:_=some (Value.int .i64 ax))
  have c3:=(blk_cell h0 3).trans (rfl:_=some (Value.int .i64 x))
  have c4:=(blk_cell h0 4).trans (rfl:_=some (Value.int .i64 y))
  have c5:=(blk_cell h0 5).trans (rfl:_=some (Value.int .i64 z))
  have c6:=(blk_cell h0 6).trans (rfl:_=some (Value.int .i64 lo))
  have c7:=(blk_cell h0 7).trans (rfl:_=some (Value.int .i64 hi))
  have c8:=(blk_cell h0 8).trans (rfl:_=some (Value.slice A l.length c))
  have b0:=(blk_cell h1 0).trans (rfl:_=some (Value.int .i64 a))
  go_wp2_with (first|((with_reducible refine gate_store (t:=28) (p:=4) rfl ?_);refine wpList_store_row rfl 28 (.tmp 4) (.tmp 12) rfl (w.heap.size+2) ft0 rfl rfl 28 ft0 g2 (by kernel_rfl) rfl (by simp[Value.oneCell']) ?_)|(go_at_call 68;refine(fe_along.calls kk nm k ax x y z lo hi A c l a _ _ (Kd.C_below HR.out (by first|exact hB|exact hB)) hc hkk).mono ?_;rintro e w' ⟨rfl,hb⟩;have g0:=blk_below h0 hb;have g1:=blk_below h1 hb;have g2:=blk_below h2 hb;have gB:=below_step hB hb;clear hb c0 c1 c2 c3 c4 c5 c6 c7 c8 b0;have HG:=Aside0.mk g2))
  refine bodyPost_ret (results_ct rfl _ _ (w.heap.size+2) 28 ft0 (0,0) _ rfl (row_new g2) Try.underlying28 rfl (by kernel_rfl)) rfl ?_
  refine⟨.slice none 0 0,rfl,Kd.V_nil _ _ _ _ _,row_bel gB (by omega)⟩
theorem eg96:∀ args w,(callFunc 96 args).run Try.prog w=.ok (.enter 96 args) w:=enters_of Try.func96 (by kernel_rfl) rfl
set_option maxHeartbeats 16000000 in
set_option maxRecDepth 100000 in
theorem mirror_ok (nm:ByteArray) (k ax x y z lo hi:Int) (A:Option Addr) (c:Nat) (l:List S104) (a:Int) (w:World) (hr:Kd.C k104 w A l.length l) (hc:l.length≤c) (hsm:small l=true) (hok:alongV nm k ax x y z lo hi a=0):
    Calls Try.prog 47 #[.agg (ftV nm k ax x y z lo hi A l.length c),.int .i64 a] w fun e w'=>∃ v8_:Value,e=.returned (.tuple #[.agg (ftU nm k ax (mir3 x y z a).1 (mir3 x y z a).2.1 (mir3 x y z a).2.2 lo hi v8_),.int .i64 0])∧Kd.V k104 104 w' w.heap.size (fun k_=>w.heap.size≤k_) v8_ l∧Below w.heap.size w w':=by
  have hu28:=Try.underlying28
  have hu23:=Try.underlying23
  obtain⟨kk,hkk⟩:=(along_ev nm k ax x y z lo hi l a).rounds
  have HR:=Aside0.mk hr
  clear hr
  obtain⟨hch,h3⟩:=alongV_ok.1 hok
  obtain⟨_,hq⟩:=chkF_ok.1 hch
  rw[hok] at hkk
  have HQ:=Aside0.mk hq
  have H3:=Aside0.mk h3
  have HS:=Aside0.mk hsm
  clear hq h3 hok hch hsm
  generalize he:mir3 x y z a=p at *
  have HE:=Aside0.mk he
  clear he
  go_enter Try.func47,Try.ntmps47
  go_upto_region 1 with (fail)
  have h0:=heap3Mira w (.cells (ftV nm k ax x y z lo hi A l.length c) 28) (.cells #[.int .i64 a] 3) (.cells ft0 28)
  have h1:=heap3Mirb w (.cells (ftV nm k ax x y z lo hi A l.length c) 28) (.cells #[.int .i64 a] 3) (.cells ft0 28)
  have h2:=heap3Mirc w (.cells (ftV nm k ax x y z lo hi A l.length c) 28) (.cells #[.int .i64 a] 3) (.cells ft0 28)
  have hB:=bel3Mir w (.cells (ftV nm k ax x y z lo hi A l.length c) 28) (.cells #[.int .i64 a] 3) (.cells ft0 28)
  generalize ((w.alloc (.cells (ftV nm k ax x y z lo hi A l.length c) 28)).alloc (.cells #[.int .i64 a] 3)).alloc (.cells ft0 28)=W1 at *
  have c0:=(blk_cell h0 0).trans (rfl:_=some (Value.string nm))
  have c1:=(blk_cell h0 1).trans (rfl:_=some (Value.int .i64 k))
  have c2:=(blk_cell h0 2).trans (rfl:_=some (Value.int .i64 ax))
  have c3:=(blk_cell h0 3).trans (rfl:_=some (Value.int .i64 x))
  have c4:=(blk_cell h0 4).trans (rfl:_=some (Value.int .i64 y))
  have c5:=(blk_cell h0 5).trans (rfl:_=some (Value.int .i64 z))
  have c6:=(blk_cell h0 6).trans (rfl:_=some (Value.int .i64 lo))
  have c7:=(blk_cell h0 7).trans (rfl:_=some (Value.int .i64 hi))
  have c8:=(blk_cell h0 8).trans (rfl:_=some (Value.slice A l.length c))
  have b0:=(blk_cell h1 0).trans (rfl:_=some (Value.int .i64 a))
  go_wp2_with (first|(go_at_call 68;refine(fe_along.calls kk nm k ax x y z lo hi A c l a _ _ (Kd.C_below HR.out (by first|exact hB|exact hB)) hc hkk).mono ?_;rintro e w' ⟨rfl,hb⟩;have g0:=blk_below h0 hb;have g1:=blk_below h1 hb;have g2:=blk_below h2 hb;have gB:=below_step hB hb;clear hb h0 h1 h2 hB c0 c1 c2 c3 c4 c5 c6 c7 c8 b0;have c0:=(blk_cell g0 0).trans (rfl:_=some (Value.string nm));have c1:=(blk_cell g0 1).trans (rfl:_=some (Value.int .i64 k));have c2:=(blk_cell g0 2).trans (rfl:_=some (Value.int .i64 ax));have c3:=(blk_cell g0 3).trans (rfl:_=some (Value.int .i64 x));have c4:=(blk_cell g0 4).trans (rfl:_=some (Value.int .i64 y));have c5:=(blk_cell g0 5).trans (rfl:_=some (Value.int .i64 z));have c6:=(blk_cell g0 6).trans (rfl:_=some (Value.int .i64 lo));have c7:=(blk_cell g0 7).trans (rfl:_=some (Value.int .i64 hi));have c8:=(blk_cell g0 8).trans (rfl:_=some (Value.slice A l.length c));have HW:=Aside0.mk gB;have hcall:=placed_calls 96 #[.pointer (some ⟨w.heap.size+1,0,none⟩)] eg96 nm k ax x y z lo hi A c l p.1 p.2.1 p.2.2 w' (Kd.C_below HR.out gB) hc HS.out (fun W hW=>by have:=mir1_calls (w.heap.size+1) x y z a W H3.out (cell_on hW ((blk_cell g1 0).trans (rfl:_=some (Value.int .i64 a)))) HQ.out.x1 HQ.out.y1 HQ.out.z1;rw[HE.out] at this;exact this)))
  refine hcall.mono ?_
  clear hcall
  rintro e w2 ⟨A',c',rfl,hle,hF,hb⟩
  have e2:=blk_below g2 hb
  have eB:=below_step gB hb
  have hgs:w.heap.size+3≤w'.heap.size:=(Array.getElem?_eq_some_iff.1 g2).1
  have HF:=Aside0.mk hF
  clear hF hb g0 g1 g2 c0 c1 c2 c3 c4 c5 c6 c7 c8
  go_wp2_with ((with_reducible refine gate_store (t:=28) (p:=4) rfl ?_);refine wpList_store_row rfl 28 (.tmp 4) (.tmp 16) rfl (w.heap.size+2) (ftV nm k ax p.1 p.2.1 p.2.2 lo hi A' l.length c') rfl rfl 28 ft0 e2 (by kernel_rfl) rfl (by simp[Value.oneCell']) ?_)
  refine bodyPost_ret (results_ct rfl _ _ (w.heap.size+2) 28 (ftV nm k ax p.1 p.2.1 p.2.2 lo hi A' l.length c') (0,0) _ rfl (row_new e2) Try.underlying28 rfl (by kernel_rfl)) rfl ?_
  refine⟨.slice A' l.length c',rfl,⟨A',c',rfl,hle,?_⟩,row_bel eB (by omega)⟩
  refine Kd.F_mono (ok:=fun k=>w'.heap.size≤k) ?_ (fun k hk=>by omega)
  exact Kd.F_step HF.out (fun k hk _=>row_far (by omega))
end Go.Proofs.Ytkgdlbepjmgaiaa.Fea
namespace Go.Proofs.Ytkgdlbepjmgaiaa.Fea
open Go.RowKit YtkgdlbepjmgaiaaW.PrintWords YtkgdlbepjmgaiaaW.PrintLast YtkgdlbepjmgaiaaW.PrintMore
attribute [local go_sem] max2_int min2_int max_two min_two max_three min_three max_four min_four
def fe_Mirror.f (a0_0:ByteArray) (a0_1 a0_2 a0_3 a0_4 a0_5 a0_6 a0_7:Int) (l0_8:List (S104)) (a1:Int):Option (ByteArray×Int×Int×Int×Int×Int×Int×Int×(List (S104))×Int):=if small l0_8=true then some (if alongV a0_0 a0_1 a0_2 a0_3 a0_4 a0_5 a0_6 a0_7 a1=0 then(a0_0,a0_1,a0_2,(mir3 a0_3 a0_4 a0_5 a1).1,(mir3 a0_3 a0_4 a0_5 a1).2.1,(mir3 a0_3 a0_4 a0_5 a1).2.2,a0_6,a0_7,l0_8,(0:Int)) else((⟨#[]⟩:ByteArray),(0:Int),(0:Int),(0:Int),(0:Int),(0:Int),(0:Int),(0:Int),([]:List (S104)),alongV a0_0 a0_1 a0_2 a0_3 a0_4 a0_5 a0_6 a0_7 a1)) else none
theorem fe_Mirror.calls (a0_0:ByteArray) (a0_1 a0_2 a0_3 a0_4 a0_5 a0_6 a0_7:Int) (A0_8:Option Addr) (c0_8:Nat) (l0_8:List (S104)) (a1:Int) (r1:ByteArray) (r2 r3 r4 r5 r6 r7 r8:Int) (r9:List (S104)) (r10:Int) (w:World) (hr0_8:Kd.C k104 w A0_8 l0_8.length l0_8) (hc0_8:l0_8.length≤c0_8) (h:fe_Mirror.f a0_0 a0_1 a0_2 a0_3 a0_4 a0_5 a0_6 a0_7 l0_8 a1=some (r1,r2,r3,r4,r5,r6,r7,r8,r9,r10)):
    Calls Try.prog 47 #[.agg #[.string a0_0,.int .i64 a0_1,.int .i64 a0_2,.int .i64 a0_3,.int .i64 a0_4,.int .i64 a0_5,.int .i64 a0_6,.int .i64 a0_7,.slice A0_8 l0_8.length c0_8],.int .i64 a1] w fun e w'=>∃ v8_:Value,e=.returned (.tuple #[.agg #[.string r1,.int .i64 r2,.int .i64 r3,.int .i64 r4,.int .i64 r5,.int .i64 r6,.int .i64 r7,.int .i64 r8,v8_],.int .i64 r10])∧Kd.V k104 104 w' w.heap.size (fun k_=>w.heap.size≤k_) v8_ r9∧Below w.heap.size w w':=by
  unfold fe_Mirror.f at h
  split at h
  case isFalse=>cases h
  rename_i hsm
  replace h:=Option.some.inj h
  split at h
  · rename_i g
    simp only[Prod.mk.injEq] at h
    obtain⟨rfl,rfl,rfl,rfl,rfl,rfl,rfl,rfl,rfl,rfl⟩:=h
    exact mirror_ok a0_0 a0_1 a0_2 a0_3 a0_4 a0_5 a0_6 a0_7 A0_8 c0_8 l0_8 a1 w hr0_8 hc0_8 hsm g
  · rename_i g
    simp only[Prod.mk.injEq] at h
    obtain⟨rfl,rfl,rfl,rfl,rfl,rfl,rfl,rfl,rfl,rfl⟩:=h
    exact mirror_bad a0_0 a0_1 a0_2 a0_3 a0_4 a0_5 a0_6 a0_7 A0_8 c0_8 l0_8 a1 w hr0_8 hc0_8 g
end Go.Proofs.Ytkgdlbepjmgaiaa.Fea
namespace Go.Proofs.Ytkgdlbepjmgaiaa.Fea
open Go.RowKit YtkgdlbepjmgaiaaW.PrintWords YtkgdlbepjmgaiaaW.PrintLast YtkgdlbepjmgaiaaW.PrintMore
def stp (i j:Nat) (x b:Int):Int:=if j < i then wrap64 (x+b) else x
set_option maxHeartbeats 8000000 in
set_option maxRecDepth 100000 in
theorem move1_calls (bb:Nat) (x y z bx by_ bz:Int) (W:World) (hb0:W.heap[bb]?=some (.cells (v3 bx by_ bz) 23 (0,0))):
    Calls Try.prog 102 (#[.agg (v3 x y z)]++#[.pointer (some ⟨bb,0,none⟩)]) W fun e w'=>e=.returned (.agg (v3 (wrap64 (x+bx)) (wrap64 (y+by_)) (wrap64 (z+bz))))∧Below W.heap.size W w':=by
  have hu128:=Try.underlying128
  have hu23:=Try.underlying23
  have kb:bb < W.heap.size:=(Array.getElem?_eq_some_iff.1 hb0).1
  go_enter Try.func102,Try.ntmps102
  go_upto_region 1 with (fail)
  have hb2:=blk_alloc (blk_alloc hb0 (.cells (v3 x y z) 128)) (.cells #[.int .i64 0,.int .i64 0,.int .i64 0] 128)
  have hc1:=heap2o W (.cells (v3 x y z) 128) (.cells #[.int .i64 0,.int .i64 0,.int .i64 0] 128)
  have hc2:=heap2 W (.cells (v3 x y z) 128) (.cells #[.int .i64 0,.int .i64 0,.int .i64 0] 128)
  have hB:=bel2 W (.cells (v3 x y z) 128) (.cells #[.int .i64 0,.int .i64 0,.int .i64 0] 128)
  generalize (W.alloc (.cells (v3 x y z) 128)).alloc (.cells #[.int .i64 0,.int .i64 0,.int .i64 0] 128)=W1 at *
  have b0:=(blk_cell hb2 0).trans (rfl:_=some (Value.int .i64 bx))
  have b1:=(blk_cell hb2 1).trans (rfl:_=some (Value.int .i64 by_))
  have b2:=(blk_cell hb2 2).trans (rfl:_=some (Value.int .i64 bz))
  go_wp2_with (go_at_call 103;refine(coord_calls _ _ _ _).mono ?_;rintro e w' ⟨rfl,hb⟩;have hc1':=blk_below hc1 hb;have hc2':=blk_below hc2 hb;have hB':=below_step hB hb;clear hb hc1 hc2 hb2 b0 b1 b2 hB)
  go_loopg [8] 3 (fun kx s8 wr=>∃ i:Nat,i≤3∧s8=.int .i64 i∧3 - i≤kx∧wr.heap[W.heap.size]?=some (.cells (v3 (stp i 0 x bx) (stp i 1 y by_) (stp i 2 z bz)) 128 (0,0))∧wr.heap[W.heap.size+1]?=some (.cells #[.int .i64 0,.int .i64 0,.int .i64 0] 128 (0,0))∧Below W.heap.size W wr)
  case atStart=>exact⟨0,by omega,rfl,by omega,hc1',hc2',hB'⟩
  case round=>
    obtain⟨i,hi,rfl,hk,k1,k2,kB⟩:=hrel
    clear hc1' hc2' hB'
    have hcase:i=0∨i=1∨i=2∨i=3:=by omega
    rcases hcase with rfl|rfl|rfl|rfl
    · have ix:∀ W,Sem.run Try.prog (Instr.index 128 (.agg (v3 bx by_ bz)) (.int .i64 0)) W=.ok (.int .i64 bx) W:=idx128 bx by_ bz 0 (by decide)
      have d0:=(blk_cell k1 0).trans (rfl:_=some (Value.int .i64 x))
      have z0:=blk_frozen k1 0
      go_wp2
      go_roundg (3 - 1)
      case measure=>omega
      case rel=>
        refine⟨1,by omega,rfl,Nat.le_refl _,?_,?_,?_⟩
        · exact blk_put k1 0 _ rfl
        · exact(Below.heap_setCell _ _ _ _ (by show W.heap.size+1≠W.heap.size;omega)).trans k2
        · exact below_set kB (Nat.le_refl _)
    · have ix:∀ W,Sem.run Try.prog (Instr.index 128 (.agg (v3 bx by_ bz)) (.int .i64 1)) W=.ok (.int .i64 by_) W:=idx128 bx by_ bz 1 (by decide)
      have d0:=(blk_cell k1 1).trans (rfl:_=some (Value.int .i64 y))
      have z0:=blk_frozen k1 1
      go_wp2
      go_roundg (3 - 2)
      case measure=>omega
      case rel=>
        refine⟨2,by omega,rfl,Nat.le_refl _,?_,?_,?_⟩
        · exact blk_put k1 1 _ rfl
        · exact(Below.heap_setCell _ _ _ _ (by show W.heap.size+1≠W.heap.size;omega)).trans k2
        · exact below_set kB (Nat.le_refl _)
    · have ix:∀ W,Sem.run Try.prog (Instr.index 128 (.agg (v3 bx by_ bz)) (.int .i64 2)) W=.ok (.int .i64 bz) W:=idx128 bx by_ bz 2 (by decide)
      have d0:=(blk_cell k1 2).trans (rfl:_=some (Value.int .i64 z))
      have z0:=blk_frozen k1 2
      go_wp2
      go_roundg (3 - 3)
      case measure=>omega
      case rel=>
        refine⟨3,by omega,rfl,Nat.le_refl _,?_,?_,?_⟩
        · exact blk_put k1 2 _ rfl
        · exact(Below.heap_setCell _ _ _ _ (by show W.heap.size+1≠W.heap.size;omega)).trans k2
        · exact below_set kB (Nat.le_refl _)
    · have d0:=(blk_cell k1 0).trans (rfl:_=some (Value.int .i64 (wrap64 (x+bx))))
      have d1:=(blk_cell k1 1).trans (rfl:_=some (Value.int .i64 (wrap64 (y+by_))))
      have d2:=(blk_cell k1 2).trans (rfl:_=some (Value.int .i64 (wrap64 (z+bz))))
      have q0:=(blk_cell k2 0).trans (rfl:_=some (Value.int .i64 0))
      have q1:=(blk_cell k2 1).trans (rfl:_=some (Value.int .i64 0))
      have q2:=(blk_cell k2 2).trans (rfl:_=some (Value.int .i64 0))
      have u0:=blk_frozen k2 0
      have u1:=blk_frozen k2 1
      have u2:=blk_frozen k2 2
      go_wp2
      refine bodyPost_ret (results_cell_row rfl _ _ (W.heap.size+1) 128 (v3 (wrap64 (x+bx)) (wrap64 (y+by_)) (wrap64 (z+bz))) (0,0) _ rfl (blk_put (blk_put (blk_put k2 0 _ rfl) 1 _ rfl) 2 _ rfl) Try.underlying128 rfl (by kernel_rfl)) rfl ?_
      exact⟨rfl,below_set (below_set (below_set kB (by omega)) (by omega)) (by omega)⟩
theorem heap3Mova (w:World) (o o' o2:Obj):(((w.alloc o).alloc o').alloc o2).heap[w.heap.size]?=some o:=blk_alloc (heap2o w o o') o2
theorem heap3Movb (w:World) (o o' o2:Obj):(((w.alloc o).alloc o').alloc o2).heap[w.heap.size+1]?=some o':=blk_alloc (heap2 w o o') o2
theorem heap3Movc (w:World) (o o' o2:Obj):(((w.alloc o).alloc o').alloc o2).heap[w.heap.size+2]?=some o2:=by
  have h:=blk_new ((w.alloc o).alloc o') o2
  have e:((w.alloc o).alloc o').heap.size=w.heap.size+2:=by
    show ((w.heap.push o).push o').size=_
    rw[Array.size_push,Array.size_push]
  rwa[e] at h
theorem bel3Mov (w:World) (o o' o2:Obj):Below w.heap.size w (((w.alloc o).alloc o').alloc o2):=below_alloc (bel2 w o o') _
set_option maxHeartbeats 16000000 in
set_option maxRecDepth 100000 in
theorem move_bad (nm:ByteArray) (k ax x y z lo hi:Int) (A:Option Addr) (c:Nat) (l:List S104) (bx by_ bz:Int) (w:World) (hr:Kd.C k104 w A l.length l) (hc:l.length≤c) (hne:chkF nm k ax x y z lo hi≠0):
    Calls Try.prog 50 #[.agg (ftV nm k ax x y z lo hi A l.length c),.agg (v3 bx by_ bz)] w fun e w'=>∃ v8_:Value,e=.returned (.tuple #[.agg (ftU ⟨#[]⟩ 0 0 0 0 0 0 0 v8_),.int .i64 (chkF nm k ax x y z lo hi)])∧Kd.V k104 104 w' w.heap.size (fun k_=>w.heap.size≤k_) v8_ []∧Below w.heap.size w w':=by
  have hu28:=Try.underlying28
  have hu23:=Try.underlying23
  obtain⟨kk,hkk⟩:=(Check_ev nm k ax x y z lo hi l).rounds
  have HR:=Aside0.mk hr
  clear hr
  have n0:(chkF nm k ax x y z lo hi==0)=false:=beq_eq_false_iff_ne.2 hne
  have n1:(chkF nm k ax x y z lo hi != 0)=true:=bne_iff_ne.2 hne
  generalize chkF nm k ax x y z lo hi=er at *
  clear hne
  go_enter Try.func50,Try.ntmps50
  go_upto_region 1 with (fail)
  have h0:=heap3Mova w (.cells (ftV nm k ax x y z lo hi A l.length c) 28) (.cells (v3 bx by_ bz) 23) (.cells ft0 28)
  have h1:=heap3Movb w (.cells (ftV nm k ax x y z lo hi A l.length c) 28) (.cells (v3 bx by_ bz) 23) (.cells ft0 28)
  have h2:=heap3Movc w (.cells (ftV nm k ax x y z lo hi A l.length c) 28) (.cells (v3 bx by_ bz) 23) (.cells ft0 28)
  have hB:=bel3Mov w (.cells (ftV nm k ax x y z lo hi A l.length c) 28) (.cells (v3 bx by_ bz) 23) (.cells ft0 28)
  generalize ((w.alloc (.cells (ftV nm k ax x y z lo hi A l.length c) 28)).alloc (.cells (v3 bx by_ bz) 23)).alloc (.cells ft0 28)=W1 at *
  have c0:=(blk_cell h0 0).trans (rfl:_=some (Value.string nm))
  have c1:=(blk_cell h0 1).trans (rfl:_=some (Value.int .i64 k))
  have c2:=(blk_cell h0 2).trans (rfl:_=some (Value.int .i64 ax))
  have c3:=(blk_cell h0 3).trans (rfl:_=some (Value.int .i64 x))
  have c4:=(blk_cell h0 4).trans (rfl:_=some (Value.int .i64 y))
  have c5:=(blk_cell h0 5).trans (rfl:_=some (Value.int .i64 z))
  have c6:=(blk_cell h0 6).trans (rfl:_=some (Value.int .i64 lo))
  have c7:=(blk_cell h0 7).trans (rfl:_=some (Value.int .i64 hi))
  have c8:=(blk_cell h0 8).trans (rfl:_=some (Value.slice A l.length c))
  go_wp2_with (first|((with_reducible refine gate_store (t:=28) (p:=4) rfl ?_);refine wpList_store_row rfl 28 (.tmp 4) (.tmp 12) rfl (w.heap.size+2) ft0 rfl rfl 28 ft0 g2 (by kernel_rfl) rfl (by simp[Value.oneCell']) ?_)|(go_at_call 29;refine(fe_Check.calls kk nm k ax x y z lo hi A c l _ _ (Kd.C_below HR.out hB) hc hkk).mono ?_;rintro e w' ⟨rfl,hb⟩;have g0:=blk_below h0 hb;have g1:=blk_below h1 hb;have g2:=blk_below h2 hb;have gB:=below_step hB hb;clear hb c0 c1 c2 c3 c4 c5 c6 c7 c8;have HG:=Aside0.mk g2))
  refine bodyPost_ret (results_ct rfl _ _ (w.heap.size+2) 28 ft0 (0,0) _ rfl (row_new g2) Try.underlying28 rfl (by kernel_rfl)) rfl ?_
  refine⟨.slice none 0 0,rfl,Kd.V_nil _ _ _ _ _,row_bel gB (by omega)⟩
theorem eg102:∀ args w,(callFunc 102 args).run Try.prog w=.ok (.enter 102 args) w:=enters_of Try.func102 (by kernel_rfl) rfl
set_option maxHeartbeats 16000000 in
set_option maxRecDepth 100000 in
theorem move_far (nm:ByteArray) (k ax x y z lo hi:Int) (A:Option Addr) (c:Nat) (l:List S104) (bx by_ bz:Int) (w:World) (hr:Kd.C k104 w A l.length l) (hc:l.length≤c) (hsm:small l=true) (hok:chkF nm k ax x y z lo hi=0) (hcnd:(in3 bx by_ bz&&in3 (wrap64 (x+bx)) (wrap64 (y+by_)) (wrap64 (z+bz)))=false):
    Calls Try.prog 50 #[.agg (ftV nm k ax x y z lo hi A l.length c),.agg (v3 bx by_ bz)] w fun e w'=>∃ v8_:Value,e=.returned (.tuple #[.agg (ftU ⟨#[]⟩ 0 0 0 0 0 0 0 v8_),.int .i64 2])∧Kd.V k104 104 w' w.heap.size (fun k_=>w.heap.size≤k_) v8_ []∧Below w.heap.size w w':=by
  have hu28:=Try.underlying28
  have hu23:=Try.underlying23
  obtain⟨kk,hkk⟩:=(Check_ev nm k ax x y z lo hi l).rounds
  have HR:=Aside0.mk hr
  clear hr
  rw[hok] at hkk
  have HS:=Aside0.mk hsm
  clear hok hsm
  generalize hp1:wrap64 (x+bx)=p1 at *
  generalize hp2:wrap64 (y+by_)=p2 at *
  generalize hp3:wrap64 (z+bz)=p3 at *
  have HP:=Aside0.mk (And.intro hp1 (And.intro hp2 hp3))
  clear hp1 hp2 hp3
  have HC:=Aside0.mk hcnd
  clear hcnd
  go_enter Try.func50,Try.ntmps50
  go_upto_region 1 with (fail)
  have h0:=heap3Mova w (.cells (ftV nm k ax x y z lo hi A l.length c) 28) (.cells (v3 bx by_ bz) 23) (.cells ft0 28)
  have h1:=heap3Movb w (.cells (ftV nm k ax x y z lo hi A l.length c) 28) (.cells (v3 bx by_ bz) 23) (.cells ft0 28)
  have h2:=heap3Movc w (.cells (ftV nm k ax x y z lo hi A l.length c) 28) (.cells (v3 bx by_ bz) 23) (.cells ft0 28)
  have hB:=bel3Mov w (.cells (ftV nm k ax x y z lo hi A l.length c) 28) (.cells (v3 bx by_ bz) 23) (.cells ft0 28)
  generalize ((w.alloc (.cells (ftV nm k ax x y z lo hi A l.length c) 28)).alloc (.cells (v3 bx by_ bz) 23)).alloc (.cells ft0 28)=W1 at *
  have c0:=(blk_cell h0 0).trans (rfl:_=some (Value.string nm))
  have c1:=(blk_cell h0 1).trans (rfl:_=some (Value.int .i64 k))
  have c2:=(blk_cell h0 2).trans (rfl:_=some (Value.int .i64 ax))
  have c3:=(blk_cell h0 3).trans (rfl:_=some (Value.int .i64 x))
  have c4:=(blk_cell h0 4).trans (rfl:_=some (Value.int .i64 y))
  have c5:=(blk_cell h0 5).trans (rfl:_=some (Value.int .i64 z))
  have c6:=(blk_cell h0 6).trans (rfl:_=some (Value.int .i64 lo))
  have c7:=(blk_cell h0 7).trans (rfl:_=some (Value.int .i64 hi))
  have c8:=(blk_cell h0 8).trans (rfl:_=some (Value.slice A l.length c))
  go_wp2_with (go_at_call 29;refine(fe_Check.calls kk nm k ax x y z lo hi A c l _ _ (Kd.C_below HR.out hB) hc hkk).mono ?_;rintro e w' ⟨rfl,hb⟩;have g0:=blk_below h0 hb;have g1:=blk_below h1 hb;have g2:=blk_below h2 hb;have gB:=below_step hB hb;clear hb h0 h1 h2 hB c0 c1 c2 c3 c4 c5 c6 c7 c8;have c0:=(blk_cell g0 0).trans (rfl:_=some (Value.string nm));have c1:=(blk_cell g0 1).trans (rfl:_=some (Value.int .i64 k));have c2:=(blk_cell g0 2).trans (rfl:_=some (Value.int .i64 ax));have c3:=(blk_cell g0 3).trans (rfl:_=some (Value.int .i64 x));have c4:=(blk_cell g0 4).trans (rfl:_=some (Value.int .i64 y));have c5:=(blk_cell g0 5).trans (rfl:_=some (Value.int .i64 z));have c6:=(blk_cell g0 6).trans (rfl:_=some (Value.int .i64 lo));have c7:=(blk_cell g0 7).trans (rfl:_=some (Value.int .i64 hi));have c8:=(blk_cell g0 8).trans (rfl:_=some (Value.slice A l.length c));have hcall:=placed_calls 102 #[.pointer (some ⟨w.heap.size+1,0,none⟩)] eg102 nm k ax x y z lo hi A c l p1 p2 p3 w' (Kd.C_below HR.out gB) hc HS.out (fun W hW=>by have:=move1_calls (w.heap.size+1) x y z bx by_ bz W (blk_below g1 hW);rw[HP.out.1,HP.out.2.1,HP.out.2.2] at this;exact this))
  refine hcall.mono ?_
  clear hcall
  rintro e w2 ⟨A',c',rfl,hle,hF,hb⟩
  have hgs:w.heap.size+3≤w'.heap.size:=(Array.getElem?_eq_some_iff.1 g2).1
  have k1:=blk_below g1 hb
  have k2:=blk_below g2 hb
  have kB:=below_step gB hb
  have hsz:=hb.size
  have HF:=Aside0.mk hF
  clear hF hb g0 g1 g2 c0 c1 c2 c3 c4 c5 c6 c7 c8
  go_upto_region 5 with (fail)
  have r9:=blk_new w2 (.cells (ftV nm k ax p1 p2 p3 lo hi A' l.length c') 28)
  have j1:=blk_alloc k1 (.cells (ftV nm k ax p1 p2 p3 lo hi A' l.length c') 28)
  have j2:=blk_alloc k2 (.cells (ftV nm k ax p1 p2 p3 lo hi A' l.length c') 28)
  have jB:=below_alloc kB (.cells (ftV nm k ax p1 p2 p3 lo hi A' l.length c') 28)
  have HF2:=Aside0.mk (Kd.F_alloc (Kd.F_elderB HF.out w2.heap.size (Nat.le_refl _)) (.cells (ftV nm k ax p1 p2 p3 lo hi A' l.length c') 28))
  clear k1 k2 kB HF
  generalize hz:w2.heap.size=z9 at *
  generalize w2.alloc (.cells (ftV nm k ax p1 p2 p3 lo hi A' l.length c') 28)=W2 at *
  have b0:=(blk_cell j1 0).trans (rfl:_=some (Value.int .i64 bx))
  have b1:=(blk_cell j1 1).trans (rfl:_=some (Value.int .i64 by_))
  have b2:=(blk_cell j1 2).trans (rfl:_=some (Value.int .i64 bz))
  cases hi1:in3 bx by_ bz
  · have HR1:Aside0 (fe_ranged.f bx by_ bz=some false):=⟨by rw[ranged_eq,hi1]⟩
    clear hi1
    go_wp2_with (first|(have hx0:=b0;clear hx0;go_at_call 81;refine(fe_ranged.calls bx by_ bz false _ HR1.out).mono ?_;rintro e w3 ⟨rfl,hb⟩;have m2:=blk_below j2 hb;have m9:=blk_below r9 hb;have mB:=below_step jB hb;have HF3:=Aside0.mk (Kd.F_below HF2.out hb);clear hb j1 j2 r9 jB HF2 b0 b1 b2;have v3:=(blk_cell m9 3).trans (rfl:_=some (Value.int .i64 p1));have v4:=(blk_cell m9 4).trans (rfl:_=some (Value.int .i64 p2));have v5:=(blk_cell m9 5).trans (rfl:_=some (Value.int .i64 p3)))|((with_reducible refine gate_store (t:=28) (p:=4) rfl ?_);refine wpList_store_row rfl 28 (.tmp 4) (.tmp 26) rfl (w.heap.size+2) ft0 rfl rfl 28 ft0 m2 (by kernel_rfl) rfl (by simp[Value.oneCell']) ?_))
    refine bodyPost_ret (results_ct rfl _ _ (w.heap.size+2) 28 ft0 (0,0) _ rfl (row_new m2) Try.underlying28 rfl (by kernel_rfl)) rfl ?_
    exact⟨.slice none 0 0,rfl,Kd.V_nil _ _ _ _ _,row_bel mB (by omega)⟩
  · have HR1:Aside0 (fe_ranged.f bx by_ bz=some true):=⟨by rw[ranged_eq,hi1]⟩
    have HR2:Aside0 (fe_ranged.f p1 p2 p3=some false):=⟨by have:=HC.out;rw[hi1,Bool.true_and] at this;rw[ranged_eq,this]⟩
    clear hi1
    go_wp2_with (first|(have hx0:=b0;clear hx0;go_at_call 81;refine(fe_ranged.calls bx by_ bz true _ HR1.out).mono ?_;rintro e w3 ⟨rfl,hb⟩;have m2:=blk_below j2 hb;have m9:=blk_below r9 hb;have mB:=below_step jB hb;have HF3:=Aside0.mk (Kd.F_below HF2.out hb);clear hb j1 j2 r9 jB HF2 b0 b1 b2;have v3:=(blk_cell m9 3).trans (rfl:_=some (Value.int .i64 p1));have v4:=(blk_cell m9 4).trans (rfl:_=some (Value.int .i64 p2));have v5:=(blk_cell m9 5).trans (rfl:_=some (Value.int .i64 p3)))|(have hx0:=v5;clear hx0;go_at_call 81;refine(fe_ranged.calls p1 p2 p3 false _ HR2.out).mono ?_;rintro e w4 ⟨rfl,hb⟩;have q2:=blk_below m2 hb;have q9:=blk_below m9 hb;have qB:=below_step mB hb;have HF4:=Aside0.mk (Kd.F_below HF3.out hb);clear hb m2 m9 mB HF3 v3 v4 v5)|((with_reducible refine gate_store (t:=28) (p:=4) rfl ?_);refine wpList_store_row rfl 28 (.tmp 4) (.tmp 26) rfl (w.heap.size+2) ft0 rfl rfl 28 ft0 q2 (by kernel_rfl) rfl (by simp[Value.oneCell']) ?_))
    refine bodyPost_ret (results_ct rfl _ _ (w.heap.size+2) 28 ft0 (0,0) _ rfl (row_new q2) Try.underlying28 rfl (by kernel_rfl)) rfl ?_
    exact⟨.slice none 0 0,rfl,Kd.V_nil _ _ _ _ _,row_bel qB (by omega)⟩
set_option maxHeartbeats 16000000 in
set_option maxRecDepth 100000 in
theorem move_ok (nm:ByteArray) (k ax x y z lo hi:Int) (A:Option Addr) (c:Nat) (l:List S104) (bx by_ bz:Int) (w:World) (hr:Kd.C k104 w A l.length l) (hc:l.length≤c) (hsm:small l=true) (hok:chkF nm k ax x y z lo hi=0) (hcnd:(in3 bx by_ bz&&in3 (wrap64 (x+bx)) (wrap64 (y+by_)) (wrap64 (z+bz)))=true):
    Calls Try.prog 50 #[.agg (ftV nm k ax x y z lo hi A l.length c),.agg (v3 bx by_ bz)] w fun e w'=>∃ v8_:Value,e=.returned (.tuple #[.agg (ftU nm k ax (wrap64 (x+bx)) (wrap64 (y+by_)) (wrap64 (z+bz)) lo hi v8_),.int .i64 0])∧Kd.V k104 104 w' w.heap.size (fun k_=>w.heap.size≤k_) v8_ l∧Below w.heap.size w w':=by
  have hu28:=Try.underlying28
  have hu23:=Try.underlying23
  obtain⟨kk,hkk⟩:=(Check_ev nm k ax x y z lo hi l).rounds
  have HR:=Aside0.mk hr
  clear hr
  rw[hok] at hkk
  have HS:=Aside0.mk hsm
  clear hok hsm
  generalize hp1:wrap64 (x+bx)=p1 at *
  generalize hp2:wrap64 (y+by_)=p2 at *
  generalize hp3:wrap64 (z+bz)=p3 at *
  have HP:=Aside0.mk (And.intro hp1 (And.intro hp2 hp3))
  clear hp1 hp2 hp3
  have HC:=Aside0.mk hcnd
  clear hcnd
  go_enter Try.func50,Try.ntmps50
  go_upto_region 1 with (fail)
  have h0:=heap3Mova w (.cells (ftV nm k ax x y z lo hi A l.length c) 28) (.cells (v3 bx by_ bz) 23) (.cells ft0 28)
  have h1:=heap3Movb w (.cells (ftV nm k ax x y z lo hi A l.length c) 28) (.cells (v3 bx by_ bz) 23) (.cells ft0 28)
  have h2:=heap3Movc w (.cells (ftV nm k ax x y z lo hi A l.length c) 28) (.cells (v3 bx by_ bz) 23) (.cells ft0 28)
  have hB:=bel3Mov w (.cells (ftV nm k ax x y z lo hi A l.length c) 28) (.cells (v3 bx by_ bz) 23) (.cells ft0 28)
  generalize ((w.alloc (.cells (ftV nm k ax x y z lo hi A l.length c) 28)).alloc (.cells (v3 bx by_ bz) 23)).alloc (.cells ft0 28)=W1 at *
  have c0:=(blk_cell h0 0).trans (rfl:_=some (Value.string nm))
  have c1:=(blk_cell h0 1).trans (rfl:_=some (Value.int .i64 k))
  have c2:=(blk_cell h0 2).trans (rfl:_=some (Value.int .i64 ax))
  have c3:=(blk_cell h0 3).trans (rfl:_=some (Value.int .i64 x))
  have c4:=(blk_cell h0 4).trans (rfl:_=some (Value.int .i64 y))
  have c5:=(blk_cell h0 5).trans (rfl:_=some (Value.int .i64 z))
  have c6:=(blk_cell h0 6).trans (rfl:_=some (Value.int .i64 lo))
  have c7:=(blk_cell h0 7).trans (rfl:_=some (Value.int .i64 hi))
  have c8:=(blk_cell h0 8).trans (rfl:_=some (Value.slice A l.length c))
  go_wp2_with (go_at_call 29;refine(fe_Check.calls kk nm k ax x y z lo hi A c l _ _ (Kd.C_below HR.out hB) hc hkk).mono ?_;rintro e w' ⟨rfl,hb⟩;have g0:=blk_below h0 hb;have g1:=blk_below h1 hb;have g2:=blk_below h2 hb;have gB:=below_step hB hb;clear hb h0 h1 h2 hB c0 c1 c2 c3 c4 c5 c6 c7 c8;have c0:=(blk_cell g0 0).trans (rfl:_=some (Value.string nm));have c1:=(blk_cell g0 1).trans (rfl:_=some (Value.int .i64 k));have c2:=(blk_cell g0 2).trans (rfl:_=some (Value.int .i64 ax));have c3:=(blk_cell g0 3).trans (rfl:_=some (Value.int .i64 x));have c4:=(blk_cell g0 4).trans (rfl:_=some (Value.int .i64 y));have c5:=(blk_cell g0 5).trans (rfl:_=some (Value.int .i64 z));have c6:=(blk_cell g0 6).trans (rfl:_=some (Value.int .i64 lo));have c7:=(blk_cell g0 7).trans (rfl:_=some (Value.int .i64 hi));have c8:=(blk_cell g0 8).trans (rfl:_=some (Value.slice A l.length c));have hcall:=placed_calls 102 #[.pointer (some ⟨w.heap.size+1,0,none⟩)] eg102 nm k ax x y z lo hi A c l p1 p2 p3 w' (Kd.C_below HR.out gB) hc HS.out (fun W hW=>by have:=move1_calls (w.heap.size+1) x y z bx by_ bz W (blk_below g1 hW);rw[HP.out.1,HP.out.2.1,HP.out.2.2] at this;exact this))
  refine hcall.mono ?_
  clear hcall
  rintro e w2 ⟨A',c',rfl,hle,hF,hb⟩
  have hgs:w.heap.size+3≤w'.heap.size:=(Array.getElem?_eq_some_iff.1 g2).1
  have k1:=blk_below g1 hb
  have k2:=blk_below g2 hb
  have kB:=below_step gB hb
  have hsz:=hb.size
  have HF:=Aside0.mk hF
  clear hF hb g0 g1 g2 c0 c1 c2 c3 c4 c5 c6 c7 c8
  go_upto_region 5 with (fail)
  have r9:=blk_new w2 (.cells (ftV nm k ax p1 p2 p3 lo hi A' l.length c') 28)
  have j1:=blk_alloc k1 (.cells (ftV nm k ax p1 p2 p3 lo hi A' l.length c') 28)
  have j2:=blk_alloc k2 (.cells (ftV nm k ax p1 p2 p3 lo hi A' l.length c') 28)
  have jB:=below_alloc kB (.cells (ftV nm k ax p1 p2 p3 lo hi A' l.length c') 28)
  have HF2:=Aside0.mk (Kd.F_alloc (Kd.F_elderB HF.out w2.heap.size (Nat.le_refl _)) (.cells (ftV nm k ax p1 p2 p3 lo hi A' l.length c') 28))
  clear k1 k2 kB HF
  generalize hz:w2.heap.size=z9 at *
  generalize w2.alloc (.cells (ftV nm k ax p1 p2 p3 lo hi A' l.length c') 28)=W2 at *
  have b0:=(blk_cell j1 0).trans (rfl:_=some (Value.int .i64 bx))
  have b1:=(blk_cell j1 1).trans (rfl:_=some (Value.int .i64 by_))
  have b2:=(blk_cell j1 2).trans (rfl:_=some (Value.int .i64 bz))
  have HR1:Aside0 (fe_ranged.f bx by_ bz=some true):=⟨by rw[ranged_eq,(Bool.and_eq_true_iff.1 HC.out).1]⟩
  have HR2:Aside0 (fe_ranged.f p1 p2 p3=some true):=⟨by rw[ranged_eq,(Bool.and_eq_true_iff.1 HC.out).2]⟩
  go_wp2_with (first|(have hx0:=b0;clear hx0;go_at_call 81;refine(fe_ranged.calls bx by_ bz true _ HR1.out).mono ?_;rintro e w3 ⟨rfl,hb⟩;have m2:=blk_below j2 hb;have m9:=blk_below r9 hb;have mB:=below_step jB hb;have HF3:=Aside0.mk (Kd.F_below HF2.out hb);clear hb j1 j2 r9 jB HF2 b0 b1 b2;have v3:=(blk_cell m9 3).trans (rfl:_=some (Value.int .i64 p1));have v4:=(blk_cell m9 4).trans (rfl:_=some (Value.int .i64 p2));have v5:=(blk_cell m9 5).trans (rfl:_=some (Value.int .i64 p3)))|(have hx0:=v5;clear hx0;go_at_call 81;refine(fe_ranged.calls p1 p2 p3 true _ HR2.out).mono ?_;rintro e w4 ⟨rfl,hb⟩;have q2:=blk_below m2 hb;have q9:=blk_below m9 hb;have qB:=below_step mB hb;have HF4:=Aside0.mk (Kd.F_below HF3.out hb);clear hb m2 m9 mB HF3 v3 v4 v5)|((with_reducible refine gate_dst (N:=27) rfl ?_);refine wpList_load_row rfl 28 (.tmp 7) rfl z9 rfl 28 (ftV nm k ax p1 p2 p3 lo hi A' l.length c') (0,0) _ q9 Try.underlying28 rfl (by kernel_rfl) ?_)|((with_reducible refine gate_store (t:=28) (p:=4) rfl ?_);refine wpList_store_row rfl 28 (.tmp 4) (.tmp 27) rfl (w.heap.size+2) (ftV nm k ax p1 p2 p3 lo hi A' l.length c') rfl rfl 28 ft0 q2 (by kernel_rfl) rfl (by simp[Value.oneCell']) ?_))
  refine bodyPost_ret (results_ct rfl _ _ (w.heap.size+2) 28 (ftV nm k ax p1 p2 p3 lo hi A' l.length c') (0,0) _ rfl (row_new q2) Try.underlying28 rfl (by kernel_rfl)) rfl ?_
  refine⟨.slice A' l.length c',rfl,⟨A',c',rfl,hle,?_⟩,row_bel qB (by omega)⟩
  refine Kd.F_mono (ok:=fun k=>w'.heap.size≤k∧k≠z9) ?_ (fun k hk=>by omega)
  exact Kd.F_step HF4.out (fun k hk _=>row_far (by omega))
end Go.Proofs.Ytkgdlbepjmgaiaa.Fea
namespace Go.Proofs.Ytkgdlbepjmgaiaa.Fea
open Go.RowKit YtkgdlbepjmgaiaaW.PrintWords YtkgdlbepjmgaiaaW.PrintLast YtkgdlbepjmgaiaaW.PrintMore
attribute [local go_sem] max2_int min2_int max_two min_two max_three min_three max_four min_four
def fe_Move.f (a0_0:ByteArray) (a0_1 a0_2 a0_3 a0_4 a0_5 a0_6 a0_7:Int) (l0_8:List (S104)) (a1_0 a1_1 a1_2:Int):Option (ByteArray×Int×Int×Int×Int×Int×Int×Int×(List (S104))×Int):=if small l0_8=true then some (if chkF a0_0 a0_1 a0_2 a0_3 a0_4 a0_5 a0_6 a0_7=0 then(if(in3 a1_0 a1_1 a1_2&&in3 (wrap64 (a0_3+a1_0)) (wrap64 (a0_4+a1_1)) (wrap64 (a0_5+a1_2)))=true then(a0_0,a0_1,a0_2,wrap64 (a0_3+a1_0),wrap64 (a0_4+a1_1),wrap64 (a0_5+a1_2),a0_6,a0_7,l0_8,(0:Int)) else((⟨#[]⟩:ByteArray),(0:Int),(0:Int),(0:Int),(0:Int),(0:Int),(0:Int),(0:Int),([]:List (S104)),(2:Int))) else((⟨#[]⟩:ByteArray),(0:Int),(0:Int),(0:Int),(0:Int),(0:Int),(0:Int),(0:Int),([]:List (S104)),chkF a0_0 a0_1 a0_2 a0_3 a0_4 a0_5 a0_6 a0_7)) else none
theorem fe_Move.calls (a0_0:ByteArray) (a0_1 a0_2 a0_3 a0_4 a0_5 a0_6 a0_7:Int) (A0_8:Option Addr) (c0_8:Nat) (l0_8:List (S104)) (a1_0 a1_1 a1_2:Int) (r1:ByteArray) (r2 r3 r4 r5 r6 r7 r8:Int) (r9:List (S104)) (r10:Int) (w:World) (hr0_8:Kd.C k104 w A0_8 l0_8.length l0_8) (hc0_8:l0_8.length≤c0_8) (h:fe_Move.f a0_0 a0_1 a0_2 a0_3 a0_4 a0_5 a0_6 a0_7 l0_8 a1_0 a1_1 a1_2=some (r1,r2,r3,r4,r5,r6,r7,r8,r9,r10)):
    Calls Try.prog 50 #[.agg #[.string a0_0,.int .i64 a0_1,.int .i64 a0_2,.int .i64 a0_3,.int .i64 a0_4,.int .i64 a0_5,.int .i64 a0_6,.int .i64 a0_7,.slice A0_8 l0_8.length c0_8],.agg #[.int .i64 a1_0,.int .i64 a1_1,.int .i64 a1_2]] w fun e w'=>∃ v8_:Value,e=.returned (.tuple #[.agg #[.string r1,.int .i64 r2,.int .i64 r3,.int .i64 r4,.int .i64 r5,.int .i64 r6,.int .i64 r7,.int .i64 r8,v8_],.int .i64 r10])∧Kd.V k104 104 w' w.heap.size (fun k_=>w.heap.size≤k_) v8_ r9∧Below w.heap.size w w':=by
  unfold fe_Move.f at h
  split at h
  case isFalse=>cases h
  rename_i hsm
  replace h:=Option.some.inj h
  split at h
  · rename_i g
    split at h
    · rename_i g2
      simp only[Prod.mk.injEq] at h
      obtain⟨rfl,rfl,rfl,rfl,rfl,rfl,rfl,rfl,rfl,rfl⟩:=h
      exact move_ok a0_0 a0_1 a0_2 a0_3 a0_4 a0_5 a0_6 a0_7 A0_8 c0_8 l0_8 a1_0 a1_1 a1_2 w hr0_8 hc0_8 hsm g g2
    · rename_i g2
      simp only[Prod.mk.injEq] at h
      obtain⟨rfl,rfl,rfl,rfl,rfl,rfl,rfl,rfl,rfl,rfl⟩:=h
      exact move_far a0_0 a0_1 a0_2 a0_3 a0_4 a0_5 a0_6 a0_7 A0_8 c0_8 l0_8 a1_0 a1_1 a1_2 w hr0_8 hc0_8 hsm g (Bool.eq_false_iff.2 g2)
  · rename_i g
    simp only[Prod.mk.injEq] at h
    obtain⟨rfl,rfl,rfl,rfl,rfl,rfl,rfl,rfl,rfl,rfl⟩:=h
    exact move_bad a0_0 a0_1 a0_2 a0_3 a0_4 a0_5 a0_6 a0_7 A0_8 c0_8 l0_8 a1_0 a1_1 a1_2 w hr0_8 hc0_8 g
end Go.Proofs.Ytkgdlbepjmgaiaa.Fea
namespace Go.Proofs.Ytkgdlbepjmgaiaa.Fea
open Go.RowKit YtkgdlbepjmgaiaaW.PrintWords YtkgdlbepjmgaiaaW.PrintLast YtkgdlbepjmgaiaaW.PrintMore
theorem zall {w:World} {g:Nat} {a b c:Value} {t:TypeId} (h:w.heap[g]?=some (.cells #[a,b,c] t (0,0))):w.cell? ⟨g,0,none⟩=some a∧w.cell? ⟨g,1,none⟩=some b∧w.cell? ⟨g,2,none⟩=some c∧w.frozen? ⟨g,0,none⟩=false∧w.frozen? ⟨g,1,none⟩=false∧w.frozen? ⟨g,2,none⟩=false:=⟨zc h 0 _ rfl,zc h 1 _ rfl,zc h 2 _ rfl,zf h 0,zf h 1,zf h 2⟩
theorem put3 {w:World} {g:Nat} {a b c:Value} {t:TypeId} (h:w.heap[g]?=some (.cells #[a,b,c] t (0,0))) (x y z:Value):(((w.setCell ⟨g,0,none⟩ x).setCell ⟨g,1,none⟩ y).setCell ⟨g,2,none⟩ z).heap[g]?=some (.cells #[x,y,z] t (0,0)):=
  blk_put (cs:=#[x,y,c]) (blk_put (cs:=#[x,b,c]) (blk_put h 0 x rfl) 1 y rfl) 2 z rfl
theorem far3 {w:World} {q g:Nat} {cs:Array Value} {t:TypeId} (h:w.heap[q]?=some (.cells cs t (0,0))) (hn:q≠g) (x y z:Value):(((w.setCell ⟨g,0,none⟩ x).setCell ⟨g,1,none⟩ y).setCell ⟨g,2,none⟩ z).heap[q]?=some (.cells cs t (0,0)):=
  blk_far (blk_far (blk_far h (p:=⟨g,0,none⟩) hn x) (p:=⟨g,1,none⟩) hn y) (p:=⟨g,2,none⟩) hn z
theorem bel3 {w W:World} {g:Nat} (h:Below w.heap.size w W) (hg:w.heap.size≤g) (x y z:Value):Below w.heap.size w (((W.setCell ⟨g,0,none⟩ x).setCell ⟨g,1,none⟩ y).setCell ⟨g,2,none⟩ z):=below_set (below_set (below_set h hg) hg) hg
theorem new3 (w:World) (g:Nat) (x y z:Value) (o:Obj):((((w.setCell ⟨g,0,none⟩ x).setCell ⟨g,1,none⟩ y).setCell ⟨g,2,none⟩ z).alloc o).heap[w.heap.size]?=some o:=by
  have:=blk_new (((w.setCell ⟨g,0,none⟩ x).setCell ⟨g,1,none⟩ y).setCell ⟨g,2,none⟩ z) o
  rwa[World.size_setCell,World.size_setCell,World.size_setCell] at this
theorem cAp {w:World} {g:Nat} {a b c:Value} {t:TypeId} {x y z:Value} {o:Obj} (h:w.heap[g]?=some (.cells #[a,b,c] t (0,0))):((((w.setCell ⟨g,0,none⟩ x).setCell ⟨g,1,none⟩ y).setCell ⟨g,2,none⟩ z).alloc o).heap[g]?=some (.cells #[x,y,z] t (0,0)):=blk_alloc (put3 h x y z) o
theorem cFp {w:World} {g q:Nat} {a b c:Value} {t:TypeId} {x y z x' y' z':Value} (h:w.heap[g]?=some (.cells #[a,b,c] t (0,0))) (hn:g≠q):((((((w.setCell ⟨g,0,none⟩ x).setCell ⟨g,1,none⟩ y).setCell ⟨g,2,none⟩ z).setCell ⟨q,0,none⟩ x').setCell ⟨q,1,none⟩ y').setCell ⟨q,2,none⟩ z').heap[g]?=some (.cells #[x,y,z] t (0,0)):=far3 (put3 h x y z) hn x' y' z'
theorem cPf {w:World} {g q:Nat} {a b c:Value} {t:TypeId} {x y z x' y' z':Value} (h:w.heap[g]?=some (.cells #[a,b,c] t (0,0))) (hn:g≠q):((((((w.setCell ⟨q,0,none⟩ x').setCell ⟨q,1,none⟩ y').setCell ⟨q,2,none⟩ z').setCell ⟨g,0,none⟩ x).setCell ⟨g,1,none⟩ y).setCell ⟨g,2,none⟩ z).heap[g]?=some (.cells #[x,y,z] t (0,0)):=put3 (far3 h hn x' y' z') x y z
theorem genW {Q:World→Prop} {W:World} (F:World→Prop) (h:F W) (k:∀ W',F W'→Q W'):Q W:=k W h
theorem keepC {F G:Nat} {W W':World} {u0 u1 u2 u3 u4 u5 u6 u7 u8 v0 v1 v2:Value} (hm:∀(i:Nat) (v:Value),(W.cell? ⟨F,i,none⟩=some v→W'.cell? ⟨F,i,none⟩=some v)∧(W.cell? ⟨G,i,none⟩=some v→W'.cell? ⟨G,i,none⟩=some v)) (h:W.cell? ⟨F,0,none⟩=some u0∧W.cell? ⟨F,1,none⟩=some u1∧W.cell? ⟨F,2,none⟩=some u2∧W.cell? ⟨F,3,none⟩=some u3∧W.cell? ⟨F,4,none⟩=some u4∧W.cell? ⟨F,5,none⟩=some u5∧W.cell? ⟨F,6,none⟩=some u6∧W.cell? ⟨F,7,none⟩=some u7∧W.cell? ⟨F,8,none⟩=some u8∧W.cell? ⟨G,0,none⟩=some v0∧W.cell? ⟨G,1,none⟩=some v1∧W.cell? ⟨G,2,none⟩=some v2):W'.cell? ⟨F,0,none⟩=some u0∧W'.cell? ⟨F,1,none⟩=some u1∧W'.cell? ⟨F,2,none⟩=some u2∧W'.cell? ⟨F,3,none⟩=some u3∧W'.cell? ⟨F,4,none⟩=some u4∧W'.cell? ⟨F,5,none⟩=some u5∧W'.cell? ⟨F,6,none⟩=some u6∧W'.cell? ⟨F,7,none⟩=some u7∧W'.cell? ⟨F,8,none⟩=some u8∧W'.cell? ⟨G,0,none⟩=some v0∧W'.cell? ⟨G,1,none⟩=some v1∧W'.cell? ⟨G,2,none⟩=some v2:=by
  obtain⟨h0,h1,h2,h3,h4,h5,h6,h7,h8,g0,g1,g2⟩:=h
  exact⟨(hm _ _).1 h0,(hm _ _).1 h1,(hm _ _).1 h2,(hm _ _).1 h3,(hm _ _).1 h4,(hm _ _).1 h5,(hm _ _).1 h6,(hm _ _).1 h7,(hm _ _).1 h8,(hm _ _).2 g0,(hm _ _).2 g1,(hm _ _).2 g2⟩
theorem onB {F G:Nat} {W W':World} (hb:Below W.heap.size W W') (i:Nat) (v:Value):(W.cell? ⟨F,i,none⟩=some v→W'.cell? ⟨F,i,none⟩=some v)∧(W.cell? ⟨G,i,none⟩=some v→W'.cell? ⟨G,i,none⟩=some v):=⟨cell_on hb,cell_on hb⟩
theorem onS {F G R j:Nat} {u:Value} {W W':World} (hF:F≠R) (hG:G≠R) (hm:∀(i:Nat) (v:Value),(W.cell? ⟨F,i,none⟩=some v→W'.cell? ⟨F,i,none⟩=some v)∧(W.cell? ⟨G,i,none⟩=some v→W'.cell? ⟨G,i,none⟩=some v)) (i:Nat) (v:Value):(W.cell? ⟨F,i,none⟩=some v→(W'.setCell ⟨R,j,none⟩ u).cell? ⟨F,i,none⟩=some v)∧(W.cell? ⟨G,i,none⟩=some v→(W'.setCell ⟨R,j,none⟩ u).cell? ⟨G,i,none⟩=some v):=⟨fun h=>cell_far ((hm i v).1 h) hF,fun h=>cell_far ((hm i v).2 h) hG⟩
def rmovV (a0_0:ByteArray) (a0_1 a0_2 a0_3 a0_4 a0_5 a0_6 a0_7:Int) (l0_8:List S104) (a1_0 a1_1 a1_2:Int):ByteArray×Int×Int×Int×Int×Int×Int×Int×(List (S104))×Int:=
  if chkF a0_0 a0_1 a0_2 a0_3 a0_4 a0_5 a0_6 a0_7=0 then(if(in3 a1_0 a1_1 a1_2&&in3 (wrap64 (a0_3+a1_0)) (wrap64 (a0_4+a1_1)) (wrap64 (a0_5+a1_2)))=true then(a0_0,a0_1,a0_2,wrap64 (a0_3+a1_0),wrap64 (a0_4+a1_1),wrap64 (a0_5+a1_2),a0_6,a0_7,l0_8,(0:Int)) else((⟨#[]⟩:ByteArray),(0:Int),(0:Int),(0:Int),(0:Int),(0:Int),(0:Int),(0:Int),([]:List (S104)),(2:Int)))
  else((⟨#[]⟩:ByteArray),(0:Int),(0:Int),(0:Int),(0:Int),(0:Int),(0:Int),(0:Int),([]:List (S104)),chkF a0_0 a0_1 a0_2 a0_3 a0_4 a0_5 a0_6 a0_7)
theorem far_cases {a b c:Int} (h:¬ in3 a b c=true):inR a=false∨(inR a=true∧inR b=false)∨(inR a=true∧inR b=true∧inR c=false):=by
  unfold in3 at h
  revert h
  cases inR a<;>cases inR b<;>cases inR c<;>simp
theorem absb {w:World} {G:Nat} {o:Obj} (h:w.heap[G]?=some o):∃ g,G=g∧w.heap[g]?=some o:=⟨G,rfl,h⟩
theorem keep6 {F G:Nat} {W W':World} {u0 u1 u2 v0 v1 v2:Value} (hb:Below W.heap.size W W') (h:W.cell? ⟨F,3,none⟩=some u0∧W.cell? ⟨F,4,none⟩=some u1∧W.cell? ⟨F,5,none⟩=some u2∧W.cell? ⟨G,0,none⟩=some v0∧W.cell? ⟨G,1,none⟩=some v1∧W.cell? ⟨G,2,none⟩=some v2):W'.cell? ⟨F,3,none⟩=some u0∧W'.cell? ⟨F,4,none⟩=some u1∧W'.cell? ⟨F,5,none⟩=some u2∧W'.cell? ⟨G,0,none⟩=some v0∧W'.cell? ⟨G,1,none⟩=some v1∧W'.cell? ⟨G,2,none⟩=some v2:=
  ⟨cell_on hb h.1,cell_on hb h.2.1,cell_on hb h.2.2.1,cell_on hb h.2.2.2.1,cell_on hb h.2.2.2.2.1,cell_on hb h.2.2.2.2.2⟩
set_option maxHeartbeats 16000000 in
set_option maxRecDepth 100000 in
theorem rmove_good (nm:ByteArray) (k ax x y z lo hi:Int) (P:Nat→Prop) (A:Option Addr) (c:Nat) (l:List S104) (b1 b2 b3:Int) (r1:ByteArray) (r2 r3 r4 r5 r6 r7 r8:Int) (r9:List S104) (r10:Int) (w:World) (hs:Kd.V k104 104 w w.heap.size P (.slice A l.length c) l) (hok:chkF nm k ax x y z lo hi=0) (h:rmovV nm k ax x y z lo hi l b1 b2 b3=(r1,r2,r3,r4,r5,r6,r7,r8,r9,r10)):
    Calls Try.prog 51 #[.agg (ftV nm k ax x y z lo hi A l.length c),.agg (v3 b1 b2 b3)] w fun e w'=>∃ v8_:Value,e=.returned (.tuple #[.agg (ftU r1 r2 r3 r4 r5 r6 r7 r8 v8_),.int .i64 r10])∧Kd.V k104 104 w' w.heap.size (fun k_=>(P k_∨w.heap.size≤k_)) v8_ r9∧Below w.heap.size w w':=by
  have hu28:=Try.underlying28
  have hu23:=Try.underlying23
  have hu128:=Try.underlying128
  obtain⟨kk,hkk⟩:=(RCheck_ev nm k ax x y z lo hi l).rounds
  obtain⟨_,hc,hr⟩:=Kd.V_reads' hs
  have HR:=Aside0.mk hr
  have HS:=Aside0.mk hs
  rw[hok] at hkk
  unfold rmovV at h
  rw[if_pos hok] at h
  have HH:=Aside0.mk h
  clear h
  clear hok hr hs
  go_enter Try.func51,Try.ntmps51
  go_upto_region 1 with (fail)
  have h0:=heap3Mira w (.cells (ftV nm k ax x y z lo hi A l.length c) 28) (.cells (v3 b1 b2 b3) 23) (.cells ft0 28)
  have h1:=heap3Mirb w (.cells (ftV nm k ax x y z lo hi A l.length c) 28) (.cells (v3 b1 b2 b3) 23) (.cells ft0 28)
  have h2:=heap3Mirc w (.cells (ftV nm k ax x y z lo hi A l.length c) 28) (.cells (v3 b1 b2 b3) 23) (.cells ft0 28)
  have hB:=bel3Mir w (.cells (ftV nm k ax x y z lo hi A l.length c) 28) (.cells (v3 b1 b2 b3) 23) (.cells ft0 28)
  generalize ((w.alloc (.cells (ftV nm k ax x y z lo hi A l.length c) 28)).alloc (.cells (v3 b1 b2 b3) 23)).alloc (.cells ft0 28)=W1 at *
  have c0:=zc h0 0 (.string nm) rfl
  have c1:=zc h0 1 (.int .i64 k) rfl
  have c2:=zc h0 2 (.int .i64 ax) rfl
  have c3:=zc h0 3 (.int .i64 x) rfl
  have c4:=zc h0 4 (.int .i64 y) rfl
  have c5:=zc h0 5 (.int .i64 z) rfl
  have c6:=zc h0 6 (.int .i64 lo) rfl
  have c7:=zc h0 7 (.int .i64 hi) rfl
  have c8:=zc h0 8 (.slice A l.length c) rfl
  go_upto_region 4 with (go_at_call 30;refine(mr_Check.calls kk nm k ax x y z lo hi A c l 0 _ (Kd.C_below HR.out hB) hc hkk).mono ?_;rintro e w' ⟨rfl,hb⟩;have g0:=blk_below h0 hb;have g1:=blk_below h1 hb;have g2:=blk_below h2 hb;have gB:=below_step hB hb;clear hb h0 h1 h2 hB c0 c1 c2 c3 c4 c5 c6 c7 c8)
  have c3:=zc g0 3 (.int .i64 x) rfl
  have c4:=zc g0 4 (.int .i64 y) rfl
  have c5:=zc g0 5 (.int .i64 z) rfl
  have d0:=zc g1 0 (.int .i64 b1) rfl
  have d1:=zc g1 1 (.int .i64 b2) rfl
  have d2:=zc g1 2 (.int .i64 b3) rfl
  have lt2:=blk_lt g2
  go_cut [7,8] (fun v7 v8 wc=>∃ g7 g8,v7=.pointer (some ⟨g7,0,none⟩)∧v8=.pointer (some ⟨g8,0,none⟩)∧wc.heap[g7]?=some (.cells (v3 x y z) 128 (0,0))∧wc.heap[g8]?=some (.cells (v3 b1 b2 b3) 128 (0,0))∧w.heap.size+2 < g7∧w.heap.size+2 < g8∧g7≠g8∧wc.heap[w.heap.size]?=some (.cells (ftV nm k ax x y z lo hi A l.length c) 28 (0,0))∧wc.heap[w.heap.size+2]?=some (.cells ft0 28 (0,0))∧Below w.heap.size w wc)
  case first=>
    rename_i J1 K1 hJ hM
    have HBx:=Aside0.mk (Below.refl w'.heap.size w')
    have HC:=Aside0.mk (And.intro c3 (And.intro c4 (And.intro c5 (And.intro d0 (And.intro d1 d2)))))
    have HG:=Aside0.mk (And.intro g0 (And.intro g2 gB))
    clear c3 c4 c5 d0 d1 d2 g0 g1 g2 gB hkk hu28 hu23 hc
    go_region_held3 (fun w'=>w'.cell? ⟨w.heap.size,3,none⟩=some (Value.int .i64 x)∧w'.cell? ⟨w.heap.size,4,none⟩=some (Value.int .i64 y)∧w'.cell? ⟨w.heap.size,5,none⟩=some (Value.int .i64 z)∧w'.cell? ⟨w.heap.size+1,0,none⟩=some (Value.int .i64 b1)∧w'.cell? ⟨w.heap.size+1,1,none⟩=some (Value.int .i64 b2)∧w'.cell? ⟨w.heap.size+1,2,none⟩=some (Value.int .i64 b3)) (first|(with_reducible exact HC.out)|(refine keep6 ?_ HC.out;(repeat(with_reducible first|refine below_set ?_ (by first|assumption|exact lw|exact Nat.le_succ_of_le lw)|exact HBx.out|apply below_alloc|apply below_drew1)))) (first|(go_at_call 104;with_reducible refine(rcoord_calls _ _ _ _).mono ?_;rintro e w4 ⟨rfl,hb⟩;have hsz:=hb.size;(try simp only[World.size_alloc,World.size_setCell,World.size_drew] at hsz);have HBn:=Aside0.mk (below_step (by repeat(with_reducible first|exact HBx.out|apply below_alloc|apply below_drew1)) hb);(first|((with_reducible have zq:=blk_below za hb);obtain⟨_,_,_,_,_,_⟩:=zall zq;have _:=blk_lt zq;have _:=Nat.ne_of_lt (blk_lt zq);have _:=Nat.ne_of_gt (blk_lt zq))|((with_reducible have zq:=blk_below (blk_alloc za _) hb);obtain⟨_,_,_,_,_,_⟩:=zall zq;have _:=blk_lt zq;have _:=Nat.ne_of_lt (blk_lt zq);have _:=Nat.ne_of_gt (blk_lt zq);have nn:=Nat.ne_of_lt (blk_lt za))|skip);(first|((with_reducible have zr:=blk_below zb hb);obtain⟨_,_,_,_,_,_⟩:=zall zr;have _:=blk_lt zr;have _:=Nat.ne_of_lt (blk_lt zr);have _:=Nat.ne_of_gt (blk_lt zr))|skip);(first|((first|((with_reducible have zb:=blk_below (blk_alloc (blk_new _ _) _) hb);(with_reducible have za:=blk_below (blk_new _ _) hb))|((with_reducible have zb:=blk_below (ze (blk_alloc (blk_new _ _) _)) hb);(with_reducible have za:=blk_below (ze (blk_new _ _)) hb)));(try simp only[World.size_drew] at zb);(try simp only[World.size_alloc,World.size_drew] at za);obtain⟨gb,hgb,zb⟩:=absb zb;(try simp only[World.size_drew]);(try rw[hgb]);have lgb:w'.heap.size≤gb:=(by omega);rw[hgb] at za;obtain⟨ga,hga,za⟩:=absb za;(try rw[hga]);have lga:w'.heap.size≤ga:=(by omega);obtain⟨_,_,_,_,_,_⟩:=zall zb;have _:=blk_lt zb;have _:=Nat.ne_of_lt (blk_lt zb);have _:=Nat.ne_of_gt (blk_lt zb);obtain⟨_,_,_,_,_,_⟩:=zall za;have _:=blk_lt za;have _:=Nat.ne_of_lt (blk_lt za);have _:=Nat.ne_of_gt (blk_lt za);have _:ga≠gb:=(by omega);have _:gb≠ga:=(by omega);clear hga hgb)|((first|(with_reducible have za:=blk_below (blk_new _ _) hb)|(with_reducible have za:=blk_below (ze (blk_new _ _)) hb));(try simp only[World.size_drew] at za);obtain⟨ga,hga,za⟩:=absb za;(try simp only[World.size_drew]);(try rw[hga]);have lga:w'.heap.size≤ga:=(by omega);obtain⟨_,_,_,_,_,_⟩:=zall za;have _:=blk_lt za;have _:=Nat.ne_of_lt (blk_lt za);have _:=Nat.ne_of_gt (blk_lt za);(try(rw[hga] at nn;have _:=nn.symm));clear hga)|skip);clear hb;have HBx:=HBn;have lw:=HBx.out.size;clear HBn))
    all_goals
      refine hM _ _ (Met.intro (hJ _ _ ⟨_,_,_,_,_,_,_,_,_,_,_,_,_,_,_,_,_,_,_,_,_,_,_,_,_,_,_,_,_,_,_,_,_,_,_,_,_,_,_,_,_,_,_,_,_,_,?_,rfl⟩))
      obtain⟨G0,G2,GB⟩:=HG.out
      have k0:=blk_below G0 HBx.out
      have k2:=blk_below G2 HBx.out
      have kB:=below_step GB HBx.out
      clear G0 G2 GB
      refine⟨_,_,rfl,rfl,?_,?_,?_,?_,?_,?_,?_,?_⟩
      · first|(with_reducible exact heap2o _ _ _)|(with_reducible exact heap2 _ _ _)|(with_reducible exact new3 _ _ _ _ _ _)|((with_reducible apply cAp)<;>with_reducible assumption)|((with_reducible apply cFp)<;>with_reducible assumption)|((with_reducible apply cPf)<;>with_reducible assumption)
      · first|(with_reducible exact heap2o _ _ _)|(with_reducible exact heap2 _ _ _)|(with_reducible exact new3 _ _ _ _ _ _)|((with_reducible apply cAp)<;>with_reducible assumption)|((with_reducible apply cFp)<;>with_reducible assumption)|((with_reducible apply cPf)<;>with_reducible assumption)
      · omega
      · omega
      · first|(with_reducible assumption)|omega
      · first|(with_reducible exact blk_alloc (blk_alloc k0 _) _)|((with_reducible refine blk_alloc (far3 k0 ?_ _ _ _) _);omega)|((with_reducible refine far3 (far3 k0 ?_ _ _ _) ?_ _ _ _)<;>omega)
      · first|(with_reducible exact blk_alloc (blk_alloc k2 _) _)|((with_reducible refine blk_alloc (far3 k2 ?_ _ _ _) _);omega)|((with_reducible refine far3 (far3 k2 ?_ _ _ _) ?_ _ _ _)<;>omega)
      · first|(with_reducible exact below_alloc (below_alloc kB _) _)|((with_reducible refine below_alloc (bel3 kB ?_ _ _ _) _);omega)|((with_reducible refine bel3 (bel3 kB ?_ _ _ _) ?_ _ _ _)<;>omega)
  case rest=>
    clear c3 c4 c5 d0 d1 d2 g0 g1 g2 gB
    obtain⟨g7,g8,rfl,rfl,r7,r8,l7,l8,n78,k0,k2,kB⟩:=hcut
    have e0:=zc r8 0 (.int .i64 b1) rfl
    have e1:=zc r8 1 (.int .i64 b2) rfl
    have e2:=zc r8 2 (.int .i64 b3) rfl
    have IN:∀(a:Int) (W:World),Calls Try.prog 66 #[.int .i64 a] W fun e w'=>e=.returned (.bool (inR a))∧Drawn0 W w':=fun a W=>mq_In.calls a (inR a) W (rin_eq a)
    have IN:=Aside0.mk IN
    by_cases hb:in3 b1 b2 b3=true
    · have hb':=hb
      simp only[in3,Bool.and_eq_true] at hb'
      obtain⟨q1,q2,q3⟩:=hb'
      go_wp2_with (fail)
      with_reducible refine wp_loop_rounds 4 ?_
      iterate 4 (rw[rounds_succ];go_wp2_with (go_at_call 66;(with_reducible refine(IN.out _ _).mono ?_);rintro e w' ⟨rfl,⟨nd,rfl⟩⟩))
      clear e0 e1 e2
      have e0:=zc r8 0 (.int .i64 b1) rfl
      have e1:=zc r8 1 (.int .i64 b2) rfl
      have e2:=zc r8 2 (.int .i64 b3) rfl
      have a0:=zc r7 0 (.int .i64 x) rfl
      have a1:=zc r7 1 (.int .i64 y) rfl
      have a2:=zc r7 2 (.int .i64 z) rfl
      have f0:=zf r7 0
      have f1:=zf r7 1
      have f2:=zf r7 2
      have hR:w.heap.size+1+1≠g7:=by omega
      by_cases hs3:in3 (wrap64 (x+b1)) (wrap64 (y+b2)) (wrap64 (z+b3))=true
      · have hB:(in3 b1 b2 b3&&in3 (wrap64 (x+b1)) (wrap64 (y+b2)) (wrap64 (z+b3)))=true:=by rw[hb,hs3];rfl
        have hh:=HH.out
        simp only[if_pos hB,Prod.mk.injEq] at hh
        obtain⟨rfl,rfl,rfl,v1,v2,v3,rfl,rfl,rfl,rfl⟩:=hh
        have V:=Aside0.mk (And.intro v1 (And.intro v2 v3))
        clear v1 v2 v3
        simp only[in3,Bool.and_eq_true] at hs3
        obtain⟨t1,t2,t3⟩:=hs3
        clear HH hB hb
        with_reducible refine wp_loop_rounds 4 ?_
        iterate 3 (rw[rounds_succ];go_wp2_with (fail);go_region;go_wp2_with (go_at_call 66;(with_reducible refine(IN.out _ _).mono ?_);rintro e w' ⟨rfl,⟨nd,rfl⟩⟩))
        rw[rounds_succ]
        go_wp2_with (fail)
        rw[V.out.1,V.out.2.1,V.out.2.2]
        refine genW (fun W5=>W5.heap[g7]?=some (.cells (v3 r4 r5 r6) 128 (0,0))∧W5.heap[w.heap.size]?=some (.cells (ftV nm k ax x y z lo hi A l.length c) 28 (0,0))∧W5.heap[w.heap.size+2]?=some (.cells ft0 28 (0,0))∧Below w.heap.size w W5) ?_ ?_
        · exact⟨zd (blk_put (zd (blk_put (zd (blk_put (zd r7 _) 0 _ rfl) _) 1 _ rfl) _) 2 _ rfl) _,zd (blk_far (zd (blk_far (zd (blk_far (zd k0 _) (by show w.heap.size≠g7;omega) _) _) (by show w.heap.size≠g7;omega) _) _) (by show w.heap.size≠g7;omega) _) _,zd (blk_far (zd (blk_far (zd (blk_far (zd k2 _) (by show w.heap.size+2≠g7;omega) _) _) (by show w.heap.size+2≠g7;omega) _) _) (by show w.heap.size+2≠g7;omega) _) _,zD (zS (zD (zS (zD (zS (zD kB _) (by omega)) _) (by omega)) _) (by omega)) _⟩
        clear e0 e1 e2 a0 a1 a2 f0 f1 f2 q1 q2 q3 t1 t2 t3 r7 r8 k0 k2 kB
        rintro W5 ⟨m7,m0,m2,mB⟩
        have lt2:=blk_lt m2
        have HC:=Aside0.mk (And.intro (zc m0 0 (.string nm) rfl) (And.intro (zc m0 1 (.int .i64 k) rfl) (And.intro (zc m0 2 (.int .i64 ax) rfl) (And.intro (zc m0 3 (.int .i64 x) rfl) (And.intro (zc m0 4 (.int .i64 y) rfl) (And.intro (zc m0 5 (.int .i64 z) rfl) (And.intro (zc m0 6 (.int .i64 lo) rfl) (And.intro (zc m0 7 (.int .i64 hi) rfl) (And.intro (zc m0 8 (.slice A l.length c) rfl) (And.intro (zc m7 0 (.int .i64 r4) rfl) (And.intro (zc m7 1 (.int .i64 r5) rfl) (zc m7 2 (.int .i64 r6) rfl))))))))))))
        have HBx:=Aside0.mk (Below.refl W5.heap.size W5)
        have AT:Aside0 (∀ W,Below W5.heap.size W5 W→Calls Try.prog 105 #[.agg (ftV nm k ax x y z lo hi A l.length c),.agg (v3 r4 r5 r6)] W fun e w'=>∃ v8_:Value,e=.returned (.agg (ftU nm k ax r4 r5 r6 lo hi v8_))∧Kd.V k104 104 w' W.heap.size (fun k_=>((P k_∧k_ < w.heap.size)∨W.heap.size≤k_)) v8_ l∧Below W.heap.size W w'):=⟨fun W hW=>mr_at.calls nm k ax x y z lo hi (fun k_=>P k_∧k_ < w.heap.size) A c l r4 r5 r6 nm k ax r4 r5 r6 lo hi l W (Kd.V_map (Kd.V_bound HS.out) (fun _ hf=>Kd.F_below hf (below_step mB hW))) rfl⟩
        have HM:=Aside0.mk (And.intro m2 mB)
        clear m0 m2 m7 mB hkk hu28 hu23 hc hu128
        go_region_held3 (fun w'=>w'.cell? ⟨w.heap.size,0,none⟩=some (Value.string nm)∧w'.cell? ⟨w.heap.size,1,none⟩=some (Value.int .i64 k)∧w'.cell? ⟨w.heap.size,2,none⟩=some (Value.int .i64 ax)∧w'.cell? ⟨w.heap.size,3,none⟩=some (Value.int .i64 x)∧w'.cell? ⟨w.heap.size,4,none⟩=some (Value.int .i64 y)∧w'.cell? ⟨w.heap.size,5,none⟩=some (Value.int .i64 z)∧w'.cell? ⟨w.heap.size,6,none⟩=some (Value.int .i64 lo)∧w'.cell? ⟨w.heap.size,7,none⟩=some (Value.int .i64 hi)∧w'.cell? ⟨w.heap.size,8,none⟩=some (Value.slice A l.length c)∧w'.cell? ⟨g7,0,none⟩=some (Value.int .i64 r4)∧w'.cell? ⟨g7,1,none⟩=some (Value.int .i64 r5)∧w'.cell? ⟨g7,2,none⟩=some (Value.int .i64 r6)) (first|(with_reducible exact HC.out)|(refine keepC ?_ HC.out;(repeat(with_reducible first|refine onS (by omega) (by omega) ?_|refine onB ?_));(repeat(with_reducible first|exact HBx.out|apply below_alloc|apply below_drew1)))) (first|(go_at_call 106;(with_reducible refine(rplace_calls _ _ _ _).mono ?_);rintro e w4 ⟨rfl,hb⟩;have HBn:=Aside0.mk (below_step (by repeat(with_reducible first|exact HBx.out|apply below_alloc|apply below_drew1)) hb);clear hb;have HBx:=HBn;have lw:=HBx.out.size;clear HBn)|(go_at_call 105;(with_reducible refine(AT.out _ (by repeat(with_reducible first|exact HBx.out|apply below_alloc|apply below_drew1))).mono ?_);rintro e w4 ⟨v8,rfl,hV,hb⟩;obtain⟨A',c',rfl,hle,hF⟩:=hV;have HBn:=Aside0.mk (below_step (by repeat(with_reducible first|exact HBx.out|apply below_alloc|apply below_drew1)) hb);clear hb;have HBx:=HBn;clear HBn;have HF:=Aside0.mk (And.intro hle hF);clear hle hF;have j2:=blk_below HM.out.1 HBx.out;have _:=zc j2 0 _ rfl;have _:=zf j2 0;have _:=zc j2 1 _ rfl;have _:=zf j2 1;have _:=zc j2 2 _ rfl;have _:=zf j2 2;have _:=zc j2 3 _ rfl;have _:=zf j2 3;have _:=zc j2 4 _ rfl;have _:=zf j2 4;have _:=zc j2 5 _ rfl;have _:=zf j2 5;have _:=zc j2 6 _ rfl;have _:=zf j2 6;have _:=zc j2 7 _ rfl;have _:=zf j2 7;have _:=zc j2 8 _ rfl;have _:=zf j2 8;have J2:=Aside0.mk j2;clear j2))
        go_wp2
        refine bodyPost_ret (results_ct rfl _ _ (w.heap.size+1+1) 28 (ftV nm k ax r4 r5 r6 lo hi A' l.length c') (0,0) _ rfl (zP J2.out _ _ _ _ _ _ _ _ _) Try.underlying28 rfl (by kernel_rfl)) rfl ?_
        exact⟨_,rfl,Kd.V_mono (zV (w.heap.size+1+1) (ok:=fun k_=>((P k_∧k_ < w.heap.size)∨w.heap.size+2 < k_)) (Kd.V_mk HF.out.1 (Kd.F_mono HF.out.2 (fun k hk=>by rcases hk with h|h;exact .inl h;exact .inr (by omega)))) (fun k hk=>by omega) _ _ _ _ _ _ _ _ _) (fun k hk=>by rcases hk with h|h;exact .inl h.1;exact .inr (by omega)),by repeat(with_reducible first|exact below_step HM.out.2 HBx.out|refine zS ?_ (by omega))⟩
      · have hB:¬(in3 b1 b2 b3&&in3 (wrap64 (x+b1)) (wrap64 (y+b2)) (wrap64 (z+b3)))=true:=by rw[Bool.and_eq_true];exact fun h=>hs3 h.2
        have hh:=HH.out
        simp only[if_neg hB,Prod.mk.injEq] at hh
        obtain⟨rfl,rfl,rfl,rfl,rfl,rfl,rfl,rfl,rfl,rfl⟩:=hh
        have h3:=far_cases hs3
        clear HH hB hb hs3
        with_reducible refine wp_loop_rounds 4 ?_
        rcases h3 with t1|⟨t1,t2⟩|⟨t1,t2,t3⟩
        · rw[rounds_succ];go_wp2_with (fail);go_region;go_wp2_with (first|(go_at_call 66;(with_reducible refine(IN.out _ _).mono ?_);rintro e w' ⟨rfl,⟨nd,rfl⟩⟩)|((with_reducible refine gate_store (t:=28) (p:=4) rfl ?_);refine wpList_store_row rfl 28 (.tmp 4) (.tmp 50) rfl (w.heap.size+1+1) ft0 rfl rfl 28 ft0 (by repeat(with_reducible first|exact k2|apply zd|apply ze|refine blk_far ?_ hR _)) (by kernel_rfl) rfl (by simp[Value.oneCell']) ?_))
          refine bodyPost_ret (results_ct rfl _ _ (w.heap.size+1+1) 28 ft0 (0,0) _ rfl (row_new (old:=ft0) (by repeat(with_reducible first|exact k2|apply zd|apply ze|refine blk_far ?_ hR _))) Try.underlying28 rfl (by kernel_rfl)) rfl ?_
          exact⟨_,rfl,Kd.V_nil _ _ _ _ _,row_bel (by repeat(with_reducible first|exact kB|apply zD|apply zE|refine zS ?_ (by omega))) (by omega)⟩
        · iterate 2 (rw[rounds_succ];go_wp2_with (fail);go_region;go_wp2_with (first|(go_at_call 66;(with_reducible refine(IN.out _ _).mono ?_);rintro e w' ⟨rfl,⟨nd,rfl⟩⟩)|((with_reducible refine gate_store (t:=28) (p:=4) rfl ?_);refine wpList_store_row rfl 28 (.tmp 4) (.tmp 50) rfl (w.heap.size+1+1) ft0 rfl rfl 28 ft0 (by repeat(with_reducible first|exact k2|apply zd|apply ze|refine blk_far ?_ hR _)) (by kernel_rfl) rfl (by simp[Value.oneCell']) ?_)))
          refine bodyPost_ret (results_ct rfl _ _ (w.heap.size+1+1) 28 ft0 (0,0) _ rfl (row_new (old:=ft0) (by repeat(with_reducible first|exact k2|apply zd|apply ze|refine blk_far ?_ hR _))) Try.underlying28 rfl (by kernel_rfl)) rfl ?_
          exact⟨_,rfl,Kd.V_nil _ _ _ _ _,row_bel (by repeat(with_reducible first|exact kB|apply zD|apply zE|refine zS ?_ (by omega))) (by omega)⟩
        · iterate 3 (rw[rounds_succ];go_wp2_with (fail);go_region;go_wp2_with (first|(go_at_call 66;(with_reducible refine(IN.out _ _).mono ?_);rintro e w' ⟨rfl,⟨nd,rfl⟩⟩)|((with_reducible refine gate_store (t:=28) (p:=4) rfl ?_);refine wpList_store_row rfl 28 (.tmp 4) (.tmp 50) rfl (w.heap.size+1+1) ft0 rfl rfl 28 ft0 (by repeat(with_reducible first|exact k2|apply zd|apply ze|refine blk_far ?_ hR _)) (by kernel_rfl) rfl (by simp[Value.oneCell']) ?_)))
          refine bodyPost_ret (results_ct rfl _ _ (w.heap.size+1+1) 28 ft0 (0,0) _ rfl (row_new (old:=ft0) (by repeat(with_reducible first|exact k2|apply zd|apply ze|refine blk_far ?_ hR _))) Try.underlying28 rfl (by kernel_rfl)) rfl ?_
          exact⟨_,rfl,Kd.V_nil _ _ _ _ _,row_bel (by repeat(with_reducible first|exact kB|apply zD|apply zE|refine zS ?_ (by omega))) (by omega)⟩
    · have hB:¬(in3 b1 b2 b3&&in3 (wrap64 (x+b1)) (wrap64 (y+b2)) (wrap64 (z+b3)))=true:=by rw[Bool.and_eq_true];exact fun h=>hb h.1
      have hh:=HH.out
      simp only[if_neg hB,Prod.mk.injEq] at hh
      obtain⟨rfl,rfl,rfl,rfl,rfl,rfl,rfl,rfl,rfl,rfl⟩:=hh
      have h3:=far_cases hb
      have hR:w.heap.size+1+1≠g7:=by omega
      clear HH hB hb
      go_wp2_with (fail)
      with_reducible refine wp_loop_rounds 4 ?_
      rcases h3 with q1|⟨q1,q2⟩|⟨q1,q2,q3⟩
      · rw[rounds_succ];go_wp2_with (first|(go_at_call 66;(with_reducible refine(IN.out _ _).mono ?_);rintro e w' ⟨rfl,⟨nd,rfl⟩⟩)|((with_reducible refine gate_store (t:=28) (p:=4) rfl ?_);refine wpList_store_row rfl 28 (.tmp 4) (.tmp 31) rfl (w.heap.size+1+1) ft0 rfl rfl 28 ft0 (by repeat(with_reducible first|exact k2|apply zd|apply ze|refine blk_far ?_ hR _)) (by kernel_rfl) rfl (by simp[Value.oneCell']) ?_))
        refine bodyPost_ret (results_ct rfl _ _ (w.heap.size+1+1) 28 ft0 (0,0) _ rfl (row_new (old:=ft0) (by repeat(with_reducible first|exact k2|apply zd|apply ze|refine blk_far ?_ hR _))) Try.underlying28 rfl (by kernel_rfl)) rfl ?_
        exact⟨_,rfl,Kd.V_nil _ _ _ _ _,row_bel (by repeat(with_reducible first|exact kB|apply zD|apply zE|refine zS ?_ (by omega))) (by omega)⟩
      · iterate 2 (rw[rounds_succ];go_wp2_with (first|(go_at_call 66;(with_reducible refine(IN.out _ _).mono ?_);rintro e w' ⟨rfl,⟨nd,rfl⟩⟩)|((with_reducible refine gate_store (t:=28) (p:=4) rfl ?_);refine wpList_store_row rfl 28 (.tmp 4) (.tmp 31) rfl (w.heap.size+1+1) ft0 rfl rfl 28 ft0 (by repeat(with_reducible first|exact k2|apply zd|apply ze|refine blk_far ?_ hR _)) (by kernel_rfl) rfl (by simp[Value.oneCell']) ?_)))
        refine bodyPost_ret (results_ct rfl _ _ (w.heap.size+1+1) 28 ft0 (0,0) _ rfl (row_new (old:=ft0) (by repeat(with_reducible first|exact k2|apply zd|apply ze|refine blk_far ?_ hR _))) Try.underlying28 rfl (by kernel_rfl)) rfl ?_
        exact⟨_,rfl,Kd.V_nil _ _ _ _ _,row_bel (by repeat(with_reducible first|exact kB|apply zD|apply zE|refine zS ?_ (by omega))) (by omega)⟩
      · iterate 3 (rw[rounds_succ];go_wp2_with (first|(go_at_call 66;(with_reducible refine(IN.out _ _).mono ?_);rintro e w' ⟨rfl,⟨nd,rfl⟩⟩)|((with_reducible refine gate_store (t:=28) (p:=4) rfl ?_);refine wpList_store_row rfl 28 (.tmp 4) (.tmp 31) rfl (w.heap.size+1+1) ft0 rfl rfl 28 ft0 (by repeat(with_reducible first|exact k2|apply zd|apply ze|refine blk_far ?_ hR _)) (by kernel_rfl) rfl (by simp[Value.oneCell']) ?_)))
        refine bodyPost_ret (results_ct rfl _ _ (w.heap.size+1+1) 28 ft0 (0,0) _ rfl (row_new (old:=ft0) (by repeat(with_reducible first|exact k2|apply zd|apply ze|refine blk_far ?_ hR _))) Try.underlying28 rfl (by kernel_rfl)) rfl ?_
        exact⟨_,rfl,Kd.V_nil _ _ _ _ _,row_bel (by repeat(with_reducible first|exact kB|apply zD|apply zE|refine zS ?_ (by omega))) (by omega)⟩
set_option maxHeartbeats 16000000 in
set_option maxRecDepth 100000 in
theorem rmove_bad (nm:ByteArray) (k ax x y z lo hi:Int) (A:Option Addr) (c:Nat) (l:List S104) (b1 b2 b3:Int) (w:World) (hr:Kd.C k104 w A l.length l) (hc:l.length≤c) (hne:chkF nm k ax x y z lo hi≠0):
    Calls Try.prog 51 #[.agg (ftV nm k ax x y z lo hi A l.length c),.agg (v3 b1 b2 b3)] w fun e w'=>e=.returned (.tuple #[.agg ft0,.int .i64 (chkF nm k ax x y z lo hi)])∧Below w.heap.size w w':=by
  have hu28:=Try.underlying28
  have hu23:=Try.underlying23
  obtain⟨kk,hkk⟩:=(RCheck_ev nm k ax x y z lo hi l).rounds
  have HR:=Aside0.mk hr
  clear hr
  have n0:(chkF nm k ax x y z lo hi==0)=false:=beq_eq_false_iff_ne.2 hne
  have n1:(chkF nm k ax x y z lo hi != 0)=true:=bne_iff_ne.2 hne
  generalize chkF nm k ax x y z lo hi=er at *
  clear hne
  go_enter Try.func51,Try.ntmps51
  go_upto_region 1 with (fail)
  have h0:=heap3Mira w (.cells (ftV nm k ax x y z lo hi A l.length c) 28) (.cells (v3 b1 b2 b3) 23) (.cells ft0 28)
  have h2:=heap3Mirc w (.cells (ftV nm k ax x y z lo hi A l.length c) 28) (.cells (v3 b1 b2 b3) 23) (.cells ft0 28)
  have hB:=bel3Mir w (.cells (ftV nm k ax x y z lo hi A l.length c) 28) (.cells (v3 b1 b2 b3) 23) (.cells ft0 28)
  generalize ((w.alloc (.cells (ftV nm k ax x y z lo hi A l.length c) 28)).alloc (.cells (v3 b1 b2 b3) 23)).alloc (.cells ft0 28)=W1 at *
  have c0:=zc h0 0 (.string nm) rfl
  have c1:=zc h0 1 (.int .i64 k) rfl
  have c2:=zc h0 2 (.int .i64 ax) rfl
  have c3:=zc h0 3 (.int .i64 x) rfl
  have c4:=zc h0 4 (.int .i64 y) rfl
  have c5:=zc h0 5 (.int .i64 z) rfl
  have c6:=zc h0 6 (.int .i64 lo) rfl
  have c7:=zc h0 7 (.int .i64 hi) rfl
  have c8:=zc h0 8 (.slice A l.length c) rfl
  go_wp2_with (first|((with_reducible refine gate_store (t:=28) (p:=4) rfl ?_);refine wpList_store_row rfl 28 (.tmp 4) (.tmp 15) rfl (w.heap.size+1+1) ft0 rfl rfl 28 ft0 g2 (by kernel_rfl) rfl (by simp[Value.oneCell']) ?_)|(go_at_call 30;refine(mr_Check.calls kk nm k ax x y z lo hi A c l _ _ (Kd.C_below HR.out hB) hc hkk).mono ?_;rintro e w' ⟨rfl,hb⟩;have g2:=blk_below h2 hb;have gB:=below_step hB hb;clear hb c0 c1 c2 c3 c4 c5 c6 c7 c8;have HG:=Aside0.mk g2))
  refine bodyPost_ret (results_ct rfl _ _ (w.heap.size+1+1) 28 ft0 (0,0) _ rfl (row_new g2) Try.underlying28 rfl (by kernel_rfl)) rfl ?_
  exact⟨rfl,row_bel gB (by omega)⟩
theorem rmove_calls (a0_0:ByteArray) (a0_1 a0_2 a0_3 a0_4 a0_5 a0_6 a0_7:Int) (P0_8_:Nat→Prop) (A0_8:Option Addr) (c0_8:Nat) (l0_8:List S104) (a1_0 a1_1 a1_2:Int) (r1:ByteArray) (r2 r3 r4 r5 r6 r7 r8:Int) (r9:List S104) (r10:Int) (w:World)
    (hs0_8:Kd.V k104 104 w w.heap.size (fun k_=>P0_8_ k_) (.slice A0_8 l0_8.length c0_8) l0_8) (h:rmovV a0_0 a0_1 a0_2 a0_3 a0_4 a0_5 a0_6 a0_7 l0_8 a1_0 a1_1 a1_2=(r1,r2,r3,r4,r5,r6,r7,r8,r9,r10)):
    Calls Try.prog 51 #[.agg #[.string a0_0,.int .i64 a0_1,.int .i64 a0_2,.int .i64 a0_3,.int .i64 a0_4,.int .i64 a0_5,.int .i64 a0_6,.int .i64 a0_7,.slice A0_8 l0_8.length c0_8],.agg #[.int .i64 a1_0,.int .i64 a1_1,.int .i64 a1_2]] w fun e w'=>∃ v8_:Value,e=.returned (.tuple #[.agg #[.string r1,.int .i64 r2,.int .i64 r3,.int .i64 r4,.int .i64 r5,.int .i64 r6,.int .i64 r7,.int .i64 r8,v8_],.int .i64 r10])∧Kd.V k104 104 w' w.heap.size (fun k_=>(P0_8_ k_∨w.heap.size≤k_)) v8_ r9∧Below w.heap.size w w':=by
  have hc:=Kd.V_reads' hs0_8
  by_cases hk:chkF a0_0 a0_1 a0_2 a0_3 a0_4 a0_5 a0_6 a0_7=0
  · exact rmove_good a0_0 a0_1 a0_2 a0_3 a0_4 a0_5 a0_6 a0_7 P0_8_ A0_8 c0_8 l0_8 a1_0 a1_1 a1_2 r1 r2 r3 r4 r5 r6 r7 r8 r9 r10 w hs0_8 hk h
  · unfold rmovV at h
    rw[if_neg hk] at h
    simp only[Prod.mk.injEq] at h
    obtain⟨rfl,rfl,rfl,rfl,rfl,rfl,rfl,rfl,rfl,rfl⟩:=h
    exact(rmove_bad a0_0 a0_1 a0_2 a0_3 a0_4 a0_5 a0_6 a0_7 A0_8 c0_8 l0_8 a1_0 a1_1 a1_2 w hc.2.2 hc.2.1 hk).mono fun e w' ⟨he,hb⟩=>⟨_,he,Kd.V_nil _ _ _ _ _,hb⟩
end Go.Proofs.Ytkgdlbepjmgaiaa.Fea
namespace Go.Proofs.Ytkgdlbepjmgaiaa.Fea
open Go.RowKit YtkgdlbepjmgaiaaW.PrintWords YtkgdlbepjmgaiaaW.PrintLast YtkgdlbepjmgaiaaW.PrintMore
attribute [local go_sem] max2_int min2_int max_two min_two max_three min_three max_four min_four
def mr_Move.f (a0_0:ByteArray) (a0_1 a0_2 a0_3 a0_4 a0_5 a0_6 a0_7:Int) (l0_8:List (S104)) (a1_0 a1_1 a1_2:Int):Option (ByteArray×Int×Int×Int×Int×Int×Int×Int×(List (S104))×Int):=some (rmovV a0_0 a0_1 a0_2 a0_3 a0_4 a0_5 a0_6 a0_7 l0_8 a1_0 a1_1 a1_2)
theorem mr_Move.calls (a0_0:ByteArray) (a0_1 a0_2 a0_3 a0_4 a0_5 a0_6 a0_7:Int) (P0_8_:Nat→Prop) (A0_8:Option Addr) (c0_8:Nat) (l0_8:List (S104)) (a1_0 a1_1 a1_2:Int) (r1:ByteArray) (r2 r3 r4 r5 r6 r7 r8:Int) (r9:List (S104)) (r10:Int) (w:World) (hs0_8:Kd.V k104 104 w w.heap.size (fun k_=>P0_8_ k_) (.slice A0_8 l0_8.length c0_8) l0_8) (h:mr_Move.f a0_0 a0_1 a0_2 a0_3 a0_4 a0_5 a0_6 a0_7 l0_8 a1_0 a1_1 a1_2=some (r1,r2,r3,r4,r5,r6,r7,r8,r9,r10)):
    Calls Try.prog 51 #[.agg #[.string a0_0,.int .i64 a0_1,.int .i64 a0_2,.int .i64 a0_3,.int .i64 a0_4,.int .i64 a0_5,.int .i64 a0_6,.int .i64 a0_7,.slice A0_8 l0_8.length c0_8],.agg #[.int .i64 a1_0,.int .i64 a1_1,.int .i64 a1_2]] w fun e w'=>∃ v8_:Value,e=.returned (.tuple #[.agg #[.string r1,.int .i64 r2,.int .i64 r3,.int .i64 r4,.int .i64 r5,.int .i64 r6,.int .i64 r7,.int .i64 r8,v8_],.int .i64 r10])∧Kd.V k104 104 w' w.heap.size (fun k_=>(P0_8_ k_∨w.heap.size≤k_)) v8_ r9∧Below w.heap.size w w':=
  rmove_calls a0_0 a0_1 a0_2 a0_3 a0_4 a0_5 a0_6 a0_7 P0_8_ A0_8 c0_8 l0_8 a1_0 a1_1 a1_2 r1 r2 r3 r4 r5 r6 r7 r8 r9 r10 w hs0_8 (Option.some.inj h)
end Go.Proofs.Ytkgdlbepjmgaiaa.Fea
namespace Go.Proofs.Ytkgdlbepjmgaiaa.Fea
open Go.RowKit YtkgdlbepjmgaiaaW.PrintWords YtkgdlbepjmgaiaaW.PrintLast YtkgdlbepjmgaiaaW.PrintMore
theorem given_evM (nm:ByteArray) (k ax x y z lo hi:Int) (l:List S104) (a:Int):Ev (fun n=>mr_given.f n nm k ax x y z lo hi l a) (alongV nm k ax x y z lo hi a):=by
  have e:mr_Axis.f a=some (axV a):=by
    unfold mr_Axis.f axV
    by_cases h:0≤a∧a < 3
    · rw[if_pos h,if_neg (by omega),if_neg (by omega)]
    · rw[if_neg h]
      by_cases h1:a < 0
      · rw[if_pos h1]
      · rw[if_neg h1,if_pos (by omega)]
  unfold mr_given.f alongV
  simp only[e,Option.bind_some]
  exact Ev.bind (RCheck_ev nm k ax x y z lo hi l) (Ev.ite2 (Ev.now _) (Ev.now _))
set_option maxHeartbeats 16000000 in
set_option maxRecDepth 100000 in
theorem rturn_bad (nm:ByteArray) (k ax x y z lo hi:Int) (A:Option Addr) (c:Nat) (l:List S104) (a:Int) (w:World) (hr:Kd.C k104 w A l.length l) (hc:l.length≤c) (hne:alongV nm k ax x y z lo hi a≠0):
    Calls Try.prog 53 #[.agg (ftV nm k ax x y z lo hi A l.length c),.int .i64 a] w fun e w'=>e=.returned (.tuple #[.agg ft0,.int .i64 (alongV nm k ax x y z lo hi a)])∧Below w.heap.size w w':=by
  have hu28:=Try.underlying28
  have hu23:=Try.underlying23
  obtain⟨kk,hkk⟩:=(given_evM nm k ax x y z lo hi l a).rounds
  have HR:=Aside0.mk hr
  clear hr
  have n0:(alongV nm k ax x y z lo hi a==0)=false:=beq_eq_false_iff_ne.2 hne
  have n1:(alongV nm k ax x y z lo hi a != 0)=true:=bne_iff_ne.2 hne
  generalize alongV nm k ax x y z lo hi a=er at *
  clear hne
  go_enter Try.func53,Try.ntmps53
  go_upto_region 1 with (fail)
  have h0:=heap2o w (.cells (ftV nm k ax x y z lo hi A l.length c) 28) (.cells ft0 28)
  have h1:=heap2 w (.cells (ftV nm k ax x y z lo hi A l.length c) 28) (.cells ft0 28)
  have hB:=bel2 w (.cells (ftV nm k ax x y z lo hi A l.length c) 28) (.cells ft0 28)
  generalize (w.alloc (.cells (ftV nm k ax x y z lo hi A l.length c) 28)).alloc (.cells ft0 28)=W1 at *
  have c0:=zc h0 0 (.string nm) rfl
  have c1:=zc h0 1 (.int .i64 k) rfl
  have c2:=zc h0 2 (.int .i64 ax) rfl
  have c3:=zc h0 3 (.int .i64 x) rfl
  have c4:=zc h0 4 (.int .i64 y) rfl
  have c5:=zc h0 5 (.int .i64 z) rfl
  have c6:=zc h0 6 (.int .i64 lo) rfl
  have c7:=zc h0 7 (.int .i64 hi) rfl
  have c8:=zc h0 8 (.slice A l.length c) rfl
  go_wp2_with (first|((with_reducible refine gate_store (t:=28) (p:=4) rfl ?_);refine wpList_store_row rfl 28 (.tmp 4) (.tmp 15) rfl (w.heap.size+1) ft0 rfl rfl 28 ft0 g1 (by kernel_rfl) rfl (by simp[Value.oneCell']) ?_)|(go_at_call 72;refine(mr_given.calls kk nm k ax x y z lo hi A c l a _ _ (Kd.C_below HR.out hB) hc hkk).mono ?_;rintro e w' ⟨rfl,hb⟩;have g0:=blk_below h0 hb;have g1:=blk_below h1 hb;have gB:=below_step hB hb;clear hb c0 c1 c2 c3 c4 c5 c6 c7 c8;have HG:=Aside0.mk g1))
  refine bodyPost_ret (results_ct rfl _ _ (w.heap.size+1) 28 ft0 (0,0) _ rfl (row_new g1) Try.underlying28 rfl (by kernel_rfl)) rfl ?_
  exact⟨rfl,row_bel gB (by omega)⟩
def trn (k ax a:Int):Int:=if k=4 then ax else if ax=a then ax else 3 - a - ax
set_option maxHeartbeats 16000000 in
set_option maxRecDepth 100000 in
theorem rturn_ok (nm:ByteArray) (k ax x y z lo hi:Int) (P:Nat→Prop) (A:Option Addr) (c:Nat) (l:List S104) (a:Int) (w:World) (hs:Kd.V k104 104 w w.heap.size P (.slice A l.length c) l) (hok:alongV nm k ax x y z lo hi a=0):
    Calls Try.prog 53 #[.agg (ftV nm k ax x y z lo hi A l.length c),.int .i64 a] w fun e w'=>∃ v8_:Value,e=.returned (.tuple #[.agg (ftU nm k (trn k ax a) (turn3 x y z a).1 (turn3 x y z a).2.1 (turn3 x y z a).2.2 lo hi v8_),.int .i64 0])∧Kd.V k104 104 w' w.heap.size (fun k_=>(P k_∨w.heap.size≤k_)) v8_ l∧Below w.heap.size w w':=by
  have hu28:=Try.underlying28
  have hu23:=Try.underlying23
  obtain⟨kk,hkk⟩:=(given_evM nm k ax x y z lo hi l a).rounds
  obtain⟨_,hc,hr⟩:=Kd.V_reads' hs
  have HR:=Aside0.mk hr
  have HS:=Aside0.mk hs
  obtain⟨hch,h3⟩:=alongV_ok.1 hok
  obtain⟨_,hq⟩:=chkF_ok.1 hch
  rw[hok] at hkk
  have HQ:=Aside0.mk hq
  have H3:=Aside0.mk h3
  have ex:IntKind.i64.wrap (-x)=-x:=IntWalk.i64_in _ (by have:=hq.x1;omega)
  have ey:IntKind.i64.wrap (-y)=-y:=IntWalk.i64_in _ (by have:=hq.y1;omega)
  have ez:IntKind.i64.wrap (-z)=-z:=IntWalk.i64_in _ (by have:=hq.z1;omega)
  have ea:IntKind.i64.wrap (3 - a)=3 - a:=IntWalk.i64_in _ (by omega)
  have eb:IntKind.i64.wrap (3 - a - ax)=3 - a - ax:=IntWalk.i64_in _ (by have:=hq.a1;have:=hq.a2;omega)
  clear hq h3 hok hch hr hs
  generalize hT:trn k ax a=tx at *
  have HT:=Aside0.mk hT
  clear hT
  unfold trn at HT
  generalize he:turn3 x y z a=p at *
  have HE:=Aside0.mk he
  clear he
  go_enter Try.func53,Try.ntmps53
  go_upto_region 1 with (fail)
  have h0:=heap2o w (.cells (ftV nm k ax x y z lo hi A l.length c) 28) (.cells ft0 28)
  have h1:=heap2 w (.cells (ftV nm k ax x y z lo hi A l.length c) 28) (.cells ft0 28)
  have hB:=bel2 w (.cells (ftV nm k ax x y z lo hi A l.length c) 28) (.cells ft0 28)
  generalize (w.alloc (.cells (ftV nm k ax x y z lo hi A l.length c) 28)).alloc (.cells ft0 28)=W1 at *
  have c0:=zc h0 0 (.string nm) rfl
  have c1:=zc h0 1 (.int .i64 k) rfl
  have c2:=zc h0 2 (.int .i64 ax) rfl
  have c3:=zc h0 3 (.int .i64 x) rfl
  have c4:=zc h0 4 (.int .i64 y) rfl
  have c5:=zc h0 5 (.int .i64 z) rfl
  have c6:=zc h0 6 (.int .i64 lo) rfl
  have c7:=zc h0 7 (.int .i64 hi) rfl
  have c8:=zc h0 8 (.slice A l.length c) rfl
  go_upto_region 4 with (go_at_call 72;refine(mr_given.calls kk nm k ax x y z lo hi A c l a 0 _ (Kd.C_below HR.out hB) hc hkk).mono ?_;rintro e w' ⟨rfl,hb⟩;have g0:=blk_below h0 hb;have g1:=blk_below h1 hb;have gB:=below_step hB hb;clear hb h0 h1 hB c0 c1 c2 c3 c4 c5 c6 c7 c8)
  have c3:=zc g0 3 (.int .i64 x) rfl
  have c4:=zc g0 4 (.int .i64 y) rfl
  have c5:=zc g0 5 (.int .i64 z) rfl
  go_upto_region 5 with (fail)
  have r7:=blk_new w' (.cells (v3 x y z) 23)
  have k0:=blk_alloc g0 (.cells (v3 x y z) 23)
  have k1:=blk_alloc g1 (.cells (v3 x y z) 23)
  have kB:=below_alloc gB (.cells (v3 x y z) 23)
  have l1:=blk_lt g1
  clear g0 g1 gB c3 c4 c5
  generalize w'.heap.size=z7 at *
  generalize w'.alloc (.cells (v3 x y z) 23)=W2 at *
  have p0:=zc r7 0 (.int .i64 x) rfl
  have p1:=zc r7 1 (.int .i64 y) rfl
  have p2:=zc r7 2 (.int .i64 z) rfl
  go_upto_region 6 with (fail)
  have r8:=blk_new W2 (.cells (v3 (-y) x z) 23)
  have m0:=blk_alloc k0 (.cells (v3 (-y) x z) 23)
  have m1:=blk_alloc k1 (.cells (v3 (-y) x z) 23)
  have m7:=blk_alloc r7 (.cells (v3 (-y) x z) 23)
  have mB:=below_alloc kB (.cells (v3 (-y) x z) 23)
  have l7:=blk_lt r7
  clear r7 k0 k1 kB p0 p1 p2
  generalize W2.heap.size=z8 at *
  generalize W2.alloc (.cells (v3 (-y) x z) 23)=W3 at *
  have p0:=zc m7 0 (.int .i64 x) rfl
  have p1:=zc m7 1 (.int .i64 y) rfl
  have p2:=zc m7 2 (.int .i64 z) rfl
  go_upto_if 28 with (fail)
  go_cut [] (fun wc=>∃ q0 q1 q2,wc.heap[z8]?=some (.cells (v3 q0 q1 q2) 23 (0,0))∧Aside0 ((q0,q1,q2)=if a=0 then(x,-z,y) else(-y,x,z))∧wc.heap[w.heap.size]?=some (.cells (ftV nm k ax x y z lo hi A l.length c) 28 (0,0))∧wc.heap[w.heap.size+1]?=some (.cells ft0 28 (0,0))∧wc.heap[z7]?=some (.cells (v3 x y z) 23 (0,0))∧Below w.heap.size w wc)
  case first=>
    by_cases ha:a=0
    · have b0:(a==0)=true:=beq_iff_eq.2 ha
      go_wp2_with ((with_reducible refine gate_store (t:=23) (p:=8) rfl ?_);refine wpList_store_row rfl 23 (.tmp 8) (.tmp 36) rfl z8 (v3 x (-z) y) rfl rfl 23 (v3 (-y) x z) r8 (by kernel_rfl) rfl (by simp[Value.oneCell']) ?_)
      go_meet
      case rel=>exact⟨x,-z,y,row_new r8,⟨by rw[if_pos ha]⟩,(row_far (by omega)).trans m0,(row_far (by omega)).trans m1,(row_far (by omega)).trans m7,row_bel mB (by omega)⟩
    · have b0:(a==0)=false:=beq_eq_false_iff_ne.2 ha
      go_wp2
      go_meet
      case rel=>exact⟨-y,x,z,r8,⟨by rw[if_neg ha]⟩,m0,m1,m7,mB⟩
  case rest=>
    clear r8 m0 m1 m7 mB p0 p1 p2
    obtain⟨q0,q1,q2,r8,HQ8,m0,m1,m7,mB⟩:=hcut
    have p0:=zc m7 0 (.int .i64 x) rfl
    have p1:=zc m7 1 (.int .i64 y) rfl
    have p2:=zc m7 2 (.int .i64 z) rfl
    go_upto_if 38 with (fail)
    go_cut [] (fun wc=>wc.heap[z8]?=some (.cells (v3 p.1 p.2.1 p.2.2) 23 (0,0))∧wc.heap[w.heap.size]?=some (.cells (ftV nm k ax x y z lo hi A l.length c) 28 (0,0))∧wc.heap[w.heap.size+1]?=some (.cells ft0 28 (0,0))∧Below w.heap.size w wc)
    case first=>
      by_cases ha:a=1
      · have b0:(a==1)=true:=beq_iff_eq.2 ha
        have hp:p=(z,y,-x):=by rw[← HE.out];unfold turn3;rw[if_neg (by omega),if_pos ha]
        clear HQ8 ha
        subst hp
        go_wp2_with ((with_reducible refine gate_store (t:=23) (p:=8) rfl ?_);refine wpList_store_row rfl 23 (.tmp 8) (.tmp 46) rfl z8 (v3 z y (-x)) rfl rfl 23 (v3 q0 q1 q2) r8 (by kernel_rfl) rfl (by simp[Value.oneCell']) ?_)
        go_meet
        case rel=>exact⟨row_new r8,(row_far (by omega)).trans m0,(row_far (by omega)).trans m1,row_bel mB (by omega)⟩
      · have b0:(a==1)=false:=beq_eq_false_iff_ne.2 ha
        have hp:p=(q0,q1,q2):=by rw[← HE.out,HQ8.out];unfold turn3;rw[if_neg ha]
        clear HQ8 ha
        subst hp
        go_wp2
        go_meet
        case rel=>exact⟨r8,m0,m1,mB⟩
    case rest=>
      clear r8 m0 m1 m7 mB p0 p1 p2 HQ8
      obtain⟨r8,m0,m1,mB⟩:=hcut
      have c0:=zc m0 0 (.string nm) rfl
      have c1:=zc m0 1 (.int .i64 k) rfl
      have c2:=zc m0 2 (.int .i64 ax) rfl
      have c3:=zc m0 3 (.int .i64 x) rfl
      have c4:=zc m0 4 (.int .i64 y) rfl
      have c5:=zc m0 5 (.int .i64 z) rfl
      have c6:=zc m0 6 (.int .i64 lo) rfl
      have c7:=zc m0 7 (.int .i64 hi) rfl
      have c8:=zc m0 8 (.slice A l.length c) rfl
      have p0:=zc r8 0 (.int .i64 p.1) rfl
      have p1:=zc r8 1 (.int .i64 p.2.1) rfl
      have p2:=zc r8 2 (.int .i64 p.2.2) rfl
      have hcall:=mr_at.calls nm k ax x y z lo hi (fun k_=>P k_∧k_ < w.heap.size) A c l p.1 p.2.1 p.2.2 nm k ax p.1 p.2.1 p.2.2 lo hi l wc (Kd.V_map (Kd.V_bound HS.out) (fun _ hf=>Kd.F_below hf mB)) rfl
      go_wp2_with (fail)
      refine hcall.mono ?_
      clear hcall
      rintro e w2 ⟨v8,rfl,hV,hb⟩
      obtain⟨A',c',rfl,hle,hF⟩:=hV
      have lc:=blk_lt m1
      have n0:=blk_below m0 hb
      have n1:=blk_below m1 hb
      have nB:=below_step mB hb
      have hsz:=hb.size
      have HF:=Aside0.mk hF
      clear hF hb m0 m1 r8 mB c0 c1 c2 c3 c4 c5 c6 c7 c8 p0 p1 p2
      go_upto_region 11 with (fail)
      have r9:=blk_new w2 (.cells (ftV nm k ax p.1 p.2.1 p.2.2 lo hi A' l.length c') 28)
      have j0:=blk_alloc n0 (.cells (ftV nm k ax p.1 p.2.1 p.2.2 lo hi A' l.length c') 28)
      have j1:=blk_alloc n1 (.cells (ftV nm k ax p.1 p.2.1 p.2.2 lo hi A' l.length c') 28)
      have jB:=below_alloc nB (.cells (ftV nm k ax p.1 p.2.1 p.2.2 lo hi A' l.length c') 28)
      have HF2:=Aside0.mk (Kd.F_alloc (Kd.F_elderB HF.out w2.heap.size (Nat.le_refl _)) (.cells (ftV nm k ax p.1 p.2.1 p.2.2 lo hi A' l.length c') 28))
      clear n0 n1 nB HF
      generalize w2.heap.size=z9 at *
      generalize w2.alloc (.cells (ftV nm k ax p.1 p.2.1 p.2.2 lo hi A' l.length c') 28)=W9 at *
      have d1:=zc j0 1 (.int .i64 k) rfl
      have d2:=zc j0 2 (.int .i64 ax) rfl
      have v2:=zc r9 2 (.int .i64 ax) rfl
      have t2:=zf r9 2
      have HF3:Aside0 (Kd.F k104 W9 (fun k=>((P k∧k < w.heap.size)∨wc.heap.size≤k)∧k≠z9) A' l.length l):=HF2
      clear HF2
      by_cases h4:k=4
      · have b1:(k==4)=true:=beq_iff_eq.2 h4
        have b2:(k != 4)=false:=bne_eq_false_iff_eq.2 h4
        have ht:tx=ax:=by rw[← HT.out,if_pos h4]
        subst ht
        clear h4
        go_wp2_with (first|((with_reducible refine gate_dst (N:=65) rfl ?_);refine wpList_load_row rfl 28 (.tmp 9) rfl z9 rfl 28 (ftV nm k tx p.1 p.2.1 p.2.2 lo hi A' l.length c') (0,0) _ r9 Try.underlying28 rfl (by kernel_rfl) ?_)|((with_reducible refine gate_store (t:=28) (p:=4) rfl ?_);refine wpList_store_row rfl 28 (.tmp 4) (.tmp 65) rfl (w.heap.size+1) (ftV nm k tx p.1 p.2.1 p.2.2 lo hi A' l.length c') rfl rfl 28 ft0 j1 (by kernel_rfl) rfl (by simp[Value.oneCell']) ?_))
        refine bodyPost_ret (results_ct rfl _ _ (w.heap.size+1) 28 (ftV nm k tx p.1 p.2.1 p.2.2 lo hi A' l.length c') (0,0) _ rfl (row_new j1) Try.underlying28 rfl (by kernel_rfl)) rfl ?_
        exact⟨.slice A' l.length c',rfl,⟨A',c',rfl,hle,Kd.F_mono (Kd.F_step (HF3.out) (fun k hk _=>row_far (by omega))) (fun k hk=>by rcases hk.1 with h|h;exact .inl h.1;exact .inr (by omega))⟩,row_bel (jB) (by omega)⟩
      · have b1:(k==4)=false:=beq_eq_false_iff_ne.2 h4
        have b2:(k != 4)=true:=bne_iff_ne.2 h4
        by_cases h5:ax=a
        · have b3:(ax==a)=true:=beq_iff_eq.2 h5
          have b4:(ax != a)=false:=bne_eq_false_iff_eq.2 h5
          have ht:tx=ax:=by rw[← HT.out,if_neg h4,if_pos h5]
          subst ht
          clear h4 h5
          go_wp2_with (first|((with_reducible refine gate_dst (N:=65) rfl ?_);refine wpList_load_row rfl 28 (.tmp 9) rfl z9 rfl 28 (ftV nm k tx p.1 p.2.1 p.2.2 lo hi A' l.length c') (0,0) _ r9 Try.underlying28 rfl (by kernel_rfl) ?_)|((with_reducible refine gate_store (t:=28) (p:=4) rfl ?_);refine wpList_store_row rfl 28 (.tmp 4) (.tmp 65) rfl (w.heap.size+1) (ftV nm k tx p.1 p.2.1 p.2.2 lo hi A' l.length c') rfl rfl 28 ft0 j1 (by kernel_rfl) rfl (by simp[Value.oneCell']) ?_))
          refine bodyPost_ret (results_ct rfl _ _ (w.heap.size+1) 28 (ftV nm k tx p.1 p.2.1 p.2.2 lo hi A' l.length c') (0,0) _ rfl (row_new j1) Try.underlying28 rfl (by kernel_rfl)) rfl ?_
          exact⟨.slice A' l.length c',rfl,⟨A',c',rfl,hle,Kd.F_mono (Kd.F_step (HF3.out) (fun k hk _=>row_far (by omega))) (fun k hk=>by rcases hk.1 with h|h;exact .inl h.1;exact .inr (by omega))⟩,row_bel (jB) (by omega)⟩
        · have b3:(ax==a)=false:=beq_eq_false_iff_ne.2 h5
          have b4:(ax != a)=true:=bne_iff_ne.2 h5
          have ht:tx=3 - a - ax:=by rw[← HT.out,if_neg h4,if_neg h5]
          clear h4 h5
          rw[← ht] at eb
          have j1s:(W9.setCell ⟨z9,2,none⟩ (.int .i64 tx)).heap[w.heap.size+1]?=some (.cells ft0 28 (0,0)):=(Below.heap_setCell _ _ _ _ (by show w.heap.size+1≠z9;omega)).trans j1
          subst ht
          go_wp2_with (first|((with_reducible refine gate_dst (N:=65) rfl ?_);refine wpList_load_row rfl 28 (.tmp 9) rfl z9 rfl 28 (ftV nm k (3 - a - ax) p.1 p.2.1 p.2.2 lo hi A' l.length c') (0,0) _ (blk_put r9 2 _ rfl) Try.underlying28 rfl (by kernel_rfl) ?_)|((with_reducible refine gate_store (t:=28) (p:=4) rfl ?_);refine wpList_store_row rfl 28 (.tmp 4) (.tmp 65) rfl (w.heap.size+1) (ftV nm k (3 - a - ax) p.1 p.2.1 p.2.2 lo hi A' l.length c') rfl rfl 28 ft0 j1s (by kernel_rfl) rfl (by simp[Value.oneCell']) ?_))
          refine bodyPost_ret (results_ct rfl _ _ (w.heap.size+1) 28 (ftV nm k (3 - a - ax) p.1 p.2.1 p.2.2 lo hi A' l.length c') (0,0) _ rfl (row_new j1s) Try.underlying28 rfl (by kernel_rfl)) rfl ?_
          exact⟨.slice A' l.length c',rfl,⟨A',c',rfl,hle,Kd.F_mono (Kd.F_step (Kd.F_far HF3.out (fun k hk=>hk.2) _) (fun k hk _=>row_far (by omega))) (fun k hk=>by rcases hk.1 with h|h;exact .inl h.1;exact .inr (by omega))⟩,row_bel (below_set jB (by omega)) (by omega)⟩
def rturnV (a0_0:ByteArray) (a0_1 a0_2 a0_3 a0_4 a0_5 a0_6 a0_7:Int) (l0_8:List (S104)) (a1:Int):ByteArray×Int×Int×Int×Int×Int×Int×Int×(List (S104))×Int:=
  if alongV a0_0 a0_1 a0_2 a0_3 a0_4 a0_5 a0_6 a0_7 a1=0 then(a0_0,a0_1,(if a0_1=4 then a0_2 else if a0_2=a1 then a0_2 else 3 - a1 - a0_2),(turn3 a0_3 a0_4 a0_5 a1).1,(turn3 a0_3 a0_4 a0_5 a1).2.1,(turn3 a0_3 a0_4 a0_5 a1).2.2,a0_6,a0_7,l0_8,(0:Int))
  else((⟨#[]⟩:ByteArray),(0:Int),(0:Int),(0:Int),(0:Int),(0:Int),(0:Int),(0:Int),([]:List (S104)),alongV a0_0 a0_1 a0_2 a0_3 a0_4 a0_5 a0_6 a0_7 a1)
theorem rturn_calls (a0_0:ByteArray) (a0_1 a0_2 a0_3 a0_4 a0_5 a0_6 a0_7:Int) (P0_8_:Nat→Prop) (A0_8:Option Addr) (c0_8:Nat) (l0_8:List (S104)) (a1:Int) (r1:ByteArray) (r2 r3 r4 r5 r6 r7 r8:Int) (r9:List (S104)) (r10:Int) (w:World) (hs0_8:Kd.V k104 104 w w.heap.size (fun k_=>P0_8_ k_) (.slice A0_8 l0_8.length c0_8) l0_8) (h:rturnV a0_0 a0_1 a0_2 a0_3 a0_4 a0_5 a0_6 a0_7 l0_8 a1=(r1,r2,r3,r4,r5,r6,r7,r8,r9,r10)):
    Calls Try.prog 53 #[.agg #[.string a0_0,.int .i64 a0_1,.int .i64 a0_2,.int .i64 a0_3,.int .i64 a0_4,.int .i64 a0_5,.int .i64 a0_6,.int .i64 a0_7,.slice A0_8 l0_8.length c0_8],.int .i64 a1] w fun e w'=>∃ v8_:Value,e=.returned (.tuple #[.agg #[.string r1,.int .i64 r2,.int .i64 r3,.int .i64 r4,.int .i64 r5,.int .i64 r6,.int .i64 r7,.int .i64 r8,v8_],.int .i64 r10])∧Kd.V k104 104 w' w.heap.size (fun k_=>(P0_8_ k_∨w.heap.size≤k_)) v8_ r9∧Below w.heap.size w w':=by
  have hc:=Kd.V_reads' hs0_8
  unfold rturnV at h
  by_cases hk:alongV a0_0 a0_1 a0_2 a0_3 a0_4 a0_5 a0_6 a0_7 a1=0
  · rw[if_pos hk] at h
    simp only[Prod.mk.injEq] at h
    obtain⟨rfl,rfl,rfl,rfl,rfl,rfl,rfl,rfl,rfl,rfl⟩:=h
    exact rturn_ok a0_0 a0_1 a0_2 a0_3 a0_4 a0_5 a0_6 a0_7 P0_8_ A0_8 c0_8 l0_8 a1 w hs0_8 hk
  · rw[if_neg hk] at h
    simp only[Prod.mk.injEq] at h
    obtain⟨rfl,rfl,rfl,rfl,rfl,rfl,rfl,rfl,rfl,rfl⟩:=h
    exact(rturn_bad a0_0 a0_1 a0_2 a0_3 a0_4 a0_5 a0_6 a0_7 A0_8 c0_8 l0_8 a1 w hc.2.2 hc.2.1 hk).mono fun e w' ⟨he,hb⟩=>⟨_,he,Kd.V_nil _ _ _ _ _,hb⟩
end Go.Proofs.Ytkgdlbepjmgaiaa.Fea
namespace Go.Proofs.Ytkgdlbepjmgaiaa.Fea
open Go.RowKit YtkgdlbepjmgaiaaW.PrintWords YtkgdlbepjmgaiaaW.PrintLast YtkgdlbepjmgaiaaW.PrintMore
attribute [local go_sem] max2_int min2_int max_two min_two max_three min_three max_four min_four
def mr_Turn.f (a0_0:ByteArray) (a0_1 a0_2 a0_3 a0_4 a0_5 a0_6 a0_7:Int) (l0_8:List (S104)) (a1:Int):Option (ByteArray×Int×Int×Int×Int×Int×Int×Int×(List (S104))×Int):=some (rturnV a0_0 a0_1 a0_2 a0_3 a0_4 a0_5 a0_6 a0_7 l0_8 a1)
theorem mr_Turn.calls (a0_0:ByteArray) (a0_1 a0_2 a0_3 a0_4 a0_5 a0_6 a0_7:Int) (P0_8_:Nat→Prop) (A0_8:Option Addr) (c0_8:Nat) (l0_8:List (S104)) (a1:Int) (r1:ByteArray) (r2 r3 r4 r5 r6 r7 r8:Int) (r9:List (S104)) (r10:Int) (w:World) (hs0_8:Kd.V k104 104 w w.heap.size (fun k_=>P0_8_ k_) (.slice A0_8 l0_8.length c0_8) l0_8) (h:mr_Turn.f a0_0 a0_1 a0_2 a0_3 a0_4 a0_5 a0_6 a0_7 l0_8 a1=some (r1,r2,r3,r4,r5,r6,r7,r8,r9,r10)):
    Calls Try.prog 53 #[.agg #[.string a0_0,.int .i64 a0_1,.int .i64 a0_2,.int .i64 a0_3,.int .i64 a0_4,.int .i64 a0_5,.int .i64 a0_6,.int .i64 a0_7,.slice A0_8 l0_8.length c0_8],.int .i64 a1] w fun e w'=>∃ v8_:Value,e=.returned (.tuple #[.agg #[.string r1,.int .i64 r2,.int .i64 r3,.int .i64 r4,.int .i64 r5,.int .i64 r6,.int .i64 r7,.int .i64 r8,v8_],.int .i64 r10])∧Kd.V k104 104 w' w.heap.size (fun k_=>(P0_8_ k_∨w.heap.size≤k_)) v8_ r9∧Below w.heap.size w w':=
  rturn_calls a0_0 a0_1 a0_2 a0_3 a0_4 a0_5 a0_6 a0_7 P0_8_ A0_8 c0_8 l0_8 a1 r1 r2 r3 r4 r5 r6 r7 r8 r9 r10 w hs0_8 (Option.some.inj h)
end Go.Proofs.Ytkgdlbepjmgaiaa.Fea
