/- Part 4 of the texts behind the last one of this claim. -/
import Derived.Test.YtkgdlbepjmgaiaaZMoves3
set_option linter.unusedVariables false
set_option linter.unusedSimpArgs false
namespace Go.Proofs.Ytkgdlbepjmgaiaa.Fea
open Go.RowKit YtkgdlbepjmgaiaaW.PrintWords YtkgdlbepjmgaiaaW.PrintLast YtkgdlbepjmgaiaaW.PrintMore
attribute [local go_sem] max2_int min2_int max_two min_two max_three min_three max_four min_four
mutual
def fe_Separate.l0:Nat→List (S28)→Int→Int→ByteArray→Int→Int→Int→Int→Int→Int→Int→List (S104)→ByteArray→Int→Int→Int→Int→Int→Int→Int→List (S104)→Option (Bool×Int)
  | 0,_,_,_,_,_,_,_,_,_,_,_,_,_,_,_,_,_,_,_,_,_=>none
  | k+1,x14,x15,x16,x129000,x129001,x129002,x129003,x129004,x129005,x129006,x129007,x129008,x130000,x130001,x130002,x130003,x130004,x130005,x130006,x130007,x130008=>if x16 < x15 then(if 0≤x16 then(if x16 < (x14.length:Int) then((fe_Check.f k ((rd_T28 x14 x16).f0) ((rd_T28 x14 x16).f1) ((rd_T28 x14 x16).f2) ((rd_T28 x14 x16).f3.f0) ((rd_T28 x14 x16).f3.f1) ((rd_T28 x14 x16).f3.f2) ((rd_T28 x14 x16).f4.f0) ((rd_T28 x14 x16).f4.f1) ((rd_T28 x14 x16).f5)).bind fun t135=>(if t135=0 then(fe_Separate.l0 k x14 x15 (wrap64 (x16+1)) x129000 x129001 x129002 x129003 x129004 x129005 x129006 x129007 x129008 x130000 x130001 x130002 x130003 x130004 x130005 x130006 x130007 x130008) else(some (false,t135)))) else(none)) else(none)) else(fe_Separate.l1 k 0 x129000 x129001 x129002 x129003 x129004 x129005 x129006 x129007 x129008 x130000 x130001 x130002 x130003 x130004 x130005 x130006 x130007 x130008)
def fe_Separate.l1:Nat→Int→ByteArray→Int→Int→Int→Int→Int→Int→Int→List (S104)→ByteArray→Int→Int→Int→Int→Int→Int→Int→List (S104)→Option (Bool×Int)
  | 0,_,_,_,_,_,_,_,_,_,_,_,_,_,_,_,_,_,_,_=>none
  | k+1,x26,x129000,x129001,x129002,x129003,x129004,x129005,x129006,x129007,x129008,x130000,x130001,x130002,x130003,x130004,x130005,x130006,x130007,x130008=>if x26 < 3 then((fe_bounded.f x129000 x129001 x129002 x129003 x129004 x129005 x129006 x129007 x129008 x26).bind fun t136=>(if t136=true then((fe_bounded.f x130000 x130001 x130002 x130003 x130004 x130005 x130006 x130007 x130008 x26).bind fun t137=>(fe_Separate.j2 k x26 x26 (!t137) x129000 x129001 x129002 x129003 x129004 x129005 x129006 x129007 x129008 x130000 x130001 x130002 x130003 x130004 x130005 x130006 x130007 x130008)) else(fe_Separate.j2 k x26 x26 true x129000 x129001 x129002 x129003 x129004 x129005 x129006 x129007 x129008 x130000 x130001 x130002 x130003 x130004 x130005 x130006 x130007 x130008))) else(some (false,0))
def fe_Separate.j2:Nat→Int→Int→Bool→ByteArray→Int→Int→Int→Int→Int→Int→Int→List (S104)→ByteArray→Int→Int→Int→Int→Int→Int→Int→List (S104)→Option (Bool×Int)
  | 0,_,_,_,_,_,_,_,_,_,_,_,_,_,_,_,_,_,_,_,_,_=>none
  | k+1,x9,x26,x38,x129000,x129001,x129002,x129003,x129004,x129005,x129006,x129007,x129008,x130000,x130001,x130002,x130003,x130004,x130005,x130006,x130007,x130008=>if x38=true then(fe_Separate.l1 k (wrap64 (x26+1)) x129000 x129001 x129002 x129003 x129004 x129005 x129006 x129007 x129008 x130000 x130001 x130002 x130003 x130004 x130005 x130006 x130007 x130008) else((fe_reach.f x129000 x129001 x129002 x129003 x129004 x129005 x129006 x129007 x129008 x9).bind fun bt138=>((fe_reach.f x130000 x130001 x130002 x130003 x130004 x130005 x130006 x130007 x130008 x9).bind fun bt140=>(if bt138.2 < bt140.1 then(some (true,0)) else(if bt140.2 < bt138.1 then(some (true,0)) else(fe_Separate.l1 k (wrap64 (x26+1)) x129000 x129001 x129002 x129003 x129004 x129005 x129006 x129007 x129008 x130000 x130001 x130002 x130003 x130004 x130005 x130006 x130007 x130008)))))
end
def fe_Separate.f (k:Nat) (a0_0:ByteArray) (a0_1 a0_2 a0_3 a0_4 a0_5 a0_6 a0_7:Int) (l0_8:List (S104)) (a1_0:ByteArray) (a1_1 a1_2 a1_3 a1_4 a1_5 a1_6 a1_7:Int) (l1_8:List (S104)):Option (Bool×Int):=(some (([(⟨a0_0,a0_1,a0_2,(⟨a0_3,a0_4,a0_5⟩:S23),(⟨a0_6,a0_7⟩:S25),l0_8⟩:S28),(⟨a1_0,a1_1,a1_2,(⟨a1_3,a1_4,a1_5⟩:S23),(⟨a1_6,a1_7⟩:S25),l1_8⟩:S28)]:List (S28)):List (S28))).bind fun y130=>(fe_Separate.l0 k y130 (y130.length:Int) 0 a0_0 a0_1 a0_2 a0_3 a0_4 a0_5 a0_6 a0_7 l0_8 a1_0 a1_1 a1_2 a1_3 a1_4 a1_5 a1_6 a1_7 l1_8)
theorem fe_Separate.mono_l:∀ k,(∀ y0 y1 y2 y3 y4 y5 y6 y7 y8 y9 y10 y11 y12 y13 y14 y15 y16 y17 y18 y19 y20,LeO (fe_Separate.l0 k y0 y1 y2 y3 y4 y5 y6 y7 y8 y9 y10 y11 y12 y13 y14 y15 y16 y17 y18 y19 y20) (fe_Separate.l0 (k+1) y0 y1 y2 y3 y4 y5 y6 y7 y8 y9 y10 y11 y12 y13 y14 y15 y16 y17 y18 y19 y20))∧(∀ y0 y1 y2 y3 y4 y5 y6 y7 y8 y9 y10 y11 y12 y13 y14 y15 y16 y17 y18,LeO (fe_Separate.l1 k y0 y1 y2 y3 y4 y5 y6 y7 y8 y9 y10 y11 y12 y13 y14 y15 y16 y17 y18) (fe_Separate.l1 (k+1) y0 y1 y2 y3 y4 y5 y6 y7 y8 y9 y10 y11 y12 y13 y14 y15 y16 y17 y18))∧(∀ y0 y1 y2 y3 y4 y5 y6 y7 y8 y9 y10 y11 y12 y13 y14 y15 y16 y17 y18 y19 y20,LeO (fe_Separate.j2 k y0 y1 y2 y3 y4 y5 y6 y7 y8 y9 y10 y11 y12 y13 y14 y15 y16 y17 y18 y19 y20) (fe_Separate.j2 (k+1) y0 y1 y2 y3 y4 y5 y6 y7 y8 y9 y10 y11 y12 y13 y14 y15 y16 y17 y18 y19 y20))
 | 0=>⟨fun _ _ _ _ _ _ _ _ _ _ _ _ _ _ _ _ _ _ _ _ _ r h=>by simp[fe_Separate.l0] at h,fun _ _ _ _ _ _ _ _ _ _ _ _ _ _ _ _ _ _ _ r h=>by simp[fe_Separate.l1] at h,fun _ _ _ _ _ _ _ _ _ _ _ _ _ _ _ _ _ _ _ _ _ r h=>by simp[fe_Separate.j2] at h⟩
 | k+1=>by
  obtain⟨ih0,ih1,ih2⟩:=fe_Separate.mono_l k
  refine⟨?_,?_,?_⟩
  ·intro y0 y1 y2 y3 y4 y5 y6 y7 y8 y9 y10 y11 y12 y13 y14 y15 y16 y17 y18 y19 y20
   unfold fe_Separate.l0
   repeat' first
   | (with_reducible exact ih0 _ _ _ _ _ _ _ _ _ _ _ _ _ _ _ _ _ _ _ _ _)
   | (with_reducible exact ih1 _ _ _ _ _ _ _ _ _ _ _ _ _ _ _ _ _ _ _)
   | (with_reducible exact ih2 _ _ _ _ _ _ _ _ _ _ _ _ _ _ _ _ _ _ _ _ _)
   | (with_reducible exact fe_Check.mono _ _ _ _ _ _ _ _ _ _)
   | (with_reducible exact LeO.refl _)
   | (with_reducible exact LeO.none _)
   | (with_reducible refine LeO.ite ?_ ?_)
   | (with_reducible refine LeO.bind ?_ (fun _=>?_))
   | exact ih0 _ _ _ _ _ _ _ _ _ _ _ _ _ _ _ _ _ _ _ _ _
   | exact ih1 _ _ _ _ _ _ _ _ _ _ _ _ _ _ _ _ _ _ _
   | exact ih2 _ _ _ _ _ _ _ _ _ _ _ _ _ _ _ _ _ _ _ _ _
   | exact fe_Check.mono _ _ _ _ _ _ _ _ _ _
   | exact LeO.none _
   | refine LeO.ite ?_ ?_
   | refine LeO.bind ?_ (fun _=>?_)
  ·intro y0 y1 y2 y3 y4 y5 y6 y7 y8 y9 y10 y11 y12 y13 y14 y15 y16 y17 y18
   unfold fe_Separate.l1
   repeat' first
   | (with_reducible exact ih0 _ _ _ _ _ _ _ _ _ _ _ _ _ _ _ _ _ _ _ _ _)
   | (with_reducible exact ih1 _ _ _ _ _ _ _ _ _ _ _ _ _ _ _ _ _ _ _)
   | (with_reducible exact ih2 _ _ _ _ _ _ _ _ _ _ _ _ _ _ _ _ _ _ _ _ _)
   | (with_reducible exact fe_Check.mono _ _ _ _ _ _ _ _ _ _)
   | (with_reducible exact LeO.refl _)
   | (with_reducible exact LeO.none _)
   | (with_reducible refine LeO.ite ?_ ?_)
   | (with_reducible refine LeO.bind ?_ (fun _=>?_))
   | exact ih0 _ _ _ _ _ _ _ _ _ _ _ _ _ _ _ _ _ _ _ _ _
   | exact ih1 _ _ _ _ _ _ _ _ _ _ _ _ _ _ _ _ _ _ _
   | exact ih2 _ _ _ _ _ _ _ _ _ _ _ _ _ _ _ _ _ _ _ _ _
   | exact fe_Check.mono _ _ _ _ _ _ _ _ _ _
   | exact LeO.none _
   | refine LeO.ite ?_ ?_
   | refine LeO.bind ?_ (fun _=>?_)
  ·intro y0 y1 y2 y3 y4 y5 y6 y7 y8 y9 y10 y11 y12 y13 y14 y15 y16 y17 y18 y19 y20
   unfold fe_Separate.j2
   repeat' first
   | (with_reducible exact ih0 _ _ _ _ _ _ _ _ _ _ _ _ _ _ _ _ _ _ _ _ _)
   | (with_reducible exact ih1 _ _ _ _ _ _ _ _ _ _ _ _ _ _ _ _ _ _ _)
   | (with_reducible exact ih2 _ _ _ _ _ _ _ _ _ _ _ _ _ _ _ _ _ _ _ _ _)
   | (with_reducible exact fe_Check.mono _ _ _ _ _ _ _ _ _ _)
   | (with_reducible exact LeO.refl _)
   | (with_reducible exact LeO.none _)
   | (with_reducible refine LeO.ite ?_ ?_)
   | (with_reducible refine LeO.bind ?_ (fun _=>?_))
   | exact ih0 _ _ _ _ _ _ _ _ _ _ _ _ _ _ _ _ _ _ _ _ _
   | exact ih1 _ _ _ _ _ _ _ _ _ _ _ _ _ _ _ _ _ _ _
   | exact ih2 _ _ _ _ _ _ _ _ _ _ _ _ _ _ _ _ _ _ _ _ _
   | exact fe_Check.mono _ _ _ _ _ _ _ _ _ _
   | exact LeO.none _
   | refine LeO.ite ?_ ?_
   | refine LeO.bind ?_ (fun _=>?_)
theorem fe_Separate.mono:∀ a0 a1 a2 a3 a4 a5 a6 a7 a8 a9 a10 a11 a12 a13 a14 a15 a16 a17 k,LeO (fe_Separate.f k a0 a1 a2 a3 a4 a5 a6 a7 a8 a9 a10 a11 a12 a13 a14 a15 a16 a17) (fe_Separate.f (k+1) a0 a1 a2 a3 a4 a5 a6 a7 a8 a9 a10 a11 a12 a13 a14 a15 a16 a17):=by
 intro a0 a1 a2 a3 a4 a5 a6 a7 a8 a9 a10 a11 a12 a13 a14 a15 a16 a17 k
 obtain⟨ih0,ih1,ih2⟩:=fe_Separate.mono_l k
 unfold fe_Separate.f
 repeat' first
  | (with_reducible exact ih0 _ _ _ _ _ _ _ _ _ _ _ _ _ _ _ _ _ _ _ _ _)
  | (with_reducible exact ih1 _ _ _ _ _ _ _ _ _ _ _ _ _ _ _ _ _ _ _)
  | (with_reducible exact ih2 _ _ _ _ _ _ _ _ _ _ _ _ _ _ _ _ _ _ _ _ _)
  | (with_reducible exact fe_Check.mono _ _ _ _ _ _ _ _ _ _)
  | (with_reducible exact LeO.refl _)
  | (with_reducible exact LeO.none _)
  | (with_reducible refine LeO.ite ?_ ?_)
  | (with_reducible refine LeO.bind ?_ (fun _=>?_))
  | exact ih0 _ _ _ _ _ _ _ _ _ _ _ _ _ _ _ _ _ _ _ _ _
  | exact ih1 _ _ _ _ _ _ _ _ _ _ _ _ _ _ _ _ _ _ _
  | exact ih2 _ _ _ _ _ _ _ _ _ _ _ _ _ _ _ _ _ _ _ _ _
  | exact fe_Check.mono _ _ _ _ _ _ _ _ _ _
  | exact LeO.none _
  | refine LeO.ite ?_ ?_
  | refine LeO.bind ?_ (fun _=>?_)
def fe_Separate.T12:Bool×List (List Nat×List Nat):=(true,[([],[]),([],[]),([0,1],[0,1]),([],[]),([],[]),([3,4,2],[3,4]),([],[]),([],[]),([6,2,5,0,1,2,6,7],[2,6]),([7,5,8,0,1,2,3,4,5,6,7,8],[5,7])])
def fe_Separate.B12:List Nat:=[0,0,3,0,0,31,0,0,255,511]
theorem fe_Separate.tab12:rtab .any (opsOf Try.f21 12)=fe_Separate.T12:=by kernel_rfl
theorem fe_Separate.bits12:waitsOk fe_Separate.T12.2 fe_Separate.B12=true:=by kernel_rfl
set_option maxHeartbeats 8000000 in
set_option maxRecDepth 100000 in
theorem fe_Separate.calls (k:Nat) (a0_0:ByteArray) (a0_1 a0_2 a0_3 a0_4 a0_5 a0_6 a0_7:Int) (P0_8_:Nat→Prop) (A0_8:Option Addr) (c0_8:Nat) (l0_8:List (S104)) (a1_0:ByteArray) (a1_1 a1_2 a1_3 a1_4 a1_5 a1_6 a1_7:Int) (P1_8_:Nat→Prop) (A1_8:Option Addr) (c1_8:Nat) (l1_8:List (S104)) (r1:Bool) (r2:Int) (w:World) (hs0_8:Kd.V k104 104 w w.heap.size (fun k_=>P0_8_ k_) (.slice A0_8 l0_8.length c0_8) l0_8) (hs1_8:Kd.V k104 104 w w.heap.size (fun k_=>P1_8_ k_) (.slice A1_8 l1_8.length c1_8) l1_8) (h:fe_Separate.f k a0_0 a0_1 a0_2 a0_3 a0_4 a0_5 a0_6 a0_7 l0_8 a1_0 a1_1 a1_2 a1_3 a1_4 a1_5 a1_6 a1_7 l1_8=some (r1,r2)):
 Calls Try.prog 21 #[.agg #[.string a0_0,.int .i64 a0_1,.int .i64 a0_2,.int .i64 a0_3,.int .i64 a0_4,.int .i64 a0_5,.int .i64 a0_6,.int .i64 a0_7,.slice A0_8 l0_8.length c0_8],.agg #[.string a1_0,.int .i64 a1_1,.int .i64 a1_2,.int .i64 a1_3,.int .i64 a1_4,.int .i64 a1_5,.int .i64 a1_6,.int .i64 a1_7,.slice A1_8 l1_8.length c1_8]] w fun e w'=>e=.returned (.tuple #[.bool r1,.int .i64 r2])∧Below w.heap.size w w':=by
 have hu28:=Try.underlying28
 have hu25:=Try.underlying25
 have HO0_8:=zm (show Kd.V k104 104 w w.heap.size (fun k_=>((P0_8_ k_∨P1_8_ k_)∨w.heap.size≤k_)) (.slice A0_8 l0_8.length c0_8) l0_8 from Kd.V_mono hs0_8 (fun k_ hk=>.inl (.inl hk)))
 have HO1_8:=zm (show Kd.V k104 104 w w.heap.size (fun k_=>((P0_8_ k_∨P1_8_ k_)∨w.heap.size≤k_)) (.slice A1_8 l1_8.length c1_8) l1_8 from Kd.V_mono hs1_8 (fun k_ hk=>.inl (.inr hk)))
 have HB:=zm (Below.refl w.heap.size w)
 have H:((some (([(⟨a0_0,a0_1,a0_2,(⟨a0_3,a0_4,a0_5⟩:S23),(⟨a0_6,a0_7⟩:S25),l0_8⟩:S28),(⟨a1_0,a1_1,a1_2,(⟨a1_3,a1_4,a1_5⟩:S23),(⟨a1_6,a1_7⟩:S25),l1_8⟩:S28)]:List (S28)):List (S28))).bind fun y130=>(fe_Separate.l0 k y130 (y130.length:Int) 0 a0_0 a0_1 a0_2 a0_3 a0_4 a0_5 a0_6 a0_7 l0_8 a1_0 a1_1 a1_2 a1_3 a1_4 a1_5 a1_6 a1_7 l1_8))=some (r1,r2):=h
 clear h
 obtain⟨y130,hy130⟩:∃ y_:List (S28),y_=(([(⟨a0_0,a0_1,a0_2,(⟨a0_3,a0_4,a0_5⟩:S23),(⟨a0_6,a0_7⟩:S25),l0_8⟩:S28),(⟨a1_0,a1_1,a1_2,(⟨a1_3,a1_4,a1_5⟩:S23),(⟨a1_6,a1_7⟩:S25),l1_8⟩:S28)]:List (S28))):=⟨_,rfl⟩
 replace H:(fe_Separate.l0 k y130 (y130.length:Int) 0 a0_0 a0_1 a0_2 a0_3 a0_4 a0_5 a0_6 a0_7 l0_8 a1_0 a1_1 a1_2 a1_3 a1_4 a1_5 a1_6 a1_7 l1_8)=some (r1,r2):=by first|(rw[hy130];with_reducible exact H)|(have H2_:=(Option.bind_some _ _).symm.trans H;rw[hy130];with_reducible exact H2_)|(have H2_:=(Option.bind_some _ _).symm.trans H;with_reducible exact H2_)|with_reducible exact H|(rw[hy130];exact H)|exact H
 have Ny130:=zm hy130
 clear hy130
 have H':=zm H
 clear H
 go_enter Try.func21,Try.ntmps21
 go_wp2_with (first|((with_reducible refine gate_dst (N:=2) rfl ?_);refine box_event ?hg (N:=2) ?hd (cs:=#[.string a0_0,.int .i64 a0_1,.int .i64 a0_2,.int .i64 a0_3,.int .i64 a0_4,.int .i64 a0_5,.int .i64 a0_6,.int .i64 a0_7,.slice A0_8 l0_8.length c0_8]) (t:=28) ?hr ?_;(case hd=>rfl);(case hg=>rfl);(case hr=>first|(go_simp;done)|(go_simp;rfl));intro gb128 hg w3 hbox hb;have n0_:=zm (Kd.V_below (Kd.V_elderB (by(with_reducible repeat(first|apply Kd.V_alloc|apply Kd.V_drewN|apply Kd.V_drew));exact HO0_8.out) gb128 (Nat.le_of_eq hg.symm)) hb);have n1_:=zm (Kd.V_below (Kd.V_elderB (by(with_reducible repeat(first|apply Kd.V_alloc|apply Kd.V_drewN|apply Kd.V_drew));exact HO1_8.out) gb128 (Nat.le_of_eq hg.symm)) hb);have n2_:=zm (below_step (by repeat(first|(with_reducible first|exact HB.out|apply zA|apply zD|apply zE)|exact HB.out)) hb);have n3_:=zm (hbox);have n4_:=zm ((by rw[hg];exact(below_size (by repeat(first|(with_reducible first|exact HB.out|apply zA|apply zD|apply zE)|exact HB.out))):w.heap.size≤gb128));have n5_:=zm ((by rw[hg];exact(below_size (by repeat(first|(with_reducible first|exact HB.out|apply zA|apply zD|apply zE)|exact HB.out))):w.heap.size≤gb128));clear HO0_8 HO1_8 HB;have HO0_8:=n0_;have HO1_8:=n1_;have HB:=n2_;have BK128:=n3_;have GW128:=n4_;have GE128:=n5_;clear n0_ n1_ n2_ n3_ n4_ n5_;clear hb hbox hg)|((with_reducible refine gate_dst (N:=3) rfl ?_);refine box_event ?hg (N:=3) ?hd (cs:=#[.string a1_0,.int .i64 a1_1,.int .i64 a1_2,.int .i64 a1_3,.int .i64 a1_4,.int .i64 a1_5,.int .i64 a1_6,.int .i64 a1_7,.slice A1_8 l1_8.length c1_8]) (t:=28) ?hr ?_;(case hd=>rfl);(case hg=>rfl);(case hr=>first|(go_simp;done)|(go_simp;rfl));intro gb129 hg w4 hbox hb;have n0_:=zm (Kd.V_below (Kd.V_elderB (by(with_reducible repeat(first|apply Kd.V_alloc|apply Kd.V_drewN|apply Kd.V_drew));exact HO0_8.out) gb129 (Nat.le_of_eq hg.symm)) hb);have n1_:=zm (Kd.V_below (Kd.V_elderB (by(with_reducible repeat(first|apply Kd.V_alloc|apply Kd.V_drewN|apply Kd.V_drew));exact HO1_8.out) gb129 (Nat.le_of_eq hg.symm)) hb);have n2_:=zm (zb (g:=gb128) (o:=.cells #[.string a0_0,.int .i64 a0_1,.int .i64 a0_2,.int .i64 a0_3,.int .i64 a0_4,.int .i64 a0_5,.int .i64 a0_6,.int .i64 a0_7,.slice A0_8 l0_8.length c0_8] 28 (0,0)) (by(with_reducible repeat first|apply zd|apply ze|apply za);exact BK128.out) hb);have n3_:=zm (below_step (by repeat(first|(with_reducible first|exact HB.out|apply zA|apply zD|apply zE|refine zS ?_ GE128.out)|exact HB.out)) hb);have n4_:=zm (hbox);have n5_:=zm ((by rw[hg];exact(below_size (by repeat(first|(with_reducible first|exact HB.out|apply zA|apply zD|apply zE|refine zS ?_ GE128.out)|exact HB.out))):w.heap.size≤gb129));have n6_:=zm ((by rw[hg];exact(below_size (by repeat(first|(with_reducible first|exact HB.out|apply zA|apply zD|apply zE|refine zS ?_ GE128.out)|exact HB.out))):w.heap.size≤gb129));have n7_:=zm ((by rw[hg];exact Nat.ne_of_lt (blk_lt (g:=gb128) (o:=.cells #[.string a0_0,.int .i64 a0_1,.int .i64 a0_2,.int .i64 a0_3,.int .i64 a0_4,.int .i64 a0_5,.int .i64 a0_6,.int .i64 a0_7,.slice A0_8 l0_8.length c0_8] 28 (0,0)) (by(with_reducible repeat first|apply zd|apply ze|apply za);exact BK128.out)):gb128≠gb129));have n8_:=zm ((by rw[hg];exact Nat.ne_of_gt (blk_lt (g:=gb128) (o:=.cells #[.string a0_0,.int .i64 a0_1,.int .i64 a0_2,.int .i64 a0_3,.int .i64 a0_4,.int .i64 a0_5,.int .i64 a0_6,.int .i64 a0_7,.slice A0_8 l0_8.length c0_8] 28 (0,0)) (by(with_reducible repeat first|apply zd|apply ze|apply za);exact BK128.out)):gb129≠gb128));clear HO0_8 HO1_8 BK128 HB;have HO0_8:=n0_;have HO1_8:=n1_;have BK128:=n2_;have HB:=n3_;have BK129:=n4_;have GW129:=n5_;have GE129:=n6_;have NB128_129:=n7_;have NB129_128:=n8_;clear n0_ n1_ n2_ n3_ n4_ n5_ n6_ n7_ n8_;clear hb hbox hg;have hnb5:=NB128_129.out;have hnc5:=NB129_128.out;have hcz6_0:=zc BK128.out 0 (.string a0_0) rfl;have hcz6_1:=zc BK128.out 1 (.int .i64 a0_1) rfl;have hcz6_2:=zc BK128.out 2 (.int .i64 a0_2) rfl;have hcz6_3:=zc BK128.out 3 (.int .i64 a0_3) rfl;have hcz6_4:=zc BK128.out 4 (.int .i64 a0_4) rfl;have hcz6_5:=zc BK128.out 5 (.int .i64 a0_5) rfl;have hcz6_6:=zc BK128.out 6 (.int .i64 a0_6) rfl;have hcz6_7:=zc BK128.out 7 (.int .i64 a0_7) rfl;have hcz6_8:=zc BK128.out 8 (.slice A0_8 l0_8.length c0_8) rfl;have hfz6_0:=zf BK128.out 0;have hfz6_1:=zf BK128.out 1;have hfz6_2:=zf BK128.out 2;have hfz6_3:=zf BK128.out 3;have hfz6_4:=zf BK128.out 4;have hfz6_5:=zf BK128.out 5;have hfz6_6:=zf BK128.out 6;have hfz6_7:=zf BK128.out 7;have hfz6_8:=zf BK128.out 8;have hcz7_0:=zc BK129.out 0 (.string a1_0) rfl;have hcz7_1:=zc BK129.out 1 (.int .i64 a1_1) rfl;have hcz7_2:=zc BK129.out 2 (.int .i64 a1_2) rfl;have hcz7_3:=zc BK129.out 3 (.int .i64 a1_3) rfl;have hcz7_4:=zc BK129.out 4 (.int .i64 a1_4) rfl;have hcz7_5:=zc BK129.out 5 (.int .i64 a1_5) rfl;have hcz7_6:=zc BK129.out 6 (.int .i64 a1_6) rfl;have hcz7_7:=zc BK129.out 7 (.int .i64 a1_7) rfl;have hcz7_8:=zc BK129.out 8 (.slice A1_8 l1_8.length c1_8) rfl;have hfz7_0:=zf BK129.out 0;have hfz7_1:=zf BK129.out 1;have hfz7_2:=zf BK129.out 2;have hfz7_3:=zf BK129.out 3;have hfz7_4:=zf BK129.out 4;have hfz7_5:=zf BK129.out 5;have hfz7_6:=zf BK129.out 6;have hfz7_7:=zf BK129.out 7;have hfz7_8:=zf BK129.out 8)|((with_reducible refine gate_dst (N:=14) rfl ?_);refine Kd.N_lit k28 _ 28 ?hg (N':=14) ?hd (xs:=([(⟨a0_0,a0_1,a0_2,(⟨a0_3,a0_4,a0_5⟩:S23),(⟨a0_6,a0_7⟩:S25),l0_8⟩:S28),(⟨a1_0,a1_1,a1_2,(⟨a1_3,a1_4,a1_5⟩:S23),(⟨a1_6,a1_7⟩:S25),l1_8⟩:S28)]:List (S28))) (inner:=[.string a0_0,.int .i64 a0_1,.int .i64 a0_2,.int .i64 a0_3,.int .i64 a0_4,.int .i64 a0_5,.int .i64 a0_6,.int .i64 a0_7,.slice A0_8 l0_8.length c0_8,.string a1_0,.int .i64 a1_1,.int .i64 a1_2,.int .i64 a1_3,.int .i64 a1_4,.int .i64 a1_5,.int .i64 a1_6,.int .i64 a1_7,.slice A1_8 l1_8.length c1_8]) (ok:=(fun k_=>((P0_8_ k_∨P1_8_ k_)∨w.heap.size≤k_)∧k_≠gb128∧k_≠gb129)) (okp:=(fun k_=>((P0_8_ k_∨P1_8_ k_)∨w.heap.size≤k_)∧k_≠gb128∧k_≠gb129)) ?hr ?hp (fun _ hk=>hk) ((show ∀ k_,w4.heap.size≤k_→(fun k_=>((P0_8_ k_∨P1_8_ k_)∨w.heap.size≤k_)∧k_≠gb128∧k_≠gb129) k_ from fun k_ hk=>⟨(.inr (Nat.le_trans (below_size (by repeat(first|(with_reducible first|exact HB.out|apply zA|apply zD|apply zE|refine zS ?_ GE128.out|refine zS ?_ GE129.out)|exact HB.out))) hk)),Kd.freshB (g:=gb128) (o:=.cells #[.string a0_0,.int .i64 a0_1,.int .i64 a0_2,.int .i64 a0_3,.int .i64 a0_4,.int .i64 a0_5,.int .i64 a0_6,.int .i64 a0_7,.slice A0_8 l0_8.length c0_8] 28 (0,0)) (by(with_reducible repeat first|apply zd|apply ze|apply za);exact BK128.out) k_ hk,Kd.freshB (g:=gb129) (o:=.cells #[.string a1_0,.int .i64 a1_1,.int .i64 a1_2,.int .i64 a1_3,.int .i64 a1_4,.int .i64 a1_5,.int .i64 a1_6,.int .i64 a1_7,.slice A1_8 l1_8.length c1_8] 28 (0,0)) (by(with_reducible repeat first|apply zd|apply ze|apply za);exact BK129.out) k_ hk⟩) _ (Nat.le_refl _)) (Below.refl _ _) (Nat.le_refl _) (by simp) ?_;(case hd=>rfl);(case hg=>rfl);(case hr=>first|(go_simp;done)|(go_simp;rfl));(case hp=>exact(Reps.c9 (show Kd.FK k28 _ _ (⟨a0_0,a0_1,a0_2,(⟨a0_3,a0_4,a0_5⟩:S23),(⟨a0_6,a0_7⟩:S25),l0_8⟩:S28) [.string a0_0,.int .i64 a0_1,.int .i64 a0_2,.int .i64 a0_3,.int .i64 a0_4,.int .i64 a0_5,.int .i64 a0_6,.int .i64 a0_7,.slice A0_8 l0_8.length c0_8] from(k28_mkF _ _ (⟨a0_0,a0_1,a0_2,(⟨a0_3,a0_4,a0_5⟩:S23),(⟨a0_6,a0_7⟩:S25),l0_8⟩:S28) (Kd.V_reads' (Kd.V_mono (ok':=(fun k_=>((P0_8_ k_∨P1_8_ k_)∨w.heap.size≤k_)∧k_≠gb128∧k_≠gb129)) (HO0_8.out) (fun k_ hk=>⟨hk.1.1,⟨hk.1.2,hk.2⟩⟩))).2.1 (Kd.V_F (Kd.V_mono (ok':=(fun k_=>((P0_8_ k_∨P1_8_ k_)∨w.heap.size≤k_)∧k_≠gb128∧k_≠gb129)) (HO0_8.out) (fun k_ hk=>⟨hk.1.1,⟨hk.1.2,hk.2⟩⟩))))) (Reps.c9 (show Kd.FK k28 _ _ (⟨a1_0,a1_1,a1_2,(⟨a1_3,a1_4,a1_5⟩:S23),(⟨a1_6,a1_7⟩:S25),l1_8⟩:S28) [.string a1_0,.int .i64 a1_1,.int .i64 a1_2,.int .i64 a1_3,.int .i64 a1_4,.int .i64 a1_5,.int .i64 a1_6,.int .i64 a1_7,.slice A1_8 l1_8.length c1_8] from(k28_mkF _ _ (⟨a1_0,a1_1,a1_2,(⟨a1_3,a1_4,a1_5⟩:S23),(⟨a1_6,a1_7⟩:S25),l1_8⟩:S28) (Kd.V_reads' (Kd.V_mono (ok':=(fun k_=>((P0_8_ k_∨P1_8_ k_)∨w.heap.size≤k_)∧k_≠gb128∧k_≠gb129)) (HO1_8.out) (fun k_ hk=>⟨hk.1.1,⟨hk.1.2,hk.2⟩⟩))).2.1 (Kd.V_F (Kd.V_mono (ok':=(fun k_=>((P0_8_ k_∨P1_8_ k_)∨w.heap.size≤k_)∧k_≠gb128∧k_≠gb129)) (HO1_8.out) (fun k_ hk=>⟨hk.1.1,⟨hk.1.2,hk.2⟩⟩))))) (Reps.none _ _))));intro v131 w8 ho9 hb hg_ hnew_;clear hg_ hnew_;(first|rw[← Ny130.out] at ho9|(simp only[Int.reduceToNat] at ho9;rw[← Ny130.out] at ho9));have n0_:=zm (Kd.V_elder' (by(with_reducible repeat(first|apply Kd.V_alloc|apply Kd.V_drewN|apply Kd.V_drew));exact HO0_8.out) (Kd.N_base ho9) hb);have n1_:=zm (Kd.V_elder' (by(with_reducible repeat(first|apply Kd.V_alloc|apply Kd.V_drewN|apply Kd.V_drew));exact HO1_8.out) (Kd.N_base ho9) hb);have n2_:=zm (Kd.N_lower ho9 (below_size (by repeat(first|(with_reducible first|exact HB.out|apply zA|apply zD|apply zE|refine zS ?_ GE128.out|refine zS ?_ GE129.out)|exact HB.out))));have n3_:=zm (zb (g:=gb128) (o:=.cells #[.string a0_0,.int .i64 a0_1,.int .i64 a0_2,.int .i64 a0_3,.int .i64 a0_4,.int .i64 a0_5,.int .i64 a0_6,.int .i64 a0_7,.slice A0_8 l0_8.length c0_8] 28 (0,0)) (by(with_reducible repeat first|apply zd|apply ze|apply za);exact BK128.out) hb);have n4_:=zm (zb (g:=gb129) (o:=.cells #[.string a1_0,.int .i64 a1_1,.int .i64 a1_2,.int .i64 a1_3,.int .i64 a1_4,.int .i64 a1_5,.int .i64 a1_6,.int .i64 a1_7,.slice A1_8 l1_8.length c1_8] 28 (0,0)) (by(with_reducible repeat first|apply zd|apply ze|apply za);exact BK129.out) hb);have n5_:=zm (below_step (by repeat(first|(with_reducible first|exact HB.out|apply zA|apply zD|apply zE|refine zS ?_ GE128.out|refine zS ?_ GE129.out)|exact HB.out)) hb);clear HO0_8 HO1_8 BK128 BK129 HB;have HO0_8:=n0_;have HO1_8:=n1_;have HO132:=n2_;have BK128:=n3_;have BK129:=n4_;have HB:=n5_;clear n0_ n1_ n2_ n3_ n4_ n5_;clear hb ho9;obtain⟨Ao10,co10,eo10⟩:=Kd.N_slice HO132.out;subst eo10))
 go_loopg [16] k (fun kq v16 w'=>∃(x16_1:Int),v16=.int .i64 x16_1∧Aside0 (fe_Separate.l0 kq y130 (y130.length:Int) x16_1 a0_0 a0_1 a0_2 a0_3 a0_4 a0_5 a0_6 a0_7 l0_8 a1_0 a1_1 a1_2 a1_3 a1_4 a1_5 a1_6 a1_7 l1_8=some (r1,r2))∧Aside0 (kq≤k)∧Aside0 (Kd.N k28 28 w' w.heap.size (fun k_=>((P0_8_ k_∨P1_8_ k_)∨w.heap.size≤k_)∧k_≠gb128∧k_≠gb129) (.slice Ao10 y130.length co10) y130)∧Aside0 (Kd.V k104 104 w' w.heap.size (fun k_=>((P0_8_ k_∨P1_8_ k_)∨w.heap.size≤k_)∧some k_≠((.slice Ao10 y130.length co10):Value).ownBlock∧k_≠gb128∧k_≠gb129) (.slice A0_8 l0_8.length c0_8) l0_8)∧Aside0 (Kd.V k104 104 w' w.heap.size (fun k_=>((P0_8_ k_∨P1_8_ k_)∨w.heap.size≤k_)∧some k_≠((.slice Ao10 y130.length co10):Value).ownBlock∧k_≠gb128∧k_≠gb129) (.slice A1_8 l1_8.length c1_8) l1_8)∧Aside0 (w'.heap[gb128]?=some (.cells #[.string a0_0,.int .i64 a0_1,.int .i64 a0_2,.int .i64 a0_3,.int .i64 a0_4,.int .i64 a0_5,.int .i64 a0_6,.int .i64 a0_7,(.slice A0_8 l0_8.length c0_8)] 28 (0,0)))∧Aside0 (w'.heap[gb129]?=some (.cells #[.string a1_0,.int .i64 a1_1,.int .i64 a1_2,.int .i64 a1_3,.int .i64 a1_4,.int .i64 a1_5,.int .i64 a1_6,.int .i64 a1_7,(.slice A1_8 l1_8.length c1_8)] 28 (0,0)))∧Aside0 (Below w.heap.size w w'))
 case atStart=>exact⟨(0),(by first|rfl|(simp;done)|(simp[*];done)),H',⟨Nat.le_refl _⟩,⟨by(with_reducible repeat(first|apply Kd.N_alloc|apply Kd.N_drewN|apply Kd.N_drew));exact HO132.out⟩,⟨by(with_reducible repeat(first|apply Kd.V_alloc|apply Kd.V_drewN|apply Kd.V_drew));exact Kd.V_mono HO0_8.out (fun _ hk=>⟨hk.1.1.1,⟨hk.2,⟨hk.1.1.2,hk.1.2⟩⟩⟩)⟩,⟨by(with_reducible repeat(first|apply Kd.V_alloc|apply Kd.V_drewN|apply Kd.V_drew));exact Kd.V_mono HO1_8.out (fun _ hk=>⟨hk.1.1.1,⟨hk.2,⟨hk.1.1.2,hk.1.2⟩⟩⟩)⟩,⟨by(with_reducible repeat first|apply zd|apply ze|apply za);exact BK128.out⟩,⟨by(with_reducible repeat first|apply zd|apply ze|apply za);exact BK129.out⟩,⟨by repeat(first|(with_reducible first|exact HB.out|apply zA|apply zD|apply zE|refine zS ?_ GE128.out|refine zS ?_ GE129.out)|exact HB.out)⟩⟩
 case round=>
  clear H'
  try clear c1
  try clear c2
  try clear p2
  try clear c5
  try clear c9
  try clear hcz6_0
  try clear hcz6_1
  try clear hcz6_2
  try clear hcz6_3
  try clear hcz6_4
  try clear hcz6_5
  try clear hcz6_6
  try clear hcz6_7
  try clear hcz6_8
  try clear hcz7_0
  try clear hcz7_1
  try clear hcz7_2
  try clear hcz7_3
  try clear hcz7_4
  try clear hcz7_5
  try clear hcz7_6
  try clear hcz7_7
  try clear hcz7_8
  try clear hfz6_0
  try clear hfz6_1
  try clear hfz6_2
  try clear hfz6_3
  try clear hfz6_4
  try clear hfz6_5
  try clear hfz6_6
  try clear hfz6_7
  try clear hfz6_8
  try clear hfz7_0
  try clear hfz7_1
  try clear hfz7_2
  try clear hfz7_3
  try clear hfz7_4
  try clear hfz7_5
  try clear hfz7_6
  try clear hfz7_7
  try clear hfz7_8
  obtain⟨x16_1,rfl,HA,HK1,HO_14,HO_129008,HO_130008,BK128,BK129,HB⟩:=hrel
  cases gk with
  | zero=>exact absurd HA.out (by simp[fe_Separate.l0])
  | succ k1=>
   have H:=HA.out
   clear HA
   simp only[fe_Separate.l0] at H
   by_cases c11:x16_1 < (y130.length:Int)
   ·rw[if_pos c11] at H
    have c11b0:decide (x16_1 < (y130.length:Int))=true:=decide_eq_true c11
    clear c11
    by_cases c12:0≤x16_1
    ·rw[if_pos c12] at H
     have c12b0:decide (0≤x16_1)=true:=decide_eq_true c12
     clear c12
     by_cases c13:x16_1 < (y130.length:Int)
     ·rw[if_pos c13] at H
      have c13b0:decide (x16_1 < (y130.length:Int))=true:=decide_eq_true c13
      clear c13
      replace H:=Option.bind_eq_some_iff.mp H
      obtain⟨t135,A140,H⟩:=H
      replace H:(if t135=0 then(fe_Separate.l0 k1 y130 (y130.length:Int) (wrap64 (x16_1+1)) a0_0 a0_1 a0_2 a0_3 a0_4 a0_5 a0_6 a0_7 l0_8 a1_0 a1_1 a1_2 a1_3 a1_4 a1_5 a1_6 a1_7 l1_8) else(some (false,t135)))=some (r1,r2):=H
      have A14:=zm A140
      clear A140
      by_cases c15:t135=0
      rw[if_pos c15] at H
      have c15b0:(t135==0)=true:=beq_iff_eq.mpr c15
      have c15b1:(t135 != 0)=false:=bne_eq_false_iff_eq.mpr c15
      clear c15
      have H':=zm H
      clear H
      rotate_left
      rw[if_neg c15] at H
      have c15b0:(t135==0)=false:=beq_eq_false_iff_ne.mpr c15
      have c15b1:(t135 != 0)=true:=bne_iff_ne.mpr c15
      simp only[Option.some.injEq,Prod.mk.injEq] at H
      obtain⟨rfl,rfl⟩:=H
      rotate_left
      all_goals
       have p133:0≤(x16_1:Int):=of_decide_eq_true (by first|(with_reducible assumption)|assumption)
       have q133:x16_1 < (y130.length:Int):=of_decide_eq_true (by first|(with_reducible assumption)|assumption)
       obtain⟨ad133,A133_8,c133_8,e133,hx133_0,hx133_1,hx133_2,hx133_3,hx133_4,hx133_5,hx133_6,hx133_7,hx133_8,hl133_8,hi133_8⟩:=at_T28 (Kd.N_reads' HO_14.out).2.2 x16_1 p133 q133
       cases e133
       obtain⟨ce133,hce133,hMe133,hcc133⟩:=Kd.N_get HO_14.out z28 x16_1 p133 (by first|exact q133|exact of_decide_eq_true (by first|(with_reducible assumption)|assumption)|(have e_:=(Kd.N_reads' HO_14.out).1;omega))
       obtain⟨ua133_8,uc133_8,rfl,ul133_8,ge133_8⟩:=k28_openF hMe133
       have hv133_8:=hcc133 8 _ rfl
       rw[add_field _ _ 8 (by omega)] at hv133_8
       replace hv133_8:=Option.some.inj (hv133_8.symm.trans hx133_8)
       injection hv133_8 with hva_ hvn_ hvc_
       rw[hva_] at ge133_8
       rw[hvc_] at ul133_8
       have HL133_8:=zm (show Kd.V k104 104 _ w.heap.size _ _ ((rd_T28 y130 x16_1).f5) from Kd.V_mk ul133_8 ge133_8)
       clear hva_ hvn_ hvc_ ge133_8 ul133_8 hcc133 hce133
       have HR133_8:=zm hi133_8
       have HC133_8:=zm hl133_8
       clear hi133_8 hl133_8
       replace p133:=eq_true p133
       replace q133:=eq_true q133
       go_wp2_with (first|((with_reducible refine gate_dst (N:=7) rfl ?_);refine box_event ?hg (N:=7) ?hd (cs:=#[.string (⟨#[]⟩:ByteArray),.int .i64 0,.int .i64 0,.int .i64 0,.int .i64 0,.int .i64 0,.int .i64 0,.int .i64 0,.slice none 0 0]) (t:=28) ?hr ?_;(case hd=>rfl);(case hg=>rfl);(case hr=>first|(go_simp;done)|(go_simp;rfl));intro gb134 hg w16 hbox hb;have n0_:=zm (Kd.N_below (Kd.N_elderB (by(with_reducible repeat(first|apply Kd.N_alloc|apply Kd.N_drewN|apply Kd.N_drew));exact HO_14.out) gb134 (Nat.le_of_eq hg.symm)) hb);have n1_:=zm (Kd.V_below (Kd.V_elderB (by(with_reducible repeat(first|apply Kd.V_alloc|apply Kd.V_drewN|apply Kd.V_drew));exact HO_129008.out) gb134 (Nat.le_of_eq hg.symm)) hb);have n2_:=zm (Kd.V_below (Kd.V_elderB (by(with_reducible repeat(first|apply Kd.V_alloc|apply Kd.V_drewN|apply Kd.V_drew));exact HO_130008.out) gb134 (Nat.le_of_eq hg.symm)) hb);have n3_:=zm (Kd.V_below (Kd.V_elderB (by(with_reducible repeat(first|apply Kd.V_alloc|apply Kd.V_drewN|apply Kd.V_drew));exact HL133_8.out) gb134 (Nat.le_of_eq hg.symm)) hb);have n4_:=zm (zb (g:=gb128) (o:=.cells #[.string a0_0,.int .i64 a0_1,.int .i64 a0_2,.int .i64 a0_3,.int .i64 a0_4,.int .i64 a0_5,.int .i64 a0_6,.int .i64 a0_7,.slice A0_8 l0_8.length c0_8] 28 (0,0)) (by(with_reducible repeat first|apply zd|apply ze|apply za);exact BK128.out) hb);have n5_:=zm (zb (g:=gb129) (o:=.cells #[.string a1_0,.int .i64 a1_1,.int .i64 a1_2,.int .i64 a1_3,.int .i64 a1_4,.int .i64 a1_5,.int .i64 a1_6,.int .i64 a1_7,.slice A1_8 l1_8.length c1_8] 28 (0,0)) (by(with_reducible repeat first|apply zd|apply ze|apply za);exact BK129.out) hb);have n6_:=zm (Kd.C_below (by repeat(first|(with_reducible exact HR133_8.out)|(with_reducible refine Kd.C_alloc ?_ _)|(with_reducible refine Kd.C_drewN ?_ _)|(with_reducible refine Kd.C_drew ?_)|exact HR133_8.out)) hb);have n7_:=zm (below_step (by repeat(first|(with_reducible first|exact HB.out|apply zA|apply zD|apply zE|refine zS ?_ GE128.out|refine zS ?_ GE129.out)|exact HB.out)) hb);have n8_:=zm (hbox);have n9_:=zm ((by rw[hg];exact(below_size (by repeat(first|(with_reducible first|exact HB.out|apply zA|apply zD|apply zE|refine zS ?_ GE128.out|refine zS ?_ GE129.out)|exact HB.out))):w.heap.size≤gb134));have n10_:=zm ((by rw[hg];exact(below_size (by repeat(first|(with_reducible first|exact HB.out|apply zA|apply zD|apply zE|refine zS ?_ GE128.out|refine zS ?_ GE129.out)|exact HB.out))):w.heap.size≤gb134));have n11_:=zm ((by rw[hg];exact Nat.ne_of_lt (blk_lt (g:=gb128) (o:=.cells #[.string a0_0,.int .i64 a0_1,.int .i64 a0_2,.int .i64 a0_3,.int .i64 a0_4,.int .i64 a0_5,.int .i64 a0_6,.int .i64 a0_7,.slice A0_8 l0_8.length c0_8] 28 (0,0)) (by(with_reducible repeat first|apply zd|apply ze|apply za);exact BK128.out)):gb128≠gb134));have n12_:=zm ((by rw[hg];exact Nat.ne_of_gt (blk_lt (g:=gb128) (o:=.cells #[.string a0_0,.int .i64 a0_1,.int .i64 a0_2,.int .i64 a0_3,.int .i64 a0_4,.int .i64 a0_5,.int .i64 a0_6,.int .i64 a0_7,.slice A0_8 l0_8.length c0_8] 28 (0,0)) (by(with_reducible repeat first|apply zd|apply ze|apply za);exact BK128.out)):gb134≠gb128));have n13_:=zm ((by rw[hg];exact Nat.ne_of_lt (blk_lt (g:=gb129) (o:=.cells #[.string a1_0,.int .i64 a1_1,.int .i64 a1_2,.int .i64 a1_3,.int .i64 a1_4,.int .i64 a1_5,.int .i64 a1_6,.int .i64 a1_7,.slice A1_8 l1_8.length c1_8] 28 (0,0)) (by(with_reducible repeat first|apply zd|apply ze|apply za);exact BK129.out)):gb129≠gb134));have n14_:=zm ((by rw[hg];exact Nat.ne_of_gt (blk_lt (g:=gb129) (o:=.cells #[.string a1_0,.int .i64 a1_1,.int .i64 a1_2,.int .i64 a1_3,.int .i64 a1_4,.int .i64 a1_5,.int .i64 a1_6,.int .i64 a1_7,.slice A1_8 l1_8.length c1_8] 28 (0,0)) (by(with_reducible repeat first|apply zd|apply ze|apply za);exact BK129.out)):gb134≠gb129));clear HO_14 HO_129008 HO_130008 HL133_8 BK128 BK129 HR133_8 HB;have HO_14:=n0_;have HO_129008:=n1_;have HO_130008:=n2_;have HL133_8:=n3_;have BK128:=n4_;have BK129:=n5_;have HR133_8:=n6_;have HB:=n7_;have BK134:=n8_;have GW134:=n9_;have GE134:=n10_;have NB128_134:=n11_;have NB134_128:=n12_;have NB129_134:=n13_;have NB134_129:=n14_;clear n0_ n1_ n2_ n3_ n4_ n5_ n6_ n7_ n8_ n9_ n10_ n11_ n12_ n13_ n14_;clear hb hbox hg;have hnb17:=NB134_128.out;have hnc17:=NB128_134.out;have hnb18:=NB134_129.out;have hnc18:=NB129_134.out;have hcz19_0:=zc BK134.out 0 (.string (⟨#[]⟩:ByteArray)) rfl;have hcz19_1:=zc BK134.out 1 (.int .i64 0) rfl;have hcz19_2:=zc BK134.out 2 (.int .i64 0) rfl;have hcz19_3:=zc BK134.out 3 (.int .i64 0) rfl;have hcz19_4:=zc BK134.out 4 (.int .i64 0) rfl;have hcz19_5:=zc BK134.out 5 (.int .i64 0) rfl;have hcz19_6:=zc BK134.out 6 (.int .i64 0) rfl;have hcz19_7:=zc BK134.out 7 (.int .i64 0) rfl;have hcz19_8:=zc BK134.out 8 (.slice none 0 0) rfl;have hfz19_0:=zf BK134.out 0;have hfz19_1:=zf BK134.out 1;have hfz19_2:=zf BK134.out 2;have hfz19_3:=zf BK134.out 3;have hfz19_4:=zf BK134.out 4;have hfz19_5:=zf BK134.out 5;have hfz19_6:=zf BK134.out 6;have hfz19_7:=zf BK134.out 7;have hfz19_8:=zf BK134.out 8)|((with_reducible refine gate_callee (f:=29) rfl ?_);refine goesL_ (some 21) rfl rfl Try.func29 (by kernel_rfl) rfl #[.agg #[.string ((rd_T28 y130 x16_1).f0),.int .i64 ((rd_T28 y130 x16_1).f1),.int .i64 ((rd_T28 y130 x16_1).f2),.int .i64 ((rd_T28 y130 x16_1).f3.f0),.int .i64 ((rd_T28 y130 x16_1).f3.f1),.int .i64 ((rd_T28 y130 x16_1).f3.f2),.int .i64 ((rd_T28 y130 x16_1).f4.f0),.int .i64 ((rd_T28 y130 x16_1).f4.f1),.slice A133_8 ((rd_T28 y130 x16_1).f5).length c133_8]] rfl (by(try simp only[List.map_toArray,List.map_cons,List.map_nil]);first|done|rfl|(simp only[List.length_drop,List.length_take];rfl)) ?_;(with_reducible refine(fe_Check.calls k1 ((rd_T28 y130 x16_1).f0) ((rd_T28 y130 x16_1).f1) ((rd_T28 y130 x16_1).f2) ((rd_T28 y130 x16_1).f3.f0) ((rd_T28 y130 x16_1).f3.f1) ((rd_T28 y130 x16_1).f3.f2) ((rd_T28 y130 x16_1).f4.f0) ((rd_T28 y130 x16_1).f4.f1) _ _ ((rd_T28 y130 x16_1).f5) t135 _ ?side1 ?side2 A14.out).mono ?_);(case side1=>repeat(first|exact((Kd.V_reads' (by(with_reducible repeat(first|apply Kd.V_alloc|apply Kd.V_drewN|apply Kd.V_drew));exact(Kd.V_mono (zV gb134 (Kd.V_mono HL133_8.out (fun k_ hk=>(⟨hk,hk.2⟩:_∧k_≠gb134))) (fun _ hk=>hk.2) (.string ((rd_T28 y130 x16_1).f0)) (.int .i64 ((rd_T28 y130 x16_1).f1)) (.int .i64 ((rd_T28 y130 x16_1).f2)) (.int .i64 ((rd_T28 y130 x16_1).f3.f0)) (.int .i64 ((rd_T28 y130 x16_1).f3.f1)) (.int .i64 ((rd_T28 y130 x16_1).f3.f2)) (.int .i64 ((rd_T28 y130 x16_1).f4.f0)) (.int .i64 ((rd_T28 y130 x16_1).f4.f1)) (.slice A133_8 ((rd_T28 y130 x16_1).f5).length c133_8)) (fun _ h_=>h_.1)))).2.2)|(with_reducible refine Kd.C_alloc ?_ _)|(with_reducible refine Kd.C_drewN ?_ _)|(with_reducible refine Kd.C_drew ?_)));(case side2=>exact HC133_8.out);rintro e w20 ⟨rfl,hb⟩;refine⟨_,rfl,?_⟩;have n0_:=zm (Kd.N_below (by(with_reducible repeat(first|apply Kd.N_alloc|apply Kd.N_drewN|apply Kd.N_drew));exact(Kd.N_mono (Kd.N_far (p:=⟨gb134,8,none⟩) (Kd.N_far (p:=⟨gb134,7,none⟩) (Kd.N_far (p:=⟨gb134,6,none⟩) (Kd.N_far (p:=⟨gb134,5,none⟩) (Kd.N_far (p:=⟨gb134,4,none⟩) (Kd.N_far (p:=⟨gb134,3,none⟩) (Kd.N_far (p:=⟨gb134,2,none⟩) (Kd.N_far (p:=⟨gb134,1,none⟩) (Kd.N_far (p:=⟨gb134,0,none⟩) (Kd.N_mono HO_14.out (fun k_ hk=>(⟨hk,hk.2⟩:_∧k_≠gb134))) (fun _ hk=>hk.2) (.string ((rd_T28 y130 x16_1).f0))) (fun _ hk=>hk.2) (.int .i64 ((rd_T28 y130 x16_1).f1))) (fun _ hk=>hk.2) (.int .i64 ((rd_T28 y130 x16_1).f2))) (fun _ hk=>hk.2) (.int .i64 ((rd_T28 y130 x16_1).f3.f0))) (fun _ hk=>hk.2) (.int .i64 ((rd_T28 y130 x16_1).f3.f1))) (fun _ hk=>hk.2) (.int .i64 ((rd_T28 y130 x16_1).f3.f2))) (fun _ hk=>hk.2) (.int .i64 ((rd_T28 y130 x16_1).f4.f0))) (fun _ hk=>hk.2) (.int .i64 ((rd_T28 y130 x16_1).f4.f1))) (fun _ hk=>hk.2) (.slice A133_8 ((rd_T28 y130 x16_1).f5).length c133_8)) (fun _ h_=>h_.1))) hb);have n1_:=zm (Kd.V_below (by(with_reducible repeat(first|apply Kd.V_alloc|apply Kd.V_drewN|apply Kd.V_drew));exact(Kd.V_mono (zV gb134 (Kd.V_mono HO_129008.out (fun k_ hk=>(⟨hk,hk.2⟩:_∧k_≠gb134))) (fun _ hk=>hk.2) (.string ((rd_T28 y130 x16_1).f0)) (.int .i64 ((rd_T28 y130 x16_1).f1)) (.int .i64 ((rd_T28 y130 x16_1).f2)) (.int .i64 ((rd_T28 y130 x16_1).f3.f0)) (.int .i64 ((rd_T28 y130 x16_1).f3.f1)) (.int .i64 ((rd_T28 y130 x16_1).f3.f2)) (.int .i64 ((rd_T28 y130 x16_1).f4.f0)) (.int .i64 ((rd_T28 y130 x16_1).f4.f1)) (.slice A133_8 ((rd_T28 y130 x16_1).f5).length c133_8)) (fun _ h_=>h_.1))) hb);have n2_:=zm (Kd.V_below (by(with_reducible repeat(first|apply Kd.V_alloc|apply Kd.V_drewN|apply Kd.V_drew));exact(Kd.V_mono (zV gb134 (Kd.V_mono HO_130008.out (fun k_ hk=>(⟨hk,hk.2⟩:_∧k_≠gb134))) (fun _ hk=>hk.2) (.string ((rd_T28 y130 x16_1).f0)) (.int .i64 ((rd_T28 y130 x16_1).f1)) (.int .i64 ((rd_T28 y130 x16_1).f2)) (.int .i64 ((rd_T28 y130 x16_1).f3.f0)) (.int .i64 ((rd_T28 y130 x16_1).f3.f1)) (.int .i64 ((rd_T28 y130 x16_1).f3.f2)) (.int .i64 ((rd_T28 y130 x16_1).f4.f0)) (.int .i64 ((rd_T28 y130 x16_1).f4.f1)) (.slice A133_8 ((rd_T28 y130 x16_1).f5).length c133_8)) (fun _ h_=>h_.1))) hb);have n3_:=zm (Kd.V_below (by(with_reducible repeat(first|apply Kd.V_alloc|apply Kd.V_drewN|apply Kd.V_drew));exact(Kd.V_mono (zV gb134 (Kd.V_mono HL133_8.out (fun k_ hk=>(⟨hk,hk.2⟩:_∧k_≠gb134))) (fun _ hk=>hk.2) (.string ((rd_T28 y130 x16_1).f0)) (.int .i64 ((rd_T28 y130 x16_1).f1)) (.int .i64 ((rd_T28 y130 x16_1).f2)) (.int .i64 ((rd_T28 y130 x16_1).f3.f0)) (.int .i64 ((rd_T28 y130 x16_1).f3.f1)) (.int .i64 ((rd_T28 y130 x16_1).f3.f2)) (.int .i64 ((rd_T28 y130 x16_1).f4.f0)) (.int .i64 ((rd_T28 y130 x16_1).f4.f1)) (.slice A133_8 ((rd_T28 y130 x16_1).f5).length c133_8)) (fun _ h_=>h_.1))) hb);have n4_:=zm (zb (g:=gb128) (o:=.cells #[.string a0_0,.int .i64 a0_1,.int .i64 a0_2,.int .i64 a0_3,.int .i64 a0_4,.int .i64 a0_5,.int .i64 a0_6,.int .i64 a0_7,.slice A0_8 l0_8.length c0_8] 28 (0,0)) (by(with_reducible repeat first|apply zd|apply ze|apply za);refine zF ?_ NB128_134.out _ _ _ _ _ _ _ _ _;(with_reducible repeat first|apply zd|apply ze|apply za);exact BK128.out) hb);have n5_:=zm (zb (g:=gb129) (o:=.cells #[.string a1_0,.int .i64 a1_1,.int .i64 a1_2,.int .i64 a1_3,.int .i64 a1_4,.int .i64 a1_5,.int .i64 a1_6,.int .i64 a1_7,.slice A1_8 l1_8.length c1_8] 28 (0,0)) (by(with_reducible repeat first|apply zd|apply ze|apply za);refine zF ?_ NB129_134.out _ _ _ _ _ _ _ _ _;(with_reducible repeat first|apply zd|apply ze|apply za);exact BK129.out) hb);have n6_:=zm (Kd.C_below ((Kd.V_reads' (by(with_reducible repeat(first|apply Kd.V_alloc|apply Kd.V_drewN|apply Kd.V_drew));exact(Kd.V_mono (zV gb134 (Kd.V_mono HL133_8.out (fun k_ hk=>(⟨hk,hk.2⟩:_∧k_≠gb134))) (fun _ hk=>hk.2) (.string ((rd_T28 y130 x16_1).f0)) (.int .i64 ((rd_T28 y130 x16_1).f1)) (.int .i64 ((rd_T28 y130 x16_1).f2)) (.int .i64 ((rd_T28 y130 x16_1).f3.f0)) (.int .i64 ((rd_T28 y130 x16_1).f3.f1)) (.int .i64 ((rd_T28 y130 x16_1).f3.f2)) (.int .i64 ((rd_T28 y130 x16_1).f4.f0)) (.int .i64 ((rd_T28 y130 x16_1).f4.f1)) (.slice A133_8 ((rd_T28 y130 x16_1).f5).length c133_8)) (fun _ h_=>h_.1)))).2.2) hb);have n7_:=zm (zb (g:=gb134) (o:=.cells #[.string ((rd_T28 y130 x16_1).f0),.int .i64 ((rd_T28 y130 x16_1).f1),.int .i64 ((rd_T28 y130 x16_1).f2),.int .i64 ((rd_T28 y130 x16_1).f3.f0),.int .i64 ((rd_T28 y130 x16_1).f3.f1),.int .i64 ((rd_T28 y130 x16_1).f3.f2),.int .i64 ((rd_T28 y130 x16_1).f4.f0),.int .i64 ((rd_T28 y130 x16_1).f4.f1),.slice A133_8 ((rd_T28 y130 x16_1).f5).length c133_8] 28 (0,0)) (by(with_reducible repeat first|apply zd|apply ze|apply za);refine blk_put (cs:=#[.string ((rd_T28 y130 x16_1).f0),.int .i64 ((rd_T28 y130 x16_1).f1),.int .i64 ((rd_T28 y130 x16_1).f2),.int .i64 ((rd_T28 y130 x16_1).f3.f0),.int .i64 ((rd_T28 y130 x16_1).f3.f1),.int .i64 ((rd_T28 y130 x16_1).f3.f2),.int .i64 ((rd_T28 y130 x16_1).f4.f0),.int .i64 ((rd_T28 y130 x16_1).f4.f1),.slice none 0 0]) ?_ 8 _ rfl;(with_reducible repeat first|apply zd|apply ze|apply za);refine blk_put (cs:=#[.string ((rd_T28 y130 x16_1).f0),.int .i64 ((rd_T28 y130 x16_1).f1),.int .i64 ((rd_T28 y130 x16_1).f2),.int .i64 ((rd_T28 y130 x16_1).f3.f0),.int .i64 ((rd_T28 y130 x16_1).f3.f1),.int .i64 ((rd_T28 y130 x16_1).f3.f2),.int .i64 ((rd_T28 y130 x16_1).f4.f0),.int .i64 0,.slice none 0 0]) ?_ 7 _ rfl;(with_reducible repeat first|apply zd|apply ze|apply za);refine blk_put (cs:=#[.string ((rd_T28 y130 x16_1).f0),.int .i64 ((rd_T28 y130 x16_1).f1),.int .i64 ((rd_T28 y130 x16_1).f2),.int .i64 ((rd_T28 y130 x16_1).f3.f0),.int .i64 ((rd_T28 y130 x16_1).f3.f1),.int .i64 ((rd_T28 y130 x16_1).f3.f2),.int .i64 0,.int .i64 0,.slice none 0 0]) ?_ 6 _ rfl;(with_reducible repeat first|apply zd|apply ze|apply za);refine blk_put (cs:=#[.string ((rd_T28 y130 x16_1).f0),.int .i64 ((rd_T28 y130 x16_1).f1),.int .i64 ((rd_T28 y130 x16_1).f2),.int .i64 ((rd_T28 y130 x16_1).f3.f0),.int .i64 ((rd_T28 y130 x16_1).f3.f1),.int .i64 0,.int .i64 0,.int .i64 0,.slice none 0 0]) ?_ 5 _ rfl;(with_reducible repeat first|apply zd|apply ze|apply za);refine blk_put (cs:=#[.string ((rd_T28 y130 x16_1).f0),.int .i64 ((rd_T28 y130 x16_1).f1),.int .i64 ((rd_T28 y130 x16_1).f2),.int .i64 ((rd_T28 y130 x16_1).f3.f0),.int .i64 0,.int .i64 0,.int .i64 0,.int .i64 0,.slice none 0 0]) ?_ 4 _ rfl;(with_reducible repeat first|apply zd|apply ze|apply za);refine blk_put (cs:=#[.string ((rd_T28 y130 x16_1).f0),.int .i64 ((rd_T28 y130 x16_1).f1),.int .i64 ((rd_T28 y130 x16_1).f2),.int .i64 0,.int .i64 0,.int .i64 0,.int .i64 0,.int .i64 0,.slice none 0 0]) ?_ 3 _ rfl;(with_reducible repeat first|apply zd|apply ze|apply za);refine blk_put (cs:=#[.string ((rd_T28 y130 x16_1).f0),.int .i64 ((rd_T28 y130 x16_1).f1),.int .i64 0,.int .i64 0,.int .i64 0,.int .i64 0,.int .i64 0,.int .i64 0,.slice none 0 0]) ?_ 2 _ rfl;(with_reducible repeat first|apply zd|apply ze|apply za);refine blk_put (cs:=#[.string ((rd_T28 y130 x16_1).f0),.int .i64 0,.int .i64 0,.int .i64 0,.int .i64 0,.int .i64 0,.int .i64 0,.int .i64 0,.slice none 0 0]) ?_ 1 _ rfl;(with_reducible repeat first|apply zd|apply ze|apply za);refine blk_put (cs:=#[.string (⟨#[]⟩:ByteArray),.int .i64 0,.int .i64 0,.int .i64 0,.int .i64 0,.int .i64 0,.int .i64 0,.int .i64 0,.slice none 0 0]) ?_ 0 _ rfl;(with_reducible repeat first|apply zd|apply ze|apply za);exact BK134.out) hb);have n8_:=zm (below_step (by repeat(first|(with_reducible first|exact HB.out|apply zA|apply zD|apply zE|refine zS ?_ GE128.out|refine zS ?_ GE129.out|refine zS ?_ GE134.out)|exact HB.out)) hb);clear HO_14 HO_129008 HO_130008 HL133_8 BK128 BK129 HR133_8 BK134 HB;have HO_14:=n0_;have HO_129008:=n1_;have HO_130008:=n2_;have HL133_8:=n3_;have BK128:=n4_;have BK129:=n5_;have HR133_8:=n6_;have BK134:=n7_;have HB:=n8_;clear n0_ n1_ n2_ n3_ n4_ n5_ n6_ n7_ n8_;(try clear hb);(try clear hb2);(try clear hk);(try clear hi)))
      ·go_roundg k1
       case measure=>have:=HK1.out;omega
       case rel=>exact⟨(wrap64 (x16_1+1)),(by first|rfl|(simp;done)|(simp[*];done)),H',⟨by have:=HK1.out;omega⟩,⟨by(with_reducible repeat(first|apply Kd.N_alloc|apply Kd.N_drewN|apply Kd.N_drew));exact Kd.N_mono HO_14.out (fun _ hk=>⟨hk.1.1,⟨hk.1.2.1,hk.1.2.2⟩⟩)⟩,⟨by(with_reducible repeat(first|apply Kd.V_alloc|apply Kd.V_drewN|apply Kd.V_drew));exact Kd.V_mono HO_129008.out (fun _ hk=>⟨hk.1.1,⟨hk.1.2.1,⟨hk.1.2.2.1,hk.1.2.2.2⟩⟩⟩)⟩,⟨by(with_reducible repeat(first|apply Kd.V_alloc|apply Kd.V_drewN|apply Kd.V_drew));exact Kd.V_mono HO_130008.out (fun _ hk=>⟨hk.1.1,⟨hk.1.2.1,⟨hk.1.2.2.1,hk.1.2.2.2⟩⟩⟩)⟩,⟨by(with_reducible repeat first|apply zd|apply ze|apply za);exact BK128.out⟩,⟨by(with_reducible repeat first|apply zd|apply ze|apply za);exact BK129.out⟩,⟨by repeat(first|(with_reducible first|exact HB.out|apply zA|apply zD|apply zE|refine zS ?_ GE128.out|refine zS ?_ GE129.out|refine zS ?_ GE134.out)|exact HB.out)⟩⟩
      ·go_ret2
       exact⟨by first|rfl|(simp[errW_none,errW_some]<;>rfl)|(simp[*,errW_none,errW_some]<;>rfl),by repeat(first|(with_reducible first|exact HB.out|apply zA|apply zD|apply zE|refine zS ?_ GE128.out|refine zS ?_ GE129.out|refine zS ?_ GE134.out)|exact HB.out)⟩
     ·rw[if_neg c13] at H
      exact absurd H (by simp)
    ·rw[if_neg c12] at H
     exact absurd H (by simp)
   ·rw[if_neg c11] at H
    have c11b0:decide (x16_1 < (y130.length:Int))=false:=decide_eq_false c11
    clear c11
    have H':=zm H
    clear H
    go_wp2
    go_loopg [26] k1 (fun kq v26 w'=>∃(x26_2:Int),v26=.int .i64 x26_2∧Aside0 (fe_Separate.l1 kq x26_2 a0_0 a0_1 a0_2 a0_3 a0_4 a0_5 a0_6 a0_7 l0_8 a1_0 a1_1 a1_2 a1_3 a1_4 a1_5 a1_6 a1_7 l1_8=some (r1,r2))∧Aside0 (kq≤k1)∧Aside0 (Kd.V k104 104 w' w.heap.size (fun k_=>((P0_8_ k_∨P1_8_ k_)∨w.heap.size≤k_)∧k_≠gb128∧k_≠gb129) (.slice A0_8 l0_8.length c0_8) l0_8)∧Aside0 (Kd.V k104 104 w' w.heap.size (fun k_=>((P0_8_ k_∨P1_8_ k_)∨w.heap.size≤k_)∧k_≠gb128∧k_≠gb129) (.slice A1_8 l1_8.length c1_8) l1_8)∧Aside0 (w'.heap[gb128]?=some (.cells #[.string a0_0,.int .i64 a0_1,.int .i64 a0_2,.int .i64 a0_3,.int .i64 a0_4,.int .i64 a0_5,.int .i64 a0_6,.int .i64 a0_7,(.slice A0_8 l0_8.length c0_8)] 28 (0,0)))∧Aside0 (w'.heap[gb129]?=some (.cells #[.string a1_0,.int .i64 a1_1,.int .i64 a1_2,.int .i64 a1_3,.int .i64 a1_4,.int .i64 a1_5,.int .i64 a1_6,.int .i64 a1_7,(.slice A1_8 l1_8.length c1_8)] 28 (0,0)))∧Aside0 (Below w.heap.size w w'))
    case atStart=>exact⟨(0),(by first|rfl|(simp;done)|(simp[*];done)),H',⟨Nat.le_refl _⟩,⟨by(with_reducible repeat(first|apply Kd.V_alloc|apply Kd.V_drewN|apply Kd.V_drew));exact Kd.V_mono HO_129008.out (fun _ hk=>⟨hk.1,⟨hk.2.2.1,hk.2.2.2⟩⟩)⟩,⟨by(with_reducible repeat(first|apply Kd.V_alloc|apply Kd.V_drewN|apply Kd.V_drew));exact Kd.V_mono HO_130008.out (fun _ hk=>⟨hk.1,⟨hk.2.2.1,hk.2.2.2⟩⟩)⟩,⟨by(with_reducible repeat first|apply zd|apply ze|apply za);exact BK128.out⟩,⟨by(with_reducible repeat first|apply zd|apply ze|apply za);exact BK129.out⟩,⟨by repeat(first|(with_reducible first|exact HB.out|apply zA|apply zD|apply zE|refine zS ?_ GE128.out|refine zS ?_ GE129.out)|exact HB.out)⟩⟩
    case round=>
     clear H'
     try clear c1
     try clear p1
     try clear q1
     try clear hx1
     try clear c2
     try clear p2
     try clear c5
     try clear p6
     try clear c9
     try clear c11
     try clear c11b0
     try clear c12
     try clear c12b0
     try clear c13
     try clear c13b0
     try clear p13
     try clear q13
     try clear hx13
     try clear c15
     try clear c15b0
     try clear c15b1
     try clear c17
     try clear c18
     try clear c21
     try clear c22
     try clear c23
     try clear hcz19_0
     try clear hcz19_1
     try clear hcz19_2
     try clear hcz19_3
     try clear hcz19_4
     try clear hcz19_5
     try clear hcz19_6
     try clear hcz19_7
     try clear hcz19_8
     try clear hcz24_0
     try clear hcz24_1
     try clear hcz24_2
     try clear hcz24_3
     try clear hcz24_4
     try clear hcz24_5
     try clear hcz24_6
     try clear hcz24_7
     try clear hcz24_8
     try clear hcz6_0
     try clear hcz6_1
     try clear hcz6_2
     try clear hcz6_3
     try clear hcz6_4
     try clear hcz6_5
     try clear hcz6_6
     try clear hcz6_7
     try clear hcz6_8
     try clear hcz7_0
     try clear hcz7_1
     try clear hcz7_2
     try clear hcz7_3
     try clear hcz7_4
     try clear hcz7_5
     try clear hcz7_6
     try clear hcz7_7
     try clear hcz7_8
     try clear hfz19_0
     try clear hfz19_1
     try clear hfz19_2
     try clear hfz19_3
     try clear hfz19_4
     try clear hfz19_5
     try clear hfz19_6
     try clear hfz19_7
     try clear hfz19_8
     try clear hfz24_0
     try clear hfz24_1
     try clear hfz24_2
     try clear hfz24_3
     try clear hfz24_4
     try clear hfz24_5
     try clear hfz24_6
     try clear hfz24_7
     try clear hfz24_8
     try clear hfz6_0
     try clear hfz6_1
     try clear hfz6_2
     try clear hfz6_3
     try clear hfz6_4
     try clear hfz6_5
     try clear hfz6_6
     try clear hfz6_7
     try clear hfz6_8
     try clear hfz7_0
     try clear hfz7_1
     try clear hfz7_2
     try clear hfz7_3
     try clear hfz7_4
     try clear hfz7_5
     try clear hfz7_6
     try clear hfz7_7
     try clear hfz7_8
     try clear hx133_0
     try clear hx133_1
     try clear hx133_2
     try clear hx133_3
     try clear hx133_4
     try clear hx133_5
     try clear hx133_6
     try clear hx133_7
     try clear hx133_8
     try clear p133
     try clear p2
     try clear q133
     obtain⟨x26_2,rfl,HA,HK2,HO_129008,HO_130008,BK128,BK129,HB⟩:=hrel
     cases gk with
     | zero=>exact absurd HA.out (by simp[fe_Separate.l1])
     | succ k2=>
      have H:=HA.out
      clear HA
      simp only[fe_Separate.l1] at H
      by_cases c26:x26_2 < 3
      ·rw[if_pos c26] at H
       have c26b0:decide (x26_2 < 3)=true:=decide_eq_true c26
       clear c26
       have HC27:=zm H
       clear H
       go_upto_region 11 with (fail)
       go_cut [38] (fun v38 wc=>∃(kq:Nat) (x38_26:Bool),v38=.bool x38_26∧Aside0 (fe_Separate.j2 kq x26_2 x26_2 x38_26 a0_0 a0_1 a0_2 a0_3 a0_4 a0_5 a0_6 a0_7 l0_8 a1_0 a1_1 a1_2 a1_3 a1_4 a1_5 a1_6 a1_7 l1_8=some (r1,r2))∧Aside0 (kq≤k2)∧Aside0 (Kd.V k104 104 wc w.heap.size (fun k_=>((P0_8_ k_∨P1_8_ k_)∨w.heap.size≤k_)∧k_≠gb128∧k_≠gb129) (.slice A0_8 l0_8.length c0_8) l0_8)∧Aside0 (Kd.V k104 104 wc w.heap.size (fun k_=>((P0_8_ k_∨P1_8_ k_)∨w.heap.size≤k_)∧k_≠gb128∧k_≠gb129) (.slice A1_8 l1_8.length c1_8) l1_8)∧Aside0 (wc.heap[gb128]?=some (.cells #[.string a0_0,.int .i64 a0_1,.int .i64 a0_2,.int .i64 a0_3,.int .i64 a0_4,.int .i64 a0_5,.int .i64 a0_6,.int .i64 a0_7,(.slice A0_8 l0_8.length c0_8)] 28 (0,0)))∧Aside0 (wc.heap[gb129]?=some (.cells #[.string a1_0,.int .i64 a1_1,.int .i64 a1_2,.int .i64 a1_3,.int .i64 a1_4,.int .i64 a1_5,.int .i64 a1_6,.int .i64 a1_7,(.slice A1_8 l1_8.length c1_8)] 28 (0,0)))∧Aside0 (Below w.heap.size w wc))
       case first=>
        have H:=HC27.out
        clear HC27
        replace H:=Option.bind_eq_some_iff.mp H
        obtain⟨t136,A280,H⟩:=H
        replace H:(if t136=true then((fe_bounded.f a1_0 a1_1 a1_2 a1_3 a1_4 a1_5 a1_6 a1_7 l1_8 x26_2).bind fun t137=>(fe_Separate.j2 k2 x26_2 x26_2 (!t137) a0_0 a0_1 a0_2 a0_3 a0_4 a0_5 a0_6 a0_7 l0_8 a1_0 a1_1 a1_2 a1_3 a1_4 a1_5 a1_6 a1_7 l1_8)) else(fe_Separate.j2 k2 x26_2 x26_2 true a0_0 a0_1 a0_2 a0_3 a0_4 a0_5 a0_6 a0_7 l0_8 a1_0 a1_1 a1_2 a1_3 a1_4 a1_5 a1_6 a1_7 l1_8))=some (r1,r2):=H
        have A28:=zm A280
        clear A280
        by_cases c29:t136=true
        ·subst c29
         have H1:((fe_bounded.f a1_0 a1_1 a1_2 a1_3 a1_4 a1_5 a1_6 a1_7 l1_8 x26_2).bind fun t137=>(fe_Separate.j2 k2 x26_2 x26_2 (!t137) a0_0 a0_1 a0_2 a0_3 a0_4 a0_5 a0_6 a0_7 l0_8 a1_0 a1_1 a1_2 a1_3 a1_4 a1_5 a1_6 a1_7 l1_8))=some (r1,r2):=by rw[if_pos rfl] at H;exact H
         clear H
         have H:=H1
         clear H1
         replace H:=Option.bind_eq_some_iff.mp H
         obtain⟨t137,A300,H⟩:=H
         replace H:(fe_Separate.j2 k2 x26_2 x26_2 (!t137) a0_0 a0_1 a0_2 a0_3 a0_4 a0_5 a0_6 a0_7 l0_8 a1_0 a1_1 a1_2 a1_3 a1_4 a1_5 a1_6 a1_7 l1_8)=some (r1,r2):=H
         have A30:=zm A300
         clear A300
         have H':=zm H
         clear H
         have hnb31:=NB128_129.out
         have hnc31:=NB129_128.out
         have hcz32_0:=zc BK128.out 0 (.string a0_0) rfl
         have hcz32_1:=zc BK128.out 1 (.int .i64 a0_1) rfl
         have hcz32_2:=zc BK128.out 2 (.int .i64 a0_2) rfl
         have hcz32_3:=zc BK128.out 3 (.int .i64 a0_3) rfl
         have hcz32_4:=zc BK128.out 4 (.int .i64 a0_4) rfl
         have hcz32_5:=zc BK128.out 5 (.int .i64 a0_5) rfl
         have hcz32_6:=zc BK128.out 6 (.int .i64 a0_6) rfl
         have hcz32_7:=zc BK128.out 7 (.int .i64 a0_7) rfl
         have hcz32_8:=zc BK128.out 8 (.slice A0_8 l0_8.length c0_8) rfl
         have hfz32_0:=zf BK128.out 0
         have hfz32_1:=zf BK128.out 1
         have hfz32_2:=zf BK128.out 2
         have hfz32_3:=zf BK128.out 3
         have hfz32_4:=zf BK128.out 4
         have hfz32_5:=zf BK128.out 5
         have hfz32_6:=zf BK128.out 6
         have hfz32_7:=zf BK128.out 7
         have hfz32_8:=zf BK128.out 8
         go_wp2_with (first|((with_reducible refine gate_callee (f:=69) rfl ?_);refine goesL_ (some 31) rfl rfl Try.func69 (by kernel_rfl) rfl #[.agg #[.string a0_0,.int .i64 a0_1,.int .i64 a0_2,.int .i64 a0_3,.int .i64 a0_4,.int .i64 a0_5,.int .i64 a0_6,.int .i64 a0_7,.slice A0_8 l0_8.length c0_8],.int .i64 x26_2] rfl (by(try simp only[List.map_toArray,List.map_cons,List.map_nil]);first|done|rfl|(simp only[List.length_drop,List.length_take];rfl)) ?_;(with_reducible refine(fe_bounded.calls a0_0 a0_1 a0_2 a0_3 a0_4 a0_5 a0_6 a0_7 _ _ l0_8 x26_2 true _ ?side1 ?side2 A28.out).mono ?_);(case side1=>repeat(first|exact(Kd.V_reads' HO_129008.out).2.2|(with_reducible refine Kd.C_alloc ?_ _)|(with_reducible refine Kd.C_drewN ?_ _)|(with_reducible refine Kd.C_drew ?_)));(case side2=>exact(Kd.V_reads' HO_129008.out).2.1);rintro e w33 ⟨rfl,hb⟩;refine⟨_,rfl,?_⟩;have n0_:=zm (Kd.V_below (by(with_reducible repeat(first|apply Kd.V_alloc|apply Kd.V_drewN|apply Kd.V_drew));exact HO_129008.out) hb);have n1_:=zm (Kd.V_below (by(with_reducible repeat(first|apply Kd.V_alloc|apply Kd.V_drewN|apply Kd.V_drew));exact HO_130008.out) hb);have n2_:=zm (zb (g:=gb128) (o:=.cells #[.string a0_0,.int .i64 a0_1,.int .i64 a0_2,.int .i64 a0_3,.int .i64 a0_4,.int .i64 a0_5,.int .i64 a0_6,.int .i64 a0_7,.slice A0_8 l0_8.length c0_8] 28 (0,0)) (by(with_reducible repeat first|apply zd|apply ze|apply za);exact BK128.out) hb);have n3_:=zm (zb (g:=gb129) (o:=.cells #[.string a1_0,.int .i64 a1_1,.int .i64 a1_2,.int .i64 a1_3,.int .i64 a1_4,.int .i64 a1_5,.int .i64 a1_6,.int .i64 a1_7,.slice A1_8 l1_8.length c1_8] 28 (0,0)) (by(with_reducible repeat first|apply zd|apply ze|apply za);exact BK129.out) hb);have n4_:=zm (below_step (by repeat(first|(with_reducible first|exact HB.out|apply zA|apply zD|apply zE|refine zS ?_ GE128.out|refine zS ?_ GE129.out)|exact HB.out)) hb);clear HO_129008 HO_130008 BK128 BK129 HB;have HO_129008:=n0_;have HO_130008:=n1_;have BK128:=n2_;have BK129:=n3_;have HB:=n4_;clear n0_ n1_ n2_ n3_ n4_;(try clear hb);(try clear hb2);(try clear hk);(try clear hi);have hcz34_0:=zc BK129.out 0 (.string a1_0) rfl;have hcz34_1:=zc BK129.out 1 (.int .i64 a1_1) rfl;have hcz34_2:=zc BK129.out 2 (.int .i64 a1_2) rfl;have hcz34_3:=zc BK129.out 3 (.int .i64 a1_3) rfl;have hcz34_4:=zc BK129.out 4 (.int .i64 a1_4) rfl;have hcz34_5:=zc BK129.out 5 (.int .i64 a1_5) rfl;have hcz34_6:=zc BK129.out 6 (.int .i64 a1_6) rfl;have hcz34_7:=zc BK129.out 7 (.int .i64 a1_7) rfl;have hcz34_8:=zc BK129.out 8 (.slice A1_8 l1_8.length c1_8) rfl;have hfz34_0:=zf BK129.out 0;have hfz34_1:=zf BK129.out 1;have hfz34_2:=zf BK129.out 2;have hfz34_3:=zf BK129.out 3;have hfz34_4:=zf BK129.out 4;have hfz34_5:=zf BK129.out 5;have hfz34_6:=zf BK129.out 6;have hfz34_7:=zf BK129.out 7;have hfz34_8:=zf BK129.out 8)|(go_at_call 69;(with_reducible refine(fe_bounded.calls a1_0 a1_1 a1_2 a1_3 a1_4 a1_5 a1_6 a1_7 _ _ l1_8 x26_2 t137 _ ?side1 ?side2 A30.out).mono ?_);(case side1=>repeat(first|exact(Kd.V_reads' HO_130008.out).2.2|(with_reducible refine Kd.C_alloc ?_ _)|(with_reducible refine Kd.C_drewN ?_ _)|(with_reducible refine Kd.C_drew ?_)));(case side2=>exact(Kd.V_reads' HO_130008.out).2.1);rintro e w35 ⟨rfl,hb⟩;have n0_:=zm (Kd.V_below (by(with_reducible repeat(first|apply Kd.V_alloc|apply Kd.V_drewN|apply Kd.V_drew));exact HO_129008.out) hb);have n1_:=zm (Kd.V_below (by(with_reducible repeat(first|apply Kd.V_alloc|apply Kd.V_drewN|apply Kd.V_drew));exact HO_130008.out) hb);have n2_:=zm (zb (g:=gb128) (o:=.cells #[.string a0_0,.int .i64 a0_1,.int .i64 a0_2,.int .i64 a0_3,.int .i64 a0_4,.int .i64 a0_5,.int .i64 a0_6,.int .i64 a0_7,.slice A0_8 l0_8.length c0_8] 28 (0,0)) (by(with_reducible repeat first|apply zd|apply ze|apply za);exact BK128.out) hb);have n3_:=zm (zb (g:=gb129) (o:=.cells #[.string a1_0,.int .i64 a1_1,.int .i64 a1_2,.int .i64 a1_3,.int .i64 a1_4,.int .i64 a1_5,.int .i64 a1_6,.int .i64 a1_7,.slice A1_8 l1_8.length c1_8] 28 (0,0)) (by(with_reducible repeat first|apply zd|apply ze|apply za);exact BK129.out) hb);have n4_:=zm (below_step (by repeat(first|(with_reducible first|exact HB.out|apply zA|apply zD|apply zE|refine zS ?_ GE128.out|refine zS ?_ GE129.out)|exact HB.out)) hb);clear HO_129008 HO_130008 BK128 BK129 HB;have HO_129008:=n0_;have HO_130008:=n1_;have BK128:=n2_;have BK129:=n3_;have HB:=n4_;clear n0_ n1_ n2_ n3_ n4_;(try clear hb);(try clear hb2);(try clear hk);(try clear hi)))
         go_meet
         case rel=>exact⟨_,(!t137),(by first|rfl|(simp;done)|(simp[*];done)),H',⟨by have:=HK1.out;have:=HK2.out;first|omega|exact Nat.le_refl _⟩,⟨by(with_reducible repeat(first|apply Kd.V_alloc|apply Kd.V_drewN|apply Kd.V_drew));exact HO_129008.out⟩,⟨by(with_reducible repeat(first|apply Kd.V_alloc|apply Kd.V_drewN|apply Kd.V_drew));exact HO_130008.out⟩,⟨by(with_reducible repeat first|apply zd|apply ze|apply za);exact BK128.out⟩,⟨by(with_reducible repeat first|apply zd|apply ze|apply za);exact BK129.out⟩,⟨by repeat(first|(with_reducible first|exact HB.out|apply zA|apply zD|apply zE|refine zS ?_ GE128.out|refine zS ?_ GE129.out)|exact HB.out)⟩⟩
        ·replace c29:=Bool.eq_false_iff.mpr c29
         subst c29
         have H1:(fe_Separate.j2 k2 x26_2 x26_2 true a0_0 a0_1 a0_2 a0_3 a0_4 a0_5 a0_6 a0_7 l0_8 a1_0 a1_1 a1_2 a1_3 a1_4 a1_5 a1_6 a1_7 l1_8)=some (r1,r2):=by rw[if_neg (show ¬(false=true) by decide)] at H;exact H
         clear H
         have H:=H1
         clear H1
         have H':=zm H
         clear H
         have hnb36:=NB128_129.out
         have hnc36:=NB129_128.out
         have hcz37_0:=zc BK128.out 0 (.string a0_0) rfl
         have hcz37_1:=zc BK128.out 1 (.int .i64 a0_1) rfl
         have hcz37_2:=zc BK128.out 2 (.int .i64 a0_2) rfl
         have hcz37_3:=zc BK128.out 3 (.int .i64 a0_3) rfl
         have hcz37_4:=zc BK128.out 4 (.int .i64 a0_4) rfl
         have hcz37_5:=zc BK128.out 5 (.int .i64 a0_5) rfl
         have hcz37_6:=zc BK128.out 6 (.int .i64 a0_6) rfl
         have hcz37_7:=zc BK128.out 7 (.int .i64 a0_7) rfl
         have hcz37_8:=zc BK128.out 8 (.slice A0_8 l0_8.length c0_8) rfl
         have hfz37_0:=zf BK128.out 0
         have hfz37_1:=zf BK128.out 1
         have hfz37_2:=zf BK128.out 2
         have hfz37_3:=zf BK128.out 3
         have hfz37_4:=zf BK128.out 4
         have hfz37_5:=zf BK128.out 5
         have hfz37_6:=zf BK128.out 6
         have hfz37_7:=zf BK128.out 7
         have hfz37_8:=zf BK128.out 8
         go_wp2_with (first|((with_reducible refine gate_callee (f:=69) rfl ?_);refine goesL_ (some 31) rfl rfl Try.func69 (by kernel_rfl) rfl #[.agg #[.string a0_0,.int .i64 a0_1,.int .i64 a0_2,.int .i64 a0_3,.int .i64 a0_4,.int .i64 a0_5,.int .i64 a0_6,.int .i64 a0_7,.slice A0_8 l0_8.length c0_8],.int .i64 x26_2] rfl (by(try simp only[List.map_toArray,List.map_cons,List.map_nil]);first|done|rfl|(simp only[List.length_drop,List.length_take];rfl)) ?_;(with_reducible refine(fe_bounded.calls a0_0 a0_1 a0_2 a0_3 a0_4 a0_5 a0_6 a0_7 _ _ l0_8 x26_2 false _ ?side1 ?side2 A28.out).mono ?_);(case side1=>repeat(first|exact(Kd.V_reads' HO_129008.out).2.2|(with_reducible refine Kd.C_alloc ?_ _)|(with_reducible refine Kd.C_drewN ?_ _)|(with_reducible refine Kd.C_drew ?_)));(case side2=>exact(Kd.V_reads' HO_129008.out).2.1);rintro e w38 ⟨rfl,hb⟩;refine⟨_,rfl,?_⟩;have n0_:=zm (Kd.V_below (by(with_reducible repeat(first|apply Kd.V_alloc|apply Kd.V_drewN|apply Kd.V_drew));exact HO_129008.out) hb);have n1_:=zm (Kd.V_below (by(with_reducible repeat(first|apply Kd.V_alloc|apply Kd.V_drewN|apply Kd.V_drew));exact HO_130008.out) hb);have n2_:=zm (zb (g:=gb128) (o:=.cells #[.string a0_0,.int .i64 a0_1,.int .i64 a0_2,.int .i64 a0_3,.int .i64 a0_4,.int .i64 a0_5,.int .i64 a0_6,.int .i64 a0_7,.slice A0_8 l0_8.length c0_8] 28 (0,0)) (by(with_reducible repeat first|apply zd|apply ze|apply za);exact BK128.out) hb);have n3_:=zm (zb (g:=gb129) (o:=.cells #[.string a1_0,.int .i64 a1_1,.int .i64 a1_2,.int .i64 a1_3,.int .i64 a1_4,.int .i64 a1_5,.int .i64 a1_6,.int .i64 a1_7,.slice A1_8 l1_8.length c1_8] 28 (0,0)) (by(with_reducible repeat first|apply zd|apply ze|apply za);exact BK129.out) hb);have n4_:=zm (below_step (by repeat(first|(with_reducible first|exact HB.out|apply zA|apply zD|apply zE|refine zS ?_ GE128.out|refine zS ?_ GE129.out)|exact HB.out)) hb);clear HO_129008 HO_130008 BK128 BK129 HB;have HO_129008:=n0_;have HO_130008:=n1_;have BK128:=n2_;have BK129:=n3_;have HB:=n4_;clear n0_ n1_ n2_ n3_ n4_;(try clear hb);(try clear hb2);(try clear hk);(try clear hi)))
         go_meet
         case rel=>exact⟨_,(true),(by first|rfl|(simp;done)|(simp[*];done)),H',⟨by have:=HK1.out;have:=HK2.out;first|omega|exact Nat.le_refl _⟩,⟨by(with_reducible repeat(first|apply Kd.V_alloc|apply Kd.V_drewN|apply Kd.V_drew));exact HO_129008.out⟩,⟨by(with_reducible repeat(first|apply Kd.V_alloc|apply Kd.V_drewN|apply Kd.V_drew));exact HO_130008.out⟩,⟨by(with_reducible repeat first|apply zd|apply ze|apply za);exact BK128.out⟩,⟨by(with_reducible repeat first|apply zd|apply ze|apply za);exact BK129.out⟩,⟨by repeat(first|(with_reducible first|exact HB.out|apply zA|apply zD|apply zE|refine zS ?_ GE128.out|refine zS ?_ GE129.out)|exact HB.out)⟩⟩
       case rest=>
        clear HC27
        try clear c1
        try clear p1
        try clear q1
        try clear hx1
        try clear c2
        try clear p2
        try clear c3
        try clear c5
        try clear c6
        try clear p6
        try clear c9
        try clear c11
        try clear c11b0
        try clear c12
        try clear c12b0
        try clear c13
        try clear c13b0
        try clear p13
        try clear q13
        try clear hx13
        try clear c15
        try clear c15b0
        try clear c15b1
        try clear c17
        try clear c18
        try clear c21
        try clear c22
        try clear c23
        try clear c26
        try clear c26b0
        try clear c29
        try clear c31
        try clear c36
        try clear hcz19_0
        try clear hcz19_1
        try clear hcz19_2
        try clear hcz19_3
        try clear hcz19_4
        try clear hcz19_5
        try clear hcz19_6
        try clear hcz19_7
        try clear hcz19_8
        try clear hcz24_0
        try clear hcz24_1
        try clear hcz24_2
        try clear hcz24_3
        try clear hcz24_4
        try clear hcz24_5
        try clear hcz24_6
        try clear hcz24_7
        try clear hcz24_8
        try clear hcz32_0
        try clear hcz32_1
        try clear hcz32_2
        try clear hcz32_3
        try clear hcz32_4
        try clear hcz32_5
        try clear hcz32_6
        try clear hcz32_7
        try clear hcz32_8
        try clear hcz34_0
        try clear hcz34_1
        try clear hcz34_2
        try clear hcz34_3
        try clear hcz34_4
        try clear hcz34_5
        try clear hcz34_6
        try clear hcz34_7
        try clear hcz34_8
        try clear hcz37_0
        try clear hcz37_1
        try clear hcz37_2
        try clear hcz37_3
        try clear hcz37_4
        try clear hcz37_5
        try clear hcz37_6
        try clear hcz37_7
        try clear hcz37_8
        try clear hcz6_0
        try clear hcz6_1
        try clear hcz6_2
        try clear hcz6_3
        try clear hcz6_4
        try clear hcz6_5
        try clear hcz6_6
        try clear hcz6_7
        try clear hcz6_8
        try clear hcz7_0
        try clear hcz7_1
        try clear hcz7_2
        try clear hcz7_3
        try clear hcz7_4
        try clear hcz7_5
        try clear hcz7_6
        try clear hcz7_7
        try clear hcz7_8
        try clear hfz19_0
        try clear hfz19_1
        try clear hfz19_2
        try clear hfz19_3
        try clear hfz19_4
        try clear hfz19_5
        try clear hfz19_6
        try clear hfz19_7
        try clear hfz19_8
        try clear hfz24_0
        try clear hfz24_1
        try clear hfz24_2
        try clear hfz24_3
        try clear hfz24_4
        try clear hfz24_5
        try clear hfz24_6
        try clear hfz24_7
        try clear hfz24_8
        try clear hfz32_0
        try clear hfz32_1
        try clear hfz32_2
        try clear hfz32_3
        try clear hfz32_4
        try clear hfz32_5
        try clear hfz32_6
        try clear hfz32_7
        try clear hfz32_8
        try clear hfz34_0
        try clear hfz34_1
        try clear hfz34_2
        try clear hfz34_3
        try clear hfz34_4
        try clear hfz34_5
        try clear hfz34_6
        try clear hfz34_7
        try clear hfz34_8
        try clear hfz37_0
        try clear hfz37_1
        try clear hfz37_2
        try clear hfz37_3
        try clear hfz37_4
        try clear hfz37_5
        try clear hfz37_6
        try clear hfz37_7
        try clear hfz37_8
        try clear hfz6_0
        try clear hfz6_1
        try clear hfz6_2
        try clear hfz6_3
        try clear hfz6_4
        try clear hfz6_5
        try clear hfz6_6
        try clear hfz6_7
        try clear hfz6_8
        try clear hfz7_0
        try clear hfz7_1
        try clear hfz7_2
        try clear hfz7_3
        try clear hfz7_4
        try clear hfz7_5
        try clear hfz7_6
        try clear hfz7_7
        try clear hfz7_8
        try clear hx133_0
        try clear hx133_1
        try clear hx133_2
        try clear hx133_3
        try clear hx133_4
        try clear hx133_5
        try clear hx133_6
        try clear hx133_7
        try clear hx133_8
        try clear p1
        try clear p13
        try clear p133
        try clear p2
        try clear p6
        try clear q1
        try clear q13
        try clear q133
        obtain⟨kq,x38_26,rfl,HA,HJ26,HO_129008,HO_130008,BK128,BK129,HB⟩:=hcut
        cases kq with
        | zero=>exact absurd HA.out (by simp[fe_Separate.j2])
        | succ kj26=>
         have H:=HA.out
         clear HA
         simp only[fe_Separate.j2] at H
         by_cases c39:x38_26=true
         ·subst c39
          have H1:(fe_Separate.l1 kj26 (wrap64 (x26_2+1)) a0_0 a0_1 a0_2 a0_3 a0_4 a0_5 a0_6 a0_7 l0_8 a1_0 a1_1 a1_2 a1_3 a1_4 a1_5 a1_6 a1_7 l1_8)=some (r1,r2):=by rw[if_pos rfl] at H;exact H
          clear H
          have H:=H1
          clear H1
          have H':=zm H
          clear H
          go_wp2
          go_roundg kj26
          case measure=>have:=HK1.out;have:=HK2.out;have:=HJ26.out;omega
          case rel=>exact⟨(wrap64 (x26_2+1)),(by first|rfl|(simp;done)|(simp[*];done)),H',⟨by have:=HK1.out;have:=HK2.out;have:=HJ26.out;omega⟩,⟨by(with_reducible repeat(first|apply Kd.V_alloc|apply Kd.V_drewN|apply Kd.V_drew));exact HO_129008.out⟩,⟨by(with_reducible repeat(first|apply Kd.V_alloc|apply Kd.V_drewN|apply Kd.V_drew));exact HO_130008.out⟩,⟨by(with_reducible repeat first|apply zd|apply ze|apply za);exact BK128.out⟩,⟨by(with_reducible repeat first|apply zd|apply ze|apply za);exact BK129.out⟩,⟨by repeat(first|(with_reducible first|exact HB.out|apply zA|apply zD|apply zE|refine zS ?_ GE128.out|refine zS ?_ GE129.out)|exact HB.out)⟩⟩
         ·replace c39:=Bool.eq_false_iff.mpr c39
          subst c39
          have H1:((fe_reach.f a0_0 a0_1 a0_2 a0_3 a0_4 a0_5 a0_6 a0_7 l0_8 x26_2).bind fun bt138=>((fe_reach.f a1_0 a1_1 a1_2 a1_3 a1_4 a1_5 a1_6 a1_7 l1_8 x26_2).bind fun bt140=>(if bt138.2 < bt140.1 then(some (true,0)) else(if bt140.2 < bt138.1 then(some (true,0)) else(fe_Separate.l1 kj26 (wrap64 (x26_2+1)) a0_0 a0_1 a0_2 a0_3 a0_4 a0_5 a0_6 a0_7 l0_8 a1_0 a1_1 a1_2 a1_3 a1_4 a1_5 a1_6 a1_7 l1_8)))))=some (r1,r2):=by rw[if_neg (show ¬(false=true) by decide)] at H;exact H
          clear H
          have H:=H1
          clear H1
          replace H:=Option.bind_eq_some_iff.mp H
          obtain⟨⟨t138,t139⟩,A400,H⟩:=H
          replace H:((fe_reach.f a1_0 a1_1 a1_2 a1_3 a1_4 a1_5 a1_6 a1_7 l1_8 x26_2).bind fun bt140=>(if t139 < bt140.1 then(some (true,0)) else(if bt140.2 < t138 then(some (true,0)) else(fe_Separate.l1 kj26 (wrap64 (x26_2+1)) a0_0 a0_1 a0_2 a0_3 a0_4 a0_5 a0_6 a0_7 l0_8 a1_0 a1_1 a1_2 a1_3 a1_4 a1_5 a1_6 a1_7 l1_8))))=some (r1,r2):=H
          have A40:=zm A400
          clear A400
          replace H:=Option.bind_eq_some_iff.mp H
          obtain⟨⟨t140,t141⟩,A410,H⟩:=H
          replace H:(if t139 < t140 then(some (true,0)) else(if t141 < t138 then(some (true,0)) else(fe_Separate.l1 kj26 (wrap64 (x26_2+1)) a0_0 a0_1 a0_2 a0_3 a0_4 a0_5 a0_6 a0_7 l0_8 a1_0 a1_1 a1_2 a1_3 a1_4 a1_5 a1_6 a1_7 l1_8)))=some (r1,r2):=H
          have A41:=zm A410
          clear A410
          have HX_:=zm H
          clear H
          try go_wp2
          have n0_:=zm (Kd.V_drew HO_129008.out)
          have n1_:=zm (Kd.V_drew HO_130008.out)
          have n2_:=zm (ze BK128.out)
          have n3_:=zm (ze BK129.out)
          have n4_:=zm (zE HB.out)
          clear HO_129008 HO_130008 BK128 BK129 HB
          have HO_129008:=n0_
          have HO_130008:=n1_
          have BK128:=n2_
          have BK129:=n3_
          have HB:=n4_
          clear n0_ n1_ n2_ n3_ n4_
          refine start_ (n:=10) (S:=fun w'=>w'.cell? ⟨gb128,0,none⟩=some (.string a0_0)∧w'.cell? ⟨gb128,1,none⟩=some (.int .i64 a0_1)∧w'.cell? ⟨gb128,2,none⟩=some (.int .i64 a0_2)∧w'.cell? ⟨gb128,3,none⟩=some (.int .i64 a0_3)∧w'.cell? ⟨gb128,4,none⟩=some (.int .i64 a0_4)∧w'.cell? ⟨gb128,5,none⟩=some (.int .i64 a0_5)∧w'.cell? ⟨gb128,6,none⟩=some (.int .i64 a0_6)∧w'.cell? ⟨gb128,7,none⟩=some (.int .i64 a0_7)∧w'.cell? ⟨gb128,8,none⟩=some (.slice A0_8 l0_8.length c0_8)∧w'.cell? ⟨gb129,0,none⟩=some (.string a1_0)∧w'.cell? ⟨gb129,1,none⟩=some (.int .i64 a1_1)∧w'.cell? ⟨gb129,2,none⟩=some (.int .i64 a1_2)∧w'.cell? ⟨gb129,3,none⟩=some (.int .i64 a1_3)∧w'.cell? ⟨gb129,4,none⟩=some (.int .i64 a1_4)∧w'.cell? ⟨gb129,5,none⟩=some (.int .i64 a1_5)∧w'.cell? ⟨gb129,6,none⟩=some (.int .i64 a1_6)∧w'.cell? ⟨gb129,7,none⟩=some (.int .i64 a1_7)∧w'.cell? ⟨gb129,8,none⟩=some (.slice A1_8 l1_8.length c1_8)) (ds:=[]) #[false,false,false,false,false,false,false,false,false,false] (by kernel_rfl) rfl rfl ⟨(blk_cell BK128.out 0).trans rfl,(blk_cell BK128.out 1).trans rfl,(blk_cell BK128.out 2).trans rfl,(blk_cell BK128.out 3).trans rfl,(blk_cell BK128.out 4).trans rfl,(blk_cell BK128.out 5).trans rfl,(blk_cell BK128.out 6).trans rfl,(blk_cell BK128.out 7).trans rfl,(blk_cell BK128.out 8).trans rfl,(blk_cell BK129.out 0).trans rfl,(blk_cell BK129.out 1).trans rfl,(blk_cell BK129.out 2).trans rfl,(blk_cell BK129.out 3).trans rfl,(blk_cell BK129.out 4).trans rfl,(blk_cell BK129.out 5).trans rfl,(blk_cell BK129.out 6).trans rfl,(blk_cell BK129.out 7).trans rfl,(blk_cell BK129.out 8).trans rfl⟩ (fun hHeld=>?_);refine with_tabW fe_Separate.tab12 fe_Separate.bits12 (fun HT_ HW_=>?_)
          generalize wc.drew=w43 at HO_129008 HO_130008 BK128 BK129 HB hHeld ⊢
          refine pure_ (i:=1) (N:=some 40) (v:=?_) (a':=?_) #[false,true,false,false,false,false,false,false,false,false] rfl rfl (any_of HT_.out (by kernel_rfl)) (fun _ _ _ h=>h) (Or.inl ⟨by rfl,?_⟩) ?_ ?_
          rotate_left
          ·intro w'
           go_simp
           with_reducible rfl
          rotate_left
          ·simp only[Act.put,zx,zy,zz,i64_w,i32_w]
           rfl
          refine pure_ (i:=4) (N:=some 43) (v:=?_) (a':=?_) #[false,true,false,false,true,false,false,false,false,false] rfl rfl (any_of HT_.out (by kernel_rfl)) (fun _ _ _ h=>h) (Or.inl ⟨by rfl,?_⟩) ?_ ?_
          rotate_left
          ·intro w'
           go_simp
           with_reducible rfl
          rotate_left
          ·simp only[Act.put,zx,zy,zz,i64_w,i32_w]
           rfl
          refine take_ (i:=0) (N:=some 39) (v:=?_) (a':=?_) #[true,true,false,false,true,false,false,false,false,false] rfl rfl (take_ofW HT_.out HW_.out (by kernel_rfl)) (fun _ _ _ h=>h) (Or.inl ⟨by rfl,?_⟩) hHeld ?_ ?_
          rotate_left
          ·rintro w' ⟨s0,s1,s2,s3,s4,s5,s6,s7,s8,s9,s10,s11,s12,s13,s14,s15,s16,s17⟩
           go_simp
           with_reducible rfl
          rotate_left
          ·simp only[Act.put,zx,zy,zz,i64_w,i32_w]
           rfl
          refine take_ (i:=3) (N:=some 42) (v:=?_) (a':=?_) #[true,true,false,true,true,false,false,false,false,false] rfl rfl (take_ofW HT_.out HW_.out (by kernel_rfl)) (fun _ _ _ h=>h) (Or.inl ⟨by rfl,?_⟩) hHeld ?_ ?_
          rotate_left
          ·rintro w' ⟨s0,s1,s2,s3,s4,s5,s6,s7,s8,s9,s10,s11,s12,s13,s14,s15,s16,s17⟩
           go_simp
           with_reducible rfl
          rotate_left
          ·simp only[Act.put,zx,zy,zz,i64_w,i32_w]
           rfl
          refine join_ (σ:=Nat×Nat) 2 #[true,true,true,true,true,true,true,true,false,false] (fun s_=>[(41,.agg #[.int .i64 t138,.int .i64 t139]),(44,.agg #[.int .i64 t140,.int .i64 t141]),(10,.pointer (some ⟨s_.1,0,none⟩)),(11,.pointer (some ⟨s_.2,0,none⟩))]) (fun s_ w'=>(w'.cell? ⟨gb128,0,none⟩=some (.string a0_0)∧w'.cell? ⟨gb128,1,none⟩=some (.int .i64 a0_1)∧w'.cell? ⟨gb128,2,none⟩=some (.int .i64 a0_2)∧w'.cell? ⟨gb128,3,none⟩=some (.int .i64 a0_3)∧w'.cell? ⟨gb128,4,none⟩=some (.int .i64 a0_4)∧w'.cell? ⟨gb128,5,none⟩=some (.int .i64 a0_5)∧w'.cell? ⟨gb128,6,none⟩=some (.int .i64 a0_6)∧w'.cell? ⟨gb128,7,none⟩=some (.int .i64 a0_7)∧w'.cell? ⟨gb128,8,none⟩=some (.slice A0_8 l0_8.length c0_8)∧w'.cell? ⟨gb129,0,none⟩=some (.string a1_0)∧w'.cell? ⟨gb129,1,none⟩=some (.int .i64 a1_1)∧w'.cell? ⟨gb129,2,none⟩=some (.int .i64 a1_2)∧w'.cell? ⟨gb129,3,none⟩=some (.int .i64 a1_3)∧w'.cell? ⟨gb129,4,none⟩=some (.int .i64 a1_4)∧w'.cell? ⟨gb129,5,none⟩=some (.int .i64 a1_5)∧w'.cell? ⟨gb129,6,none⟩=some (.int .i64 a1_6)∧w'.cell? ⟨gb129,7,none⟩=some (.int .i64 a1_7)∧w'.cell? ⟨gb129,8,none⟩=some (.slice A1_8 l1_8.length c1_8))∧(Kd.V k104 104 w' w.heap.size (fun k_=>((P0_8_ k_∨P1_8_ k_)∨w.heap.size≤k_)∧k_≠gb128∧k_≠gb129∧k_≠s_.1∧k_≠s_.2) (.slice A0_8 l0_8.length c0_8) l0_8)∧(Kd.V k104 104 w' w.heap.size (fun k_=>((P0_8_ k_∨P1_8_ k_)∨w.heap.size≤k_)∧k_≠gb128∧k_≠gb129∧k_≠s_.1∧k_≠s_.2) (.slice A1_8 l1_8.length c1_8) l1_8)∧(w'.heap[gb128]?=some (.cells #[.string a0_0,.int .i64 a0_1,.int .i64 a0_2,.int .i64 a0_3,.int .i64 a0_4,.int .i64 a0_5,.int .i64 a0_6,.int .i64 a0_7,.slice A0_8 l0_8.length c0_8] 28 (0,0)))∧(w'.heap[gb129]?=some (.cells #[.string a1_0,.int .i64 a1_1,.int .i64 a1_2,.int .i64 a1_3,.int .i64 a1_4,.int .i64 a1_5,.int .i64 a1_6,.int .i64 a1_7,.slice A1_8 l1_8.length c1_8] 28 (0,0)))∧(w'.heap[s_.1]?=some (.cells #[.int .i64 0,.int .i64 0] 25 (0,0)))∧(w'.heap[s_.2]?=some (.cells #[.int .i64 0,.int .i64 0] 25 (0,0)))∧(w.heap.size≤s_.1)∧(w.heap.size≤s_.1)∧(gb128≠s_.1)∧(s_.1≠gb128)∧(gb129≠s_.1)∧(s_.1≠gb129)∧(s_.2≠s_.1)∧(s_.1≠s_.2)∧(w.heap.size≤s_.2)∧(w.heap.size≤s_.2)∧(gb128≠s_.2)∧(s_.2≠gb128)∧(gb129≠s_.2)∧(s_.2≠gb129)∧(Below w.heap.size w w')) ?_ ?_
          rotate_left
          ·intro hJ2_5_6_7
           refine join_ (σ:=Nat) 3 #[true,true,true,true,true,true,true,false,false,false] (fun s_=>[(41,.agg #[.int .i64 t138,.int .i64 t139]),(44,.agg #[.int .i64 t140,.int .i64 t141]),(10,.pointer (some ⟨s_,0,none⟩))]) (fun s_ w'=>(w'.cell? ⟨gb128,0,none⟩=some (.string a0_0)∧w'.cell? ⟨gb128,1,none⟩=some (.int .i64 a0_1)∧w'.cell? ⟨gb128,2,none⟩=some (.int .i64 a0_2)∧w'.cell? ⟨gb128,3,none⟩=some (.int .i64 a0_3)∧w'.cell? ⟨gb128,4,none⟩=some (.int .i64 a0_4)∧w'.cell? ⟨gb128,5,none⟩=some (.int .i64 a0_5)∧w'.cell? ⟨gb128,6,none⟩=some (.int .i64 a0_6)∧w'.cell? ⟨gb128,7,none⟩=some (.int .i64 a0_7)∧w'.cell? ⟨gb128,8,none⟩=some (.slice A0_8 l0_8.length c0_8)∧w'.cell? ⟨gb129,0,none⟩=some (.string a1_0)∧w'.cell? ⟨gb129,1,none⟩=some (.int .i64 a1_1)∧w'.cell? ⟨gb129,2,none⟩=some (.int .i64 a1_2)∧w'.cell? ⟨gb129,3,none⟩=some (.int .i64 a1_3)∧w'.cell? ⟨gb129,4,none⟩=some (.int .i64 a1_4)∧w'.cell? ⟨gb129,5,none⟩=some (.int .i64 a1_5)∧w'.cell? ⟨gb129,6,none⟩=some (.int .i64 a1_6)∧w'.cell? ⟨gb129,7,none⟩=some (.int .i64 a1_7)∧w'.cell? ⟨gb129,8,none⟩=some (.slice A1_8 l1_8.length c1_8))∧(Kd.V k104 104 w' w.heap.size (fun k_=>((P0_8_ k_∨P1_8_ k_)∨w.heap.size≤k_)∧k_≠gb128∧k_≠gb129∧k_≠s_) (.slice A0_8 l0_8.length c0_8) l0_8)∧(Kd.V k104 104 w' w.heap.size (fun k_=>((P0_8_ k_∨P1_8_ k_)∨w.heap.size≤k_)∧k_≠gb128∧k_≠gb129∧k_≠s_) (.slice A1_8 l1_8.length c1_8) l1_8)∧(w'.heap[gb128]?=some (.cells #[.string a0_0,.int .i64 a0_1,.int .i64 a0_2,.int .i64 a0_3,.int .i64 a0_4,.int .i64 a0_5,.int .i64 a0_6,.int .i64 a0_7,.slice A0_8 l0_8.length c0_8] 28 (0,0)))∧(w'.heap[gb129]?=some (.cells #[.string a1_0,.int .i64 a1_1,.int .i64 a1_2,.int .i64 a1_3,.int .i64 a1_4,.int .i64 a1_5,.int .i64 a1_6,.int .i64 a1_7,.slice A1_8 l1_8.length c1_8] 28 (0,0)))∧(w'.heap[s_]?=some (.cells #[.int .i64 0,.int .i64 0] 25 (0,0)))∧(w.heap.size≤s_)∧(w.heap.size≤s_)∧(gb128≠s_)∧(s_≠gb128)∧(gb129≠s_)∧(s_≠gb129)∧(Below w.heap.size w w')) ?_ ?_
           rotate_left
           ·intro hJ2_5_6
            refine join_ (σ:=Nat) 3 #[true,true,true,true,true,true,false,true,false,false] (fun s_=>[(41,.agg #[.int .i64 t138,.int .i64 t139]),(44,.agg #[.int .i64 t140,.int .i64 t141]),(11,.pointer (some ⟨s_,0,none⟩))]) (fun s_ w'=>(w'.cell? ⟨gb128,0,none⟩=some (.string a0_0)∧w'.cell? ⟨gb128,1,none⟩=some (.int .i64 a0_1)∧w'.cell? ⟨gb128,2,none⟩=some (.int .i64 a0_2)∧w'.cell? ⟨gb128,3,none⟩=some (.int .i64 a0_3)∧w'.cell? ⟨gb128,4,none⟩=some (.int .i64 a0_4)∧w'.cell? ⟨gb128,5,none⟩=some (.int .i64 a0_5)∧w'.cell? ⟨gb128,6,none⟩=some (.int .i64 a0_6)∧w'.cell? ⟨gb128,7,none⟩=some (.int .i64 a0_7)∧w'.cell? ⟨gb128,8,none⟩=some (.slice A0_8 l0_8.length c0_8)∧w'.cell? ⟨gb129,0,none⟩=some (.string a1_0)∧w'.cell? ⟨gb129,1,none⟩=some (.int .i64 a1_1)∧w'.cell? ⟨gb129,2,none⟩=some (.int .i64 a1_2)∧w'.cell? ⟨gb129,3,none⟩=some (.int .i64 a1_3)∧w'.cell? ⟨gb129,4,none⟩=some (.int .i64 a1_4)∧w'.cell? ⟨gb129,5,none⟩=some (.int .i64 a1_5)∧w'.cell? ⟨gb129,6,none⟩=some (.int .i64 a1_6)∧w'.cell? ⟨gb129,7,none⟩=some (.int .i64 a1_7)∧w'.cell? ⟨gb129,8,none⟩=some (.slice A1_8 l1_8.length c1_8))∧(Kd.V k104 104 w' w.heap.size (fun k_=>((P0_8_ k_∨P1_8_ k_)∨w.heap.size≤k_)∧k_≠gb128∧k_≠gb129∧k_≠s_) (.slice A0_8 l0_8.length c0_8) l0_8)∧(Kd.V k104 104 w' w.heap.size (fun k_=>((P0_8_ k_∨P1_8_ k_)∨w.heap.size≤k_)∧k_≠gb128∧k_≠gb129∧k_≠s_) (.slice A1_8 l1_8.length c1_8) l1_8)∧(w'.heap[gb128]?=some (.cells #[.string a0_0,.int .i64 a0_1,.int .i64 a0_2,.int .i64 a0_3,.int .i64 a0_4,.int .i64 a0_5,.int .i64 a0_6,.int .i64 a0_7,.slice A0_8 l0_8.length c0_8] 28 (0,0)))∧(w'.heap[gb129]?=some (.cells #[.string a1_0,.int .i64 a1_1,.int .i64 a1_2,.int .i64 a1_3,.int .i64 a1_4,.int .i64 a1_5,.int .i64 a1_6,.int .i64 a1_7,.slice A1_8 l1_8.length c1_8] 28 (0,0)))∧(w'.heap[s_]?=some (.cells #[.int .i64 0,.int .i64 0] 25 (0,0)))∧(w.heap.size≤s_)∧(w.heap.size≤s_)∧(gb128≠s_)∧(s_≠gb128)∧(gb129≠s_)∧(s_≠gb129)∧(Below w.heap.size w w')) ?_ ?_
            rotate_left
            ·intro hJ2_5_7
             refine join_ (σ:=Nat×Nat) 3 #[true,true,true,true,true,false,true,true,false,false] (fun s_=>[(41,.agg #[.int .i64 t138,.int .i64 t139]),(10,.pointer (some ⟨s_.1,0,none⟩)),(11,.pointer (some ⟨s_.2,0,none⟩))]) (fun s_ w'=>(w'.cell? ⟨gb128,0,none⟩=some (.string a0_0)∧w'.cell? ⟨gb128,1,none⟩=some (.int .i64 a0_1)∧w'.cell? ⟨gb128,2,none⟩=some (.int .i64 a0_2)∧w'.cell? ⟨gb128,3,none⟩=some (.int .i64 a0_3)∧w'.cell? ⟨gb128,4,none⟩=some (.int .i64 a0_4)∧w'.cell? ⟨gb128,5,none⟩=some (.int .i64 a0_5)∧w'.cell? ⟨gb128,6,none⟩=some (.int .i64 a0_6)∧w'.cell? ⟨gb128,7,none⟩=some (.int .i64 a0_7)∧w'.cell? ⟨gb128,8,none⟩=some (.slice A0_8 l0_8.length c0_8)∧w'.cell? ⟨gb129,0,none⟩=some (.string a1_0)∧w'.cell? ⟨gb129,1,none⟩=some (.int .i64 a1_1)∧w'.cell? ⟨gb129,2,none⟩=some (.int .i64 a1_2)∧w'.cell? ⟨gb129,3,none⟩=some (.int .i64 a1_3)∧w'.cell? ⟨gb129,4,none⟩=some (.int .i64 a1_4)∧w'.cell? ⟨gb129,5,none⟩=some (.int .i64 a1_5)∧w'.cell? ⟨gb129,6,none⟩=some (.int .i64 a1_6)∧w'.cell? ⟨gb129,7,none⟩=some (.int .i64 a1_7)∧w'.cell? ⟨gb129,8,none⟩=some (.slice A1_8 l1_8.length c1_8))∧(Kd.V k104 104 w' w.heap.size (fun k_=>((P0_8_ k_∨P1_8_ k_)∨w.heap.size≤k_)∧k_≠gb128∧k_≠gb129∧k_≠s_.1∧k_≠s_.2) (.slice A0_8 l0_8.length c0_8) l0_8)∧(Kd.V k104 104 w' w.heap.size (fun k_=>((P0_8_ k_∨P1_8_ k_)∨w.heap.size≤k_)∧k_≠gb128∧k_≠gb129∧k_≠s_.1∧k_≠s_.2) (.slice A1_8 l1_8.length c1_8) l1_8)∧(w'.heap[gb128]?=some (.cells #[.string a0_0,.int .i64 a0_1,.int .i64 a0_2,.int .i64 a0_3,.int .i64 a0_4,.int .i64 a0_5,.int .i64 a0_6,.int .i64 a0_7,.slice A0_8 l0_8.length c0_8] 28 (0,0)))∧(w'.heap[gb129]?=some (.cells #[.string a1_0,.int .i64 a1_1,.int .i64 a1_2,.int .i64 a1_3,.int .i64 a1_4,.int .i64 a1_5,.int .i64 a1_6,.int .i64 a1_7,.slice A1_8 l1_8.length c1_8] 28 (0,0)))∧(w'.heap[s_.1]?=some (.cells #[.int .i64 0,.int .i64 0] 25 (0,0)))∧(w'.heap[s_.2]?=some (.cells #[.int .i64 0,.int .i64 0] 25 (0,0)))∧(w.heap.size≤s_.1)∧(w.heap.size≤s_.1)∧(gb128≠s_.1)∧(s_.1≠gb128)∧(gb129≠s_.1)∧(s_.1≠gb129)∧(s_.2≠s_.1)∧(s_.1≠s_.2)∧(w.heap.size≤s_.2)∧(w.heap.size≤s_.2)∧(gb128≠s_.2)∧(s_.2≠gb128)∧(gb129≠s_.2)∧(s_.2≠gb129)∧(Below w.heap.size w w')) ?_ ?_
             rotate_left
             ·intro hJ2_6_7
              refine join_ (σ:=Unit) 4 #[true,true,true,true,true,true,false,false,false,false] (fun s_=>[(41,.agg #[.int .i64 t138,.int .i64 t139]),(44,.agg #[.int .i64 t140,.int .i64 t141])]) (fun s_ w'=>(w'.cell? ⟨gb128,0,none⟩=some (.string a0_0)∧w'.cell? ⟨gb128,1,none⟩=some (.int .i64 a0_1)∧w'.cell? ⟨gb128,2,none⟩=some (.int .i64 a0_2)∧w'.cell? ⟨gb128,3,none⟩=some (.int .i64 a0_3)∧w'.cell? ⟨gb128,4,none⟩=some (.int .i64 a0_4)∧w'.cell? ⟨gb128,5,none⟩=some (.int .i64 a0_5)∧w'.cell? ⟨gb128,6,none⟩=some (.int .i64 a0_6)∧w'.cell? ⟨gb128,7,none⟩=some (.int .i64 a0_7)∧w'.cell? ⟨gb128,8,none⟩=some (.slice A0_8 l0_8.length c0_8)∧w'.cell? ⟨gb129,0,none⟩=some (.string a1_0)∧w'.cell? ⟨gb129,1,none⟩=some (.int .i64 a1_1)∧w'.cell? ⟨gb129,2,none⟩=some (.int .i64 a1_2)∧w'.cell? ⟨gb129,3,none⟩=some (.int .i64 a1_3)∧w'.cell? ⟨gb129,4,none⟩=some (.int .i64 a1_4)∧w'.cell? ⟨gb129,5,none⟩=some (.int .i64 a1_5)∧w'.cell? ⟨gb129,6,none⟩=some (.int .i64 a1_6)∧w'.cell? ⟨gb129,7,none⟩=some (.int .i64 a1_7)∧w'.cell? ⟨gb129,8,none⟩=some (.slice A1_8 l1_8.length c1_8))∧(Kd.V k104 104 w' w.heap.size (fun k_=>((P0_8_ k_∨P1_8_ k_)∨w.heap.size≤k_)∧k_≠gb128∧k_≠gb129) (.slice A0_8 l0_8.length c0_8) l0_8)∧(Kd.V k104 104 w' w.heap.size (fun k_=>((P0_8_ k_∨P1_8_ k_)∨w.heap.size≤k_)∧k_≠gb128∧k_≠gb129) (.slice A1_8 l1_8.length c1_8) l1_8)∧(w'.heap[gb128]?=some (.cells #[.string a0_0,.int .i64 a0_1,.int .i64 a0_2,.int .i64 a0_3,.int .i64 a0_4,.int .i64 a0_5,.int .i64 a0_6,.int .i64 a0_7,.slice A0_8 l0_8.length c0_8] 28 (0,0)))∧(w'.heap[gb129]?=some (.cells #[.string a1_0,.int .i64 a1_1,.int .i64 a1_2,.int .i64 a1_3,.int .i64 a1_4,.int .i64 a1_5,.int .i64 a1_6,.int .i64 a1_7,.slice A1_8 l1_8.length c1_8] 28 (0,0)))∧(Below w.heap.size w w')) ?_ ?_
              rotate_left
              ·intro hJ2_5
               refine join_ (σ:=Nat) 4 #[true,true,true,true,true,false,true,false,false,false] (fun s_=>[(41,.agg #[.int .i64 t138,.int .i64 t139]),(10,.pointer (some ⟨s_,0,none⟩))]) (fun s_ w'=>(w'.cell? ⟨gb128,0,none⟩=some (.string a0_0)∧w'.cell? ⟨gb128,1,none⟩=some (.int .i64 a0_1)∧w'.cell? ⟨gb128,2,none⟩=some (.int .i64 a0_2)∧w'.cell? ⟨gb128,3,none⟩=some (.int .i64 a0_3)∧w'.cell? ⟨gb128,4,none⟩=some (.int .i64 a0_4)∧w'.cell? ⟨gb128,5,none⟩=some (.int .i64 a0_5)∧w'.cell? ⟨gb128,6,none⟩=some (.int .i64 a0_6)∧w'.cell? ⟨gb128,7,none⟩=some (.int .i64 a0_7)∧w'.cell? ⟨gb128,8,none⟩=some (.slice A0_8 l0_8.length c0_8)∧w'.cell? ⟨gb129,0,none⟩=some (.string a1_0)∧w'.cell? ⟨gb129,1,none⟩=some (.int .i64 a1_1)∧w'.cell? ⟨gb129,2,none⟩=some (.int .i64 a1_2)∧w'.cell? ⟨gb129,3,none⟩=some (.int .i64 a1_3)∧w'.cell? ⟨gb129,4,none⟩=some (.int .i64 a1_4)∧w'.cell? ⟨gb129,5,none⟩=some (.int .i64 a1_5)∧w'.cell? ⟨gb129,6,none⟩=some (.int .i64 a1_6)∧w'.cell? ⟨gb129,7,none⟩=some (.int .i64 a1_7)∧w'.cell? ⟨gb129,8,none⟩=some (.slice A1_8 l1_8.length c1_8))∧(Kd.V k104 104 w' w.heap.size (fun k_=>((P0_8_ k_∨P1_8_ k_)∨w.heap.size≤k_)∧k_≠gb128∧k_≠gb129∧k_≠s_) (.slice A0_8 l0_8.length c0_8) l0_8)∧(Kd.V k104 104 w' w.heap.size (fun k_=>((P0_8_ k_∨P1_8_ k_)∨w.heap.size≤k_)∧k_≠gb128∧k_≠gb129∧k_≠s_) (.slice A1_8 l1_8.length c1_8) l1_8)∧(w'.heap[gb128]?=some (.cells #[.string a0_0,.int .i64 a0_1,.int .i64 a0_2,.int .i64 a0_3,.int .i64 a0_4,.int .i64 a0_5,.int .i64 a0_6,.int .i64 a0_7,.slice A0_8 l0_8.length c0_8] 28 (0,0)))∧(w'.heap[gb129]?=some (.cells #[.string a1_0,.int .i64 a1_1,.int .i64 a1_2,.int .i64 a1_3,.int .i64 a1_4,.int .i64 a1_5,.int .i64 a1_6,.int .i64 a1_7,.slice A1_8 l1_8.length c1_8] 28 (0,0)))∧(w'.heap[s_]?=some (.cells #[.int .i64 0,.int .i64 0] 25 (0,0)))∧(w.heap.size≤s_)∧(w.heap.size≤s_)∧(gb128≠s_)∧(s_≠gb128)∧(gb129≠s_)∧(s_≠gb129)∧(Below w.heap.size w w')) ?_ ?_
               rotate_left
               ·intro hJ2_6
                refine join_ (σ:=Nat) 4 #[true,true,true,true,true,false,false,true,false,false] (fun s_=>[(41,.agg #[.int .i64 t138,.int .i64 t139]),(11,.pointer (some ⟨s_,0,none⟩))]) (fun s_ w'=>(w'.cell? ⟨gb128,0,none⟩=some (.string a0_0)∧w'.cell? ⟨gb128,1,none⟩=some (.int .i64 a0_1)∧w'.cell? ⟨gb128,2,none⟩=some (.int .i64 a0_2)∧w'.cell? ⟨gb128,3,none⟩=some (.int .i64 a0_3)∧w'.cell? ⟨gb128,4,none⟩=some (.int .i64 a0_4)∧w'.cell? ⟨gb128,5,none⟩=some (.int .i64 a0_5)∧w'.cell? ⟨gb128,6,none⟩=some (.int .i64 a0_6)∧w'.cell? ⟨gb128,7,none⟩=some (.int .i64 a0_7)∧w'.cell? ⟨gb128,8,none⟩=some (.slice A0_8 l0_8.length c0_8)∧w'.cell? ⟨gb129,0,none⟩=some (.string a1_0)∧w'.cell? ⟨gb129,1,none⟩=some (.int .i64 a1_1)∧w'.cell? ⟨gb129,2,none⟩=some (.int .i64 a1_2)∧w'.cell? ⟨gb129,3,none⟩=some (.int .i64 a1_3)∧w'.cell? ⟨gb129,4,none⟩=some (.int .i64 a1_4)∧w'.cell? ⟨gb129,5,none⟩=some (.int .i64 a1_5)∧w'.cell? ⟨gb129,6,none⟩=some (.int .i64 a1_6)∧w'.cell? ⟨gb129,7,none⟩=some (.int .i64 a1_7)∧w'.cell? ⟨gb129,8,none⟩=some (.slice A1_8 l1_8.length c1_8))∧(Kd.V k104 104 w' w.heap.size (fun k_=>((P0_8_ k_∨P1_8_ k_)∨w.heap.size≤k_)∧k_≠gb128∧k_≠gb129∧k_≠s_) (.slice A0_8 l0_8.length c0_8) l0_8)∧(Kd.V k104 104 w' w.heap.size (fun k_=>((P0_8_ k_∨P1_8_ k_)∨w.heap.size≤k_)∧k_≠gb128∧k_≠gb129∧k_≠s_) (.slice A1_8 l1_8.length c1_8) l1_8)∧(w'.heap[gb128]?=some (.cells #[.string a0_0,.int .i64 a0_1,.int .i64 a0_2,.int .i64 a0_3,.int .i64 a0_4,.int .i64 a0_5,.int .i64 a0_6,.int .i64 a0_7,.slice A0_8 l0_8.length c0_8] 28 (0,0)))∧(w'.heap[gb129]?=some (.cells #[.string a1_0,.int .i64 a1_1,.int .i64 a1_2,.int .i64 a1_3,.int .i64 a1_4,.int .i64 a1_5,.int .i64 a1_6,.int .i64 a1_7,.slice A1_8 l1_8.length c1_8] 28 (0,0)))∧(w'.heap[s_]?=some (.cells #[.int .i64 0,.int .i64 0] 25 (0,0)))∧(w.heap.size≤s_)∧(w.heap.size≤s_)∧(gb128≠s_)∧(s_≠gb128)∧(gb129≠s_)∧(s_≠gb129)∧(Below w.heap.size w w')) ?_ ?_
                rotate_left
                ·intro hJ2_7
                 refine join_ (σ:=Nat×Nat) 4 #[true,true,false,true,true,false,true,true,false,false] (fun s_=>[(10,.pointer (some ⟨s_.1,0,none⟩)),(11,.pointer (some ⟨s_.2,0,none⟩))]) (fun s_ w'=>(w'.cell? ⟨gb128,0,none⟩=some (.string a0_0)∧w'.cell? ⟨gb128,1,none⟩=some (.int .i64 a0_1)∧w'.cell? ⟨gb128,2,none⟩=some (.int .i64 a0_2)∧w'.cell? ⟨gb128,3,none⟩=some (.int .i64 a0_3)∧w'.cell? ⟨gb128,4,none⟩=some (.int .i64 a0_4)∧w'.cell? ⟨gb128,5,none⟩=some (.int .i64 a0_5)∧w'.cell? ⟨gb128,6,none⟩=some (.int .i64 a0_6)∧w'.cell? ⟨gb128,7,none⟩=some (.int .i64 a0_7)∧w'.cell? ⟨gb128,8,none⟩=some (.slice A0_8 l0_8.length c0_8)∧w'.cell? ⟨gb129,0,none⟩=some (.string a1_0)∧w'.cell? ⟨gb129,1,none⟩=some (.int .i64 a1_1)∧w'.cell? ⟨gb129,2,none⟩=some (.int .i64 a1_2)∧w'.cell? ⟨gb129,3,none⟩=some (.int .i64 a1_3)∧w'.cell? ⟨gb129,4,none⟩=some (.int .i64 a1_4)∧w'.cell? ⟨gb129,5,none⟩=some (.int .i64 a1_5)∧w'.cell? ⟨gb129,6,none⟩=some (.int .i64 a1_6)∧w'.cell? ⟨gb129,7,none⟩=some (.int .i64 a1_7)∧w'.cell? ⟨gb129,8,none⟩=some (.slice A1_8 l1_8.length c1_8))∧(Kd.V k104 104 w' w.heap.size (fun k_=>((P0_8_ k_∨P1_8_ k_)∨w.heap.size≤k_)∧k_≠gb128∧k_≠gb129∧k_≠s_.1∧k_≠s_.2) (.slice A0_8 l0_8.length c0_8) l0_8)∧(Kd.V k104 104 w' w.heap.size (fun k_=>((P0_8_ k_∨P1_8_ k_)∨w.heap.size≤k_)∧k_≠gb128∧k_≠gb129∧k_≠s_.1∧k_≠s_.2) (.slice A1_8 l1_8.length c1_8) l1_8)∧(w'.heap[gb128]?=some (.cells #[.string a0_0,.int .i64 a0_1,.int .i64 a0_2,.int .i64 a0_3,.int .i64 a0_4,.int .i64 a0_5,.int .i64 a0_6,.int .i64 a0_7,.slice A0_8 l0_8.length c0_8] 28 (0,0)))∧(w'.heap[gb129]?=some (.cells #[.string a1_0,.int .i64 a1_1,.int .i64 a1_2,.int .i64 a1_3,.int .i64 a1_4,.int .i64 a1_5,.int .i64 a1_6,.int .i64 a1_7,.slice A1_8 l1_8.length c1_8] 28 (0,0)))∧(w'.heap[s_.1]?=some (.cells #[.int .i64 0,.int .i64 0] 25 (0,0)))∧(w'.heap[s_.2]?=some (.cells #[.int .i64 0,.int .i64 0] 25 (0,0)))∧(w.heap.size≤s_.1)∧(w.heap.size≤s_.1)∧(gb128≠s_.1)∧(s_.1≠gb128)∧(gb129≠s_.1)∧(s_.1≠gb129)∧(s_.2≠s_.1)∧(s_.1≠s_.2)∧(w.heap.size≤s_.2)∧(w.heap.size≤s_.2)∧(gb128≠s_.2)∧(s_.2≠gb128)∧(gb129≠s_.2)∧(s_.2≠gb129)∧(Below w.heap.size w w')) ?_ ?_
                 rotate_left
                 ·intro hJ6_7
                  refine join_ (σ:=Unit) 5 #[true,true,true,true,true,false,false,false,false,false] (fun s_=>[(41,.agg #[.int .i64 t138,.int .i64 t139])]) (fun s_ w'=>(w'.cell? ⟨gb128,0,none⟩=some (.string a0_0)∧w'.cell? ⟨gb128,1,none⟩=some (.int .i64 a0_1)∧w'.cell? ⟨gb128,2,none⟩=some (.int .i64 a0_2)∧w'.cell? ⟨gb128,3,none⟩=some (.int .i64 a0_3)∧w'.cell? ⟨gb128,4,none⟩=some (.int .i64 a0_4)∧w'.cell? ⟨gb128,5,none⟩=some (.int .i64 a0_5)∧w'.cell? ⟨gb128,6,none⟩=some (.int .i64 a0_6)∧w'.cell? ⟨gb128,7,none⟩=some (.int .i64 a0_7)∧w'.cell? ⟨gb128,8,none⟩=some (.slice A0_8 l0_8.length c0_8)∧w'.cell? ⟨gb129,0,none⟩=some (.string a1_0)∧w'.cell? ⟨gb129,1,none⟩=some (.int .i64 a1_1)∧w'.cell? ⟨gb129,2,none⟩=some (.int .i64 a1_2)∧w'.cell? ⟨gb129,3,none⟩=some (.int .i64 a1_3)∧w'.cell? ⟨gb129,4,none⟩=some (.int .i64 a1_4)∧w'.cell? ⟨gb129,5,none⟩=some (.int .i64 a1_5)∧w'.cell? ⟨gb129,6,none⟩=some (.int .i64 a1_6)∧w'.cell? ⟨gb129,7,none⟩=some (.int .i64 a1_7)∧w'.cell? ⟨gb129,8,none⟩=some (.slice A1_8 l1_8.length c1_8))∧(Kd.V k104 104 w' w.heap.size (fun k_=>((P0_8_ k_∨P1_8_ k_)∨w.heap.size≤k_)∧k_≠gb128∧k_≠gb129) (.slice A0_8 l0_8.length c0_8) l0_8)∧(Kd.V k104 104 w' w.heap.size (fun k_=>((P0_8_ k_∨P1_8_ k_)∨w.heap.size≤k_)∧k_≠gb128∧k_≠gb129) (.slice A1_8 l1_8.length c1_8) l1_8)∧(w'.heap[gb128]?=some (.cells #[.string a0_0,.int .i64 a0_1,.int .i64 a0_2,.int .i64 a0_3,.int .i64 a0_4,.int .i64 a0_5,.int .i64 a0_6,.int .i64 a0_7,.slice A0_8 l0_8.length c0_8] 28 (0,0)))∧(w'.heap[gb129]?=some (.cells #[.string a1_0,.int .i64 a1_1,.int .i64 a1_2,.int .i64 a1_3,.int .i64 a1_4,.int .i64 a1_5,.int .i64 a1_6,.int .i64 a1_7,.slice A1_8 l1_8.length c1_8] 28 (0,0)))∧(Below w.heap.size w w')) ?_ ?_
                  rotate_left
                  ·intro hJ2
                   refine join_ (σ:=Nat) 5 #[true,true,false,true,true,false,true,false,false,false] (fun s_=>[(10,.pointer (some ⟨s_,0,none⟩))]) (fun s_ w'=>(w'.cell? ⟨gb128,0,none⟩=some (.string a0_0)∧w'.cell? ⟨gb128,1,none⟩=some (.int .i64 a0_1)∧w'.cell? ⟨gb128,2,none⟩=some (.int .i64 a0_2)∧w'.cell? ⟨gb128,3,none⟩=some (.int .i64 a0_3)∧w'.cell? ⟨gb128,4,none⟩=some (.int .i64 a0_4)∧w'.cell? ⟨gb128,5,none⟩=some (.int .i64 a0_5)∧w'.cell? ⟨gb128,6,none⟩=some (.int .i64 a0_6)∧w'.cell? ⟨gb128,7,none⟩=some (.int .i64 a0_7)∧w'.cell? ⟨gb128,8,none⟩=some (.slice A0_8 l0_8.length c0_8)∧w'.cell? ⟨gb129,0,none⟩=some (.string a1_0)∧w'.cell? ⟨gb129,1,none⟩=some (.int .i64 a1_1)∧w'.cell? ⟨gb129,2,none⟩=some (.int .i64 a1_2)∧w'.cell? ⟨gb129,3,none⟩=some (.int .i64 a1_3)∧w'.cell? ⟨gb129,4,none⟩=some (.int .i64 a1_4)∧w'.cell? ⟨gb129,5,none⟩=some (.int .i64 a1_5)∧w'.cell? ⟨gb129,6,none⟩=some (.int .i64 a1_6)∧w'.cell? ⟨gb129,7,none⟩=some (.int .i64 a1_7)∧w'.cell? ⟨gb129,8,none⟩=some (.slice A1_8 l1_8.length c1_8))∧(Kd.V k104 104 w' w.heap.size (fun k_=>((P0_8_ k_∨P1_8_ k_)∨w.heap.size≤k_)∧k_≠gb128∧k_≠gb129∧k_≠s_) (.slice A0_8 l0_8.length c0_8) l0_8)∧(Kd.V k104 104 w' w.heap.size (fun k_=>((P0_8_ k_∨P1_8_ k_)∨w.heap.size≤k_)∧k_≠gb128∧k_≠gb129∧k_≠s_) (.slice A1_8 l1_8.length c1_8) l1_8)∧(w'.heap[gb128]?=some (.cells #[.string a0_0,.int .i64 a0_1,.int .i64 a0_2,.int .i64 a0_3,.int .i64 a0_4,.int .i64 a0_5,.int .i64 a0_6,.int .i64 a0_7,.slice A0_8 l0_8.length c0_8] 28 (0,0)))∧(w'.heap[gb129]?=some (.cells #[.string a1_0,.int .i64 a1_1,.int .i64 a1_2,.int .i64 a1_3,.int .i64 a1_4,.int .i64 a1_5,.int .i64 a1_6,.int .i64 a1_7,.slice A1_8 l1_8.length c1_8] 28 (0,0)))∧(w'.heap[s_]?=some (.cells #[.int .i64 0,.int .i64 0] 25 (0,0)))∧(w.heap.size≤s_)∧(w.heap.size≤s_)∧(gb128≠s_)∧(s_≠gb128)∧(gb129≠s_)∧(s_≠gb129)∧(Below w.heap.size w w')) ?_ ?_
                   rotate_left
                   ·intro hJ6
                    refine join_ (σ:=Nat) 5 #[true,true,false,true,true,false,false,true,false,false] (fun s_=>[(11,.pointer (some ⟨s_,0,none⟩))]) (fun s_ w'=>(w'.cell? ⟨gb128,0,none⟩=some (.string a0_0)∧w'.cell? ⟨gb128,1,none⟩=some (.int .i64 a0_1)∧w'.cell? ⟨gb128,2,none⟩=some (.int .i64 a0_2)∧w'.cell? ⟨gb128,3,none⟩=some (.int .i64 a0_3)∧w'.cell? ⟨gb128,4,none⟩=some (.int .i64 a0_4)∧w'.cell? ⟨gb128,5,none⟩=some (.int .i64 a0_5)∧w'.cell? ⟨gb128,6,none⟩=some (.int .i64 a0_6)∧w'.cell? ⟨gb128,7,none⟩=some (.int .i64 a0_7)∧w'.cell? ⟨gb128,8,none⟩=some (.slice A0_8 l0_8.length c0_8)∧w'.cell? ⟨gb129,0,none⟩=some (.string a1_0)∧w'.cell? ⟨gb129,1,none⟩=some (.int .i64 a1_1)∧w'.cell? ⟨gb129,2,none⟩=some (.int .i64 a1_2)∧w'.cell? ⟨gb129,3,none⟩=some (.int .i64 a1_3)∧w'.cell? ⟨gb129,4,none⟩=some (.int .i64 a1_4)∧w'.cell? ⟨gb129,5,none⟩=some (.int .i64 a1_5)∧w'.cell? ⟨gb129,6,none⟩=some (.int .i64 a1_6)∧w'.cell? ⟨gb129,7,none⟩=some (.int .i64 a1_7)∧w'.cell? ⟨gb129,8,none⟩=some (.slice A1_8 l1_8.length c1_8))∧(Kd.V k104 104 w' w.heap.size (fun k_=>((P0_8_ k_∨P1_8_ k_)∨w.heap.size≤k_)∧k_≠gb128∧k_≠gb129∧k_≠s_) (.slice A0_8 l0_8.length c0_8) l0_8)∧(Kd.V k104 104 w' w.heap.size (fun k_=>((P0_8_ k_∨P1_8_ k_)∨w.heap.size≤k_)∧k_≠gb128∧k_≠gb129∧k_≠s_) (.slice A1_8 l1_8.length c1_8) l1_8)∧(w'.heap[gb128]?=some (.cells #[.string a0_0,.int .i64 a0_1,.int .i64 a0_2,.int .i64 a0_3,.int .i64 a0_4,.int .i64 a0_5,.int .i64 a0_6,.int .i64 a0_7,.slice A0_8 l0_8.length c0_8] 28 (0,0)))∧(w'.heap[gb129]?=some (.cells #[.string a1_0,.int .i64 a1_1,.int .i64 a1_2,.int .i64 a1_3,.int .i64 a1_4,.int .i64 a1_5,.int .i64 a1_6,.int .i64 a1_7,.slice A1_8 l1_8.length c1_8] 28 (0,0)))∧(w'.heap[s_]?=some (.cells #[.int .i64 0,.int .i64 0] 25 (0,0)))∧(w.heap.size≤s_)∧(w.heap.size≤s_)∧(gb128≠s_)∧(s_≠gb128)∧(gb129≠s_)∧(s_≠gb129)∧(Below w.heap.size w w')) ?_ ?_
                    rotate_left
                    ·intro hJ7
                     refine three_ (i:=2) (j:=6) (k:=7) (Ni:=some 41) (Nj:=some 10) (Nk:=some 11) #[true,true,true,true,true,false,false,false,false,false] #[true,true,false,true,true,false,true,false,false,false] #[true,true,false,true,true,false,false,true,false,false] rfl rfl rfl rfl rfl rfl (three_of HT_.out (by kernel_rfl)) (by decide) (by decide) (by decide) (fun K hK=>?_) (fun K hK=>?_) (fun K hK=>?_)
                     ·skip
                      refine goes_ Try.func70 (by kernel_rfl) rfl #[.agg #[.string a0_0,.int .i64 a0_1,.int .i64 a0_2,.int .i64 a0_3,.int .i64 a0_4,.int .i64 a0_5,.int .i64 a0_6,.int .i64 a0_7,.slice A0_8 l0_8.length c0_8],.int .i64 x26_2] (by rfl) rfl rfl (by(try simp only[List.map_toArray,List.map_cons,List.map_nil]);first|done|rfl|(simp only[List.length_drop,List.length_take];rfl)) ?_
                      with_reducible refine(fe_reach.calls a0_0 a0_1 a0_2 a0_3 a0_4 a0_5 a0_6 a0_7 _ _ l0_8 x26_2 t138 t139 _ ?side1 ?side2 A40.out).mono ?_
                      (case side1=>repeat(first|exact(Kd.V_reads' HO_129008.out).2.2|(with_reducible refine Kd.C_alloc ?_ _)|(with_reducible refine Kd.C_drewN ?_ _)|(with_reducible refine Kd.C_drew ?_)))
                      (case side2=>exact(Kd.V_reads' HO_129008.out).2.1)
                      rintro e w44 ⟨rfl,hb⟩
                      refine⟨_,rfl,?_⟩
                      have n0_:=zm (Kd.V_below (by(with_reducible repeat(first|apply Kd.V_alloc|apply Kd.V_drewN|apply Kd.V_drew));exact HO_129008.out) hb)
                      have n1_:=zm (Kd.V_below (by(with_reducible repeat(first|apply Kd.V_alloc|apply Kd.V_drewN|apply Kd.V_drew));exact HO_130008.out) hb)
                      have n2_:=zm (zb (g:=gb128) (by(with_reducible repeat first|apply zd|apply ze|apply za);exact BK128.out) hb)
                      have n3_:=zm (zb (g:=gb129) (by(with_reducible repeat first|apply zd|apply ze|apply za);exact BK129.out) hb)
                      have n4_:=zm (below_step (by repeat(first|(with_reducible first|exact HB.out|apply zA|apply zD|apply zE|refine zS ?_ GE128.out|refine zS ?_ GE129.out)|exact HB.out)) hb)
                      clear HO_129008 HO_130008 BK128 BK129 HB
                      have HO_129008:=n0_
                      have HO_130008:=n1_
                      have BK128:=n2_
                      have BK129:=n3_
                      have HB:=n4_
                      clear n0_ n1_ n2_ n3_ n4_
                      (try clear hb)
                      (try clear hb2)
                      (try clear hk)
                      (try clear hi)
                      refine hK.out _ _ ⟨(blk_cell BK128.out 0).trans rfl,(blk_cell BK128.out 1).trans rfl,(blk_cell BK128.out 2).trans rfl,(blk_cell BK128.out 3).trans rfl,(blk_cell BK128.out 4).trans rfl,(blk_cell BK128.out 5).trans rfl,(blk_cell BK128.out 6).trans rfl,(blk_cell BK128.out 7).trans rfl,(blk_cell BK128.out 8).trans rfl,(blk_cell BK129.out 0).trans rfl,(blk_cell BK129.out 1).trans rfl,(blk_cell BK129.out 2).trans rfl,(blk_cell BK129.out 3).trans rfl,(blk_cell BK129.out 4).trans rfl,(blk_cell BK129.out 5).trans rfl,(blk_cell BK129.out 6).trans rfl,(blk_cell BK129.out 7).trans rfl,(blk_cell BK129.out 8).trans rfl⟩ (fun hHeld=>?_)
                      clear hK K
                      refine norm_ (a':=?_) ?_ ?_
                      rotate_left
                      ·show Act.put _ (some 41) _=_
                       simp only[Act.put,zx,zy,zz,i64_w,i32_w]
                       rfl
                      exact norm_ (by first|(simp only[putAll,Act.put,zx,zy,zz];done)|(simp only[putAll,Act.put,zx,zy,zz];rfl)) (hJ2 () _ ⟨hHeld,(by(with_reducible repeat(first|apply Kd.V_alloc|apply Kd.V_drewN|apply Kd.V_drew));exact HO_129008.out),(by(with_reducible repeat(first|apply Kd.V_alloc|apply Kd.V_drewN|apply Kd.V_drew));exact HO_130008.out),(by(with_reducible repeat first|apply zd|apply ze|apply za);exact BK128.out),(by(with_reducible repeat first|apply zd|apply ze|apply za);exact BK129.out),(by repeat(first|(with_reducible first|exact HB.out|apply zA|apply zD|apply zE|refine zS ?_ GE128.out|refine zS ?_ GE129.out)|exact HB.out))⟩)
                     ·skip
                      refine box_step ?hg (N:=10) ?hd (cs:=#[.int .i64 0,.int .i64 0]) (t:=25) ?hr ?_;(case hd=>rfl);(case hg=>rfl);(case hr=>first|(go_simp;done)|(go_simp;rfl))
                      intro gb142 hg w44 hbox hb
                      have n0_:=zm (Kd.V_below (Kd.V_elderB (by(with_reducible repeat(first|apply Kd.V_alloc|apply Kd.V_drewN|apply Kd.V_drew));exact HO_129008.out) gb142 (Nat.le_of_eq hg.symm)) hb)
                      have n1_:=zm (Kd.V_below (Kd.V_elderB (by(with_reducible repeat(first|apply Kd.V_alloc|apply Kd.V_drewN|apply Kd.V_drew));exact HO_130008.out) gb142 (Nat.le_of_eq hg.symm)) hb)
                      have n2_:=zm (zb (g:=gb128) (by(with_reducible repeat first|apply zd|apply ze|apply za);exact BK128.out) hb)
                      have n3_:=zm (zb (g:=gb129) (by(with_reducible repeat first|apply zd|apply ze|apply za);exact BK129.out) hb)
                      have n4_:=zm (below_step (by repeat(first|(with_reducible first|exact HB.out|apply zA|apply zD|apply zE|refine zS ?_ GE128.out|refine zS ?_ GE129.out)|exact HB.out)) hb)
                      have n5_:=zm (hbox)
                      have n6_:=zm ((by rw[hg];exact(below_size (by repeat(first|(with_reducible first|exact HB.out|apply zA|apply zD|apply zE|refine zS ?_ GE128.out|refine zS ?_ GE129.out)|exact HB.out))):w.heap.size≤gb142))
                      have n7_:=zm ((by rw[hg];exact(below_size (by repeat(first|(with_reducible first|exact HB.out|apply zA|apply zD|apply zE|refine zS ?_ GE128.out|refine zS ?_ GE129.out)|exact HB.out))):w.heap.size≤gb142))
                      have n8_:=zm ((by rw[hg];exact Nat.ne_of_lt (blk_lt (g:=gb128) (by(with_reducible repeat first|apply zd|apply ze|apply za);exact BK128.out)):gb128≠gb142))
                      have n9_:=zm ((by rw[hg];exact Nat.ne_of_gt (blk_lt (g:=gb128) (by(with_reducible repeat first|apply zd|apply ze|apply za);exact BK128.out)):gb142≠gb128))
                      have n10_:=zm ((by rw[hg];exact Nat.ne_of_lt (blk_lt (g:=gb129) (by(with_reducible repeat first|apply zd|apply ze|apply za);exact BK129.out)):gb129≠gb142))
                      have n11_:=zm ((by rw[hg];exact Nat.ne_of_gt (blk_lt (g:=gb129) (by(with_reducible repeat first|apply zd|apply ze|apply za);exact BK129.out)):gb142≠gb129))
                      clear HO_129008 HO_130008 BK128 BK129 HB
                      have HO_129008:=n0_
                      have HO_130008:=n1_
                      have BK128:=n2_
                      have BK129:=n3_
                      have HB:=n4_
                      have BK142:=n5_
                      have GW142:=n6_
                      have GE142:=n7_
                      have NB128_142:=n8_
                      have NB142_128:=n9_
                      have NB129_142:=n10_
                      have NB142_129:=n11_
                      clear n0_ n1_ n2_ n3_ n4_ n5_ n6_ n7_ n8_ n9_ n10_ n11_ hb hbox hg
                      refine hK.out _ _ ⟨(blk_cell BK128.out 0).trans rfl,(blk_cell BK128.out 1).trans rfl,(blk_cell BK128.out 2).trans rfl,(blk_cell BK128.out 3).trans rfl,(blk_cell BK128.out 4).trans rfl,(blk_cell BK128.out 5).trans rfl,(blk_cell BK128.out 6).trans rfl,(blk_cell BK128.out 7).trans rfl,(blk_cell BK128.out 8).trans rfl,(blk_cell BK129.out 0).trans rfl,(blk_cell BK129.out 1).trans rfl,(blk_cell BK129.out 2).trans rfl,(blk_cell BK129.out 3).trans rfl,(blk_cell BK129.out 4).trans rfl,(blk_cell BK129.out 5).trans rfl,(blk_cell BK129.out 6).trans rfl,(blk_cell BK129.out 7).trans rfl,(blk_cell BK129.out 8).trans rfl⟩ (fun hHeld=>?_)
                      clear hK K
                      refine norm_ (a':=?_) ?_ ?_
                      rotate_left
                      ·show Act.put _ (some 10) _=_
                       simp only[Act.put,zx,zy,zz,i64_w,i32_w]
                       rfl
                      exact norm_ (by first|(simp only[putAll,Act.put,zx,zy,zz];done)|(simp only[putAll,Act.put,zx,zy,zz];rfl)) (hJ6 (gb142) _ ⟨hHeld,(by(with_reducible repeat(first|apply Kd.V_alloc|apply Kd.V_drewN|apply Kd.V_drew));exact Kd.V_mono HO_129008.out (fun _ hk=>⟨hk.1.1,⟨hk.1.2.1,⟨hk.1.2.2,hk.2⟩⟩⟩)),(by(with_reducible repeat(first|apply Kd.V_alloc|apply Kd.V_drewN|apply Kd.V_drew));exact Kd.V_mono HO_130008.out (fun _ hk=>⟨hk.1.1,⟨hk.1.2.1,⟨hk.1.2.2,hk.2⟩⟩⟩)),(by(with_reducible repeat first|apply zd|apply ze|apply za);exact BK128.out),(by(with_reducible repeat first|apply zd|apply ze|apply za);exact BK129.out),(by(with_reducible repeat first|apply zd|apply ze|apply za);exact BK142.out),GW142.out,GE142.out,NB128_142.out,NB142_128.out,NB129_142.out,NB142_129.out,(by repeat(first|(with_reducible first|exact HB.out|apply zA|apply zD|apply zE|refine zS ?_ GE128.out|refine zS ?_ GE129.out|refine zS ?_ GE142.out)|exact HB.out))⟩)
                     ·skip
                      refine box_step ?hg (N:=11) ?hd (cs:=#[.int .i64 0,.int .i64 0]) (t:=25) ?hr ?_;(case hd=>rfl);(case hg=>rfl);(case hr=>first|(go_simp;done)|(go_simp;rfl))
                      intro gb143 hg w44 hbox hb
                      have n0_:=zm (Kd.V_below (Kd.V_elderB (by(with_reducible repeat(first|apply Kd.V_alloc|apply Kd.V_drewN|apply Kd.V_drew));exact HO_129008.out) gb143 (Nat.le_of_eq hg.symm)) hb)
                      have n1_:=zm (Kd.V_below (Kd.V_elderB (by(with_reducible repeat(first|apply Kd.V_alloc|apply Kd.V_drewN|apply Kd.V_drew));exact HO_130008.out) gb143 (Nat.le_of_eq hg.symm)) hb)
                      have n2_:=zm (zb (g:=gb128) (by(with_reducible repeat first|apply zd|apply ze|apply za);exact BK128.out) hb)
                      have n3_:=zm (zb (g:=gb129) (by(with_reducible repeat first|apply zd|apply ze|apply za);exact BK129.out) hb)
                      have n4_:=zm (below_step (by repeat(first|(with_reducible first|exact HB.out|apply zA|apply zD|apply zE|refine zS ?_ GE128.out|refine zS ?_ GE129.out)|exact HB.out)) hb)
                      have n5_:=zm (hbox)
                      have n6_:=zm ((by rw[hg];exact(below_size (by repeat(first|(with_reducible first|exact HB.out|apply zA|apply zD|apply zE|refine zS ?_ GE128.out|refine zS ?_ GE129.out)|exact HB.out))):w.heap.size≤gb143))
                      have n7_:=zm ((by rw[hg];exact(below_size (by repeat(first|(with_reducible first|exact HB.out|apply zA|apply zD|apply zE|refine zS ?_ GE128.out|refine zS ?_ GE129.out)|exact HB.out))):w.heap.size≤gb143))
                      have n8_:=zm ((by rw[hg];exact Nat.ne_of_lt (blk_lt (g:=gb128) (by(with_reducible repeat first|apply zd|apply ze|apply za);exact BK128.out)):gb128≠gb143))
                      have n9_:=zm ((by rw[hg];exact Nat.ne_of_gt (blk_lt (g:=gb128) (by(with_reducible repeat first|apply zd|apply ze|apply za);exact BK128.out)):gb143≠gb128))
                      have n10_:=zm ((by rw[hg];exact Nat.ne_of_lt (blk_lt (g:=gb129) (by(with_reducible repeat first|apply zd|apply ze|apply za);exact BK129.out)):gb129≠gb143))
                      have n11_:=zm ((by rw[hg];exact Nat.ne_of_gt (blk_lt (g:=gb129) (by(with_reducible repeat first|apply zd|apply ze|apply za);exact BK129.out)):gb143≠gb129))
                      clear HO_129008 HO_130008 BK128 BK129 HB
                      have HO_129008:=n0_
                      have HO_130008:=n1_
                      have BK128:=n2_
                      have BK129:=n3_
                      have HB:=n4_
                      have BK143:=n5_
                      have GW143:=n6_
                      have GE143:=n7_
                      have NB128_143:=n8_
                      have NB143_128:=n9_
                      have NB129_143:=n10_
                      have NB143_129:=n11_
                      clear n0_ n1_ n2_ n3_ n4_ n5_ n6_ n7_ n8_ n9_ n10_ n11_ hb hbox hg
                      refine hK.out _ _ ⟨(blk_cell BK128.out 0).trans rfl,(blk_cell BK128.out 1).trans rfl,(blk_cell BK128.out 2).trans rfl,(blk_cell BK128.out 3).trans rfl,(blk_cell BK128.out 4).trans rfl,(blk_cell BK128.out 5).trans rfl,(blk_cell BK128.out 6).trans rfl,(blk_cell BK128.out 7).trans rfl,(blk_cell BK128.out 8).trans rfl,(blk_cell BK129.out 0).trans rfl,(blk_cell BK129.out 1).trans rfl,(blk_cell BK129.out 2).trans rfl,(blk_cell BK129.out 3).trans rfl,(blk_cell BK129.out 4).trans rfl,(blk_cell BK129.out 5).trans rfl,(blk_cell BK129.out 6).trans rfl,(blk_cell BK129.out 7).trans rfl,(blk_cell BK129.out 8).trans rfl⟩ (fun hHeld=>?_)
                      clear hK K
                      refine norm_ (a':=?_) ?_ ?_
                      rotate_left
                      ·show Act.put _ (some 11) _=_
                       simp only[Act.put,zx,zy,zz,i64_w,i32_w]
                       rfl
                      exact norm_ (by first|(simp only[putAll,Act.put,zx,zy,zz];done)|(simp only[putAll,Act.put,zx,zy,zz];rfl)) (hJ7 (gb143) _ ⟨hHeld,(by(with_reducible repeat(first|apply Kd.V_alloc|apply Kd.V_drewN|apply Kd.V_drew));exact Kd.V_mono HO_129008.out (fun _ hk=>⟨hk.1.1,⟨hk.1.2.1,⟨hk.1.2.2,hk.2⟩⟩⟩)),(by(with_reducible repeat(first|apply Kd.V_alloc|apply Kd.V_drewN|apply Kd.V_drew));exact Kd.V_mono HO_130008.out (fun _ hk=>⟨hk.1.1,⟨hk.1.2.1,⟨hk.1.2.2,hk.2⟩⟩⟩)),(by(with_reducible repeat first|apply zd|apply ze|apply za);exact BK128.out),(by(with_reducible repeat first|apply zd|apply ze|apply za);exact BK129.out),(by(with_reducible repeat first|apply zd|apply ze|apply za);exact BK143.out),GW143.out,GE143.out,NB128_143.out,NB143_128.out,NB129_143.out,NB143_129.out,(by repeat(first|(with_reducible first|exact HB.out|apply zA|apply zD|apply zE|refine zS ?_ GE128.out|refine zS ?_ GE129.out|refine zS ?_ GE143.out)|exact HB.out))⟩)
                    ·skip
                     rintro gb143 w45 ⟨hS_,h0_,h1_,h2_,h3_,h4_,h5_,h6_,h7_,h8_,h9_,h10_,h11_⟩
                     have n0_:Aside0 (Kd.V k104 104 w45 w.heap.size (fun k_=>((P0_8_ k_∨P1_8_ k_)∨w.heap.size≤k_)∧k_≠gb128∧k_≠gb129∧k_≠gb143) (.slice A0_8 l0_8.length c0_8) l0_8):=⟨h0_⟩
                     have n1_:Aside0 (Kd.V k104 104 w45 w.heap.size (fun k_=>((P0_8_ k_∨P1_8_ k_)∨w.heap.size≤k_)∧k_≠gb128∧k_≠gb129∧k_≠gb143) (.slice A1_8 l1_8.length c1_8) l1_8):=⟨h1_⟩
                     have n2_:Aside0 (w45.heap[gb128]?=some (.cells #[.string a0_0,.int .i64 a0_1,.int .i64 a0_2,.int .i64 a0_3,.int .i64 a0_4,.int .i64 a0_5,.int .i64 a0_6,.int .i64 a0_7,.slice A0_8 l0_8.length c0_8] 28 (0,0))):=⟨h2_⟩
                     have n3_:Aside0 (w45.heap[gb129]?=some (.cells #[.string a1_0,.int .i64 a1_1,.int .i64 a1_2,.int .i64 a1_3,.int .i64 a1_4,.int .i64 a1_5,.int .i64 a1_6,.int .i64 a1_7,.slice A1_8 l1_8.length c1_8] 28 (0,0))):=⟨h3_⟩
                     have n4_:Aside0 (w45.heap[gb143]?=some (.cells #[.int .i64 0,.int .i64 0] 25 (0,0))):=⟨h4_⟩
                     have n5_:Aside0 (w.heap.size≤gb143):=⟨h5_⟩
                     have n6_:Aside0 (w.heap.size≤gb143):=⟨h6_⟩
                     have n7_:Aside0 (gb128≠gb143):=⟨h7_⟩
                     have n8_:Aside0 (gb143≠gb128):=⟨h8_⟩
                     have n9_:Aside0 (gb129≠gb143):=⟨h9_⟩
                     have n10_:Aside0 (gb143≠gb129):=⟨h10_⟩
                     have n11_:Aside0 (Below w.heap.size w w45):=⟨h11_⟩
                     clear HO_129008 HO_130008 BK128 BK129 HB h0_ h1_ h2_ h3_ h4_ h5_ h6_ h7_ h8_ h9_ h10_ h11_
                     have HO_129008:=n0_
                     have HO_130008:=n1_
                     have BK128:=n2_
                     have BK129:=n3_
                     have BK143:=n4_
                     have GW143:=n5_
                     have GE143:=n6_
                     have NB128_143:=n7_
                     have NB143_128:=n8_
                     have NB129_143:=n9_
                     have NB143_129:=n10_
                     have HB:=n11_
                     clear n0_ n1_ n2_ n3_ n4_ n5_ n6_ n7_ n8_ n9_ n10_ n11_
                     have hHeld:w45.cell? ⟨gb128,0,none⟩=some (.string a0_0)∧w45.cell? ⟨gb128,1,none⟩=some (.int .i64 a0_1)∧w45.cell? ⟨gb128,2,none⟩=some (.int .i64 a0_2)∧w45.cell? ⟨gb128,3,none⟩=some (.int .i64 a0_3)∧w45.cell? ⟨gb128,4,none⟩=some (.int .i64 a0_4)∧w45.cell? ⟨gb128,5,none⟩=some (.int .i64 a0_5)∧w45.cell? ⟨gb128,6,none⟩=some (.int .i64 a0_6)∧w45.cell? ⟨gb128,7,none⟩=some (.int .i64 a0_7)∧w45.cell? ⟨gb128,8,none⟩=some (.slice A0_8 l0_8.length c0_8)∧w45.cell? ⟨gb129,0,none⟩=some (.string a1_0)∧w45.cell? ⟨gb129,1,none⟩=some (.int .i64 a1_1)∧w45.cell? ⟨gb129,2,none⟩=some (.int .i64 a1_2)∧w45.cell? ⟨gb129,3,none⟩=some (.int .i64 a1_3)∧w45.cell? ⟨gb129,4,none⟩=some (.int .i64 a1_4)∧w45.cell? ⟨gb129,5,none⟩=some (.int .i64 a1_5)∧w45.cell? ⟨gb129,6,none⟩=some (.int .i64 a1_6)∧w45.cell? ⟨gb129,7,none⟩=some (.int .i64 a1_7)∧w45.cell? ⟨gb129,8,none⟩=some (.slice A1_8 l1_8.length c1_8):=hS_
                     refine norm_ (a':=?_) ?_ ?_
                     rotate_left
                     ·simp only[putAll,Act.put,zx,zy,zz]
                      rfl
                     refine two_ (i:=2) (j:=6) (Ni:=some 41) (Nj:=some 10) #[true,true,true,true,true,false,false,true,false,false] #[true,true,false,true,true,false,true,true,false,false] rfl rfl rfl rfl (two_of HT_.out (by kernel_rfl)) (by decide) (by decide) (fun K hK=>?_) (fun K hK=>?_)
                     ·skip
                      refine goes_ Try.func70 (by kernel_rfl) rfl #[.agg #[.string a0_0,.int .i64 a0_1,.int .i64 a0_2,.int .i64 a0_3,.int .i64 a0_4,.int .i64 a0_5,.int .i64 a0_6,.int .i64 a0_7,.slice A0_8 l0_8.length c0_8],.int .i64 x26_2] (by rfl) rfl rfl (by(try simp only[List.map_toArray,List.map_cons,List.map_nil]);first|done|rfl|(simp only[List.length_drop,List.length_take];rfl)) ?_
                      with_reducible refine(fe_reach.calls a0_0 a0_1 a0_2 a0_3 a0_4 a0_5 a0_6 a0_7 _ _ l0_8 x26_2 t138 t139 _ ?side1 ?side2 A40.out).mono ?_
                      (case side1=>repeat(first|exact(Kd.V_reads' HO_129008.out).2.2|(with_reducible refine Kd.C_alloc ?_ _)|(with_reducible refine Kd.C_drewN ?_ _)|(with_reducible refine Kd.C_drew ?_)))
                      (case side2=>exact(Kd.V_reads' HO_129008.out).2.1)
                      rintro e w46 ⟨rfl,hb⟩
                      refine⟨_,rfl,?_⟩
                      have n0_:=zm (Kd.V_below (by(with_reducible repeat(first|apply Kd.V_alloc|apply Kd.V_drewN|apply Kd.V_drew));exact HO_129008.out) hb)
                      have n1_:=zm (Kd.V_below (by(with_reducible repeat(first|apply Kd.V_alloc|apply Kd.V_drewN|apply Kd.V_drew));exact HO_130008.out) hb)
                      have n2_:=zm (zb (g:=gb128) (by(with_reducible repeat first|apply zd|apply ze|apply za);exact BK128.out) hb)
                      have n3_:=zm (zb (g:=gb129) (by(with_reducible repeat first|apply zd|apply ze|apply za);exact BK129.out) hb)
                      have n4_:=zm (zb (g:=gb143) (by(with_reducible repeat first|apply zd|apply ze|apply za);exact BK143.out) hb)
                      have n5_:=zm (below_step (by repeat(first|(with_reducible first|exact HB.out|apply zA|apply zD|apply zE|refine zS ?_ GE128.out|refine zS ?_ GE129.out|refine zS ?_ GE143.out)|exact HB.out)) hb)
                      clear HO_129008 HO_130008 BK128 BK129 BK143 HB
                      have HO_129008:=n0_
                      have HO_130008:=n1_
                      have BK128:=n2_
                      have BK129:=n3_
                      have BK143:=n4_
                      have HB:=n5_
                      clear n0_ n1_ n2_ n3_ n4_ n5_
                      (try clear hb)
                      (try clear hb2)
                      (try clear hk)
                      (try clear hi)
                      refine hK.out _ _ ⟨(blk_cell BK128.out 0).trans rfl,(blk_cell BK128.out 1).trans rfl,(blk_cell BK128.out 2).trans rfl,(blk_cell BK128.out 3).trans rfl,(blk_cell BK128.out 4).trans rfl,(blk_cell BK128.out 5).trans rfl,(blk_cell BK128.out 6).trans rfl,(blk_cell BK128.out 7).trans rfl,(blk_cell BK128.out 8).trans rfl,(blk_cell BK129.out 0).trans rfl,(blk_cell BK129.out 1).trans rfl,(blk_cell BK129.out 2).trans rfl,(blk_cell BK129.out 3).trans rfl,(blk_cell BK129.out 4).trans rfl,(blk_cell BK129.out 5).trans rfl,(blk_cell BK129.out 6).trans rfl,(blk_cell BK129.out 7).trans rfl,(blk_cell BK129.out 8).trans rfl⟩ (fun hHeld=>?_)
                      clear hK K
                      refine norm_ (a':=?_) ?_ ?_
                      rotate_left
                      ·show Act.put _ (some 41) _=_
                       simp only[Act.put,zx,zy,zz,i64_w,i32_w]
                       rfl
                      exact norm_ (by first|(simp only[putAll,Act.put,zx,zy,zz];done)|(simp only[putAll,Act.put,zx,zy,zz];rfl)) (hJ2_7 (gb143) _ ⟨hHeld,(by(with_reducible repeat(first|apply Kd.V_alloc|apply Kd.V_drewN|apply Kd.V_drew));exact HO_129008.out),(by(with_reducible repeat(first|apply Kd.V_alloc|apply Kd.V_drewN|apply Kd.V_drew));exact HO_130008.out),(by(with_reducible repeat first|apply zd|apply ze|apply za);exact BK128.out),(by(with_reducible repeat first|apply zd|apply ze|apply za);exact BK129.out),(by(with_reducible repeat first|apply zd|apply ze|apply za);exact BK143.out),GW143.out,GE143.out,NB128_143.out,NB143_128.out,NB129_143.out,NB143_129.out,(by repeat(first|(with_reducible first|exact HB.out|apply zA|apply zD|apply zE|refine zS ?_ GE128.out|refine zS ?_ GE129.out|refine zS ?_ GE143.out)|exact HB.out))⟩)
                     ·skip
                      refine box_step ?hg (N:=10) ?hd (cs:=#[.int .i64 0,.int .i64 0]) (t:=25) ?hr ?_;(case hd=>rfl);(case hg=>rfl);(case hr=>first|(go_simp;done)|(go_simp;rfl))
                      intro gb142 hg w46 hbox hb
                      have n0_:=zm (Kd.V_below (Kd.V_elderB (by(with_reducible repeat(first|apply Kd.V_alloc|apply Kd.V_drewN|apply Kd.V_drew));exact HO_129008.out) gb142 (Nat.le_of_eq hg.symm)) hb)
                      have n1_:=zm (Kd.V_below (Kd.V_elderB (by(with_reducible repeat(first|apply Kd.V_alloc|apply Kd.V_drewN|apply Kd.V_drew));exact HO_130008.out) gb142 (Nat.le_of_eq hg.symm)) hb)
                      have n2_:=zm (zb (g:=gb128) (by(with_reducible repeat first|apply zd|apply ze|apply za);exact BK128.out) hb)
                      have n3_:=zm (zb (g:=gb129) (by(with_reducible repeat first|apply zd|apply ze|apply za);exact BK129.out) hb)
                      have n4_:=zm (zb (g:=gb143) (by(with_reducible repeat first|apply zd|apply ze|apply za);exact BK143.out) hb)
                      have n5_:=zm (below_step (by repeat(first|(with_reducible first|exact HB.out|apply zA|apply zD|apply zE|refine zS ?_ GE128.out|refine zS ?_ GE129.out|refine zS ?_ GE143.out)|exact HB.out)) hb)
                      have n6_:=zm (hbox)
                      have n7_:=zm ((by rw[hg];exact(below_size (by repeat(first|(with_reducible first|exact HB.out|apply zA|apply zD|apply zE|refine zS ?_ GE128.out|refine zS ?_ GE129.out|refine zS ?_ GE143.out)|exact HB.out))):w.heap.size≤gb142))
                      have n8_:=zm ((by rw[hg];exact(below_size (by repeat(first|(with_reducible first|exact HB.out|apply zA|apply zD|apply zE|refine zS ?_ GE128.out|refine zS ?_ GE129.out|refine zS ?_ GE143.out)|exact HB.out))):w.heap.size≤gb142))
                      have n9_:=zm ((by rw[hg];exact Nat.ne_of_lt (blk_lt (g:=gb128) (by(with_reducible repeat first|apply zd|apply ze|apply za);exact BK128.out)):gb128≠gb142))
                      have n10_:=zm ((by rw[hg];exact Nat.ne_of_gt (blk_lt (g:=gb128) (by(with_reducible repeat first|apply zd|apply ze|apply za);exact BK128.out)):gb142≠gb128))
                      have n11_:=zm ((by rw[hg];exact Nat.ne_of_lt (blk_lt (g:=gb129) (by(with_reducible repeat first|apply zd|apply ze|apply za);exact BK129.out)):gb129≠gb142))
                      have n12_:=zm ((by rw[hg];exact Nat.ne_of_gt (blk_lt (g:=gb129) (by(with_reducible repeat first|apply zd|apply ze|apply za);exact BK129.out)):gb142≠gb129))
                      have n13_:=zm ((by rw[hg];exact Nat.ne_of_lt (blk_lt (g:=gb143) (by(with_reducible repeat first|apply zd|apply ze|apply za);exact BK143.out)):gb143≠gb142))
                      have n14_:=zm ((by rw[hg];exact Nat.ne_of_gt (blk_lt (g:=gb143) (by(with_reducible repeat first|apply zd|apply ze|apply za);exact BK143.out)):gb142≠gb143))
                      clear HO_129008 HO_130008 BK128 BK129 BK143 HB
                      have HO_129008:=n0_
                      have HO_130008:=n1_
                      have BK128:=n2_
                      have BK129:=n3_
                      have BK143:=n4_
                      have HB:=n5_
                      have BK142:=n6_
                      have GW142:=n7_
                      have GE142:=n8_
                      have NB128_142:=n9_
                      have NB142_128:=n10_
                      have NB129_142:=n11_
                      have NB142_129:=n12_
                      have NB143_142:=n13_
                      have NB142_143:=n14_
                      clear n0_ n1_ n2_ n3_ n4_ n5_ n6_ n7_ n8_ n9_ n10_ n11_ n12_ n13_ n14_ hb hbox hg
                      refine hK.out _ _ ⟨(blk_cell BK128.out 0).trans rfl,(blk_cell BK128.out 1).trans rfl,(blk_cell BK128.out 2).trans rfl,(blk_cell BK128.out 3).trans rfl,(blk_cell BK128.out 4).trans rfl,(blk_cell BK128.out 5).trans rfl,(blk_cell BK128.out 6).trans rfl,(blk_cell BK128.out 7).trans rfl,(blk_cell BK128.out 8).trans rfl,(blk_cell BK129.out 0).trans rfl,(blk_cell BK129.out 1).trans rfl,(blk_cell BK129.out 2).trans rfl,(blk_cell BK129.out 3).trans rfl,(blk_cell BK129.out 4).trans rfl,(blk_cell BK129.out 5).trans rfl,(blk_cell BK129.out 6).trans rfl,(blk_cell BK129.out 7).trans rfl,(blk_cell BK129.out 8).trans rfl⟩ (fun hHeld=>?_)
                      clear hK K
                      refine norm_ (a':=?_) ?_ ?_
                      rotate_left
                      ·show Act.put _ (some 10) _=_
                       simp only[Act.put,zx,zy,zz,i64_w,i32_w]
                       rfl
                      exact norm_ (by first|(simp only[putAll,Act.put,zx,zy,zz];done)|(simp only[putAll,Act.put,zx,zy,zz];rfl)) (hJ6_7 (gb142,gb143) _ ⟨hHeld,(by(with_reducible repeat(first|apply Kd.V_alloc|apply Kd.V_drewN|apply Kd.V_drew));exact Kd.V_mono HO_129008.out (fun _ hk=>⟨hk.1.1,⟨hk.1.2.1,⟨hk.1.2.2.1,⟨hk.2,hk.1.2.2.2⟩⟩⟩⟩)),(by(with_reducible repeat(first|apply Kd.V_alloc|apply Kd.V_drewN|apply Kd.V_drew));exact Kd.V_mono HO_130008.out (fun _ hk=>⟨hk.1.1,⟨hk.1.2.1,⟨hk.1.2.2.1,⟨hk.2,hk.1.2.2.2⟩⟩⟩⟩)),(by(with_reducible repeat first|apply zd|apply ze|apply za);exact BK128.out),(by(with_reducible repeat first|apply zd|apply ze|apply za);exact BK129.out),(by(with_reducible repeat first|apply zd|apply ze|apply za);exact BK142.out),(by(with_reducible repeat first|apply zd|apply ze|apply za);exact BK143.out),GW142.out,GE142.out,NB128_142.out,NB142_128.out,NB129_142.out,NB142_129.out,NB143_142.out,NB142_143.out,GW143.out,GE143.out,NB128_143.out,NB143_128.out,NB129_143.out,NB143_129.out,(by repeat(first|(with_reducible first|exact HB.out|apply zA|apply zD|apply zE|refine zS ?_ GE128.out|refine zS ?_ GE129.out|refine zS ?_ GE143.out|refine zS ?_ GE142.out)|exact HB.out))⟩)
                   ·skip
                    rintro gb142 w45 ⟨hS_,h0_,h1_,h2_,h3_,h4_,h5_,h6_,h7_,h8_,h9_,h10_,h11_⟩
                    have n0_:Aside0 (Kd.V k104 104 w45 w.heap.size (fun k_=>((P0_8_ k_∨P1_8_ k_)∨w.heap.size≤k_)∧k_≠gb128∧k_≠gb129∧k_≠gb142) (.slice A0_8 l0_8.length c0_8) l0_8):=⟨h0_⟩
                    have n1_:Aside0 (Kd.V k104 104 w45 w.heap.size (fun k_=>((P0_8_ k_∨P1_8_ k_)∨w.heap.size≤k_)∧k_≠gb128∧k_≠gb129∧k_≠gb142) (.slice A1_8 l1_8.length c1_8) l1_8):=⟨h1_⟩
                    have n2_:Aside0 (w45.heap[gb128]?=some (.cells #[.string a0_0,.int .i64 a0_1,.int .i64 a0_2,.int .i64 a0_3,.int .i64 a0_4,.int .i64 a0_5,.int .i64 a0_6,.int .i64 a0_7,.slice A0_8 l0_8.length c0_8] 28 (0,0))):=⟨h2_⟩
                    have n3_:Aside0 (w45.heap[gb129]?=some (.cells #[.string a1_0,.int .i64 a1_1,.int .i64 a1_2,.int .i64 a1_3,.int .i64 a1_4,.int .i64 a1_5,.int .i64 a1_6,.int .i64 a1_7,.slice A1_8 l1_8.length c1_8] 28 (0,0))):=⟨h3_⟩
                    have n4_:Aside0 (w45.heap[gb142]?=some (.cells #[.int .i64 0,.int .i64 0] 25 (0,0))):=⟨h4_⟩
                    have n5_:Aside0 (w.heap.size≤gb142):=⟨h5_⟩
                    have n6_:Aside0 (w.heap.size≤gb142):=⟨h6_⟩
                    have n7_:Aside0 (gb128≠gb142):=⟨h7_⟩
                    have n8_:Aside0 (gb142≠gb128):=⟨h8_⟩
                    have n9_:Aside0 (gb129≠gb142):=⟨h9_⟩
                    have n10_:Aside0 (gb142≠gb129):=⟨h10_⟩
                    have n11_:Aside0 (Below w.heap.size w w45):=⟨h11_⟩
                    clear HO_129008 HO_130008 BK128 BK129 HB h0_ h1_ h2_ h3_ h4_ h5_ h6_ h7_ h8_ h9_ h10_ h11_
                    have HO_129008:=n0_
                    have HO_130008:=n1_
                    have BK128:=n2_
                    have BK129:=n3_
                    have BK142:=n4_
                    have GW142:=n5_
                    have GE142:=n6_
                    have NB128_142:=n7_
                    have NB142_128:=n8_
                    have NB129_142:=n9_
                    have NB142_129:=n10_
                    have HB:=n11_
                    clear n0_ n1_ n2_ n3_ n4_ n5_ n6_ n7_ n8_ n9_ n10_ n11_
                    have hHeld:w45.cell? ⟨gb128,0,none⟩=some (.string a0_0)∧w45.cell? ⟨gb128,1,none⟩=some (.int .i64 a0_1)∧w45.cell? ⟨gb128,2,none⟩=some (.int .i64 a0_2)∧w45.cell? ⟨gb128,3,none⟩=some (.int .i64 a0_3)∧w45.cell? ⟨gb128,4,none⟩=some (.int .i64 a0_4)∧w45.cell? ⟨gb128,5,none⟩=some (.int .i64 a0_5)∧w45.cell? ⟨gb128,6,none⟩=some (.int .i64 a0_6)∧w45.cell? ⟨gb128,7,none⟩=some (.int .i64 a0_7)∧w45.cell? ⟨gb128,8,none⟩=some (.slice A0_8 l0_8.length c0_8)∧w45.cell? ⟨gb129,0,none⟩=some (.string a1_0)∧w45.cell? ⟨gb129,1,none⟩=some (.int .i64 a1_1)∧w45.cell? ⟨gb129,2,none⟩=some (.int .i64 a1_2)∧w45.cell? ⟨gb129,3,none⟩=some (.int .i64 a1_3)∧w45.cell? ⟨gb129,4,none⟩=some (.int .i64 a1_4)∧w45.cell? ⟨gb129,5,none⟩=some (.int .i64 a1_5)∧w45.cell? ⟨gb129,6,none⟩=some (.int .i64 a1_6)∧w45.cell? ⟨gb129,7,none⟩=some (.int .i64 a1_7)∧w45.cell? ⟨gb129,8,none⟩=some (.slice A1_8 l1_8.length c1_8):=hS_
                    refine norm_ (a':=?_) ?_ ?_
                    rotate_left
                    ·simp only[putAll,Act.put,zx,zy,zz]
                     rfl
                    refine two_ (i:=2) (j:=7) (Ni:=some 41) (Nj:=some 11) #[true,true,true,true,true,false,true,false,false,false] #[true,true,false,true,true,false,true,true,false,false] rfl rfl rfl rfl (two_of HT_.out (by kernel_rfl)) (by decide) (by decide) (fun K hK=>?_) (fun K hK=>?_)
                    ·skip
                     refine goes_ Try.func70 (by kernel_rfl) rfl #[.agg #[.string a0_0,.int .i64 a0_1,.int .i64 a0_2,.int .i64 a0_3,.int .i64 a0_4,.int .i64 a0_5,.int .i64 a0_6,.int .i64 a0_7,.slice A0_8 l0_8.length c0_8],.int .i64 x26_2] (by rfl) rfl rfl (by(try simp only[List.map_toArray,List.map_cons,List.map_nil]);first|done|rfl|(simp only[List.length_drop,List.length_take];rfl)) ?_
                     with_reducible refine(fe_reach.calls a0_0 a0_1 a0_2 a0_3 a0_4 a0_5 a0_6 a0_7 _ _ l0_8 x26_2 t138 t139 _ ?side1 ?side2 A40.out).mono ?_
                     (case side1=>repeat(first|exact(Kd.V_reads' HO_129008.out).2.2|(with_reducible refine Kd.C_alloc ?_ _)|(with_reducible refine Kd.C_drewN ?_ _)|(with_reducible refine Kd.C_drew ?_)))
                     (case side2=>exact(Kd.V_reads' HO_129008.out).2.1)
                     rintro e w46 ⟨rfl,hb⟩
                     refine⟨_,rfl,?_⟩
                     have n0_:=zm (Kd.V_below (by(with_reducible repeat(first|apply Kd.V_alloc|apply Kd.V_drewN|apply Kd.V_drew));exact HO_129008.out) hb)
                     have n1_:=zm (Kd.V_below (by(with_reducible repeat(first|apply Kd.V_alloc|apply Kd.V_drewN|apply Kd.V_drew));exact HO_130008.out) hb)
                     have n2_:=zm (zb (g:=gb128) (by(with_reducible repeat first|apply zd|apply ze|apply za);exact BK128.out) hb)
                     have n3_:=zm (zb (g:=gb129) (by(with_reducible repeat first|apply zd|apply ze|apply za);exact BK129.out) hb)
                     have n4_:=zm (zb (g:=gb142) (by(with_reducible repeat first|apply zd|apply ze|apply za);exact BK142.out) hb)
                     have n5_:=zm (below_step (by repeat(first|(with_reducible first|exact HB.out|apply zA|apply zD|apply zE|refine zS ?_ GE128.out|refine zS ?_ GE129.out|refine zS ?_ GE142.out)|exact HB.out)) hb)
                     clear HO_129008 HO_130008 BK128 BK129 BK142 HB
                     have HO_129008:=n0_
                     have HO_130008:=n1_
                     have BK128:=n2_
                     have BK129:=n3_
                     have BK142:=n4_
                     have HB:=n5_
                     clear n0_ n1_ n2_ n3_ n4_ n5_
                     (try clear hb)
                     (try clear hb2)
                     (try clear hk)
                     (try clear hi)
                     refine hK.out _ _ ⟨(blk_cell BK128.out 0).trans rfl,(blk_cell BK128.out 1).trans rfl,(blk_cell BK128.out 2).trans rfl,(blk_cell BK128.out 3).trans rfl,(blk_cell BK128.out 4).trans rfl,(blk_cell BK128.out 5).trans rfl,(blk_cell BK128.out 6).trans rfl,(blk_cell BK128.out 7).trans rfl,(blk_cell BK128.out 8).trans rfl,(blk_cell BK129.out 0).trans rfl,(blk_cell BK129.out 1).trans rfl,(blk_cell BK129.out 2).trans rfl,(blk_cell BK129.out 3).trans rfl,(blk_cell BK129.out 4).trans rfl,(blk_cell BK129.out 5).trans rfl,(blk_cell BK129.out 6).trans rfl,(blk_cell BK129.out 7).trans rfl,(blk_cell BK129.out 8).trans rfl⟩ (fun hHeld=>?_)
                     clear hK K
                     refine norm_ (a':=?_) ?_ ?_
                     rotate_left
                     ·show Act.put _ (some 41) _=_
                      simp only[Act.put,zx,zy,zz,i64_w,i32_w]
                      rfl
                     exact norm_ (by first|(simp only[putAll,Act.put,zx,zy,zz];done)|(simp only[putAll,Act.put,zx,zy,zz];rfl)) (hJ2_6 (gb142) _ ⟨hHeld,(by(with_reducible repeat(first|apply Kd.V_alloc|apply Kd.V_drewN|apply Kd.V_drew));exact HO_129008.out),(by(with_reducible repeat(first|apply Kd.V_alloc|apply Kd.V_drewN|apply Kd.V_drew));exact HO_130008.out),(by(with_reducible repeat first|apply zd|apply ze|apply za);exact BK128.out),(by(with_reducible repeat first|apply zd|apply ze|apply za);exact BK129.out),(by(with_reducible repeat first|apply zd|apply ze|apply za);exact BK142.out),GW142.out,GE142.out,NB128_142.out,NB142_128.out,NB129_142.out,NB142_129.out,(by repeat(first|(with_reducible first|exact HB.out|apply zA|apply zD|apply zE|refine zS ?_ GE128.out|refine zS ?_ GE129.out|refine zS ?_ GE142.out)|exact HB.out))⟩)
                    ·skip
                     refine box_step ?hg (N:=11) ?hd (cs:=#[.int .i64 0,.int .i64 0]) (t:=25) ?hr ?_;(case hd=>rfl);(case hg=>rfl);(case hr=>first|(go_simp;done)|(go_simp;rfl))
                     intro gb143 hg w46 hbox hb
                     have n0_:=zm (Kd.V_below (Kd.V_elderB (by(with_reducible repeat(first|apply Kd.V_alloc|apply Kd.V_drewN|apply Kd.V_drew));exact HO_129008.out) gb143 (Nat.le_of_eq hg.symm)) hb)
                     have n1_:=zm (Kd.V_below (Kd.V_elderB (by(with_reducible repeat(first|apply Kd.V_alloc|apply Kd.V_drewN|apply Kd.V_drew));exact HO_130008.out) gb143 (Nat.le_of_eq hg.symm)) hb)
                     have n2_:=zm (zb (g:=gb128) (by(with_reducible repeat first|apply zd|apply ze|apply za);exact BK128.out) hb)
                     have n3_:=zm (zb (g:=gb129) (by(with_reducible repeat first|apply zd|apply ze|apply za);exact BK129.out) hb)
                     have n4_:=zm (zb (g:=gb142) (by(with_reducible repeat first|apply zd|apply ze|apply za);exact BK142.out) hb)
                     have n5_:=zm (below_step (by repeat(first|(with_reducible first|exact HB.out|apply zA|apply zD|apply zE|refine zS ?_ GE128.out|refine zS ?_ GE129.out|refine zS ?_ GE142.out)|exact HB.out)) hb)
                     have n6_:=zm (hbox)
                     have n7_:=zm ((by rw[hg];exact(below_size (by repeat(first|(with_reducible first|exact HB.out|apply zA|apply zD|apply zE|refine zS ?_ GE128.out|refine zS ?_ GE129.out|refine zS ?_ GE142.out)|exact HB.out))):w.heap.size≤gb143))
                     have n8_:=zm ((by rw[hg];exact(below_size (by repeat(first|(with_reducible first|exact HB.out|apply zA|apply zD|apply zE|refine zS ?_ GE128.out|refine zS ?_ GE129.out|refine zS ?_ GE142.out)|exact HB.out))):w.heap.size≤gb143))
                     have n9_:=zm ((by rw[hg];exact Nat.ne_of_lt (blk_lt (g:=gb128) (by(with_reducible repeat first|apply zd|apply ze|apply za);exact BK128.out)):gb128≠gb143))
                     have n10_:=zm ((by rw[hg];exact Nat.ne_of_gt (blk_lt (g:=gb128) (by(with_reducible repeat first|apply zd|apply ze|apply za);exact BK128.out)):gb143≠gb128))
                     have n11_:=zm ((by rw[hg];exact Nat.ne_of_lt (blk_lt (g:=gb129) (by(with_reducible repeat first|apply zd|apply ze|apply za);exact BK129.out)):gb129≠gb143))
                     have n12_:=zm ((by rw[hg];exact Nat.ne_of_gt (blk_lt (g:=gb129) (by(with_reducible repeat first|apply zd|apply ze|apply za);exact BK129.out)):gb143≠gb129))
                     have n13_:=zm ((by rw[hg];exact Nat.ne_of_lt (blk_lt (g:=gb142) (by(with_reducible repeat first|apply zd|apply ze|apply za);exact BK142.out)):gb142≠gb143))
                     have n14_:=zm ((by rw[hg];exact Nat.ne_of_gt (blk_lt (g:=gb142) (by(with_reducible repeat first|apply zd|apply ze|apply za);exact BK142.out)):gb143≠gb142))
                     clear HO_129008 HO_130008 BK128 BK129 BK142 HB
                     have HO_129008:=n0_
                     have HO_130008:=n1_
                     have BK128:=n2_
                     have BK129:=n3_
                     have BK142:=n4_
                     have HB:=n5_
                     have BK143:=n6_
                     have GW143:=n7_
                     have GE143:=n8_
                     have NB128_143:=n9_
                     have NB143_128:=n10_
                     have NB129_143:=n11_
                     have NB143_129:=n12_
                     have NB142_143:=n13_
                     have NB143_142:=n14_
                     clear n0_ n1_ n2_ n3_ n4_ n5_ n6_ n7_ n8_ n9_ n10_ n11_ n12_ n13_ n14_ hb hbox hg
                     refine hK.out _ _ ⟨(blk_cell BK128.out 0).trans rfl,(blk_cell BK128.out 1).trans rfl,(blk_cell BK128.out 2).trans rfl,(blk_cell BK128.out 3).trans rfl,(blk_cell BK128.out 4).trans rfl,(blk_cell BK128.out 5).trans rfl,(blk_cell BK128.out 6).trans rfl,(blk_cell BK128.out 7).trans rfl,(blk_cell BK128.out 8).trans rfl,(blk_cell BK129.out 0).trans rfl,(blk_cell BK129.out 1).trans rfl,(blk_cell BK129.out 2).trans rfl,(blk_cell BK129.out 3).trans rfl,(blk_cell BK129.out 4).trans rfl,(blk_cell BK129.out 5).trans rfl,(blk_cell BK129.out 6).trans rfl,(blk_cell BK129.out 7).trans rfl,(blk_cell BK129.out 8).trans rfl⟩ (fun hHeld=>?_)
                     clear hK K
                     refine norm_ (a':=?_) ?_ ?_
                     rotate_left
                     ·show Act.put _ (some 11) _=_
                      simp only[Act.put,zx,zy,zz,i64_w,i32_w]
                      rfl
                     exact norm_ (by first|(simp only[putAll,Act.put,zx,zy,zz];done)|(simp only[putAll,Act.put,zx,zy,zz];rfl)) (hJ6_7 (gb142,gb143) _ ⟨hHeld,(by(with_reducible repeat(first|apply Kd.V_alloc|apply Kd.V_drewN|apply Kd.V_drew));exact Kd.V_mono HO_129008.out (fun _ hk=>⟨hk.1.1,⟨hk.1.2.1,⟨hk.1.2.2.1,⟨hk.1.2.2.2,hk.2⟩⟩⟩⟩)),(by(with_reducible repeat(first|apply Kd.V_alloc|apply Kd.V_drewN|apply Kd.V_drew));exact Kd.V_mono HO_130008.out (fun _ hk=>⟨hk.1.1,⟨hk.1.2.1,⟨hk.1.2.2.1,⟨hk.1.2.2.2,hk.2⟩⟩⟩⟩)),(by(with_reducible repeat first|apply zd|apply ze|apply za);exact BK128.out),(by(with_reducible repeat first|apply zd|apply ze|apply za);exact BK129.out),(by(with_reducible repeat first|apply zd|apply ze|apply za);exact BK142.out),(by(with_reducible repeat first|apply zd|apply ze|apply za);exact BK143.out),GW142.out,GE142.out,NB128_142.out,NB142_128.out,NB129_142.out,NB142_129.out,NB143_142.out,NB142_143.out,GW143.out,GE143.out,NB128_143.out,NB143_128.out,NB129_143.out,NB143_129.out,(by repeat(first|(with_reducible first|exact HB.out|apply zA|apply zD|apply zE|refine zS ?_ GE128.out|refine zS ?_ GE129.out|refine zS ?_ GE142.out|refine zS ?_ GE143.out)|exact HB.out))⟩)
                  ·skip
                   rintro _ w45 ⟨hS_,h0_,h1_,h2_,h3_,h4_⟩
                   have n0_:Aside0 (Kd.V k104 104 w45 w.heap.size (fun k_=>((P0_8_ k_∨P1_8_ k_)∨w.heap.size≤k_)∧k_≠gb128∧k_≠gb129) (.slice A0_8 l0_8.length c0_8) l0_8):=⟨h0_⟩
                   have n1_:Aside0 (Kd.V k104 104 w45 w.heap.size (fun k_=>((P0_8_ k_∨P1_8_ k_)∨w.heap.size≤k_)∧k_≠gb128∧k_≠gb129) (.slice A1_8 l1_8.length c1_8) l1_8):=⟨h1_⟩
                   have n2_:Aside0 (w45.heap[gb128]?=some (.cells #[.string a0_0,.int .i64 a0_1,.int .i64 a0_2,.int .i64 a0_3,.int .i64 a0_4,.int .i64 a0_5,.int .i64 a0_6,.int .i64 a0_7,.slice A0_8 l0_8.length c0_8] 28 (0,0))):=⟨h2_⟩
                   have n3_:Aside0 (w45.heap[gb129]?=some (.cells #[.string a1_0,.int .i64 a1_1,.int .i64 a1_2,.int .i64 a1_3,.int .i64 a1_4,.int .i64 a1_5,.int .i64 a1_6,.int .i64 a1_7,.slice A1_8 l1_8.length c1_8] 28 (0,0))):=⟨h3_⟩
                   have n4_:Aside0 (Below w.heap.size w w45):=⟨h4_⟩
                   clear HO_129008 HO_130008 BK128 BK129 HB h0_ h1_ h2_ h3_ h4_
                   have HO_129008:=n0_
                   have HO_130008:=n1_
                   have BK128:=n2_
                   have BK129:=n3_
                   have HB:=n4_
                   clear n0_ n1_ n2_ n3_ n4_
                   have hHeld:w45.cell? ⟨gb128,0,none⟩=some (.string a0_0)∧w45.cell? ⟨gb128,1,none⟩=some (.int .i64 a0_1)∧w45.cell? ⟨gb128,2,none⟩=some (.int .i64 a0_2)∧w45.cell? ⟨gb128,3,none⟩=some (.int .i64 a0_3)∧w45.cell? ⟨gb128,4,none⟩=some (.int .i64 a0_4)∧w45.cell? ⟨gb128,5,none⟩=some (.int .i64 a0_5)∧w45.cell? ⟨gb128,6,none⟩=some (.int .i64 a0_6)∧w45.cell? ⟨gb128,7,none⟩=some (.int .i64 a0_7)∧w45.cell? ⟨gb128,8,none⟩=some (.slice A0_8 l0_8.length c0_8)∧w45.cell? ⟨gb129,0,none⟩=some (.string a1_0)∧w45.cell? ⟨gb129,1,none⟩=some (.int .i64 a1_1)∧w45.cell? ⟨gb129,2,none⟩=some (.int .i64 a1_2)∧w45.cell? ⟨gb129,3,none⟩=some (.int .i64 a1_3)∧w45.cell? ⟨gb129,4,none⟩=some (.int .i64 a1_4)∧w45.cell? ⟨gb129,5,none⟩=some (.int .i64 a1_5)∧w45.cell? ⟨gb129,6,none⟩=some (.int .i64 a1_6)∧w45.cell? ⟨gb129,7,none⟩=some (.int .i64 a1_7)∧w45.cell? ⟨gb129,8,none⟩=some (.slice A1_8 l1_8.length c1_8):=hS_
                   refine norm_ (a':=?_) ?_ ?_
                   rotate_left
                   ·simp only[putAll,Act.put,zx,zy,zz]
                    rfl
                   refine three_ (i:=5) (j:=6) (k:=7) (Ni:=some 44) (Nj:=some 10) (Nk:=some 11) #[true,true,true,true,true,true,false,false,false,false] #[true,true,true,true,true,false,true,false,false,false] #[true,true,true,true,true,false,false,true,false,false] rfl rfl rfl rfl rfl rfl (three_of HT_.out (by kernel_rfl)) (by decide) (by decide) (by decide) (fun K hK=>?_) (fun K hK=>?_) (fun K hK=>?_)
                   ·skip
                    refine goes_ Try.func70 (by kernel_rfl) rfl #[.agg #[.string a1_0,.int .i64 a1_1,.int .i64 a1_2,.int .i64 a1_3,.int .i64 a1_4,.int .i64 a1_5,.int .i64 a1_6,.int .i64 a1_7,.slice A1_8 l1_8.length c1_8],.int .i64 x26_2] (by rfl) rfl rfl (by(try simp only[List.map_toArray,List.map_cons,List.map_nil]);first|done|rfl|(simp only[List.length_drop,List.length_take];rfl)) ?_
                    with_reducible refine(fe_reach.calls a1_0 a1_1 a1_2 a1_3 a1_4 a1_5 a1_6 a1_7 _ _ l1_8 x26_2 t140 t141 _ ?side1 ?side2 A41.out).mono ?_
                    (case side1=>repeat(first|exact(Kd.V_reads' HO_130008.out).2.2|(with_reducible refine Kd.C_alloc ?_ _)|(with_reducible refine Kd.C_drewN ?_ _)|(with_reducible refine Kd.C_drew ?_)))
                    (case side2=>exact(Kd.V_reads' HO_130008.out).2.1)
                    rintro e w46 ⟨rfl,hb⟩
                    refine⟨_,rfl,?_⟩
                    have n0_:=zm (Kd.V_below (by(with_reducible repeat(first|apply Kd.V_alloc|apply Kd.V_drewN|apply Kd.V_drew));exact HO_129008.out) hb)
                    have n1_:=zm (Kd.V_below (by(with_reducible repeat(first|apply Kd.V_alloc|apply Kd.V_drewN|apply Kd.V_drew));exact HO_130008.out) hb)
                    have n2_:=zm (zb (g:=gb128) (by(with_reducible repeat first|apply zd|apply ze|apply za);exact BK128.out) hb)
                    have n3_:=zm (zb (g:=gb129) (by(with_reducible repeat first|apply zd|apply ze|apply za);exact BK129.out) hb)
                    have n4_:=zm (below_step (by repeat(first|(with_reducible first|exact HB.out|apply zA|apply zD|apply zE|refine zS ?_ GE128.out|refine zS ?_ GE129.out)|exact HB.out)) hb)
                    clear HO_129008 HO_130008 BK128 BK129 HB
                    have HO_129008:=n0_
                    have HO_130008:=n1_
                    have BK128:=n2_
                    have BK129:=n3_
                    have HB:=n4_
                    clear n0_ n1_ n2_ n3_ n4_
                    (try clear hb)
                    (try clear hb2)
                    (try clear hk)
                    (try clear hi)
                    refine hK.out _ _ ⟨(blk_cell BK128.out 0).trans rfl,(blk_cell BK128.out 1).trans rfl,(blk_cell BK128.out 2).trans rfl,(blk_cell BK128.out 3).trans rfl,(blk_cell BK128.out 4).trans rfl,(blk_cell BK128.out 5).trans rfl,(blk_cell BK128.out 6).trans rfl,(blk_cell BK128.out 7).trans rfl,(blk_cell BK128.out 8).trans rfl,(blk_cell BK129.out 0).trans rfl,(blk_cell BK129.out 1).trans rfl,(blk_cell BK129.out 2).trans rfl,(blk_cell BK129.out 3).trans rfl,(blk_cell BK129.out 4).trans rfl,(blk_cell BK129.out 5).trans rfl,(blk_cell BK129.out 6).trans rfl,(blk_cell BK129.out 7).trans rfl,(blk_cell BK129.out 8).trans rfl⟩ (fun hHeld=>?_)
                    clear hK K
                    refine norm_ (a':=?_) ?_ ?_
                    rotate_left
                    ·show Act.put _ (some 44) _=_
                     simp only[Act.put,zx,zy,zz,i64_w,i32_w]
                     rfl
                    exact norm_ (by first|(simp only[putAll,Act.put,zx,zy,zz];done)|(simp only[putAll,Act.put,zx,zy,zz];rfl)) (hJ2_5 () _ ⟨hHeld,(by(with_reducible repeat(first|apply Kd.V_alloc|apply Kd.V_drewN|apply Kd.V_drew));exact HO_129008.out),(by(with_reducible repeat(first|apply Kd.V_alloc|apply Kd.V_drewN|apply Kd.V_drew));exact HO_130008.out),(by(with_reducible repeat first|apply zd|apply ze|apply za);exact BK128.out),(by(with_reducible repeat first|apply zd|apply ze|apply za);exact BK129.out),(by repeat(first|(with_reducible first|exact HB.out|apply zA|apply zD|apply zE|refine zS ?_ GE128.out|refine zS ?_ GE129.out)|exact HB.out))⟩)
                   ·skip
                    refine box_step ?hg (N:=10) ?hd (cs:=#[.int .i64 0,.int .i64 0]) (t:=25) ?hr ?_;(case hd=>rfl);(case hg=>rfl);(case hr=>first|(go_simp;done)|(go_simp;rfl))
                    intro gb142 hg w46 hbox hb
                    have n0_:=zm (Kd.V_below (Kd.V_elderB (by(with_reducible repeat(first|apply Kd.V_alloc|apply Kd.V_drewN|apply Kd.V_drew));exact HO_129008.out) gb142 (Nat.le_of_eq hg.symm)) hb)
                    have n1_:=zm (Kd.V_below (Kd.V_elderB (by(with_reducible repeat(first|apply Kd.V_alloc|apply Kd.V_drewN|apply Kd.V_drew));exact HO_130008.out) gb142 (Nat.le_of_eq hg.symm)) hb)
                    have n2_:=zm (zb (g:=gb128) (by(with_reducible repeat first|apply zd|apply ze|apply za);exact BK128.out) hb)
                    have n3_:=zm (zb (g:=gb129) (by(with_reducible repeat first|apply zd|apply ze|apply za);exact BK129.out) hb)
                    have n4_:=zm (below_step (by repeat(first|(with_reducible first|exact HB.out|apply zA|apply zD|apply zE|refine zS ?_ GE128.out|refine zS ?_ GE129.out)|exact HB.out)) hb)
                    have n5_:=zm (hbox)
                    have n6_:=zm ((by rw[hg];exact(below_size (by repeat(first|(with_reducible first|exact HB.out|apply zA|apply zD|apply zE|refine zS ?_ GE128.out|refine zS ?_ GE129.out)|exact HB.out))):w.heap.size≤gb142))
                    have n7_:=zm ((by rw[hg];exact(below_size (by repeat(first|(with_reducible first|exact HB.out|apply zA|apply zD|apply zE|refine zS ?_ GE128.out|refine zS ?_ GE129.out)|exact HB.out))):w.heap.size≤gb142))
                    have n8_:=zm ((by rw[hg];exact Nat.ne_of_lt (blk_lt (g:=gb128) (by(with_reducible repeat first|apply zd|apply ze|apply za);exact BK128.out)):gb128≠gb142))
                    have n9_:=zm ((by rw[hg];exact Nat.ne_of_gt (blk_lt (g:=gb128) (by(with_reducible repeat first|apply zd|apply ze|apply za);exact BK128.out)):gb142≠gb128))
                    have n10_:=zm ((by rw[hg];exact Nat.ne_of_lt (blk_lt (g:=gb129) (by(with_reducible repeat first|apply zd|apply ze|apply za);exact BK129.out)):gb129≠gb142))
                    have n11_:=zm ((by rw[hg];exact Nat.ne_of_gt (blk_lt (g:=gb129) (by(with_reducible repeat first|apply zd|apply ze|apply za);exact BK129.out)):gb142≠gb129))
                    clear HO_129008 HO_130008 BK128 BK129 HB
                    have HO_129008:=n0_
                    have HO_130008:=n1_
                    have BK128:=n2_
                    have BK129:=n3_
                    have HB:=n4_
                    have BK142:=n5_
                    have GW142:=n6_
                    have GE142:=n7_
                    have NB128_142:=n8_
                    have NB142_128:=n9_
                    have NB129_142:=n10_
                    have NB142_129:=n11_
                    clear n0_ n1_ n2_ n3_ n4_ n5_ n6_ n7_ n8_ n9_ n10_ n11_ hb hbox hg
                    refine hK.out _ _ ⟨(blk_cell BK128.out 0).trans rfl,(blk_cell BK128.out 1).trans rfl,(blk_cell BK128.out 2).trans rfl,(blk_cell BK128.out 3).trans rfl,(blk_cell BK128.out 4).trans rfl,(blk_cell BK128.out 5).trans rfl,(blk_cell BK128.out 6).trans rfl,(blk_cell BK128.out 7).trans rfl,(blk_cell BK128.out 8).trans rfl,(blk_cell BK129.out 0).trans rfl,(blk_cell BK129.out 1).trans rfl,(blk_cell BK129.out 2).trans rfl,(blk_cell BK129.out 3).trans rfl,(blk_cell BK129.out 4).trans rfl,(blk_cell BK129.out 5).trans rfl,(blk_cell BK129.out 6).trans rfl,(blk_cell BK129.out 7).trans rfl,(blk_cell BK129.out 8).trans rfl⟩ (fun hHeld=>?_)
                    clear hK K
                    refine norm_ (a':=?_) ?_ ?_
                    rotate_left
                    ·show Act.put _ (some 10) _=_
                     simp only[Act.put,zx,zy,zz,i64_w,i32_w]
                     rfl
                    exact norm_ (by first|(simp only[putAll,Act.put,zx,zy,zz];done)|(simp only[putAll,Act.put,zx,zy,zz];rfl)) (hJ2_6 (gb142) _ ⟨hHeld,(by(with_reducible repeat(first|apply Kd.V_alloc|apply Kd.V_drewN|apply Kd.V_drew));exact Kd.V_mono HO_129008.out (fun _ hk=>⟨hk.1.1,⟨hk.1.2.1,⟨hk.1.2.2,hk.2⟩⟩⟩)),(by(with_reducible repeat(first|apply Kd.V_alloc|apply Kd.V_drewN|apply Kd.V_drew));exact Kd.V_mono HO_130008.out (fun _ hk=>⟨hk.1.1,⟨hk.1.2.1,⟨hk.1.2.2,hk.2⟩⟩⟩)),(by(with_reducible repeat first|apply zd|apply ze|apply za);exact BK128.out),(by(with_reducible repeat first|apply zd|apply ze|apply za);exact BK129.out),(by(with_reducible repeat first|apply zd|apply ze|apply za);exact BK142.out),GW142.out,GE142.out,NB128_142.out,NB142_128.out,NB129_142.out,NB142_129.out,(by repeat(first|(with_reducible first|exact HB.out|apply zA|apply zD|apply zE|refine zS ?_ GE128.out|refine zS ?_ GE129.out|refine zS ?_ GE142.out)|exact HB.out))⟩)
                   ·skip
                    refine box_step ?hg (N:=11) ?hd (cs:=#[.int .i64 0,.int .i64 0]) (t:=25) ?hr ?_;(case hd=>rfl);(case hg=>rfl);(case hr=>first|(go_simp;done)|(go_simp;rfl))
                    intro gb143 hg w46 hbox hb
                    have n0_:=zm (Kd.V_below (Kd.V_elderB (by(with_reducible repeat(first|apply Kd.V_alloc|apply Kd.V_drewN|apply Kd.V_drew));exact HO_129008.out) gb143 (Nat.le_of_eq hg.symm)) hb)
                    have n1_:=zm (Kd.V_below (Kd.V_elderB (by(with_reducible repeat(first|apply Kd.V_alloc|apply Kd.V_drewN|apply Kd.V_drew));exact HO_130008.out) gb143 (Nat.le_of_eq hg.symm)) hb)
                    have n2_:=zm (zb (g:=gb128) (by(with_reducible repeat first|apply zd|apply ze|apply za);exact BK128.out) hb)
                    have n3_:=zm (zb (g:=gb129) (by(with_reducible repeat first|apply zd|apply ze|apply za);exact BK129.out) hb)
                    have n4_:=zm (below_step (by repeat(first|(with_reducible first|exact HB.out|apply zA|apply zD|apply zE|refine zS ?_ GE128.out|refine zS ?_ GE129.out)|exact HB.out)) hb)
                    have n5_:=zm (hbox)
                    have n6_:=zm ((by rw[hg];exact(below_size (by repeat(first|(with_reducible first|exact HB.out|apply zA|apply zD|apply zE|refine zS ?_ GE128.out|refine zS ?_ GE129.out)|exact HB.out))):w.heap.size≤gb143))
                    have n7_:=zm ((by rw[hg];exact(below_size (by repeat(first|(with_reducible first|exact HB.out|apply zA|apply zD|apply zE|refine zS ?_ GE128.out|refine zS ?_ GE129.out)|exact HB.out))):w.heap.size≤gb143))
                    have n8_:=zm ((by rw[hg];exact Nat.ne_of_lt (blk_lt (g:=gb128) (by(with_reducible repeat first|apply zd|apply ze|apply za);exact BK128.out)):gb128≠gb143))
                    have n9_:=zm ((by rw[hg];exact Nat.ne_of_gt (blk_lt (g:=gb128) (by(with_reducible repeat first|apply zd|apply ze|apply za);exact BK128.out)):gb143≠gb128))
                    have n10_:=zm ((by rw[hg];exact Nat.ne_of_lt (blk_lt (g:=gb129) (by(with_reducible repeat first|apply zd|apply ze|apply za);exact BK129.out)):gb129≠gb143))
                    have n11_:=zm ((by rw[hg];exact Nat.ne_of_gt (blk_lt (g:=gb129) (by(with_reducible repeat first|apply zd|apply ze|apply za);exact BK129.out)):gb143≠gb129))
                    clear HO_129008 HO_130008 BK128 BK129 HB
                    have HO_129008:=n0_
                    have HO_130008:=n1_
                    have BK128:=n2_
                    have BK129:=n3_
                    have HB:=n4_
                    have BK143:=n5_
                    have GW143:=n6_
                    have GE143:=n7_
                    have NB128_143:=n8_
                    have NB143_128:=n9_
                    have NB129_143:=n10_
                    have NB143_129:=n11_
                    clear n0_ n1_ n2_ n3_ n4_ n5_ n6_ n7_ n8_ n9_ n10_ n11_ hb hbox hg
                    refine hK.out _ _ ⟨(blk_cell BK128.out 0).trans rfl,(blk_cell BK128.out 1).trans rfl,(blk_cell BK128.out 2).trans rfl,(blk_cell BK128.out 3).trans rfl,(blk_cell BK128.out 4).trans rfl,(blk_cell BK128.out 5).trans rfl,(blk_cell BK128.out 6).trans rfl,(blk_cell BK128.out 7).trans rfl,(blk_cell BK128.out 8).trans rfl,(blk_cell BK129.out 0).trans rfl,(blk_cell BK129.out 1).trans rfl,(blk_cell BK129.out 2).trans rfl,(blk_cell BK129.out 3).trans rfl,(blk_cell BK129.out 4).trans rfl,(blk_cell BK129.out 5).trans rfl,(blk_cell BK129.out 6).trans rfl,(blk_cell BK129.out 7).trans rfl,(blk_cell BK129.out 8).trans rfl⟩ (fun hHeld=>?_)
                    clear hK K
                    refine norm_ (a':=?_) ?_ ?_
                    rotate_left
                    ·show Act.put _ (some 11) _=_
                     simp only[Act.put,zx,zy,zz,i64_w,i32_w]
                     rfl
                    exact norm_ (by first|(simp only[putAll,Act.put,zx,zy,zz];done)|(simp only[putAll,Act.put,zx,zy,zz];rfl)) (hJ2_7 (gb143) _ ⟨hHeld,(by(with_reducible repeat(first|apply Kd.V_alloc|apply Kd.V_drewN|apply Kd.V_drew));exact Kd.V_mono HO_129008.out (fun _ hk=>⟨hk.1.1,⟨hk.1.2.1,⟨hk.1.2.2,hk.2⟩⟩⟩)),(by(with_reducible repeat(first|apply Kd.V_alloc|apply Kd.V_drewN|apply Kd.V_drew));exact Kd.V_mono HO_130008.out (fun _ hk=>⟨hk.1.1,⟨hk.1.2.1,⟨hk.1.2.2,hk.2⟩⟩⟩)),(by(with_reducible repeat first|apply zd|apply ze|apply za);exact BK128.out),(by(with_reducible repeat first|apply zd|apply ze|apply za);exact BK129.out),(by(with_reducible repeat first|apply zd|apply ze|apply za);exact BK143.out),GW143.out,GE143.out,NB128_143.out,NB143_128.out,NB129_143.out,NB143_129.out,(by repeat(first|(with_reducible first|exact HB.out|apply zA|apply zD|apply zE|refine zS ?_ GE128.out|refine zS ?_ GE129.out|refine zS ?_ GE143.out)|exact HB.out))⟩)
                 ·skip
                  rintro⟨gb142,gb143⟩ w46 ⟨hS_,h0_,h1_,h2_,h3_,h4_,h5_,h6_,h7_,h8_,h9_,h10_,h11_,h12_,h13_,h14_,h15_,h16_,h17_,h18_,h19_,h20_⟩
                  have n0_:Aside0 (Kd.V k104 104 w46 w.heap.size (fun k_=>((P0_8_ k_∨P1_8_ k_)∨w.heap.size≤k_)∧k_≠gb128∧k_≠gb129∧k_≠gb142∧k_≠gb143) (.slice A0_8 l0_8.length c0_8) l0_8):=⟨h0_⟩
                  have n1_:Aside0 (Kd.V k104 104 w46 w.heap.size (fun k_=>((P0_8_ k_∨P1_8_ k_)∨w.heap.size≤k_)∧k_≠gb128∧k_≠gb129∧k_≠gb142∧k_≠gb143) (.slice A1_8 l1_8.length c1_8) l1_8):=⟨h1_⟩
                  have n2_:Aside0 (w46.heap[gb128]?=some (.cells #[.string a0_0,.int .i64 a0_1,.int .i64 a0_2,.int .i64 a0_3,.int .i64 a0_4,.int .i64 a0_5,.int .i64 a0_6,.int .i64 a0_7,.slice A0_8 l0_8.length c0_8] 28 (0,0))):=⟨h2_⟩
                  have n3_:Aside0 (w46.heap[gb129]?=some (.cells #[.string a1_0,.int .i64 a1_1,.int .i64 a1_2,.int .i64 a1_3,.int .i64 a1_4,.int .i64 a1_5,.int .i64 a1_6,.int .i64 a1_7,.slice A1_8 l1_8.length c1_8] 28 (0,0))):=⟨h3_⟩
                  have n4_:Aside0 (w46.heap[gb142]?=some (.cells #[.int .i64 0,.int .i64 0] 25 (0,0))):=⟨h4_⟩
                  have n5_:Aside0 (w46.heap[gb143]?=some (.cells #[.int .i64 0,.int .i64 0] 25 (0,0))):=⟨h5_⟩
                  have n6_:Aside0 (w.heap.size≤gb142):=⟨h6_⟩
                  have n7_:Aside0 (w.heap.size≤gb142):=⟨h7_⟩
                  have n8_:Aside0 (gb128≠gb142):=⟨h8_⟩
                  have n9_:Aside0 (gb142≠gb128):=⟨h9_⟩
                  have n10_:Aside0 (gb129≠gb142):=⟨h10_⟩
                  have n11_:Aside0 (gb142≠gb129):=⟨h11_⟩
                  have n12_:Aside0 (gb143≠gb142):=⟨h12_⟩
                  have n13_:Aside0 (gb142≠gb143):=⟨h13_⟩
                  have n14_:Aside0 (w.heap.size≤gb143):=⟨h14_⟩
                  have n15_:Aside0 (w.heap.size≤gb143):=⟨h15_⟩
                  have n16_:Aside0 (gb128≠gb143):=⟨h16_⟩
                  have n17_:Aside0 (gb143≠gb128):=⟨h17_⟩
                  have n18_:Aside0 (gb129≠gb143):=⟨h18_⟩
                  have n19_:Aside0 (gb143≠gb129):=⟨h19_⟩
                  have n20_:Aside0 (Below w.heap.size w w46):=⟨h20_⟩
                  clear HO_129008 HO_130008 BK128 BK129 HB h0_ h1_ h2_ h3_ h4_ h5_ h6_ h7_ h8_ h9_ h10_ h11_ h12_ h13_ h14_ h15_ h16_ h17_ h18_ h19_ h20_
                  have HO_129008:=n0_
                  have HO_130008:=n1_
                  have BK128:=n2_
                  have BK129:=n3_
                  have BK142:=n4_
                  have BK143:=n5_
                  have GW142:=n6_
                  have GE142:=n7_
                  have NB128_142:=n8_
                  have NB142_128:=n9_
                  have NB129_142:=n10_
                  have NB142_129:=n11_
                  have NB143_142:=n12_
                  have NB142_143:=n13_
                  have GW143:=n14_
                  have GE143:=n15_
                  have NB128_143:=n16_
                  have NB143_128:=n17_
                  have NB129_143:=n18_
                  have NB143_129:=n19_
                  have HB:=n20_
                  clear n0_ n1_ n2_ n3_ n4_ n5_ n6_ n7_ n8_ n9_ n10_ n11_ n12_ n13_ n14_ n15_ n16_ n17_ n18_ n19_ n20_
                  have hHeld:w46.cell? ⟨gb128,0,none⟩=some (.string a0_0)∧w46.cell? ⟨gb128,1,none⟩=some (.int .i64 a0_1)∧w46.cell? ⟨gb128,2,none⟩=some (.int .i64 a0_2)∧w46.cell? ⟨gb128,3,none⟩=some (.int .i64 a0_3)∧w46.cell? ⟨gb128,4,none⟩=some (.int .i64 a0_4)∧w46.cell? ⟨gb128,5,none⟩=some (.int .i64 a0_5)∧w46.cell? ⟨gb128,6,none⟩=some (.int .i64 a0_6)∧w46.cell? ⟨gb128,7,none⟩=some (.int .i64 a0_7)∧w46.cell? ⟨gb128,8,none⟩=some (.slice A0_8 l0_8.length c0_8)∧w46.cell? ⟨gb129,0,none⟩=some (.string a1_0)∧w46.cell? ⟨gb129,1,none⟩=some (.int .i64 a1_1)∧w46.cell? ⟨gb129,2,none⟩=some (.int .i64 a1_2)∧w46.cell? ⟨gb129,3,none⟩=some (.int .i64 a1_3)∧w46.cell? ⟨gb129,4,none⟩=some (.int .i64 a1_4)∧w46.cell? ⟨gb129,5,none⟩=some (.int .i64 a1_5)∧w46.cell? ⟨gb129,6,none⟩=some (.int .i64 a1_6)∧w46.cell? ⟨gb129,7,none⟩=some (.int .i64 a1_7)∧w46.cell? ⟨gb129,8,none⟩=some (.slice A1_8 l1_8.length c1_8):=hS_
                  refine norm_ (a':=?_) ?_ ?_
                  rotate_left
                  ·simp only[putAll,Act.put,zx,zy,zz]
                   rfl
                  refine one_ (i:=2) (N:=some 41) #[true,true,true,true,true,false,true,true,false,false] rfl rfl (one_of HT_.out (by kernel_rfl)) (by decide) (fun K hK=>?_)
                  refine goes_ Try.func70 (by kernel_rfl) rfl #[.agg #[.string a0_0,.int .i64 a0_1,.int .i64 a0_2,.int .i64 a0_3,.int .i64 a0_4,.int .i64 a0_5,.int .i64 a0_6,.int .i64 a0_7,.slice A0_8 l0_8.length c0_8],.int .i64 x26_2] (by rfl) rfl rfl (by(try simp only[List.map_toArray,List.map_cons,List.map_nil]);first|done|rfl|(simp only[List.length_drop,List.length_take];rfl)) ?_
                  with_reducible refine(fe_reach.calls a0_0 a0_1 a0_2 a0_3 a0_4 a0_5 a0_6 a0_7 _ _ l0_8 x26_2 t138 t139 _ ?side1 ?side2 A40.out).mono ?_
                  (case side1=>repeat(first|exact(Kd.V_reads' HO_129008.out).2.2|(with_reducible refine Kd.C_alloc ?_ _)|(with_reducible refine Kd.C_drewN ?_ _)|(with_reducible refine Kd.C_drew ?_)))
                  (case side2=>exact(Kd.V_reads' HO_129008.out).2.1)
                  rintro e w47 ⟨rfl,hb⟩
                  refine⟨_,rfl,?_⟩
                  have n0_:=zm (Kd.V_below (by(with_reducible repeat(first|apply Kd.V_alloc|apply Kd.V_drewN|apply Kd.V_drew));exact HO_129008.out) hb)
                  have n1_:=zm (Kd.V_below (by(with_reducible repeat(first|apply Kd.V_alloc|apply Kd.V_drewN|apply Kd.V_drew));exact HO_130008.out) hb)
                  have n2_:=zm (zb (g:=gb128) (by(with_reducible repeat first|apply zd|apply ze|apply za);exact BK128.out) hb)
                  have n3_:=zm (zb (g:=gb129) (by(with_reducible repeat first|apply zd|apply ze|apply za);exact BK129.out) hb)
                  have n4_:=zm (zb (g:=gb142) (by(with_reducible repeat first|apply zd|apply ze|apply za);exact BK142.out) hb)
                  have n5_:=zm (zb (g:=gb143) (by(with_reducible repeat first|apply zd|apply ze|apply za);exact BK143.out) hb)
                  have n6_:=zm (below_step (by repeat(first|(with_reducible first|exact HB.out|apply zA|apply zD|apply zE|refine zS ?_ GE128.out|refine zS ?_ GE129.out|refine zS ?_ GE142.out|refine zS ?_ GE143.out)|exact HB.out)) hb)
                  clear HO_129008 HO_130008 BK128 BK129 BK142 BK143 HB
                  have HO_129008:=n0_
                  have HO_130008:=n1_
                  have BK128:=n2_
                  have BK129:=n3_
                  have BK142:=n4_
                  have BK143:=n5_
                  have HB:=n6_
                  clear n0_ n1_ n2_ n3_ n4_ n5_ n6_
                  (try clear hb)
                  (try clear hb2)
                  (try clear hk)
                  (try clear hi)
                  refine hK.out _ _ ⟨(blk_cell BK128.out 0).trans rfl,(blk_cell BK128.out 1).trans rfl,(blk_cell BK128.out 2).trans rfl,(blk_cell BK128.out 3).trans rfl,(blk_cell BK128.out 4).trans rfl,(blk_cell BK128.out 5).trans rfl,(blk_cell BK128.out 6).trans rfl,(blk_cell BK128.out 7).trans rfl,(blk_cell BK128.out 8).trans rfl,(blk_cell BK129.out 0).trans rfl,(blk_cell BK129.out 1).trans rfl,(blk_cell BK129.out 2).trans rfl,(blk_cell BK129.out 3).trans rfl,(blk_cell BK129.out 4).trans rfl,(blk_cell BK129.out 5).trans rfl,(blk_cell BK129.out 6).trans rfl,(blk_cell BK129.out 7).trans rfl,(blk_cell BK129.out 8).trans rfl⟩ (fun hHeld=>?_)
                  clear hK K
                  refine norm_ (a':=?_) ?_ ?_
                  rotate_left
                  ·show Act.put _ (some 41) _=_
                   simp only[Act.put,zx,zy,zz,i64_w,i32_w]
                   rfl
                  exact norm_ (by first|(simp only[putAll,Act.put,zx,zy,zz];done)|(simp only[putAll,Act.put,zx,zy,zz];rfl)) (hJ2_6_7 (gb142,gb143) _ ⟨hHeld,(by(with_reducible repeat(first|apply Kd.V_alloc|apply Kd.V_drewN|apply Kd.V_drew));exact HO_129008.out),(by(with_reducible repeat(first|apply Kd.V_alloc|apply Kd.V_drewN|apply Kd.V_drew));exact HO_130008.out),(by(with_reducible repeat first|apply zd|apply ze|apply za);exact BK128.out),(by(with_reducible repeat first|apply zd|apply ze|apply za);exact BK129.out),(by(with_reducible repeat first|apply zd|apply ze|apply za);exact BK142.out),(by(with_reducible repeat first|apply zd|apply ze|apply za);exact BK143.out),GW142.out,GE142.out,NB128_142.out,NB142_128.out,NB129_142.out,NB142_129.out,NB143_142.out,NB142_143.out,GW143.out,GE143.out,NB128_143.out,NB143_128.out,NB129_143.out,NB143_129.out,(by repeat(first|(with_reducible first|exact HB.out|apply zA|apply zD|apply zE|refine zS ?_ GE128.out|refine zS ?_ GE129.out|refine zS ?_ GE142.out|refine zS ?_ GE143.out)|exact HB.out))⟩)
                ·skip
                 rintro gb143 w46 ⟨hS_,h0_,h1_,h2_,h3_,h4_,h5_,h6_,h7_,h8_,h9_,h10_,h11_⟩
                 have n0_:Aside0 (Kd.V k104 104 w46 w.heap.size (fun k_=>((P0_8_ k_∨P1_8_ k_)∨w.heap.size≤k_)∧k_≠gb128∧k_≠gb129∧k_≠gb143) (.slice A0_8 l0_8.length c0_8) l0_8):=⟨h0_⟩
                 have n1_:Aside0 (Kd.V k104 104 w46 w.heap.size (fun k_=>((P0_8_ k_∨P1_8_ k_)∨w.heap.size≤k_)∧k_≠gb128∧k_≠gb129∧k_≠gb143) (.slice A1_8 l1_8.length c1_8) l1_8):=⟨h1_⟩
                 have n2_:Aside0 (w46.heap[gb128]?=some (.cells #[.string a0_0,.int .i64 a0_1,.int .i64 a0_2,.int .i64 a0_3,.int .i64 a0_4,.int .i64 a0_5,.int .i64 a0_6,.int .i64 a0_7,.slice A0_8 l0_8.length c0_8] 28 (0,0))):=⟨h2_⟩
                 have n3_:Aside0 (w46.heap[gb129]?=some (.cells #[.string a1_0,.int .i64 a1_1,.int .i64 a1_2,.int .i64 a1_3,.int .i64 a1_4,.int .i64 a1_5,.int .i64 a1_6,.int .i64 a1_7,.slice A1_8 l1_8.length c1_8] 28 (0,0))):=⟨h3_⟩
                 have n4_:Aside0 (w46.heap[gb143]?=some (.cells #[.int .i64 0,.int .i64 0] 25 (0,0))):=⟨h4_⟩
                 have n5_:Aside0 (w.heap.size≤gb143):=⟨h5_⟩
                 have n6_:Aside0 (w.heap.size≤gb143):=⟨h6_⟩
                 have n7_:Aside0 (gb128≠gb143):=⟨h7_⟩
                 have n8_:Aside0 (gb143≠gb128):=⟨h8_⟩
                 have n9_:Aside0 (gb129≠gb143):=⟨h9_⟩
                 have n10_:Aside0 (gb143≠gb129):=⟨h10_⟩
                 have n11_:Aside0 (Below w.heap.size w w46):=⟨h11_⟩
                 clear HO_129008 HO_130008 BK128 BK129 HB h0_ h1_ h2_ h3_ h4_ h5_ h6_ h7_ h8_ h9_ h10_ h11_
                 have HO_129008:=n0_
                 have HO_130008:=n1_
                 have BK128:=n2_
                 have BK129:=n3_
                 have BK143:=n4_
                 have GW143:=n5_
                 have GE143:=n6_
                 have NB128_143:=n7_
                 have NB143_128:=n8_
                 have NB129_143:=n9_
                 have NB143_129:=n10_
                 have HB:=n11_
                 clear n0_ n1_ n2_ n3_ n4_ n5_ n6_ n7_ n8_ n9_ n10_ n11_
                 have hHeld:w46.cell? ⟨gb128,0,none⟩=some (.string a0_0)∧w46.cell? ⟨gb128,1,none⟩=some (.int .i64 a0_1)∧w46.cell? ⟨gb128,2,none⟩=some (.int .i64 a0_2)∧w46.cell? ⟨gb128,3,none⟩=some (.int .i64 a0_3)∧w46.cell? ⟨gb128,4,none⟩=some (.int .i64 a0_4)∧w46.cell? ⟨gb128,5,none⟩=some (.int .i64 a0_5)∧w46.cell? ⟨gb128,6,none⟩=some (.int .i64 a0_6)∧w46.cell? ⟨gb128,7,none⟩=some (.int .i64 a0_7)∧w46.cell? ⟨gb128,8,none⟩=some (.slice A0_8 l0_8.length c0_8)∧w46.cell? ⟨gb129,0,none⟩=some (.string a1_0)∧w46.cell? ⟨gb129,1,none⟩=some (.int .i64 a1_1)∧w46.cell? ⟨gb129,2,none⟩=some (.int .i64 a1_2)∧w46.cell? ⟨gb129,3,none⟩=some (.int .i64 a1_3)∧w46.cell? ⟨gb129,4,none⟩=some (.int .i64 a1_4)∧w46.cell? ⟨gb129,5,none⟩=some (.int .i64 a1_5)∧w46.cell? ⟨gb129,6,none⟩=some (.int .i64 a1_6)∧w46.cell? ⟨gb129,7,none⟩=some (.int .i64 a1_7)∧w46.cell? ⟨gb129,8,none⟩=some (.slice A1_8 l1_8.length c1_8):=hS_
                 refine norm_ (a':=?_) ?_ ?_
                 rotate_left
                 ·simp only[putAll,Act.put,zx,zy,zz]
                  rfl
                 refine two_ (i:=5) (j:=6) (Ni:=some 44) (Nj:=some 10) #[true,true,true,true,true,true,false,true,false,false] #[true,true,true,true,true,false,true,true,false,false] rfl rfl rfl rfl (two_of HT_.out (by kernel_rfl)) (by decide) (by decide) (fun K hK=>?_) (fun K hK=>?_)
                 ·skip
                  refine goes_ Try.func70 (by kernel_rfl) rfl #[.agg #[.string a1_0,.int .i64 a1_1,.int .i64 a1_2,.int .i64 a1_3,.int .i64 a1_4,.int .i64 a1_5,.int .i64 a1_6,.int .i64 a1_7,.slice A1_8 l1_8.length c1_8],.int .i64 x26_2] (by rfl) rfl rfl (by(try simp only[List.map_toArray,List.map_cons,List.map_nil]);first|done|rfl|(simp only[List.length_drop,List.length_take];rfl)) ?_
                  with_reducible refine(fe_reach.calls a1_0 a1_1 a1_2 a1_3 a1_4 a1_5 a1_6 a1_7 _ _ l1_8 x26_2 t140 t141 _ ?side1 ?side2 A41.out).mono ?_
                  (case side1=>repeat(first|exact(Kd.V_reads' HO_130008.out).2.2|(with_reducible refine Kd.C_alloc ?_ _)|(with_reducible refine Kd.C_drewN ?_ _)|(with_reducible refine Kd.C_drew ?_)))
                  (case side2=>exact(Kd.V_reads' HO_130008.out).2.1)
                  rintro e w47 ⟨rfl,hb⟩
                  refine⟨_,rfl,?_⟩
                  have n0_:=zm (Kd.V_below (by(with_reducible repeat(first|apply Kd.V_alloc|apply Kd.V_drewN|apply Kd.V_drew));exact HO_129008.out) hb)
                  have n1_:=zm (Kd.V_below (by(with_reducible repeat(first|apply Kd.V_alloc|apply Kd.V_drewN|apply Kd.V_drew));exact HO_130008.out) hb)
                  have n2_:=zm (zb (g:=gb128) (by(with_reducible repeat first|apply zd|apply ze|apply za);exact BK128.out) hb)
                  have n3_:=zm (zb (g:=gb129) (by(with_reducible repeat first|apply zd|apply ze|apply za);exact BK129.out) hb)
                  have n4_:=zm (zb (g:=gb143) (by(with_reducible repeat first|apply zd|apply ze|apply za);exact BK143.out) hb)
                  have n5_:=zm (below_step (by repeat(first|(with_reducible first|exact HB.out|apply zA|apply zD|apply zE|refine zS ?_ GE128.out|refine zS ?_ GE129.out|refine zS ?_ GE143.out)|exact HB.out)) hb)
                  clear HO_129008 HO_130008 BK128 BK129 BK143 HB
                  have HO_129008:=n0_
                  have HO_130008:=n1_
                  have BK128:=n2_
                  have BK129:=n3_
                  have BK143:=n4_
                  have HB:=n5_
                  clear n0_ n1_ n2_ n3_ n4_ n5_
                  (try clear hb)
                  (try clear hb2)
                  (try clear hk)
                  (try clear hi)
                  refine hK.out _ _ ⟨(blk_cell BK128.out 0).trans rfl,(blk_cell BK128.out 1).trans rfl,(blk_cell BK128.out 2).trans rfl,(blk_cell BK128.out 3).trans rfl,(blk_cell BK128.out 4).trans rfl,(blk_cell BK128.out 5).trans rfl,(blk_cell BK128.out 6).trans rfl,(blk_cell BK128.out 7).trans rfl,(blk_cell BK128.out 8).trans rfl,(blk_cell BK129.out 0).trans rfl,(blk_cell BK129.out 1).trans rfl,(blk_cell BK129.out 2).trans rfl,(blk_cell BK129.out 3).trans rfl,(blk_cell BK129.out 4).trans rfl,(blk_cell BK129.out 5).trans rfl,(blk_cell BK129.out 6).trans rfl,(blk_cell BK129.out 7).trans rfl,(blk_cell BK129.out 8).trans rfl⟩ (fun hHeld=>?_)
                  clear hK K
                  refine norm_ (a':=?_) ?_ ?_
                  rotate_left
                  ·show Act.put _ (some 44) _=_
                   simp only[Act.put,zx,zy,zz,i64_w,i32_w]
                   rfl
                  exact norm_ (by first|(simp only[putAll,Act.put,zx,zy,zz];done)|(simp only[putAll,Act.put,zx,zy,zz];rfl)) (hJ2_5_7 (gb143) _ ⟨hHeld,(by(with_reducible repeat(first|apply Kd.V_alloc|apply Kd.V_drewN|apply Kd.V_drew));exact HO_129008.out),(by(with_reducible repeat(first|apply Kd.V_alloc|apply Kd.V_drewN|apply Kd.V_drew));exact HO_130008.out),(by(with_reducible repeat first|apply zd|apply ze|apply za);exact BK128.out),(by(with_reducible repeat first|apply zd|apply ze|apply za);exact BK129.out),(by(with_reducible repeat first|apply zd|apply ze|apply za);exact BK143.out),GW143.out,GE143.out,NB128_143.out,NB143_128.out,NB129_143.out,NB143_129.out,(by repeat(first|(with_reducible first|exact HB.out|apply zA|apply zD|apply zE|refine zS ?_ GE128.out|refine zS ?_ GE129.out|refine zS ?_ GE143.out)|exact HB.out))⟩)
                 ·skip
                  refine box_step ?hg (N:=10) ?hd (cs:=#[.int .i64 0,.int .i64 0]) (t:=25) ?hr ?_;(case hd=>rfl);(case hg=>rfl);(case hr=>first|(go_simp;done)|(go_simp;rfl))
                  intro gb142 hg w47 hbox hb
                  have n0_:=zm (Kd.V_below (Kd.V_elderB (by(with_reducible repeat(first|apply Kd.V_alloc|apply Kd.V_drewN|apply Kd.V_drew));exact HO_129008.out) gb142 (Nat.le_of_eq hg.symm)) hb)
                  have n1_:=zm (Kd.V_below (Kd.V_elderB (by(with_reducible repeat(first|apply Kd.V_alloc|apply Kd.V_drewN|apply Kd.V_drew));exact HO_130008.out) gb142 (Nat.le_of_eq hg.symm)) hb)
                  have n2_:=zm (zb (g:=gb128) (by(with_reducible repeat first|apply zd|apply ze|apply za);exact BK128.out) hb)
                  have n3_:=zm (zb (g:=gb129) (by(with_reducible repeat first|apply zd|apply ze|apply za);exact BK129.out) hb)
                  have n4_:=zm (zb (g:=gb143) (by(with_reducible repeat first|apply zd|apply ze|apply za);exact BK143.out) hb)
                  have n5_:=zm (below_step (by repeat(first|(with_reducible first|exact HB.out|apply zA|apply zD|apply zE|refine zS ?_ GE128.out|refine zS ?_ GE129.out|refine zS ?_ GE143.out)|exact HB.out)) hb)
                  have n6_:=zm (hbox)
                  have n7_:=zm ((by rw[hg];exact(below_size (by repeat(first|(with_reducible first|exact HB.out|apply zA|apply zD|apply zE|refine zS ?_ GE128.out|refine zS ?_ GE129.out|refine zS ?_ GE143.out)|exact HB.out))):w.heap.size≤gb142))
                  have n8_:=zm ((by rw[hg];exact(below_size (by repeat(first|(with_reducible first|exact HB.out|apply zA|apply zD|apply zE|refine zS ?_ GE128.out|refine zS ?_ GE129.out|refine zS ?_ GE143.out)|exact HB.out))):w.heap.size≤gb142))
                  have n9_:=zm ((by rw[hg];exact Nat.ne_of_lt (blk_lt (g:=gb128) (by(with_reducible repeat first|apply zd|apply ze|apply za);exact BK128.out)):gb128≠gb142))
                  have n10_:=zm ((by rw[hg];exact Nat.ne_of_gt (blk_lt (g:=gb128) (by(with_reducible repeat first|apply zd|apply ze|apply za);exact BK128.out)):gb142≠gb128))
                  have n11_:=zm ((by rw[hg];exact Nat.ne_of_lt (blk_lt (g:=gb129) (by(with_reducible repeat first|apply zd|apply ze|apply za);exact BK129.out)):gb129≠gb142))
                  have n12_:=zm ((by rw[hg];exact Nat.ne_of_gt (blk_lt (g:=gb129) (by(with_reducible repeat first|apply zd|apply ze|apply za);exact BK129.out)):gb142≠gb129))
                  have n13_:=zm ((by rw[hg];exact Nat.ne_of_lt (blk_lt (g:=gb143) (by(with_reducible repeat first|apply zd|apply ze|apply za);exact BK143.out)):gb143≠gb142))
                  have n14_:=zm ((by rw[hg];exact Nat.ne_of_gt (blk_lt (g:=gb143) (by(with_reducible repeat first|apply zd|apply ze|apply za);exact BK143.out)):gb142≠gb143))
                  clear HO_129008 HO_130008 BK128 BK129 BK143 HB
                  have HO_129008:=n0_
                  have HO_130008:=n1_
                  have BK128:=n2_
                  have BK129:=n3_
                  have BK143:=n4_
                  have HB:=n5_
                  have BK142:=n6_
                  have GW142:=n7_
                  have GE142:=n8_
                  have NB128_142:=n9_
                  have NB142_128:=n10_
                  have NB129_142:=n11_
                  have NB142_129:=n12_
                  have NB143_142:=n13_
                  have NB142_143:=n14_
                  clear n0_ n1_ n2_ n3_ n4_ n5_ n6_ n7_ n8_ n9_ n10_ n11_ n12_ n13_ n14_ hb hbox hg
                  refine hK.out _ _ ⟨(blk_cell BK128.out 0).trans rfl,(blk_cell BK128.out 1).trans rfl,(blk_cell BK128.out 2).trans rfl,(blk_cell BK128.out 3).trans rfl,(blk_cell BK128.out 4).trans rfl,(blk_cell BK128.out 5).trans rfl,(blk_cell BK128.out 6).trans rfl,(blk_cell BK128.out 7).trans rfl,(blk_cell BK128.out 8).trans rfl,(blk_cell BK129.out 0).trans rfl,(blk_cell BK129.out 1).trans rfl,(blk_cell BK129.out 2).trans rfl,(blk_cell BK129.out 3).trans rfl,(blk_cell BK129.out 4).trans rfl,(blk_cell BK129.out 5).trans rfl,(blk_cell BK129.out 6).trans rfl,(blk_cell BK129.out 7).trans rfl,(blk_cell BK129.out 8).trans rfl⟩ (fun hHeld=>?_)
                  clear hK K
                  refine norm_ (a':=?_) ?_ ?_
                  rotate_left
                  ·show Act.put _ (some 10) _=_
                   simp only[Act.put,zx,zy,zz,i64_w,i32_w]
                   rfl
                  exact norm_ (by first|(simp only[putAll,Act.put,zx,zy,zz];done)|(simp only[putAll,Act.put,zx,zy,zz];rfl)) (hJ2_6_7 (gb142,gb143) _ ⟨hHeld,(by(with_reducible repeat(first|apply Kd.V_alloc|apply Kd.V_drewN|apply Kd.V_drew));exact Kd.V_mono HO_129008.out (fun _ hk=>⟨hk.1.1,⟨hk.1.2.1,⟨hk.1.2.2.1,⟨hk.2,hk.1.2.2.2⟩⟩⟩⟩)),(by(with_reducible repeat(first|apply Kd.V_alloc|apply Kd.V_drewN|apply Kd.V_drew));exact Kd.V_mono HO_130008.out (fun _ hk=>⟨hk.1.1,⟨hk.1.2.1,⟨hk.1.2.2.1,⟨hk.2,hk.1.2.2.2⟩⟩⟩⟩)),(by(with_reducible repeat first|apply zd|apply ze|apply za);exact BK128.out),(by(with_reducible repeat first|apply zd|apply ze|apply za);exact BK129.out),(by(with_reducible repeat first|apply zd|apply ze|apply za);exact BK142.out),(by(with_reducible repeat first|apply zd|apply ze|apply za);exact BK143.out),GW142.out,GE142.out,NB128_142.out,NB142_128.out,NB129_142.out,NB142_129.out,NB143_142.out,NB142_143.out,GW143.out,GE143.out,NB128_143.out,NB143_128.out,NB129_143.out,NB143_129.out,(by repeat(first|(with_reducible first|exact HB.out|apply zA|apply zD|apply zE|refine zS ?_ GE128.out|refine zS ?_ GE129.out|refine zS ?_ GE143.out|refine zS ?_ GE142.out)|exact HB.out))⟩)
               ·skip
                rintro gb142 w46 ⟨hS_,h0_,h1_,h2_,h3_,h4_,h5_,h6_,h7_,h8_,h9_,h10_,h11_⟩
                have n0_:Aside0 (Kd.V k104 104 w46 w.heap.size (fun k_=>((P0_8_ k_∨P1_8_ k_)∨w.heap.size≤k_)∧k_≠gb128∧k_≠gb129∧k_≠gb142) (.slice A0_8 l0_8.length c0_8) l0_8):=⟨h0_⟩
                have n1_:Aside0 (Kd.V k104 104 w46 w.heap.size (fun k_=>((P0_8_ k_∨P1_8_ k_)∨w.heap.size≤k_)∧k_≠gb128∧k_≠gb129∧k_≠gb142) (.slice A1_8 l1_8.length c1_8) l1_8):=⟨h1_⟩
                have n2_:Aside0 (w46.heap[gb128]?=some (.cells #[.string a0_0,.int .i64 a0_1,.int .i64 a0_2,.int .i64 a0_3,.int .i64 a0_4,.int .i64 a0_5,.int .i64 a0_6,.int .i64 a0_7,.slice A0_8 l0_8.length c0_8] 28 (0,0))):=⟨h2_⟩
                have n3_:Aside0 (w46.heap[gb129]?=some (.cells #[.string a1_0,.int .i64 a1_1,.int .i64 a1_2,.int .i64 a1_3,.int .i64 a1_4,.int .i64 a1_5,.int .i64 a1_6,.int .i64 a1_7,.slice A1_8 l1_8.length c1_8] 28 (0,0))):=⟨h3_⟩
                have n4_:Aside0 (w46.heap[gb142]?=some (.cells #[.int .i64 0,.int .i64 0] 25 (0,0))):=⟨h4_⟩
                have n5_:Aside0 (w.heap.size≤gb142):=⟨h5_⟩
                have n6_:Aside0 (w.heap.size≤gb142):=⟨h6_⟩
                have n7_:Aside0 (gb128≠gb142):=⟨h7_⟩
                have n8_:Aside0 (gb142≠gb128):=⟨h8_⟩
                have n9_:Aside0 (gb129≠gb142):=⟨h9_⟩
                have n10_:Aside0 (gb142≠gb129):=⟨h10_⟩
                have n11_:Aside0 (Below w.heap.size w w46):=⟨h11_⟩
                clear HO_129008 HO_130008 BK128 BK129 HB h0_ h1_ h2_ h3_ h4_ h5_ h6_ h7_ h8_ h9_ h10_ h11_
                have HO_129008:=n0_
                have HO_130008:=n1_
                have BK128:=n2_
                have BK129:=n3_
                have BK142:=n4_
                have GW142:=n5_
                have GE142:=n6_
                have NB128_142:=n7_
                have NB142_128:=n8_
                have NB129_142:=n9_
                have NB142_129:=n10_
                have HB:=n11_
                clear n0_ n1_ n2_ n3_ n4_ n5_ n6_ n7_ n8_ n9_ n10_ n11_
                have hHeld:w46.cell? ⟨gb128,0,none⟩=some (.string a0_0)∧w46.cell? ⟨gb128,1,none⟩=some (.int .i64 a0_1)∧w46.cell? ⟨gb128,2,none⟩=some (.int .i64 a0_2)∧w46.cell? ⟨gb128,3,none⟩=some (.int .i64 a0_3)∧w46.cell? ⟨gb128,4,none⟩=some (.int .i64 a0_4)∧w46.cell? ⟨gb128,5,none⟩=some (.int .i64 a0_5)∧w46.cell? ⟨gb128,6,none⟩=some (.int .i64 a0_6)∧w46.cell? ⟨gb128,7,none⟩=some (.int .i64 a0_7)∧w46.cell? ⟨gb128,8,none⟩=some (.slice A0_8 l0_8.length c0_8)∧w46.cell? ⟨gb129,0,none⟩=some (.string a1_0)∧w46.cell? ⟨gb129,1,none⟩=some (.int .i64 a1_1)∧w46.cell? ⟨gb129,2,none⟩=some (.int .i64 a1_2)∧w46.cell? ⟨gb129,3,none⟩=some (.int .i64 a1_3)∧w46.cell? ⟨gb129,4,none⟩=some (.int .i64 a1_4)∧w46.cell? ⟨gb129,5,none⟩=some (.int .i64 a1_5)∧w46.cell? ⟨gb129,6,none⟩=some (.int .i64 a1_6)∧w46.cell? ⟨gb129,7,none⟩=some (.int .i64 a1_7)∧w46.cell? ⟨gb129,8,none⟩=some (.slice A1_8 l1_8.length c1_8):=hS_
                refine norm_ (a':=?_) ?_ ?_
                rotate_left
                ·simp only[putAll,Act.put,zx,zy,zz]
                 rfl
                refine two_ (i:=5) (j:=7) (Ni:=some 44) (Nj:=some 11) #[true,true,true,true,true,true,true,false,false,false] #[true,true,true,true,true,false,true,true,false,false] rfl rfl rfl rfl (two_of HT_.out (by kernel_rfl)) (by decide) (by decide) (fun K hK=>?_) (fun K hK=>?_)
                ·skip
                 refine goes_ Try.func70 (by kernel_rfl) rfl #[.agg #[.string a1_0,.int .i64 a1_1,.int .i64 a1_2,.int .i64 a1_3,.int .i64 a1_4,.int .i64 a1_5,.int .i64 a1_6,.int .i64 a1_7,.slice A1_8 l1_8.length c1_8],.int .i64 x26_2] (by rfl) rfl rfl (by(try simp only[List.map_toArray,List.map_cons,List.map_nil]);first|done|rfl|(simp only[List.length_drop,List.length_take];rfl)) ?_
                 with_reducible refine(fe_reach.calls a1_0 a1_1 a1_2 a1_3 a1_4 a1_5 a1_6 a1_7 _ _ l1_8 x26_2 t140 t141 _ ?side1 ?side2 A41.out).mono ?_
                 (case side1=>repeat(first|exact(Kd.V_reads' HO_130008.out).2.2|(with_reducible refine Kd.C_alloc ?_ _)|(with_reducible refine Kd.C_drewN ?_ _)|(with_reducible refine Kd.C_drew ?_)))
                 (case side2=>exact(Kd.V_reads' HO_130008.out).2.1)
                 rintro e w47 ⟨rfl,hb⟩
                 refine⟨_,rfl,?_⟩
                 have n0_:=zm (Kd.V_below (by(with_reducible repeat(first|apply Kd.V_alloc|apply Kd.V_drewN|apply Kd.V_drew));exact HO_129008.out) hb)
                 have n1_:=zm (Kd.V_below (by(with_reducible repeat(first|apply Kd.V_alloc|apply Kd.V_drewN|apply Kd.V_drew));exact HO_130008.out) hb)
                 have n2_:=zm (zb (g:=gb128) (by(with_reducible repeat first|apply zd|apply ze|apply za);exact BK128.out) hb)
                 have n3_:=zm (zb (g:=gb129) (by(with_reducible repeat first|apply zd|apply ze|apply za);exact BK129.out) hb)
                 have n4_:=zm (zb (g:=gb142) (by(with_reducible repeat first|apply zd|apply ze|apply za);exact BK142.out) hb)
                 have n5_:=zm (below_step (by repeat(first|(with_reducible first|exact HB.out|apply zA|apply zD|apply zE|refine zS ?_ GE128.out|refine zS ?_ GE129.out|refine zS ?_ GE142.out)|exact HB.out)) hb)
                 clear HO_129008 HO_130008 BK128 BK129 BK142 HB
                 have HO_129008:=n0_
                 have HO_130008:=n1_
                 have BK128:=n2_
                 have BK129:=n3_
                 have BK142:=n4_
                 have HB:=n5_
                 clear n0_ n1_ n2_ n3_ n4_ n5_
                 (try clear hb)
                 (try clear hb2)
                 (try clear hk)
                 (try clear hi)
                 refine hK.out _ _ ⟨(blk_cell BK128.out 0).trans rfl,(blk_cell BK128.out 1).trans rfl,(blk_cell BK128.out 2).trans rfl,(blk_cell BK128.out 3).trans rfl,(blk_cell BK128.out 4).trans rfl,(blk_cell BK128.out 5).trans rfl,(blk_cell BK128.out 6).trans rfl,(blk_cell BK128.out 7).trans rfl,(blk_cell BK128.out 8).trans rfl,(blk_cell BK129.out 0).trans rfl,(blk_cell BK129.out 1).trans rfl,(blk_cell BK129.out 2).trans rfl,(blk_cell BK129.out 3).trans rfl,(blk_cell BK129.out 4).trans rfl,(blk_cell BK129.out 5).trans rfl,(blk_cell BK129.out 6).trans rfl,(blk_cell BK129.out 7).trans rfl,(blk_cell BK129.out 8).trans rfl⟩ (fun hHeld=>?_)
                 clear hK K
                 refine norm_ (a':=?_) ?_ ?_
                 rotate_left
                 ·show Act.put _ (some 44) _=_
                  simp only[Act.put,zx,zy,zz,i64_w,i32_w]
                  rfl
                 exact norm_ (by first|(simp only[putAll,Act.put,zx,zy,zz];done)|(simp only[putAll,Act.put,zx,zy,zz];rfl)) (hJ2_5_6 (gb142) _ ⟨hHeld,(by(with_reducible repeat(first|apply Kd.V_alloc|apply Kd.V_drewN|apply Kd.V_drew));exact HO_129008.out),(by(with_reducible repeat(first|apply Kd.V_alloc|apply Kd.V_drewN|apply Kd.V_drew));exact HO_130008.out),(by(with_reducible repeat first|apply zd|apply ze|apply za);exact BK128.out),(by(with_reducible repeat first|apply zd|apply ze|apply za);exact BK129.out),(by(with_reducible repeat first|apply zd|apply ze|apply za);exact BK142.out),GW142.out,GE142.out,NB128_142.out,NB142_128.out,NB129_142.out,NB142_129.out,(by repeat(first|(with_reducible first|exact HB.out|apply zA|apply zD|apply zE|refine zS ?_ GE128.out|refine zS ?_ GE129.out|refine zS ?_ GE142.out)|exact HB.out))⟩)
                ·skip
                 refine box_step ?hg (N:=11) ?hd (cs:=#[.int .i64 0,.int .i64 0]) (t:=25) ?hr ?_;(case hd=>rfl);(case hg=>rfl);(case hr=>first|(go_simp;done)|(go_simp;rfl))
                 intro gb143 hg w47 hbox hb
                 have n0_:=zm (Kd.V_below (Kd.V_elderB (by(with_reducible repeat(first|apply Kd.V_alloc|apply Kd.V_drewN|apply Kd.V_drew));exact HO_129008.out) gb143 (Nat.le_of_eq hg.symm)) hb)
                 have n1_:=zm (Kd.V_below (Kd.V_elderB (by(with_reducible repeat(first|apply Kd.V_alloc|apply Kd.V_drewN|apply Kd.V_drew));exact HO_130008.out) gb143 (Nat.le_of_eq hg.symm)) hb)
                 have n2_:=zm (zb (g:=gb128) (by(with_reducible repeat first|apply zd|apply ze|apply za);exact BK128.out) hb)
                 have n3_:=zm (zb (g:=gb129) (by(with_reducible repeat first|apply zd|apply ze|apply za);exact BK129.out) hb)
                 have n4_:=zm (zb (g:=gb142) (by(with_reducible repeat first|apply zd|apply ze|apply za);exact BK142.out) hb)
                 have n5_:=zm (below_step (by repeat(first|(with_reducible first|exact HB.out|apply zA|apply zD|apply zE|refine zS ?_ GE128.out|refine zS ?_ GE129.out|refine zS ?_ GE142.out)|exact HB.out)) hb)
                 have n6_:=zm (hbox)
                 have n7_:=zm ((by rw[hg];exact(below_size (by repeat(first|(with_reducible first|exact HB.out|apply zA|apply zD|apply zE|refine zS ?_ GE128.out|refine zS ?_ GE129.out|refine zS ?_ GE142.out)|exact HB.out))):w.heap.size≤gb143))
                 have n8_:=zm ((by rw[hg];exact(below_size (by repeat(first|(with_reducible first|exact HB.out|apply zA|apply zD|apply zE|refine zS ?_ GE128.out|refine zS ?_ GE129.out|refine zS ?_ GE142.out)|exact HB.out))):w.heap.size≤gb143))
                 have n9_:=zm ((by rw[hg];exact Nat.ne_of_lt (blk_lt (g:=gb128) (by(with_reducible repeat first|apply zd|apply ze|apply za);exact BK128.out)):gb128≠gb143))
                 have n10_:=zm ((by rw[hg];exact Nat.ne_of_gt (blk_lt (g:=gb128) (by(with_reducible repeat first|apply zd|apply ze|apply za);exact BK128.out)):gb143≠gb128))
                 have n11_:=zm ((by rw[hg];exact Nat.ne_of_lt (blk_lt (g:=gb129) (by(with_reducible repeat first|apply zd|apply ze|apply za);exact BK129.out)):gb129≠gb143))
                 have n12_:=zm ((by rw[hg];exact Nat.ne_of_gt (blk_lt (g:=gb129) (by(with_reducible repeat first|apply zd|apply ze|apply za);exact BK129.out)):gb143≠gb129))
                 have n13_:=zm ((by rw[hg];exact Nat.ne_of_lt (blk_lt (g:=gb142) (by(with_reducible repeat first|apply zd|apply ze|apply za);exact BK142.out)):gb142≠gb143))
                 have n14_:=zm ((by rw[hg];exact Nat.ne_of_gt (blk_lt (g:=gb142) (by(with_reducible repeat first|apply zd|apply ze|apply za);exact BK142.out)):gb143≠gb142))
                 clear HO_129008 HO_130008 BK128 BK129 BK142 HB
                 have HO_129008:=n0_
                 have HO_130008:=n1_
                 have BK128:=n2_
                 have BK129:=n3_
                 have BK142:=n4_
                 have HB:=n5_
                 have BK143:=n6_
                 have GW143:=n7_
                 have GE143:=n8_
                 have NB128_143:=n9_
                 have NB143_128:=n10_
                 have NB129_143:=n11_
                 have NB143_129:=n12_
                 have NB142_143:=n13_
                 have NB143_142:=n14_
                 clear n0_ n1_ n2_ n3_ n4_ n5_ n6_ n7_ n8_ n9_ n10_ n11_ n12_ n13_ n14_ hb hbox hg
                 refine hK.out _ _ ⟨(blk_cell BK128.out 0).trans rfl,(blk_cell BK128.out 1).trans rfl,(blk_cell BK128.out 2).trans rfl,(blk_cell BK128.out 3).trans rfl,(blk_cell BK128.out 4).trans rfl,(blk_cell BK128.out 5).trans rfl,(blk_cell BK128.out 6).trans rfl,(blk_cell BK128.out 7).trans rfl,(blk_cell BK128.out 8).trans rfl,(blk_cell BK129.out 0).trans rfl,(blk_cell BK129.out 1).trans rfl,(blk_cell BK129.out 2).trans rfl,(blk_cell BK129.out 3).trans rfl,(blk_cell BK129.out 4).trans rfl,(blk_cell BK129.out 5).trans rfl,(blk_cell BK129.out 6).trans rfl,(blk_cell BK129.out 7).trans rfl,(blk_cell BK129.out 8).trans rfl⟩ (fun hHeld=>?_)
                 clear hK K
                 refine norm_ (a':=?_) ?_ ?_
                 rotate_left
                 ·show Act.put _ (some 11) _=_
                  simp only[Act.put,zx,zy,zz,i64_w,i32_w]
                  rfl
                 exact norm_ (by first|(simp only[putAll,Act.put,zx,zy,zz];done)|(simp only[putAll,Act.put,zx,zy,zz];rfl)) (hJ2_6_7 (gb142,gb143) _ ⟨hHeld,(by(with_reducible repeat(first|apply Kd.V_alloc|apply Kd.V_drewN|apply Kd.V_drew));exact Kd.V_mono HO_129008.out (fun _ hk=>⟨hk.1.1,⟨hk.1.2.1,⟨hk.1.2.2.1,⟨hk.1.2.2.2,hk.2⟩⟩⟩⟩)),(by(with_reducible repeat(first|apply Kd.V_alloc|apply Kd.V_drewN|apply Kd.V_drew));exact Kd.V_mono HO_130008.out (fun _ hk=>⟨hk.1.1,⟨hk.1.2.1,⟨hk.1.2.2.1,⟨hk.1.2.2.2,hk.2⟩⟩⟩⟩)),(by(with_reducible repeat first|apply zd|apply ze|apply za);exact BK128.out),(by(with_reducible repeat first|apply zd|apply ze|apply za);exact BK129.out),(by(with_reducible repeat first|apply zd|apply ze|apply za);exact BK142.out),(by(with_reducible repeat first|apply zd|apply ze|apply za);exact BK143.out),GW142.out,GE142.out,NB128_142.out,NB142_128.out,NB129_142.out,NB142_129.out,NB143_142.out,NB142_143.out,GW143.out,GE143.out,NB128_143.out,NB143_128.out,NB129_143.out,NB143_129.out,(by repeat(first|(with_reducible first|exact HB.out|apply zA|apply zD|apply zE|refine zS ?_ GE128.out|refine zS ?_ GE129.out|refine zS ?_ GE142.out|refine zS ?_ GE143.out)|exact HB.out))⟩)
              ·skip
               rintro _ w46 ⟨hS_,h0_,h1_,h2_,h3_,h4_⟩
               have n0_:Aside0 (Kd.V k104 104 w46 w.heap.size (fun k_=>((P0_8_ k_∨P1_8_ k_)∨w.heap.size≤k_)∧k_≠gb128∧k_≠gb129) (.slice A0_8 l0_8.length c0_8) l0_8):=⟨h0_⟩
               have n1_:Aside0 (Kd.V k104 104 w46 w.heap.size (fun k_=>((P0_8_ k_∨P1_8_ k_)∨w.heap.size≤k_)∧k_≠gb128∧k_≠gb129) (.slice A1_8 l1_8.length c1_8) l1_8):=⟨h1_⟩
               have n2_:Aside0 (w46.heap[gb128]?=some (.cells #[.string a0_0,.int .i64 a0_1,.int .i64 a0_2,.int .i64 a0_3,.int .i64 a0_4,.int .i64 a0_5,.int .i64 a0_6,.int .i64 a0_7,.slice A0_8 l0_8.length c0_8] 28 (0,0))):=⟨h2_⟩
               have n3_:Aside0 (w46.heap[gb129]?=some (.cells #[.string a1_0,.int .i64 a1_1,.int .i64 a1_2,.int .i64 a1_3,.int .i64 a1_4,.int .i64 a1_5,.int .i64 a1_6,.int .i64 a1_7,.slice A1_8 l1_8.length c1_8] 28 (0,0))):=⟨h3_⟩
               have n4_:Aside0 (Below w.heap.size w w46):=⟨h4_⟩
               clear HO_129008 HO_130008 BK128 BK129 HB h0_ h1_ h2_ h3_ h4_
               have HO_129008:=n0_
               have HO_130008:=n1_
               have BK128:=n2_
               have BK129:=n3_
               have HB:=n4_
               clear n0_ n1_ n2_ n3_ n4_
               have hHeld:w46.cell? ⟨gb128,0,none⟩=some (.string a0_0)∧w46.cell? ⟨gb128,1,none⟩=some (.int .i64 a0_1)∧w46.cell? ⟨gb128,2,none⟩=some (.int .i64 a0_2)∧w46.cell? ⟨gb128,3,none⟩=some (.int .i64 a0_3)∧w46.cell? ⟨gb128,4,none⟩=some (.int .i64 a0_4)∧w46.cell? ⟨gb128,5,none⟩=some (.int .i64 a0_5)∧w46.cell? ⟨gb128,6,none⟩=some (.int .i64 a0_6)∧w46.cell? ⟨gb128,7,none⟩=some (.int .i64 a0_7)∧w46.cell? ⟨gb128,8,none⟩=some (.slice A0_8 l0_8.length c0_8)∧w46.cell? ⟨gb129,0,none⟩=some (.string a1_0)∧w46.cell? ⟨gb129,1,none⟩=some (.int .i64 a1_1)∧w46.cell? ⟨gb129,2,none⟩=some (.int .i64 a1_2)∧w46.cell? ⟨gb129,3,none⟩=some (.int .i64 a1_3)∧w46.cell? ⟨gb129,4,none⟩=some (.int .i64 a1_4)∧w46.cell? ⟨gb129,5,none⟩=some (.int .i64 a1_5)∧w46.cell? ⟨gb129,6,none⟩=some (.int .i64 a1_6)∧w46.cell? ⟨gb129,7,none⟩=some (.int .i64 a1_7)∧w46.cell? ⟨gb129,8,none⟩=some (.slice A1_8 l1_8.length c1_8):=hS_
               refine norm_ (a':=?_) ?_ ?_
               rotate_left
               ·simp only[putAll,Act.put,zx,zy,zz]
                rfl
               refine two_ (i:=6) (j:=7) (Ni:=some 10) (Nj:=some 11) #[true,true,true,true,true,true,true,false,false,false] #[true,true,true,true,true,true,false,true,false,false] rfl rfl rfl rfl (two_of HT_.out (by kernel_rfl)) (by decide) (by decide) (fun K hK=>?_) (fun K hK=>?_)
               ·skip
                refine box_step ?hg (N:=10) ?hd (cs:=#[.int .i64 0,.int .i64 0]) (t:=25) ?hr ?_;(case hd=>rfl);(case hg=>rfl);(case hr=>first|(go_simp;done)|(go_simp;rfl))
                intro gb142 hg w47 hbox hb
                have n0_:=zm (Kd.V_below (Kd.V_elderB (by(with_reducible repeat(first|apply Kd.V_alloc|apply Kd.V_drewN|apply Kd.V_drew));exact HO_129008.out) gb142 (Nat.le_of_eq hg.symm)) hb)
                have n1_:=zm (Kd.V_below (Kd.V_elderB (by(with_reducible repeat(first|apply Kd.V_alloc|apply Kd.V_drewN|apply Kd.V_drew));exact HO_130008.out) gb142 (Nat.le_of_eq hg.symm)) hb)
                have n2_:=zm (zb (g:=gb128) (by(with_reducible repeat first|apply zd|apply ze|apply za);exact BK128.out) hb)
                have n3_:=zm (zb (g:=gb129) (by(with_reducible repeat first|apply zd|apply ze|apply za);exact BK129.out) hb)
                have n4_:=zm (below_step (by repeat(first|(with_reducible first|exact HB.out|apply zA|apply zD|apply zE|refine zS ?_ GE128.out|refine zS ?_ GE129.out)|exact HB.out)) hb)
                have n5_:=zm (hbox)
                have n6_:=zm ((by rw[hg];exact(below_size (by repeat(first|(with_reducible first|exact HB.out|apply zA|apply zD|apply zE|refine zS ?_ GE128.out|refine zS ?_ GE129.out)|exact HB.out))):w.heap.size≤gb142))
                have n7_:=zm ((by rw[hg];exact(below_size (by repeat(first|(with_reducible first|exact HB.out|apply zA|apply zD|apply zE|refine zS ?_ GE128.out|refine zS ?_ GE129.out)|exact HB.out))):w.heap.size≤gb142))
                have n8_:=zm ((by rw[hg];exact Nat.ne_of_lt (blk_lt (g:=gb128) (by(with_reducible repeat first|apply zd|apply ze|apply za);exact BK128.out)):gb128≠gb142))
                have n9_:=zm ((by rw[hg];exact Nat.ne_of_gt (blk_lt (g:=gb128) (by(with_reducible repeat first|apply zd|apply ze|apply za);exact BK128.out)):gb142≠gb128))
                have n10_:=zm ((by rw[hg];exact Nat.ne_of_lt (blk_lt (g:=gb129) (by(with_reducible repeat first|apply zd|apply ze|apply za);exact BK129.out)):gb129≠gb142))
                have n11_:=zm ((by rw[hg];exact Nat.ne_of_gt (blk_lt (g:=gb129) (by(with_reducible repeat first|apply zd|apply ze|apply za);exact BK129.out)):gb142≠gb129))
                clear HO_129008 HO_130008 BK128 BK129 HB
                have HO_129008:=n0_
                have HO_130008:=n1_
                have BK128:=n2_
                have BK129:=n3_
                have HB:=n4_
                have BK142:=n5_
                have GW142:=n6_
                have GE142:=n7_
                have NB128_142:=n8_
                have NB142_128:=n9_
                have NB129_142:=n10_
                have NB142_129:=n11_
                clear n0_ n1_ n2_ n3_ n4_ n5_ n6_ n7_ n8_ n9_ n10_ n11_ hb hbox hg
                refine hK.out _ _ ⟨(blk_cell BK128.out 0).trans rfl,(blk_cell BK128.out 1).trans rfl,(blk_cell BK128.out 2).trans rfl,(blk_cell BK128.out 3).trans rfl,(blk_cell BK128.out 4).trans rfl,(blk_cell BK128.out 5).trans rfl,(blk_cell BK128.out 6).trans rfl,(blk_cell BK128.out 7).trans rfl,(blk_cell BK128.out 8).trans rfl,(blk_cell BK129.out 0).trans rfl,(blk_cell BK129.out 1).trans rfl,(blk_cell BK129.out 2).trans rfl,(blk_cell BK129.out 3).trans rfl,(blk_cell BK129.out 4).trans rfl,(blk_cell BK129.out 5).trans rfl,(blk_cell BK129.out 6).trans rfl,(blk_cell BK129.out 7).trans rfl,(blk_cell BK129.out 8).trans rfl⟩ (fun hHeld=>?_)
                clear hK K
                refine norm_ (a':=?_) ?_ ?_
                rotate_left
                ·show Act.put _ (some 10) _=_
                 simp only[Act.put,zx,zy,zz,i64_w,i32_w]
                 rfl
                exact norm_ (by first|(simp only[putAll,Act.put,zx,zy,zz];done)|(simp only[putAll,Act.put,zx,zy,zz];rfl)) (hJ2_5_6 (gb142) _ ⟨hHeld,(by(with_reducible repeat(first|apply Kd.V_alloc|apply Kd.V_drewN|apply Kd.V_drew));exact Kd.V_mono HO_129008.out (fun _ hk=>⟨hk.1.1,⟨hk.1.2.1,⟨hk.1.2.2,hk.2⟩⟩⟩)),(by(with_reducible repeat(first|apply Kd.V_alloc|apply Kd.V_drewN|apply Kd.V_drew));exact Kd.V_mono HO_130008.out (fun _ hk=>⟨hk.1.1,⟨hk.1.2.1,⟨hk.1.2.2,hk.2⟩⟩⟩)),(by(with_reducible repeat first|apply zd|apply ze|apply za);exact BK128.out),(by(with_reducible repeat first|apply zd|apply ze|apply za);exact BK129.out),(by(with_reducible repeat first|apply zd|apply ze|apply za);exact BK142.out),GW142.out,GE142.out,NB128_142.out,NB142_128.out,NB129_142.out,NB142_129.out,(by repeat(first|(with_reducible first|exact HB.out|apply zA|apply zD|apply zE|refine zS ?_ GE128.out|refine zS ?_ GE129.out|refine zS ?_ GE142.out)|exact HB.out))⟩)
               ·skip
                refine box_step ?hg (N:=11) ?hd (cs:=#[.int .i64 0,.int .i64 0]) (t:=25) ?hr ?_;(case hd=>rfl);(case hg=>rfl);(case hr=>first|(go_simp;done)|(go_simp;rfl))
                intro gb143 hg w47 hbox hb
                have n0_:=zm (Kd.V_below (Kd.V_elderB (by(with_reducible repeat(first|apply Kd.V_alloc|apply Kd.V_drewN|apply Kd.V_drew));exact HO_129008.out) gb143 (Nat.le_of_eq hg.symm)) hb)
                have n1_:=zm (Kd.V_below (Kd.V_elderB (by(with_reducible repeat(first|apply Kd.V_alloc|apply Kd.V_drewN|apply Kd.V_drew));exact HO_130008.out) gb143 (Nat.le_of_eq hg.symm)) hb)
                have n2_:=zm (zb (g:=gb128) (by(with_reducible repeat first|apply zd|apply ze|apply za);exact BK128.out) hb)
                have n3_:=zm (zb (g:=gb129) (by(with_reducible repeat first|apply zd|apply ze|apply za);exact BK129.out) hb)
                have n4_:=zm (below_step (by repeat(first|(with_reducible first|exact HB.out|apply zA|apply zD|apply zE|refine zS ?_ GE128.out|refine zS ?_ GE129.out)|exact HB.out)) hb)
                have n5_:=zm (hbox)
                have n6_:=zm ((by rw[hg];exact(below_size (by repeat(first|(with_reducible first|exact HB.out|apply zA|apply zD|apply zE|refine zS ?_ GE128.out|refine zS ?_ GE129.out)|exact HB.out))):w.heap.size≤gb143))
                have n7_:=zm ((by rw[hg];exact(below_size (by repeat(first|(with_reducible first|exact HB.out|apply zA|apply zD|apply zE|refine zS ?_ GE128.out|refine zS ?_ GE129.out)|exact HB.out))):w.heap.size≤gb143))
                have n8_:=zm ((by rw[hg];exact Nat.ne_of_lt (blk_lt (g:=gb128) (by(with_reducible repeat first|apply zd|apply ze|apply za);exact BK128.out)):gb128≠gb143))
                have n9_:=zm ((by rw[hg];exact Nat.ne_of_gt (blk_lt (g:=gb128) (by(with_reducible repeat first|apply zd|apply ze|apply za);exact BK128.out)):gb143≠gb128))
                have n10_:=zm ((by rw[hg];exact Nat.ne_of_lt (blk_lt (g:=gb129) (by(with_reducible repeat first|apply zd|apply ze|apply za);exact BK129.out)):gb129≠gb143))
                have n11_:=zm ((by rw[hg];exact Nat.ne_of_gt (blk_lt (g:=gb129) (by(with_reducible repeat first|apply zd|apply ze|apply za);exact BK129.out)):gb143≠gb129))
                clear HO_129008 HO_130008 BK128 BK129 HB
                have HO_129008:=n0_
                have HO_130008:=n1_
                have BK128:=n2_
                have BK129:=n3_
                have HB:=n4_
                have BK143:=n5_
                have GW143:=n6_
                have GE143:=n7_
                have NB128_143:=n8_
                have NB143_128:=n9_
                have NB129_143:=n10_
                have NB143_129:=n11_
                clear n0_ n1_ n2_ n3_ n4_ n5_ n6_ n7_ n8_ n9_ n10_ n11_ hb hbox hg
                refine hK.out _ _ ⟨(blk_cell BK128.out 0).trans rfl,(blk_cell BK128.out 1).trans rfl,(blk_cell BK128.out 2).trans rfl,(blk_cell BK128.out 3).trans rfl,(blk_cell BK128.out 4).trans rfl,(blk_cell BK128.out 5).trans rfl,(blk_cell BK128.out 6).trans rfl,(blk_cell BK128.out 7).trans rfl,(blk_cell BK128.out 8).trans rfl,(blk_cell BK129.out 0).trans rfl,(blk_cell BK129.out 1).trans rfl,(blk_cell BK129.out 2).trans rfl,(blk_cell BK129.out 3).trans rfl,(blk_cell BK129.out 4).trans rfl,(blk_cell BK129.out 5).trans rfl,(blk_cell BK129.out 6).trans rfl,(blk_cell BK129.out 7).trans rfl,(blk_cell BK129.out 8).trans rfl⟩ (fun hHeld=>?_)
                clear hK K
                refine norm_ (a':=?_) ?_ ?_
                rotate_left
                ·show Act.put _ (some 11) _=_
                 simp only[Act.put,zx,zy,zz,i64_w,i32_w]
                 rfl
                exact norm_ (by first|(simp only[putAll,Act.put,zx,zy,zz];done)|(simp only[putAll,Act.put,zx,zy,zz];rfl)) (hJ2_5_7 (gb143) _ ⟨hHeld,(by(with_reducible repeat(first|apply Kd.V_alloc|apply Kd.V_drewN|apply Kd.V_drew));exact Kd.V_mono HO_129008.out (fun _ hk=>⟨hk.1.1,⟨hk.1.2.1,⟨hk.1.2.2,hk.2⟩⟩⟩)),(by(with_reducible repeat(first|apply Kd.V_alloc|apply Kd.V_drewN|apply Kd.V_drew));exact Kd.V_mono HO_130008.out (fun _ hk=>⟨hk.1.1,⟨hk.1.2.1,⟨hk.1.2.2,hk.2⟩⟩⟩)),(by(with_reducible repeat first|apply zd|apply ze|apply za);exact BK128.out),(by(with_reducible repeat first|apply zd|apply ze|apply za);exact BK129.out),(by(with_reducible repeat first|apply zd|apply ze|apply za);exact BK143.out),GW143.out,GE143.out,NB128_143.out,NB143_128.out,NB129_143.out,NB143_129.out,(by repeat(first|(with_reducible first|exact HB.out|apply zA|apply zD|apply zE|refine zS ?_ GE128.out|refine zS ?_ GE129.out|refine zS ?_ GE143.out)|exact HB.out))⟩)
             ·skip
              rintro⟨gb142,gb143⟩ w47 ⟨hS_,h0_,h1_,h2_,h3_,h4_,h5_,h6_,h7_,h8_,h9_,h10_,h11_,h12_,h13_,h14_,h15_,h16_,h17_,h18_,h19_,h20_⟩
              have n0_:Aside0 (Kd.V k104 104 w47 w.heap.size (fun k_=>((P0_8_ k_∨P1_8_ k_)∨w.heap.size≤k_)∧k_≠gb128∧k_≠gb129∧k_≠gb142∧k_≠gb143) (.slice A0_8 l0_8.length c0_8) l0_8):=⟨h0_⟩
              have n1_:Aside0 (Kd.V k104 104 w47 w.heap.size (fun k_=>((P0_8_ k_∨P1_8_ k_)∨w.heap.size≤k_)∧k_≠gb128∧k_≠gb129∧k_≠gb142∧k_≠gb143) (.slice A1_8 l1_8.length c1_8) l1_8):=⟨h1_⟩
              have n2_:Aside0 (w47.heap[gb128]?=some (.cells #[.string a0_0,.int .i64 a0_1,.int .i64 a0_2,.int .i64 a0_3,.int .i64 a0_4,.int .i64 a0_5,.int .i64 a0_6,.int .i64 a0_7,.slice A0_8 l0_8.length c0_8] 28 (0,0))):=⟨h2_⟩
              have n3_:Aside0 (w47.heap[gb129]?=some (.cells #[.string a1_0,.int .i64 a1_1,.int .i64 a1_2,.int .i64 a1_3,.int .i64 a1_4,.int .i64 a1_5,.int .i64 a1_6,.int .i64 a1_7,.slice A1_8 l1_8.length c1_8] 28 (0,0))):=⟨h3_⟩
              have n4_:Aside0 (w47.heap[gb142]?=some (.cells #[.int .i64 0,.int .i64 0] 25 (0,0))):=⟨h4_⟩
              have n5_:Aside0 (w47.heap[gb143]?=some (.cells #[.int .i64 0,.int .i64 0] 25 (0,0))):=⟨h5_⟩
              have n6_:Aside0 (w.heap.size≤gb142):=⟨h6_⟩
              have n7_:Aside0 (w.heap.size≤gb142):=⟨h7_⟩
              have n8_:Aside0 (gb128≠gb142):=⟨h8_⟩
              have n9_:Aside0 (gb142≠gb128):=⟨h9_⟩
              have n10_:Aside0 (gb129≠gb142):=⟨h10_⟩
              have n11_:Aside0 (gb142≠gb129):=⟨h11_⟩
              have n12_:Aside0 (gb143≠gb142):=⟨h12_⟩
              have n13_:Aside0 (gb142≠gb143):=⟨h13_⟩
              have n14_:Aside0 (w.heap.size≤gb143):=⟨h14_⟩
              have n15_:Aside0 (w.heap.size≤gb143):=⟨h15_⟩
              have n16_:Aside0 (gb128≠gb143):=⟨h16_⟩
              have n17_:Aside0 (gb143≠gb128):=⟨h17_⟩
              have n18_:Aside0 (gb129≠gb143):=⟨h18_⟩
              have n19_:Aside0 (gb143≠gb129):=⟨h19_⟩
              have n20_:Aside0 (Below w.heap.size w w47):=⟨h20_⟩
              clear HO_129008 HO_130008 BK128 BK129 HB h0_ h1_ h2_ h3_ h4_ h5_ h6_ h7_ h8_ h9_ h10_ h11_ h12_ h13_ h14_ h15_ h16_ h17_ h18_ h19_ h20_
              have HO_129008:=n0_
              have HO_130008:=n1_
              have BK128:=n2_
              have BK129:=n3_
              have BK142:=n4_
              have BK143:=n5_
              have GW142:=n6_
              have GE142:=n7_
              have NB128_142:=n8_
              have NB142_128:=n9_
              have NB129_142:=n10_
              have NB142_129:=n11_
              have NB143_142:=n12_
              have NB142_143:=n13_
              have GW143:=n14_
              have GE143:=n15_
              have NB128_143:=n16_
              have NB143_128:=n17_
              have NB129_143:=n18_
              have NB143_129:=n19_
              have HB:=n20_
              clear n0_ n1_ n2_ n3_ n4_ n5_ n6_ n7_ n8_ n9_ n10_ n11_ n12_ n13_ n14_ n15_ n16_ n17_ n18_ n19_ n20_
              have hHeld:w47.cell? ⟨gb128,0,none⟩=some (.string a0_0)∧w47.cell? ⟨gb128,1,none⟩=some (.int .i64 a0_1)∧w47.cell? ⟨gb128,2,none⟩=some (.int .i64 a0_2)∧w47.cell? ⟨gb128,3,none⟩=some (.int .i64 a0_3)∧w47.cell? ⟨gb128,4,none⟩=some (.int .i64 a0_4)∧w47.cell? ⟨gb128,5,none⟩=some (.int .i64 a0_5)∧w47.cell? ⟨gb128,6,none⟩=some (.int .i64 a0_6)∧w47.cell? ⟨gb128,7,none⟩=some (.int .i64 a0_7)∧w47.cell? ⟨gb128,8,none⟩=some (.slice A0_8 l0_8.length c0_8)∧w47.cell? ⟨gb129,0,none⟩=some (.string a1_0)∧w47.cell? ⟨gb129,1,none⟩=some (.int .i64 a1_1)∧w47.cell? ⟨gb129,2,none⟩=some (.int .i64 a1_2)∧w47.cell? ⟨gb129,3,none⟩=some (.int .i64 a1_3)∧w47.cell? ⟨gb129,4,none⟩=some (.int .i64 a1_4)∧w47.cell? ⟨gb129,5,none⟩=some (.int .i64 a1_5)∧w47.cell? ⟨gb129,6,none⟩=some (.int .i64 a1_6)∧w47.cell? ⟨gb129,7,none⟩=some (.int .i64 a1_7)∧w47.cell? ⟨gb129,8,none⟩=some (.slice A1_8 l1_8.length c1_8):=hS_
              refine norm_ (a':=?_) ?_ ?_
              rotate_left
              ·simp only[putAll,Act.put,zx,zy,zz]
               rfl
              refine one_ (i:=5) (N:=some 44) #[true,true,true,true,true,true,true,true,false,false] rfl rfl (one_of HT_.out (by kernel_rfl)) (by decide) (fun K hK=>?_)
              refine goes_ Try.func70 (by kernel_rfl) rfl #[.agg #[.string a1_0,.int .i64 a1_1,.int .i64 a1_2,.int .i64 a1_3,.int .i64 a1_4,.int .i64 a1_5,.int .i64 a1_6,.int .i64 a1_7,.slice A1_8 l1_8.length c1_8],.int .i64 x26_2] (by rfl) rfl rfl (by(try simp only[List.map_toArray,List.map_cons,List.map_nil]);first|done|rfl|(simp only[List.length_drop,List.length_take];rfl)) ?_
              with_reducible refine(fe_reach.calls a1_0 a1_1 a1_2 a1_3 a1_4 a1_5 a1_6 a1_7 _ _ l1_8 x26_2 t140 t141 _ ?side1 ?side2 A41.out).mono ?_
              (case side1=>repeat(first|exact(Kd.V_reads' HO_130008.out).2.2|(with_reducible refine Kd.C_alloc ?_ _)|(with_reducible refine Kd.C_drewN ?_ _)|(with_reducible refine Kd.C_drew ?_)))
              (case side2=>exact(Kd.V_reads' HO_130008.out).2.1)
              rintro e w48 ⟨rfl,hb⟩
              refine⟨_,rfl,?_⟩
              have n0_:=zm (Kd.V_below (by(with_reducible repeat(first|apply Kd.V_alloc|apply Kd.V_drewN|apply Kd.V_drew));exact HO_129008.out) hb)
              have n1_:=zm (Kd.V_below (by(with_reducible repeat(first|apply Kd.V_alloc|apply Kd.V_drewN|apply Kd.V_drew));exact HO_130008.out) hb)
              have n2_:=zm (zb (g:=gb128) (by(with_reducible repeat first|apply zd|apply ze|apply za);exact BK128.out) hb)
              have n3_:=zm (zb (g:=gb129) (by(with_reducible repeat first|apply zd|apply ze|apply za);exact BK129.out) hb)
              have n4_:=zm (zb (g:=gb142) (by(with_reducible repeat first|apply zd|apply ze|apply za);exact BK142.out) hb)
              have n5_:=zm (zb (g:=gb143) (by(with_reducible repeat first|apply zd|apply ze|apply za);exact BK143.out) hb)
              have n6_:=zm (below_step (by repeat(first|(with_reducible first|exact HB.out|apply zA|apply zD|apply zE|refine zS ?_ GE128.out|refine zS ?_ GE129.out|refine zS ?_ GE142.out|refine zS ?_ GE143.out)|exact HB.out)) hb)
              clear HO_129008 HO_130008 BK128 BK129 BK142 BK143 HB
              have HO_129008:=n0_
              have HO_130008:=n1_
              have BK128:=n2_
              have BK129:=n3_
              have BK142:=n4_
              have BK143:=n5_
              have HB:=n6_
              clear n0_ n1_ n2_ n3_ n4_ n5_ n6_
              (try clear hb)
              (try clear hb2)
              (try clear hk)
              (try clear hi)
              refine hK.out _ _ ⟨(blk_cell BK128.out 0).trans rfl,(blk_cell BK128.out 1).trans rfl,(blk_cell BK128.out 2).trans rfl,(blk_cell BK128.out 3).trans rfl,(blk_cell BK128.out 4).trans rfl,(blk_cell BK128.out 5).trans rfl,(blk_cell BK128.out 6).trans rfl,(blk_cell BK128.out 7).trans rfl,(blk_cell BK128.out 8).trans rfl,(blk_cell BK129.out 0).trans rfl,(blk_cell BK129.out 1).trans rfl,(blk_cell BK129.out 2).trans rfl,(blk_cell BK129.out 3).trans rfl,(blk_cell BK129.out 4).trans rfl,(blk_cell BK129.out 5).trans rfl,(blk_cell BK129.out 6).trans rfl,(blk_cell BK129.out 7).trans rfl,(blk_cell BK129.out 8).trans rfl⟩ (fun hHeld=>?_)
              clear hK K
              refine norm_ (a':=?_) ?_ ?_
              rotate_left
              ·show Act.put _ (some 44) _=_
               simp only[Act.put,zx,zy,zz,i64_w,i32_w]
               rfl
              exact norm_ (by first|(simp only[putAll,Act.put,zx,zy,zz];done)|(simp only[putAll,Act.put,zx,zy,zz];rfl)) (hJ2_5_6_7 (gb142,gb143) _ ⟨hHeld,(by(with_reducible repeat(first|apply Kd.V_alloc|apply Kd.V_drewN|apply Kd.V_drew));exact HO_129008.out),(by(with_reducible repeat(first|apply Kd.V_alloc|apply Kd.V_drewN|apply Kd.V_drew));exact HO_130008.out),(by(with_reducible repeat first|apply zd|apply ze|apply za);exact BK128.out),(by(with_reducible repeat first|apply zd|apply ze|apply za);exact BK129.out),(by(with_reducible repeat first|apply zd|apply ze|apply za);exact BK142.out),(by(with_reducible repeat first|apply zd|apply ze|apply za);exact BK143.out),GW142.out,GE142.out,NB128_142.out,NB142_128.out,NB129_142.out,NB142_129.out,NB143_142.out,NB142_143.out,GW143.out,GE143.out,NB128_143.out,NB143_128.out,NB129_143.out,NB143_129.out,(by repeat(first|(with_reducible first|exact HB.out|apply zA|apply zD|apply zE|refine zS ?_ GE128.out|refine zS ?_ GE129.out|refine zS ?_ GE142.out|refine zS ?_ GE143.out)|exact HB.out))⟩)
            ·skip
             rintro gb143 w47 ⟨hS_,h0_,h1_,h2_,h3_,h4_,h5_,h6_,h7_,h8_,h9_,h10_,h11_⟩
             have n0_:Aside0 (Kd.V k104 104 w47 w.heap.size (fun k_=>((P0_8_ k_∨P1_8_ k_)∨w.heap.size≤k_)∧k_≠gb128∧k_≠gb129∧k_≠gb143) (.slice A0_8 l0_8.length c0_8) l0_8):=⟨h0_⟩
             have n1_:Aside0 (Kd.V k104 104 w47 w.heap.size (fun k_=>((P0_8_ k_∨P1_8_ k_)∨w.heap.size≤k_)∧k_≠gb128∧k_≠gb129∧k_≠gb143) (.slice A1_8 l1_8.length c1_8) l1_8):=⟨h1_⟩
             have n2_:Aside0 (w47.heap[gb128]?=some (.cells #[.string a0_0,.int .i64 a0_1,.int .i64 a0_2,.int .i64 a0_3,.int .i64 a0_4,.int .i64 a0_5,.int .i64 a0_6,.int .i64 a0_7,.slice A0_8 l0_8.length c0_8] 28 (0,0))):=⟨h2_⟩
             have n3_:Aside0 (w47.heap[gb129]?=some (.cells #[.string a1_0,.int .i64 a1_1,.int .i64 a1_2,.int .i64 a1_3,.int .i64 a1_4,.int .i64 a1_5,.int .i64 a1_6,.int .i64 a1_7,.slice A1_8 l1_8.length c1_8] 28 (0,0))):=⟨h3_⟩
             have n4_:Aside0 (w47.heap[gb143]?=some (.cells #[.int .i64 0,.int .i64 0] 25 (0,0))):=⟨h4_⟩
             have n5_:Aside0 (w.heap.size≤gb143):=⟨h5_⟩
             have n6_:Aside0 (w.heap.size≤gb143):=⟨h6_⟩
             have n7_:Aside0 (gb128≠gb143):=⟨h7_⟩
             have n8_:Aside0 (gb143≠gb128):=⟨h8_⟩
             have n9_:Aside0 (gb129≠gb143):=⟨h9_⟩
             have n10_:Aside0 (gb143≠gb129):=⟨h10_⟩
             have n11_:Aside0 (Below w.heap.size w w47):=⟨h11_⟩
             clear HO_129008 HO_130008 BK128 BK129 HB h0_ h1_ h2_ h3_ h4_ h5_ h6_ h7_ h8_ h9_ h10_ h11_
             have HO_129008:=n0_
             have HO_130008:=n1_
             have BK128:=n2_
             have BK129:=n3_
             have BK143:=n4_
             have GW143:=n5_
             have GE143:=n6_
             have NB128_143:=n7_
             have NB143_128:=n8_
             have NB129_143:=n9_
             have NB143_129:=n10_
             have HB:=n11_
             clear n0_ n1_ n2_ n3_ n4_ n5_ n6_ n7_ n8_ n9_ n10_ n11_
             have hHeld:w47.cell? ⟨gb128,0,none⟩=some (.string a0_0)∧w47.cell? ⟨gb128,1,none⟩=some (.int .i64 a0_1)∧w47.cell? ⟨gb128,2,none⟩=some (.int .i64 a0_2)∧w47.cell? ⟨gb128,3,none⟩=some (.int .i64 a0_3)∧w47.cell? ⟨gb128,4,none⟩=some (.int .i64 a0_4)∧w47.cell? ⟨gb128,5,none⟩=some (.int .i64 a0_5)∧w47.cell? ⟨gb128,6,none⟩=some (.int .i64 a0_6)∧w47.cell? ⟨gb128,7,none⟩=some (.int .i64 a0_7)∧w47.cell? ⟨gb128,8,none⟩=some (.slice A0_8 l0_8.length c0_8)∧w47.cell? ⟨gb129,0,none⟩=some (.string a1_0)∧w47.cell? ⟨gb129,1,none⟩=some (.int .i64 a1_1)∧w47.cell? ⟨gb129,2,none⟩=some (.int .i64 a1_2)∧w47.cell? ⟨gb129,3,none⟩=some (.int .i64 a1_3)∧w47.cell? ⟨gb129,4,none⟩=some (.int .i64 a1_4)∧w47.cell? ⟨gb129,5,none⟩=some (.int .i64 a1_5)∧w47.cell? ⟨gb129,6,none⟩=some (.int .i64 a1_6)∧w47.cell? ⟨gb129,7,none⟩=some (.int .i64 a1_7)∧w47.cell? ⟨gb129,8,none⟩=some (.slice A1_8 l1_8.length c1_8):=hS_
             refine norm_ (a':=?_) ?_ ?_
             rotate_left
             ·simp only[putAll,Act.put,zx,zy,zz]
              rfl
             refine one_ (i:=6) (N:=some 10) #[true,true,true,true,true,true,true,true,false,false] rfl rfl (one_of HT_.out (by kernel_rfl)) (by decide) (fun K hK=>?_)
             refine box_step ?hg (N:=10) ?hd (cs:=#[.int .i64 0,.int .i64 0]) (t:=25) ?hr ?_;(case hd=>rfl);(case hg=>rfl);(case hr=>first|(go_simp;done)|(go_simp;rfl))
             intro gb142 hg w48 hbox hb
             have n0_:=zm (Kd.V_below (Kd.V_elderB (by(with_reducible repeat(first|apply Kd.V_alloc|apply Kd.V_drewN|apply Kd.V_drew));exact HO_129008.out) gb142 (Nat.le_of_eq hg.symm)) hb)
             have n1_:=zm (Kd.V_below (Kd.V_elderB (by(with_reducible repeat(first|apply Kd.V_alloc|apply Kd.V_drewN|apply Kd.V_drew));exact HO_130008.out) gb142 (Nat.le_of_eq hg.symm)) hb)
             have n2_:=zm (zb (g:=gb128) (by(with_reducible repeat first|apply zd|apply ze|apply za);exact BK128.out) hb)
             have n3_:=zm (zb (g:=gb129) (by(with_reducible repeat first|apply zd|apply ze|apply za);exact BK129.out) hb)
             have n4_:=zm (zb (g:=gb143) (by(with_reducible repeat first|apply zd|apply ze|apply za);exact BK143.out) hb)
             have n5_:=zm (below_step (by repeat(first|(with_reducible first|exact HB.out|apply zA|apply zD|apply zE|refine zS ?_ GE128.out|refine zS ?_ GE129.out|refine zS ?_ GE143.out)|exact HB.out)) hb)
             have n6_:=zm (hbox)
             have n7_:=zm ((by rw[hg];exact(below_size (by repeat(first|(with_reducible first|exact HB.out|apply zA|apply zD|apply zE|refine zS ?_ GE128.out|refine zS ?_ GE129.out|refine zS ?_ GE143.out)|exact HB.out))):w.heap.size≤gb142))
             have n8_:=zm ((by rw[hg];exact(below_size (by repeat(first|(with_reducible first|exact HB.out|apply zA|apply zD|apply zE|refine zS ?_ GE128.out|refine zS ?_ GE129.out|refine zS ?_ GE143.out)|exact HB.out))):w.heap.size≤gb142))
             have n9_:=zm ((by rw[hg];exact Nat.ne_of_lt (blk_lt (g:=gb128) (by(with_reducible repeat first|apply zd|apply ze|apply za);exact BK128.out)):gb128≠gb142))
             have n10_:=zm ((by rw[hg];exact Nat.ne_of_gt (blk_lt (g:=gb128) (by(with_reducible repeat first|apply zd|apply ze|apply za);exact BK128.out)):gb142≠gb128))
             have n11_:=zm ((by rw[hg];exact Nat.ne_of_lt (blk_lt (g:=gb129) (by(with_reducible repeat first|apply zd|apply ze|apply za);exact BK129.out)):gb129≠gb142))
             have n12_:=zm ((by rw[hg];exact Nat.ne_of_gt (blk_lt (g:=gb129) (by(with_reducible repeat first|apply zd|apply ze|apply za);exact BK129.out)):gb142≠gb129))
             have n13_:=zm ((by rw[hg];exact Nat.ne_of_lt (blk_lt (g:=gb143) (by(with_reducible repeat first|apply zd|apply ze|apply za);exact BK143.out)):gb143≠gb142))
             have n14_:=zm ((by rw[hg];exact Nat.ne_of_gt (blk_lt (g:=gb143) (by(with_reducible repeat first|apply zd|apply ze|apply za);exact BK143.out)):gb142≠gb143))
             clear HO_129008 HO_130008 BK128 BK129 BK143 HB
             have HO_129008:=n0_
             have HO_130008:=n1_
             have BK128:=n2_
             have BK129:=n3_
             have BK143:=n4_
             have HB:=n5_
             have BK142:=n6_
             have GW142:=n7_
             have GE142:=n8_
             have NB128_142:=n9_
             have NB142_128:=n10_
             have NB129_142:=n11_
             have NB142_129:=n12_
             have NB143_142:=n13_
             have NB142_143:=n14_
             clear n0_ n1_ n2_ n3_ n4_ n5_ n6_ n7_ n8_ n9_ n10_ n11_ n12_ n13_ n14_ hb hbox hg
             refine hK.out _ _ ⟨(blk_cell BK128.out 0).trans rfl,(blk_cell BK128.out 1).trans rfl,(blk_cell BK128.out 2).trans rfl,(blk_cell BK128.out 3).trans rfl,(blk_cell BK128.out 4).trans rfl,(blk_cell BK128.out 5).trans rfl,(blk_cell BK128.out 6).trans rfl,(blk_cell BK128.out 7).trans rfl,(blk_cell BK128.out 8).trans rfl,(blk_cell BK129.out 0).trans rfl,(blk_cell BK129.out 1).trans rfl,(blk_cell BK129.out 2).trans rfl,(blk_cell BK129.out 3).trans rfl,(blk_cell BK129.out 4).trans rfl,(blk_cell BK129.out 5).trans rfl,(blk_cell BK129.out 6).trans rfl,(blk_cell BK129.out 7).trans rfl,(blk_cell BK129.out 8).trans rfl⟩ (fun hHeld=>?_)
             clear hK K
             refine norm_ (a':=?_) ?_ ?_
             rotate_left
             ·show Act.put _ (some 10) _=_
              simp only[Act.put,zx,zy,zz,i64_w,i32_w]
              rfl
             exact norm_ (by first|(simp only[putAll,Act.put,zx,zy,zz];done)|(simp only[putAll,Act.put,zx,zy,zz];rfl)) (hJ2_5_6_7 (gb142,gb143) _ ⟨hHeld,(by(with_reducible repeat(first|apply Kd.V_alloc|apply Kd.V_drewN|apply Kd.V_drew));exact Kd.V_mono HO_129008.out (fun _ hk=>⟨hk.1.1,⟨hk.1.2.1,⟨hk.1.2.2.1,⟨hk.2,hk.1.2.2.2⟩⟩⟩⟩)),(by(with_reducible repeat(first|apply Kd.V_alloc|apply Kd.V_drewN|apply Kd.V_drew));exact Kd.V_mono HO_130008.out (fun _ hk=>⟨hk.1.1,⟨hk.1.2.1,⟨hk.1.2.2.1,⟨hk.2,hk.1.2.2.2⟩⟩⟩⟩)),(by(with_reducible repeat first|apply zd|apply ze|apply za);exact BK128.out),(by(with_reducible repeat first|apply zd|apply ze|apply za);exact BK129.out),(by(with_reducible repeat first|apply zd|apply ze|apply za);exact BK142.out),(by(with_reducible repeat first|apply zd|apply ze|apply za);exact BK143.out),GW142.out,GE142.out,NB128_142.out,NB142_128.out,NB129_142.out,NB142_129.out,NB143_142.out,NB142_143.out,GW143.out,GE143.out,NB128_143.out,NB143_128.out,NB129_143.out,NB143_129.out,(by repeat(first|(with_reducible first|exact HB.out|apply zA|apply zD|apply zE|refine zS ?_ GE128.out|refine zS ?_ GE129.out|refine zS ?_ GE143.out|refine zS ?_ GE142.out)|exact HB.out))⟩)
           ·skip
            rintro gb142 w47 ⟨hS_,h0_,h1_,h2_,h3_,h4_,h5_,h6_,h7_,h8_,h9_,h10_,h11_⟩
            have n0_:Aside0 (Kd.V k104 104 w47 w.heap.size (fun k_=>((P0_8_ k_∨P1_8_ k_)∨w.heap.size≤k_)∧k_≠gb128∧k_≠gb129∧k_≠gb142) (.slice A0_8 l0_8.length c0_8) l0_8):=⟨h0_⟩
            have n1_:Aside0 (Kd.V k104 104 w47 w.heap.size (fun k_=>((P0_8_ k_∨P1_8_ k_)∨w.heap.size≤k_)∧k_≠gb128∧k_≠gb129∧k_≠gb142) (.slice A1_8 l1_8.length c1_8) l1_8):=⟨h1_⟩
            have n2_:Aside0 (w47.heap[gb128]?=some (.cells #[.string a0_0,.int .i64 a0_1,.int .i64 a0_2,.int .i64 a0_3,.int .i64 a0_4,.int .i64 a0_5,.int .i64 a0_6,.int .i64 a0_7,.slice A0_8 l0_8.length c0_8] 28 (0,0))):=⟨h2_⟩
            have n3_:Aside0 (w47.heap[gb129]?=some (.cells #[.string a1_0,.int .i64 a1_1,.int .i64 a1_2,.int .i64 a1_3,.int .i64 a1_4,.int .i64 a1_5,.int .i64 a1_6,.int .i64 a1_7,.slice A1_8 l1_8.length c1_8] 28 (0,0))):=⟨h3_⟩
            have n4_:Aside0 (w47.heap[gb142]?=some (.cells #[.int .i64 0,.int .i64 0] 25 (0,0))):=⟨h4_⟩
            have n5_:Aside0 (w.heap.size≤gb142):=⟨h5_⟩
            have n6_:Aside0 (w.heap.size≤gb142):=⟨h6_⟩
            have n7_:Aside0 (gb128≠gb142):=⟨h7_⟩
            have n8_:Aside0 (gb142≠gb128):=⟨h8_⟩
            have n9_:Aside0 (gb129≠gb142):=⟨h9_⟩
            have n10_:Aside0 (gb142≠gb129):=⟨h10_⟩
            have n11_:Aside0 (Below w.heap.size w w47):=⟨h11_⟩
            clear HO_129008 HO_130008 BK128 BK129 HB h0_ h1_ h2_ h3_ h4_ h5_ h6_ h7_ h8_ h9_ h10_ h11_
            have HO_129008:=n0_
            have HO_130008:=n1_
            have BK128:=n2_
            have BK129:=n3_
            have BK142:=n4_
            have GW142:=n5_
            have GE142:=n6_
            have NB128_142:=n7_
            have NB142_128:=n8_
            have NB129_142:=n9_
            have NB142_129:=n10_
            have HB:=n11_
            clear n0_ n1_ n2_ n3_ n4_ n5_ n6_ n7_ n8_ n9_ n10_ n11_
            have hHeld:w47.cell? ⟨gb128,0,none⟩=some (.string a0_0)∧w47.cell? ⟨gb128,1,none⟩=some (.int .i64 a0_1)∧w47.cell? ⟨gb128,2,none⟩=some (.int .i64 a0_2)∧w47.cell? ⟨gb128,3,none⟩=some (.int .i64 a0_3)∧w47.cell? ⟨gb128,4,none⟩=some (.int .i64 a0_4)∧w47.cell? ⟨gb128,5,none⟩=some (.int .i64 a0_5)∧w47.cell? ⟨gb128,6,none⟩=some (.int .i64 a0_6)∧w47.cell? ⟨gb128,7,none⟩=some (.int .i64 a0_7)∧w47.cell? ⟨gb128,8,none⟩=some (.slice A0_8 l0_8.length c0_8)∧w47.cell? ⟨gb129,0,none⟩=some (.string a1_0)∧w47.cell? ⟨gb129,1,none⟩=some (.int .i64 a1_1)∧w47.cell? ⟨gb129,2,none⟩=some (.int .i64 a1_2)∧w47.cell? ⟨gb129,3,none⟩=some (.int .i64 a1_3)∧w47.cell? ⟨gb129,4,none⟩=some (.int .i64 a1_4)∧w47.cell? ⟨gb129,5,none⟩=some (.int .i64 a1_5)∧w47.cell? ⟨gb129,6,none⟩=some (.int .i64 a1_6)∧w47.cell? ⟨gb129,7,none⟩=some (.int .i64 a1_7)∧w47.cell? ⟨gb129,8,none⟩=some (.slice A1_8 l1_8.length c1_8):=hS_
            refine norm_ (a':=?_) ?_ ?_
            rotate_left
            ·simp only[putAll,Act.put,zx,zy,zz]
             rfl
            refine one_ (i:=7) (N:=some 11) #[true,true,true,true,true,true,true,true,false,false] rfl rfl (one_of HT_.out (by kernel_rfl)) (by decide) (fun K hK=>?_)
            refine box_step ?hg (N:=11) ?hd (cs:=#[.int .i64 0,.int .i64 0]) (t:=25) ?hr ?_;(case hd=>rfl);(case hg=>rfl);(case hr=>first|(go_simp;done)|(go_simp;rfl))
            intro gb143 hg w48 hbox hb
            have n0_:=zm (Kd.V_below (Kd.V_elderB (by(with_reducible repeat(first|apply Kd.V_alloc|apply Kd.V_drewN|apply Kd.V_drew));exact HO_129008.out) gb143 (Nat.le_of_eq hg.symm)) hb)
            have n1_:=zm (Kd.V_below (Kd.V_elderB (by(with_reducible repeat(first|apply Kd.V_alloc|apply Kd.V_drewN|apply Kd.V_drew));exact HO_130008.out) gb143 (Nat.le_of_eq hg.symm)) hb)
            have n2_:=zm (zb (g:=gb128) (by(with_reducible repeat first|apply zd|apply ze|apply za);exact BK128.out) hb)
            have n3_:=zm (zb (g:=gb129) (by(with_reducible repeat first|apply zd|apply ze|apply za);exact BK129.out) hb)
            have n4_:=zm (zb (g:=gb142) (by(with_reducible repeat first|apply zd|apply ze|apply za);exact BK142.out) hb)
            have n5_:=zm (below_step (by repeat(first|(with_reducible first|exact HB.out|apply zA|apply zD|apply zE|refine zS ?_ GE128.out|refine zS ?_ GE129.out|refine zS ?_ GE142.out)|exact HB.out)) hb)
            have n6_:=zm (hbox)
            have n7_:=zm ((by rw[hg];exact(below_size (by repeat(first|(with_reducible first|exact HB.out|apply zA|apply zD|apply zE|refine zS ?_ GE128.out|refine zS ?_ GE129.out|refine zS ?_ GE142.out)|exact HB.out))):w.heap.size≤gb143))
            have n8_:=zm ((by rw[hg];exact(below_size (by repeat(first|(with_reducible first|exact HB.out|apply zA|apply zD|apply zE|refine zS ?_ GE128.out|refine zS ?_ GE129.out|refine zS ?_ GE142.out)|exact HB.out))):w.heap.size≤gb143))
            have n9_:=zm ((by rw[hg];exact Nat.ne_of_lt (blk_lt (g:=gb128) (by(with_reducible repeat first|apply zd|apply ze|apply za);exact BK128.out)):gb128≠gb143))
            have n10_:=zm ((by rw[hg];exact Nat.ne_of_gt (blk_lt (g:=gb128) (by(with_reducible repeat first|apply zd|apply ze|apply za);exact BK128.out)):gb143≠gb128))
            have n11_:=zm ((by rw[hg];exact Nat.ne_of_lt (blk_lt (g:=gb129) (by(with_reducible repeat first|apply zd|apply ze|apply za);exact BK129.out)):gb129≠gb143))
            have n12_:=zm ((by rw[hg];exact Nat.ne_of_gt (blk_lt (g:=gb129) (by(with_reducible repeat first|apply zd|apply ze|apply za);exact BK129.out)):gb143≠gb129))
            have n13_:=zm ((by rw[hg];exact Nat.ne_of_lt (blk_lt (g:=gb142) (by(with_reducible repeat first|apply zd|apply ze|apply za);exact BK142.out)):gb142≠gb143))
            have n14_:=zm ((by rw[hg];exact Nat.ne_of_gt (blk_lt (g:=gb142) (by(with_reducible repeat first|apply zd|apply ze|apply za);exact BK142.out)):gb143≠gb142))
            clear HO_129008 HO_130008 BK128 BK129 BK142 HB
            have HO_129008:=n0_
            have HO_130008:=n1_
            have BK128:=n2_
            have BK129:=n3_
            have BK142:=n4_
            have HB:=n5_
            have BK143:=n6_
            have GW143:=n7_
            have GE143:=n8_
            have NB128_143:=n9_
            have NB143_128:=n10_
            have NB129_143:=n11_
            have NB143_129:=n12_
            have NB142_143:=n13_
            have NB143_142:=n14_
            clear n0_ n1_ n2_ n3_ n4_ n5_ n6_ n7_ n8_ n9_ n10_ n11_ n12_ n13_ n14_ hb hbox hg
            refine hK.out _ _ ⟨(blk_cell BK128.out 0).trans rfl,(blk_cell BK128.out 1).trans rfl,(blk_cell BK128.out 2).trans rfl,(blk_cell BK128.out 3).trans rfl,(blk_cell BK128.out 4).trans rfl,(blk_cell BK128.out 5).trans rfl,(blk_cell BK128.out 6).trans rfl,(blk_cell BK128.out 7).trans rfl,(blk_cell BK128.out 8).trans rfl,(blk_cell BK129.out 0).trans rfl,(blk_cell BK129.out 1).trans rfl,(blk_cell BK129.out 2).trans rfl,(blk_cell BK129.out 3).trans rfl,(blk_cell BK129.out 4).trans rfl,(blk_cell BK129.out 5).trans rfl,(blk_cell BK129.out 6).trans rfl,(blk_cell BK129.out 7).trans rfl,(blk_cell BK129.out 8).trans rfl⟩ (fun hHeld=>?_)
            clear hK K
            refine norm_ (a':=?_) ?_ ?_
            rotate_left
            ·show Act.put _ (some 11) _=_
             simp only[Act.put,zx,zy,zz,i64_w,i32_w]
             rfl
            exact norm_ (by first|(simp only[putAll,Act.put,zx,zy,zz];done)|(simp only[putAll,Act.put,zx,zy,zz];rfl)) (hJ2_5_6_7 (gb142,gb143) _ ⟨hHeld,(by(with_reducible repeat(first|apply Kd.V_alloc|apply Kd.V_drewN|apply Kd.V_drew));exact Kd.V_mono HO_129008.out (fun _ hk=>⟨hk.1.1,⟨hk.1.2.1,⟨hk.1.2.2.1,⟨hk.1.2.2.2,hk.2⟩⟩⟩⟩)),(by(with_reducible repeat(first|apply Kd.V_alloc|apply Kd.V_drewN|apply Kd.V_drew));exact Kd.V_mono HO_130008.out (fun _ hk=>⟨hk.1.1,⟨hk.1.2.1,⟨hk.1.2.2.1,⟨hk.1.2.2.2,hk.2⟩⟩⟩⟩)),(by(with_reducible repeat first|apply zd|apply ze|apply za);exact BK128.out),(by(with_reducible repeat first|apply zd|apply ze|apply za);exact BK129.out),(by(with_reducible repeat first|apply zd|apply ze|apply za);exact BK142.out),(by(with_reducible repeat first|apply zd|apply ze|apply za);exact BK143.out),GW142.out,GE142.out,NB128_142.out,NB142_128.out,NB129_142.out,NB142_129.out,NB143_142.out,NB142_143.out,GW143.out,GE143.out,NB128_143.out,NB143_128.out,NB129_143.out,NB143_129.out,(by repeat(first|(with_reducible first|exact HB.out|apply zA|apply zD|apply zE|refine zS ?_ GE128.out|refine zS ?_ GE129.out|refine zS ?_ GE142.out|refine zS ?_ GE143.out)|exact HB.out))⟩)
          rintro⟨gb142,gb143⟩ w48 ⟨hS_,h0_,h1_,h2_,h3_,h4_,h5_,h6_,h7_,h8_,h9_,h10_,h11_,h12_,h13_,h14_,h15_,h16_,h17_,h18_,h19_,h20_⟩
          have n0_:Aside0 (Kd.V k104 104 w48 w.heap.size (fun k_=>((P0_8_ k_∨P1_8_ k_)∨w.heap.size≤k_)∧k_≠gb128∧k_≠gb129∧k_≠gb142∧k_≠gb143) (.slice A0_8 l0_8.length c0_8) l0_8):=⟨h0_⟩
          have n1_:Aside0 (Kd.V k104 104 w48 w.heap.size (fun k_=>((P0_8_ k_∨P1_8_ k_)∨w.heap.size≤k_)∧k_≠gb128∧k_≠gb129∧k_≠gb142∧k_≠gb143) (.slice A1_8 l1_8.length c1_8) l1_8):=⟨h1_⟩
          have n2_:Aside0 (w48.heap[gb128]?=some (.cells #[.string a0_0,.int .i64 a0_1,.int .i64 a0_2,.int .i64 a0_3,.int .i64 a0_4,.int .i64 a0_5,.int .i64 a0_6,.int .i64 a0_7,.slice A0_8 l0_8.length c0_8] 28 (0,0))):=⟨h2_⟩
          have n3_:Aside0 (w48.heap[gb129]?=some (.cells #[.string a1_0,.int .i64 a1_1,.int .i64 a1_2,.int .i64 a1_3,.int .i64 a1_4,.int .i64 a1_5,.int .i64 a1_6,.int .i64 a1_7,.slice A1_8 l1_8.length c1_8] 28 (0,0))):=⟨h3_⟩
          have n4_:Aside0 (w48.heap[gb142]?=some (.cells #[.int .i64 0,.int .i64 0] 25 (0,0))):=⟨h4_⟩
          have n5_:Aside0 (w48.heap[gb143]?=some (.cells #[.int .i64 0,.int .i64 0] 25 (0,0))):=⟨h5_⟩
          have n6_:Aside0 (w.heap.size≤gb142):=⟨h6_⟩
          have n7_:Aside0 (w.heap.size≤gb142):=⟨h7_⟩
          have n8_:Aside0 (gb128≠gb142):=⟨h8_⟩
          have n9_:Aside0 (gb142≠gb128):=⟨h9_⟩
          have n10_:Aside0 (gb129≠gb142):=⟨h10_⟩
          have n11_:Aside0 (gb142≠gb129):=⟨h11_⟩
          have n12_:Aside0 (gb143≠gb142):=⟨h12_⟩
          have n13_:Aside0 (gb142≠gb143):=⟨h13_⟩
          have n14_:Aside0 (w.heap.size≤gb143):=⟨h14_⟩
          have n15_:Aside0 (w.heap.size≤gb143):=⟨h15_⟩
          have n16_:Aside0 (gb128≠gb143):=⟨h16_⟩
          have n17_:Aside0 (gb143≠gb128):=⟨h17_⟩
          have n18_:Aside0 (gb129≠gb143):=⟨h18_⟩
          have n19_:Aside0 (gb143≠gb129):=⟨h19_⟩
          have n20_:Aside0 (Below w.heap.size w w48):=⟨h20_⟩
          clear HO_129008 HO_130008 BK128 BK129 HB h0_ h1_ h2_ h3_ h4_ h5_ h6_ h7_ h8_ h9_ h10_ h11_ h12_ h13_ h14_ h15_ h16_ h17_ h18_ h19_ h20_
          have HO_129008:=n0_
          have HO_130008:=n1_
          have BK128:=n2_
          have BK129:=n3_
          have BK142:=n4_
          have BK143:=n5_
          have GW142:=n6_
          have GE142:=n7_
          have NB128_142:=n8_
          have NB142_128:=n9_
          have NB129_142:=n10_
          have NB142_129:=n11_
          have NB143_142:=n12_
          have NB142_143:=n13_
          have GW143:=n14_
          have GE143:=n15_
          have NB128_143:=n16_
          have NB143_128:=n17_
          have NB129_143:=n18_
          have NB143_129:=n19_
          have HB:=n20_
          clear n0_ n1_ n2_ n3_ n4_ n5_ n6_ n7_ n8_ n9_ n10_ n11_ n12_ n13_ n14_ n15_ n16_ n17_ n18_ n19_ n20_
          have hHeld:w48.cell? ⟨gb128,0,none⟩=some (.string a0_0)∧w48.cell? ⟨gb128,1,none⟩=some (.int .i64 a0_1)∧w48.cell? ⟨gb128,2,none⟩=some (.int .i64 a0_2)∧w48.cell? ⟨gb128,3,none⟩=some (.int .i64 a0_3)∧w48.cell? ⟨gb128,4,none⟩=some (.int .i64 a0_4)∧w48.cell? ⟨gb128,5,none⟩=some (.int .i64 a0_5)∧w48.cell? ⟨gb128,6,none⟩=some (.int .i64 a0_6)∧w48.cell? ⟨gb128,7,none⟩=some (.int .i64 a0_7)∧w48.cell? ⟨gb128,8,none⟩=some (.slice A0_8 l0_8.length c0_8)∧w48.cell? ⟨gb129,0,none⟩=some (.string a1_0)∧w48.cell? ⟨gb129,1,none⟩=some (.int .i64 a1_1)∧w48.cell? ⟨gb129,2,none⟩=some (.int .i64 a1_2)∧w48.cell? ⟨gb129,3,none⟩=some (.int .i64 a1_3)∧w48.cell? ⟨gb129,4,none⟩=some (.int .i64 a1_4)∧w48.cell? ⟨gb129,5,none⟩=some (.int .i64 a1_5)∧w48.cell? ⟨gb129,6,none⟩=some (.int .i64 a1_6)∧w48.cell? ⟨gb129,7,none⟩=some (.int .i64 a1_7)∧w48.cell? ⟨gb129,8,none⟩=some (.slice A1_8 l1_8.length c1_8):=hS_
          refine norm_ (a':=?_) ?_ ?_
          rotate_left
          ·simp only[putAll,Act.put,zx,zy,zz]
           rfl
          refine one_ (i:=8) (N:=none) #[true,true,true,true,true,true,true,true,true,false] rfl rfl (one_of HT_.out (by kernel_rfl)) (by decide) (fun K hK=>?_)
          have hs49:=zc BK142.out 0 (.int .i64 0) rfl
          have hfs49:=zf BK142.out 0
          have hns49_0:=NB128_142.out
          have hns49_1:=NB129_142.out
          have hns49_3:=NB143_142.out
          have hms49_0:=NB142_128.out
          have hms49_1:=NB142_129.out
          have hms49_3:=NB142_143.out
          have hs50:=zc BK142.out 1 (.int .i64 0) rfl
          have hfs50:=zf BK142.out 1
          have hns50_0:=NB128_142.out
          have hns50_1:=NB129_142.out
          have hns50_3:=NB143_142.out
          have hms50_0:=NB142_128.out
          have hms50_1:=NB142_129.out
          have hms50_3:=NB142_143.out
          refine skip_ (w1:=?_) (by rfl) rfl ?_ ?_
          rotate_left
          ·go_simp
           rfl
          refine hK.out _ _ ⟨((cell_far (p:=⟨gb142,_,none⟩) NB128_142.out _).trans (((cell_far (p:=⟨gb142,_,none⟩) NB128_142.out _).trans (hHeld.1)))),((cell_far (p:=⟨gb142,_,none⟩) NB128_142.out _).trans (((cell_far (p:=⟨gb142,_,none⟩) NB128_142.out _).trans (hHeld.2.1)))),((cell_far (p:=⟨gb142,_,none⟩) NB128_142.out _).trans (((cell_far (p:=⟨gb142,_,none⟩) NB128_142.out _).trans (hHeld.2.2.1)))),((cell_far (p:=⟨gb142,_,none⟩) NB128_142.out _).trans (((cell_far (p:=⟨gb142,_,none⟩) NB128_142.out _).trans (hHeld.2.2.2.1)))),((cell_far (p:=⟨gb142,_,none⟩) NB128_142.out _).trans (((cell_far (p:=⟨gb142,_,none⟩) NB128_142.out _).trans (hHeld.2.2.2.2.1)))),((cell_far (p:=⟨gb142,_,none⟩) NB128_142.out _).trans (((cell_far (p:=⟨gb142,_,none⟩) NB128_142.out _).trans (hHeld.2.2.2.2.2.1)))),((cell_far (p:=⟨gb142,_,none⟩) NB128_142.out _).trans (((cell_far (p:=⟨gb142,_,none⟩) NB128_142.out _).trans (hHeld.2.2.2.2.2.2.1)))),((cell_far (p:=⟨gb142,_,none⟩) NB128_142.out _).trans (((cell_far (p:=⟨gb142,_,none⟩) NB128_142.out _).trans (hHeld.2.2.2.2.2.2.2.1)))),((cell_far (p:=⟨gb142,_,none⟩) NB128_142.out _).trans (((cell_far (p:=⟨gb142,_,none⟩) NB128_142.out _).trans (hHeld.2.2.2.2.2.2.2.2.1)))),((cell_far (p:=⟨gb142,_,none⟩) NB129_142.out _).trans (((cell_far (p:=⟨gb142,_,none⟩) NB129_142.out _).trans (hHeld.2.2.2.2.2.2.2.2.2.1)))),((cell_far (p:=⟨gb142,_,none⟩) NB129_142.out _).trans (((cell_far (p:=⟨gb142,_,none⟩) NB129_142.out _).trans (hHeld.2.2.2.2.2.2.2.2.2.2.1)))),((cell_far (p:=⟨gb142,_,none⟩) NB129_142.out _).trans (((cell_far (p:=⟨gb142,_,none⟩) NB129_142.out _).trans (hHeld.2.2.2.2.2.2.2.2.2.2.2.1)))),((cell_far (p:=⟨gb142,_,none⟩) NB129_142.out _).trans (((cell_far (p:=⟨gb142,_,none⟩) NB129_142.out _).trans (hHeld.2.2.2.2.2.2.2.2.2.2.2.2.1)))),((cell_far (p:=⟨gb142,_,none⟩) NB129_142.out _).trans (((cell_far (p:=⟨gb142,_,none⟩) NB129_142.out _).trans (hHeld.2.2.2.2.2.2.2.2.2.2.2.2.2.1)))),((cell_far (p:=⟨gb142,_,none⟩) NB129_142.out _).trans (((cell_far (p:=⟨gb142,_,none⟩) NB129_142.out _).trans (hHeld.2.2.2.2.2.2.2.2.2.2.2.2.2.2.1)))),((cell_far (p:=⟨gb142,_,none⟩) NB129_142.out _).trans (((cell_far (p:=⟨gb142,_,none⟩) NB129_142.out _).trans (hHeld.2.2.2.2.2.2.2.2.2.2.2.2.2.2.2.1)))),((cell_far (p:=⟨gb142,_,none⟩) NB129_142.out _).trans (((cell_far (p:=⟨gb142,_,none⟩) NB129_142.out _).trans (hHeld.2.2.2.2.2.2.2.2.2.2.2.2.2.2.2.2.1)))),((cell_far (p:=⟨gb142,_,none⟩) NB129_142.out _).trans (((cell_far (p:=⟨gb142,_,none⟩) NB129_142.out _).trans (hHeld.2.2.2.2.2.2.2.2.2.2.2.2.2.2.2.2.2))))⟩ (fun hHeld=>?_)
          clear hK K
          refine one_ (i:=9) (N:=none) #[true,true,true,true,true,true,true,true,true,true] rfl rfl (one_of HT_.out (by kernel_rfl)) (by decide) (fun K hK=>?_)
          have hs51:=zc BK143.out 0 (.int .i64 0) rfl
          have hfs51:=zf BK143.out 0
          have hns51_0:=NB128_143.out
          have hns51_1:=NB129_143.out
          have hns51_2:=NB142_143.out
          have hms51_0:=NB143_128.out
          have hms51_1:=NB143_129.out
          have hms51_2:=NB143_142.out
          have hs52:=zc BK143.out 1 (.int .i64 0) rfl
          have hfs52:=zf BK143.out 1
          have hns52_0:=NB128_143.out
          have hns52_1:=NB129_143.out
          have hns52_2:=NB142_143.out
          have hms52_0:=NB143_128.out
          have hms52_1:=NB143_129.out
          have hms52_2:=NB143_142.out
          refine skip_ (w1:=?_) (by rfl) rfl ?_ ?_
          rotate_left
          ·go_simp
           rfl
          refine hK.out _ _ ⟨((cell_far (p:=⟨gb143,_,none⟩) NB128_143.out _).trans (((cell_far (p:=⟨gb143,_,none⟩) NB128_143.out _).trans (hHeld.1)))),((cell_far (p:=⟨gb143,_,none⟩) NB128_143.out _).trans (((cell_far (p:=⟨gb143,_,none⟩) NB128_143.out _).trans (hHeld.2.1)))),((cell_far (p:=⟨gb143,_,none⟩) NB128_143.out _).trans (((cell_far (p:=⟨gb143,_,none⟩) NB128_143.out _).trans (hHeld.2.2.1)))),((cell_far (p:=⟨gb143,_,none⟩) NB128_143.out _).trans (((cell_far (p:=⟨gb143,_,none⟩) NB128_143.out _).trans (hHeld.2.2.2.1)))),((cell_far (p:=⟨gb143,_,none⟩) NB128_143.out _).trans (((cell_far (p:=⟨gb143,_,none⟩) NB128_143.out _).trans (hHeld.2.2.2.2.1)))),((cell_far (p:=⟨gb143,_,none⟩) NB128_143.out _).trans (((cell_far (p:=⟨gb143,_,none⟩) NB128_143.out _).trans (hHeld.2.2.2.2.2.1)))),((cell_far (p:=⟨gb143,_,none⟩) NB128_143.out _).trans (((cell_far (p:=⟨gb143,_,none⟩) NB128_143.out _).trans (hHeld.2.2.2.2.2.2.1)))),((cell_far (p:=⟨gb143,_,none⟩) NB128_143.out _).trans (((cell_far (p:=⟨gb143,_,none⟩) NB128_143.out _).trans (hHeld.2.2.2.2.2.2.2.1)))),((cell_far (p:=⟨gb143,_,none⟩) NB128_143.out _).trans (((cell_far (p:=⟨gb143,_,none⟩) NB128_143.out _).trans (hHeld.2.2.2.2.2.2.2.2.1)))),((cell_far (p:=⟨gb143,_,none⟩) NB129_143.out _).trans (((cell_far (p:=⟨gb143,_,none⟩) NB129_143.out _).trans (hHeld.2.2.2.2.2.2.2.2.2.1)))),((cell_far (p:=⟨gb143,_,none⟩) NB129_143.out _).trans (((cell_far (p:=⟨gb143,_,none⟩) NB129_143.out _).trans (hHeld.2.2.2.2.2.2.2.2.2.2.1)))),((cell_far (p:=⟨gb143,_,none⟩) NB129_143.out _).trans (((cell_far (p:=⟨gb143,_,none⟩) NB129_143.out _).trans (hHeld.2.2.2.2.2.2.2.2.2.2.2.1)))),((cell_far (p:=⟨gb143,_,none⟩) NB129_143.out _).trans (((cell_far (p:=⟨gb143,_,none⟩) NB129_143.out _).trans (hHeld.2.2.2.2.2.2.2.2.2.2.2.2.1)))),((cell_far (p:=⟨gb143,_,none⟩) NB129_143.out _).trans (((cell_far (p:=⟨gb143,_,none⟩) NB129_143.out _).trans (hHeld.2.2.2.2.2.2.2.2.2.2.2.2.2.1)))),((cell_far (p:=⟨gb143,_,none⟩) NB129_143.out _).trans (((cell_far (p:=⟨gb143,_,none⟩) NB129_143.out _).trans (hHeld.2.2.2.2.2.2.2.2.2.2.2.2.2.2.1)))),((cell_far (p:=⟨gb143,_,none⟩) NB129_143.out _).trans (((cell_far (p:=⟨gb143,_,none⟩) NB129_143.out _).trans (hHeld.2.2.2.2.2.2.2.2.2.2.2.2.2.2.2.1)))),((cell_far (p:=⟨gb143,_,none⟩) NB129_143.out _).trans (((cell_far (p:=⟨gb143,_,none⟩) NB129_143.out _).trans (hHeld.2.2.2.2.2.2.2.2.2.2.2.2.2.2.2.2.1)))),((cell_far (p:=⟨gb143,_,none⟩) NB129_143.out _).trans (((cell_far (p:=⟨gb143,_,none⟩) NB129_143.out _).trans (hHeld.2.2.2.2.2.2.2.2.2.2.2.2.2.2.2.2.2))))⟩ (fun hHeld=>?_)
          clear hK K
          refine done_ (done_of HT_.out (by kernel_rfl)) ?_
          have H:=HX_.out
          clear HX_
          by_cases c42:t139 < t140
          ·rw[if_pos c42] at H
           have c42b0:decide (t139 < t140)=true:=decide_eq_true c42
           clear c42
           simp only[Option.some.injEq,Prod.mk.injEq] at H
           obtain⟨rfl,rfl⟩:=H
           have hnb53:=NB142_128.out
           have hnc53:=NB128_142.out
           have hnb54:=NB142_129.out
           have hnc54:=NB129_142.out
           have hnb55:=NB142_143.out
           have hnc55:=NB143_142.out
           have hcz56_0:=zc BK142.out 0 (.int .i64 0) rfl
           have hcz56_1:=zc BK142.out 1 (.int .i64 0) rfl
           have hfz56_0:=zf BK142.out 0
           have hfz56_1:=zf BK142.out 1
           have hnb57:=NB143_128.out
           have hnc57:=NB128_143.out
           have hnb58:=NB143_129.out
           have hnc58:=NB129_143.out
           have hcz59_0:=zc BK143.out 0 (.int .i64 0) rfl
           have hcz59_1:=zc BK143.out 1 (.int .i64 0) rfl
           have hfz59_0:=zf BK143.out 0
           have hfz59_1:=zf BK143.out 1
           try go_wp2
           go_ret2
           exact⟨by first|rfl|(simp[errW_none,errW_some]<;>rfl)|(simp[*,errW_none,errW_some]<;>rfl),by repeat(first|(with_reducible first|exact HB.out|apply zA|apply zD|apply zE|refine zS ?_ GE128.out|refine zS ?_ GE129.out|refine zS ?_ GE142.out|refine zS ?_ GE143.out)|exact HB.out)⟩
          ·rw[if_neg c42] at H
           have c42b0:decide (t139 < t140)=false:=decide_eq_false c42
           clear c42
           by_cases c60:t141 < t138
           ·rw[if_pos c60] at H
            have c60b0:decide (t141 < t138)=true:=decide_eq_true c60
            clear c60
            simp only[Option.some.injEq,Prod.mk.injEq] at H
            obtain⟨rfl,rfl⟩:=H
            have hnb71:=NB142_128.out
            have hnc71:=NB128_142.out
            have hnb72:=NB142_129.out
            have hnc72:=NB129_142.out
            have hnb73:=NB142_143.out
            have hnc73:=NB143_142.out
            have hcz74_0:=zc BK142.out 0 (.int .i64 0) rfl
            have hcz74_1:=zc BK142.out 1 (.int .i64 0) rfl
            have hfz74_0:=zf BK142.out 0
            have hfz74_1:=zf BK142.out 1
            have hnb75:=NB143_128.out
            have hnc75:=NB128_143.out
            have hnb76:=NB143_129.out
            have hnc76:=NB129_143.out
            have hcz77_0:=zc BK143.out 0 (.int .i64 0) rfl
            have hcz77_1:=zc BK143.out 1 (.int .i64 0) rfl
            have hfz77_0:=zf BK143.out 0
            have hfz77_1:=zf BK143.out 1
            try go_wp2
            go_ret2
            exact⟨by first|rfl|(simp[errW_none,errW_some]<;>rfl)|(simp[*,errW_none,errW_some]<;>rfl),by repeat(first|(with_reducible first|exact HB.out|apply zA|apply zD|apply zE|refine zS ?_ GE128.out|refine zS ?_ GE129.out|refine zS ?_ GE142.out|refine zS ?_ GE143.out)|exact HB.out)⟩
           ·rw[if_neg c60] at H
            have c60b0:decide (t141 < t138)=false:=decide_eq_false c60
            clear c60
            have H':=zm H
            clear H
            have hnb88:=NB142_128.out
            have hnc88:=NB128_142.out
            have hnb89:=NB142_129.out
            have hnc89:=NB129_142.out
            have hnb90:=NB142_143.out
            have hnc90:=NB143_142.out
            have hcz91_0:=zc BK142.out 0 (.int .i64 0) rfl
            have hcz91_1:=zc BK142.out 1 (.int .i64 0) rfl
            have hfz91_0:=zf BK142.out 0
            have hfz91_1:=zf BK142.out 1
            have hnb92:=NB143_128.out
            have hnc92:=NB128_143.out
            have hnb93:=NB143_129.out
            have hnc93:=NB129_143.out
            have hcz94_0:=zc BK143.out 0 (.int .i64 0) rfl
            have hcz94_1:=zc BK143.out 1 (.int .i64 0) rfl
            have hfz94_0:=zf BK143.out 0
            have hfz94_1:=zf BK143.out 1
            try go_wp2
            go_roundg kj26
            case measure=>have:=HK1.out;have:=HK2.out;have:=HJ26.out;omega
            case rel=>exact⟨(wrap64 (x26_2+1)),(by first|rfl|(simp;done)|(simp[*];done)),H',⟨by have:=HK1.out;have:=HK2.out;have:=HJ26.out;omega⟩,⟨by(with_reducible repeat(first|apply Kd.V_alloc|apply Kd.V_drewN|apply Kd.V_drew));exact Kd.V_mono (Kd.V_far (p:=⟨gb143,1,none⟩) (Kd.V_far (p:=⟨gb143,0,none⟩) (Kd.V_far (p:=⟨gb142,1,none⟩) (Kd.V_far (p:=⟨gb142,0,none⟩) (Kd.V_mono (Kd.V_mono HO_129008.out (fun k_ hk=>(⟨hk,hk.2.2.2.1⟩:_∧k_≠gb142))) (fun k_ hk=>(⟨hk,hk.1.2.2.2.2⟩:_∧k_≠gb143))) (fun _ hk=>hk.1.2) (.int .i64 t138)) (fun _ hk=>hk.1.2) (.int .i64 t139)) (fun _ hk=>hk.2) (.int .i64 t140)) (fun _ hk=>hk.2) (.int .i64 t141)) (fun _ hk=>⟨hk.1.1.1,⟨hk.1.1.2.1,hk.1.1.2.2.1⟩⟩)⟩,⟨by(with_reducible repeat(first|apply Kd.V_alloc|apply Kd.V_drewN|apply Kd.V_drew));exact Kd.V_mono (Kd.V_far (p:=⟨gb143,1,none⟩) (Kd.V_far (p:=⟨gb143,0,none⟩) (Kd.V_far (p:=⟨gb142,1,none⟩) (Kd.V_far (p:=⟨gb142,0,none⟩) (Kd.V_mono (Kd.V_mono HO_130008.out (fun k_ hk=>(⟨hk,hk.2.2.2.1⟩:_∧k_≠gb142))) (fun k_ hk=>(⟨hk,hk.1.2.2.2.2⟩:_∧k_≠gb143))) (fun _ hk=>hk.1.2) (.int .i64 t138)) (fun _ hk=>hk.1.2) (.int .i64 t139)) (fun _ hk=>hk.2) (.int .i64 t140)) (fun _ hk=>hk.2) (.int .i64 t141)) (fun _ hk=>⟨hk.1.1.1,⟨hk.1.1.2.1,hk.1.1.2.2.1⟩⟩)⟩,⟨by(with_reducible repeat first|apply zd|apply ze|apply za);refine blk_far ?_ NB128_143.out _;(with_reducible repeat first|apply zd|apply ze|apply za);refine blk_far ?_ NB128_143.out _;(with_reducible repeat first|apply zd|apply ze|apply za);refine blk_far ?_ NB128_142.out _;(with_reducible repeat first|apply zd|apply ze|apply za);refine blk_far ?_ NB128_142.out _;(with_reducible repeat first|apply zd|apply ze|apply za);exact BK128.out⟩,⟨by(with_reducible repeat first|apply zd|apply ze|apply za);refine blk_far ?_ NB129_143.out _;(with_reducible repeat first|apply zd|apply ze|apply za);refine blk_far ?_ NB129_143.out _;(with_reducible repeat first|apply zd|apply ze|apply za);refine blk_far ?_ NB129_142.out _;(with_reducible repeat first|apply zd|apply ze|apply za);refine blk_far ?_ NB129_142.out _;(with_reducible repeat first|apply zd|apply ze|apply za);exact BK129.out⟩,⟨by repeat(first|(with_reducible first|exact HB.out|apply zA|apply zD|apply zE|refine zS ?_ GE128.out|refine zS ?_ GE129.out|refine zS ?_ GE142.out|refine zS ?_ GE143.out)|exact HB.out)⟩⟩
      ·rw[if_neg c26] at H
       have c26b0:decide (x26_2 < 3)=false:=decide_eq_false c26
       clear c26
       simp only[Option.some.injEq,Prod.mk.injEq] at H
       obtain⟨rfl,rfl⟩:=H
       go_wp2
       go_ret2
       exact⟨by first|rfl|(simp[errW_none,errW_some]<;>rfl)|(simp[*,errW_none,errW_some]<;>rfl),by repeat(first|(with_reducible first|exact HB.out|apply zA|apply zD|apply zE|refine zS ?_ GE128.out|refine zS ?_ GE129.out)|exact HB.out)⟩
def mr_Axis.f (a0:Int):Option (Int):=if a0 < 0 then(some 1) else(if a0≥3 then(some 1) else(some 0))
set_option maxHeartbeats 8000000 in
set_option maxRecDepth 100000 in
theorem mr_Axis.calls (a0 r:Int) (w:World) (h:mr_Axis.f a0=some r):
    Calls Try.prog 114 #[.int .i64 a0] w fun e w'=>e=.returned (.int .i64 r)∧Drawn0 w w':=by
  have H:(if a0 < 0 then(some 1) else(if a0≥3 then(some 1) else(some 0)))=some r:=h
  clear h
  by_cases c2:a0 < 0
  · rw[if_pos c2] at H
    have c2b0:decide (a0 < 0)=true:=decide_eq_true c2
    clear c2
    obtain rfl:=Option.some.inj H
    go_enter Try.func114,Try.ntmps114
    go_wp2
    go_ret
    exact⟨by first|rfl|(simp;done)|(simp[*];done),by repeat(first|exact Drawn0.refl _|apply Drawn0.step)⟩
  · rw[if_neg c2] at H
    have c2b0:decide (a0 < 0)=false:=decide_eq_false c2
    clear c2
    by_cases c3:a0≥3
    · rw[if_pos c3] at H
      have c3b0:decide (3≤a0)=true:=decide_eq_true c3
      clear c3
      obtain rfl:=Option.some.inj H
      go_enter Try.func114,Try.ntmps114
      go_wp2
      go_ret
      exact⟨by first|rfl|(simp;done)|(simp[*];done),by repeat(first|exact Drawn0.refl _|apply Drawn0.step)⟩
    · rw[if_neg c3] at H
      have c3b0:decide (3≤a0)=false:=decide_eq_false c3
      clear c3
      obtain rfl:=Option.some.inj H
      go_enter Try.func114,Try.ntmps114
      go_wp2
      go_ret
      exact⟨by first|rfl|(simp;done)|(simp[*];done),by repeat(first|exact Drawn0.refl _|apply Drawn0.step)⟩
def mr_given.f (k:Nat) (a0_0:ByteArray) (a0_1 a0_2 a0_3 a0_4 a0_5 a0_6 a0_7:Int) (l0_8:List (S104)) (a1:Int):Option (Int):=(mr_Check.f k a0_0 a0_1 a0_2 a0_3 a0_4 a0_5 a0_6 a0_7 l0_8).bind fun t163=>(if t163=0 then((mr_Axis.f a1).bind fun t164=>(some t164)) else(some t163))
theorem mr_given.mono:∀ a0 a1 a2 a3 a4 a5 a6 a7 a8 a9 k,LeO (mr_given.f k a0 a1 a2 a3 a4 a5 a6 a7 a8 a9) (mr_given.f (k+1) a0 a1 a2 a3 a4 a5 a6 a7 a8 a9):=by
 intro a0 a1 a2 a3 a4 a5 a6 a7 a8 a9 k
 unfold mr_given.f
 repeat' first
  | (with_reducible exact mr_Check.mono _ _ _ _ _ _ _ _ _ _)
  | (with_reducible exact LeO.refl _)
  | (with_reducible exact LeO.none _)
  | (with_reducible refine LeO.ite ?_ ?_)
  | (with_reducible refine LeO.bind ?_ (fun _=>?_))
  | exact mr_Check.mono _ _ _ _ _ _ _ _ _ _
  | exact LeO.none _
  | refine LeO.ite ?_ ?_
  | refine LeO.bind ?_ (fun _=>?_)
set_option maxHeartbeats 8000000 in
set_option maxRecDepth 100000 in
theorem mr_given.calls (k:Nat) (a0_0:ByteArray) (a0_1 a0_2 a0_3 a0_4 a0_5 a0_6 a0_7:Int) (A0_8:Option Addr) (c0_8:Nat) (l0_8:List (S104)) (a1 r:Int) (w:World) (hr0_8:Kd.C k104 w A0_8 l0_8.length l0_8) (hc0_8:l0_8.length≤c0_8) (h:mr_given.f k a0_0 a0_1 a0_2 a0_3 a0_4 a0_5 a0_6 a0_7 l0_8 a1=some r):
 Calls Try.prog 72 #[.agg #[.string a0_0,.int .i64 a0_1,.int .i64 a0_2,.int .i64 a0_3,.int .i64 a0_4,.int .i64 a0_5,.int .i64 a0_6,.int .i64 a0_7,.slice A0_8 l0_8.length c0_8],.int .i64 a1] w fun e w'=>e=.returned (.int .i64 r)∧Below w.heap.size w w':=by
 have hu28:=Try.underlying28
 have HR0_8:=zm hr0_8
 have HC0_8:=zm hc0_8
 clear hr0_8 hc0_8
 have HB:=zm (Below.refl w.heap.size w)
 have H:((mr_Check.f k a0_0 a0_1 a0_2 a0_3 a0_4 a0_5 a0_6 a0_7 l0_8).bind fun t163=>(if t163=0 then((mr_Axis.f a1).bind fun t164=>(some t164)) else(some t163)))=some r:=h
 clear h
 replace H:=Option.bind_eq_some_iff.mp H
 obtain⟨t163,A30,H⟩:=H
 replace H:(if t163=0 then((mr_Axis.f a1).bind fun t164=>(some t164)) else(some t163))=some r:=H
 have A3:=zm A30
 clear A30
 by_cases c4:t163=0
 ·rw[if_pos c4] at H
  have c4b0:(t163==0)=true:=beq_iff_eq.mpr c4
  have c4b1:(t163 != 0)=false:=bne_eq_false_iff_eq.mpr c4
  clear c4
  replace H:=Option.bind_eq_some_iff.mp H
  obtain⟨t164,A50,H⟩:=H
  replace H:(some t164)=some r:=H
  have A5:=zm A50
  clear A50
  obtain rfl:=Option.some.inj H
  go_enter Try.func72,Try.ntmps72
  go_wp2_with (first|((with_reducible refine gate_dst (N:=2) rfl ?_);refine box_event ?hg (N:=2) ?hd (cs:=#[.string a0_0,.int .i64 a0_1,.int .i64 a0_2,.int .i64 a0_3,.int .i64 a0_4,.int .i64 a0_5,.int .i64 a0_6,.int .i64 a0_7,.slice A0_8 l0_8.length c0_8]) (t:=28) ?hr ?_;(case hd=>rfl);(case hg=>rfl);(case hr=>first|(go_simp;done)|(go_simp;rfl));intro gb162 hg w6 hbox hb;have n0_:=zm (below_step (by repeat(first|(with_reducible first|exact HB.out|apply zA|apply zD|apply zE)|exact HB.out)) hb);have n1_:=zm (hbox);have n2_:=zm ((by rw[hg];exact(below_size (by repeat(first|(with_reducible first|exact HB.out|apply zA|apply zD|apply zE)|exact HB.out))):w.heap.size≤gb162));have n3_:=zm ((by rw[hg];exact(below_size (by repeat(first|(with_reducible first|exact HB.out|apply zA|apply zD|apply zE)|exact HB.out))):w.heap.size≤gb162));clear HB;have HB:=n0_;have BK162:=n1_;have GW162:=n2_;have GE162:=n3_;clear n0_ n1_ n2_ n3_;clear hb hbox hg;have hcz7_0:=zc BK162.out 0 (.string a0_0) rfl;have hcz7_1:=zc BK162.out 1 (.int .i64 a0_1) rfl;have hcz7_2:=zc BK162.out 2 (.int .i64 a0_2) rfl;have hcz7_3:=zc BK162.out 3 (.int .i64 a0_3) rfl;have hcz7_4:=zc BK162.out 4 (.int .i64 a0_4) rfl;have hcz7_5:=zc BK162.out 5 (.int .i64 a0_5) rfl;have hcz7_6:=zc BK162.out 6 (.int .i64 a0_6) rfl;have hcz7_7:=zc BK162.out 7 (.int .i64 a0_7) rfl;have hcz7_8:=zc BK162.out 8 (.slice A0_8 l0_8.length c0_8) rfl;have hfz7_0:=zf BK162.out 0;have hfz7_1:=zf BK162.out 1;have hfz7_2:=zf BK162.out 2;have hfz7_3:=zf BK162.out 3;have hfz7_4:=zf BK162.out 4;have hfz7_5:=zf BK162.out 5;have hfz7_6:=zf BK162.out 6;have hfz7_7:=zf BK162.out 7;have hfz7_8:=zf BK162.out 8)|((with_reducible refine gate_callee (f:=30) rfl ?_);refine goesL_ (some 7) rfl rfl Try.func30 (by kernel_rfl) rfl #[.agg #[.string a0_0,.int .i64 a0_1,.int .i64 a0_2,.int .i64 a0_3,.int .i64 a0_4,.int .i64 a0_5,.int .i64 a0_6,.int .i64 a0_7,.slice A0_8 l0_8.length c0_8]] rfl (by(try simp only[List.map_toArray,List.map_cons,List.map_nil]);first|done|rfl|(simp only[List.length_drop,List.length_take];rfl)) ?_;(with_reducible refine(mr_Check.calls k a0_0 a0_1 a0_2 a0_3 a0_4 a0_5 a0_6 a0_7 _ _ l0_8 t163 _ ?side1 ?side2 A3.out).mono ?_);(case side1=>repeat(first|exact(Kd.C_below HR0_8.out HB.out)|(with_reducible refine Kd.C_alloc ?_ _)|(with_reducible refine Kd.C_drewN ?_ _)|(with_reducible refine Kd.C_drew ?_)));(case side2=>exact HC0_8.out);rintro e w8 ⟨rfl,hb⟩;refine⟨_,rfl,?_⟩;have n0_:=zm (zb (g:=gb162) (o:=.cells #[.string a0_0,.int .i64 a0_1,.int .i64 a0_2,.int .i64 a0_3,.int .i64 a0_4,.int .i64 a0_5,.int .i64 a0_6,.int .i64 a0_7,.slice A0_8 l0_8.length c0_8] 28 (0,0)) (by(with_reducible repeat first|apply zd|apply ze|apply za);exact BK162.out) hb);have n1_:=zm (below_step (by repeat(first|(with_reducible first|exact HB.out|apply zA|apply zD|apply zE|refine zS ?_ GE162.out)|exact HB.out)) hb);clear BK162 HB;have BK162:=n0_;have HB:=n1_;clear n0_ n1_;(try clear hb);(try clear hb2);(try clear hk);(try clear hi))|((with_reducible refine gate_callee (f:=114) rfl ?_);refine goesL_ (some 12) rfl rfl Try.func114 (by kernel_rfl) rfl #[.int .i64 a1] rfl (by(try simp only[List.map_toArray,List.map_cons,List.map_nil]);first|done|rfl|(simp only[List.length_drop,List.length_take];rfl)) ?_;(with_reducible refine(mr_Axis.calls a1 t164 _ A5.out).mono ?_);rintro e w' ⟨rfl,⟨nd,rfl⟩⟩;refine⟨_,rfl,?_⟩))
  go_ret
  exact⟨by first|rfl|(simp[errW_none,errW_some]<;>rfl)|(simp[*,errW_none,errW_some]<;>rfl),by repeat(first|(with_reducible first|exact HB.out|apply zA|apply zD|apply zE|refine zS ?_ GE162.out)|exact HB.out)⟩
 ·rw[if_neg c4] at H
  have c4b0:(t163==0)=false:=beq_eq_false_iff_ne.mpr c4
  have c4b1:(t163 != 0)=true:=bne_iff_ne.mpr c4
  obtain rfl:=Option.some.inj H
  go_enter Try.func72,Try.ntmps72
  go_wp2_with (first|((with_reducible refine gate_dst (N:=2) rfl ?_);refine box_event ?hg (N:=2) ?hd (cs:=#[.string a0_0,.int .i64 a0_1,.int .i64 a0_2,.int .i64 a0_3,.int .i64 a0_4,.int .i64 a0_5,.int .i64 a0_6,.int .i64 a0_7,.slice A0_8 l0_8.length c0_8]) (t:=28) ?hr ?_;(case hd=>rfl);(case hg=>rfl);(case hr=>first|(go_simp;done)|(go_simp;rfl));intro gb162 hg w9 hbox hb;have n0_:=zm (below_step (by repeat(first|(with_reducible first|exact HB.out|apply zA|apply zD|apply zE)|exact HB.out)) hb);have n1_:=zm (hbox);have n2_:=zm ((by rw[hg];exact(below_size (by repeat(first|(with_reducible first|exact HB.out|apply zA|apply zD|apply zE)|exact HB.out))):w.heap.size≤gb162));have n3_:=zm ((by rw[hg];exact(below_size (by repeat(first|(with_reducible first|exact HB.out|apply zA|apply zD|apply zE)|exact HB.out))):w.heap.size≤gb162));clear HB;have HB:=n0_;have BK162:=n1_;have GW162:=n2_;have GE162:=n3_;clear n0_ n1_ n2_ n3_;clear hb hbox hg;have hcz10_0:=zc BK162.out 0 (.string a0_0) rfl;have hcz10_1:=zc BK162.out 1 (.int .i64 a0_1) rfl;have hcz10_2:=zc BK162.out 2 (.int .i64 a0_2) rfl;have hcz10_3:=zc BK162.out 3 (.int .i64 a0_3) rfl;have hcz10_4:=zc BK162.out 4 (.int .i64 a0_4) rfl;have hcz10_5:=zc BK162.out 5 (.int .i64 a0_5) rfl;have hcz10_6:=zc BK162.out 6 (.int .i64 a0_6) rfl;have hcz10_7:=zc BK162.out 7 (.int .i64 a0_7) rfl;have hcz10_8:=zc BK162.out 8 (.slice A0_8 l0_8.length c0_8) rfl;have hfz10_0:=zf BK162.out 0;have hfz10_1:=zf BK162.out 1;have hfz10_2:=zf BK162.out 2;have hfz10_3:=zf BK162.out 3;have hfz10_4:=zf BK162.out 4;have hfz10_5:=zf BK162.out 5;have hfz10_6:=zf BK162.out 6;have hfz10_7:=zf BK162.out 7;have hfz10_8:=zf BK162.out 8)|((with_reducible refine gate_callee (f:=30) rfl ?_);refine goesL_ (some 7) rfl rfl Try.func30 (by kernel_rfl) rfl #[.agg #[.string a0_0,.int .i64 a0_1,.int .i64 a0_2,.int .i64 a0_3,.int .i64 a0_4,.int .i64 a0_5,.int .i64 a0_6,.int .i64 a0_7,.slice A0_8 l0_8.length c0_8]] rfl (by(try simp only[List.map_toArray,List.map_cons,List.map_nil]);first|done|rfl|(simp only[List.length_drop,List.length_take];rfl)) ?_;(with_reducible refine(mr_Check.calls k a0_0 a0_1 a0_2 a0_3 a0_4 a0_5 a0_6 a0_7 _ _ l0_8 t163 _ ?side1 ?side2 A3.out).mono ?_);(case side1=>repeat(first|exact(Kd.C_below HR0_8.out HB.out)|(with_reducible refine Kd.C_alloc ?_ _)|(with_reducible refine Kd.C_drewN ?_ _)|(with_reducible refine Kd.C_drew ?_)));(case side2=>exact HC0_8.out);rintro e w11 ⟨rfl,hb⟩;refine⟨_,rfl,?_⟩;have n0_:=zm (zb (g:=gb162) (o:=.cells #[.string a0_0,.int .i64 a0_1,.int .i64 a0_2,.int .i64 a0_3,.int .i64 a0_4,.int .i64 a0_5,.int .i64 a0_6,.int .i64 a0_7,.slice A0_8 l0_8.length c0_8] 28 (0,0)) (by(with_reducible repeat first|apply zd|apply ze|apply za);exact BK162.out) hb);have n1_:=zm (below_step (by repeat(first|(with_reducible first|exact HB.out|apply zA|apply zD|apply zE|refine zS ?_ GE162.out)|exact HB.out)) hb);clear BK162 HB;have BK162:=n0_;have HB:=n1_;clear n0_ n1_;(try clear hb);(try clear hb2);(try clear hk);(try clear hi)))
  go_ret
  exact⟨by first|rfl|(simp[errW_none,errW_some]<;>rfl)|(simp[*,errW_none,errW_some]<;>rfl),by repeat(first|(with_reducible first|exact HB.out|apply zA|apply zD|apply zE|refine zS ?_ GE162.out)|exact HB.out)⟩
end Go.Proofs.Ytkgdlbepjmgaiaa.Fea
