/- Part 5 of the texts behind the last one of this claim. -/
import Derived.Lib.SliceRun
import Derived.Lib.Walk
import Derived.RegionTactic
import Derived.BigRegion
import Derived.Shelf.Abstract
import Derived.Test.YtkgdlbepjmgaiaaZMoves4
set_option linter.unusedVariables false
set_option linter.unusedSimpArgs false
namespace Go.Proofs.Ytkgdlbepjmgaiaa.Fea
open Go.RowKit YtkgdlbepjmgaiaaW.PrintWords YtkgdlbepjmgaiaaW.PrintLast YtkgdlbepjmgaiaaW.PrintMore
attribute [local go_sem] max2_int min2_int max_two min_two max_three min_three max_four min_four
def mr_at.f (a0_0:ByteArray) (a0_1 a0_2 a0_3 a0_4 a0_5 a0_6 a0_7:Int) (l0_8:List (S104)) (a1_0 a1_1 a1_2:Int):Option (ByteArray×Int×Int×Int×Int×Int×Int×Int×(List (S104))):=some (a0_0,a0_1,a0_2,a1_0,a1_1,a1_2,a0_6,a0_7,l0_8)
set_option maxHeartbeats 8000000 in
set_option maxRecDepth 100000 in
theorem mr_at.calls (a0_0:ByteArray) (a0_1 a0_2 a0_3 a0_4 a0_5 a0_6 a0_7:Int) (P0_8_:Nat→Prop) (A0_8:Option Addr) (c0_8:Nat) (l0_8:List (S104)) (a1_0 a1_1 a1_2:Int) (r1:ByteArray) (r2 r3 r4 r5 r6 r7 r8:Int) (r9:List (S104)) (w:World) (hs0_8:Kd.V k104 104 w w.heap.size (fun k_=>P0_8_ k_) (.slice A0_8 l0_8.length c0_8) l0_8) (h:mr_at.f a0_0 a0_1 a0_2 a0_3 a0_4 a0_5 a0_6 a0_7 l0_8 a1_0 a1_1 a1_2=some (r1,r2,r3,r4,r5,r6,r7,r8,r9)):
 Calls Try.prog 105 #[.agg #[.string a0_0,.int .i64 a0_1,.int .i64 a0_2,.int .i64 a0_3,.int .i64 a0_4,.int .i64 a0_5,.int .i64 a0_6,.int .i64 a0_7,.slice A0_8 l0_8.length c0_8],.agg #[.int .i64 a1_0,.int .i64 a1_1,.int .i64 a1_2]] w fun e w'=>∃ v8_:Value,e=.returned (.agg #[.string r1,.int .i64 r2,.int .i64 r3,.int .i64 r4,.int .i64 r5,.int .i64 r6,.int .i64 r7,.int .i64 r8,v8_])∧Kd.V k104 104 w' w.heap.size (fun k_=>(P0_8_ k_∨w.heap.size≤k_)) v8_ r9∧Below w.heap.size w w':=by
 have hu28:=Try.underlying28
 have hu23:=Try.underlying23
 have HO0_8:=zm (show Kd.V k104 104 w w.heap.size (fun k_=>(P0_8_ k_∨w.heap.size≤k_)) (.slice A0_8 l0_8.length c0_8) l0_8 from Kd.V_mono hs0_8 (fun k_ hk=>.inl hk))
 have HB:=zm (Below.refl w.heap.size w)
 have H:(some (a0_0,a0_1,a0_2,a1_0,a1_1,a1_2,a0_6,a0_7,l0_8))=some (r1,r2,r3,r4,r5,r6,r7,r8,r9):=h
 clear h
 simp only[Option.some.injEq,Prod.mk.injEq] at H
 obtain⟨rfl,rfl,rfl,rfl,rfl,rfl,rfl,rfl,rfl⟩:=H
 go_enter Try.func105,Try.ntmps105
 go_wp2_with (first|((with_reducible refine gate_dst (N:=2) rfl ?_);refine box_event ?hg (N:=2) ?hd (cs:=#[.string a0_0,.int .i64 a0_1,.int .i64 a0_2,.int .i64 a0_3,.int .i64 a0_4,.int .i64 a0_5,.int .i64 a0_6,.int .i64 a0_7,.slice A0_8 l0_8.length c0_8]) (t:=28) ?hr ?_;(case hd=>rfl);(case hg=>rfl);(case hr=>first|(go_simp;done)|(go_simp;rfl));intro gb373 hg w3 hbox hb;have n0_:=zm (Kd.V_below (Kd.V_elderB (by(with_reducible repeat(first|apply Kd.V_alloc|apply Kd.V_drewN|apply Kd.V_drew));exact HO0_8.out) gb373 (Nat.le_of_eq hg.symm)) hb);have n1_:=zm (below_step (by repeat(first|(with_reducible first|exact HB.out|apply zA|apply zD|apply zE)|exact HB.out)) hb);have n2_:=zm (hbox);have n3_:=zm ((by rw[hg];exact(below_size (by repeat(first|(with_reducible first|exact HB.out|apply zA|apply zD|apply zE)|exact HB.out))):w.heap.size≤gb373));have n4_:=zm ((by rw[hg];exact(below_size (by repeat(first|(with_reducible first|exact HB.out|apply zA|apply zD|apply zE)|exact HB.out))):w.heap.size≤gb373));clear HO0_8 HB;have HO0_8:=n0_;have HB:=n1_;have BK373:=n2_;have GW373:=n3_;have GE373:=n4_;clear n0_ n1_ n2_ n3_ n4_;clear hb hbox hg)|((with_reducible refine gate_dst (N:=3) rfl ?_);refine box_event ?hg (N:=3) ?hd (cs:=#[.int .i64 a1_0,.int .i64 a1_1,.int .i64 a1_2]) (t:=23) ?hr ?_;(case hd=>rfl);(case hg=>rfl);(case hr=>first|(go_simp;done)|(go_simp;rfl));intro gb374 hg w4 hbox hb;have n0_:=zm (Kd.V_below (Kd.V_elderB (by(with_reducible repeat(first|apply Kd.V_alloc|apply Kd.V_drewN|apply Kd.V_drew));exact HO0_8.out) gb374 (Nat.le_of_eq hg.symm)) hb);have n1_:=zm (zb (g:=gb373) (o:=.cells #[.string a0_0,.int .i64 a0_1,.int .i64 a0_2,.int .i64 a0_3,.int .i64 a0_4,.int .i64 a0_5,.int .i64 a0_6,.int .i64 a0_7,.slice A0_8 l0_8.length c0_8] 28 (0,0)) (by(with_reducible repeat first|apply zd|apply ze|apply za);exact BK373.out) hb);have n2_:=zm (below_step (by repeat(first|(with_reducible first|exact HB.out|apply zA|apply zD|apply zE|refine zS ?_ GE373.out)|exact HB.out)) hb);have n3_:=zm (hbox);have n4_:=zm ((by rw[hg];exact(below_size (by repeat(first|(with_reducible first|exact HB.out|apply zA|apply zD|apply zE|refine zS ?_ GE373.out)|exact HB.out))):w.heap.size≤gb374));have n5_:=zm ((by rw[hg];exact(below_size (by repeat(first|(with_reducible first|exact HB.out|apply zA|apply zD|apply zE|refine zS ?_ GE373.out)|exact HB.out))):w.heap.size≤gb374));have n6_:=zm ((by rw[hg];exact Nat.ne_of_lt (blk_lt (g:=gb373) (o:=.cells #[.string a0_0,.int .i64 a0_1,.int .i64 a0_2,.int .i64 a0_3,.int .i64 a0_4,.int .i64 a0_5,.int .i64 a0_6,.int .i64 a0_7,.slice A0_8 l0_8.length c0_8] 28 (0,0)) (by(with_reducible repeat first|apply zd|apply ze|apply za);exact BK373.out)):gb373≠gb374));have n7_:=zm ((by rw[hg];exact Nat.ne_of_gt (blk_lt (g:=gb373) (o:=.cells #[.string a0_0,.int .i64 a0_1,.int .i64 a0_2,.int .i64 a0_3,.int .i64 a0_4,.int .i64 a0_5,.int .i64 a0_6,.int .i64 a0_7,.slice A0_8 l0_8.length c0_8] 28 (0,0)) (by(with_reducible repeat first|apply zd|apply ze|apply za);exact BK373.out)):gb374≠gb373));clear HO0_8 BK373 HB;have HO0_8:=n0_;have BK373:=n1_;have HB:=n2_;have BK374:=n3_;have GW374:=n4_;have GE374:=n5_;have NB373_374:=n6_;have NB374_373:=n7_;clear n0_ n1_ n2_ n3_ n4_ n5_ n6_ n7_;clear hb hbox hg)|((with_reducible refine gate_dst (N:=4) rfl ?_);refine box_event ?hg (N:=4) ?hd (cs:=#[.string (⟨#[]⟩:ByteArray),.int .i64 0,.int .i64 0,.int .i64 0,.int .i64 0,.int .i64 0,.int .i64 0,.int .i64 0,.slice none 0 0]) (t:=28) ?hr ?_;(case hd=>rfl);(case hg=>rfl);(case hr=>first|(go_simp;done)|(go_simp;rfl));intro gb375 hg w5 hbox hb;have n0_:=zm (Kd.V_below (Kd.V_elderB (by(with_reducible repeat(first|apply Kd.V_alloc|apply Kd.V_drewN|apply Kd.V_drew));exact HO0_8.out) gb375 (Nat.le_of_eq hg.symm)) hb);have n1_:=zm (zb (g:=gb373) (o:=.cells #[.string a0_0,.int .i64 a0_1,.int .i64 a0_2,.int .i64 a0_3,.int .i64 a0_4,.int .i64 a0_5,.int .i64 a0_6,.int .i64 a0_7,.slice A0_8 l0_8.length c0_8] 28 (0,0)) (by(with_reducible repeat first|apply zd|apply ze|apply za);exact BK373.out) hb);have n2_:=zm (zb (g:=gb374) (o:=.cells #[.int .i64 a1_0,.int .i64 a1_1,.int .i64 a1_2] 23 (0,0)) (by(with_reducible repeat first|apply zd|apply ze|apply za);exact BK374.out) hb);have n3_:=zm (below_step (by repeat(first|(with_reducible first|exact HB.out|apply zA|apply zD|apply zE|refine zS ?_ GE373.out|refine zS ?_ GE374.out)|exact HB.out)) hb);have n4_:=zm (hbox);have n5_:=zm ((by rw[hg];exact(below_size (by repeat(first|(with_reducible first|exact HB.out|apply zA|apply zD|apply zE|refine zS ?_ GE373.out|refine zS ?_ GE374.out)|exact HB.out))):w.heap.size≤gb375));have n6_:=zm ((by rw[hg];exact(below_size (by repeat(first|(with_reducible first|exact HB.out|apply zA|apply zD|apply zE|refine zS ?_ GE373.out|refine zS ?_ GE374.out)|exact HB.out))):w.heap.size≤gb375));have n7_:=zm ((by rw[hg];exact Nat.ne_of_lt (blk_lt (g:=gb373) (o:=.cells #[.string a0_0,.int .i64 a0_1,.int .i64 a0_2,.int .i64 a0_3,.int .i64 a0_4,.int .i64 a0_5,.int .i64 a0_6,.int .i64 a0_7,.slice A0_8 l0_8.length c0_8] 28 (0,0)) (by(with_reducible repeat first|apply zd|apply ze|apply za);exact BK373.out)):gb373≠gb375));have n8_:=zm ((by rw[hg];exact Nat.ne_of_gt (blk_lt (g:=gb373) (o:=.cells #[.string a0_0,.int .i64 a0_1,.int .i64 a0_2,.int .i64 a0_3,.int .i64 a0_4,.int .i64 a0_5,.int .i64 a0_6,.int .i64 a0_7,.slice A0_8 l0_8.length c0_8] 28 (0,0)) (by(with_reducible repeat first|apply zd|apply ze|apply za);exact BK373.out)):gb375≠gb373));have n9_:=zm ((by rw[hg];exact Nat.ne_of_lt (blk_lt (g:=gb374) (o:=.cells #[.int .i64 a1_0,.int .i64 a1_1,.int .i64 a1_2] 23 (0,0)) (by(with_reducible repeat first|apply zd|apply ze|apply za);exact BK374.out)):gb374≠gb375));have n10_:=zm ((by rw[hg];exact Nat.ne_of_gt (blk_lt (g:=gb374) (o:=.cells #[.int .i64 a1_0,.int .i64 a1_1,.int .i64 a1_2] 23 (0,0)) (by(with_reducible repeat first|apply zd|apply ze|apply za);exact BK374.out)):gb375≠gb374));clear HO0_8 BK373 BK374 HB;have HO0_8:=n0_;have BK373:=n1_;have BK374:=n2_;have HB:=n3_;have BK375:=n4_;have GW375:=n5_;have GE375:=n6_;have NB373_375:=n7_;have NB375_373:=n8_;have NB374_375:=n9_;have NB375_374:=n10_;clear n0_ n1_ n2_ n3_ n4_ n5_ n6_ n7_ n8_ n9_ n10_;clear hb hbox hg;have hnb6:=NB374_373.out;have hnc6:=NB373_374.out;have hnb7:=NB374_375.out;have hnc7:=NB375_374.out;have hcz8_0:=zc BK374.out 0 (.int .i64 a1_0) rfl;have hcz8_1:=zc BK374.out 1 (.int .i64 a1_1) rfl;have hcz8_2:=zc BK374.out 2 (.int .i64 a1_2) rfl;have hfz8_0:=zf BK374.out 0;have hfz8_1:=zf BK374.out 1;have hfz8_2:=zf BK374.out 2;have hnb9:=NB373_375.out;have hnc9:=NB375_373.out;have hcz10_0:=zc BK373.out 0 (.string a0_0) rfl;have hcz10_1:=zc BK373.out 1 (.int .i64 a0_1) rfl;have hcz10_2:=zc BK373.out 2 (.int .i64 a0_2) rfl;have hcz10_3:=zc BK373.out 3 (.int .i64 a0_3) rfl;have hcz10_4:=zc BK373.out 4 (.int .i64 a0_4) rfl;have hcz10_5:=zc BK373.out 5 (.int .i64 a0_5) rfl;have hcz10_6:=zc BK373.out 6 (.int .i64 a0_6) rfl;have hcz10_7:=zc BK373.out 7 (.int .i64 a0_7) rfl;have hcz10_8:=zc BK373.out 8 (.slice A0_8 l0_8.length c0_8) rfl;have hfz10_0:=zf BK373.out 0;have hfz10_1:=zf BK373.out 1;have hfz10_2:=zf BK373.out 2;have hfz10_3:=zf BK373.out 3;have hfz10_4:=zf BK373.out 4;have hfz10_5:=zf BK373.out 5;have hfz10_6:=zf BK373.out 6;have hfz10_7:=zf BK373.out 7;have hfz10_8:=zf BK373.out 8;have hcz11_0:=zc BK375.out 0 (.string (⟨#[]⟩:ByteArray)) rfl;have hcz11_1:=zc BK375.out 1 (.int .i64 0) rfl;have hcz11_2:=zc BK375.out 2 (.int .i64 0) rfl;have hcz11_3:=zc BK375.out 3 (.int .i64 0) rfl;have hcz11_4:=zc BK375.out 4 (.int .i64 0) rfl;have hcz11_5:=zc BK375.out 5 (.int .i64 0) rfl;have hcz11_6:=zc BK375.out 6 (.int .i64 0) rfl;have hcz11_7:=zc BK375.out 7 (.int .i64 0) rfl;have hcz11_8:=zc BK375.out 8 (.slice none 0 0) rfl;have hfz11_0:=zf BK375.out 0;have hfz11_1:=zf BK375.out 1;have hfz11_2:=zf BK375.out 2;have hfz11_3:=zf BK375.out 3;have hfz11_4:=zf BK375.out 4;have hfz11_5:=zf BK375.out 5;have hfz11_6:=zf BK375.out 6;have hfz11_7:=zf BK375.out 7;have hfz11_8:=zf BK375.out 8))
 refine bodyPost_ret (results_cell_row rfl _ _ gb375 28 #[.string a0_0,.int .i64 a0_1,.int .i64 a0_2,.int .i64 a1_0,.int .i64 a1_1,.int .i64 a1_2,.int .i64 a0_6,.int .i64 a0_7,.slice A0_8 l0_8.length c0_8] (0,0) _ rfl (by(with_reducible repeat first|apply zd|apply ze|apply za);refine blk_put (cs:=#[.string a0_0,.int .i64 a0_1,.int .i64 a0_2,.int .i64 a1_0,.int .i64 a1_1,.int .i64 a1_2,.int .i64 a0_6,.int .i64 a0_7,.slice none 0 0]) ?_ 8 _ rfl;(with_reducible repeat first|apply zd|apply ze|apply za);refine blk_put (cs:=#[.string a0_0,.int .i64 a0_1,.int .i64 a0_2,.int .i64 a1_0,.int .i64 a1_1,.int .i64 a1_2,.int .i64 a0_6,.int .i64 0,.slice none 0 0]) ?_ 7 _ rfl;(with_reducible repeat first|apply zd|apply ze|apply za);refine blk_put (cs:=#[.string a0_0,.int .i64 a0_1,.int .i64 a0_2,.int .i64 a1_0,.int .i64 a1_1,.int .i64 a1_2,.int .i64 0,.int .i64 0,.slice none 0 0]) ?_ 6 _ rfl;(with_reducible repeat first|apply zd|apply ze|apply za);refine blk_put (cs:=#[.string a0_0,.int .i64 a0_1,.int .i64 a0_2,.int .i64 a1_0,.int .i64 a1_1,.int .i64 0,.int .i64 0,.int .i64 0,.slice none 0 0]) ?_ 5 _ rfl;(with_reducible repeat first|apply zd|apply ze|apply za);refine blk_put (cs:=#[.string a0_0,.int .i64 a0_1,.int .i64 a0_2,.int .i64 a1_0,.int .i64 0,.int .i64 0,.int .i64 0,.int .i64 0,.slice none 0 0]) ?_ 4 _ rfl;(with_reducible repeat first|apply zd|apply ze|apply za);refine blk_put (cs:=#[.string a0_0,.int .i64 a0_1,.int .i64 a0_2,.int .i64 0,.int .i64 0,.int .i64 0,.int .i64 0,.int .i64 0,.slice none 0 0]) ?_ 3 _ rfl;(with_reducible repeat first|apply zd|apply ze|apply za);refine blk_put (cs:=#[.string a0_0,.int .i64 a0_1,.int .i64 0,.int .i64 0,.int .i64 0,.int .i64 0,.int .i64 0,.int .i64 0,.slice none 0 0]) ?_ 2 _ rfl;(with_reducible repeat first|apply zd|apply ze|apply za);refine blk_put (cs:=#[.string a0_0,.int .i64 0,.int .i64 0,.int .i64 0,.int .i64 0,.int .i64 0,.int .i64 0,.int .i64 0,.slice none 0 0]) ?_ 1 _ rfl;(with_reducible repeat first|apply zd|apply ze|apply za);refine blk_put (cs:=#[.string (⟨#[]⟩:ByteArray),.int .i64 0,.int .i64 0,.int .i64 0,.int .i64 0,.int .i64 0,.int .i64 0,.int .i64 0,.slice none 0 0]) ?_ 0 _ rfl;(with_reducible repeat first|apply zd|apply ze|apply za);refine blk_far ?_ NB375_373.out _;(with_reducible repeat first|apply zd|apply ze|apply za);refine blk_far ?_ NB375_373.out _;(with_reducible repeat first|apply zd|apply ze|apply za);refine blk_far ?_ NB375_373.out _;(with_reducible repeat first|apply zd|apply ze|apply za);exact BK375.out) Try.underlying28 rfl (by kernel_rfl)) rfl ?_
 exact⟨_,by first|rfl|(simp[errW_none,errW_some]<;>rfl)|(simp[*,errW_none,errW_some]<;>rfl),by(with_reducible repeat(first|apply Kd.V_alloc|apply Kd.V_drewN|apply Kd.V_drew));exact Kd.V_mono (zV gb375 (Kd.V_far (p:=⟨gb373,5,none⟩) (Kd.V_far (p:=⟨gb373,4,none⟩) (Kd.V_far (p:=⟨gb373,3,none⟩) (Kd.V_mono (Kd.V_mono HO0_8.out (fun k_ hk=>(⟨hk,hk.1.1.2⟩:_∧k_≠gb373))) (fun k_ hk=>(⟨hk,hk.1.2⟩:_∧k_≠gb375))) (fun _ hk=>hk.1.2) (.int .i64 a1_0)) (fun _ hk=>hk.1.2) (.int .i64 a1_1)) (fun _ hk=>hk.1.2) (.int .i64 a1_2)) (fun _ hk=>hk.2) (.string a0_0) (.int .i64 a0_1) (.int .i64 a0_2) (.int .i64 a1_0) (.int .i64 a1_1) (.int .i64 a1_2) (.int .i64 a0_6) (.int .i64 a0_7) (.slice A0_8 l0_8.length c0_8)) (fun _ hk=>hk.1.1.1.1.1),by repeat(first|(with_reducible first|exact HB.out|apply zA|apply zD|apply zE|refine zS ?_ GE373.out|refine zS ?_ GE374.out|refine zS ?_ GE375.out)|exact HB.out)⟩
def mr_Coordinates.f (a0_0 a0_1 a0_2:Int):Option (Int×Int×Int):=some (a0_0,a0_1,a0_2)
theorem mr_Coordinates.calls (a0_0 a0_1 a0_2 r1 r2 r3:Int) (w:World) (h:mr_Coordinates.f a0_0 a0_1 a0_2=some (r1,r2,r3)):
    Calls Try.prog 104 #[.agg #[.int .i64 a0_0,.int .i64 a0_1,.int .i64 a0_2]] w fun e w'=>e=.returned (.agg #[.int .i64 r1,.int .i64 r2,.int .i64 r3])∧Below w.heap.size w w':=by
  simp only[mr_Coordinates.f,Option.some.injEq,Prod.mk.injEq] at h
  obtain⟨rfl,rfl,rfl⟩:=h
  exact rcoord_calls a0_0 a0_1 a0_2 w
def mr_Place.f (a0_0 a0_1 a0_2:Int):Option (Int×Int×Int):=some (a0_0,a0_1,a0_2)
theorem mr_Place.calls (a0_0 a0_1 a0_2 r1 r2 r3:Int) (w:World) (h:mr_Place.f a0_0 a0_1 a0_2=some (r1,r2,r3)):
    Calls Try.prog 106 #[.agg #[.int .i64 a0_0,.int .i64 a0_1,.int .i64 a0_2]] w fun e w'=>e=.returned (.agg #[.int .i64 r1,.int .i64 r2,.int .i64 r3])∧Below w.heap.size w w':=by
  simp only[mr_Place.f,Option.some.injEq,Prod.mk.injEq] at h
  obtain⟨rfl,rfl,rfl⟩:=h
  exact rplace_calls a0_0 a0_1 a0_2 w
def negAt.f (x y z a:Int):Option (Int×Int×Int):=some (if a=0 then(wrap64 (-x),y,z) else if a=1 then(x,wrap64 (-y),z) else(x,y,wrap64 (-z)))
theorem given_rng {k:Nat} {nm:ByteArray} {y1 y2 y3 y4 y5 y6 y7:Int} {l:List S104} {a t:Int} (h:mr_given.f k nm y1 y2 y3 y4 y5 y6 y7 l a=some t) (ht:t=0):0≤a∧a < 3:=by
  subst ht
  unfold mr_given.f mr_Axis.f at h
  obtain⟨c,_,h⟩:=Option.bind_eq_some_iff.mp h
  split at h
  · obtain⟨d,h1,h2⟩:=Option.bind_eq_some_iff.mp h
    obtain rfl:=Option.some.inj h2
    split at h1
    · cases h1
    · split at h1
      · cases h1
      · omega
  · rename_i hc
    exact absurd (Option.some.inj h) hc
def mr_Mirror.f (k:Nat) (a0_0:ByteArray) (a0_1 a0_2 a0_3 a0_4 a0_5 a0_6 a0_7:Int) (l0_8:List (S104)) (a1:Int):Option (ByteArray×Int×Int×Int×Int×Int×Int×Int×(List (S104))×Int):=(mr_given.f k a0_0 a0_1 a0_2 a0_3 a0_4 a0_5 a0_6 a0_7 l0_8 a1).bind fun t179=>(if t179=0 then((mr_Coordinates.f a0_3 a0_4 a0_5).bind fun bt180=>((negAt.f bt180.1 bt180.2.1 bt180.2.2 a1).bind fun bt184=>((mr_Place.f bt184.1 bt184.2.1 bt184.2.2).bind fun bt187=>((mr_at.f a0_0 a0_1 a0_2 a0_3 a0_4 a0_5 a0_6 a0_7 l0_8 bt187.1 bt187.2.1 bt187.2.2).bind fun bt190=>(some (bt190.1,bt190.2.1,bt190.2.2.1,bt190.2.2.2.1,bt190.2.2.2.2.1,bt190.2.2.2.2.2.1,bt190.2.2.2.2.2.2.1,bt190.2.2.2.2.2.2.2.1,bt190.2.2.2.2.2.2.2.2,0)))))) else(some ((⟨#[]⟩:ByteArray),0,0,0,0,0,0,0,([]:List (S104)),t179)))
theorem mr_Mirror.mono:∀ a0 a1 a2 a3 a4 a5 a6 a7 a8 a9 k,LeO (mr_Mirror.f k a0 a1 a2 a3 a4 a5 a6 a7 a8 a9) (mr_Mirror.f (k+1) a0 a1 a2 a3 a4 a5 a6 a7 a8 a9):=by
 intro a0 a1 a2 a3 a4 a5 a6 a7 a8 a9 k
 unfold mr_Mirror.f
 repeat' first
  | (with_reducible exact mr_given.mono _ _ _ _ _ _ _ _ _ _ _)
  | (with_reducible exact LeO.refl _)
  | (with_reducible exact LeO.none _)
  | (with_reducible refine LeO.ite ?_ ?_)
  | (with_reducible refine LeO.bind ?_ (fun _=>?_))
  | exact mr_given.mono _ _ _ _ _ _ _ _ _ _ _
  | exact LeO.none _
  | refine LeO.ite ?_ ?_
  | refine LeO.bind ?_ (fun _=>?_)
set_option maxHeartbeats 8000000 in
set_option maxRecDepth 100000 in
theorem mr_Mirror.calls (k:Nat) (a0_0:ByteArray) (a0_1 a0_2 a0_3 a0_4 a0_5 a0_6 a0_7:Int) (P0_8_:Nat→Prop) (A0_8:Option Addr) (c0_8:Nat) (l0_8:List (S104)) (a1:Int) (r1:ByteArray) (r2 r3 r4 r5 r6 r7 r8:Int) (r9:List (S104)) (r10:Int) (w:World) (hs0_8:Kd.V k104 104 w w.heap.size (fun k_=>P0_8_ k_) (.slice A0_8 l0_8.length c0_8) l0_8) (h:mr_Mirror.f k a0_0 a0_1 a0_2 a0_3 a0_4 a0_5 a0_6 a0_7 l0_8 a1=some (r1,r2,r3,r4,r5,r6,r7,r8,r9,r10)):
 Calls Try.prog 52 #[.agg #[.string a0_0,.int .i64 a0_1,.int .i64 a0_2,.int .i64 a0_3,.int .i64 a0_4,.int .i64 a0_5,.int .i64 a0_6,.int .i64 a0_7,.slice A0_8 l0_8.length c0_8],.int .i64 a1] w fun e w'=>∃ v8_:Value,e=.returned (.tuple #[.agg #[.string r1,.int .i64 r2,.int .i64 r3,.int .i64 r4,.int .i64 r5,.int .i64 r6,.int .i64 r7,.int .i64 r8,v8_],.int .i64 r10])∧Kd.V k104 104 w' w.heap.size (fun k_=>(P0_8_ k_∨w.heap.size≤k_)) v8_ r9∧Below w.heap.size w w':=by
 have hu28:=Try.underlying28
 have hu23:=Try.underlying23
 have hu128:=Try.underlying128
 have HO0_8:=zm (show Kd.V k104 104 w w.heap.size (fun k_=>(P0_8_ k_∨w.heap.size≤k_)) (.slice A0_8 l0_8.length c0_8) l0_8 from Kd.V_mono hs0_8 (fun k_ hk=>.inl hk))
 have HB:=zm (Below.refl w.heap.size w)
 have H:((mr_given.f k a0_0 a0_1 a0_2 a0_3 a0_4 a0_5 a0_6 a0_7 l0_8 a1).bind fun t179=>(if t179=0 then((mr_Coordinates.f a0_3 a0_4 a0_5).bind fun bt180=>((negAt.f bt180.1 bt180.2.1 bt180.2.2 a1).bind fun bt184=>((mr_Place.f bt184.1 bt184.2.1 bt184.2.2).bind fun bt187=>((mr_at.f a0_0 a0_1 a0_2 a0_3 a0_4 a0_5 a0_6 a0_7 l0_8 bt187.1 bt187.2.1 bt187.2.2).bind fun bt190=>(some (bt190.1,bt190.2.1,bt190.2.2.1,bt190.2.2.2.1,bt190.2.2.2.2.1,bt190.2.2.2.2.2.1,bt190.2.2.2.2.2.2.1,bt190.2.2.2.2.2.2.2.1,bt190.2.2.2.2.2.2.2.2,0)))))) else(some ((⟨#[]⟩:ByteArray),0,0,0,0,0,0,0,([]:List (S104)),t179))))=some (r1,r2,r3,r4,r5,r6,r7,r8,r9,r10):=h
 clear h
 replace H:=Option.bind_eq_some_iff.mp H
 obtain⟨t179,A30,H⟩:=H
 replace H:(if t179=0 then((mr_Coordinates.f a0_3 a0_4 a0_5).bind fun bt180=>((negAt.f bt180.1 bt180.2.1 bt180.2.2 a1).bind fun bt184=>((mr_Place.f bt184.1 bt184.2.1 bt184.2.2).bind fun bt187=>((mr_at.f a0_0 a0_1 a0_2 a0_3 a0_4 a0_5 a0_6 a0_7 l0_8 bt187.1 bt187.2.1 bt187.2.2).bind fun bt190=>(some (bt190.1,bt190.2.1,bt190.2.2.1,bt190.2.2.2.1,bt190.2.2.2.2.1,bt190.2.2.2.2.2.1,bt190.2.2.2.2.2.2.1,bt190.2.2.2.2.2.2.2.1,bt190.2.2.2.2.2.2.2.2,0)))))) else(some ((⟨#[]⟩:ByteArray),0,0,0,0,0,0,0,([]:List (S104)),t179)))=some (r1,r2,r3,r4,r5,r6,r7,r8,r9,r10):=H
 have A3:=zm A30
 clear A30
 by_cases c4:t179=0
 ·rw[if_pos c4] at H
  have hax:=zm (given_rng A3.out c4)
  have c4b0:(t179==0)=true:=beq_iff_eq.mpr c4
  have c4b1:(t179 != 0)=false:=bne_eq_false_iff_eq.mpr c4
  clear c4
  replace H:=Option.bind_eq_some_iff.mp H
  obtain⟨⟨t180,t181,t182⟩,A50,H⟩:=H
  replace H:((negAt.f t180 t181 t182 a1).bind fun bt184=>((mr_Place.f bt184.1 bt184.2.1 bt184.2.2).bind fun bt187=>((mr_at.f a0_0 a0_1 a0_2 a0_3 a0_4 a0_5 a0_6 a0_7 l0_8 bt187.1 bt187.2.1 bt187.2.2).bind fun bt190=>(some (bt190.1,bt190.2.1,bt190.2.2.1,bt190.2.2.2.1,bt190.2.2.2.2.1,bt190.2.2.2.2.2.1,bt190.2.2.2.2.2.2.1,bt190.2.2.2.2.2.2.2.1,bt190.2.2.2.2.2.2.2.2,0)))))=some (r1,r2,r3,r4,r5,r6,r7,r8,r9,r10):=H
  have A5:=zm A50
  clear A50
  replace H:=Option.bind_eq_some_iff.mp H
  obtain⟨⟨t184,t185,t186⟩,A60,H⟩:=H
  replace H:((mr_Place.f t184 t185 t186).bind fun bt187=>((mr_at.f a0_0 a0_1 a0_2 a0_3 a0_4 a0_5 a0_6 a0_7 l0_8 bt187.1 bt187.2.1 bt187.2.2).bind fun bt190=>(some (bt190.1,bt190.2.1,bt190.2.2.1,bt190.2.2.2.1,bt190.2.2.2.2.1,bt190.2.2.2.2.2.1,bt190.2.2.2.2.2.2.1,bt190.2.2.2.2.2.2.2.1,bt190.2.2.2.2.2.2.2.2,0))))=some (r1,r2,r3,r4,r5,r6,r7,r8,r9,r10):=H
  have A6:=zm A60
  clear A60
  replace H:=Option.bind_eq_some_iff.mp H
  obtain⟨⟨t187,t188,t189⟩,A70,H⟩:=H
  replace H:((mr_at.f a0_0 a0_1 a0_2 a0_3 a0_4 a0_5 a0_6 a0_7 l0_8 t187 t188 t189).bind fun bt190=>(some (bt190.1,bt190.2.1,bt190.2.2.1,bt190.2.2.2.1,bt190.2.2.2.2.1,bt190.2.2.2.2.2.1,bt190.2.2.2.2.2.2.1,bt190.2.2.2.2.2.2.2.1,bt190.2.2.2.2.2.2.2.2,0)))=some (r1,r2,r3,r4,r5,r6,r7,r8,r9,r10):=H
  have A7:=zm A70
  clear A70
  replace H:=Option.bind_eq_some_iff.mp H
  obtain⟨⟨t190,t191,t192,t193,t194,t195,t196,t197,t198⟩,A80,H⟩:=H
  replace H:(some (t190,t191,t192,t193,t194,t195,t196,t197,t198,0))=some (r1,r2,r3,r4,r5,r6,r7,r8,r9,r10):=H
  have A8:=zm A80
  clear A80
  simp only[Option.some.injEq,Prod.mk.injEq] at H
  obtain⟨rfl,rfl,rfl,rfl,rfl,rfl,rfl,rfl,rfl,rfl⟩:=H
  go_enter Try.func52,Try.ntmps52
  go_upto_region 5 with (first|((with_reducible refine gate_dst (N:=2) rfl ?_);refine box_event ?hg (N:=2) ?hd (cs:=#[.string a0_0,.int .i64 a0_1,.int .i64 a0_2,.int .i64 a0_3,.int .i64 a0_4,.int .i64 a0_5,.int .i64 a0_6,.int .i64 a0_7,.slice A0_8 l0_8.length c0_8]) (t:=28) ?hr ?_;(case hd=>rfl);(case hg=>rfl);(case hr=>first|(go_simp;done)|(go_simp;rfl));intro gb177 hg w9 hbox hb;have n0_:=zm (Kd.V_below (Kd.V_elderB (by(with_reducible repeat(first|apply Kd.V_alloc|apply Kd.V_drewN|apply Kd.V_drew));exact HO0_8.out) gb177 (Nat.le_of_eq hg.symm)) hb);have n1_:=zm (below_step (by repeat(first|(with_reducible first|exact HB.out|apply zA|apply zD|apply zE)|exact HB.out)) hb);have n2_:=zm (hbox);have n3_:=zm ((by rw[hg];exact(below_size (by repeat(first|(with_reducible first|exact HB.out|apply zA|apply zD|apply zE)|exact HB.out))):w.heap.size≤gb177));have n4_:=zm ((by rw[hg];exact(below_size (by repeat(first|(with_reducible first|exact HB.out|apply zA|apply zD|apply zE)|exact HB.out))):w.heap.size≤gb177));clear HO0_8 HB;have HO0_8:=n0_;have HB:=n1_;have BK177:=n2_;have GW177:=n3_;have GE177:=n4_;clear n0_ n1_ n2_ n3_ n4_;clear hb hbox hg)|((with_reducible refine gate_dst (N:=4) rfl ?_);refine box_event ?hg (N:=4) ?hd (cs:=#[.string (⟨#[]⟩:ByteArray),.int .i64 0,.int .i64 0,.int .i64 0,.int .i64 0,.int .i64 0,.int .i64 0,.int .i64 0,.slice none 0 0]) (t:=28) ?hr ?_;(case hd=>rfl);(case hg=>rfl);(case hr=>first|(go_simp;done)|(go_simp;rfl));intro gb178 hg w10 hbox hb;have n0_:=zm (Kd.V_below (Kd.V_elderB (by(with_reducible repeat(first|apply Kd.V_alloc|apply Kd.V_drewN|apply Kd.V_drew));exact HO0_8.out) gb178 (Nat.le_of_eq hg.symm)) hb);have n1_:=zm (zb (g:=gb177) (o:=.cells #[.string a0_0,.int .i64 a0_1,.int .i64 a0_2,.int .i64 a0_3,.int .i64 a0_4,.int .i64 a0_5,.int .i64 a0_6,.int .i64 a0_7,.slice A0_8 l0_8.length c0_8] 28 (0,0)) (by(with_reducible repeat first|apply zd|apply ze|apply za);exact BK177.out) hb);have n2_:=zm (below_step (by repeat(first|(with_reducible first|exact HB.out|apply zA|apply zD|apply zE|refine zS ?_ GE177.out)|exact HB.out)) hb);have n3_:=zm (hbox);have n4_:=zm ((by rw[hg];exact(below_size (by repeat(first|(with_reducible first|exact HB.out|apply zA|apply zD|apply zE|refine zS ?_ GE177.out)|exact HB.out))):w.heap.size≤gb178));have n5_:=zm ((by rw[hg];exact(below_size (by repeat(first|(with_reducible first|exact HB.out|apply zA|apply zD|apply zE|refine zS ?_ GE177.out)|exact HB.out))):w.heap.size≤gb178));have n6_:=zm ((by rw[hg];exact Nat.ne_of_lt (blk_lt (g:=gb177) (o:=.cells #[.string a0_0,.int .i64 a0_1,.int .i64 a0_2,.int .i64 a0_3,.int .i64 a0_4,.int .i64 a0_5,.int .i64 a0_6,.int .i64 a0_7,.slice A0_8 l0_8.length c0_8] 28 (0,0)) (by(with_reducible repeat first|apply zd|apply ze|apply za);exact BK177.out)):gb177≠gb178));have n7_:=zm ((by rw[hg];exact Nat.ne_of_gt (blk_lt (g:=gb177) (o:=.cells #[.string a0_0,.int .i64 a0_1,.int .i64 a0_2,.int .i64 a0_3,.int .i64 a0_4,.int .i64 a0_5,.int .i64 a0_6,.int .i64 a0_7,.slice A0_8 l0_8.length c0_8] 28 (0,0)) (by(with_reducible repeat first|apply zd|apply ze|apply za);exact BK177.out)):gb178≠gb177));clear HO0_8 BK177 HB;have HO0_8:=n0_;have BK177:=n1_;have HB:=n2_;have BK178:=n3_;have GW178:=n4_;have GE178:=n5_;have NB177_178:=n6_;have NB178_177:=n7_;clear n0_ n1_ n2_ n3_ n4_ n5_ n6_ n7_;clear hb hbox hg;have hnb11:=NB177_178.out;have hnc11:=NB178_177.out;have hcz12_0:=zc BK177.out 0 (.string a0_0) rfl;have hcz12_1:=zc BK177.out 1 (.int .i64 a0_1) rfl;have hcz12_2:=zc BK177.out 2 (.int .i64 a0_2) rfl;have hcz12_3:=zc BK177.out 3 (.int .i64 a0_3) rfl;have hcz12_4:=zc BK177.out 4 (.int .i64 a0_4) rfl;have hcz12_5:=zc BK177.out 5 (.int .i64 a0_5) rfl;have hcz12_6:=zc BK177.out 6 (.int .i64 a0_6) rfl;have hcz12_7:=zc BK177.out 7 (.int .i64 a0_7) rfl;have hcz12_8:=zc BK177.out 8 (.slice A0_8 l0_8.length c0_8) rfl;have hfz12_0:=zf BK177.out 0;have hfz12_1:=zf BK177.out 1;have hfz12_2:=zf BK177.out 2;have hfz12_3:=zf BK177.out 3;have hfz12_4:=zf BK177.out 4;have hfz12_5:=zf BK177.out 5;have hfz12_6:=zf BK177.out 6;have hfz12_7:=zf BK177.out 7;have hfz12_8:=zf BK177.out 8)|((with_reducible refine gate_callee (f:=72) rfl ?_);refine goesL_ (some 10) rfl rfl Try.func72 (by kernel_rfl) rfl #[.agg #[.string a0_0,.int .i64 a0_1,.int .i64 a0_2,.int .i64 a0_3,.int .i64 a0_4,.int .i64 a0_5,.int .i64 a0_6,.int .i64 a0_7,.slice A0_8 l0_8.length c0_8],.int .i64 a1] rfl (by(try simp only[List.map_toArray,List.map_cons,List.map_nil]);first|done|rfl|(simp only[List.length_drop,List.length_take];rfl)) ?_;(with_reducible refine(mr_given.calls k a0_0 a0_1 a0_2 a0_3 a0_4 a0_5 a0_6 a0_7 _ _ l0_8 a1 t179 _ ?side1 ?side2 A3.out).mono ?_);(case side1=>repeat(first|exact(Kd.V_reads' HO0_8.out).2.2|(with_reducible refine Kd.C_alloc ?_ _)|(with_reducible refine Kd.C_drewN ?_ _)|(with_reducible refine Kd.C_drew ?_)));(case side2=>exact(Kd.V_reads' HO0_8.out).2.1);rintro e w13 ⟨rfl,hb⟩;refine⟨_,rfl,?_⟩;have n0_:=zm (Kd.V_below (by(with_reducible repeat(first|apply Kd.V_alloc|apply Kd.V_drewN|apply Kd.V_drew));exact HO0_8.out) hb);have n1_:=zm (zb (g:=gb177) (o:=.cells #[.string a0_0,.int .i64 a0_1,.int .i64 a0_2,.int .i64 a0_3,.int .i64 a0_4,.int .i64 a0_5,.int .i64 a0_6,.int .i64 a0_7,.slice A0_8 l0_8.length c0_8] 28 (0,0)) (by(with_reducible repeat first|apply zd|apply ze|apply za);exact BK177.out) hb);have n2_:=zm (zb (g:=gb178) (o:=.cells #[.string (⟨#[]⟩:ByteArray),.int .i64 0,.int .i64 0,.int .i64 0,.int .i64 0,.int .i64 0,.int .i64 0,.int .i64 0,.slice none 0 0] 28 (0,0)) (by(with_reducible repeat first|apply zd|apply ze|apply za);exact BK178.out) hb);have n3_:=zm (below_step (by repeat(first|(with_reducible first|exact HB.out|apply zA|apply zD|apply zE|refine zS ?_ GE177.out|refine zS ?_ GE178.out)|exact HB.out)) hb);clear HO0_8 BK177 BK178 HB;have HO0_8:=n0_;have BK177:=n1_;have BK178:=n2_;have HB:=n3_;clear n0_ n1_ n2_ n3_;(try clear hb);(try clear hb2);(try clear hk);(try clear hi);have hcz14_0:=zc BK177.out 0 (.string a0_0) rfl;have hcz14_1:=zc BK177.out 1 (.int .i64 a0_1) rfl;have hcz14_2:=zc BK177.out 2 (.int .i64 a0_2) rfl;have hcz14_3:=zc BK177.out 3 (.int .i64 a0_3) rfl;have hcz14_4:=zc BK177.out 4 (.int .i64 a0_4) rfl;have hcz14_5:=zc BK177.out 5 (.int .i64 a0_5) rfl;have hcz14_6:=zc BK177.out 6 (.int .i64 a0_6) rfl;have hcz14_7:=zc BK177.out 7 (.int .i64 a0_7) rfl;have hcz14_8:=zc BK177.out 8 (.slice A0_8 l0_8.length c0_8) rfl;have hfz14_0:=zf BK177.out 0;have hfz14_1:=zf BK177.out 1;have hfz14_2:=zf BK177.out 2;have hfz14_3:=zf BK177.out 3;have hfz14_4:=zf BK177.out 4;have hfz14_5:=zf BK177.out 5;have hfz14_6:=zf BK177.out 6;have hfz14_7:=zf BK177.out 7;have hfz14_8:=zf BK177.out 8)|((with_reducible refine gate_callee (f:=104) rfl ?_);refine goesL_ (some 17) rfl rfl Try.func104 (by kernel_rfl) rfl #[.agg #[.int .i64 a0_3,.int .i64 a0_4,.int .i64 a0_5]] rfl (by(try simp only[List.map_toArray,List.map_cons,List.map_nil]);first|done|rfl|(simp only[List.length_drop,List.length_take];rfl)) ?_;(with_reducible refine(mr_Coordinates.calls a0_3 a0_4 a0_5 t180 t181 t182 _ A5.out).mono ?_);rintro e w15 ⟨rfl,hb⟩;refine⟨_,rfl,?_⟩;have n0_:=zm (Kd.V_below (by(with_reducible repeat(first|apply Kd.V_alloc|apply Kd.V_drewN|apply Kd.V_drew));exact HO0_8.out) hb);have n1_:=zm (zb (g:=gb177) (o:=.cells #[.string a0_0,.int .i64 a0_1,.int .i64 a0_2,.int .i64 a0_3,.int .i64 a0_4,.int .i64 a0_5,.int .i64 a0_6,.int .i64 a0_7,.slice A0_8 l0_8.length c0_8] 28 (0,0)) (by(with_reducible repeat first|apply zd|apply ze|apply za);exact BK177.out) hb);have n2_:=zm (zb (g:=gb178) (o:=.cells #[.string (⟨#[]⟩:ByteArray),.int .i64 0,.int .i64 0,.int .i64 0,.int .i64 0,.int .i64 0,.int .i64 0,.int .i64 0,.slice none 0 0] 28 (0,0)) (by(with_reducible repeat first|apply zd|apply ze|apply za);exact BK178.out) hb);have n3_:=zm (below_step (by repeat(first|(with_reducible first|exact HB.out|apply zA|apply zD|apply zE|refine zS ?_ GE177.out|refine zS ?_ GE178.out)|exact HB.out)) hb);clear HO0_8 BK177 BK178 HB;have HO0_8:=n0_;have BK177:=n1_;have BK178:=n2_;have HB:=n3_;clear n0_ n1_ n2_ n3_;(try clear hb);(try clear hb2);(try clear hk);(try clear hi))|((with_reducible refine gate_dst (N:=7) rfl ?_);refine box_event ?hg (N:=7) ?hd (cs:=#[.int .i64 0,.int .i64 0,.int .i64 0]) (t:=128) ?hr ?_;(case hd=>rfl);(case hg=>rfl);(case hr=>first|(go_simp;done)|(go_simp;rfl));intro gb183 hg w16 hbox hb;have n0_:=zm (Kd.V_below (Kd.V_elderB (by(with_reducible repeat(first|apply Kd.V_alloc|apply Kd.V_drewN|apply Kd.V_drew));exact HO0_8.out) gb183 (Nat.le_of_eq hg.symm)) hb);have n1_:=zm (zb (g:=gb177) (o:=.cells #[.string a0_0,.int .i64 a0_1,.int .i64 a0_2,.int .i64 a0_3,.int .i64 a0_4,.int .i64 a0_5,.int .i64 a0_6,.int .i64 a0_7,.slice A0_8 l0_8.length c0_8] 28 (0,0)) (by(with_reducible repeat first|apply zd|apply ze|apply za);exact BK177.out) hb);have n2_:=zm (zb (g:=gb178) (o:=.cells #[.string (⟨#[]⟩:ByteArray),.int .i64 0,.int .i64 0,.int .i64 0,.int .i64 0,.int .i64 0,.int .i64 0,.int .i64 0,.slice none 0 0] 28 (0,0)) (by(with_reducible repeat first|apply zd|apply ze|apply za);exact BK178.out) hb);have n3_:=zm (below_step (by repeat(first|(with_reducible first|exact HB.out|apply zA|apply zD|apply zE|refine zS ?_ GE177.out|refine zS ?_ GE178.out)|exact HB.out)) hb);have n4_:=zm (hbox);have n5_:=zm ((by rw[hg];exact(below_size (by repeat(first|(with_reducible first|exact HB.out|apply zA|apply zD|apply zE|refine zS ?_ GE177.out|refine zS ?_ GE178.out)|exact HB.out))):w.heap.size≤gb183));have n6_:=zm ((by rw[hg];exact(below_size (by repeat(first|(with_reducible first|exact HB.out|apply zA|apply zD|apply zE|refine zS ?_ GE177.out|refine zS ?_ GE178.out)|exact HB.out))):w.heap.size≤gb183));have n7_:=zm ((by rw[hg];exact Nat.ne_of_lt (blk_lt (g:=gb177) (o:=.cells #[.string a0_0,.int .i64 a0_1,.int .i64 a0_2,.int .i64 a0_3,.int .i64 a0_4,.int .i64 a0_5,.int .i64 a0_6,.int .i64 a0_7,.slice A0_8 l0_8.length c0_8] 28 (0,0)) (by(with_reducible repeat first|apply zd|apply ze|apply za);exact BK177.out)):gb177≠gb183));have n8_:=zm ((by rw[hg];exact Nat.ne_of_gt (blk_lt (g:=gb177) (o:=.cells #[.string a0_0,.int .i64 a0_1,.int .i64 a0_2,.int .i64 a0_3,.int .i64 a0_4,.int .i64 a0_5,.int .i64 a0_6,.int .i64 a0_7,.slice A0_8 l0_8.length c0_8] 28 (0,0)) (by(with_reducible repeat first|apply zd|apply ze|apply za);exact BK177.out)):gb183≠gb177));have n9_:=zm ((by rw[hg];exact Nat.ne_of_lt (blk_lt (g:=gb178) (o:=.cells #[.string (⟨#[]⟩:ByteArray),.int .i64 0,.int .i64 0,.int .i64 0,.int .i64 0,.int .i64 0,.int .i64 0,.int .i64 0,.slice none 0 0] 28 (0,0)) (by(with_reducible repeat first|apply zd|apply ze|apply za);exact BK178.out)):gb178≠gb183));have n10_:=zm ((by rw[hg];exact Nat.ne_of_gt (blk_lt (g:=gb178) (o:=.cells #[.string (⟨#[]⟩:ByteArray),.int .i64 0,.int .i64 0,.int .i64 0,.int .i64 0,.int .i64 0,.int .i64 0,.int .i64 0,.slice none 0 0] 28 (0,0)) (by(with_reducible repeat first|apply zd|apply ze|apply za);exact BK178.out)):gb183≠gb178));clear HO0_8 BK177 BK178 HB;have HO0_8:=n0_;have BK177:=n1_;have BK178:=n2_;have HB:=n3_;have BK183:=n4_;have GW183:=n5_;have GE183:=n6_;have NB177_183:=n7_;have NB183_177:=n8_;have NB178_183:=n9_;have NB183_178:=n10_;clear n0_ n1_ n2_ n3_ n4_ n5_ n6_ n7_ n8_ n9_ n10_;clear hb hbox hg;have hnb17:=NB183_177.out;have hnc17:=NB177_183.out;have hnb18:=NB183_178.out;have hnc18:=NB178_183.out;have hcz19_0:=zc BK183.out 0 (.int .i64 0) rfl;have hcz19_1:=zc BK183.out 1 (.int .i64 0) rfl;have hcz19_2:=zc BK183.out 2 (.int .i64 0) rfl;have hfz19_0:=zf BK183.out 0;have hfz19_1:=zf BK183.out 1;have hfz19_2:=zf BK183.out 2))
  have n0_:Aside0 (Kd.V k104 104 (((w16.setCell ⟨gb183,0,none⟩ (.int .i64 t180)).setCell ⟨gb183,1,none⟩ (.int .i64 t181)).setCell ⟨gb183,2,none⟩ (.int .i64 t182)) w.heap.size (fun k_=>(P0_8_ k_∨w.heap.size≤k_)∧k_≠gb177∧k_≠gb178∧k_≠gb183) (.slice A0_8 l0_8.length c0_8) l0_8):=⟨by(with_reducible repeat(first|apply Kd.V_alloc|apply Kd.V_drewN|apply Kd.V_drew));exact Kd.V_mono (Kd.V_far (p:=⟨gb183,2,none⟩) (Kd.V_far (p:=⟨gb183,1,none⟩) (Kd.V_far (p:=⟨gb183,0,none⟩) (Kd.V_mono HO0_8.out (fun k_ hk=>(⟨hk,hk.2⟩:_∧k_≠gb183))) (fun _ hk=>hk.2) (.int .i64 t180)) (fun _ hk=>hk.2) (.int .i64 t181)) (fun _ hk=>hk.2) (.int .i64 t182)) (fun _ hk=>⟨hk.1.1.1.1,⟨hk.1.1.1.2,⟨hk.1.1.2,hk.1.2⟩⟩⟩)⟩
  have n1_:Aside0 ((((w16.setCell ⟨gb183,0,none⟩ (.int .i64 t180)).setCell ⟨gb183,1,none⟩ (.int .i64 t181)).setCell ⟨gb183,2,none⟩ (.int .i64 t182)).heap[gb177]?=some (.cells #[.string a0_0,.int .i64 a0_1,.int .i64 a0_2,.int .i64 a0_3,.int .i64 a0_4,.int .i64 a0_5,.int .i64 a0_6,.int .i64 a0_7,.slice A0_8 l0_8.length c0_8] 28 (0,0))):=⟨by(with_reducible repeat first|apply zd|apply ze|apply za);refine blk_far ?_ NB177_183.out _;(with_reducible repeat first|apply zd|apply ze|apply za);refine blk_far ?_ NB177_183.out _;(with_reducible repeat first|apply zd|apply ze|apply za);refine blk_far ?_ NB177_183.out _;(with_reducible repeat first|apply zd|apply ze|apply za);exact BK177.out⟩
  have n2_:Aside0 ((((w16.setCell ⟨gb183,0,none⟩ (.int .i64 t180)).setCell ⟨gb183,1,none⟩ (.int .i64 t181)).setCell ⟨gb183,2,none⟩ (.int .i64 t182)).heap[gb178]?=some (.cells #[.string (⟨#[]⟩:ByteArray),.int .i64 0,.int .i64 0,.int .i64 0,.int .i64 0,.int .i64 0,.int .i64 0,.int .i64 0,.slice none 0 0] 28 (0,0))):=⟨by(with_reducible repeat first|apply zd|apply ze|apply za);refine blk_far ?_ NB178_183.out _;(with_reducible repeat first|apply zd|apply ze|apply za);refine blk_far ?_ NB178_183.out _;(with_reducible repeat first|apply zd|apply ze|apply za);refine blk_far ?_ NB178_183.out _;(with_reducible repeat first|apply zd|apply ze|apply za);exact BK178.out⟩
  have n3_:Aside0 ((((w16.setCell ⟨gb183,0,none⟩ (.int .i64 t180)).setCell ⟨gb183,1,none⟩ (.int .i64 t181)).setCell ⟨gb183,2,none⟩ (.int .i64 t182)).heap[gb183]?=some (.cells #[.int .i64 t180,.int .i64 t181,.int .i64 t182] 128 (0,0))):=⟨by(with_reducible repeat first|apply zd|apply ze|apply za);refine blk_put (cs:=#[.int .i64 t180,.int .i64 t181,.int .i64 0]) ?_ 2 _ rfl;(with_reducible repeat first|apply zd|apply ze|apply za);refine blk_put (cs:=#[.int .i64 t180,.int .i64 0,.int .i64 0]) ?_ 1 _ rfl;(with_reducible repeat first|apply zd|apply ze|apply za);refine blk_put (cs:=#[.int .i64 0,.int .i64 0,.int .i64 0]) ?_ 0 _ rfl;(with_reducible repeat first|apply zd|apply ze|apply za);exact BK183.out⟩
  have n4_:Aside0 (Below w.heap.size w (((w16.setCell ⟨gb183,0,none⟩ (.int .i64 t180)).setCell ⟨gb183,1,none⟩ (.int .i64 t181)).setCell ⟨gb183,2,none⟩ (.int .i64 t182))):=⟨by repeat(first|(with_reducible first|exact HB.out|apply zA|apply zD|apply zE|refine zS ?_ GE177.out|refine zS ?_ GE178.out|refine zS ?_ GE183.out)|exact HB.out)⟩
  (try clear HO0_8)
  (try clear BK177)
  (try clear BK178)
  (try clear BK183)
  (try clear HB)
  generalize (((w16.setCell ⟨gb183,0,none⟩ (.int .i64 t180)).setCell ⟨gb183,1,none⟩ (.int .i64 t181)).setCell ⟨gb183,2,none⟩ (.int .i64 t182))=w22 at n0_ n1_ n2_ n3_ n4_ ⊢
  have HO0_8:=n0_
  have BK177:=n1_
  have BK178:=n2_
  have BK183:=n3_
  have HB:=n4_
  clear n0_ n1_ n2_ n3_ n4_
  have hcA_0:=zc BK183.out 0 (.int .i64 t180) rfl
  have hfA_0:=zf BK183.out 0
  have hcA_1:=zc BK183.out 1 (.int .i64 t181) rfl
  have hfA_1:=zf BK183.out 1
  have hcA_2:=zc BK183.out 2 (.int .i64 t182) rfl
  have hfA_2:=zf BK183.out 2
  go_cut [] (fun wc=>Aside0 (Kd.V k104 104 wc w.heap.size (fun k_=>(P0_8_ k_∨w.heap.size≤k_)∧k_≠gb177∧k_≠gb178∧k_≠gb183) (.slice A0_8 l0_8.length c0_8) l0_8)∧Aside0 (wc.heap[gb177]?=some (.cells #[.string a0_0,.int .i64 a0_1,.int .i64 a0_2,.int .i64 a0_3,.int .i64 a0_4,.int .i64 a0_5,.int .i64 a0_6,.int .i64 a0_7,.slice A0_8 l0_8.length c0_8] 28 (0,0)))∧Aside0 (wc.heap[gb178]?=some (.cells #[.string (⟨#[]⟩:ByteArray),.int .i64 0,.int .i64 0,.int .i64 0,.int .i64 0,.int .i64 0,.int .i64 0,.int .i64 0,.slice none 0 0] 28 (0,0)))∧Aside0 (wc.heap[gb183]?=some (.cells #[.int .i64 t184,.int .i64 t185,.int .i64 t186] 128 (0,0)))∧Aside0 (Below w.heap.size w wc))
  case first=>
   have h3:a1=0∨a1=1∨a1=2:=by have:=hax.out;omega
   have hm:=A6.out
   unfold negAt.f at hm
   clear A3 A6 A7 A8 hax
   rcases h3 with rfl|rfl|rfl
   ·simp only[show ¬(1:Int)=0 by decide,show ¬(2:Int)=0 by decide,show ¬(2:Int)=1 by decide,if_true,if_false,Option.some.injEq,Prod.mk.injEq] at hm
    obtain⟨rfl,rfl,rfl⟩:=hm
    go_wp2
    go_meet
    case rel=>exact⟨⟨Kd.V_far (p:=⟨gb183,0,none⟩) HO0_8.out (fun _ hk=>hk.2.2.2) _⟩,⟨blk_far BK177.out NB177_183.out _⟩,⟨blk_far BK178.out NB178_183.out _⟩,⟨blk_put BK183.out 0 _ rfl⟩,⟨by refine zS ?_ GE183.out;exact HB.out⟩⟩
   ·simp only[show ¬(1:Int)=0 by decide,show ¬(2:Int)=0 by decide,show ¬(2:Int)=1 by decide,if_true,if_false,Option.some.injEq,Prod.mk.injEq] at hm
    obtain⟨rfl,rfl,rfl⟩:=hm
    go_wp2
    go_meet
    case rel=>exact⟨⟨Kd.V_far (p:=⟨gb183,1,none⟩) HO0_8.out (fun _ hk=>hk.2.2.2) _⟩,⟨blk_far BK177.out NB177_183.out _⟩,⟨blk_far BK178.out NB178_183.out _⟩,⟨blk_put BK183.out 1 _ rfl⟩,⟨by refine zS ?_ GE183.out;exact HB.out⟩⟩
   ·simp only[show ¬(1:Int)=0 by decide,show ¬(2:Int)=0 by decide,show ¬(2:Int)=1 by decide,if_true,if_false,Option.some.injEq,Prod.mk.injEq] at hm
    obtain⟨rfl,rfl,rfl⟩:=hm
    go_wp2
    go_meet
    case rel=>exact⟨⟨Kd.V_far (p:=⟨gb183,2,none⟩) HO0_8.out (fun _ hk=>hk.2.2.2) _⟩,⟨blk_far BK177.out NB177_183.out _⟩,⟨blk_far BK178.out NB178_183.out _⟩,⟨blk_put BK183.out 2 _ rfl⟩,⟨by refine zS ?_ GE183.out;exact HB.out⟩⟩
  case rest=>
   clear HO0_8 BK177 BK178 BK183 HB hcA_0 hcA_1 hcA_2 hfA_0 hfA_1 hfA_2
   obtain⟨HO0_8,BK177,BK178,BK183,HB⟩:=hcut
   try go_wp2
   have n0_:=zm (Kd.V_drew HO0_8.out)
   have n1_:=zm (ze BK177.out)
   have n2_:=zm (ze BK178.out)
   have n3_:=zm (ze BK183.out)
   have n4_:=zm (zE HB.out)
   clear HO0_8 BK177 BK178 BK183 HB
   have HO0_8:=n0_
   have BK177:=n1_
   have BK178:=n2_
   have BK183:=n3_
   have HB:=n4_
   clear n0_ n1_ n2_ n3_ n4_
   refine start_ (n:=6) (S:=fun w'=>w'.cell? ⟨gb177,0,none⟩=some (.string a0_0)∧w'.cell? ⟨gb177,1,none⟩=some (.int .i64 a0_1)∧w'.cell? ⟨gb177,2,none⟩=some (.int .i64 a0_2)∧w'.cell? ⟨gb177,3,none⟩=some (.int .i64 a0_3)∧w'.cell? ⟨gb177,4,none⟩=some (.int .i64 a0_4)∧w'.cell? ⟨gb177,5,none⟩=some (.int .i64 a0_5)∧w'.cell? ⟨gb177,6,none⟩=some (.int .i64 a0_6)∧w'.cell? ⟨gb177,7,none⟩=some (.int .i64 a0_7)∧w'.cell? ⟨gb177,8,none⟩=some (.slice A0_8 l0_8.length c0_8)∧w'.cell? ⟨gb183,0,none⟩=some (.int .i64 t184)∧w'.cell? ⟨gb183,1,none⟩=some (.int .i64 t185)∧w'.cell? ⟨gb183,2,none⟩=some (.int .i64 t186)) (ds:=[]) #[false,false,false,false,false,false] (by kernel_rfl) rfl rfl ⟨(blk_cell BK177.out 0).trans rfl,(blk_cell BK177.out 1).trans rfl,(blk_cell BK177.out 2).trans rfl,(blk_cell BK177.out 3).trans rfl,(blk_cell BK177.out 4).trans rfl,(blk_cell BK177.out 5).trans rfl,(blk_cell BK177.out 6).trans rfl,(blk_cell BK177.out 7).trans rfl,(blk_cell BK177.out 8).trans rfl,(blk_cell BK183.out 0).trans rfl,(blk_cell BK183.out 1).trans rfl,(blk_cell BK183.out 2).trans rfl⟩ (fun hHeld=>?_)
   generalize wc.drew=w23 at HO0_8 BK177 BK178 BK183 HB hHeld ⊢
   refine take_ (i:=0) (N:=some 24) (v:=?_) (a':=?_) #[true,false,false,false,false,false] rfl rfl (by kernel_rfl) (fun _ _ _ h=>h) (Or.inl ⟨by rfl,?_⟩) hHeld ?_ ?_
   rotate_left
   ·rintro w' ⟨s0,s1,s2,s3,s4,s5,s6,s7,s8,s9,s10,s11⟩
    go_simp
    with_reducible rfl
   rotate_left
   ·simp only[Act.put,zx,zy,zz,i64_w,i32_w]
    rfl
   refine take_ (i:=1) (N:=some 25) (v:=?_) (a':=?_) #[true,true,false,false,false,false] rfl rfl (by kernel_rfl) (fun _ _ _ h=>h) (Or.inl ⟨by rfl,?_⟩) hHeld ?_ ?_
   rotate_left
   ·rintro w' ⟨s0,s1,s2,s3,s4,s5,s6,s7,s8,s9,s10,s11⟩
    go_simp
    with_reducible rfl
   rotate_left
   ·simp only[Act.put,zx,zy,zz,i64_w,i32_w]
    rfl
   refine one_ (i:=2) (N:=some 26) #[true,true,true,false,false,false] rfl rfl (by kernel_rfl) (by decide) (fun K hK=>?_)
   refine goes_ Try.func106 (by kernel_rfl) rfl #[.agg #[.int .i64 t184,.int .i64 t185,.int .i64 t186]] (by rfl) rfl rfl (by(try simp only[List.map_toArray,List.map_cons,List.map_nil]);first|done|rfl|(simp only[List.length_drop,List.length_take];rfl)) ?_
   with_reducible refine(mr_Place.calls t184 t185 t186 t187 t188 t189 _ A7.out).mono ?_
   rintro e w24 ⟨rfl,hb⟩
   refine⟨_,rfl,?_⟩
   have n0_:=zm (Kd.V_below (by(with_reducible repeat(first|apply Kd.V_alloc|apply Kd.V_drewN|apply Kd.V_drew));exact HO0_8.out) hb)
   have n1_:=zm (zb (g:=gb177) (by(with_reducible repeat first|apply zd|apply ze|apply za);exact BK177.out) hb)
   have n2_:=zm (zb (g:=gb178) (o:=.cells #[.string (⟨#[]⟩:ByteArray),.int .i64 0,.int .i64 0,.int .i64 0,.int .i64 0,.int .i64 0,.int .i64 0,.int .i64 0,.slice none 0 0] 28 (0,0)) (by(with_reducible repeat first|apply zd|apply ze|apply za);exact BK178.out) hb)
   have n3_:=zm (zb (g:=gb183) (by(with_reducible repeat first|apply zd|apply ze|apply za);exact BK183.out) hb)
   have n4_:=zm (below_step (by repeat(first|(with_reducible first|exact HB.out|apply zA|apply zD|apply zE|refine zS ?_ GE177.out|refine zS ?_ GE178.out|refine zS ?_ GE183.out)|exact HB.out)) hb)
   clear HO0_8 BK177 BK178 BK183 HB
   have HO0_8:=n0_
   have BK177:=n1_
   have BK178:=n2_
   have BK183:=n3_
   have HB:=n4_
   clear n0_ n1_ n2_ n3_ n4_
   (try clear hb)
   (try clear hb2)
   (try clear hk)
   (try clear hi)
   refine hK.out _ _ ⟨(blk_cell BK177.out 0).trans rfl,(blk_cell BK177.out 1).trans rfl,(blk_cell BK177.out 2).trans rfl,(blk_cell BK177.out 3).trans rfl,(blk_cell BK177.out 4).trans rfl,(blk_cell BK177.out 5).trans rfl,(blk_cell BK177.out 6).trans rfl,(blk_cell BK177.out 7).trans rfl,(blk_cell BK177.out 8).trans rfl,(blk_cell BK183.out 0).trans rfl,(blk_cell BK183.out 1).trans rfl,(blk_cell BK183.out 2).trans rfl⟩ (fun hHeld=>?_)
   clear hK K
   refine norm_ (a':=?_) ?_ ?_
   rotate_left
   ·show Act.put _ (some 26) _=_
    simp only[Act.put,zx,zy,zz,i64_w,i32_w]
    rfl
   refine one_ (i:=3) (N:=some 27) #[true,true,true,true,false,false] rfl rfl (by kernel_rfl) (by decide) (fun K hK=>?_)
   refine goes_ Try.func105 (by kernel_rfl) rfl #[.agg #[.string a0_0,.int .i64 a0_1,.int .i64 a0_2,.int .i64 a0_3,.int .i64 a0_4,.int .i64 a0_5,.int .i64 a0_6,.int .i64 a0_7,.slice A0_8 l0_8.length c0_8],.agg #[.int .i64 t187,.int .i64 t188,.int .i64 t189]] (by rfl) rfl rfl (by(try simp only[List.map_toArray,List.map_cons,List.map_nil]);first|done|rfl|(simp only[List.length_drop,List.length_take];rfl)) ?_
   with_reducible refine(mr_at.calls a0_0 a0_1 a0_2 a0_3 a0_4 a0_5 a0_6 a0_7 (fun k_=>((P0_8_ k_∨w.heap.size≤k_)∧(k_≠gb177∧(k_≠gb178∧k_≠gb183)))) _ _ l0_8 t187 t188 t189 t190 t191 t192 t193 t194 t195 t196 t197 t198 _ ?side1 A8.out).mono ?_
   (case side1=>exact HO0_8.out)
   rintro e w25 ⟨v199,rfl,ho0,hb⟩
   refine⟨_,rfl,?_⟩
   have n0_:=zm (Kd.V_below (by(with_reducible repeat(first|apply Kd.V_alloc|apply Kd.V_drewN|apply Kd.V_drew));exact HO0_8.out) hb)
   have n1_:=zm (Kd.V_lower (Kd.V_mono (ok':=fun k_=>(P0_8_ k_∨w.heap.size≤k_)∧k_≠gb177∧k_≠gb178∧k_≠gb183) ho0 (fun k_ hk_=>⟨Or.elim hk_ (fun hs_=>hs_.1) (fun hn_=>(.inr (Nat.le_trans (below_size (by repeat(first|(with_reducible first|exact HB.out|apply zA|apply zD|apply zE|refine zS ?_ GE177.out|refine zS ?_ GE178.out|refine zS ?_ GE183.out)|exact HB.out))) hn_))),Or.elim hk_ (fun hs_=>hs_.2.1) (fun hn_=>(Kd.freshB (g:=gb177) (by(with_reducible repeat first|apply zd|apply ze|apply za);exact BK177.out) k_ hn_)),Or.elim hk_ (fun hs_=>hs_.2.2.1) (fun hn_=>(Kd.freshB (g:=gb178) (o:=.cells #[.string (⟨#[]⟩:ByteArray),.int .i64 0,.int .i64 0,.int .i64 0,.int .i64 0,.int .i64 0,.int .i64 0,.int .i64 0,.slice none 0 0] 28 (0,0)) (by(with_reducible repeat first|apply zd|apply ze|apply za);exact BK178.out) k_ hn_)),Or.elim hk_ (fun hs_=>hs_.2.2.2) (fun hn_=>(Kd.freshB (g:=gb183) (by(with_reducible repeat first|apply zd|apply ze|apply za);exact BK183.out) k_ hn_))⟩)) (below_size (by repeat(first|(with_reducible first|exact HB.out|apply zA|apply zD|apply zE|refine zS ?_ GE177.out|refine zS ?_ GE178.out|refine zS ?_ GE183.out)|exact HB.out))))
   have n2_:=zm (zb (g:=gb177) (by(with_reducible repeat first|apply zd|apply ze|apply za);exact BK177.out) hb)
   have n3_:=zm (zb (g:=gb178) (o:=.cells #[.string (⟨#[]⟩:ByteArray),.int .i64 0,.int .i64 0,.int .i64 0,.int .i64 0,.int .i64 0,.int .i64 0,.int .i64 0,.slice none 0 0] 28 (0,0)) (by(with_reducible repeat first|apply zd|apply ze|apply za);exact BK178.out) hb)
   have n4_:=zm (zb (g:=gb183) (by(with_reducible repeat first|apply zd|apply ze|apply za);exact BK183.out) hb)
   have n5_:=zm (below_step (by repeat(first|(with_reducible first|exact HB.out|apply zA|apply zD|apply zE|refine zS ?_ GE177.out|refine zS ?_ GE178.out|refine zS ?_ GE183.out)|exact HB.out)) hb)
   clear HO0_8 BK177 BK178 BK183 HB
   have HO0_8:=n0_
   have HO200:=n1_
   have BK177:=n2_
   have BK178:=n3_
   have BK183:=n4_
   have HB:=n5_
   clear n0_ n1_ n2_ n3_ n4_ n5_
   (try clear hb)
   (try clear hb2)
   (try clear hk)
   (try clear hi)
   (try clear ho0)
   obtain⟨Ao34,co34,eo34⟩:=Kd.V_slice HO200.out
   (first|subst eo34|(injection eo34 with f1_ f2_ f3_;have f4_:=f1_.symm;have f5_:=f3_.symm;clear f1_ f2_ f3_;subst f4_;subst f5_))
   refine hK.out _ _ ⟨(blk_cell BK177.out 0).trans rfl,(blk_cell BK177.out 1).trans rfl,(blk_cell BK177.out 2).trans rfl,(blk_cell BK177.out 3).trans rfl,(blk_cell BK177.out 4).trans rfl,(blk_cell BK177.out 5).trans rfl,(blk_cell BK177.out 6).trans rfl,(blk_cell BK177.out 7).trans rfl,(blk_cell BK177.out 8).trans rfl,(blk_cell BK183.out 0).trans rfl,(blk_cell BK183.out 1).trans rfl,(blk_cell BK183.out 2).trans rfl⟩ (fun hHeld=>?_)
   clear hK K
   refine norm_ (a':=?_) ?_ ?_
   rotate_left
   ·show Act.put _ (some 27) _=_
    simp only[Act.put,zx,zy,zz,i64_w,i32_w]
    rfl
   refine one_ (i:=4) (N:=none) #[true,true,true,true,true,false] rfl rfl (by kernel_rfl) (by decide) (fun K hK=>?_)
   have hs26:=zc BK178.out 0 (.string (⟨#[]⟩:ByteArray)) rfl
   have hfs26:=zf BK178.out 0
   have hns26_0:=NB177_178.out
   have hns26_2:=NB183_178.out
   have hms26_0:=NB178_177.out
   have hms26_2:=NB178_183.out
   have hs27:=zc BK178.out 1 (.int .i64 0) rfl
   have hfs27:=zf BK178.out 1
   have hns27_0:=NB177_178.out
   have hns27_2:=NB183_178.out
   have hms27_0:=NB178_177.out
   have hms27_2:=NB178_183.out
   have hs28:=zc BK178.out 2 (.int .i64 0) rfl
   have hfs28:=zf BK178.out 2
   have hns28_0:=NB177_178.out
   have hns28_2:=NB183_178.out
   have hms28_0:=NB178_177.out
   have hms28_2:=NB178_183.out
   have hs29:=zc BK178.out 3 (.int .i64 0) rfl
   have hfs29:=zf BK178.out 3
   have hns29_0:=NB177_178.out
   have hns29_2:=NB183_178.out
   have hms29_0:=NB178_177.out
   have hms29_2:=NB178_183.out
   have hs30:=zc BK178.out 4 (.int .i64 0) rfl
   have hfs30:=zf BK178.out 4
   have hns30_0:=NB177_178.out
   have hns30_2:=NB183_178.out
   have hms30_0:=NB178_177.out
   have hms30_2:=NB178_183.out
   have hs31:=zc BK178.out 5 (.int .i64 0) rfl
   have hfs31:=zf BK178.out 5
   have hns31_0:=NB177_178.out
   have hns31_2:=NB183_178.out
   have hms31_0:=NB178_177.out
   have hms31_2:=NB178_183.out
   have hs32:=zc BK178.out 6 (.int .i64 0) rfl
   have hfs32:=zf BK178.out 6
   have hns32_0:=NB177_178.out
   have hns32_2:=NB183_178.out
   have hms32_0:=NB178_177.out
   have hms32_2:=NB178_183.out
   have hs33:=zc BK178.out 7 (.int .i64 0) rfl
   have hfs33:=zf BK178.out 7
   have hns33_0:=NB177_178.out
   have hns33_2:=NB183_178.out
   have hms33_0:=NB178_177.out
   have hms33_2:=NB178_183.out
   have hs35:=zc BK178.out 8 (.slice none 0 0) rfl
   have hfs35:=zf BK178.out 8
   have hns35_0:=NB177_178.out
   have hns35_2:=NB183_178.out
   have hms35_0:=NB178_177.out
   have hms35_2:=NB178_183.out
   refine skip_ (w1:=?_) (by rfl) rfl ?_ ?_
   rotate_left
   ·go_simp
    rfl
   refine hK.out _ _ ⟨((cell_far (p:=⟨gb178,_,none⟩) NB177_178.out _).trans (((cell_far (p:=⟨gb178,_,none⟩) NB177_178.out _).trans (((cell_far (p:=⟨gb178,_,none⟩) NB177_178.out _).trans (((cell_far (p:=⟨gb178,_,none⟩) NB177_178.out _).trans (((cell_far (p:=⟨gb178,_,none⟩) NB177_178.out _).trans (((cell_far (p:=⟨gb178,_,none⟩) NB177_178.out _).trans (((cell_far (p:=⟨gb178,_,none⟩) NB177_178.out _).trans (((cell_far (p:=⟨gb178,_,none⟩) NB177_178.out _).trans (((cell_far (p:=⟨gb178,_,none⟩) NB177_178.out _).trans (hHeld.1)))))))))))))))))),((cell_far (p:=⟨gb178,_,none⟩) NB177_178.out _).trans (((cell_far (p:=⟨gb178,_,none⟩) NB177_178.out _).trans (((cell_far (p:=⟨gb178,_,none⟩) NB177_178.out _).trans (((cell_far (p:=⟨gb178,_,none⟩) NB177_178.out _).trans (((cell_far (p:=⟨gb178,_,none⟩) NB177_178.out _).trans (((cell_far (p:=⟨gb178,_,none⟩) NB177_178.out _).trans (((cell_far (p:=⟨gb178,_,none⟩) NB177_178.out _).trans (((cell_far (p:=⟨gb178,_,none⟩) NB177_178.out _).trans (((cell_far (p:=⟨gb178,_,none⟩) NB177_178.out _).trans (hHeld.2.1)))))))))))))))))),((cell_far (p:=⟨gb178,_,none⟩) NB177_178.out _).trans (((cell_far (p:=⟨gb178,_,none⟩) NB177_178.out _).trans (((cell_far (p:=⟨gb178,_,none⟩) NB177_178.out _).trans (((cell_far (p:=⟨gb178,_,none⟩) NB177_178.out _).trans (((cell_far (p:=⟨gb178,_,none⟩) NB177_178.out _).trans (((cell_far (p:=⟨gb178,_,none⟩) NB177_178.out _).trans (((cell_far (p:=⟨gb178,_,none⟩) NB177_178.out _).trans (((cell_far (p:=⟨gb178,_,none⟩) NB177_178.out _).trans (((cell_far (p:=⟨gb178,_,none⟩) NB177_178.out _).trans (hHeld.2.2.1)))))))))))))))))),((cell_far (p:=⟨gb178,_,none⟩) NB177_178.out _).trans (((cell_far (p:=⟨gb178,_,none⟩) NB177_178.out _).trans (((cell_far (p:=⟨gb178,_,none⟩) NB177_178.out _).trans (((cell_far (p:=⟨gb178,_,none⟩) NB177_178.out _).trans (((cell_far (p:=⟨gb178,_,none⟩) NB177_178.out _).trans (((cell_far (p:=⟨gb178,_,none⟩) NB177_178.out _).trans (((cell_far (p:=⟨gb178,_,none⟩) NB177_178.out _).trans (((cell_far (p:=⟨gb178,_,none⟩) NB177_178.out _).trans (((cell_far (p:=⟨gb178,_,none⟩) NB177_178.out _).trans (hHeld.2.2.2.1)))))))))))))))))),((cell_far (p:=⟨gb178,_,none⟩) NB177_178.out _).trans (((cell_far (p:=⟨gb178,_,none⟩) NB177_178.out _).trans (((cell_far (p:=⟨gb178,_,none⟩) NB177_178.out _).trans (((cell_far (p:=⟨gb178,_,none⟩) NB177_178.out _).trans (((cell_far (p:=⟨gb178,_,none⟩) NB177_178.out _).trans (((cell_far (p:=⟨gb178,_,none⟩) NB177_178.out _).trans (((cell_far (p:=⟨gb178,_,none⟩) NB177_178.out _).trans (((cell_far (p:=⟨gb178,_,none⟩) NB177_178.out _).trans (((cell_far (p:=⟨gb178,_,none⟩) NB177_178.out _).trans (hHeld.2.2.2.2.1)))))))))))))))))),((cell_far (p:=⟨gb178,_,none⟩) NB177_178.out _).trans (((cell_far (p:=⟨gb178,_,none⟩) NB177_178.out _).trans (((cell_far (p:=⟨gb178,_,none⟩) NB177_178.out _).trans (((cell_far (p:=⟨gb178,_,none⟩) NB177_178.out _).trans (((cell_far (p:=⟨gb178,_,none⟩) NB177_178.out _).trans (((cell_far (p:=⟨gb178,_,none⟩) NB177_178.out _).trans (((cell_far (p:=⟨gb178,_,none⟩) NB177_178.out _).trans (((cell_far (p:=⟨gb178,_,none⟩) NB177_178.out _).trans (((cell_far (p:=⟨gb178,_,none⟩) NB177_178.out _).trans (hHeld.2.2.2.2.2.1)))))))))))))))))),((cell_far (p:=⟨gb178,_,none⟩) NB177_178.out _).trans (((cell_far (p:=⟨gb178,_,none⟩) NB177_178.out _).trans (((cell_far (p:=⟨gb178,_,none⟩) NB177_178.out _).trans (((cell_far (p:=⟨gb178,_,none⟩) NB177_178.out _).trans (((cell_far (p:=⟨gb178,_,none⟩) NB177_178.out _).trans (((cell_far (p:=⟨gb178,_,none⟩) NB177_178.out _).trans (((cell_far (p:=⟨gb178,_,none⟩) NB177_178.out _).trans (((cell_far (p:=⟨gb178,_,none⟩) NB177_178.out _).trans (((cell_far (p:=⟨gb178,_,none⟩) NB177_178.out _).trans (hHeld.2.2.2.2.2.2.1)))))))))))))))))),((cell_far (p:=⟨gb178,_,none⟩) NB177_178.out _).trans (((cell_far (p:=⟨gb178,_,none⟩) NB177_178.out _).trans (((cell_far (p:=⟨gb178,_,none⟩) NB177_178.out _).trans (((cell_far (p:=⟨gb178,_,none⟩) NB177_178.out _).trans (((cell_far (p:=⟨gb178,_,none⟩) NB177_178.out _).trans (((cell_far (p:=⟨gb178,_,none⟩) NB177_178.out _).trans (((cell_far (p:=⟨gb178,_,none⟩) NB177_178.out _).trans (((cell_far (p:=⟨gb178,_,none⟩) NB177_178.out _).trans (((cell_far (p:=⟨gb178,_,none⟩) NB177_178.out _).trans (hHeld.2.2.2.2.2.2.2.1)))))))))))))))))),((cell_far (p:=⟨gb178,_,none⟩) NB177_178.out _).trans (((cell_far (p:=⟨gb178,_,none⟩) NB177_178.out _).trans (((cell_far (p:=⟨gb178,_,none⟩) NB177_178.out _).trans (((cell_far (p:=⟨gb178,_,none⟩) NB177_178.out _).trans (((cell_far (p:=⟨gb178,_,none⟩) NB177_178.out _).trans (((cell_far (p:=⟨gb178,_,none⟩) NB177_178.out _).trans (((cell_far (p:=⟨gb178,_,none⟩) NB177_178.out _).trans (((cell_far (p:=⟨gb178,_,none⟩) NB177_178.out _).trans (((cell_far (p:=⟨gb178,_,none⟩) NB177_178.out _).trans (hHeld.2.2.2.2.2.2.2.2.1)))))))))))))))))),((cell_far (p:=⟨gb178,_,none⟩) NB183_178.out _).trans (((cell_far (p:=⟨gb178,_,none⟩) NB183_178.out _).trans (((cell_far (p:=⟨gb178,_,none⟩) NB183_178.out _).trans (((cell_far (p:=⟨gb178,_,none⟩) NB183_178.out _).trans (((cell_far (p:=⟨gb178,_,none⟩) NB183_178.out _).trans (((cell_far (p:=⟨gb178,_,none⟩) NB183_178.out _).trans (((cell_far (p:=⟨gb178,_,none⟩) NB183_178.out _).trans (((cell_far (p:=⟨gb178,_,none⟩) NB183_178.out _).trans (((cell_far (p:=⟨gb178,_,none⟩) NB183_178.out _).trans (hHeld.2.2.2.2.2.2.2.2.2.1)))))))))))))))))),((cell_far (p:=⟨gb178,_,none⟩) NB183_178.out _).trans (((cell_far (p:=⟨gb178,_,none⟩) NB183_178.out _).trans (((cell_far (p:=⟨gb178,_,none⟩) NB183_178.out _).trans (((cell_far (p:=⟨gb178,_,none⟩) NB183_178.out _).trans (((cell_far (p:=⟨gb178,_,none⟩) NB183_178.out _).trans (((cell_far (p:=⟨gb178,_,none⟩) NB183_178.out _).trans (((cell_far (p:=⟨gb178,_,none⟩) NB183_178.out _).trans (((cell_far (p:=⟨gb178,_,none⟩) NB183_178.out _).trans (((cell_far (p:=⟨gb178,_,none⟩) NB183_178.out _).trans (hHeld.2.2.2.2.2.2.2.2.2.2.1)))))))))))))))))),((cell_far (p:=⟨gb178,_,none⟩) NB183_178.out _).trans (((cell_far (p:=⟨gb178,_,none⟩) NB183_178.out _).trans (((cell_far (p:=⟨gb178,_,none⟩) NB183_178.out _).trans (((cell_far (p:=⟨gb178,_,none⟩) NB183_178.out _).trans (((cell_far (p:=⟨gb178,_,none⟩) NB183_178.out _).trans (((cell_far (p:=⟨gb178,_,none⟩) NB183_178.out _).trans (((cell_far (p:=⟨gb178,_,none⟩) NB183_178.out _).trans (((cell_far (p:=⟨gb178,_,none⟩) NB183_178.out _).trans (((cell_far (p:=⟨gb178,_,none⟩) NB183_178.out _).trans (hHeld.2.2.2.2.2.2.2.2.2.2.2))))))))))))))))))⟩ (fun hHeld=>?_)
   clear hK K
   refine pure_ (i:=5) (N:=some 5) (v:=?_) (a':=?_) #[true,true,true,true,true,true] rfl rfl (by kernel_rfl) (fun _ _ _ h=>h) (Or.inl ⟨by rfl,?_⟩) ?_ ?_
   rotate_left
   ·intro w'
    go_simp
    with_reducible rfl
   rotate_left
   ·simp only[Act.put,zx,zy,zz,i64_w,i32_w]
    rfl
   refine done_ (by kernel_rfl) ?_
   try go_wp2
   refine bodyPost_ret (results_ct rfl _ _ gb178 28 #[.string t190,.int .i64 t191,.int .i64 t192,.int .i64 t193,.int .i64 t194,.int .i64 t195,.int .i64 t196,.int .i64 t197,.slice Ao34 t198.length co34] (0,0) _ rfl (by(with_reducible repeat first|apply zd|apply ze|apply za);refine blk_put (cs:=#[.string t190,.int .i64 t191,.int .i64 t192,.int .i64 t193,.int .i64 t194,.int .i64 t195,.int .i64 t196,.int .i64 t197,.slice none 0 0]) ?_ 8 _ rfl;(with_reducible repeat first|apply zd|apply ze|apply za);refine blk_put (cs:=#[.string t190,.int .i64 t191,.int .i64 t192,.int .i64 t193,.int .i64 t194,.int .i64 t195,.int .i64 t196,.int .i64 0,.slice none 0 0]) ?_ 7 _ rfl;(with_reducible repeat first|apply zd|apply ze|apply za);refine blk_put (cs:=#[.string t190,.int .i64 t191,.int .i64 t192,.int .i64 t193,.int .i64 t194,.int .i64 t195,.int .i64 0,.int .i64 0,.slice none 0 0]) ?_ 6 _ rfl;(with_reducible repeat first|apply zd|apply ze|apply za);refine blk_put (cs:=#[.string t190,.int .i64 t191,.int .i64 t192,.int .i64 t193,.int .i64 t194,.int .i64 0,.int .i64 0,.int .i64 0,.slice none 0 0]) ?_ 5 _ rfl;(with_reducible repeat first|apply zd|apply ze|apply za);refine blk_put (cs:=#[.string t190,.int .i64 t191,.int .i64 t192,.int .i64 t193,.int .i64 0,.int .i64 0,.int .i64 0,.int .i64 0,.slice none 0 0]) ?_ 4 _ rfl;(with_reducible repeat first|apply zd|apply ze|apply za);refine blk_put (cs:=#[.string t190,.int .i64 t191,.int .i64 t192,.int .i64 0,.int .i64 0,.int .i64 0,.int .i64 0,.int .i64 0,.slice none 0 0]) ?_ 3 _ rfl;(with_reducible repeat first|apply zd|apply ze|apply za);refine blk_put (cs:=#[.string t190,.int .i64 t191,.int .i64 0,.int .i64 0,.int .i64 0,.int .i64 0,.int .i64 0,.int .i64 0,.slice none 0 0]) ?_ 2 _ rfl;(with_reducible repeat first|apply zd|apply ze|apply za);refine blk_put (cs:=#[.string t190,.int .i64 0,.int .i64 0,.int .i64 0,.int .i64 0,.int .i64 0,.int .i64 0,.int .i64 0,.slice none 0 0]) ?_ 1 _ rfl;(with_reducible repeat first|apply zd|apply ze|apply za);refine blk_put (cs:=#[.string (⟨#[]⟩:ByteArray),.int .i64 0,.int .i64 0,.int .i64 0,.int .i64 0,.int .i64 0,.int .i64 0,.int .i64 0,.slice none 0 0]) ?_ 0 _ rfl;(with_reducible repeat first|apply zd|apply ze|apply za);exact BK178.out) Try.underlying28 rfl (by kernel_rfl)) rfl ?_
   exact⟨_,by first|rfl|(simp[errW_none,errW_some]<;>rfl)|(simp[*,errW_none,errW_some]<;>rfl),by(with_reducible repeat(first|apply Kd.V_alloc|apply Kd.V_drewN|apply Kd.V_drew));exact Kd.V_mono (zV gb178 (Kd.V_mono HO200.out (fun k_ hk=>(⟨hk,hk.2.2.1⟩:_∧k_≠gb178))) (fun _ hk=>hk.2) (.string t190) (.int .i64 t191) (.int .i64 t192) (.int .i64 t193) (.int .i64 t194) (.int .i64 t195) (.int .i64 t196) (.int .i64 t197) (.slice Ao34 t198.length co34)) (fun _ hk=>hk.1.1),by repeat(first|(with_reducible first|exact HB.out|apply zA|apply zD|apply zE|refine zS ?_ GE177.out|refine zS ?_ GE178.out|refine zS ?_ GE183.out)|exact HB.out)⟩
 ·rw[if_neg c4] at H
  have c4b0:(t179==0)=false:=beq_eq_false_iff_ne.mpr c4
  have c4b1:(t179 != 0)=true:=bne_iff_ne.mpr c4
  simp only[Option.some.injEq,Prod.mk.injEq] at H
  obtain⟨rfl,rfl,rfl,rfl,rfl,rfl,rfl,rfl,rfl,rfl⟩:=H
  go_enter Try.func52,Try.ntmps52
  go_wp2_with (first|((with_reducible refine gate_dst (N:=2) rfl ?_);refine box_event ?hg (N:=2) ?hd (cs:=#[.string a0_0,.int .i64 a0_1,.int .i64 a0_2,.int .i64 a0_3,.int .i64 a0_4,.int .i64 a0_5,.int .i64 a0_6,.int .i64 a0_7,.slice A0_8 l0_8.length c0_8]) (t:=28) ?hr ?_;(case hd=>rfl);(case hg=>rfl);(case hr=>first|(go_simp;done)|(go_simp;rfl));intro gb177 hg w36 hbox hb;have n0_:=zm (Kd.V_below (Kd.V_elderB (by(with_reducible repeat(first|apply Kd.V_alloc|apply Kd.V_drewN|apply Kd.V_drew));exact HO0_8.out) gb177 (Nat.le_of_eq hg.symm)) hb);have n1_:=zm (below_step (by repeat(first|(with_reducible first|exact HB.out|apply zA|apply zD|apply zE)|exact HB.out)) hb);have n2_:=zm (hbox);have n3_:=zm ((by rw[hg];exact(below_size (by repeat(first|(with_reducible first|exact HB.out|apply zA|apply zD|apply zE)|exact HB.out))):w.heap.size≤gb177));have n4_:=zm ((by rw[hg];exact(below_size (by repeat(first|(with_reducible first|exact HB.out|apply zA|apply zD|apply zE)|exact HB.out))):w.heap.size≤gb177));clear HO0_8 HB;have HO0_8:=n0_;have HB:=n1_;have BK177:=n2_;have GW177:=n3_;have GE177:=n4_;clear n0_ n1_ n2_ n3_ n4_;clear hb hbox hg)|((with_reducible refine gate_dst (N:=4) rfl ?_);refine box_event ?hg (N:=4) ?hd (cs:=#[.string (⟨#[]⟩:ByteArray),.int .i64 0,.int .i64 0,.int .i64 0,.int .i64 0,.int .i64 0,.int .i64 0,.int .i64 0,.slice none 0 0]) (t:=28) ?hr ?_;(case hd=>rfl);(case hg=>rfl);(case hr=>first|(go_simp;done)|(go_simp;rfl));intro gb178 hg w37 hbox hb;have n0_:=zm (Kd.V_below (Kd.V_elderB (by(with_reducible repeat(first|apply Kd.V_alloc|apply Kd.V_drewN|apply Kd.V_drew));exact HO0_8.out) gb178 (Nat.le_of_eq hg.symm)) hb);have n1_:=zm (zb (g:=gb177) (o:=.cells #[.string a0_0,.int .i64 a0_1,.int .i64 a0_2,.int .i64 a0_3,.int .i64 a0_4,.int .i64 a0_5,.int .i64 a0_6,.int .i64 a0_7,.slice A0_8 l0_8.length c0_8] 28 (0,0)) (by(with_reducible repeat first|apply zd|apply ze|apply za);exact BK177.out) hb);have n2_:=zm (below_step (by repeat(first|(with_reducible first|exact HB.out|apply zA|apply zD|apply zE|refine zS ?_ GE177.out)|exact HB.out)) hb);have n3_:=zm (hbox);have n4_:=zm ((by rw[hg];exact(below_size (by repeat(first|(with_reducible first|exact HB.out|apply zA|apply zD|apply zE|refine zS ?_ GE177.out)|exact HB.out))):w.heap.size≤gb178));have n5_:=zm ((by rw[hg];exact(below_size (by repeat(first|(with_reducible first|exact HB.out|apply zA|apply zD|apply zE|refine zS ?_ GE177.out)|exact HB.out))):w.heap.size≤gb178));have n6_:=zm ((by rw[hg];exact Nat.ne_of_lt (blk_lt (g:=gb177) (o:=.cells #[.string a0_0,.int .i64 a0_1,.int .i64 a0_2,.int .i64 a0_3,.int .i64 a0_4,.int .i64 a0_5,.int .i64 a0_6,.int .i64 a0_7,.slice A0_8 l0_8.length c0_8] 28 (0,0)) (by(with_reducible repeat first|apply zd|apply ze|apply za);exact BK177.out)):gb177≠gb178));have n7_:=zm ((by rw[hg];exact Nat.ne_of_gt (blk_lt (g:=gb177) (o:=.cells #[.string a0_0,.int .i64 a0_1,.int .i64 a0_2,.int .i64 a0_3,.int .i64 a0_4,.int .i64 a0_5,.int .i64 a0_6,.int .i64 a0_7,.slice A0_8 l0_8.length c0_8] 28 (0,0)) (by(with_reducible repeat first|apply zd|apply ze|apply za);exact BK177.out)):gb178≠gb177));clear HO0_8 BK177 HB;have HO0_8:=n0_;have BK177:=n1_;have HB:=n2_;have BK178:=n3_;have GW178:=n4_;have GE178:=n5_;have NB177_178:=n6_;have NB178_177:=n7_;clear n0_ n1_ n2_ n3_ n4_ n5_ n6_ n7_;clear hb hbox hg;have hnb38:=NB177_178.out;have hnc38:=NB178_177.out;have hcz39_0:=zc BK177.out 0 (.string a0_0) rfl;have hcz39_1:=zc BK177.out 1 (.int .i64 a0_1) rfl;have hcz39_2:=zc BK177.out 2 (.int .i64 a0_2) rfl;have hcz39_3:=zc BK177.out 3 (.int .i64 a0_3) rfl;have hcz39_4:=zc BK177.out 4 (.int .i64 a0_4) rfl;have hcz39_5:=zc BK177.out 5 (.int .i64 a0_5) rfl;have hcz39_6:=zc BK177.out 6 (.int .i64 a0_6) rfl;have hcz39_7:=zc BK177.out 7 (.int .i64 a0_7) rfl;have hcz39_8:=zc BK177.out 8 (.slice A0_8 l0_8.length c0_8) rfl;have hfz39_0:=zf BK177.out 0;have hfz39_1:=zf BK177.out 1;have hfz39_2:=zf BK177.out 2;have hfz39_3:=zf BK177.out 3;have hfz39_4:=zf BK177.out 4;have hfz39_5:=zf BK177.out 5;have hfz39_6:=zf BK177.out 6;have hfz39_7:=zf BK177.out 7;have hfz39_8:=zf BK177.out 8)|((with_reducible refine gate_callee (f:=72) rfl ?_);refine goesL_ (some 10) rfl rfl Try.func72 (by kernel_rfl) rfl #[.agg #[.string a0_0,.int .i64 a0_1,.int .i64 a0_2,.int .i64 a0_3,.int .i64 a0_4,.int .i64 a0_5,.int .i64 a0_6,.int .i64 a0_7,.slice A0_8 l0_8.length c0_8],.int .i64 a1] rfl (by(try simp only[List.map_toArray,List.map_cons,List.map_nil]);first|done|rfl|(simp only[List.length_drop,List.length_take];rfl)) ?_;(with_reducible refine(mr_given.calls k a0_0 a0_1 a0_2 a0_3 a0_4 a0_5 a0_6 a0_7 _ _ l0_8 a1 t179 _ ?side1 ?side2 A3.out).mono ?_);(case side1=>repeat(first|exact(Kd.V_reads' HO0_8.out).2.2|(with_reducible refine Kd.C_alloc ?_ _)|(with_reducible refine Kd.C_drewN ?_ _)|(with_reducible refine Kd.C_drew ?_)));(case side2=>exact(Kd.V_reads' HO0_8.out).2.1);rintro e w40 ⟨rfl,hb⟩;refine⟨_,rfl,?_⟩;have n0_:=zm (Kd.V_below (by(with_reducible repeat(first|apply Kd.V_alloc|apply Kd.V_drewN|apply Kd.V_drew));exact HO0_8.out) hb);have n1_:=zm (zb (g:=gb177) (o:=.cells #[.string a0_0,.int .i64 a0_1,.int .i64 a0_2,.int .i64 a0_3,.int .i64 a0_4,.int .i64 a0_5,.int .i64 a0_6,.int .i64 a0_7,.slice A0_8 l0_8.length c0_8] 28 (0,0)) (by(with_reducible repeat first|apply zd|apply ze|apply za);exact BK177.out) hb);have n2_:=zm (zb (g:=gb178) (o:=.cells #[.string (⟨#[]⟩:ByteArray),.int .i64 0,.int .i64 0,.int .i64 0,.int .i64 0,.int .i64 0,.int .i64 0,.int .i64 0,.slice none 0 0] 28 (0,0)) (by(with_reducible repeat first|apply zd|apply ze|apply za);exact BK178.out) hb);have n3_:=zm (below_step (by repeat(first|(with_reducible first|exact HB.out|apply zA|apply zD|apply zE|refine zS ?_ GE177.out|refine zS ?_ GE178.out)|exact HB.out)) hb);clear HO0_8 BK177 BK178 HB;have HO0_8:=n0_;have BK177:=n1_;have BK178:=n2_;have HB:=n3_;clear n0_ n1_ n2_ n3_;(try clear hb);(try clear hb2);(try clear hk);(try clear hi);have hcz41_0:=zc BK178.out 0 (.string (⟨#[]⟩:ByteArray)) rfl;have hcz41_1:=zc BK178.out 1 (.int .i64 0) rfl;have hcz41_2:=zc BK178.out 2 (.int .i64 0) rfl;have hcz41_3:=zc BK178.out 3 (.int .i64 0) rfl;have hcz41_4:=zc BK178.out 4 (.int .i64 0) rfl;have hcz41_5:=zc BK178.out 5 (.int .i64 0) rfl;have hcz41_6:=zc BK178.out 6 (.int .i64 0) rfl;have hcz41_7:=zc BK178.out 7 (.int .i64 0) rfl;have hcz41_8:=zc BK178.out 8 (.slice none 0 0) rfl;have hfz41_0:=zf BK178.out 0;have hfz41_1:=zf BK178.out 1;have hfz41_2:=zf BK178.out 2;have hfz41_3:=zf BK178.out 3;have hfz41_4:=zf BK178.out 4;have hfz41_5:=zf BK178.out 5;have hfz41_6:=zf BK178.out 6;have hfz41_7:=zf BK178.out 7;have hfz41_8:=zf BK178.out 8))
  refine bodyPost_ret (results_ct rfl _ _ gb178 28 #[.string (⟨#[]⟩:ByteArray),.int .i64 0,.int .i64 0,.int .i64 0,.int .i64 0,.int .i64 0,.int .i64 0,.int .i64 0,.slice none 0 0] (0,0) _ rfl (by(with_reducible repeat first|apply zd|apply ze|apply za);refine blk_put (cs:=#[.string (⟨#[]⟩:ByteArray),.int .i64 0,.int .i64 0,.int .i64 0,.int .i64 0,.int .i64 0,.int .i64 0,.int .i64 0,.slice none 0 0]) ?_ 8 _ rfl;(with_reducible repeat first|apply zd|apply ze|apply za);refine blk_put (cs:=#[.string (⟨#[]⟩:ByteArray),.int .i64 0,.int .i64 0,.int .i64 0,.int .i64 0,.int .i64 0,.int .i64 0,.int .i64 0,.slice none 0 0]) ?_ 7 _ rfl;(with_reducible repeat first|apply zd|apply ze|apply za);refine blk_put (cs:=#[.string (⟨#[]⟩:ByteArray),.int .i64 0,.int .i64 0,.int .i64 0,.int .i64 0,.int .i64 0,.int .i64 0,.int .i64 0,.slice none 0 0]) ?_ 6 _ rfl;(with_reducible repeat first|apply zd|apply ze|apply za);refine blk_put (cs:=#[.string (⟨#[]⟩:ByteArray),.int .i64 0,.int .i64 0,.int .i64 0,.int .i64 0,.int .i64 0,.int .i64 0,.int .i64 0,.slice none 0 0]) ?_ 5 _ rfl;(with_reducible repeat first|apply zd|apply ze|apply za);refine blk_put (cs:=#[.string (⟨#[]⟩:ByteArray),.int .i64 0,.int .i64 0,.int .i64 0,.int .i64 0,.int .i64 0,.int .i64 0,.int .i64 0,.slice none 0 0]) ?_ 4 _ rfl;(with_reducible repeat first|apply zd|apply ze|apply za);refine blk_put (cs:=#[.string (⟨#[]⟩:ByteArray),.int .i64 0,.int .i64 0,.int .i64 0,.int .i64 0,.int .i64 0,.int .i64 0,.int .i64 0,.slice none 0 0]) ?_ 3 _ rfl;(with_reducible repeat first|apply zd|apply ze|apply za);refine blk_put (cs:=#[.string (⟨#[]⟩:ByteArray),.int .i64 0,.int .i64 0,.int .i64 0,.int .i64 0,.int .i64 0,.int .i64 0,.int .i64 0,.slice none 0 0]) ?_ 2 _ rfl;(with_reducible repeat first|apply zd|apply ze|apply za);refine blk_put (cs:=#[.string (⟨#[]⟩:ByteArray),.int .i64 0,.int .i64 0,.int .i64 0,.int .i64 0,.int .i64 0,.int .i64 0,.int .i64 0,.slice none 0 0]) ?_ 1 _ rfl;(with_reducible repeat first|apply zd|apply ze|apply za);refine blk_put (cs:=#[.string (⟨#[]⟩:ByteArray),.int .i64 0,.int .i64 0,.int .i64 0,.int .i64 0,.int .i64 0,.int .i64 0,.int .i64 0,.slice none 0 0]) ?_ 0 _ rfl;(with_reducible repeat first|apply zd|apply ze|apply za);exact BK178.out) Try.underlying28 rfl (by kernel_rfl)) rfl ?_
  exact⟨_,by first|rfl|(simp[errW_none,errW_some]<;>rfl)|(simp[*,errW_none,errW_some]<;>rfl),Kd.V_nil _ _ _ _ _,by repeat(first|(with_reducible first|exact HB.out|apply zA|apply zD|apply zE|refine zS ?_ GE177.out|refine zS ?_ GE178.out)|exact HB.out)⟩
end Go.Proofs.Ytkgdlbepjmgaiaa.Fea
namespace Go.Proofs.Ytkgdlbepjmgaiaa.Fea
open Go.RowKit YtkgdlbepjmgaiaaW.PrintWords YtkgdlbepjmgaiaaW.PrintLast YtkgdlbepjmgaiaaW.PrintMore
theorem Reps.imp' {α:Type} {R R':α→List Value→Prop} {size:Nat} {ps:List α} {cs:List Value} (h:Reps R size ps cs) (hi:∀ p c,R p c→R' p c):Reps R' size ps cs:=
  ⟨h.1,fun j p hj=>hi _ _ (h.2 j p hj)⟩
theorem F_of_own {α:Type} {d:Kd α} {W:World} {base e:Nat} {v:Value} {xs:List α} {cs:List Value} (hmax:xs.length≤9223372036854775807) (h:W.ownsRow base e d.sz v xs.length cs) (hR:Reps (fun x c=>Kd.FK d W (fun k=>base≤k) x c) d.sz xs cs):
    ∃ A c,v=.slice A xs.length c∧xs.length≤c∧Kd.F d W (fun k=>base≤k) A xs.length xs:=by
  rcases h.2 with ⟨rfl,hn⟩|⟨g,cap,cur,rfl,hg,hh,hc,hm,hs,ht⟩
  · refine⟨none,0,by rw[hn],by omega,fun W' _=>⟨rfl,hmax,fun h0=>by omega⟩⟩
  · refine⟨_,_,rfl,hc,fun W' hW=>?_⟩
    have hlt:g < W.heap.size:=(Array.getElem?_eq_some_iff.1 hh).1
    have hh':W'.heap[g]?=some (.cells cur e (0,0)):=(hW g hg hlt).trans hh
    have ho:W'.ownsRow base e d.sz (.slice (some ⟨g,0,none⟩) xs.length cap) xs.length cs:=⟨h.1,.inr ⟨g,cap,cur,rfl,hg,hh',hc,hm,hs,ht⟩⟩
    obtain⟨A,c,e1,hr⟩:=own_reads_row ho (Reps.imp' hR (fun p c hk=>hk W' hW)) rfl
    injection e1 with e1 _ _
    rw[← e1] at hr
    exact hr
theorem Reps.one' {α:Type} {R:α→List Value→Prop} {size:Nat} {ps:List α} {cs:List Value} (h:Reps R size ps cs) (hs:0 < size) (hR:∀ p c,R p c→∀ u∈c,u.oneCell'=true):∀ u∈cs,u.oneCell'=true:=by
  intro u hu
  obtain⟨p,hp,rfl⟩:=List.mem_iff_getElem.1 hu
  have hl:=h.1
  have hj:p / size < ps.length:=by rw[Nat.div_lt_iff_lt_mul hs];omega
  have hm:p % size < size:=Nat.mod_lt _ hs
  have he:p / size * size+p % size=p:=by rw[Nat.mul_comm];exact Nat.div_add_mod _ _
  have hk:=h.2 (p / size) _ (List.getElem?_eq_getElem hj)
  refine hR _ _ hk _ ?_
  refine List.mem_of_getElem? (i:=p % size) ?_
  rw[List.getElem?_take_of_lt hm,List.getElem?_drop,he,List.getElem?_eq_getElem hp]
theorem cell_alloc {w:World} {a:Addr} {v:Value} (h:w.cell? a=some v) (o:Obj):(w.alloc o).cell? a=some v:=by
  rw[← h]
  exact World.cell?_of_block (Below.heap_alloc w o a.block (World.block_lt_of_cell? w a h))
set_option maxHeartbeats 4000000 in
set_option maxRecDepth 100000 in
theorem clone106_calls (A:Option Addr) (c:Nat) (xs:List S106) (w:World) (hr:Kd.C k106 w A xs.length xs) (hc:xs.length≤c) (hsm:xs.length≤1000000):
    Calls Try.prog 126 #[.slice A xs.length c] w fun e w'=>∃ A' c',e=.returned (.slice A' xs.length c')∧xs.length≤c'∧Kd.F k106 w' (fun k=>w.heap.size≤k) A' xs.length xs∧Below w.heap.size w w':=by
  have hu102:=Try.underlying102
  have q102:∀(w:World) (a:Option Addr) (n c n' c':Nat),(binOp .eql 102 (.slice a n c) (.slice none n' c')).run Try.prog w=.ok (.bool a.isNone) w:=fun w a n c n' c'=>Lib.run_eql_slice_nil w _ _ a n c n' c' Try.underlying102
  cases A with
  | none=>
    have h0:xs.length=0:=by
      rcases Nat.eq_zero_or_pos xs.length with g|g
      · exact g
      · obtain⟨ad,e,_⟩:=hr.2.2 g;cases e
    have HR:=Aside0.mk hr
    clear hr
    go_enter Try.func126,Try.ntmps126
    go_wp2
    go_ret
    exact⟨none,0,by rw[h0];rfl,by omega,fun W' _=>⟨rfl,HR.out.2.1,fun h=>by omega⟩,Below.refl _ _⟩
  | some ad=>
    obtain⟨inner,hreps,hcell⟩:=ReadsRow.inner_ hr
    have hmax:=hr.2.1
    have HC:=Aside0.mk hcell
    have HP:=Aside0.mk hreps
    have hlen:=hreps.1
    clear hr hcell hreps
    obtain⟨i0,hi,hz⟩:=Option.map_eq_some_iff.1 (show (Try.prog.info? 106).map (fun i=>(i.zero,i.size,i.bytes))=some (some (.agg #[(.string ⟨#[]⟩),(.int .i64 0)]),2,24) by kernel_rfl)
    simp only[Prod.mk.injEq] at hz
    obtain⟨hz0,hz1,hz2⟩:=hz
    go_enter Try.func126,Try.ntmps126
    go_wp2_with (at_builtin;refine wpList_append_own _ rfl _ _ 102 rfl w.heap.size 106 i0 (.agg #[(.string ⟨#[]⟩),(.int .i64 0)]) 2 24 hu102 hi hz0 hz1 hz2 rfl (by decide) _ _ _ rfl (World.ownsRow_made w #[] 0 (Nat.le_refl _) (Nat.zero_le _) rfl) ad xs.length c inner rfl ?qc1 ?qc2 ?qc3 ?qc4 ?qc5 ?qc6 ?_)
    case qc1=>exact hlen
    case qc2=>exact fun j u hj=>cell_alloc (HC.out j u hj) _
    case qc3=>exact Reps.one' HP.out (by decide) (fun _ _ hk=>k106.K_one hk)
    case qc4=>unfold maxLen;omega
    case qc5=>omega
    case qc6=>simp
    intro v' w1 hown hgrow hnil
    have HO:=Aside0.mk hown
    have HG:=Aside0.mk hgrow
    clear hown hgrow hnil
    go_wp2
    go_ret
    have ho:=HO.out
    obtain⟨A',c',rfl,hc',hF⟩:=F_of_own (d:=k106) hmax ho (Reps.imp' HP.out (fun p c hk=>by rw[k106_open hk];exact k106_mkF _ _ _))
    exact⟨A',c',rfl,hc',hF,(bel1 w _).grown HG.out (by simp) (by intro k hk;simp[Value.ownBlock] at hk;omega)⟩
set_option maxHeartbeats 4000000 in
set_option maxRecDepth 100000 in
theorem clone104_calls (A:Option Addr) (c n:Nat) (inner:List Value) (w:World) (hlen:inner.length=n * 5) (h1:∀ u∈inner,u.oneCell'=true) (hcell:∀ ad,A=some ad→∀ j u,inner[j]?=some u→w.cell? (ad.add j)=some u) (h0:A=none→n=0) (hsm:n≤1000000):
    Calls Try.prog 125 #[.slice A n c] w fun e w'=>∃ v',e=.returned v'∧w'.ownsRow w.heap.size 104 5 v' n inner∧Below w.heap.size w w':=by
  have hu26:=Try.underlying26
  have q26:∀(w:World) (a:Option Addr) (n c n' c':Nat),(binOp .eql 26 (.slice a n c) (.slice none n' c')).run Try.prog w=.ok (.bool a.isNone) w:=fun w a n c n' c'=>Lib.run_eql_slice_nil w _ _ a n c n' c' Try.underlying26
  cases A with
  | none=>
    have e0:=h0 rfl
    clear hcell h0
    go_enter Try.func125,Try.ntmps125
    go_wp2
    go_ret
    subst e0
    exact⟨.slice none 0 0,rfl,⟨hlen,.inl ⟨rfl,rfl⟩⟩,Below.refl _ _⟩
  | some ad=>
    have HC:=Aside0.mk (hcell ad rfl)
    have H1:=Aside0.mk h1
    clear hcell h0 h1
    obtain⟨i0,hi,hz⟩:=Option.map_eq_some_iff.1 (show (Try.prog.info? 104).map (fun i=>(i.zero,i.size,i.bytes))=some (some (.agg #[(.int .i64 0),(.bool false),(.int .i64 0),(.int .i64 0),.slice none 0 0]),5,56) by kernel_rfl)
    simp only[Prod.mk.injEq] at hz
    obtain⟨hz0,hz1,hz2⟩:=hz
    go_enter Try.func125,Try.ntmps125
    go_wp2_with (at_builtin;refine wpList_append_own _ rfl _ _ 26 rfl w.heap.size 104 i0 (.agg #[(.int .i64 0),(.bool false),(.int .i64 0),(.int .i64 0),.slice none 0 0]) 5 56 hu26 hi hz0 hz1 hz2 rfl (by decide) _ _ _ rfl (World.ownsRow_made w #[] 0 (Nat.le_refl _) (Nat.zero_le _) rfl) ad n c inner rfl ?qc1 ?qc2 ?qc3 ?qc4 ?qc5 ?qc6 ?_)
    case qc1=>exact hlen
    case qc2=>exact fun j u hj=>cell_alloc (HC.out j u hj) _
    case qc3=>exact H1.out
    case qc4=>unfold maxLen;omega
    case qc5=>omega
    case qc6=>simp
    intro v' w1 hown hgrow hnil
    have HO:=Aside0.mk hown
    have HG:=Aside0.mk hgrow
    clear hown hgrow hnil
    go_wp2
    go_ret
    have hb:Below w.heap.size w w1:=(bel1 w _).grown HG.out (by simp) (by intro k hk;simp[Value.ownBlock] at hk;omega)
    exact⟨v',rfl,by simpa using HO.out,hb⟩
abbrev ftU (nm:ByteArray) (k ax x y z lo hi:Int) (u:Value):Array Value:=#[.string nm,.int .i64 k,.int .i64 ax,.int .i64 x,.int .i64 y,.int .i64 z,.int .i64 lo,.int .i64 hi,u]
abbrev ft0:Array Value:=#[.string ⟨#[]⟩,.int .i64 0,.int .i64 0,.int .i64 0,.int .i64 0,.int .i64 0,.int .i64 0,.int .i64 0,.slice none 0 0]
def Mix (N g:Nat) (w W:World) (i:Nat) (l:List S104) (inner:List Value):Prop:=
  inner.length=l.length * 5∧∀ j p,l[j]?=some p→(j < i→Kd.FK k104 W (fun k=>N≤k∧k≠g) p ((inner.drop (j * 5)).take 5))∧(i≤j→Kd.FK k104 w (fun k=>k < w.heap.size) p ((inner.drop (j * 5)).take 5))
def small (l:List S104):Bool:=decide (l.length≤1000000)&&l.all fun p=>decide (p.f4.length≤1000000)
theorem own_at {w:World} {base g n cap:Nat} {e:TypeId} {size:Nat} {xs:List Value} (h:w.ownsRow base e size (.slice (some ⟨g,0,none⟩) n cap) n xs):base≤g∧n≤cap∧(∀ j u,xs[j]?=some u→w.cell? ⟨g,j,none⟩=some u)∧(∀ j,w.frozen? ⟨g,j,none⟩=false):=by
  rcases h.2 with ⟨e,_⟩|⟨g',cap',cur,e,hg,hh,hc,hm,hs,ht⟩
  · cases e
  · injection e with e1 _ e2
    injection e1 with e1
    injection e1 with e1 _ _
    subst e1 e2
    refine⟨hg,hc,fun j u hj=>?_,fun j=>blk_frozen hh j⟩
    rw[blk_cell hh]
    rw[← ht] at hj
    have hlt:j < (cur.toList.take (n * size)).length:=(List.getElem?_eq_some_iff.1 hj).1
    rw[List.length_take] at hlt
    rw[List.getElem?_take_of_lt (by omega)] at hj
    rw[← Array.getElem?_toList]
    exact hj
theorem own_put {w:World} {base g n cap:Nat} {e:TypeId} {size:Nat} {xs:List Value} (h:w.ownsRow base e size (.slice (some ⟨g,0,none⟩) n cap) n xs) (p:Nat) (u:Value):(w.setCell ⟨g,p,none⟩ u).ownsRow base e size (.slice (some ⟨g,0,none⟩) n cap) n (xs.set p u):=by
  rcases h.2 with ⟨e,_⟩|⟨g',cap',cur,e,hg,hh,hc,hm,hs,ht⟩
  · cases e
  · injection e with e1 _ e2
    injection e1 with e1
    injection e1 with e1 _ _
    subst e1 e2
    refine⟨by rw[List.length_set];exact h.1,.inr ⟨g,cap,cur.setIfInBounds p u,rfl,hg,blk_put hh p u rfl,hc,hm,by rw[Array.size_setIfInBounds];exact hs,?_⟩⟩
    rw[Array.toList_setIfInBounds,← ht,List.take_set]
theorem row_new {w:World} {g:Nat} {t:TypeId} {old cs:Array Value} (h:w.heap[g]?=some (.cells old t (0,0))):(w.setRow g cs).heap[g]?=some (.cells cs t (0,0)):=by
  simp[World.setRow,Array.getElem?_modify,h]
theorem row_far {w:World} {g k:Nat} {cs:Array Value} (h:k≠g):(w.setRow g cs).heap[k]?=w.heap[k]?:=by
  simp only[World.setRow,Array.getElem?_modify]
  rw[if_neg (by omega)]
theorem row_bel {w W:World} {g:Nat} {cs:Array Value} (h:Below w.heap.size w W) (hg:w.heap.size≤g):Below w.heap.size w (W.setRow g cs):=
  h.trans ⟨rfl,rfl,rfl,by rw[size_setRow];exact Nat.le_refl _,fun k hk=>row_far (by omega)⟩
theorem set_off {inn:List Value} {i j:Nat} {u:Value} (h:j≠i):((inn.set (i * 5+4) u).drop (j * 5)).take 5=(inn.drop (j * 5)).take 5:=by
  apply List.ext_getElem?
  intro q
  rw[List.getElem?_take,List.getElem?_take]
  split
  · rw[List.getElem?_drop,List.getElem?_drop,List.getElem?_set_ne (by omega)]
  · rfl
theorem set_on {inn:List Value} {i:Nat} {u a b c d e:Value} (h:(inn.drop (i * 5)).take 5=[a,b,c,d,e]):((inn.set (i * 5+4) u).drop (i * 5)).take 5=[a,b,c,d,u]:=by
  have h1:((inn.set (i * 5+4) u).drop (i * 5)).take 5=((inn.drop (i * 5)).take 5).set 4 u:=by
    apply List.ext_getElem?
    intro q
    have hl:=congrArg List.length h
    rw[List.length_take,List.length_drop] at hl
    simp only[List.length_cons,List.length_nil] at hl
    rw[List.getElem?_take]
    split
    · rename_i hq
      rw[List.getElem?_drop]
      by_cases e:q=4
      · subst e
        rw[List.getElem?_set_self (by omega),List.getElem?_set_self (by rw[h];simp)]
      · rw[List.getElem?_set_ne (by omega),List.getElem?_set_ne (by omega),List.getElem?_take,if_pos hq,List.getElem?_drop]
    · rename_i hq
      rw[List.getElem?_eq_none (by rw[List.length_set,h];simp;omega)]
  rw[h1,h]
  rfl
theorem cell_far {W:World} {a i:Nat} {v:Value} (h:W.cell? ⟨a,i,none⟩=some v) {g p:Nat} {u:Value} (hne:a≠g):(W.setCell ⟨g,p,none⟩ u).cell? ⟨a,i,none⟩=some v:=
  (World.cell?_of_block (Below.heap_setCell W ⟨g,p,none⟩ u a hne)).trans h
set_option maxHeartbeats 8000000 in
set_option maxRecDepth 100000 in
theorem placed_calls (g:Nat) (cb:Array Value) (eg:∀ args w,(callFunc g args).run Try.prog w=.ok (.enter g args) w) (nm:ByteArray) (k ax x y z lo hi:Int) (A:Option Addr) (c:Nat) (l:List S104) (x' y' z':Int) (w:World)
    (hr:Kd.C k104 w A l.length l) (hc:l.length≤c) (hsm:small l=true)
    (hf:∀ W,Below w.heap.size w W→Calls Try.prog g (#[.agg (v3 x y z)]++cb) W fun e W'=>e=.returned (.agg (v3 x' y' z'))∧Below W.heap.size W W'):
    Calls Try.prog 94 #[.agg (ftV nm k ax x y z lo hi A l.length c),.func (.func g) #[] cb] w fun e w'=>∃ A' c',e=.returned (.agg (ftV nm k ax x' y' z' lo hi A' l.length c'))∧l.length≤c'∧Kd.F k104 w' (fun k_=>w.heap.size≤k_) A' l.length l∧Below w.heap.size w w':=by
  have hu28:=Try.underlying28
  have hu23:=Try.underlying23
  have hu26:=Try.underlying26
  have HF:=Aside0.mk hf
  have HR:=Aside0.mk hr
  have hsm1:l.length≤1000000:=by
    simp only[small,Bool.and_eq_true,decide_eq_true_eq] at hsm;exact hsm.1
  have HS:=Aside0.mk hsm
  clear hf hr hsm
  go_enter Try.func94,Try.ntmps94
  go_upto_region 1 with (fail)
  have hs1:=heap2o w (.cells (ftV nm k ax x y z lo hi A l.length c) 28) (.cells ft0 28)
  have hs2:=heap2 w (.cells (ftV nm k ax x y z lo hi A l.length c) 28) (.cells ft0 28)
  have hB:=bel2 w (.cells (ftV nm k ax x y z lo hi A l.length c) 28) (.cells ft0 28)
  generalize (w.alloc (.cells (ftV nm k ax x y z lo hi A l.length c) 28)).alloc (.cells ft0 28)=W1 at *
  have c3:=(blk_cell hs1 3).trans (rfl:_=some (Value.int .i64 x))
  have c4:=(blk_cell hs1 4).trans (rfl:_=some (Value.int .i64 y))
  have c5:=(blk_cell hs1 5).trans (rfl:_=some (Value.int .i64 z))
  go_wp2_with (go_at_call 103;refine(coord_calls _ _ _ _).mono ?_;rintro e w' ⟨rfl,hb⟩;have hs1':=blk_below hs1 hb;have hs2':=blk_below hs2 hb;have hB':=below_step hB hb;clear hb hs1 hs2 hB c3 c4 c5;have hcall:=HF.out w' hB')
  refine hcall.mono ?_
  clear hcall
  rintro e w2 ⟨rfl,hb⟩
  have hs1:=blk_below hs1' hb
  have hs2:=blk_below hs2' hb
  have hB:=below_step hB' hb
  clear hb hs1' hs2' hB'
  go_wp2_with (go_at_call 124;refine(spot_calls _ _ _ _).mono ?_;rintro e w3 ⟨rfl,hb⟩;have hs1':=blk_below hs1 hb;have hs2':=blk_below hs2 hb;have hB':=below_step hB hb;clear hb hs1 hs2 hB;have c3:=(blk_cell hs1' 3).trans (rfl:_=some (Value.int .i64 x));have c4:=(blk_cell hs1' 4).trans (rfl:_=some (Value.int .i64 y));have c5:=(blk_cell hs1' 5).trans (rfl:_=some (Value.int .i64 z));have f3:=blk_frozen hs1' 3;have f4:=blk_frozen hs1' 4;have f5:=blk_frozen hs1' 5;have c8:=(blk_cell hs1' 8).trans (rfl:_=some (Value.slice A l.length c)))
  have hs3:=blk_put (blk_put (blk_put hs1' 3 (.int .i64 x') rfl) 4 (.int .i64 y') rfl) 5 (.int .i64 z') rfl
  have hs4:(((w3.setCell ⟨w.heap.size,3,none⟩ (.int .i64 x')).setCell ⟨w.heap.size,4,none⟩ (.int .i64 y')).setCell ⟨w.heap.size,5,none⟩ (.int .i64 z')).heap[w.heap.size+1]?=some (.cells ft0 28 (0,0)):=
    (Below.heap_setCell _ _ _ _ (by show w.heap.size+1≠w.heap.size;omega)).trans ((Below.heap_setCell _ _ _ _ (by show w.heap.size+1≠w.heap.size;omega)).trans ((Below.heap_setCell _ _ _ _ (by show w.heap.size+1≠w.heap.size;omega)).trans hs2'))
  have hB4:=below_set (j:=5) (v:=.int .i64 z') (below_set (j:=4) (v:=.int .i64 y') (below_set (j:=3) (v:=.int .i64 x') hB' (Nat.le_refl _)) (Nat.le_refl _)) (Nat.le_refl _)
  clear hs1' hs2' hB' c3 c4 c5 f3 f4 f5 c8
  generalize ((w3.setCell ⟨w.heap.size,3,none⟩ (.int .i64 x')).setCell ⟨w.heap.size,4,none⟩ (.int .i64 y')).setCell ⟨w.heap.size,5,none⟩ (.int .i64 z')=W4 at *
  obtain⟨inner,hreps,hcell,h0⟩:∃ inner,Reps (k104.K w) 5 l inner∧(∀ ad,A=some ad→∀ j u,inner[j]?=some u→w.cell? (ad.add j)=some u)∧(A=none→l.length=0):=by
    cases A with
    | none=>
      have h0:l=[]:=by
        rcases Nat.eq_zero_or_pos l.length with g|g
        · exact List.length_eq_zero_iff.1 g
        · obtain⟨ad,e,_⟩:=HR.out.2.2 g;cases e
      subst h0
      exact⟨[],Reps.none _ _,fun ad e=>(by cases e),fun _=>rfl⟩
    | some ad=>
      obtain⟨inner,h1,h2⟩:=ReadsRow.inner_ HR.out
      exact⟨inner,h1,fun ad' e=>by cases e;exact h2,fun e=>by cases e⟩
  have hlt4:w.heap.size+2≤W4.heap.size:=(Array.getElem?_eq_some_iff.1 hs4).1
  have hmix:∀ g,Mix (w.heap.size+2) g w w 0 l inner:=fun g=>⟨hreps.1,fun j p hj=>⟨fun h=>absurd h (Nat.not_lt_zero _),fun _ W' hW=>k104_heap.K (fun k hlt=>hW k hlt hlt) (hreps.2 j p hj)⟩⟩
  refine(clone104_calls A c l.length inner W4 hreps.1 (Reps.one' hreps (by decide) (fun _ _ hk=>k104.K_one hk)) (fun ad e j u hj=>pw_cell_below hB4 (hcell ad e j u hj)) h0 hsm1).mono ?_
  clear hcell h0 hreps
  rintro e w5 ⟨v',rfl,ho,hb⟩
  have ho2:=own_weaken ho hlt4
  have hs5:=blk_below hs3 hb
  have hs6:=blk_below hs4 hb
  have hB5:=below_step hB4 hb
  clear ho hs3 hs4 hb hB4
  have c8:=(blk_cell hs5 8).trans (rfl:_=some (Value.slice A l.length c))
  have f8:=blk_frozen hs5 8
  obtain⟨A',c',rfl⟩:=own_slice ho2
  have HO:=Aside0.mk ho2
  have HM:=Aside0.mk hmix
  clear ho2 hmix
  go_upto_region 3 with (fail)
  have hs7:=blk_put hs5 8 (.slice A' l.length c') rfl
  have hs8:(w5.setCell ⟨w.heap.size,8,none⟩ (.slice A' l.length c')).heap[w.heap.size+1]?=some (.cells ft0 28 (0,0)):=(Below.heap_setCell _ _ _ _ (by show w.heap.size+1≠w.heap.size;omega)).trans hs6
  have hB6:=below_set (j:=8) (v:=.slice A' l.length c') hB5 (Nat.le_refl _)
  have HO2:=Aside0.mk (own_move (w1:=w5.setCell ⟨w.heap.size,8,none⟩ (.slice A' l.length c')) HO.out (fun k hk=>Below.heap_setCell _ _ _ _ (by have:=own_base HO.out k hk;show k≠w.heap.size;omega)))
  clear hs5 hs6 hB5 HO c8 f8
  generalize w5.setCell ⟨w.heap.size,8,none⟩ (.slice A' l.length c')=W6 at *
  have c8:=(blk_cell hs7 8).trans (rfl:_=some (Value.slice A' l.length c'))
  go_wp2
  obtain⟨gg,hgg⟩:∃ gg,0 < l.length→A'=some ⟨gg,0,none⟩:=by
    rcases HO2.out.2 with ⟨e,h0⟩|⟨gg,cap,cur,e,_⟩
    · exact⟨0,fun h=>by omega⟩
    · injection e with e _ _
      exact⟨gg,fun _=>e⟩
  have HG:=Aside0.mk hgg
  clear hgg c8
  go_loopg [21] l.length (fun kx s21 wr=>∃(i:Nat) (inn:List Value),i≤l.length∧s21=.int .i64 i∧l.length - i≤kx∧wr.heap[w.heap.size]?=some (.cells (ftV nm k ax x' y' z' lo hi A' l.length c') 28 (0,0))∧wr.heap[w.heap.size+1]?=some (.cells ft0 28 (0,0))∧Below w.heap.size w wr∧Aside0 (wr.ownsRow (w.heap.size+2) 104 5 (.slice A' l.length c') l.length inn)∧Aside0 (Mix (w.heap.size+2) gg w wr i l inn))
  case atStart=>exact⟨0,inner,Nat.zero_le _,rfl,by omega,hs7,hs8,hB6,HO2,⟨(HM.out gg).1,fun j p hj=>⟨fun h=>absurd h (Nat.not_lt_zero _),((HM.out gg).2 j p hj).2⟩⟩⟩
  case round=>
    obtain⟨i,inn,hin,rfl,hk,k1,k2,kB,HOi,HMi⟩:=hrel
    clear hs7 hs8 hB6 HO2 HM
    have c8:=(blk_cell k1 8).trans (rfl:_=some (Value.slice A' l.length c'))
    by_cases hlt:i < l.length
    · obtain rfl:=HG.out (by omega)
      obtain⟨hge,hnc,hcl,hfr⟩:=own_at HOi.out
      obtain⟨p,hp⟩:∃ p,l[i]?=some p:=⟨_,List.getElem?_eq_getElem hlt⟩
      have hK:k104.K wr p ((inn.drop (i * 5)).take 5):=((HMi.out.2 i p hp).2 (Nat.le_refl _)) wr (fun k hk _=>kB.block k hk)
      obtain⟨A4,c4,e5,l4,g4⟩:=k104_open hK
      have hq:∀ q u,[Value.int .i64 p.f0,.bool p.f1,.int .i64 p.f2,.int .i64 p.f3,.slice A4 p.f4.length c4][q]?=some u→inn[i * 5+q]?=some u:=by
        intro q u hu
        rw[← e5,List.getElem?_take] at hu
        split at hu
        · rwa[List.getElem?_drop] at hu
        · cases hu
      have x0:wr.cell? ⟨gg,i * 5,none⟩=some (.int .i64 p.f0):=hcl _ _ (hq 0 _ rfl)
      have x1:=hcl _ _ (hq 1 _ rfl)
      have x2:=hcl _ _ (hq 2 _ rfl)
      have x3:=hcl _ _ (hq 3 _ rfl)
      have x4:=hcl _ _ (hq 4 _ rfl)
      have z4:=hfr (i * 5+4)
      have s4:p.f4.length≤1000000:=by
        have h:=HS.out
        simp only[small,Bool.and_eq_true,List.all_eq_true,decide_eq_true_eq] at h
        exact h.2 p (List.mem_of_getElem? hp)
      have hq4:=hq 4 _ rfl
      clear hcl hfr hq hK
      have hii:(i:Int) < (l.length:Int):=by omega
      go_upto_region 6 with (fail)
      clear x0 x1 x2 x3 x4 z4 c8
      have hsr:w.heap.size+2≤wr.heap.size:=(Array.getElem?_eq_some_iff.1 k2).1
      have hgr:gg < wr.heap.size:=by
        rcases HOi.out.2 with ⟨e,_⟩|⟨g',cap',cur,e,hg,hh,_⟩
        · cases e
        · injection e with e1 _ _
          injection e1 with e1
          injection e1 with e1 _ _
          exact e1▸(Array.getElem?_eq_some_iff.1 hh).1
      have hx:=blk_new wr (.cells #[.int .i64 p.f0,.bool p.f1,.int .i64 p.f2,.int .i64 p.f3,.slice A4 p.f4.length c4] 104)
      have k1':=blk_alloc k1 (.cells #[.int .i64 p.f0,.bool p.f1,.int .i64 p.f2,.int .i64 p.f3,.slice A4 p.f4.length c4] 104)
      have k2':=blk_alloc k2 (.cells #[.int .i64 p.f0,.bool p.f1,.int .i64 p.f2,.int .i64 p.f3,.slice A4 p.f4.length c4] 104)
      have kW:=bel1 wr (.cells #[.int .i64 p.f0,.bool p.f1,.int .i64 p.f2,.int .i64 p.f3,.slice A4 p.f4.length c4] 104)
      generalize wr.alloc (.cells #[.int .i64 p.f0,.bool p.f1,.int .i64 p.f2,.int .i64 p.f3,.slice A4 p.f4.length c4] 104)=Wx at *
      have G4:=Aside0.mk (Kd.C_below g4 kW)
      have HO':=Aside0.mk (pw_own_below HOi.out kW)
      clear g4
      have c8:=(blk_cell k1' 8).trans (rfl:_=some (Value.slice (some ⟨gg,0,none⟩) l.length c'))
      have y4:=(blk_cell hx 4).trans (rfl:_=some (Value.slice A4 p.f4.length c4))
      go_region_held3 (fun w'=>w'.cell? ⟨w.heap.size,8,none⟩=some (.slice (some ⟨gg,0,none⟩) l.length c')∧w'.cell? ⟨wr.heap.size,4,none⟩=some (.slice A4 p.f4.length c4)) (first|exact⟨c8,y4⟩|exact⟨cell_on hb c8,cell_on hb y4⟩|exact⟨cell_far (cell_on hb c8) (by omega),cell_far (cell_on hb y4) (by omega)⟩) (first|(go_at_call 126;refine(clone106_calls A4 c4 p.f4 _ (Kd.C_drew G4.out) l4 s4).mono ?_;rintro e w' ⟨A6,c6,rfl,l6,F6,hb⟩;have x4:=(own_at (pw_own_below (w:=Wx.drew) HO'.out hb)).2.2.1 _ _ (hq4);have z4:=(own_at (pw_own_below (w:=Wx.drew) HO'.out hb)).2.2.2 (i * 5+4)))
      go_wp2
      go_roundg (l.length - (i+1))
      case measure=>omega
      case rel=>
        have own':=pw_own_below (w:=Wx.drew) HO'.out hb
        have hgx:gg < Wx.heap.size∧w.heap.size+2≤Wx.heap.size:=⟨Nat.lt_of_lt_of_le hgr kW.size,Nat.le_trans hsr kW.size⟩
        refine⟨i+1,inn.set (i * 5+4) (.slice A6 p.f4.length c6),by omega,rfl,Nat.le_refl _,?_,?_,?_,⟨own_put own' _ _⟩,⟨by rw[List.length_set];exact HMi.out.1,fun j p' hj=>⟨fun hjl=>?_,fun hjl=>?_⟩⟩⟩
        · exact(Below.heap_setCell _ _ _ _ (by show w.heap.size≠gg;omega)).trans (blk_below (w:=Wx.drew) k1' hb)
        · exact(Below.heap_setCell _ _ _ _ (by show w.heap.size+1≠gg;omega)).trans (blk_below (w:=Wx.drew) k2' hb)
        · exact below_set (below_step (w:=w) (W:=Wx.drew) (below_drew1 (below_step kB kW)) hb) (by omega)
        · rcases Nat.lt_or_ge j i with g|g
          · rw[set_off (by omega)]
            have h1:=(HMi.out.2 j p' hj).1 g
            have h2:Kd.FK k104 w' (fun k=>w.heap.size+2≤k∧k≠gg) p' ((inn.drop (j * 5)).take 5):=Kd.FK_below (Kd.FK_step (W1:=Wx.drew) h1 (fun k _ hlt=>kW.block k hlt)) hb
            exact Kd.FK_step h2 (fun k hk _=>Below.heap_setCell _ _ _ _ hk.2)
          · obtain rfl:j=i:=by omega
            rw[hp] at hj
            obtain rfl:=Option.some.inj hj
            rw[set_on e5]
            exact k104_mkF _ _ _ l6 (Kd.F_far (Kd.F_mono F6 (fun k hk=>⟨Nat.le_trans hgx.2 hk,by have:Wx.heap.size≤k:=hk;omega⟩)) (fun k hk=>hk.2) _)
        · rw[set_off (by omega)]
          exact(HMi.out.2 j p' hj).2 (by omega)
    · obtain rfl:i=l.length:=by omega
      go_wp2_with (first|((with_reducible refine gate_dst (N:=35) rfl ?_);refine wpList_load_row rfl 28 (.tmp 2) rfl w.heap.size rfl 28 (ftV nm k ax x' y' z' lo hi A' l.length c') (0,0) _ k1 Try.underlying28 rfl (by kernel_rfl) ?_)|((with_reducible refine gate_store (t:=28) (p:=4) rfl ?_);refine wpList_store_row rfl 28 (.tmp 4) (.tmp 35) rfl (w.heap.size+1) (ftV nm k ax x' y' z' lo hi A' l.length c') rfl rfl 28 ft0 k2 (by kernel_rfl) rfl (by simp[Value.oneCell']) ?_))
      refine bodyPost_ret (results_cell_row rfl _ _ (w.heap.size+1) 28 (ftV nm k ax x' y' z' lo hi A' l.length c') (0,0) _ rfl (row_new k2) Try.underlying28 rfl (by kernel_rfl)) rfl ?_
      obtain⟨A8,c9,e8,h8,F8⟩:=F_of_own (d:=k104) HR.out.2.1 HOi.out ⟨HMi.out.1,fun j p hj=>Kd.FK_mono ((HMi.out.2 j p hj).1 (List.getElem?_eq_some_iff.1 hj).1) (fun k hk=>hk.1)⟩
      injection e8 with e8 _ e9
      subst e8 e9
      refine⟨A',c',rfl,h8,?_,?_⟩
      · refine Kd.F_mono (ok:=fun k=>w.heap.size+2≤k) ?_ (fun k hk=>by omega)
        exact Kd.F_step F8 (fun k hk _=>row_far (by omega))
      · exact row_bel kB (by omega)
def turn3 (x y z a:Int):Int×Int×Int:=if a=0 then(x,-z,y) else if a=1 then(z,y,-x) else(-y,x,z)
def mir3 (x y z a:Int):Int×Int×Int:=if a=0 then(-x,y,z) else if a=1 then(x,-y,z) else(x,y,-z)
set_option maxHeartbeats 8000000 in
set_option maxRecDepth 100000 in
theorem turn1_0 (bl bn:Nat) (x y z:Int) (W:World) (hbl:W.cell? ⟨bl,0,none⟩=some (.int .i64 2)) (hbn:W.cell? ⟨bn,0,none⟩=some (.int .i64 1)) (rx:-100000≤x∧x≤100000) (ry:-100000≤y∧y≤100000) (rz:-100000≤z∧z≤100000):
    Calls Try.prog 95 (#[.agg (v3 x y z)]++#[.pointer (some ⟨bl,0,none⟩),.pointer (some ⟨bn,0,none⟩)]) W fun e w'=>e=.returned (.agg (v3 (x) (-z) (y)))∧Below W.heap.size W w':=by
  have hu128:=Try.underlying128
  have ez:IntKind.i64.wrap (-z)=-z:=IntWalk.i64_in _ (by omega)
  have kbl:bl < W.heap.size:=World.block_lt_of_cell? _ _ hbl
  have kbn:bn < W.heap.size:=World.block_lt_of_cell? _ _ hbn
  clear rx ry rz
  go_enter Try.func95,Try.ntmps95
  go_upto_region 1 with (fail)
  have gbl:=cell_alloc (cell_alloc hbl (.cells (v3 x y z) 128)) (.cells #[.int .i64 0,.int .i64 0,.int .i64 0] 128)
  have gbn:=cell_alloc (cell_alloc hbn (.cells (v3 x y z) 128)) (.cells #[.int .i64 0,.int .i64 0,.int .i64 0] 128)
  have hc1:=heap2o W (.cells (v3 x y z) 128) (.cells #[.int .i64 0,.int .i64 0,.int .i64 0] 128)
  have hc2:=heap2 W (.cells (v3 x y z) 128) (.cells #[.int .i64 0,.int .i64 0,.int .i64 0] 128)
  have hB:=bel2 W (.cells (v3 x y z) 128) (.cells #[.int .i64 0,.int .i64 0,.int .i64 0] 128)
  have nbl:bl≠W.heap.size:=by omega
  have nbn:bn≠W.heap.size:=by omega
  generalize (W.alloc (.cells (v3 x y z) 128)).alloc (.cells #[.int .i64 0,.int .i64 0,.int .i64 0] 128)=W1 at *
  have d0:=(blk_cell hc1 0).trans (rfl:_=some (Value.int .i64 x))
  have z0:=blk_frozen hc1 0
  have d1:=(blk_cell hc1 1).trans (rfl:_=some (Value.int .i64 y))
  have z1:=blk_frozen hc1 1
  have d2:=(blk_cell hc1 2).trans (rfl:_=some (Value.int .i64 z))
  have z2:=blk_frozen hc1 2
  go_region
  have hc1':((W1.setCell ⟨W.heap.size,1,none⟩ (.int .i64 (-z))).setCell ⟨W.heap.size,2,none⟩ (.int .i64 (y))).drew.heap[W.heap.size]?=some (.cells (v3 (x) (-z) (y)) 128 (0,0)):=(blk_put (blk_put hc1 1 _ rfl) 2 _ rfl)
  have hc2':((W1.setCell ⟨W.heap.size,1,none⟩ (.int .i64 (-z))).setCell ⟨W.heap.size,2,none⟩ (.int .i64 (y))).drew.heap[W.heap.size+1]?=some (.cells #[.int .i64 0,.int .i64 0,.int .i64 0] 128 (0,0)):=((Below.heap_setCell _ _ _ _ (by show W.heap.size+1≠W.heap.size;omega)).trans ((Below.heap_setCell _ _ _ _ (by show W.heap.size+1≠W.heap.size;omega)).trans hc2))
  have hB':Below W.heap.size W ((W1.setCell ⟨W.heap.size,1,none⟩ (.int .i64 (-z))).setCell ⟨W.heap.size,2,none⟩ (.int .i64 (y))).drew:=below_drew1 (below_set (below_set hB (Nat.le_refl _)) (Nat.le_refl _))
  generalize ((W1.setCell ⟨W.heap.size,1,none⟩ (.int .i64 (-z))).setCell ⟨W.heap.size,2,none⟩ (.int .i64 (y))).drew=W2 at *
  have p0:=(blk_cell hc1' 0).trans (rfl:_=some (Value.int .i64 (x)))
  have q0:=(blk_cell hc2' 0).trans (rfl:_=some (Value.int .i64 0))
  have u0:=blk_frozen hc2' 0
  have p1:=(blk_cell hc1' 1).trans (rfl:_=some (Value.int .i64 (-z)))
  have q1:=(blk_cell hc2' 1).trans (rfl:_=some (Value.int .i64 0))
  have u1:=blk_frozen hc2' 1
  have p2:=(blk_cell hc1' 2).trans (rfl:_=some (Value.int .i64 (y)))
  have q2:=(blk_cell hc2' 2).trans (rfl:_=some (Value.int .i64 0))
  have u2:=blk_frozen hc2' 2
  clear gbl hbl gbn hbn d0 d1 d2 z0 z1 z2
  go_wp2
  refine bodyPost_ret (results_cell_row rfl _ _ (W.heap.size+1) 128 (v3 (x) (-z) (y)) (0,0) _ rfl (blk_put (blk_put (blk_put hc2' 0 _ rfl) 1 _ rfl) 2 _ rfl) Try.underlying128 rfl (by kernel_rfl)) rfl ?_
  exact⟨rfl,below_set (below_set (below_set hB' (by omega)) (by omega)) (by omega)⟩
set_option maxHeartbeats 8000000 in
set_option maxRecDepth 100000 in
theorem turn1_1 (bl bn:Nat) (x y z:Int) (W:World) (hbl:W.cell? ⟨bl,0,none⟩=some (.int .i64 0)) (hbn:W.cell? ⟨bn,0,none⟩=some (.int .i64 2)) (rx:-100000≤x∧x≤100000) (ry:-100000≤y∧y≤100000) (rz:-100000≤z∧z≤100000):
    Calls Try.prog 95 (#[.agg (v3 x y z)]++#[.pointer (some ⟨bl,0,none⟩),.pointer (some ⟨bn,0,none⟩)]) W fun e w'=>e=.returned (.agg (v3 (z) (y) (-x)))∧Below W.heap.size W w':=by
  have hu128:=Try.underlying128
  have ex:IntKind.i64.wrap (-x)=-x:=IntWalk.i64_in _ (by omega)
  have kbl:bl < W.heap.size:=World.block_lt_of_cell? _ _ hbl
  have kbn:bn < W.heap.size:=World.block_lt_of_cell? _ _ hbn
  clear rx ry rz
  go_enter Try.func95,Try.ntmps95
  go_upto_region 1 with (fail)
  have gbl:=cell_alloc (cell_alloc hbl (.cells (v3 x y z) 128)) (.cells #[.int .i64 0,.int .i64 0,.int .i64 0] 128)
  have gbn:=cell_alloc (cell_alloc hbn (.cells (v3 x y z) 128)) (.cells #[.int .i64 0,.int .i64 0,.int .i64 0] 128)
  have hc1:=heap2o W (.cells (v3 x y z) 128) (.cells #[.int .i64 0,.int .i64 0,.int .i64 0] 128)
  have hc2:=heap2 W (.cells (v3 x y z) 128) (.cells #[.int .i64 0,.int .i64 0,.int .i64 0] 128)
  have hB:=bel2 W (.cells (v3 x y z) 128) (.cells #[.int .i64 0,.int .i64 0,.int .i64 0] 128)
  have nbl:bl≠W.heap.size:=by omega
  have nbn:bn≠W.heap.size:=by omega
  generalize (W.alloc (.cells (v3 x y z) 128)).alloc (.cells #[.int .i64 0,.int .i64 0,.int .i64 0] 128)=W1 at *
  have d0:=(blk_cell hc1 0).trans (rfl:_=some (Value.int .i64 x))
  have z0:=blk_frozen hc1 0
  have d1:=(blk_cell hc1 1).trans (rfl:_=some (Value.int .i64 y))
  have z1:=blk_frozen hc1 1
  have d2:=(blk_cell hc1 2).trans (rfl:_=some (Value.int .i64 z))
  have z2:=blk_frozen hc1 2
  go_region
  have hc1':((W1.setCell ⟨W.heap.size,2,none⟩ (.int .i64 (-x))).setCell ⟨W.heap.size,0,none⟩ (.int .i64 (z))).drew.heap[W.heap.size]?=some (.cells (v3 (z) (y) (-x)) 128 (0,0)):=(blk_put (blk_put hc1 2 _ rfl) 0 _ rfl)
  have hc2':((W1.setCell ⟨W.heap.size,2,none⟩ (.int .i64 (-x))).setCell ⟨W.heap.size,0,none⟩ (.int .i64 (z))).drew.heap[W.heap.size+1]?=some (.cells #[.int .i64 0,.int .i64 0,.int .i64 0] 128 (0,0)):=((Below.heap_setCell _ _ _ _ (by show W.heap.size+1≠W.heap.size;omega)).trans ((Below.heap_setCell _ _ _ _ (by show W.heap.size+1≠W.heap.size;omega)).trans hc2))
  have hB':Below W.heap.size W ((W1.setCell ⟨W.heap.size,2,none⟩ (.int .i64 (-x))).setCell ⟨W.heap.size,0,none⟩ (.int .i64 (z))).drew:=below_drew1 (below_set (below_set hB (Nat.le_refl _)) (Nat.le_refl _))
  generalize ((W1.setCell ⟨W.heap.size,2,none⟩ (.int .i64 (-x))).setCell ⟨W.heap.size,0,none⟩ (.int .i64 (z))).drew=W2 at *
  have p0:=(blk_cell hc1' 0).trans (rfl:_=some (Value.int .i64 (z)))
  have q0:=(blk_cell hc2' 0).trans (rfl:_=some (Value.int .i64 0))
  have u0:=blk_frozen hc2' 0
  have p1:=(blk_cell hc1' 1).trans (rfl:_=some (Value.int .i64 (y)))
  have q1:=(blk_cell hc2' 1).trans (rfl:_=some (Value.int .i64 0))
  have u1:=blk_frozen hc2' 1
  have p2:=(blk_cell hc1' 2).trans (rfl:_=some (Value.int .i64 (-x)))
  have q2:=(blk_cell hc2' 2).trans (rfl:_=some (Value.int .i64 0))
  have u2:=blk_frozen hc2' 2
  clear gbl hbl gbn hbn d0 d1 d2 z0 z1 z2
  go_wp2
  refine bodyPost_ret (results_cell_row rfl _ _ (W.heap.size+1) 128 (v3 (z) (y) (-x)) (0,0) _ rfl (blk_put (blk_put (blk_put hc2' 0 _ rfl) 1 _ rfl) 2 _ rfl) Try.underlying128 rfl (by kernel_rfl)) rfl ?_
  exact⟨rfl,below_set (below_set (below_set hB' (by omega)) (by omega)) (by omega)⟩
set_option maxHeartbeats 8000000 in
set_option maxRecDepth 100000 in
theorem turn1_2 (bl bn:Nat) (x y z:Int) (W:World) (hbl:W.cell? ⟨bl,0,none⟩=some (.int .i64 1)) (hbn:W.cell? ⟨bn,0,none⟩=some (.int .i64 0)) (rx:-100000≤x∧x≤100000) (ry:-100000≤y∧y≤100000) (rz:-100000≤z∧z≤100000):
    Calls Try.prog 95 (#[.agg (v3 x y z)]++#[.pointer (some ⟨bl,0,none⟩),.pointer (some ⟨bn,0,none⟩)]) W fun e w'=>e=.returned (.agg (v3 (-y) (x) (z)))∧Below W.heap.size W w':=by
  have hu128:=Try.underlying128
  have ey:IntKind.i64.wrap (-y)=-y:=IntWalk.i64_in _ (by omega)
  have kbl:bl < W.heap.size:=World.block_lt_of_cell? _ _ hbl
  have kbn:bn < W.heap.size:=World.block_lt_of_cell? _ _ hbn
  clear rx ry rz
  go_enter Try.func95,Try.ntmps95
  go_upto_region 1 with (fail)
  have gbl:=cell_alloc (cell_alloc hbl (.cells (v3 x y z) 128)) (.cells #[.int .i64 0,.int .i64 0,.int .i64 0] 128)
  have gbn:=cell_alloc (cell_alloc hbn (.cells (v3 x y z) 128)) (.cells #[.int .i64 0,.int .i64 0,.int .i64 0] 128)
  have hc1:=heap2o W (.cells (v3 x y z) 128) (.cells #[.int .i64 0,.int .i64 0,.int .i64 0] 128)
  have hc2:=heap2 W (.cells (v3 x y z) 128) (.cells #[.int .i64 0,.int .i64 0,.int .i64 0] 128)
  have hB:=bel2 W (.cells (v3 x y z) 128) (.cells #[.int .i64 0,.int .i64 0,.int .i64 0] 128)
  have nbl:bl≠W.heap.size:=by omega
  have nbn:bn≠W.heap.size:=by omega
  generalize (W.alloc (.cells (v3 x y z) 128)).alloc (.cells #[.int .i64 0,.int .i64 0,.int .i64 0] 128)=W1 at *
  have d0:=(blk_cell hc1 0).trans (rfl:_=some (Value.int .i64 x))
  have z0:=blk_frozen hc1 0
  have d1:=(blk_cell hc1 1).trans (rfl:_=some (Value.int .i64 y))
  have z1:=blk_frozen hc1 1
  have d2:=(blk_cell hc1 2).trans (rfl:_=some (Value.int .i64 z))
  have z2:=blk_frozen hc1 2
  go_region
  have hc1':((W1.setCell ⟨W.heap.size,0,none⟩ (.int .i64 (-y))).setCell ⟨W.heap.size,1,none⟩ (.int .i64 (x))).drew.heap[W.heap.size]?=some (.cells (v3 (-y) (x) (z)) 128 (0,0)):=(blk_put (blk_put hc1 0 _ rfl) 1 _ rfl)
  have hc2':((W1.setCell ⟨W.heap.size,0,none⟩ (.int .i64 (-y))).setCell ⟨W.heap.size,1,none⟩ (.int .i64 (x))).drew.heap[W.heap.size+1]?=some (.cells #[.int .i64 0,.int .i64 0,.int .i64 0] 128 (0,0)):=((Below.heap_setCell _ _ _ _ (by show W.heap.size+1≠W.heap.size;omega)).trans ((Below.heap_setCell _ _ _ _ (by show W.heap.size+1≠W.heap.size;omega)).trans hc2))
  have hB':Below W.heap.size W ((W1.setCell ⟨W.heap.size,0,none⟩ (.int .i64 (-y))).setCell ⟨W.heap.size,1,none⟩ (.int .i64 (x))).drew:=below_drew1 (below_set (below_set hB (Nat.le_refl _)) (Nat.le_refl _))
  generalize ((W1.setCell ⟨W.heap.size,0,none⟩ (.int .i64 (-y))).setCell ⟨W.heap.size,1,none⟩ (.int .i64 (x))).drew=W2 at *
  have p0:=(blk_cell hc1' 0).trans (rfl:_=some (Value.int .i64 (-y)))
  have q0:=(blk_cell hc2' 0).trans (rfl:_=some (Value.int .i64 0))
  have u0:=blk_frozen hc2' 0
  have p1:=(blk_cell hc1' 1).trans (rfl:_=some (Value.int .i64 (x)))
  have q1:=(blk_cell hc2' 1).trans (rfl:_=some (Value.int .i64 0))
  have u1:=blk_frozen hc2' 1
  have p2:=(blk_cell hc1' 2).trans (rfl:_=some (Value.int .i64 (z)))
  have q2:=(blk_cell hc2' 2).trans (rfl:_=some (Value.int .i64 0))
  have u2:=blk_frozen hc2' 2
  clear gbl hbl gbn hbn d0 d1 d2 z0 z1 z2
  go_wp2
  refine bodyPost_ret (results_cell_row rfl _ _ (W.heap.size+1) 128 (v3 (-y) (x) (z)) (0,0) _ rfl (blk_put (blk_put (blk_put hc2' 0 _ rfl) 1 _ rfl) 2 _ rfl) Try.underlying128 rfl (by kernel_rfl)) rfl ?_
  exact⟨rfl,below_set (below_set (below_set hB' (by omega)) (by omega)) (by omega)⟩
set_option maxHeartbeats 8000000 in
set_option maxRecDepth 100000 in
theorem mir1_0 (ba:Nat) (x y z:Int) (W:World) (hba:W.cell? ⟨ba,0,none⟩=some (.int .i64 0)) (rx:-100000≤x∧x≤100000) (ry:-100000≤y∧y≤100000) (rz:-100000≤z∧z≤100000):
    Calls Try.prog 96 (#[.agg (v3 x y z)]++#[.pointer (some ⟨ba,0,none⟩)]) W fun e w'=>e=.returned (.agg (v3 (-x) (y) (z)))∧Below W.heap.size W w':=by
  have hu128:=Try.underlying128
  have ex:IntKind.i64.wrap (-x)=-x:=IntWalk.i64_in _ (by omega)
  have kba:ba < W.heap.size:=World.block_lt_of_cell? _ _ hba
  clear rx ry rz
  go_enter Try.func96,Try.ntmps96
  go_upto_region 1 with (fail)
  have gba:=cell_alloc (cell_alloc hba (.cells (v3 x y z) 128)) (.cells #[.int .i64 0,.int .i64 0,.int .i64 0] 128)
  have hc1:=heap2o W (.cells (v3 x y z) 128) (.cells #[.int .i64 0,.int .i64 0,.int .i64 0] 128)
  have hc2:=heap2 W (.cells (v3 x y z) 128) (.cells #[.int .i64 0,.int .i64 0,.int .i64 0] 128)
  have hB:=bel2 W (.cells (v3 x y z) 128) (.cells #[.int .i64 0,.int .i64 0,.int .i64 0] 128)
  have nba:ba≠W.heap.size:=by omega
  generalize (W.alloc (.cells (v3 x y z) 128)).alloc (.cells #[.int .i64 0,.int .i64 0,.int .i64 0] 128)=W1 at *
  have d0:=(blk_cell hc1 0).trans (rfl:_=some (Value.int .i64 x))
  have z0:=blk_frozen hc1 0
  have d1:=(blk_cell hc1 1).trans (rfl:_=some (Value.int .i64 y))
  have z1:=blk_frozen hc1 1
  have d2:=(blk_cell hc1 2).trans (rfl:_=some (Value.int .i64 z))
  have z2:=blk_frozen hc1 2
  go_region
  have hc1':(W1.setCell ⟨W.heap.size,0,none⟩ (.int .i64 (-x))).drew.heap[W.heap.size]?=some (.cells (v3 (-x) (y) (z)) 128 (0,0)):=(blk_put hc1 0 _ rfl)
  have hc2':(W1.setCell ⟨W.heap.size,0,none⟩ (.int .i64 (-x))).drew.heap[W.heap.size+1]?=some (.cells #[.int .i64 0,.int .i64 0,.int .i64 0] 128 (0,0)):=((Below.heap_setCell _ _ _ _ (by show W.heap.size+1≠W.heap.size;omega)).trans hc2)
  have hB':Below W.heap.size W (W1.setCell ⟨W.heap.size,0,none⟩ (.int .i64 (-x))).drew:=below_drew1 (below_set hB (Nat.le_refl _))
  generalize (W1.setCell ⟨W.heap.size,0,none⟩ (.int .i64 (-x))).drew=W2 at *
  have p0:=(blk_cell hc1' 0).trans (rfl:_=some (Value.int .i64 (-x)))
  have q0:=(blk_cell hc2' 0).trans (rfl:_=some (Value.int .i64 0))
  have u0:=blk_frozen hc2' 0
  have p1:=(blk_cell hc1' 1).trans (rfl:_=some (Value.int .i64 (y)))
  have q1:=(blk_cell hc2' 1).trans (rfl:_=some (Value.int .i64 0))
  have u1:=blk_frozen hc2' 1
  have p2:=(blk_cell hc1' 2).trans (rfl:_=some (Value.int .i64 (z)))
  have q2:=(blk_cell hc2' 2).trans (rfl:_=some (Value.int .i64 0))
  have u2:=blk_frozen hc2' 2
  clear gba hba d0 d1 d2 z0 z1 z2
  go_wp2
  refine bodyPost_ret (results_cell_row rfl _ _ (W.heap.size+1) 128 (v3 (-x) (y) (z)) (0,0) _ rfl (blk_put (blk_put (blk_put hc2' 0 _ rfl) 1 _ rfl) 2 _ rfl) Try.underlying128 rfl (by kernel_rfl)) rfl ?_
  exact⟨rfl,below_set (below_set (below_set hB' (by omega)) (by omega)) (by omega)⟩
set_option maxHeartbeats 8000000 in
set_option maxRecDepth 100000 in
theorem mir1_1 (ba:Nat) (x y z:Int) (W:World) (hba:W.cell? ⟨ba,0,none⟩=some (.int .i64 1)) (rx:-100000≤x∧x≤100000) (ry:-100000≤y∧y≤100000) (rz:-100000≤z∧z≤100000):
    Calls Try.prog 96 (#[.agg (v3 x y z)]++#[.pointer (some ⟨ba,0,none⟩)]) W fun e w'=>e=.returned (.agg (v3 (x) (-y) (z)))∧Below W.heap.size W w':=by
  have hu128:=Try.underlying128
  have ey:IntKind.i64.wrap (-y)=-y:=IntWalk.i64_in _ (by omega)
  have kba:ba < W.heap.size:=World.block_lt_of_cell? _ _ hba
  clear rx ry rz
  go_enter Try.func96,Try.ntmps96
  go_upto_region 1 with (fail)
  have gba:=cell_alloc (cell_alloc hba (.cells (v3 x y z) 128)) (.cells #[.int .i64 0,.int .i64 0,.int .i64 0] 128)
  have hc1:=heap2o W (.cells (v3 x y z) 128) (.cells #[.int .i64 0,.int .i64 0,.int .i64 0] 128)
  have hc2:=heap2 W (.cells (v3 x y z) 128) (.cells #[.int .i64 0,.int .i64 0,.int .i64 0] 128)
  have hB:=bel2 W (.cells (v3 x y z) 128) (.cells #[.int .i64 0,.int .i64 0,.int .i64 0] 128)
  have nba:ba≠W.heap.size:=by omega
  generalize (W.alloc (.cells (v3 x y z) 128)).alloc (.cells #[.int .i64 0,.int .i64 0,.int .i64 0] 128)=W1 at *
  have d0:=(blk_cell hc1 0).trans (rfl:_=some (Value.int .i64 x))
  have z0:=blk_frozen hc1 0
  have d1:=(blk_cell hc1 1).trans (rfl:_=some (Value.int .i64 y))
  have z1:=blk_frozen hc1 1
  have d2:=(blk_cell hc1 2).trans (rfl:_=some (Value.int .i64 z))
  have z2:=blk_frozen hc1 2
  go_region
  have hc1':(W1.setCell ⟨W.heap.size,1,none⟩ (.int .i64 (-y))).drew.heap[W.heap.size]?=some (.cells (v3 (x) (-y) (z)) 128 (0,0)):=(blk_put hc1 1 _ rfl)
  have hc2':(W1.setCell ⟨W.heap.size,1,none⟩ (.int .i64 (-y))).drew.heap[W.heap.size+1]?=some (.cells #[.int .i64 0,.int .i64 0,.int .i64 0] 128 (0,0)):=((Below.heap_setCell _ _ _ _ (by show W.heap.size+1≠W.heap.size;omega)).trans hc2)
  have hB':Below W.heap.size W (W1.setCell ⟨W.heap.size,1,none⟩ (.int .i64 (-y))).drew:=below_drew1 (below_set hB (Nat.le_refl _))
  generalize (W1.setCell ⟨W.heap.size,1,none⟩ (.int .i64 (-y))).drew=W2 at *
  have p0:=(blk_cell hc1' 0).trans (rfl:_=some (Value.int .i64 (x)))
  have q0:=(blk_cell hc2' 0).trans (rfl:_=some (Value.int .i64 0))
  have u0:=blk_frozen hc2' 0
  have p1:=(blk_cell hc1' 1).trans (rfl:_=some (Value.int .i64 (-y)))
  have q1:=(blk_cell hc2' 1).trans (rfl:_=some (Value.int .i64 0))
  have u1:=blk_frozen hc2' 1
  have p2:=(blk_cell hc1' 2).trans (rfl:_=some (Value.int .i64 (z)))
  have q2:=(blk_cell hc2' 2).trans (rfl:_=some (Value.int .i64 0))
  have u2:=blk_frozen hc2' 2
  clear gba hba d0 d1 d2 z0 z1 z2
  go_wp2
  refine bodyPost_ret (results_cell_row rfl _ _ (W.heap.size+1) 128 (v3 (x) (-y) (z)) (0,0) _ rfl (blk_put (blk_put (blk_put hc2' 0 _ rfl) 1 _ rfl) 2 _ rfl) Try.underlying128 rfl (by kernel_rfl)) rfl ?_
  exact⟨rfl,below_set (below_set (below_set hB' (by omega)) (by omega)) (by omega)⟩
set_option maxHeartbeats 8000000 in
set_option maxRecDepth 100000 in
theorem mir1_2 (ba:Nat) (x y z:Int) (W:World) (hba:W.cell? ⟨ba,0,none⟩=some (.int .i64 2)) (rx:-100000≤x∧x≤100000) (ry:-100000≤y∧y≤100000) (rz:-100000≤z∧z≤100000):
    Calls Try.prog 96 (#[.agg (v3 x y z)]++#[.pointer (some ⟨ba,0,none⟩)]) W fun e w'=>e=.returned (.agg (v3 (x) (y) (-z)))∧Below W.heap.size W w':=by
  have hu128:=Try.underlying128
  have ez:IntKind.i64.wrap (-z)=-z:=IntWalk.i64_in _ (by omega)
  have kba:ba < W.heap.size:=World.block_lt_of_cell? _ _ hba
  clear rx ry rz
  go_enter Try.func96,Try.ntmps96
  go_upto_region 1 with (fail)
  have gba:=cell_alloc (cell_alloc hba (.cells (v3 x y z) 128)) (.cells #[.int .i64 0,.int .i64 0,.int .i64 0] 128)
  have hc1:=heap2o W (.cells (v3 x y z) 128) (.cells #[.int .i64 0,.int .i64 0,.int .i64 0] 128)
  have hc2:=heap2 W (.cells (v3 x y z) 128) (.cells #[.int .i64 0,.int .i64 0,.int .i64 0] 128)
  have hB:=bel2 W (.cells (v3 x y z) 128) (.cells #[.int .i64 0,.int .i64 0,.int .i64 0] 128)
  have nba:ba≠W.heap.size:=by omega
  generalize (W.alloc (.cells (v3 x y z) 128)).alloc (.cells #[.int .i64 0,.int .i64 0,.int .i64 0] 128)=W1 at *
  have d0:=(blk_cell hc1 0).trans (rfl:_=some (Value.int .i64 x))
  have z0:=blk_frozen hc1 0
  have d1:=(blk_cell hc1 1).trans (rfl:_=some (Value.int .i64 y))
  have z1:=blk_frozen hc1 1
  have d2:=(blk_cell hc1 2).trans (rfl:_=some (Value.int .i64 z))
  have z2:=blk_frozen hc1 2
  go_region
  have hc1':(W1.setCell ⟨W.heap.size,2,none⟩ (.int .i64 (-z))).drew.heap[W.heap.size]?=some (.cells (v3 (x) (y) (-z)) 128 (0,0)):=(blk_put hc1 2 _ rfl)
  have hc2':(W1.setCell ⟨W.heap.size,2,none⟩ (.int .i64 (-z))).drew.heap[W.heap.size+1]?=some (.cells #[.int .i64 0,.int .i64 0,.int .i64 0] 128 (0,0)):=((Below.heap_setCell _ _ _ _ (by show W.heap.size+1≠W.heap.size;omega)).trans hc2)
  have hB':Below W.heap.size W (W1.setCell ⟨W.heap.size,2,none⟩ (.int .i64 (-z))).drew:=below_drew1 (below_set hB (Nat.le_refl _))
  generalize (W1.setCell ⟨W.heap.size,2,none⟩ (.int .i64 (-z))).drew=W2 at *
  have p0:=(blk_cell hc1' 0).trans (rfl:_=some (Value.int .i64 (x)))
  have q0:=(blk_cell hc2' 0).trans (rfl:_=some (Value.int .i64 0))
  have u0:=blk_frozen hc2' 0
  have p1:=(blk_cell hc1' 1).trans (rfl:_=some (Value.int .i64 (y)))
  have q1:=(blk_cell hc2' 1).trans (rfl:_=some (Value.int .i64 0))
  have u1:=blk_frozen hc2' 1
  have p2:=(blk_cell hc1' 2).trans (rfl:_=some (Value.int .i64 (-z)))
  have q2:=(blk_cell hc2' 2).trans (rfl:_=some (Value.int .i64 0))
  have u2:=blk_frozen hc2' 2
  clear gba hba d0 d1 d2 z0 z1 z2
  go_wp2
  refine bodyPost_ret (results_cell_row rfl _ _ (W.heap.size+1) 128 (v3 (x) (y) (-z)) (0,0) _ rfl (blk_put (blk_put (blk_put hc2' 0 _ rfl) 1 _ rfl) 2 _ rfl) Try.underlying128 rfl (by kernel_rfl)) rfl ?_
  exact⟨rfl,below_set (below_set (below_set hB' (by omega)) (by omega)) (by omega)⟩
theorem turn1_calls (bl bn:Nat) (x y z a:Int) (W:World) (h3:0≤a∧a < 3) (hl:W.cell? ⟨bl,0,none⟩=some (.int .i64 ((a+2) % 3))) (hn:W.cell? ⟨bn,0,none⟩=some (.int .i64 ((a+1) % 3))) (rx:-100000≤x∧x≤100000) (ry:-100000≤y∧y≤100000) (rz:-100000≤z∧z≤100000):
    Calls Try.prog 95 (#[.agg (v3 x y z)]++#[.pointer (some ⟨bl,0,none⟩),.pointer (some ⟨bn,0,none⟩)]) W fun e w'=>e=.returned (.agg (v3 (turn3 x y z a).1 (turn3 x y z a).2.1 (turn3 x y z a).2.2))∧Below W.heap.size W w':=by
  have hk:a=0∨a=1∨a=2:=by omega
  rcases hk with rfl|rfl|rfl
  · exact turn1_0 bl bn x y z W hl hn rx ry rz
  · exact turn1_1 bl bn x y z W hl hn rx ry rz
  · exact turn1_2 bl bn x y z W hl hn rx ry rz
theorem mir1_calls (ba:Nat) (x y z a:Int) (W:World) (h3:0≤a∧a < 3) (ha:W.cell? ⟨ba,0,none⟩=some (.int .i64 a)) (rx:-100000≤x∧x≤100000) (ry:-100000≤y∧y≤100000) (rz:-100000≤z∧z≤100000):
    Calls Try.prog 96 (#[.agg (v3 x y z)]++#[.pointer (some ⟨ba,0,none⟩)]) W fun e w'=>e=.returned (.agg (v3 (mir3 x y z a).1 (mir3 x y z a).2.1 (mir3 x y z a).2.2))∧Below W.heap.size W w':=by
  have hk:a=0∨a=1∨a=2:=by omega
  rcases hk with rfl|rfl|rfl
  · exact mir1_0 ba x y z W ha rx ry rz
  · exact mir1_1 ba x y z W ha rx ry rz
  · exact mir1_2 ba x y z W ha rx ry rz
set_option maxHeartbeats 16000000 in
set_option maxRecDepth 100000 in
theorem turn_bad (nm:ByteArray) (k ax x y z lo hi:Int) (A:Option Addr) (c:Nat) (l:List S104) (a:Int) (w:World) (hr:Kd.C k104 w A l.length l) (hc:l.length≤c) (hne:alongV nm k ax x y z lo hi a≠0):
    Calls Try.prog 46 #[.agg (ftV nm k ax x y z lo hi A l.length c),.int .i64 a] w fun e w'=>∃ v8_:Value,e=.returned (.tuple #[.agg (ftU ⟨#[]⟩ 0 0 0 0 0 0 0 v8_),.int .i64 (alongV nm k ax x y z lo hi a)])∧Kd.V k104 104 w' w.heap.size (fun k_=>w.heap.size≤k_) v8_ []∧Below w.heap.size w w':=by
  have hu28:=Try.underlying28
  have hu23:=Try.underlying23
  obtain⟨kk,hkk⟩:=(along_ev nm k ax x y z lo hi l a).rounds
  have HR:=Aside0.mk hr
  clear hr
  have n0:(alongV nm k ax x y z lo hi a==0)=false:=beq_eq_false_iff_ne.2 hne
  have n1:(alongV nm k ax x y z lo hi a != 0)=true:=bne_iff_ne.2 hne
  generalize alongV nm k ax x y z lo hi a=er at *
  clear hne
  go_enter Try.func46,Try.ntmps46
  go_upto_region 1 with (fail)
  have h0:=heap2o w (.cells (ftV nm k ax x y z lo hi A l.length c) 28) (.cells ft0 28)
  have h1:=heap2 w (.cells (ftV nm k ax x y z lo hi A l.length c) 28) (.cells ft0 28)
  have hB:=bel2 w (.cells (ftV nm k ax x y z lo hi A l.length c) 28) (.cells ft0 28)
  generalize (w.alloc (.cells (ftV nm k ax x y z lo hi A l.length c) 28)).alloc (.cells ft0 28)=W1 at *
  have c0:=(blk_cell h0 0).trans (rfl:_=some (Value.string nm))
  have c1:=(blk_cell h0 1).trans (rfl:_=some (Value.int .i64 k))
  have c2:=(blk_cell h0 2).trans (rfl:_=some (Value.int .i64 ax))
  have c3:=(blk_cell h0 3).trans (rfl:_=some (Value.int .i64 x))
  have c4:=(blk_cell h0 4).trans (rfl:_=some (Value.int .i64 y))
  have c5:=(blk_cell h0 5).trans (rfl:_=some (Value.int .i64 z))
  have c6:=(blk_cell h0 6).trans (rfl:_=some (Value.int .i64 lo))
  have c7:=(blk_cell h0 7).trans (rfl:_=some (Value.int .i64 hi))
  have c8:=(blk_cell h0 8).trans (rfl:_=some (Value.slice A l.length c))
  go_wp2_with (first|((with_reducible refine gate_store (t:=28) (p:=4) rfl ?_);refine wpList_store_row rfl 28 (.tmp 4) (.tmp 15) rfl (w.heap.size+1) ft0 rfl rfl 28 ft0 g1 (by kernel_rfl) rfl (by simp[Value.oneCell']) ?_)|(go_at_call 68;refine(fe_along.calls kk nm k ax x y z lo hi A c l a _ _ (Kd.C_below HR.out hB) hc hkk).mono ?_;rintro e w' ⟨rfl,hb⟩;have g0:=blk_below h0 hb;have g1:=blk_below h1 hb;have gB:=below_step hB hb;clear hb c0 c1 c2 c3 c4 c5 c6 c7 c8;have HG:=Aside0.mk g1))
  refine bodyPost_ret (results_ct rfl _ _ (w.heap.size+1) 28 ft0 (0,0) _ rfl (row_new g1) Try.underlying28 rfl (by kernel_rfl)) rfl ?_
  refine⟨.slice none 0 0,rfl,Kd.V_nil _ _ _ _ _,row_bel gB (by omega)⟩
def turnAx (k ax a:Int):Int:=if k=4 then ax else if ax=(a+1) % 3 then(a+2) % 3 else if ax=(a+2) % 3 then(a+1) % 3 else ax
theorem eg95:∀ args w,(callFunc 95 args).run Try.prog w=.ok (.enter 95 args) w:=enters_of Try.func95 (by kernel_rfl) rfl
set_option maxHeartbeats 16000000 in
set_option maxRecDepth 100000 in
theorem turn_ok (nm:ByteArray) (k ax x y z lo hi:Int) (A:Option Addr) (c:Nat) (l:List S104) (a:Int) (w:World) (hr:Kd.C k104 w A l.length l) (hc:l.length≤c) (hsm:small l=true) (hok:alongV nm k ax x y z lo hi a=0):
    Calls Try.prog 46 #[.agg (ftV nm k ax x y z lo hi A l.length c),.int .i64 a] w fun e w'=>∃ v8_:Value,e=.returned (.tuple #[.agg (ftU nm k (turnAx k ax a) (turn3 x y z a).1 (turn3 x y z a).2.1 (turn3 x y z a).2.2 lo hi v8_),.int .i64 0])∧Kd.V k104 104 w' w.heap.size (fun k_=>w.heap.size≤k_) v8_ l∧Below w.heap.size w w':=by
  have hu28:=Try.underlying28
  have hu23:=Try.underlying23
  obtain⟨kk,hkk⟩:=(along_ev nm k ax x y z lo hi l a).rounds
  have HR:=Aside0.mk hr
  clear hr
  obtain⟨hch,h3⟩:=alongV_ok.1 hok
  obtain⟨_,hq⟩:=chkF_ok.1 hch
  rw[hok] at hkk
  have HQ:=Aside0.mk hq
  have H3:=Aside0.mk h3
  have HS:=Aside0.mk hsm
  have e1:IntKind.i64.wrap (a+1)=a+1:=IntWalk.i64_in _ (by omega)
  have e2:IntKind.i64.wrap (a+2)=a+2:=IntWalk.i64_in _ (by omega)
  have e3:(a+1).tmod 3=(a+1) % 3:=Int.tmod_eq_emod_of_nonneg (by omega)
  have e4:(a+2).tmod 3=(a+2) % 3:=Int.tmod_eq_emod_of_nonneg (by omega)
  clear hq h3 hok hch hsm
  generalize hT:turnAx k ax a=tx at *
  have HT:=Aside0.mk hT
  clear hT
  unfold turnAx at HT
  generalize he:turn3 x y z a=p at *
  have HE:=Aside0.mk he
  clear he
  have HN:Aside0 (∀ bl bn W,W.cell? ⟨bl,0,none⟩=some (.int .i64 ((a+2) % 3))→W.cell? ⟨bn,0,none⟩=some (.int .i64 ((a+1) % 3))→Calls Try.prog 95 (#[.agg (v3 x y z)]++#[.pointer (some ⟨bl,0,none⟩),.pointer (some ⟨bn,0,none⟩)]) W fun e w'=>e=.returned (.agg (v3 p.1 p.2.1 p.2.2))∧Below W.heap.size W w'):=⟨fun bl bn W h1 h2=>by have:=turn1_calls bl bn x y z a W H3.out h1 h2 HQ.out.x1 HQ.out.y1 HQ.out.z1;rw[HE.out] at this;exact this⟩
  have hnl:(a+1) % 3≠(a+2) % 3:=by omega
  generalize (a+1) % 3=nx at *
  generalize (a+2) % 3=la at *
  go_enter Try.func46,Try.ntmps46
  go_upto_region 1 with (fail)
  have h0:=heap2o w (.cells (ftV nm k ax x y z lo hi A l.length c) 28) (.cells ft0 28)
  have h1:=heap2 w (.cells (ftV nm k ax x y z lo hi A l.length c) 28) (.cells ft0 28)
  have hB:=bel2 w (.cells (ftV nm k ax x y z lo hi A l.length c) 28) (.cells ft0 28)
  generalize (w.alloc (.cells (ftV nm k ax x y z lo hi A l.length c) 28)).alloc (.cells ft0 28)=W1 at *
  have c0:=(blk_cell h0 0).trans (rfl:_=some (Value.string nm))
  have c1:=(blk_cell h0 1).trans (rfl:_=some (Value.int .i64 k))
  have c2:=(blk_cell h0 2).trans (rfl:_=some (Value.int .i64 ax))
  have c3:=(blk_cell h0 3).trans (rfl:_=some (Value.int .i64 x))
  have c4:=(blk_cell h0 4).trans (rfl:_=some (Value.int .i64 y))
  have c5:=(blk_cell h0 5).trans (rfl:_=some (Value.int .i64 z))
  have c6:=(blk_cell h0 6).trans (rfl:_=some (Value.int .i64 lo))
  have c7:=(blk_cell h0 7).trans (rfl:_=some (Value.int .i64 hi))
  have c8:=(blk_cell h0 8).trans (rfl:_=some (Value.slice A l.length c))
  go_upto_region 5 with (go_at_call 68;refine(fe_along.calls kk nm k ax x y z lo hi A c l a _ _ (Kd.C_below HR.out hB) hc hkk).mono ?_;rintro e w' ⟨rfl,hb⟩;have g0:=blk_below h0 hb;have g1:=blk_below h1 hb;have gB:=below_step hB hb;clear hb h0 h1 hB c0 c1 c2 c3 c4 c5 c6 c7 c8)
  have n0:=heap2o w' (.cells #[.int .i64 nx] 3) (.cells #[.int .i64 la] 3)
  have n1:=heap2 w' (.cells #[.int .i64 nx] 3) (.cells #[.int .i64 la] 3)
  have nB:=bel2 w' (.cells #[.int .i64 nx] 3) (.cells #[.int .i64 la] 3)
  have f0:=blk_below g0 nB
  have f1:=blk_below g1 nB
  have fB:=below_step gB nB
  have hgs:w.heap.size+2≤w'.heap.size:=(Array.getElem?_eq_some_iff.1 g1).1
  clear nB g0 g1 gB
  generalize (w'.alloc (.cells #[.int .i64 nx] 3)).alloc (.cells #[.int .i64 la] 3)=Wn at *
  have c0:=(blk_cell f0 0).trans (rfl:_=some (Value.string nm))
  have c1:=(blk_cell f0 1).trans (rfl:_=some (Value.int .i64 k))
  have c2:=(blk_cell f0 2).trans (rfl:_=some (Value.int .i64 ax))
  have c3:=(blk_cell f0 3).trans (rfl:_=some (Value.int .i64 x))
  have c4:=(blk_cell f0 4).trans (rfl:_=some (Value.int .i64 y))
  have c5:=(blk_cell f0 5).trans (rfl:_=some (Value.int .i64 z))
  have c6:=(blk_cell f0 6).trans (rfl:_=some (Value.int .i64 lo))
  have c7:=(blk_cell f0 7).trans (rfl:_=some (Value.int .i64 hi))
  have c8:=(blk_cell f0 8).trans (rfl:_=some (Value.slice A l.length c))
  have hcall:=placed_calls 95 #[.pointer (some ⟨w'.heap.size+1,0,none⟩),.pointer (some ⟨w'.heap.size,0,none⟩)] eg95 nm k ax x y z lo hi A c l p.1 p.2.1 p.2.2 Wn (Kd.C_below HR.out fB) hc HS.out (fun W hW=>HN.out _ _ W (cell_on hW ((blk_cell n1 0).trans (rfl:_=some (Value.int .i64 la)))) (cell_on hW ((blk_cell n0 0).trans (rfl:_=some (Value.int .i64 nx)))))
  go_wp2_with (fail)
  refine hcall.mono ?_
  clear hcall
  rintro e w2 ⟨A',c',rfl,hle,hF,hb⟩
  have hwn:w'.heap.size+2≤Wn.heap.size:=(Array.getElem?_eq_some_iff.1 n1).1
  have m0:=blk_below n0 hb
  have m1:=blk_below n1 hb
  have k0:=blk_below f0 hb
  have k1:=blk_below f1 hb
  have kB:=below_step fB hb
  have hsz:=hb.size
  have HF:=Aside0.mk hF
  clear hF hb n0 n1 f0 f1 fB c0 c1 c2 c3 c4 c5 c6 c7 c8
  go_upto_region 6 with (fail)
  have r9:=blk_new w2 (.cells (ftV nm k ax p.1 p.2.1 p.2.2 lo hi A' l.length c') 28)
  have j0:=blk_alloc k0 (.cells (ftV nm k ax p.1 p.2.1 p.2.2 lo hi A' l.length c') 28)
  have j1:=blk_alloc k1 (.cells (ftV nm k ax p.1 p.2.1 p.2.2 lo hi A' l.length c') 28)
  have j2:=blk_alloc m0 (.cells (ftV nm k ax p.1 p.2.1 p.2.2 lo hi A' l.length c') 28)
  have j3:=blk_alloc m1 (.cells (ftV nm k ax p.1 p.2.1 p.2.2 lo hi A' l.length c') 28)
  have jB:=below_alloc kB (.cells (ftV nm k ax p.1 p.2.1 p.2.2 lo hi A' l.length c') 28)
  have HF2:=Aside0.mk (Kd.F_alloc (Kd.F_elderB HF.out w2.heap.size (Nat.le_refl _)) (.cells (ftV nm k ax p.1 p.2.1 p.2.2 lo hi A' l.length c') 28))
  clear k0 k1 m0 m1 kB HF
  generalize hz:w2.heap.size=z9 at *
  generalize w2.alloc (.cells (ftV nm k ax p.1 p.2.1 p.2.2 lo hi A' l.length c') 28)=W2 at *
  have d1:=(blk_cell j0 1).trans (rfl:_=some (Value.int .i64 k))
  have d2:=(blk_cell j0 2).trans (rfl:_=some (Value.int .i64 ax))
  have y0:=(blk_cell j2 0).trans (rfl:_=some (Value.int .i64 nx))
  have y1:=(blk_cell j3 0).trans (rfl:_=some (Value.int .i64 la))
  have v2:=(blk_cell r9 2).trans (rfl:_=some (Value.int .i64 ax))
  have t2:=blk_frozen r9 2
  have HF3:Aside0 (Kd.F k104 W2 (fun k=>Wn.heap.size≤k∧k≠z9) A' l.length l):=HF2
  by_cases h4:k=4
  · have b1:(k==4)=true:=beq_iff_eq.2 h4
    have ht:tx=ax:=by rw[← HT.out,if_pos h4]
    subst ht
    clear h4
    go_wp2_with (first|((with_reducible refine gate_dst (N:=44) rfl ?_);refine wpList_load_row rfl 28 (.tmp 9) rfl z9 rfl 28 (ftV nm k tx p.1 p.2.1 p.2.2 lo hi A' l.length c') (0,0) _ r9 Try.underlying28 rfl (by kernel_rfl) ?_)|((with_reducible refine gate_store (t:=28) (p:=4) rfl ?_);refine wpList_store_row rfl 28 (.tmp 4) (.tmp 44) rfl (w.heap.size+1) (ftV nm k tx p.1 p.2.1 p.2.2 lo hi A' l.length c') rfl rfl 28 ft0 j1 (by kernel_rfl) rfl (by simp[Value.oneCell']) ?_))
    refine bodyPost_ret (results_ct rfl _ _ (w.heap.size+1) 28 (ftV nm k tx p.1 p.2.1 p.2.2 lo hi A' l.length c') (0,0) _ rfl (row_new j1) Try.underlying28 rfl (by kernel_rfl)) rfl ?_
    refine⟨.slice A' l.length c',rfl,⟨A',c',rfl,hle,?_⟩,?_⟩
    · refine Kd.F_mono (ok:=fun k=>Wn.heap.size≤k∧k≠z9) ?_ (fun k hk=>by omega)
      refine Kd.F_step HF3.out (fun k hk _=>row_far (by omega))
    · exact row_bel jB (by omega)
  · have b1:(k==4)=false:=beq_eq_false_iff_ne.2 h4
    by_cases h5:ax=nx
    · have b2:(ax==nx)=true:=beq_iff_eq.2 h5
      have ht:tx=la:=by rw[← HT.out,if_neg h4,if_pos h5]
      subst ht
      clear h4 h5
      have j1s:(W2.setCell ⟨z9,2,none⟩ (.int .i64 tx)).heap[w.heap.size+1]?=some (.cells ft0 28 (0,0)):=(Below.heap_setCell _ _ _ _ (by show w.heap.size+1≠z9;omega)).trans j1
      go_wp2_with (first|((with_reducible refine gate_dst (N:=44) rfl ?_);refine wpList_load_row rfl 28 (.tmp 9) rfl z9 rfl 28 (ftV nm k tx p.1 p.2.1 p.2.2 lo hi A' l.length c') (0,0) _ (blk_put r9 2 _ rfl) Try.underlying28 rfl (by kernel_rfl) ?_)|((with_reducible refine gate_store (t:=28) (p:=4) rfl ?_);refine wpList_store_row rfl 28 (.tmp 4) (.tmp 44) rfl (w.heap.size+1) (ftV nm k tx p.1 p.2.1 p.2.2 lo hi A' l.length c') rfl rfl 28 ft0 j1s (by kernel_rfl) rfl (by simp[Value.oneCell']) ?_))
      refine bodyPost_ret (results_ct rfl _ _ (w.heap.size+1) 28 (ftV nm k tx p.1 p.2.1 p.2.2 lo hi A' l.length c') (0,0) _ rfl (row_new j1s) Try.underlying28 rfl (by kernel_rfl)) rfl ?_
      refine⟨.slice A' l.length c',rfl,⟨A',c',rfl,hle,?_⟩,?_⟩
      · refine Kd.F_mono (ok:=fun k=>Wn.heap.size≤k∧k≠z9) ?_ (fun k hk=>by omega)
        refine Kd.F_step (Kd.F_far HF3.out (fun k hk=>hk.2) _) (fun k hk _=>row_far (by omega))
      · exact row_bel (below_set jB (by omega)) (by omega)
    · have b2:(ax==nx)=false:=beq_eq_false_iff_ne.2 h5
      by_cases h6:ax=la
      · have b3:(ax==la)=true:=beq_iff_eq.2 h6
        have ht:tx=nx:=by rw[← HT.out,if_neg h4,if_neg h5,if_pos h6]
        subst ht
        clear h4 h5 h6
        have j1s:(W2.setCell ⟨z9,2,none⟩ (.int .i64 tx)).heap[w.heap.size+1]?=some (.cells ft0 28 (0,0)):=(Below.heap_setCell _ _ _ _ (by show w.heap.size+1≠z9;omega)).trans j1
        go_wp2_with (first|((with_reducible refine gate_dst (N:=44) rfl ?_);refine wpList_load_row rfl 28 (.tmp 9) rfl z9 rfl 28 (ftV nm k tx p.1 p.2.1 p.2.2 lo hi A' l.length c') (0,0) _ (blk_put r9 2 _ rfl) Try.underlying28 rfl (by kernel_rfl) ?_)|((with_reducible refine gate_store (t:=28) (p:=4) rfl ?_);refine wpList_store_row rfl 28 (.tmp 4) (.tmp 44) rfl (w.heap.size+1) (ftV nm k tx p.1 p.2.1 p.2.2 lo hi A' l.length c') rfl rfl 28 ft0 j1s (by kernel_rfl) rfl (by simp[Value.oneCell']) ?_))
        refine bodyPost_ret (results_ct rfl _ _ (w.heap.size+1) 28 (ftV nm k tx p.1 p.2.1 p.2.2 lo hi A' l.length c') (0,0) _ rfl (row_new j1s) Try.underlying28 rfl (by kernel_rfl)) rfl ?_
        refine⟨.slice A' l.length c',rfl,⟨A',c',rfl,hle,?_⟩,?_⟩
        · refine Kd.F_mono (ok:=fun k=>Wn.heap.size≤k∧k≠z9) ?_ (fun k hk=>by omega)
          refine Kd.F_step (Kd.F_far HF3.out (fun k hk=>hk.2) _) (fun k hk _=>row_far (by omega))
        · exact row_bel (below_set jB (by omega)) (by omega)
      · have b3:(ax==la)=false:=beq_eq_false_iff_ne.2 h6
        have ht:tx=ax:=by rw[← HT.out,if_neg h4,if_neg h5,if_neg h6]
        subst ht
        clear h4 h5 h6
        go_wp2_with (first|((with_reducible refine gate_dst (N:=44) rfl ?_);refine wpList_load_row rfl 28 (.tmp 9) rfl z9 rfl 28 (ftV nm k tx p.1 p.2.1 p.2.2 lo hi A' l.length c') (0,0) _ r9 Try.underlying28 rfl (by kernel_rfl) ?_)|((with_reducible refine gate_store (t:=28) (p:=4) rfl ?_);refine wpList_store_row rfl 28 (.tmp 4) (.tmp 44) rfl (w.heap.size+1) (ftV nm k tx p.1 p.2.1 p.2.2 lo hi A' l.length c') rfl rfl 28 ft0 j1 (by kernel_rfl) rfl (by simp[Value.oneCell']) ?_))
        refine bodyPost_ret (results_ct rfl _ _ (w.heap.size+1) 28 (ftV nm k tx p.1 p.2.1 p.2.2 lo hi A' l.length c') (0,0) _ rfl (row_new j1) Try.underlying28 rfl (by kernel_rfl)) rfl ?_
        refine⟨.slice A' l.length c',rfl,⟨A',c',rfl,hle,?_⟩,?_⟩
        · refine Kd.F_mono (ok:=fun k=>Wn.heap.size≤k∧k≠z9) ?_ (fun k hk=>by omega)
          refine Kd.F_step HF3.out (fun k hk _=>row_far (by omega))
        · exact row_bel jB (by omega)
end Go.Proofs.Ytkgdlbepjmgaiaa.Fea
namespace Go.Proofs.Ytkgdlbepjmgaiaa.Fea
open Go.RowKit YtkgdlbepjmgaiaaW.PrintWords YtkgdlbepjmgaiaaW.PrintLast YtkgdlbepjmgaiaaW.PrintMore
attribute [local go_sem] max2_int min2_int max_two min_two max_three min_three max_four min_four
def fe_Turn.f (a0_0:ByteArray) (a0_1 a0_2 a0_3 a0_4 a0_5 a0_6 a0_7:Int) (l0_8:List (S104)) (a1:Int):Option (ByteArray×Int×Int×Int×Int×Int×Int×Int×(List (S104))×Int):=if small l0_8=true then some (if alongV a0_0 a0_1 a0_2 a0_3 a0_4 a0_5 a0_6 a0_7 a1=0 then(a0_0,a0_1,turnAx a0_1 a0_2 a1,(turn3 a0_3 a0_4 a0_5 a1).1,(turn3 a0_3 a0_4 a0_5 a1).2.1,(turn3 a0_3 a0_4 a0_5 a1).2.2,a0_6,a0_7,l0_8,(0:Int)) else((⟨#[]⟩:ByteArray),(0:Int),(0:Int),(0:Int),(0:Int),(0:Int),(0:Int),(0:Int),([]:List (S104)),alongV a0_0 a0_1 a0_2 a0_3 a0_4 a0_5 a0_6 a0_7 a1)) else none
theorem fe_Turn.calls (a0_0:ByteArray) (a0_1 a0_2 a0_3 a0_4 a0_5 a0_6 a0_7:Int) (A0_8:Option Addr) (c0_8:Nat) (l0_8:List (S104)) (a1:Int) (r1:ByteArray) (r2 r3 r4 r5 r6 r7 r8:Int) (r9:List (S104)) (r10:Int) (w:World) (hr0_8:Kd.C k104 w A0_8 l0_8.length l0_8) (hc0_8:l0_8.length≤c0_8) (h:fe_Turn.f a0_0 a0_1 a0_2 a0_3 a0_4 a0_5 a0_6 a0_7 l0_8 a1=some (r1,r2,r3,r4,r5,r6,r7,r8,r9,r10)):
    Calls Try.prog 46 #[.agg #[.string a0_0,.int .i64 a0_1,.int .i64 a0_2,.int .i64 a0_3,.int .i64 a0_4,.int .i64 a0_5,.int .i64 a0_6,.int .i64 a0_7,.slice A0_8 l0_8.length c0_8],.int .i64 a1] w fun e w'=>∃ v8_:Value,e=.returned (.tuple #[.agg #[.string r1,.int .i64 r2,.int .i64 r3,.int .i64 r4,.int .i64 r5,.int .i64 r6,.int .i64 r7,.int .i64 r8,v8_],.int .i64 r10])∧Kd.V k104 104 w' w.heap.size (fun k_=>w.heap.size≤k_) v8_ r9∧Below w.heap.size w w':=by
  unfold fe_Turn.f at h
  split at h
  case isFalse=>cases h
  rename_i hsm
  replace h:=Option.some.inj h
  split at h
  · rename_i g
    simp only[Prod.mk.injEq] at h
    obtain⟨rfl,rfl,rfl,rfl,rfl,rfl,rfl,rfl,rfl,rfl⟩:=h
    exact turn_ok a0_0 a0_1 a0_2 a0_3 a0_4 a0_5 a0_6 a0_7 A0_8 c0_8 l0_8 a1 w hr0_8 hc0_8 hsm g
  · rename_i g
    simp only[Prod.mk.injEq] at h
    obtain⟨rfl,rfl,rfl,rfl,rfl,rfl,rfl,rfl,rfl,rfl⟩:=h
    exact turn_bad a0_0 a0_1 a0_2 a0_3 a0_4 a0_5 a0_6 a0_7 A0_8 c0_8 l0_8 a1 w hr0_8 hc0_8 g
def fe_Reach.f (k:Nat) (a0_0:ByteArray) (a0_1 a0_2 a0_3 a0_4 a0_5 a0_6 a0_7:Int) (l0_8:List (S104)) (a1:Int):Option (Int×Int×Int):=(fe_along.f k a0_0 a0_1 a0_2 a0_3 a0_4 a0_5 a0_6 a0_7 l0_8 a1).bind fun t121=>(if t121=0 then((fe_bounded.f a0_0 a0_1 a0_2 a0_3 a0_4 a0_5 a0_6 a0_7 l0_8 a1).bind fun t122=>(if t122=true then((fe_reach.f a0_0 a0_1 a0_2 a0_3 a0_4 a0_5 a0_6 a0_7 l0_8 a1).bind fun bt123=>((fe_in.f bt123.1).bind fun t126=>(if t126=true then((fe_in.f bt123.2).bind fun t127=>(if t127=true then(some (bt123.1,bt123.2,0)) else(some (0,0,2)))) else(some (0,0,2))))) else(some (0,0,14)))) else(some (0,0,t121)))
theorem fe_Reach.mono:∀ a0 a1 a2 a3 a4 a5 a6 a7 a8 a9 k,LeO (fe_Reach.f k a0 a1 a2 a3 a4 a5 a6 a7 a8 a9) (fe_Reach.f (k+1) a0 a1 a2 a3 a4 a5 a6 a7 a8 a9):=by
 intro a0 a1 a2 a3 a4 a5 a6 a7 a8 a9 k
 unfold fe_Reach.f
 repeat' first
  | (with_reducible exact fe_along.mono _ _ _ _ _ _ _ _ _ _ _)
  | (with_reducible exact LeO.refl _)
  | (with_reducible exact LeO.none _)
  | (with_reducible refine LeO.ite ?_ ?_)
  | (with_reducible refine LeO.bind ?_ (fun _=>?_))
  | exact fe_along.mono _ _ _ _ _ _ _ _ _ _ _
  | exact LeO.none _
  | refine LeO.ite ?_ ?_
  | refine LeO.bind ?_ (fun _=>?_)
set_option maxHeartbeats 8000000 in
set_option maxRecDepth 100000 in
theorem fe_Reach.calls (k:Nat) (a0_0:ByteArray) (a0_1 a0_2 a0_3 a0_4 a0_5 a0_6 a0_7:Int) (A0_8:Option Addr) (c0_8:Nat) (l0_8:List (S104)) (a1 r1 r2 r3:Int) (w:World) (hr0_8:Kd.C k104 w A0_8 l0_8.length l0_8) (hc0_8:l0_8.length≤c0_8) (h:fe_Reach.f k a0_0 a0_1 a0_2 a0_3 a0_4 a0_5 a0_6 a0_7 l0_8 a1=some (r1,r2,r3)):
 Calls Try.prog 19 #[.agg #[.string a0_0,.int .i64 a0_1,.int .i64 a0_2,.int .i64 a0_3,.int .i64 a0_4,.int .i64 a0_5,.int .i64 a0_6,.int .i64 a0_7,.slice A0_8 l0_8.length c0_8],.int .i64 a1] w fun e w'=>e=.returned (.tuple #[.agg #[.int .i64 r1,.int .i64 r2],.int .i64 r3])∧Below w.heap.size w w':=by
 have hu28:=Try.underlying28
 have hu25:=Try.underlying25
 have HR0_8:=zm hr0_8
 have HC0_8:=zm hc0_8
 clear hr0_8 hc0_8
 have HB:=zm (Below.refl w.heap.size w)
 have H:((fe_along.f k a0_0 a0_1 a0_2 a0_3 a0_4 a0_5 a0_6 a0_7 l0_8 a1).bind fun t121=>(if t121=0 then((fe_bounded.f a0_0 a0_1 a0_2 a0_3 a0_4 a0_5 a0_6 a0_7 l0_8 a1).bind fun t122=>(if t122=true then((fe_reach.f a0_0 a0_1 a0_2 a0_3 a0_4 a0_5 a0_6 a0_7 l0_8 a1).bind fun bt123=>((fe_in.f bt123.1).bind fun t126=>(if t126=true then((fe_in.f bt123.2).bind fun t127=>(if t127=true then(some (bt123.1,bt123.2,0)) else(some (0,0,2)))) else(some (0,0,2))))) else(some (0,0,14)))) else(some (0,0,t121))))=some (r1,r2,r3):=h
 clear h
 replace H:=Option.bind_eq_some_iff.mp H
 obtain⟨t121,A30,H⟩:=H
 replace H:(if t121=0 then((fe_bounded.f a0_0 a0_1 a0_2 a0_3 a0_4 a0_5 a0_6 a0_7 l0_8 a1).bind fun t122=>(if t122=true then((fe_reach.f a0_0 a0_1 a0_2 a0_3 a0_4 a0_5 a0_6 a0_7 l0_8 a1).bind fun bt123=>((fe_in.f bt123.1).bind fun t126=>(if t126=true then((fe_in.f bt123.2).bind fun t127=>(if t127=true then(some (bt123.1,bt123.2,0)) else(some (0,0,2)))) else(some (0,0,2))))) else(some (0,0,14)))) else(some (0,0,t121)))=some (r1,r2,r3):=H
 have A3:=zm A30
 clear A30
 by_cases c4:t121=0
 ·rw[if_pos c4] at H
  have c4b0:(t121==0)=true:=beq_iff_eq.mpr c4
  have c4b1:(t121 != 0)=false:=bne_eq_false_iff_eq.mpr c4
  clear c4
  replace H:=Option.bind_eq_some_iff.mp H
  obtain⟨t122,A50,H⟩:=H
  replace H:(if t122=true then((fe_reach.f a0_0 a0_1 a0_2 a0_3 a0_4 a0_5 a0_6 a0_7 l0_8 a1).bind fun bt123=>((fe_in.f bt123.1).bind fun t126=>(if t126=true then((fe_in.f bt123.2).bind fun t127=>(if t127=true then(some (bt123.1,bt123.2,0)) else(some (0,0,2)))) else(some (0,0,2))))) else(some (0,0,14)))=some (r1,r2,r3):=H
  have A5:=zm A50
  clear A50
  by_cases c6:t122=true
  ·subst c6
   have H1:((fe_reach.f a0_0 a0_1 a0_2 a0_3 a0_4 a0_5 a0_6 a0_7 l0_8 a1).bind fun bt123=>((fe_in.f bt123.1).bind fun t126=>(if t126=true then((fe_in.f bt123.2).bind fun t127=>(if t127=true then(some (bt123.1,bt123.2,0)) else(some (0,0,2)))) else(some (0,0,2)))))=some (r1,r2,r3):=by rw[if_pos rfl] at H;exact H
   clear H
   have H:=H1
   clear H1
   replace H:=Option.bind_eq_some_iff.mp H
   obtain⟨⟨t123,t124⟩,A70,H⟩:=H
   replace H:((fe_in.f t123).bind fun t126=>(if t126=true then((fe_in.f t124).bind fun t127=>(if t127=true then(some (t123,t124,0)) else(some (0,0,2)))) else(some (0,0,2))))=some (r1,r2,r3):=H
   have A7:=zm A70
   clear A70
   replace H:=Option.bind_eq_some_iff.mp H
   obtain⟨t126,A80,H⟩:=H
   replace H:(if t126=true then((fe_in.f t124).bind fun t127=>(if t127=true then(some (t123,t124,0)) else(some (0,0,2)))) else(some (0,0,2)))=some (r1,r2,r3):=H
   have A8:=zm A80
   clear A80
   by_cases c9:t126=true
   ·subst c9
    have H1:((fe_in.f t124).bind fun t127=>(if t127=true then(some (t123,t124,0)) else(some (0,0,2))))=some (r1,r2,r3):=by rw[if_pos rfl] at H;exact H
    clear H
    have H:=H1
    clear H1
    replace H:=Option.bind_eq_some_iff.mp H
    obtain⟨t127,A100,H⟩:=H
    replace H:(if t127=true then(some (t123,t124,0)) else(some (0,0,2)))=some (r1,r2,r3):=H
    have A10:=zm A100
    clear A100
    by_cases c11:t127=true
    ·subst c11
     have H1:(some (t123,t124,0))=some (r1,r2,r3):=by rw[if_pos rfl] at H;exact H
     clear H
     have H:=H1
     clear H1
     simp only[Option.some.injEq,Prod.mk.injEq] at H
     obtain⟨rfl,rfl,rfl⟩:=H
     go_enter Try.func19,Try.ntmps19
     go_wp2_with (first|((with_reducible refine gate_dst (N:=2) rfl ?_);refine box_event ?hg (N:=2) ?hd (cs:=#[.string a0_0,.int .i64 a0_1,.int .i64 a0_2,.int .i64 a0_3,.int .i64 a0_4,.int .i64 a0_5,.int .i64 a0_6,.int .i64 a0_7,.slice A0_8 l0_8.length c0_8]) (t:=28) ?hr ?_;(case hd=>rfl);(case hg=>rfl);(case hr=>first|(go_simp;done)|(go_simp;rfl));intro gb119 hg w12 hbox hb;have n0_:=zm (below_step (by repeat(first|(with_reducible first|exact HB.out|apply zA|apply zD|apply zE)|exact HB.out)) hb);have n1_:=zm (hbox);have n2_:=zm ((by rw[hg];exact(below_size (by repeat(first|(with_reducible first|exact HB.out|apply zA|apply zD|apply zE)|exact HB.out))):w.heap.size≤gb119));have n3_:=zm ((by rw[hg];exact(below_size (by repeat(first|(with_reducible first|exact HB.out|apply zA|apply zD|apply zE)|exact HB.out))):w.heap.size≤gb119));clear HB;have HB:=n0_;have BK119:=n1_;have GW119:=n2_;have GE119:=n3_;clear n0_ n1_ n2_ n3_;clear hb hbox hg)|((with_reducible refine gate_dst (N:=4) rfl ?_);refine box_event ?hg (N:=4) ?hd (cs:=#[.int .i64 0,.int .i64 0]) (t:=25) ?hr ?_;(case hd=>rfl);(case hg=>rfl);(case hr=>first|(go_simp;done)|(go_simp;rfl));intro gb120 hg w13 hbox hb;have n0_:=zm (zb (g:=gb119) (o:=.cells #[.string a0_0,.int .i64 a0_1,.int .i64 a0_2,.int .i64 a0_3,.int .i64 a0_4,.int .i64 a0_5,.int .i64 a0_6,.int .i64 a0_7,.slice A0_8 l0_8.length c0_8] 28 (0,0)) (by(with_reducible repeat first|apply zd|apply ze|apply za);exact BK119.out) hb);have n1_:=zm (below_step (by repeat(first|(with_reducible first|exact HB.out|apply zA|apply zD|apply zE|refine zS ?_ GE119.out)|exact HB.out)) hb);have n2_:=zm (hbox);have n3_:=zm ((by rw[hg];exact(below_size (by repeat(first|(with_reducible first|exact HB.out|apply zA|apply zD|apply zE|refine zS ?_ GE119.out)|exact HB.out))):w.heap.size≤gb120));have n4_:=zm ((by rw[hg];exact(below_size (by repeat(first|(with_reducible first|exact HB.out|apply zA|apply zD|apply zE|refine zS ?_ GE119.out)|exact HB.out))):w.heap.size≤gb120));have n5_:=zm ((by rw[hg];exact Nat.ne_of_lt (blk_lt (g:=gb119) (o:=.cells #[.string a0_0,.int .i64 a0_1,.int .i64 a0_2,.int .i64 a0_3,.int .i64 a0_4,.int .i64 a0_5,.int .i64 a0_6,.int .i64 a0_7,.slice A0_8 l0_8.length c0_8] 28 (0,0)) (by(with_reducible repeat first|apply zd|apply ze|apply za);exact BK119.out)):gb119≠gb120));have n6_:=zm ((by rw[hg];exact Nat.ne_of_gt (blk_lt (g:=gb119) (o:=.cells #[.string a0_0,.int .i64 a0_1,.int .i64 a0_2,.int .i64 a0_3,.int .i64 a0_4,.int .i64 a0_5,.int .i64 a0_6,.int .i64 a0_7,.slice A0_8 l0_8.length c0_8] 28 (0,0)) (by(with_reducible repeat first|apply zd|apply ze|apply za);exact BK119.out)):gb120≠gb119));clear BK119 HB;have BK119:=n0_;have HB:=n1_;have BK120:=n2_;have GW120:=n3_;have GE120:=n4_;have NB119_120:=n5_;have NB120_119:=n6_;clear n0_ n1_ n2_ n3_ n4_ n5_ n6_;clear hb hbox hg;have hnb14:=NB119_120.out;have hnc14:=NB120_119.out;have hcz15_0:=zc BK119.out 0 (.string a0_0) rfl;have hcz15_1:=zc BK119.out 1 (.int .i64 a0_1) rfl;have hcz15_2:=zc BK119.out 2 (.int .i64 a0_2) rfl;have hcz15_3:=zc BK119.out 3 (.int .i64 a0_3) rfl;have hcz15_4:=zc BK119.out 4 (.int .i64 a0_4) rfl;have hcz15_5:=zc BK119.out 5 (.int .i64 a0_5) rfl;have hcz15_6:=zc BK119.out 6 (.int .i64 a0_6) rfl;have hcz15_7:=zc BK119.out 7 (.int .i64 a0_7) rfl;have hcz15_8:=zc BK119.out 8 (.slice A0_8 l0_8.length c0_8) rfl;have hfz15_0:=zf BK119.out 0;have hfz15_1:=zf BK119.out 1;have hfz15_2:=zf BK119.out 2;have hfz15_3:=zf BK119.out 3;have hfz15_4:=zf BK119.out 4;have hfz15_5:=zf BK119.out 5;have hfz15_6:=zf BK119.out 6;have hfz15_7:=zf BK119.out 7;have hfz15_8:=zf BK119.out 8)|((with_reducible refine gate_callee (f:=68) rfl ?_);refine goesL_ (some 10) rfl rfl Try.func68 (by kernel_rfl) rfl #[.agg #[.string a0_0,.int .i64 a0_1,.int .i64 a0_2,.int .i64 a0_3,.int .i64 a0_4,.int .i64 a0_5,.int .i64 a0_6,.int .i64 a0_7,.slice A0_8 l0_8.length c0_8],.int .i64 a1] rfl (by(try simp only[List.map_toArray,List.map_cons,List.map_nil]);first|done|rfl|(simp only[List.length_drop,List.length_take];rfl)) ?_;(with_reducible refine(fe_along.calls k a0_0 a0_1 a0_2 a0_3 a0_4 a0_5 a0_6 a0_7 _ _ l0_8 a1 t121 _ ?side1 ?side2 A3.out).mono ?_);(case side1=>repeat(first|exact(Kd.C_below HR0_8.out HB.out)|(with_reducible refine Kd.C_alloc ?_ _)|(with_reducible refine Kd.C_drewN ?_ _)|(with_reducible refine Kd.C_drew ?_)));(case side2=>exact HC0_8.out);rintro e w16 ⟨rfl,hb⟩;refine⟨_,rfl,?_⟩;have n0_:=zm (zb (g:=gb119) (o:=.cells #[.string a0_0,.int .i64 a0_1,.int .i64 a0_2,.int .i64 a0_3,.int .i64 a0_4,.int .i64 a0_5,.int .i64 a0_6,.int .i64 a0_7,.slice A0_8 l0_8.length c0_8] 28 (0,0)) (by(with_reducible repeat first|apply zd|apply ze|apply za);exact BK119.out) hb);have n1_:=zm (zb (g:=gb120) (o:=.cells #[.int .i64 0,.int .i64 0] 25 (0,0)) (by(with_reducible repeat first|apply zd|apply ze|apply za);exact BK120.out) hb);have n2_:=zm (below_step (by repeat(first|(with_reducible first|exact HB.out|apply zA|apply zD|apply zE|refine zS ?_ GE119.out|refine zS ?_ GE120.out)|exact HB.out)) hb);clear BK119 BK120 HB;have BK119:=n0_;have BK120:=n1_;have HB:=n2_;clear n0_ n1_ n2_;(try clear hb);(try clear hb2);(try clear hk);(try clear hi);have hcz17_0:=zc BK119.out 0 (.string a0_0) rfl;have hcz17_1:=zc BK119.out 1 (.int .i64 a0_1) rfl;have hcz17_2:=zc BK119.out 2 (.int .i64 a0_2) rfl;have hcz17_3:=zc BK119.out 3 (.int .i64 a0_3) rfl;have hcz17_4:=zc BK119.out 4 (.int .i64 a0_4) rfl;have hcz17_5:=zc BK119.out 5 (.int .i64 a0_5) rfl;have hcz17_6:=zc BK119.out 6 (.int .i64 a0_6) rfl;have hcz17_7:=zc BK119.out 7 (.int .i64 a0_7) rfl;have hcz17_8:=zc BK119.out 8 (.slice A0_8 l0_8.length c0_8) rfl;have hfz17_0:=zf BK119.out 0;have hfz17_1:=zf BK119.out 1;have hfz17_2:=zf BK119.out 2;have hfz17_3:=zf BK119.out 3;have hfz17_4:=zf BK119.out 4;have hfz17_5:=zf BK119.out 5;have hfz17_6:=zf BK119.out 6;have hfz17_7:=zf BK119.out 7;have hfz17_8:=zf BK119.out 8)|((with_reducible refine gate_callee (f:=69) rfl ?_);refine goesL_ (some 17) rfl rfl Try.func69 (by kernel_rfl) rfl #[.agg #[.string a0_0,.int .i64 a0_1,.int .i64 a0_2,.int .i64 a0_3,.int .i64 a0_4,.int .i64 a0_5,.int .i64 a0_6,.int .i64 a0_7,.slice A0_8 l0_8.length c0_8],.int .i64 a1] rfl (by(try simp only[List.map_toArray,List.map_cons,List.map_nil]);first|done|rfl|(simp only[List.length_drop,List.length_take];rfl)) ?_;(with_reducible refine(fe_bounded.calls a0_0 a0_1 a0_2 a0_3 a0_4 a0_5 a0_6 a0_7 _ _ l0_8 a1 true _ ?side1 ?side2 A5.out).mono ?_);(case side1=>repeat(first|exact(Kd.C_below HR0_8.out HB.out)|(with_reducible refine Kd.C_alloc ?_ _)|(with_reducible refine Kd.C_drewN ?_ _)|(with_reducible refine Kd.C_drew ?_)));(case side2=>exact HC0_8.out);rintro e w18 ⟨rfl,hb⟩;refine⟨_,rfl,?_⟩;have n0_:=zm (zb (g:=gb119) (o:=.cells #[.string a0_0,.int .i64 a0_1,.int .i64 a0_2,.int .i64 a0_3,.int .i64 a0_4,.int .i64 a0_5,.int .i64 a0_6,.int .i64 a0_7,.slice A0_8 l0_8.length c0_8] 28 (0,0)) (by(with_reducible repeat first|apply zd|apply ze|apply za);exact BK119.out) hb);have n1_:=zm (zb (g:=gb120) (o:=.cells #[.int .i64 0,.int .i64 0] 25 (0,0)) (by(with_reducible repeat first|apply zd|apply ze|apply za);exact BK120.out) hb);have n2_:=zm (below_step (by repeat(first|(with_reducible first|exact HB.out|apply zA|apply zD|apply zE|refine zS ?_ GE119.out|refine zS ?_ GE120.out)|exact HB.out)) hb);clear BK119 BK120 HB;have BK119:=n0_;have BK120:=n1_;have HB:=n2_;clear n0_ n1_ n2_;(try clear hb);(try clear hb2);(try clear hk);(try clear hi);have hcz19_0:=zc BK119.out 0 (.string a0_0) rfl;have hcz19_1:=zc BK119.out 1 (.int .i64 a0_1) rfl;have hcz19_2:=zc BK119.out 2 (.int .i64 a0_2) rfl;have hcz19_3:=zc BK119.out 3 (.int .i64 a0_3) rfl;have hcz19_4:=zc BK119.out 4 (.int .i64 a0_4) rfl;have hcz19_5:=zc BK119.out 5 (.int .i64 a0_5) rfl;have hcz19_6:=zc BK119.out 6 (.int .i64 a0_6) rfl;have hcz19_7:=zc BK119.out 7 (.int .i64 a0_7) rfl;have hcz19_8:=zc BK119.out 8 (.slice A0_8 l0_8.length c0_8) rfl;have hfz19_0:=zf BK119.out 0;have hfz19_1:=zf BK119.out 1;have hfz19_2:=zf BK119.out 2;have hfz19_3:=zf BK119.out 3;have hfz19_4:=zf BK119.out 4;have hfz19_5:=zf BK119.out 5;have hfz19_6:=zf BK119.out 6;have hfz19_7:=zf BK119.out 7;have hfz19_8:=zf BK119.out 8)|((with_reducible refine gate_callee (f:=70) rfl ?_);refine goesL_ (some 22) rfl rfl Try.func70 (by kernel_rfl) rfl #[.agg #[.string a0_0,.int .i64 a0_1,.int .i64 a0_2,.int .i64 a0_3,.int .i64 a0_4,.int .i64 a0_5,.int .i64 a0_6,.int .i64 a0_7,.slice A0_8 l0_8.length c0_8],.int .i64 a1] rfl (by(try simp only[List.map_toArray,List.map_cons,List.map_nil]);first|done|rfl|(simp only[List.length_drop,List.length_take];rfl)) ?_;(with_reducible refine(fe_reach.calls a0_0 a0_1 a0_2 a0_3 a0_4 a0_5 a0_6 a0_7 _ _ l0_8 a1 t123 t124 _ ?side1 ?side2 A7.out).mono ?_);(case side1=>repeat(first|exact(Kd.C_below HR0_8.out HB.out)|(with_reducible refine Kd.C_alloc ?_ _)|(with_reducible refine Kd.C_drewN ?_ _)|(with_reducible refine Kd.C_drew ?_)));(case side2=>exact HC0_8.out);rintro e w20 ⟨rfl,hb⟩;refine⟨_,rfl,?_⟩;have n0_:=zm (zb (g:=gb119) (o:=.cells #[.string a0_0,.int .i64 a0_1,.int .i64 a0_2,.int .i64 a0_3,.int .i64 a0_4,.int .i64 a0_5,.int .i64 a0_6,.int .i64 a0_7,.slice A0_8 l0_8.length c0_8] 28 (0,0)) (by(with_reducible repeat first|apply zd|apply ze|apply za);exact BK119.out) hb);have n1_:=zm (zb (g:=gb120) (o:=.cells #[.int .i64 0,.int .i64 0] 25 (0,0)) (by(with_reducible repeat first|apply zd|apply ze|apply za);exact BK120.out) hb);have n2_:=zm (below_step (by repeat(first|(with_reducible first|exact HB.out|apply zA|apply zD|apply zE|refine zS ?_ GE119.out|refine zS ?_ GE120.out)|exact HB.out)) hb);clear BK119 BK120 HB;have BK119:=n0_;have BK120:=n1_;have HB:=n2_;clear n0_ n1_ n2_;(try clear hb);(try clear hb2);(try clear hk);(try clear hi))|((with_reducible refine gate_dst (N:=7) rfl ?_);refine box_event ?hg (N:=7) ?hd (cs:=#[.int .i64 0,.int .i64 0]) (t:=25) ?hr ?_;(case hd=>rfl);(case hg=>rfl);(case hr=>first|(go_simp;done)|(go_simp;rfl));intro gb125 hg w21 hbox hb;have n0_:=zm (zb (g:=gb119) (o:=.cells #[.string a0_0,.int .i64 a0_1,.int .i64 a0_2,.int .i64 a0_3,.int .i64 a0_4,.int .i64 a0_5,.int .i64 a0_6,.int .i64 a0_7,.slice A0_8 l0_8.length c0_8] 28 (0,0)) (by(with_reducible repeat first|apply zd|apply ze|apply za);exact BK119.out) hb);have n1_:=zm (zb (g:=gb120) (o:=.cells #[.int .i64 0,.int .i64 0] 25 (0,0)) (by(with_reducible repeat first|apply zd|apply ze|apply za);exact BK120.out) hb);have n2_:=zm (below_step (by repeat(first|(with_reducible first|exact HB.out|apply zA|apply zD|apply zE|refine zS ?_ GE119.out|refine zS ?_ GE120.out)|exact HB.out)) hb);have n3_:=zm (hbox);have n4_:=zm ((by rw[hg];exact(below_size (by repeat(first|(with_reducible first|exact HB.out|apply zA|apply zD|apply zE|refine zS ?_ GE119.out|refine zS ?_ GE120.out)|exact HB.out))):w.heap.size≤gb125));have n5_:=zm ((by rw[hg];exact(below_size (by repeat(first|(with_reducible first|exact HB.out|apply zA|apply zD|apply zE|refine zS ?_ GE119.out|refine zS ?_ GE120.out)|exact HB.out))):w.heap.size≤gb125));have n6_:=zm ((by rw[hg];exact Nat.ne_of_lt (blk_lt (g:=gb119) (o:=.cells #[.string a0_0,.int .i64 a0_1,.int .i64 a0_2,.int .i64 a0_3,.int .i64 a0_4,.int .i64 a0_5,.int .i64 a0_6,.int .i64 a0_7,.slice A0_8 l0_8.length c0_8] 28 (0,0)) (by(with_reducible repeat first|apply zd|apply ze|apply za);exact BK119.out)):gb119≠gb125));have n7_:=zm ((by rw[hg];exact Nat.ne_of_gt (blk_lt (g:=gb119) (o:=.cells #[.string a0_0,.int .i64 a0_1,.int .i64 a0_2,.int .i64 a0_3,.int .i64 a0_4,.int .i64 a0_5,.int .i64 a0_6,.int .i64 a0_7,.slice A0_8 l0_8.length c0_8] 28 (0,0)) (by(with_reducible repeat first|apply zd|apply ze|apply za);exact BK119.out)):gb125≠gb119));have n8_:=zm ((by rw[hg];exact Nat.ne_of_lt (blk_lt (g:=gb120) (o:=.cells #[.int .i64 0,.int .i64 0] 25 (0,0)) (by(with_reducible repeat first|apply zd|apply ze|apply za);exact BK120.out)):gb120≠gb125));have n9_:=zm ((by rw[hg];exact Nat.ne_of_gt (blk_lt (g:=gb120) (o:=.cells #[.int .i64 0,.int .i64 0] 25 (0,0)) (by(with_reducible repeat first|apply zd|apply ze|apply za);exact BK120.out)):gb125≠gb120));clear BK119 BK120 HB;have BK119:=n0_;have BK120:=n1_;have HB:=n2_;have BK125:=n3_;have GW125:=n4_;have GE125:=n5_;have NB119_125:=n6_;have NB125_119:=n7_;have NB120_125:=n8_;have NB125_120:=n9_;clear n0_ n1_ n2_ n3_ n4_ n5_ n6_ n7_ n8_ n9_;clear hb hbox hg;have hnb22:=NB125_119.out;have hnc22:=NB119_125.out;have hnb23:=NB125_120.out;have hnc23:=NB120_125.out;have hcz24_0:=zc BK125.out 0 (.int .i64 0) rfl;have hcz24_1:=zc BK125.out 1 (.int .i64 0) rfl;have hfz24_0:=zf BK125.out 0;have hfz24_1:=zf BK125.out 1)|((with_reducible refine gate_callee (f:=71) rfl ?_);refine goesL_ (some 25) rfl rfl Try.func71 (by kernel_rfl) rfl #[.int .i64 t123] rfl (by(try simp only[List.map_toArray,List.map_cons,List.map_nil]);first|done|rfl|(simp only[List.length_drop,List.length_take];rfl)) ?_;(with_reducible refine(fe_in.calls t123 true _ A8.out).mono ?_);rintro e w' ⟨rfl,⟨nd,rfl⟩⟩;refine⟨_,rfl,?_⟩)|(go_at_call 71;(with_reducible refine(fe_in.calls t124 true _ A10.out).mono ?_);rintro e w' ⟨rfl,⟨nd,rfl⟩⟩;have hcz25_0:=zc BK120.out 0 (.int .i64 0) rfl;have hcz25_1:=zc BK120.out 1 (.int .i64 0) rfl;have hfz25_0:=zf BK120.out 0;have hfz25_1:=zf BK120.out 1))
     refine bodyPost_ret (results_ct rfl _ _ gb120 25 #[.int .i64 t123,.int .i64 t124] (0,0) _ rfl (by(with_reducible repeat first|apply zd|apply ze|apply za);refine blk_put (cs:=#[.int .i64 t123,.int .i64 0]) ?_ 1 _ rfl;(with_reducible repeat first|apply zd|apply ze|apply za);refine blk_put (cs:=#[.int .i64 0,.int .i64 0]) ?_ 0 _ rfl;(with_reducible repeat first|apply zd|apply ze|apply za);refine blk_far ?_ NB120_125.out _;(with_reducible repeat first|apply zd|apply ze|apply za);refine blk_far ?_ NB120_125.out _;(with_reducible repeat first|apply zd|apply ze|apply za);exact BK120.out) Try.underlying25 rfl (by kernel_rfl)) rfl ?_
     exact⟨by first|rfl|(simp[errW_none,errW_some]<;>rfl)|(simp[*,errW_none,errW_some]<;>rfl),by repeat(first|(with_reducible first|exact HB.out|apply zA|apply zD|apply zE|refine zS ?_ GE119.out|refine zS ?_ GE120.out|refine zS ?_ GE125.out)|exact HB.out)⟩
    ·replace c11:=Bool.eq_false_iff.mpr c11
     subst c11
     have H1:(some (0,0,2))=some (r1,r2,r3):=by rw[if_neg (show ¬(false=true) by decide)] at H;exact H
     clear H
     have H:=H1
     clear H1
     simp only[Option.some.injEq,Prod.mk.injEq] at H
     obtain⟨rfl,rfl,rfl⟩:=H
     go_enter Try.func19,Try.ntmps19
     go_wp2_with (first|((with_reducible refine gate_dst (N:=2) rfl ?_);refine box_event ?hg (N:=2) ?hd (cs:=#[.string a0_0,.int .i64 a0_1,.int .i64 a0_2,.int .i64 a0_3,.int .i64 a0_4,.int .i64 a0_5,.int .i64 a0_6,.int .i64 a0_7,.slice A0_8 l0_8.length c0_8]) (t:=28) ?hr ?_;(case hd=>rfl);(case hg=>rfl);(case hr=>first|(go_simp;done)|(go_simp;rfl));intro gb119 hg w26 hbox hb;have n0_:=zm (below_step (by repeat(first|(with_reducible first|exact HB.out|apply zA|apply zD|apply zE)|exact HB.out)) hb);have n1_:=zm (hbox);have n2_:=zm ((by rw[hg];exact(below_size (by repeat(first|(with_reducible first|exact HB.out|apply zA|apply zD|apply zE)|exact HB.out))):w.heap.size≤gb119));have n3_:=zm ((by rw[hg];exact(below_size (by repeat(first|(with_reducible first|exact HB.out|apply zA|apply zD|apply zE)|exact HB.out))):w.heap.size≤gb119));clear HB;have HB:=n0_;have BK119:=n1_;have GW119:=n2_;have GE119:=n3_;clear n0_ n1_ n2_ n3_;clear hb hbox hg)|((with_reducible refine gate_dst (N:=4) rfl ?_);refine box_event ?hg (N:=4) ?hd (cs:=#[.int .i64 0,.int .i64 0]) (t:=25) ?hr ?_;(case hd=>rfl);(case hg=>rfl);(case hr=>first|(go_simp;done)|(go_simp;rfl));intro gb120 hg w27 hbox hb;have n0_:=zm (zb (g:=gb119) (o:=.cells #[.string a0_0,.int .i64 a0_1,.int .i64 a0_2,.int .i64 a0_3,.int .i64 a0_4,.int .i64 a0_5,.int .i64 a0_6,.int .i64 a0_7,.slice A0_8 l0_8.length c0_8] 28 (0,0)) (by(with_reducible repeat first|apply zd|apply ze|apply za);exact BK119.out) hb);have n1_:=zm (below_step (by repeat(first|(with_reducible first|exact HB.out|apply zA|apply zD|apply zE|refine zS ?_ GE119.out)|exact HB.out)) hb);have n2_:=zm (hbox);have n3_:=zm ((by rw[hg];exact(below_size (by repeat(first|(with_reducible first|exact HB.out|apply zA|apply zD|apply zE|refine zS ?_ GE119.out)|exact HB.out))):w.heap.size≤gb120));have n4_:=zm ((by rw[hg];exact(below_size (by repeat(first|(with_reducible first|exact HB.out|apply zA|apply zD|apply zE|refine zS ?_ GE119.out)|exact HB.out))):w.heap.size≤gb120));have n5_:=zm ((by rw[hg];exact Nat.ne_of_lt (blk_lt (g:=gb119) (o:=.cells #[.string a0_0,.int .i64 a0_1,.int .i64 a0_2,.int .i64 a0_3,.int .i64 a0_4,.int .i64 a0_5,.int .i64 a0_6,.int .i64 a0_7,.slice A0_8 l0_8.length c0_8] 28 (0,0)) (by(with_reducible repeat first|apply zd|apply ze|apply za);exact BK119.out)):gb119≠gb120));have n6_:=zm ((by rw[hg];exact Nat.ne_of_gt (blk_lt (g:=gb119) (o:=.cells #[.string a0_0,.int .i64 a0_1,.int .i64 a0_2,.int .i64 a0_3,.int .i64 a0_4,.int .i64 a0_5,.int .i64 a0_6,.int .i64 a0_7,.slice A0_8 l0_8.length c0_8] 28 (0,0)) (by(with_reducible repeat first|apply zd|apply ze|apply za);exact BK119.out)):gb120≠gb119));clear BK119 HB;have BK119:=n0_;have HB:=n1_;have BK120:=n2_;have GW120:=n3_;have GE120:=n4_;have NB119_120:=n5_;have NB120_119:=n6_;clear n0_ n1_ n2_ n3_ n4_ n5_ n6_;clear hb hbox hg;have hnb28:=NB119_120.out;have hnc28:=NB120_119.out;have hcz29_0:=zc BK119.out 0 (.string a0_0) rfl;have hcz29_1:=zc BK119.out 1 (.int .i64 a0_1) rfl;have hcz29_2:=zc BK119.out 2 (.int .i64 a0_2) rfl;have hcz29_3:=zc BK119.out 3 (.int .i64 a0_3) rfl;have hcz29_4:=zc BK119.out 4 (.int .i64 a0_4) rfl;have hcz29_5:=zc BK119.out 5 (.int .i64 a0_5) rfl;have hcz29_6:=zc BK119.out 6 (.int .i64 a0_6) rfl;have hcz29_7:=zc BK119.out 7 (.int .i64 a0_7) rfl;have hcz29_8:=zc BK119.out 8 (.slice A0_8 l0_8.length c0_8) rfl;have hfz29_0:=zf BK119.out 0;have hfz29_1:=zf BK119.out 1;have hfz29_2:=zf BK119.out 2;have hfz29_3:=zf BK119.out 3;have hfz29_4:=zf BK119.out 4;have hfz29_5:=zf BK119.out 5;have hfz29_6:=zf BK119.out 6;have hfz29_7:=zf BK119.out 7;have hfz29_8:=zf BK119.out 8)|((with_reducible refine gate_callee (f:=68) rfl ?_);refine goesL_ (some 10) rfl rfl Try.func68 (by kernel_rfl) rfl #[.agg #[.string a0_0,.int .i64 a0_1,.int .i64 a0_2,.int .i64 a0_3,.int .i64 a0_4,.int .i64 a0_5,.int .i64 a0_6,.int .i64 a0_7,.slice A0_8 l0_8.length c0_8],.int .i64 a1] rfl (by(try simp only[List.map_toArray,List.map_cons,List.map_nil]);first|done|rfl|(simp only[List.length_drop,List.length_take];rfl)) ?_;(with_reducible refine(fe_along.calls k a0_0 a0_1 a0_2 a0_3 a0_4 a0_5 a0_6 a0_7 _ _ l0_8 a1 t121 _ ?side1 ?side2 A3.out).mono ?_);(case side1=>repeat(first|exact(Kd.C_below HR0_8.out HB.out)|(with_reducible refine Kd.C_alloc ?_ _)|(with_reducible refine Kd.C_drewN ?_ _)|(with_reducible refine Kd.C_drew ?_)));(case side2=>exact HC0_8.out);rintro e w30 ⟨rfl,hb⟩;refine⟨_,rfl,?_⟩;have n0_:=zm (zb (g:=gb119) (o:=.cells #[.string a0_0,.int .i64 a0_1,.int .i64 a0_2,.int .i64 a0_3,.int .i64 a0_4,.int .i64 a0_5,.int .i64 a0_6,.int .i64 a0_7,.slice A0_8 l0_8.length c0_8] 28 (0,0)) (by(with_reducible repeat first|apply zd|apply ze|apply za);exact BK119.out) hb);have n1_:=zm (zb (g:=gb120) (o:=.cells #[.int .i64 0,.int .i64 0] 25 (0,0)) (by(with_reducible repeat first|apply zd|apply ze|apply za);exact BK120.out) hb);have n2_:=zm (below_step (by repeat(first|(with_reducible first|exact HB.out|apply zA|apply zD|apply zE|refine zS ?_ GE119.out|refine zS ?_ GE120.out)|exact HB.out)) hb);clear BK119 BK120 HB;have BK119:=n0_;have BK120:=n1_;have HB:=n2_;clear n0_ n1_ n2_;(try clear hb);(try clear hb2);(try clear hk);(try clear hi);have hcz31_0:=zc BK119.out 0 (.string a0_0) rfl;have hcz31_1:=zc BK119.out 1 (.int .i64 a0_1) rfl;have hcz31_2:=zc BK119.out 2 (.int .i64 a0_2) rfl;have hcz31_3:=zc BK119.out 3 (.int .i64 a0_3) rfl;have hcz31_4:=zc BK119.out 4 (.int .i64 a0_4) rfl;have hcz31_5:=zc BK119.out 5 (.int .i64 a0_5) rfl;have hcz31_6:=zc BK119.out 6 (.int .i64 a0_6) rfl;have hcz31_7:=zc BK119.out 7 (.int .i64 a0_7) rfl;have hcz31_8:=zc BK119.out 8 (.slice A0_8 l0_8.length c0_8) rfl;have hfz31_0:=zf BK119.out 0;have hfz31_1:=zf BK119.out 1;have hfz31_2:=zf BK119.out 2;have hfz31_3:=zf BK119.out 3;have hfz31_4:=zf BK119.out 4;have hfz31_5:=zf BK119.out 5;have hfz31_6:=zf BK119.out 6;have hfz31_7:=zf BK119.out 7;have hfz31_8:=zf BK119.out 8)|((with_reducible refine gate_callee (f:=69) rfl ?_);refine goesL_ (some 17) rfl rfl Try.func69 (by kernel_rfl) rfl #[.agg #[.string a0_0,.int .i64 a0_1,.int .i64 a0_2,.int .i64 a0_3,.int .i64 a0_4,.int .i64 a0_5,.int .i64 a0_6,.int .i64 a0_7,.slice A0_8 l0_8.length c0_8],.int .i64 a1] rfl (by(try simp only[List.map_toArray,List.map_cons,List.map_nil]);first|done|rfl|(simp only[List.length_drop,List.length_take];rfl)) ?_;(with_reducible refine(fe_bounded.calls a0_0 a0_1 a0_2 a0_3 a0_4 a0_5 a0_6 a0_7 _ _ l0_8 a1 true _ ?side1 ?side2 A5.out).mono ?_);(case side1=>repeat(first|exact(Kd.C_below HR0_8.out HB.out)|(with_reducible refine Kd.C_alloc ?_ _)|(with_reducible refine Kd.C_drewN ?_ _)|(with_reducible refine Kd.C_drew ?_)));(case side2=>exact HC0_8.out);rintro e w32 ⟨rfl,hb⟩;refine⟨_,rfl,?_⟩;have n0_:=zm (zb (g:=gb119) (o:=.cells #[.string a0_0,.int .i64 a0_1,.int .i64 a0_2,.int .i64 a0_3,.int .i64 a0_4,.int .i64 a0_5,.int .i64 a0_6,.int .i64 a0_7,.slice A0_8 l0_8.length c0_8] 28 (0,0)) (by(with_reducible repeat first|apply zd|apply ze|apply za);exact BK119.out) hb);have n1_:=zm (zb (g:=gb120) (o:=.cells #[.int .i64 0,.int .i64 0] 25 (0,0)) (by(with_reducible repeat first|apply zd|apply ze|apply za);exact BK120.out) hb);have n2_:=zm (below_step (by repeat(first|(with_reducible first|exact HB.out|apply zA|apply zD|apply zE|refine zS ?_ GE119.out|refine zS ?_ GE120.out)|exact HB.out)) hb);clear BK119 BK120 HB;have BK119:=n0_;have BK120:=n1_;have HB:=n2_;clear n0_ n1_ n2_;(try clear hb);(try clear hb2);(try clear hk);(try clear hi);have hcz33_0:=zc BK119.out 0 (.string a0_0) rfl;have hcz33_1:=zc BK119.out 1 (.int .i64 a0_1) rfl;have hcz33_2:=zc BK119.out 2 (.int .i64 a0_2) rfl;have hcz33_3:=zc BK119.out 3 (.int .i64 a0_3) rfl;have hcz33_4:=zc BK119.out 4 (.int .i64 a0_4) rfl;have hcz33_5:=zc BK119.out 5 (.int .i64 a0_5) rfl;have hcz33_6:=zc BK119.out 6 (.int .i64 a0_6) rfl;have hcz33_7:=zc BK119.out 7 (.int .i64 a0_7) rfl;have hcz33_8:=zc BK119.out 8 (.slice A0_8 l0_8.length c0_8) rfl;have hfz33_0:=zf BK119.out 0;have hfz33_1:=zf BK119.out 1;have hfz33_2:=zf BK119.out 2;have hfz33_3:=zf BK119.out 3;have hfz33_4:=zf BK119.out 4;have hfz33_5:=zf BK119.out 5;have hfz33_6:=zf BK119.out 6;have hfz33_7:=zf BK119.out 7;have hfz33_8:=zf BK119.out 8)|((with_reducible refine gate_callee (f:=70) rfl ?_);refine goesL_ (some 22) rfl rfl Try.func70 (by kernel_rfl) rfl #[.agg #[.string a0_0,.int .i64 a0_1,.int .i64 a0_2,.int .i64 a0_3,.int .i64 a0_4,.int .i64 a0_5,.int .i64 a0_6,.int .i64 a0_7,.slice A0_8 l0_8.length c0_8],.int .i64 a1] rfl (by(try simp only[List.map_toArray,List.map_cons,List.map_nil]);first|done|rfl|(simp only[List.length_drop,List.length_take];rfl)) ?_;(with_reducible refine(fe_reach.calls a0_0 a0_1 a0_2 a0_3 a0_4 a0_5 a0_6 a0_7 _ _ l0_8 a1 t123 t124 _ ?side1 ?side2 A7.out).mono ?_);(case side1=>repeat(first|exact(Kd.C_below HR0_8.out HB.out)|(with_reducible refine Kd.C_alloc ?_ _)|(with_reducible refine Kd.C_drewN ?_ _)|(with_reducible refine Kd.C_drew ?_)));(case side2=>exact HC0_8.out);rintro e w34 ⟨rfl,hb⟩;refine⟨_,rfl,?_⟩;have n0_:=zm (zb (g:=gb119) (o:=.cells #[.string a0_0,.int .i64 a0_1,.int .i64 a0_2,.int .i64 a0_3,.int .i64 a0_4,.int .i64 a0_5,.int .i64 a0_6,.int .i64 a0_7,.slice A0_8 l0_8.length c0_8] 28 (0,0)) (by(with_reducible repeat first|apply zd|apply ze|apply za);exact BK119.out) hb);have n1_:=zm (zb (g:=gb120) (o:=.cells #[.int .i64 0,.int .i64 0] 25 (0,0)) (by(with_reducible repeat first|apply zd|apply ze|apply za);exact BK120.out) hb);have n2_:=zm (below_step (by repeat(first|(with_reducible first|exact HB.out|apply zA|apply zD|apply zE|refine zS ?_ GE119.out|refine zS ?_ GE120.out)|exact HB.out)) hb);clear BK119 BK120 HB;have BK119:=n0_;have BK120:=n1_;have HB:=n2_;clear n0_ n1_ n2_;(try clear hb);(try clear hb2);(try clear hk);(try clear hi))|((with_reducible refine gate_dst (N:=7) rfl ?_);refine box_event ?hg (N:=7) ?hd (cs:=#[.int .i64 0,.int .i64 0]) (t:=25) ?hr ?_;(case hd=>rfl);(case hg=>rfl);(case hr=>first|(go_simp;done)|(go_simp;rfl));intro gb125 hg w35 hbox hb;have n0_:=zm (zb (g:=gb119) (o:=.cells #[.string a0_0,.int .i64 a0_1,.int .i64 a0_2,.int .i64 a0_3,.int .i64 a0_4,.int .i64 a0_5,.int .i64 a0_6,.int .i64 a0_7,.slice A0_8 l0_8.length c0_8] 28 (0,0)) (by(with_reducible repeat first|apply zd|apply ze|apply za);exact BK119.out) hb);have n1_:=zm (zb (g:=gb120) (o:=.cells #[.int .i64 0,.int .i64 0] 25 (0,0)) (by(with_reducible repeat first|apply zd|apply ze|apply za);exact BK120.out) hb);have n2_:=zm (below_step (by repeat(first|(with_reducible first|exact HB.out|apply zA|apply zD|apply zE|refine zS ?_ GE119.out|refine zS ?_ GE120.out)|exact HB.out)) hb);have n3_:=zm (hbox);have n4_:=zm ((by rw[hg];exact(below_size (by repeat(first|(with_reducible first|exact HB.out|apply zA|apply zD|apply zE|refine zS ?_ GE119.out|refine zS ?_ GE120.out)|exact HB.out))):w.heap.size≤gb125));have n5_:=zm ((by rw[hg];exact(below_size (by repeat(first|(with_reducible first|exact HB.out|apply zA|apply zD|apply zE|refine zS ?_ GE119.out|refine zS ?_ GE120.out)|exact HB.out))):w.heap.size≤gb125));have n6_:=zm ((by rw[hg];exact Nat.ne_of_lt (blk_lt (g:=gb119) (o:=.cells #[.string a0_0,.int .i64 a0_1,.int .i64 a0_2,.int .i64 a0_3,.int .i64 a0_4,.int .i64 a0_5,.int .i64 a0_6,.int .i64 a0_7,.slice A0_8 l0_8.length c0_8] 28 (0,0)) (by(with_reducible repeat first|apply zd|apply ze|apply za);exact BK119.out)):gb119≠gb125));have n7_:=zm ((by rw[hg];exact Nat.ne_of_gt (blk_lt (g:=gb119) (o:=.cells #[.string a0_0,.int .i64 a0_1,.int .i64 a0_2,.int .i64 a0_3,.int .i64 a0_4,.int .i64 a0_5,.int .i64 a0_6,.int .i64 a0_7,.slice A0_8 l0_8.length c0_8] 28 (0,0)) (by(with_reducible repeat first|apply zd|apply ze|apply za);exact BK119.out)):gb125≠gb119));have n8_:=zm ((by rw[hg];exact Nat.ne_of_lt (blk_lt (g:=gb120) (o:=.cells #[.int .i64 0,.int .i64 0] 25 (0,0)) (by(with_reducible repeat first|apply zd|apply ze|apply za);exact BK120.out)):gb120≠gb125));have n9_:=zm ((by rw[hg];exact Nat.ne_of_gt (blk_lt (g:=gb120) (o:=.cells #[.int .i64 0,.int .i64 0] 25 (0,0)) (by(with_reducible repeat first|apply zd|apply ze|apply za);exact BK120.out)):gb125≠gb120));clear BK119 BK120 HB;have BK119:=n0_;have BK120:=n1_;have HB:=n2_;have BK125:=n3_;have GW125:=n4_;have GE125:=n5_;have NB119_125:=n6_;have NB125_119:=n7_;have NB120_125:=n8_;have NB125_120:=n9_;clear n0_ n1_ n2_ n3_ n4_ n5_ n6_ n7_ n8_ n9_;clear hb hbox hg;have hnb36:=NB125_119.out;have hnc36:=NB119_125.out;have hnb37:=NB125_120.out;have hnc37:=NB120_125.out;have hcz38_0:=zc BK125.out 0 (.int .i64 0) rfl;have hcz38_1:=zc BK125.out 1 (.int .i64 0) rfl;have hfz38_0:=zf BK125.out 0;have hfz38_1:=zf BK125.out 1)|((with_reducible refine gate_callee (f:=71) rfl ?_);refine goesL_ (some 25) rfl rfl Try.func71 (by kernel_rfl) rfl #[.int .i64 t123] rfl (by(try simp only[List.map_toArray,List.map_cons,List.map_nil]);first|done|rfl|(simp only[List.length_drop,List.length_take];rfl)) ?_;(with_reducible refine(fe_in.calls t123 true _ A8.out).mono ?_);rintro e w' ⟨rfl,⟨nd,rfl⟩⟩;refine⟨_,rfl,?_⟩)|(go_at_call 71;(with_reducible refine(fe_in.calls t124 false _ A10.out).mono ?_);rintro e w' ⟨rfl,⟨nd,rfl⟩⟩;have hcz39_0:=zc BK120.out 0 (.int .i64 0) rfl;have hcz39_1:=zc BK120.out 1 (.int .i64 0) rfl;have hfz39_0:=zf BK120.out 0;have hfz39_1:=zf BK120.out 1))
     refine bodyPost_ret (results_ct rfl _ _ gb120 25 #[.int .i64 0,.int .i64 0] (0,0) _ rfl (by(with_reducible repeat first|apply zd|apply ze|apply za);refine blk_put (cs:=#[.int .i64 0,.int .i64 0]) ?_ 1 _ rfl;(with_reducible repeat first|apply zd|apply ze|apply za);refine blk_put (cs:=#[.int .i64 0,.int .i64 0]) ?_ 0 _ rfl;(with_reducible repeat first|apply zd|apply ze|apply za);refine blk_far ?_ NB120_125.out _;(with_reducible repeat first|apply zd|apply ze|apply za);refine blk_far ?_ NB120_125.out _;(with_reducible repeat first|apply zd|apply ze|apply za);exact BK120.out) Try.underlying25 rfl (by kernel_rfl)) rfl ?_
     exact⟨by first|rfl|(simp[errW_none,errW_some]<;>rfl)|(simp[*,errW_none,errW_some]<;>rfl),by repeat(first|(with_reducible first|exact HB.out|apply zA|apply zD|apply zE|refine zS ?_ GE119.out|refine zS ?_ GE120.out|refine zS ?_ GE125.out)|exact HB.out)⟩
   ·replace c9:=Bool.eq_false_iff.mpr c9
    subst c9
    have H1:(some (0,0,2))=some (r1,r2,r3):=by rw[if_neg (show ¬(false=true) by decide)] at H;exact H
    clear H
    have H:=H1
    clear H1
    simp only[Option.some.injEq,Prod.mk.injEq] at H
    obtain⟨rfl,rfl,rfl⟩:=H
    go_enter Try.func19,Try.ntmps19
    go_wp2_with (first|((with_reducible refine gate_dst (N:=2) rfl ?_);refine box_event ?hg (N:=2) ?hd (cs:=#[.string a0_0,.int .i64 a0_1,.int .i64 a0_2,.int .i64 a0_3,.int .i64 a0_4,.int .i64 a0_5,.int .i64 a0_6,.int .i64 a0_7,.slice A0_8 l0_8.length c0_8]) (t:=28) ?hr ?_;(case hd=>rfl);(case hg=>rfl);(case hr=>first|(go_simp;done)|(go_simp;rfl));intro gb119 hg w40 hbox hb;have n0_:=zm (below_step (by repeat(first|(with_reducible first|exact HB.out|apply zA|apply zD|apply zE)|exact HB.out)) hb);have n1_:=zm (hbox);have n2_:=zm ((by rw[hg];exact(below_size (by repeat(first|(with_reducible first|exact HB.out|apply zA|apply zD|apply zE)|exact HB.out))):w.heap.size≤gb119));have n3_:=zm ((by rw[hg];exact(below_size (by repeat(first|(with_reducible first|exact HB.out|apply zA|apply zD|apply zE)|exact HB.out))):w.heap.size≤gb119));clear HB;have HB:=n0_;have BK119:=n1_;have GW119:=n2_;have GE119:=n3_;clear n0_ n1_ n2_ n3_;clear hb hbox hg)|((with_reducible refine gate_dst (N:=4) rfl ?_);refine box_event ?hg (N:=4) ?hd (cs:=#[.int .i64 0,.int .i64 0]) (t:=25) ?hr ?_;(case hd=>rfl);(case hg=>rfl);(case hr=>first|(go_simp;done)|(go_simp;rfl));intro gb120 hg w41 hbox hb;have n0_:=zm (zb (g:=gb119) (o:=.cells #[.string a0_0,.int .i64 a0_1,.int .i64 a0_2,.int .i64 a0_3,.int .i64 a0_4,.int .i64 a0_5,.int .i64 a0_6,.int .i64 a0_7,.slice A0_8 l0_8.length c0_8] 28 (0,0)) (by(with_reducible repeat first|apply zd|apply ze|apply za);exact BK119.out) hb);have n1_:=zm (below_step (by repeat(first|(with_reducible first|exact HB.out|apply zA|apply zD|apply zE|refine zS ?_ GE119.out)|exact HB.out)) hb);have n2_:=zm (hbox);have n3_:=zm ((by rw[hg];exact(below_size (by repeat(first|(with_reducible first|exact HB.out|apply zA|apply zD|apply zE|refine zS ?_ GE119.out)|exact HB.out))):w.heap.size≤gb120));have n4_:=zm ((by rw[hg];exact(below_size (by repeat(first|(with_reducible first|exact HB.out|apply zA|apply zD|apply zE|refine zS ?_ GE119.out)|exact HB.out))):w.heap.size≤gb120));have n5_:=zm ((by rw[hg];exact Nat.ne_of_lt (blk_lt (g:=gb119) (o:=.cells #[.string a0_0,.int .i64 a0_1,.int .i64 a0_2,.int .i64 a0_3,.int .i64 a0_4,.int .i64 a0_5,.int .i64 a0_6,.int .i64 a0_7,.slice A0_8 l0_8.length c0_8] 28 (0,0)) (by(with_reducible repeat first|apply zd|apply ze|apply za);exact BK119.out)):gb119≠gb120));have n6_:=zm ((by rw[hg];exact Nat.ne_of_gt (blk_lt (g:=gb119) (o:=.cells #[.string a0_0,.int .i64 a0_1,.int .i64 a0_2,.int .i64 a0_3,.int .i64 a0_4,.int .i64 a0_5,.int .i64 a0_6,.int .i64 a0_7,.slice A0_8 l0_8.length c0_8] 28 (0,0)) (by(with_reducible repeat first|apply zd|apply ze|apply za);exact BK119.out)):gb120≠gb119));clear BK119 HB;have BK119:=n0_;have HB:=n1_;have BK120:=n2_;have GW120:=n3_;have GE120:=n4_;have NB119_120:=n5_;have NB120_119:=n6_;clear n0_ n1_ n2_ n3_ n4_ n5_ n6_;clear hb hbox hg;have hnb42:=NB119_120.out;have hnc42:=NB120_119.out;have hcz43_0:=zc BK119.out 0 (.string a0_0) rfl;have hcz43_1:=zc BK119.out 1 (.int .i64 a0_1) rfl;have hcz43_2:=zc BK119.out 2 (.int .i64 a0_2) rfl;have hcz43_3:=zc BK119.out 3 (.int .i64 a0_3) rfl;have hcz43_4:=zc BK119.out 4 (.int .i64 a0_4) rfl;have hcz43_5:=zc BK119.out 5 (.int .i64 a0_5) rfl;have hcz43_6:=zc BK119.out 6 (.int .i64 a0_6) rfl;have hcz43_7:=zc BK119.out 7 (.int .i64 a0_7) rfl;have hcz43_8:=zc BK119.out 8 (.slice A0_8 l0_8.length c0_8) rfl;have hfz43_0:=zf BK119.out 0;have hfz43_1:=zf BK119.out 1;have hfz43_2:=zf BK119.out 2;have hfz43_3:=zf BK119.out 3;have hfz43_4:=zf BK119.out 4;have hfz43_5:=zf BK119.out 5;have hfz43_6:=zf BK119.out 6;have hfz43_7:=zf BK119.out 7;have hfz43_8:=zf BK119.out 8)|((with_reducible refine gate_callee (f:=68) rfl ?_);refine goesL_ (some 10) rfl rfl Try.func68 (by kernel_rfl) rfl #[.agg #[.string a0_0,.int .i64 a0_1,.int .i64 a0_2,.int .i64 a0_3,.int .i64 a0_4,.int .i64 a0_5,.int .i64 a0_6,.int .i64 a0_7,.slice A0_8 l0_8.length c0_8],.int .i64 a1] rfl (by(try simp only[List.map_toArray,List.map_cons,List.map_nil]);first|done|rfl|(simp only[List.length_drop,List.length_take];rfl)) ?_;(with_reducible refine(fe_along.calls k a0_0 a0_1 a0_2 a0_3 a0_4 a0_5 a0_6 a0_7 _ _ l0_8 a1 t121 _ ?side1 ?side2 A3.out).mono ?_);(case side1=>repeat(first|exact(Kd.C_below HR0_8.out HB.out)|(with_reducible refine Kd.C_alloc ?_ _)|(with_reducible refine Kd.C_drewN ?_ _)|(with_reducible refine Kd.C_drew ?_)));(case side2=>exact HC0_8.out);rintro e w44 ⟨rfl,hb⟩;refine⟨_,rfl,?_⟩;have n0_:=zm (zb (g:=gb119) (o:=.cells #[.string a0_0,.int .i64 a0_1,.int .i64 a0_2,.int .i64 a0_3,.int .i64 a0_4,.int .i64 a0_5,.int .i64 a0_6,.int .i64 a0_7,.slice A0_8 l0_8.length c0_8] 28 (0,0)) (by(with_reducible repeat first|apply zd|apply ze|apply za);exact BK119.out) hb);have n1_:=zm (zb (g:=gb120) (o:=.cells #[.int .i64 0,.int .i64 0] 25 (0,0)) (by(with_reducible repeat first|apply zd|apply ze|apply za);exact BK120.out) hb);have n2_:=zm (below_step (by repeat(first|(with_reducible first|exact HB.out|apply zA|apply zD|apply zE|refine zS ?_ GE119.out|refine zS ?_ GE120.out)|exact HB.out)) hb);clear BK119 BK120 HB;have BK119:=n0_;have BK120:=n1_;have HB:=n2_;clear n0_ n1_ n2_;(try clear hb);(try clear hb2);(try clear hk);(try clear hi);have hcz45_0:=zc BK119.out 0 (.string a0_0) rfl;have hcz45_1:=zc BK119.out 1 (.int .i64 a0_1) rfl;have hcz45_2:=zc BK119.out 2 (.int .i64 a0_2) rfl;have hcz45_3:=zc BK119.out 3 (.int .i64 a0_3) rfl;have hcz45_4:=zc BK119.out 4 (.int .i64 a0_4) rfl;have hcz45_5:=zc BK119.out 5 (.int .i64 a0_5) rfl;have hcz45_6:=zc BK119.out 6 (.int .i64 a0_6) rfl;have hcz45_7:=zc BK119.out 7 (.int .i64 a0_7) rfl;have hcz45_8:=zc BK119.out 8 (.slice A0_8 l0_8.length c0_8) rfl;have hfz45_0:=zf BK119.out 0;have hfz45_1:=zf BK119.out 1;have hfz45_2:=zf BK119.out 2;have hfz45_3:=zf BK119.out 3;have hfz45_4:=zf BK119.out 4;have hfz45_5:=zf BK119.out 5;have hfz45_6:=zf BK119.out 6;have hfz45_7:=zf BK119.out 7;have hfz45_8:=zf BK119.out 8)|((with_reducible refine gate_callee (f:=69) rfl ?_);refine goesL_ (some 17) rfl rfl Try.func69 (by kernel_rfl) rfl #[.agg #[.string a0_0,.int .i64 a0_1,.int .i64 a0_2,.int .i64 a0_3,.int .i64 a0_4,.int .i64 a0_5,.int .i64 a0_6,.int .i64 a0_7,.slice A0_8 l0_8.length c0_8],.int .i64 a1] rfl (by(try simp only[List.map_toArray,List.map_cons,List.map_nil]);first|done|rfl|(simp only[List.length_drop,List.length_take];rfl)) ?_;(with_reducible refine(fe_bounded.calls a0_0 a0_1 a0_2 a0_3 a0_4 a0_5 a0_6 a0_7 _ _ l0_8 a1 true _ ?side1 ?side2 A5.out).mono ?_);(case side1=>repeat(first|exact(Kd.C_below HR0_8.out HB.out)|(with_reducible refine Kd.C_alloc ?_ _)|(with_reducible refine Kd.C_drewN ?_ _)|(with_reducible refine Kd.C_drew ?_)));(case side2=>exact HC0_8.out);rintro e w46 ⟨rfl,hb⟩;refine⟨_,rfl,?_⟩;have n0_:=zm (zb (g:=gb119) (o:=.cells #[.string a0_0,.int .i64 a0_1,.int .i64 a0_2,.int .i64 a0_3,.int .i64 a0_4,.int .i64 a0_5,.int .i64 a0_6,.int .i64 a0_7,.slice A0_8 l0_8.length c0_8] 28 (0,0)) (by(with_reducible repeat first|apply zd|apply ze|apply za);exact BK119.out) hb);have n1_:=zm (zb (g:=gb120) (o:=.cells #[.int .i64 0,.int .i64 0] 25 (0,0)) (by(with_reducible repeat first|apply zd|apply ze|apply za);exact BK120.out) hb);have n2_:=zm (below_step (by repeat(first|(with_reducible first|exact HB.out|apply zA|apply zD|apply zE|refine zS ?_ GE119.out|refine zS ?_ GE120.out)|exact HB.out)) hb);clear BK119 BK120 HB;have BK119:=n0_;have BK120:=n1_;have HB:=n2_;clear n0_ n1_ n2_;(try clear hb);(try clear hb2);(try clear hk);(try clear hi);have hcz47_0:=zc BK119.out 0 (.string a0_0) rfl;have hcz47_1:=zc BK119.out 1 (.int .i64 a0_1) rfl;have hcz47_2:=zc BK119.out 2 (.int .i64 a0_2) rfl;have hcz47_3:=zc BK119.out 3 (.int .i64 a0_3) rfl;have hcz47_4:=zc BK119.out 4 (.int .i64 a0_4) rfl;have hcz47_5:=zc BK119.out 5 (.int .i64 a0_5) rfl;have hcz47_6:=zc BK119.out 6 (.int .i64 a0_6) rfl;have hcz47_7:=zc BK119.out 7 (.int .i64 a0_7) rfl;have hcz47_8:=zc BK119.out 8 (.slice A0_8 l0_8.length c0_8) rfl;have hfz47_0:=zf BK119.out 0;have hfz47_1:=zf BK119.out 1;have hfz47_2:=zf BK119.out 2;have hfz47_3:=zf BK119.out 3;have hfz47_4:=zf BK119.out 4;have hfz47_5:=zf BK119.out 5;have hfz47_6:=zf BK119.out 6;have hfz47_7:=zf BK119.out 7;have hfz47_8:=zf BK119.out 8)|((with_reducible refine gate_callee (f:=70) rfl ?_);refine goesL_ (some 22) rfl rfl Try.func70 (by kernel_rfl) rfl #[.agg #[.string a0_0,.int .i64 a0_1,.int .i64 a0_2,.int .i64 a0_3,.int .i64 a0_4,.int .i64 a0_5,.int .i64 a0_6,.int .i64 a0_7,.slice A0_8 l0_8.length c0_8],.int .i64 a1] rfl (by(try simp only[List.map_toArray,List.map_cons,List.map_nil]);first|done|rfl|(simp only[List.length_drop,List.length_take];rfl)) ?_;(with_reducible refine(fe_reach.calls a0_0 a0_1 a0_2 a0_3 a0_4 a0_5 a0_6 a0_7 _ _ l0_8 a1 t123 t124 _ ?side1 ?side2 A7.out).mono ?_);(case side1=>repeat(first|exact(Kd.C_below HR0_8.out HB.out)|(with_reducible refine Kd.C_alloc ?_ _)|(with_reducible refine Kd.C_drewN ?_ _)|(with_reducible refine Kd.C_drew ?_)));(case side2=>exact HC0_8.out);rintro e w48 ⟨rfl,hb⟩;refine⟨_,rfl,?_⟩;have n0_:=zm (zb (g:=gb119) (o:=.cells #[.string a0_0,.int .i64 a0_1,.int .i64 a0_2,.int .i64 a0_3,.int .i64 a0_4,.int .i64 a0_5,.int .i64 a0_6,.int .i64 a0_7,.slice A0_8 l0_8.length c0_8] 28 (0,0)) (by(with_reducible repeat first|apply zd|apply ze|apply za);exact BK119.out) hb);have n1_:=zm (zb (g:=gb120) (o:=.cells #[.int .i64 0,.int .i64 0] 25 (0,0)) (by(with_reducible repeat first|apply zd|apply ze|apply za);exact BK120.out) hb);have n2_:=zm (below_step (by repeat(first|(with_reducible first|exact HB.out|apply zA|apply zD|apply zE|refine zS ?_ GE119.out|refine zS ?_ GE120.out)|exact HB.out)) hb);clear BK119 BK120 HB;have BK119:=n0_;have BK120:=n1_;have HB:=n2_;clear n0_ n1_ n2_;(try clear hb);(try clear hb2);(try clear hk);(try clear hi))|((with_reducible refine gate_dst (N:=7) rfl ?_);refine box_event ?hg (N:=7) ?hd (cs:=#[.int .i64 0,.int .i64 0]) (t:=25) ?hr ?_;(case hd=>rfl);(case hg=>rfl);(case hr=>first|(go_simp;done)|(go_simp;rfl));intro gb125 hg w49 hbox hb;have n0_:=zm (zb (g:=gb119) (o:=.cells #[.string a0_0,.int .i64 a0_1,.int .i64 a0_2,.int .i64 a0_3,.int .i64 a0_4,.int .i64 a0_5,.int .i64 a0_6,.int .i64 a0_7,.slice A0_8 l0_8.length c0_8] 28 (0,0)) (by(with_reducible repeat first|apply zd|apply ze|apply za);exact BK119.out) hb);have n1_:=zm (zb (g:=gb120) (o:=.cells #[.int .i64 0,.int .i64 0] 25 (0,0)) (by(with_reducible repeat first|apply zd|apply ze|apply za);exact BK120.out) hb);have n2_:=zm (below_step (by repeat(first|(with_reducible first|exact HB.out|apply zA|apply zD|apply zE|refine zS ?_ GE119.out|refine zS ?_ GE120.out)|exact HB.out)) hb);have n3_:=zm (hbox);have n4_:=zm ((by rw[hg];exact(below_size (by repeat(first|(with_reducible first|exact HB.out|apply zA|apply zD|apply zE|refine zS ?_ GE119.out|refine zS ?_ GE120.out)|exact HB.out))):w.heap.size≤gb125));have n5_:=zm ((by rw[hg];exact(below_size (by repeat(first|(with_reducible first|exact HB.out|apply zA|apply zD|apply zE|refine zS ?_ GE119.out|refine zS ?_ GE120.out)|exact HB.out))):w.heap.size≤gb125));have n6_:=zm ((by rw[hg];exact Nat.ne_of_lt (blk_lt (g:=gb119) (o:=.cells #[.string a0_0,.int .i64 a0_1,.int .i64 a0_2,.int .i64 a0_3,.int .i64 a0_4,.int .i64 a0_5,.int .i64 a0_6,.int .i64 a0_7,.slice A0_8 l0_8.length c0_8] 28 (0,0)) (by(with_reducible repeat first|apply zd|apply ze|apply za);exact BK119.out)):gb119≠gb125));have n7_:=zm ((by rw[hg];exact Nat.ne_of_gt (blk_lt (g:=gb119) (o:=.cells #[.string a0_0,.int .i64 a0_1,.int .i64 a0_2,.int .i64 a0_3,.int .i64 a0_4,.int .i64 a0_5,.int .i64 a0_6,.int .i64 a0_7,.slice A0_8 l0_8.length c0_8] 28 (0,0)) (by(with_reducible repeat first|apply zd|apply ze|apply za);exact BK119.out)):gb125≠gb119));have n8_:=zm ((by rw[hg];exact Nat.ne_of_lt (blk_lt (g:=gb120) (o:=.cells #[.int .i64 0,.int .i64 0] 25 (0,0)) (by(with_reducible repeat first|apply zd|apply ze|apply za);exact BK120.out)):gb120≠gb125));have n9_:=zm ((by rw[hg];exact Nat.ne_of_gt (blk_lt (g:=gb120) (o:=.cells #[.int .i64 0,.int .i64 0] 25 (0,0)) (by(with_reducible repeat first|apply zd|apply ze|apply za);exact BK120.out)):gb125≠gb120));clear BK119 BK120 HB;have BK119:=n0_;have BK120:=n1_;have HB:=n2_;have BK125:=n3_;have GW125:=n4_;have GE125:=n5_;have NB119_125:=n6_;have NB125_119:=n7_;have NB120_125:=n8_;have NB125_120:=n9_;clear n0_ n1_ n2_ n3_ n4_ n5_ n6_ n7_ n8_ n9_;clear hb hbox hg;have hnb50:=NB125_119.out;have hnc50:=NB119_125.out;have hnb51:=NB125_120.out;have hnc51:=NB120_125.out;have hcz52_0:=zc BK125.out 0 (.int .i64 0) rfl;have hcz52_1:=zc BK125.out 1 (.int .i64 0) rfl;have hfz52_0:=zf BK125.out 0;have hfz52_1:=zf BK125.out 1)|((with_reducible refine gate_callee (f:=71) rfl ?_);refine goesL_ (some 25) rfl rfl Try.func71 (by kernel_rfl) rfl #[.int .i64 t123] rfl (by(try simp only[List.map_toArray,List.map_cons,List.map_nil]);first|done|rfl|(simp only[List.length_drop,List.length_take];rfl)) ?_;(with_reducible refine(fe_in.calls t123 false _ A8.out).mono ?_);rintro e w' ⟨rfl,⟨nd,rfl⟩⟩;refine⟨_,rfl,?_⟩;have hcz53_0:=zc BK120.out 0 (.int .i64 0) rfl;have hcz53_1:=zc BK120.out 1 (.int .i64 0) rfl;have hfz53_0:=zf BK120.out 0;have hfz53_1:=zf BK120.out 1))
    refine bodyPost_ret (results_ct rfl _ _ gb120 25 #[.int .i64 0,.int .i64 0] (0,0) _ rfl (by(with_reducible repeat first|apply zd|apply ze|apply za);refine blk_put (cs:=#[.int .i64 0,.int .i64 0]) ?_ 1 _ rfl;(with_reducible repeat first|apply zd|apply ze|apply za);refine blk_put (cs:=#[.int .i64 0,.int .i64 0]) ?_ 0 _ rfl;(with_reducible repeat first|apply zd|apply ze|apply za);refine blk_far ?_ NB120_125.out _;(with_reducible repeat first|apply zd|apply ze|apply za);refine blk_far ?_ NB120_125.out _;(with_reducible repeat first|apply zd|apply ze|apply za);exact BK120.out) Try.underlying25 rfl (by kernel_rfl)) rfl ?_
    exact⟨by first|rfl|(simp[errW_none,errW_some]<;>rfl)|(simp[*,errW_none,errW_some]<;>rfl),by repeat(first|(with_reducible first|exact HB.out|apply zA|apply zD|apply zE|refine zS ?_ GE119.out|refine zS ?_ GE120.out|refine zS ?_ GE125.out)|exact HB.out)⟩
  ·replace c6:=Bool.eq_false_iff.mpr c6
   subst c6
   have H1:(some (0,0,14))=some (r1,r2,r3):=by rw[if_neg (show ¬(false=true) by decide)] at H;exact H
   clear H
   have H:=H1
   clear H1
   simp only[Option.some.injEq,Prod.mk.injEq] at H
   obtain⟨rfl,rfl,rfl⟩:=H
   go_enter Try.func19,Try.ntmps19
   go_wp2_with (first|((with_reducible refine gate_dst (N:=2) rfl ?_);refine box_event ?hg (N:=2) ?hd (cs:=#[.string a0_0,.int .i64 a0_1,.int .i64 a0_2,.int .i64 a0_3,.int .i64 a0_4,.int .i64 a0_5,.int .i64 a0_6,.int .i64 a0_7,.slice A0_8 l0_8.length c0_8]) (t:=28) ?hr ?_;(case hd=>rfl);(case hg=>rfl);(case hr=>first|(go_simp;done)|(go_simp;rfl));intro gb119 hg w54 hbox hb;have n0_:=zm (below_step (by repeat(first|(with_reducible first|exact HB.out|apply zA|apply zD|apply zE)|exact HB.out)) hb);have n1_:=zm (hbox);have n2_:=zm ((by rw[hg];exact(below_size (by repeat(first|(with_reducible first|exact HB.out|apply zA|apply zD|apply zE)|exact HB.out))):w.heap.size≤gb119));have n3_:=zm ((by rw[hg];exact(below_size (by repeat(first|(with_reducible first|exact HB.out|apply zA|apply zD|apply zE)|exact HB.out))):w.heap.size≤gb119));clear HB;have HB:=n0_;have BK119:=n1_;have GW119:=n2_;have GE119:=n3_;clear n0_ n1_ n2_ n3_;clear hb hbox hg)|((with_reducible refine gate_dst (N:=4) rfl ?_);refine box_event ?hg (N:=4) ?hd (cs:=#[.int .i64 0,.int .i64 0]) (t:=25) ?hr ?_;(case hd=>rfl);(case hg=>rfl);(case hr=>first|(go_simp;done)|(go_simp;rfl));intro gb120 hg w55 hbox hb;have n0_:=zm (zb (g:=gb119) (o:=.cells #[.string a0_0,.int .i64 a0_1,.int .i64 a0_2,.int .i64 a0_3,.int .i64 a0_4,.int .i64 a0_5,.int .i64 a0_6,.int .i64 a0_7,.slice A0_8 l0_8.length c0_8] 28 (0,0)) (by(with_reducible repeat first|apply zd|apply ze|apply za);exact BK119.out) hb);have n1_:=zm (below_step (by repeat(first|(with_reducible first|exact HB.out|apply zA|apply zD|apply zE|refine zS ?_ GE119.out)|exact HB.out)) hb);have n2_:=zm (hbox);have n3_:=zm ((by rw[hg];exact(below_size (by repeat(first|(with_reducible first|exact HB.out|apply zA|apply zD|apply zE|refine zS ?_ GE119.out)|exact HB.out))):w.heap.size≤gb120));have n4_:=zm ((by rw[hg];exact(below_size (by repeat(first|(with_reducible first|exact HB.out|apply zA|apply zD|apply zE|refine zS ?_ GE119.out)|exact HB.out))):w.heap.size≤gb120));have n5_:=zm ((by rw[hg];exact Nat.ne_of_lt (blk_lt (g:=gb119) (o:=.cells #[.string a0_0,.int .i64 a0_1,.int .i64 a0_2,.int .i64 a0_3,.int .i64 a0_4,.int .i64 a0_5,.int .i64 a0_6,.int .i64 a0_7,.slice A0_8 l0_8.length c0_8] 28 (0,0)) (by(with_reducible repeat first|apply zd|apply ze|apply za);exact BK119.out)):gb119≠gb120));have n6_:=zm ((by rw[hg];exact Nat.ne_of_gt (blk_lt (g:=gb119) (o:=.cells #[.string a0_0,.int .i64 a0_1,.int .i64 a0_2,.int .i64 a0_3,.int .i64 a0_4,.int .i64 a0_5,.int .i64 a0_6,.int .i64 a0_7,.slice A0_8 l0_8.length c0_8] 28 (0,0)) (by(with_reducible repeat first|apply zd|apply ze|apply za);exact BK119.out)):gb120≠gb119));clear BK119 HB;have BK119:=n0_;have HB:=n1_;have BK120:=n2_;have GW120:=n3_;have GE120:=n4_;have NB119_120:=n5_;have NB120_119:=n6_;clear n0_ n1_ n2_ n3_ n4_ n5_ n6_;clear hb hbox hg;have hnb56:=NB119_120.out;have hnc56:=NB120_119.out;have hcz57_0:=zc BK119.out 0 (.string a0_0) rfl;have hcz57_1:=zc BK119.out 1 (.int .i64 a0_1) rfl;have hcz57_2:=zc BK119.out 2 (.int .i64 a0_2) rfl;have hcz57_3:=zc BK119.out 3 (.int .i64 a0_3) rfl;have hcz57_4:=zc BK119.out 4 (.int .i64 a0_4) rfl;have hcz57_5:=zc BK119.out 5 (.int .i64 a0_5) rfl;have hcz57_6:=zc BK119.out 6 (.int .i64 a0_6) rfl;have hcz57_7:=zc BK119.out 7 (.int .i64 a0_7) rfl;have hcz57_8:=zc BK119.out 8 (.slice A0_8 l0_8.length c0_8) rfl;have hfz57_0:=zf BK119.out 0;have hfz57_1:=zf BK119.out 1;have hfz57_2:=zf BK119.out 2;have hfz57_3:=zf BK119.out 3;have hfz57_4:=zf BK119.out 4;have hfz57_5:=zf BK119.out 5;have hfz57_6:=zf BK119.out 6;have hfz57_7:=zf BK119.out 7;have hfz57_8:=zf BK119.out 8)|((with_reducible refine gate_callee (f:=68) rfl ?_);refine goesL_ (some 10) rfl rfl Try.func68 (by kernel_rfl) rfl #[.agg #[.string a0_0,.int .i64 a0_1,.int .i64 a0_2,.int .i64 a0_3,.int .i64 a0_4,.int .i64 a0_5,.int .i64 a0_6,.int .i64 a0_7,.slice A0_8 l0_8.length c0_8],.int .i64 a1] rfl (by(try simp only[List.map_toArray,List.map_cons,List.map_nil]);first|done|rfl|(simp only[List.length_drop,List.length_take];rfl)) ?_;(with_reducible refine(fe_along.calls k a0_0 a0_1 a0_2 a0_3 a0_4 a0_5 a0_6 a0_7 _ _ l0_8 a1 t121 _ ?side1 ?side2 A3.out).mono ?_);(case side1=>repeat(first|exact(Kd.C_below HR0_8.out HB.out)|(with_reducible refine Kd.C_alloc ?_ _)|(with_reducible refine Kd.C_drewN ?_ _)|(with_reducible refine Kd.C_drew ?_)));(case side2=>exact HC0_8.out);rintro e w58 ⟨rfl,hb⟩;refine⟨_,rfl,?_⟩;have n0_:=zm (zb (g:=gb119) (o:=.cells #[.string a0_0,.int .i64 a0_1,.int .i64 a0_2,.int .i64 a0_3,.int .i64 a0_4,.int .i64 a0_5,.int .i64 a0_6,.int .i64 a0_7,.slice A0_8 l0_8.length c0_8] 28 (0,0)) (by(with_reducible repeat first|apply zd|apply ze|apply za);exact BK119.out) hb);have n1_:=zm (zb (g:=gb120) (o:=.cells #[.int .i64 0,.int .i64 0] 25 (0,0)) (by(with_reducible repeat first|apply zd|apply ze|apply za);exact BK120.out) hb);have n2_:=zm (below_step (by repeat(first|(with_reducible first|exact HB.out|apply zA|apply zD|apply zE|refine zS ?_ GE119.out|refine zS ?_ GE120.out)|exact HB.out)) hb);clear BK119 BK120 HB;have BK119:=n0_;have BK120:=n1_;have HB:=n2_;clear n0_ n1_ n2_;(try clear hb);(try clear hb2);(try clear hk);(try clear hi);have hcz59_0:=zc BK119.out 0 (.string a0_0) rfl;have hcz59_1:=zc BK119.out 1 (.int .i64 a0_1) rfl;have hcz59_2:=zc BK119.out 2 (.int .i64 a0_2) rfl;have hcz59_3:=zc BK119.out 3 (.int .i64 a0_3) rfl;have hcz59_4:=zc BK119.out 4 (.int .i64 a0_4) rfl;have hcz59_5:=zc BK119.out 5 (.int .i64 a0_5) rfl;have hcz59_6:=zc BK119.out 6 (.int .i64 a0_6) rfl;have hcz59_7:=zc BK119.out 7 (.int .i64 a0_7) rfl;have hcz59_8:=zc BK119.out 8 (.slice A0_8 l0_8.length c0_8) rfl;have hfz59_0:=zf BK119.out 0;have hfz59_1:=zf BK119.out 1;have hfz59_2:=zf BK119.out 2;have hfz59_3:=zf BK119.out 3;have hfz59_4:=zf BK119.out 4;have hfz59_5:=zf BK119.out 5;have hfz59_6:=zf BK119.out 6;have hfz59_7:=zf BK119.out 7;have hfz59_8:=zf BK119.out 8)|((with_reducible refine gate_callee (f:=69) rfl ?_);refine goesL_ (some 17) rfl rfl Try.func69 (by kernel_rfl) rfl #[.agg #[.string a0_0,.int .i64 a0_1,.int .i64 a0_2,.int .i64 a0_3,.int .i64 a0_4,.int .i64 a0_5,.int .i64 a0_6,.int .i64 a0_7,.slice A0_8 l0_8.length c0_8],.int .i64 a1] rfl (by(try simp only[List.map_toArray,List.map_cons,List.map_nil]);first|done|rfl|(simp only[List.length_drop,List.length_take];rfl)) ?_;(with_reducible refine(fe_bounded.calls a0_0 a0_1 a0_2 a0_3 a0_4 a0_5 a0_6 a0_7 _ _ l0_8 a1 false _ ?side1 ?side2 A5.out).mono ?_);(case side1=>repeat(first|exact(Kd.C_below HR0_8.out HB.out)|(with_reducible refine Kd.C_alloc ?_ _)|(with_reducible refine Kd.C_drewN ?_ _)|(with_reducible refine Kd.C_drew ?_)));(case side2=>exact HC0_8.out);rintro e w60 ⟨rfl,hb⟩;refine⟨_,rfl,?_⟩;have n0_:=zm (zb (g:=gb119) (o:=.cells #[.string a0_0,.int .i64 a0_1,.int .i64 a0_2,.int .i64 a0_3,.int .i64 a0_4,.int .i64 a0_5,.int .i64 a0_6,.int .i64 a0_7,.slice A0_8 l0_8.length c0_8] 28 (0,0)) (by(with_reducible repeat first|apply zd|apply ze|apply za);exact BK119.out) hb);have n1_:=zm (zb (g:=gb120) (o:=.cells #[.int .i64 0,.int .i64 0] 25 (0,0)) (by(with_reducible repeat first|apply zd|apply ze|apply za);exact BK120.out) hb);have n2_:=zm (below_step (by repeat(first|(with_reducible first|exact HB.out|apply zA|apply zD|apply zE|refine zS ?_ GE119.out|refine zS ?_ GE120.out)|exact HB.out)) hb);clear BK119 BK120 HB;have BK119:=n0_;have BK120:=n1_;have HB:=n2_;clear n0_ n1_ n2_;(try clear hb);(try clear hb2);(try clear hk);(try clear hi);have hcz61_0:=zc BK120.out 0 (.int .i64 0) rfl;have hcz61_1:=zc BK120.out 1 (.int .i64 0) rfl;have hfz61_0:=zf BK120.out 0;have hfz61_1:=zf BK120.out 1))
   refine bodyPost_ret (results_ct rfl _ _ gb120 25 #[.int .i64 0,.int .i64 0] (0,0) _ rfl (by(with_reducible repeat first|apply zd|apply ze|apply za);refine blk_put (cs:=#[.int .i64 0,.int .i64 0]) ?_ 1 _ rfl;(with_reducible repeat first|apply zd|apply ze|apply za);refine blk_put (cs:=#[.int .i64 0,.int .i64 0]) ?_ 0 _ rfl;(with_reducible repeat first|apply zd|apply ze|apply za);exact BK120.out) Try.underlying25 rfl (by kernel_rfl)) rfl ?_
   exact⟨by first|rfl|(simp[errW_none,errW_some]<;>rfl)|(simp[*,errW_none,errW_some]<;>rfl),by repeat(first|(with_reducible first|exact HB.out|apply zA|apply zD|apply zE|refine zS ?_ GE119.out|refine zS ?_ GE120.out)|exact HB.out)⟩
 ·rw[if_neg c4] at H
  have c4b0:(t121==0)=false:=beq_eq_false_iff_ne.mpr c4
  have c4b1:(t121 != 0)=true:=bne_iff_ne.mpr c4
  simp only[Option.some.injEq,Prod.mk.injEq] at H
  obtain⟨rfl,rfl,rfl⟩:=H
  go_enter Try.func19,Try.ntmps19
  go_wp2_with (first|((with_reducible refine gate_dst (N:=2) rfl ?_);refine box_event ?hg (N:=2) ?hd (cs:=#[.string a0_0,.int .i64 a0_1,.int .i64 a0_2,.int .i64 a0_3,.int .i64 a0_4,.int .i64 a0_5,.int .i64 a0_6,.int .i64 a0_7,.slice A0_8 l0_8.length c0_8]) (t:=28) ?hr ?_;(case hd=>rfl);(case hg=>rfl);(case hr=>first|(go_simp;done)|(go_simp;rfl));intro gb119 hg w62 hbox hb;have n0_:=zm (below_step (by repeat(first|(with_reducible first|exact HB.out|apply zA|apply zD|apply zE)|exact HB.out)) hb);have n1_:=zm (hbox);have n2_:=zm ((by rw[hg];exact(below_size (by repeat(first|(with_reducible first|exact HB.out|apply zA|apply zD|apply zE)|exact HB.out))):w.heap.size≤gb119));have n3_:=zm ((by rw[hg];exact(below_size (by repeat(first|(with_reducible first|exact HB.out|apply zA|apply zD|apply zE)|exact HB.out))):w.heap.size≤gb119));clear HB;have HB:=n0_;have BK119:=n1_;have GW119:=n2_;have GE119:=n3_;clear n0_ n1_ n2_ n3_;clear hb hbox hg)|((with_reducible refine gate_dst (N:=4) rfl ?_);refine box_event ?hg (N:=4) ?hd (cs:=#[.int .i64 0,.int .i64 0]) (t:=25) ?hr ?_;(case hd=>rfl);(case hg=>rfl);(case hr=>first|(go_simp;done)|(go_simp;rfl));intro gb120 hg w63 hbox hb;have n0_:=zm (zb (g:=gb119) (o:=.cells #[.string a0_0,.int .i64 a0_1,.int .i64 a0_2,.int .i64 a0_3,.int .i64 a0_4,.int .i64 a0_5,.int .i64 a0_6,.int .i64 a0_7,.slice A0_8 l0_8.length c0_8] 28 (0,0)) (by(with_reducible repeat first|apply zd|apply ze|apply za);exact BK119.out) hb);have n1_:=zm (below_step (by repeat(first|(with_reducible first|exact HB.out|apply zA|apply zD|apply zE|refine zS ?_ GE119.out)|exact HB.out)) hb);have n2_:=zm (hbox);have n3_:=zm ((by rw[hg];exact(below_size (by repeat(first|(with_reducible first|exact HB.out|apply zA|apply zD|apply zE|refine zS ?_ GE119.out)|exact HB.out))):w.heap.size≤gb120));have n4_:=zm ((by rw[hg];exact(below_size (by repeat(first|(with_reducible first|exact HB.out|apply zA|apply zD|apply zE|refine zS ?_ GE119.out)|exact HB.out))):w.heap.size≤gb120));have n5_:=zm ((by rw[hg];exact Nat.ne_of_lt (blk_lt (g:=gb119) (o:=.cells #[.string a0_0,.int .i64 a0_1,.int .i64 a0_2,.int .i64 a0_3,.int .i64 a0_4,.int .i64 a0_5,.int .i64 a0_6,.int .i64 a0_7,.slice A0_8 l0_8.length c0_8] 28 (0,0)) (by(with_reducible repeat first|apply zd|apply ze|apply za);exact BK119.out)):gb119≠gb120));have n6_:=zm ((by rw[hg];exact Nat.ne_of_gt (blk_lt (g:=gb119) (o:=.cells #[.string a0_0,.int .i64 a0_1,.int .i64 a0_2,.int .i64 a0_3,.int .i64 a0_4,.int .i64 a0_5,.int .i64 a0_6,.int .i64 a0_7,.slice A0_8 l0_8.length c0_8] 28 (0,0)) (by(with_reducible repeat first|apply zd|apply ze|apply za);exact BK119.out)):gb120≠gb119));clear BK119 HB;have BK119:=n0_;have HB:=n1_;have BK120:=n2_;have GW120:=n3_;have GE120:=n4_;have NB119_120:=n5_;have NB120_119:=n6_;clear n0_ n1_ n2_ n3_ n4_ n5_ n6_;clear hb hbox hg;have hnb64:=NB119_120.out;have hnc64:=NB120_119.out;have hcz65_0:=zc BK119.out 0 (.string a0_0) rfl;have hcz65_1:=zc BK119.out 1 (.int .i64 a0_1) rfl;have hcz65_2:=zc BK119.out 2 (.int .i64 a0_2) rfl;have hcz65_3:=zc BK119.out 3 (.int .i64 a0_3) rfl;have hcz65_4:=zc BK119.out 4 (.int .i64 a0_4) rfl;have hcz65_5:=zc BK119.out 5 (.int .i64 a0_5) rfl;have hcz65_6:=zc BK119.out 6 (.int .i64 a0_6) rfl;have hcz65_7:=zc BK119.out 7 (.int .i64 a0_7) rfl;have hcz65_8:=zc BK119.out 8 (.slice A0_8 l0_8.length c0_8) rfl;have hfz65_0:=zf BK119.out 0;have hfz65_1:=zf BK119.out 1;have hfz65_2:=zf BK119.out 2;have hfz65_3:=zf BK119.out 3;have hfz65_4:=zf BK119.out 4;have hfz65_5:=zf BK119.out 5;have hfz65_6:=zf BK119.out 6;have hfz65_7:=zf BK119.out 7;have hfz65_8:=zf BK119.out 8)|((with_reducible refine gate_callee (f:=68) rfl ?_);refine goesL_ (some 10) rfl rfl Try.func68 (by kernel_rfl) rfl #[.agg #[.string a0_0,.int .i64 a0_1,.int .i64 a0_2,.int .i64 a0_3,.int .i64 a0_4,.int .i64 a0_5,.int .i64 a0_6,.int .i64 a0_7,.slice A0_8 l0_8.length c0_8],.int .i64 a1] rfl (by(try simp only[List.map_toArray,List.map_cons,List.map_nil]);first|done|rfl|(simp only[List.length_drop,List.length_take];rfl)) ?_;(with_reducible refine(fe_along.calls k a0_0 a0_1 a0_2 a0_3 a0_4 a0_5 a0_6 a0_7 _ _ l0_8 a1 t121 _ ?side1 ?side2 A3.out).mono ?_);(case side1=>repeat(first|exact(Kd.C_below HR0_8.out HB.out)|(with_reducible refine Kd.C_alloc ?_ _)|(with_reducible refine Kd.C_drewN ?_ _)|(with_reducible refine Kd.C_drew ?_)));(case side2=>exact HC0_8.out);rintro e w66 ⟨rfl,hb⟩;refine⟨_,rfl,?_⟩;have n0_:=zm (zb (g:=gb119) (o:=.cells #[.string a0_0,.int .i64 a0_1,.int .i64 a0_2,.int .i64 a0_3,.int .i64 a0_4,.int .i64 a0_5,.int .i64 a0_6,.int .i64 a0_7,.slice A0_8 l0_8.length c0_8] 28 (0,0)) (by(with_reducible repeat first|apply zd|apply ze|apply za);exact BK119.out) hb);have n1_:=zm (zb (g:=gb120) (o:=.cells #[.int .i64 0,.int .i64 0] 25 (0,0)) (by(with_reducible repeat first|apply zd|apply ze|apply za);exact BK120.out) hb);have n2_:=zm (below_step (by repeat(first|(with_reducible first|exact HB.out|apply zA|apply zD|apply zE|refine zS ?_ GE119.out|refine zS ?_ GE120.out)|exact HB.out)) hb);clear BK119 BK120 HB;have BK119:=n0_;have BK120:=n1_;have HB:=n2_;clear n0_ n1_ n2_;(try clear hb);(try clear hb2);(try clear hk);(try clear hi);have hcz67_0:=zc BK120.out 0 (.int .i64 0) rfl;have hcz67_1:=zc BK120.out 1 (.int .i64 0) rfl;have hfz67_0:=zf BK120.out 0;have hfz67_1:=zf BK120.out 1))
  refine bodyPost_ret (results_ct rfl _ _ gb120 25 #[.int .i64 0,.int .i64 0] (0,0) _ rfl (by(with_reducible repeat first|apply zd|apply ze|apply za);refine blk_put (cs:=#[.int .i64 0,.int .i64 0]) ?_ 1 _ rfl;(with_reducible repeat first|apply zd|apply ze|apply za);refine blk_put (cs:=#[.int .i64 0,.int .i64 0]) ?_ 0 _ rfl;(with_reducible repeat first|apply zd|apply ze|apply za);exact BK120.out) Try.underlying25 rfl (by kernel_rfl)) rfl ?_
  exact⟨by first|rfl|(simp[errW_none,errW_some]<;>rfl)|(simp[*,errW_none,errW_some]<;>rfl),by repeat(first|(with_reducible first|exact HB.out|apply zA|apply zD|apply zE|refine zS ?_ GE119.out|refine zS ?_ GE120.out)|exact HB.out)⟩
def fe_inner.f (a0:Int):Option (Bool):=if a0=1 then(some true) else(some (a0==3))
set_option maxHeartbeats 8000000 in
set_option maxRecDepth 100000 in
theorem fe_inner.calls (a0:Int) (r:Bool) (w:World) (h:fe_inner.f a0=some r):
    Calls Try.prog 76 #[.int .i64 a0] w fun e w'=>e=.returned (.bool r)∧Drawn0 w w':=by
  have H:(if a0=1 then(some true) else(some (a0==3)))=some r:=h
  clear h
  by_cases c2:a0=1
  · rw[if_pos c2] at H
    have c2b0:(a0==1)=true:=beq_iff_eq.mpr c2
    have c2b1:(a0 != 1)=false:=bne_eq_false_iff_eq.mpr c2
    clear c2
    obtain rfl:=Option.some.inj H
    go_enter Try.func76,Try.ntmps76
    go_wp2
    go_ret
    exact⟨by first|rfl|(simp;done)|(simp[*];done),by repeat(first|exact Drawn0.refl _|apply Drawn0.step)⟩
  · rw[if_neg c2] at H
    have c2b0:(a0==1)=false:=beq_eq_false_iff_ne.mpr c2
    have c2b1:(a0 != 1)=true:=bne_iff_ne.mpr c2
    obtain rfl:=Option.some.inj H
    go_enter Try.func76,Try.ntmps76
    go_wp2
    go_ret
    exact⟨by first|rfl|(simp;done)|(simp[*];done),by repeat(first|exact Drawn0.refl _|apply Drawn0.step)⟩
def fe_extreme.f (k:Nat) (a0_0:ByteArray) (a0_1 a0_2 a0_3 a0_4 a0_5 a0_6 a0_7:Int) (l0_8:List (S104)) (a1:Bool):Option (Int×Int):=(fe_Check.f k a0_0 a0_1 a0_2 a0_3 a0_4 a0_5 a0_6 a0_7 l0_8).bind fun t145=>(if t145=0 then(if a0_1=0 then(some (0,14)) else(if a1=true then(some (a0_6,0)) else(some (a0_7,0)))) else(some (0,t145)))
theorem fe_extreme.mono:∀ a0 a1 a2 a3 a4 a5 a6 a7 a8 a9 k,LeO (fe_extreme.f k a0 a1 a2 a3 a4 a5 a6 a7 a8 a9) (fe_extreme.f (k+1) a0 a1 a2 a3 a4 a5 a6 a7 a8 a9):=by
 intro a0 a1 a2 a3 a4 a5 a6 a7 a8 a9 k
 unfold fe_extreme.f
 repeat' first
  | (with_reducible exact fe_Check.mono _ _ _ _ _ _ _ _ _ _)
  | (with_reducible exact LeO.refl _)
  | (with_reducible exact LeO.none _)
  | (with_reducible refine LeO.ite ?_ ?_)
  | (with_reducible refine LeO.bind ?_ (fun _=>?_))
  | exact fe_Check.mono _ _ _ _ _ _ _ _ _ _
  | exact LeO.none _
  | refine LeO.ite ?_ ?_
  | refine LeO.bind ?_ (fun _=>?_)
set_option maxHeartbeats 8000000 in
set_option maxRecDepth 100000 in
theorem fe_extreme.calls (k:Nat) (a0_0:ByteArray) (a0_1 a0_2 a0_3 a0_4 a0_5 a0_6 a0_7:Int) (A0_8:Option Addr) (c0_8:Nat) (l0_8:List (S104)) (a1:Bool) (r1 r2:Int) (w:World) (hr0_8:Kd.C k104 w A0_8 l0_8.length l0_8) (hc0_8:l0_8.length≤c0_8) (h:fe_extreme.f k a0_0 a0_1 a0_2 a0_3 a0_4 a0_5 a0_6 a0_7 l0_8 a1=some (r1,r2)):
 Calls Try.prog 78 #[.agg #[.string a0_0,.int .i64 a0_1,.int .i64 a0_2,.int .i64 a0_3,.int .i64 a0_4,.int .i64 a0_5,.int .i64 a0_6,.int .i64 a0_7,.slice A0_8 l0_8.length c0_8],.bool a1] w fun e w'=>e=.returned (.tuple #[.int .i64 r1,.int .i64 r2])∧Below w.heap.size w w':=by
 have hu28:=Try.underlying28
 have HR0_8:=zm hr0_8
 have HC0_8:=zm hc0_8
 clear hr0_8 hc0_8
 have HB:=zm (Below.refl w.heap.size w)
 have H:((fe_Check.f k a0_0 a0_1 a0_2 a0_3 a0_4 a0_5 a0_6 a0_7 l0_8).bind fun t145=>(if t145=0 then(if a0_1=0 then(some (0,14)) else(if a1=true then(some (a0_6,0)) else(some (a0_7,0)))) else(some (0,t145))))=some (r1,r2):=h
 clear h
 replace H:=Option.bind_eq_some_iff.mp H
 obtain⟨t145,A30,H⟩:=H
 replace H:(if t145=0 then(if a0_1=0 then(some (0,14)) else(if a1=true then(some (a0_6,0)) else(some (a0_7,0)))) else(some (0,t145)))=some (r1,r2):=H
 have A3:=zm A30
 clear A30
 by_cases c4:t145=0
 ·rw[if_pos c4] at H
  have c4b0:(t145==0)=true:=beq_iff_eq.mpr c4
  have c4b1:(t145 != 0)=false:=bne_eq_false_iff_eq.mpr c4
  clear c4
  by_cases c5:a0_1=0
  ·rw[if_pos c5] at H
   have c5b0:(a0_1==0)=true:=beq_iff_eq.mpr c5
   have c5b1:(a0_1 != 0)=false:=bne_eq_false_iff_eq.mpr c5
   clear c5
   simp only[Option.some.injEq,Prod.mk.injEq] at H
   obtain⟨rfl,rfl⟩:=H
   go_enter Try.func78,Try.ntmps78
   go_wp2_with (first|((with_reducible refine gate_dst (N:=2) rfl ?_);refine box_event ?hg (N:=2) ?hd (cs:=#[.string a0_0,.int .i64 a0_1,.int .i64 a0_2,.int .i64 a0_3,.int .i64 a0_4,.int .i64 a0_5,.int .i64 a0_6,.int .i64 a0_7,.slice A0_8 l0_8.length c0_8]) (t:=28) ?hr ?_;(case hd=>rfl);(case hg=>rfl);(case hr=>first|(go_simp;done)|(go_simp;rfl));intro gb144 hg w6 hbox hb;have n0_:=zm (below_step (by repeat(first|(with_reducible first|exact HB.out|apply zA|apply zD|apply zE)|exact HB.out)) hb);have n1_:=zm (hbox);have n2_:=zm ((by rw[hg];exact(below_size (by repeat(first|(with_reducible first|exact HB.out|apply zA|apply zD|apply zE)|exact HB.out))):w.heap.size≤gb144));have n3_:=zm ((by rw[hg];exact(below_size (by repeat(first|(with_reducible first|exact HB.out|apply zA|apply zD|apply zE)|exact HB.out))):w.heap.size≤gb144));clear HB;have HB:=n0_;have BK144:=n1_;have GW144:=n2_;have GE144:=n3_;clear n0_ n1_ n2_ n3_;clear hb hbox hg;have hcz7_0:=zc BK144.out 0 (.string a0_0) rfl;have hcz7_1:=zc BK144.out 1 (.int .i64 a0_1) rfl;have hcz7_2:=zc BK144.out 2 (.int .i64 a0_2) rfl;have hcz7_3:=zc BK144.out 3 (.int .i64 a0_3) rfl;have hcz7_4:=zc BK144.out 4 (.int .i64 a0_4) rfl;have hcz7_5:=zc BK144.out 5 (.int .i64 a0_5) rfl;have hcz7_6:=zc BK144.out 6 (.int .i64 a0_6) rfl;have hcz7_7:=zc BK144.out 7 (.int .i64 a0_7) rfl;have hcz7_8:=zc BK144.out 8 (.slice A0_8 l0_8.length c0_8) rfl;have hfz7_0:=zf BK144.out 0;have hfz7_1:=zf BK144.out 1;have hfz7_2:=zf BK144.out 2;have hfz7_3:=zf BK144.out 3;have hfz7_4:=zf BK144.out 4;have hfz7_5:=zf BK144.out 5;have hfz7_6:=zf BK144.out 6;have hfz7_7:=zf BK144.out 7;have hfz7_8:=zf BK144.out 8)|((with_reducible refine gate_callee (f:=29) rfl ?_);refine goesL_ (some 8) rfl rfl Try.func29 (by kernel_rfl) rfl #[.agg #[.string a0_0,.int .i64 a0_1,.int .i64 a0_2,.int .i64 a0_3,.int .i64 a0_4,.int .i64 a0_5,.int .i64 a0_6,.int .i64 a0_7,.slice A0_8 l0_8.length c0_8]] rfl (by(try simp only[List.map_toArray,List.map_cons,List.map_nil]);first|done|rfl|(simp only[List.length_drop,List.length_take];rfl)) ?_;(with_reducible refine(fe_Check.calls k a0_0 a0_1 a0_2 a0_3 a0_4 a0_5 a0_6 a0_7 _ _ l0_8 t145 _ ?side1 ?side2 A3.out).mono ?_);(case side1=>repeat(first|exact(Kd.C_below HR0_8.out HB.out)|(with_reducible refine Kd.C_alloc ?_ _)|(with_reducible refine Kd.C_drewN ?_ _)|(with_reducible refine Kd.C_drew ?_)));(case side2=>exact HC0_8.out);rintro e w8 ⟨rfl,hb⟩;refine⟨_,rfl,?_⟩;have n0_:=zm (zb (g:=gb144) (o:=.cells #[.string a0_0,.int .i64 a0_1,.int .i64 a0_2,.int .i64 a0_3,.int .i64 a0_4,.int .i64 a0_5,.int .i64 a0_6,.int .i64 a0_7,.slice A0_8 l0_8.length c0_8] 28 (0,0)) (by(with_reducible repeat first|apply zd|apply ze|apply za);exact BK144.out) hb);have n1_:=zm (below_step (by repeat(first|(with_reducible first|exact HB.out|apply zA|apply zD|apply zE|refine zS ?_ GE144.out)|exact HB.out)) hb);clear BK144 HB;have BK144:=n0_;have HB:=n1_;clear n0_ n1_;(try clear hb);(try clear hb2);(try clear hk);(try clear hi);have hcz9_0:=zc BK144.out 0 (.string a0_0) rfl;have hcz9_1:=zc BK144.out 1 (.int .i64 a0_1) rfl;have hcz9_2:=zc BK144.out 2 (.int .i64 a0_2) rfl;have hcz9_3:=zc BK144.out 3 (.int .i64 a0_3) rfl;have hcz9_4:=zc BK144.out 4 (.int .i64 a0_4) rfl;have hcz9_5:=zc BK144.out 5 (.int .i64 a0_5) rfl;have hcz9_6:=zc BK144.out 6 (.int .i64 a0_6) rfl;have hcz9_7:=zc BK144.out 7 (.int .i64 a0_7) rfl;have hcz9_8:=zc BK144.out 8 (.slice A0_8 l0_8.length c0_8) rfl;have hfz9_0:=zf BK144.out 0;have hfz9_1:=zf BK144.out 1;have hfz9_2:=zf BK144.out 2;have hfz9_3:=zf BK144.out 3;have hfz9_4:=zf BK144.out 4;have hfz9_5:=zf BK144.out 5;have hfz9_6:=zf BK144.out 6;have hfz9_7:=zf BK144.out 7;have hfz9_8:=zf BK144.out 8))
   go_ret2
   exact⟨by first|rfl|(simp[errW_none,errW_some]<;>rfl)|(simp[*,errW_none,errW_some]<;>rfl),by repeat(first|(with_reducible first|exact HB.out|apply zA|apply zD|apply zE|refine zS ?_ GE144.out)|exact HB.out)⟩
  ·rw[if_neg c5] at H
   have c5b0:(a0_1==0)=false:=beq_eq_false_iff_ne.mpr c5
   have c5b1:(a0_1 != 0)=true:=bne_iff_ne.mpr c5
   by_cases c10:a1=true
   ·subst c10
    have H1:(some (a0_6,0))=some (r1,r2):=by rw[if_pos rfl] at H;exact H
    clear H
    have H:=H1
    clear H1
    simp only[Option.some.injEq,Prod.mk.injEq] at H
    obtain⟨rfl,rfl⟩:=H
    go_enter Try.func78,Try.ntmps78
    go_wp2_with (first|((with_reducible refine gate_dst (N:=2) rfl ?_);refine box_event ?hg (N:=2) ?hd (cs:=#[.string a0_0,.int .i64 a0_1,.int .i64 a0_2,.int .i64 a0_3,.int .i64 a0_4,.int .i64 a0_5,.int .i64 a0_6,.int .i64 a0_7,.slice A0_8 l0_8.length c0_8]) (t:=28) ?hr ?_;(case hd=>rfl);(case hg=>rfl);(case hr=>first|(go_simp;done)|(go_simp;rfl));intro gb144 hg w11 hbox hb;have n0_:=zm (below_step (by repeat(first|(with_reducible first|exact HB.out|apply zA|apply zD|apply zE)|exact HB.out)) hb);have n1_:=zm (hbox);have n2_:=zm ((by rw[hg];exact(below_size (by repeat(first|(with_reducible first|exact HB.out|apply zA|apply zD|apply zE)|exact HB.out))):w.heap.size≤gb144));have n3_:=zm ((by rw[hg];exact(below_size (by repeat(first|(with_reducible first|exact HB.out|apply zA|apply zD|apply zE)|exact HB.out))):w.heap.size≤gb144));clear HB;have HB:=n0_;have BK144:=n1_;have GW144:=n2_;have GE144:=n3_;clear n0_ n1_ n2_ n3_;clear hb hbox hg;have hcz12_0:=zc BK144.out 0 (.string a0_0) rfl;have hcz12_1:=zc BK144.out 1 (.int .i64 a0_1) rfl;have hcz12_2:=zc BK144.out 2 (.int .i64 a0_2) rfl;have hcz12_3:=zc BK144.out 3 (.int .i64 a0_3) rfl;have hcz12_4:=zc BK144.out 4 (.int .i64 a0_4) rfl;have hcz12_5:=zc BK144.out 5 (.int .i64 a0_5) rfl;have hcz12_6:=zc BK144.out 6 (.int .i64 a0_6) rfl;have hcz12_7:=zc BK144.out 7 (.int .i64 a0_7) rfl;have hcz12_8:=zc BK144.out 8 (.slice A0_8 l0_8.length c0_8) rfl;have hfz12_0:=zf BK144.out 0;have hfz12_1:=zf BK144.out 1;have hfz12_2:=zf BK144.out 2;have hfz12_3:=zf BK144.out 3;have hfz12_4:=zf BK144.out 4;have hfz12_5:=zf BK144.out 5;have hfz12_6:=zf BK144.out 6;have hfz12_7:=zf BK144.out 7;have hfz12_8:=zf BK144.out 8)|((with_reducible refine gate_callee (f:=29) rfl ?_);refine goesL_ (some 8) rfl rfl Try.func29 (by kernel_rfl) rfl #[.agg #[.string a0_0,.int .i64 a0_1,.int .i64 a0_2,.int .i64 a0_3,.int .i64 a0_4,.int .i64 a0_5,.int .i64 a0_6,.int .i64 a0_7,.slice A0_8 l0_8.length c0_8]] rfl (by(try simp only[List.map_toArray,List.map_cons,List.map_nil]);first|done|rfl|(simp only[List.length_drop,List.length_take];rfl)) ?_;(with_reducible refine(fe_Check.calls k a0_0 a0_1 a0_2 a0_3 a0_4 a0_5 a0_6 a0_7 _ _ l0_8 t145 _ ?side1 ?side2 A3.out).mono ?_);(case side1=>repeat(first|exact(Kd.C_below HR0_8.out HB.out)|(with_reducible refine Kd.C_alloc ?_ _)|(with_reducible refine Kd.C_drewN ?_ _)|(with_reducible refine Kd.C_drew ?_)));(case side2=>exact HC0_8.out);rintro e w13 ⟨rfl,hb⟩;refine⟨_,rfl,?_⟩;have n0_:=zm (zb (g:=gb144) (o:=.cells #[.string a0_0,.int .i64 a0_1,.int .i64 a0_2,.int .i64 a0_3,.int .i64 a0_4,.int .i64 a0_5,.int .i64 a0_6,.int .i64 a0_7,.slice A0_8 l0_8.length c0_8] 28 (0,0)) (by(with_reducible repeat first|apply zd|apply ze|apply za);exact BK144.out) hb);have n1_:=zm (below_step (by repeat(first|(with_reducible first|exact HB.out|apply zA|apply zD|apply zE|refine zS ?_ GE144.out)|exact HB.out)) hb);clear BK144 HB;have BK144:=n0_;have HB:=n1_;clear n0_ n1_;(try clear hb);(try clear hb2);(try clear hk);(try clear hi);have hcz14_0:=zc BK144.out 0 (.string a0_0) rfl;have hcz14_1:=zc BK144.out 1 (.int .i64 a0_1) rfl;have hcz14_2:=zc BK144.out 2 (.int .i64 a0_2) rfl;have hcz14_3:=zc BK144.out 3 (.int .i64 a0_3) rfl;have hcz14_4:=zc BK144.out 4 (.int .i64 a0_4) rfl;have hcz14_5:=zc BK144.out 5 (.int .i64 a0_5) rfl;have hcz14_6:=zc BK144.out 6 (.int .i64 a0_6) rfl;have hcz14_7:=zc BK144.out 7 (.int .i64 a0_7) rfl;have hcz14_8:=zc BK144.out 8 (.slice A0_8 l0_8.length c0_8) rfl;have hfz14_0:=zf BK144.out 0;have hfz14_1:=zf BK144.out 1;have hfz14_2:=zf BK144.out 2;have hfz14_3:=zf BK144.out 3;have hfz14_4:=zf BK144.out 4;have hfz14_5:=zf BK144.out 5;have hfz14_6:=zf BK144.out 6;have hfz14_7:=zf BK144.out 7;have hfz14_8:=zf BK144.out 8))
    go_ret2
    exact⟨by first|rfl|(simp[errW_none,errW_some]<;>rfl)|(simp[*,errW_none,errW_some]<;>rfl),by repeat(first|(with_reducible first|exact HB.out|apply zA|apply zD|apply zE|refine zS ?_ GE144.out)|exact HB.out)⟩
   ·replace c10:=Bool.eq_false_iff.mpr c10
    subst c10
    have H1:(some (a0_7,0))=some (r1,r2):=by rw[if_neg (show ¬(false=true) by decide)] at H;exact H
    clear H
    have H:=H1
    clear H1
    simp only[Option.some.injEq,Prod.mk.injEq] at H
    obtain⟨rfl,rfl⟩:=H
    go_enter Try.func78,Try.ntmps78
    go_wp2_with (first|((with_reducible refine gate_dst (N:=2) rfl ?_);refine box_event ?hg (N:=2) ?hd (cs:=#[.string a0_0,.int .i64 a0_1,.int .i64 a0_2,.int .i64 a0_3,.int .i64 a0_4,.int .i64 a0_5,.int .i64 a0_6,.int .i64 a0_7,.slice A0_8 l0_8.length c0_8]) (t:=28) ?hr ?_;(case hd=>rfl);(case hg=>rfl);(case hr=>first|(go_simp;done)|(go_simp;rfl));intro gb144 hg w15 hbox hb;have n0_:=zm (below_step (by repeat(first|(with_reducible first|exact HB.out|apply zA|apply zD|apply zE)|exact HB.out)) hb);have n1_:=zm (hbox);have n2_:=zm ((by rw[hg];exact(below_size (by repeat(first|(with_reducible first|exact HB.out|apply zA|apply zD|apply zE)|exact HB.out))):w.heap.size≤gb144));have n3_:=zm ((by rw[hg];exact(below_size (by repeat(first|(with_reducible first|exact HB.out|apply zA|apply zD|apply zE)|exact HB.out))):w.heap.size≤gb144));clear HB;have HB:=n0_;have BK144:=n1_;have GW144:=n2_;have GE144:=n3_;clear n0_ n1_ n2_ n3_;clear hb hbox hg;have hcz16_0:=zc BK144.out 0 (.string a0_0) rfl;have hcz16_1:=zc BK144.out 1 (.int .i64 a0_1) rfl;have hcz16_2:=zc BK144.out 2 (.int .i64 a0_2) rfl;have hcz16_3:=zc BK144.out 3 (.int .i64 a0_3) rfl;have hcz16_4:=zc BK144.out 4 (.int .i64 a0_4) rfl;have hcz16_5:=zc BK144.out 5 (.int .i64 a0_5) rfl;have hcz16_6:=zc BK144.out 6 (.int .i64 a0_6) rfl;have hcz16_7:=zc BK144.out 7 (.int .i64 a0_7) rfl;have hcz16_8:=zc BK144.out 8 (.slice A0_8 l0_8.length c0_8) rfl;have hfz16_0:=zf BK144.out 0;have hfz16_1:=zf BK144.out 1;have hfz16_2:=zf BK144.out 2;have hfz16_3:=zf BK144.out 3;have hfz16_4:=zf BK144.out 4;have hfz16_5:=zf BK144.out 5;have hfz16_6:=zf BK144.out 6;have hfz16_7:=zf BK144.out 7;have hfz16_8:=zf BK144.out 8)|((with_reducible refine gate_callee (f:=29) rfl ?_);refine goesL_ (some 8) rfl rfl Try.func29 (by kernel_rfl) rfl #[.agg #[.string a0_0,.int .i64 a0_1,.int .i64 a0_2,.int .i64 a0_3,.int .i64 a0_4,.int .i64 a0_5,.int .i64 a0_6,.int .i64 a0_7,.slice A0_8 l0_8.length c0_8]] rfl (by(try simp only[List.map_toArray,List.map_cons,List.map_nil]);first|done|rfl|(simp only[List.length_drop,List.length_take];rfl)) ?_;(with_reducible refine(fe_Check.calls k a0_0 a0_1 a0_2 a0_3 a0_4 a0_5 a0_6 a0_7 _ _ l0_8 t145 _ ?side1 ?side2 A3.out).mono ?_);(case side1=>repeat(first|exact(Kd.C_below HR0_8.out HB.out)|(with_reducible refine Kd.C_alloc ?_ _)|(with_reducible refine Kd.C_drewN ?_ _)|(with_reducible refine Kd.C_drew ?_)));(case side2=>exact HC0_8.out);rintro e w17 ⟨rfl,hb⟩;refine⟨_,rfl,?_⟩;have n0_:=zm (zb (g:=gb144) (o:=.cells #[.string a0_0,.int .i64 a0_1,.int .i64 a0_2,.int .i64 a0_3,.int .i64 a0_4,.int .i64 a0_5,.int .i64 a0_6,.int .i64 a0_7,.slice A0_8 l0_8.length c0_8] 28 (0,0)) (by(with_reducible repeat first|apply zd|apply ze|apply za);exact BK144.out) hb);have n1_:=zm (below_step (by repeat(first|(with_reducible first|exact HB.out|apply zA|apply zD|apply zE|refine zS ?_ GE144.out)|exact HB.out)) hb);clear BK144 HB;have BK144:=n0_;have HB:=n1_;clear n0_ n1_;(try clear hb);(try clear hb2);(try clear hk);(try clear hi);have hcz18_0:=zc BK144.out 0 (.string a0_0) rfl;have hcz18_1:=zc BK144.out 1 (.int .i64 a0_1) rfl;have hcz18_2:=zc BK144.out 2 (.int .i64 a0_2) rfl;have hcz18_3:=zc BK144.out 3 (.int .i64 a0_3) rfl;have hcz18_4:=zc BK144.out 4 (.int .i64 a0_4) rfl;have hcz18_5:=zc BK144.out 5 (.int .i64 a0_5) rfl;have hcz18_6:=zc BK144.out 6 (.int .i64 a0_6) rfl;have hcz18_7:=zc BK144.out 7 (.int .i64 a0_7) rfl;have hcz18_8:=zc BK144.out 8 (.slice A0_8 l0_8.length c0_8) rfl;have hfz18_0:=zf BK144.out 0;have hfz18_1:=zf BK144.out 1;have hfz18_2:=zf BK144.out 2;have hfz18_3:=zf BK144.out 3;have hfz18_4:=zf BK144.out 4;have hfz18_5:=zf BK144.out 5;have hfz18_6:=zf BK144.out 6;have hfz18_7:=zf BK144.out 7;have hfz18_8:=zf BK144.out 8))
    go_ret2
    exact⟨by first|rfl|(simp[errW_none,errW_some]<;>rfl)|(simp[*,errW_none,errW_some]<;>rfl),by repeat(first|(with_reducible first|exact HB.out|apply zA|apply zD|apply zE|refine zS ?_ GE144.out)|exact HB.out)⟩
 ·rw[if_neg c4] at H
  have c4b0:(t145==0)=false:=beq_eq_false_iff_ne.mpr c4
  have c4b1:(t145 != 0)=true:=bne_iff_ne.mpr c4
  simp only[Option.some.injEq,Prod.mk.injEq] at H
  obtain⟨rfl,rfl⟩:=H
  go_enter Try.func78,Try.ntmps78
  go_wp2_with (first|((with_reducible refine gate_dst (N:=2) rfl ?_);refine box_event ?hg (N:=2) ?hd (cs:=#[.string a0_0,.int .i64 a0_1,.int .i64 a0_2,.int .i64 a0_3,.int .i64 a0_4,.int .i64 a0_5,.int .i64 a0_6,.int .i64 a0_7,.slice A0_8 l0_8.length c0_8]) (t:=28) ?hr ?_;(case hd=>rfl);(case hg=>rfl);(case hr=>first|(go_simp;done)|(go_simp;rfl));intro gb144 hg w19 hbox hb;have n0_:=zm (below_step (by repeat(first|(with_reducible first|exact HB.out|apply zA|apply zD|apply zE)|exact HB.out)) hb);have n1_:=zm (hbox);have n2_:=zm ((by rw[hg];exact(below_size (by repeat(first|(with_reducible first|exact HB.out|apply zA|apply zD|apply zE)|exact HB.out))):w.heap.size≤gb144));have n3_:=zm ((by rw[hg];exact(below_size (by repeat(first|(with_reducible first|exact HB.out|apply zA|apply zD|apply zE)|exact HB.out))):w.heap.size≤gb144));clear HB;have HB:=n0_;have BK144:=n1_;have GW144:=n2_;have GE144:=n3_;clear n0_ n1_ n2_ n3_;clear hb hbox hg;have hcz20_0:=zc BK144.out 0 (.string a0_0) rfl;have hcz20_1:=zc BK144.out 1 (.int .i64 a0_1) rfl;have hcz20_2:=zc BK144.out 2 (.int .i64 a0_2) rfl;have hcz20_3:=zc BK144.out 3 (.int .i64 a0_3) rfl;have hcz20_4:=zc BK144.out 4 (.int .i64 a0_4) rfl;have hcz20_5:=zc BK144.out 5 (.int .i64 a0_5) rfl;have hcz20_6:=zc BK144.out 6 (.int .i64 a0_6) rfl;have hcz20_7:=zc BK144.out 7 (.int .i64 a0_7) rfl;have hcz20_8:=zc BK144.out 8 (.slice A0_8 l0_8.length c0_8) rfl;have hfz20_0:=zf BK144.out 0;have hfz20_1:=zf BK144.out 1;have hfz20_2:=zf BK144.out 2;have hfz20_3:=zf BK144.out 3;have hfz20_4:=zf BK144.out 4;have hfz20_5:=zf BK144.out 5;have hfz20_6:=zf BK144.out 6;have hfz20_7:=zf BK144.out 7;have hfz20_8:=zf BK144.out 8)|((with_reducible refine gate_callee (f:=29) rfl ?_);refine goesL_ (some 8) rfl rfl Try.func29 (by kernel_rfl) rfl #[.agg #[.string a0_0,.int .i64 a0_1,.int .i64 a0_2,.int .i64 a0_3,.int .i64 a0_4,.int .i64 a0_5,.int .i64 a0_6,.int .i64 a0_7,.slice A0_8 l0_8.length c0_8]] rfl (by(try simp only[List.map_toArray,List.map_cons,List.map_nil]);first|done|rfl|(simp only[List.length_drop,List.length_take];rfl)) ?_;(with_reducible refine(fe_Check.calls k a0_0 a0_1 a0_2 a0_3 a0_4 a0_5 a0_6 a0_7 _ _ l0_8 t145 _ ?side1 ?side2 A3.out).mono ?_);(case side1=>repeat(first|exact(Kd.C_below HR0_8.out HB.out)|(with_reducible refine Kd.C_alloc ?_ _)|(with_reducible refine Kd.C_drewN ?_ _)|(with_reducible refine Kd.C_drew ?_)));(case side2=>exact HC0_8.out);rintro e w21 ⟨rfl,hb⟩;refine⟨_,rfl,?_⟩;have n0_:=zm (zb (g:=gb144) (o:=.cells #[.string a0_0,.int .i64 a0_1,.int .i64 a0_2,.int .i64 a0_3,.int .i64 a0_4,.int .i64 a0_5,.int .i64 a0_6,.int .i64 a0_7,.slice A0_8 l0_8.length c0_8] 28 (0,0)) (by(with_reducible repeat first|apply zd|apply ze|apply za);exact BK144.out) hb);have n1_:=zm (below_step (by repeat(first|(with_reducible first|exact HB.out|apply zA|apply zD|apply zE|refine zS ?_ GE144.out)|exact HB.out)) hb);clear BK144 HB;have BK144:=n0_;have HB:=n1_;clear n0_ n1_;(try clear hb);(try clear hb2);(try clear hk);(try clear hi)))
  go_ret2
  exact⟨by first|rfl|(simp[errW_none,errW_some]<;>rfl)|(simp[*,errW_none,errW_some]<;>rfl),by repeat(first|(with_reducible first|exact HB.out|apply zA|apply zD|apply zE|refine zS ?_ GE144.out)|exact HB.out)⟩
def fe_Maximum.f (k:Nat) (a0_0:ByteArray) (a0_1 a0_2 a0_3 a0_4 a0_5 a0_6 a0_7:Int) (l0_8:List (S104)):Option (Int×Int):=(fe_inner.f a0_1).bind fun t147=>((fe_extreme.f k a0_0 a0_1 a0_2 a0_3 a0_4 a0_5 a0_6 a0_7 l0_8 t147).bind fun bt148=>(some (bt148.1,bt148.2)))
theorem fe_Maximum.mono:∀ a0 a1 a2 a3 a4 a5 a6 a7 a8 k,LeO (fe_Maximum.f k a0 a1 a2 a3 a4 a5 a6 a7 a8) (fe_Maximum.f (k+1) a0 a1 a2 a3 a4 a5 a6 a7 a8):=by
 intro a0 a1 a2 a3 a4 a5 a6 a7 a8 k
 unfold fe_Maximum.f
 repeat' first
  | (with_reducible exact fe_extreme.mono _ _ _ _ _ _ _ _ _ _ _)
  | (with_reducible exact LeO.refl _)
  | (with_reducible exact LeO.none _)
  | (with_reducible refine LeO.ite ?_ ?_)
  | (with_reducible refine LeO.bind ?_ (fun _=>?_))
  | exact fe_extreme.mono _ _ _ _ _ _ _ _ _ _ _
  | exact LeO.none _
  | refine LeO.ite ?_ ?_
  | refine LeO.bind ?_ (fun _=>?_)
def fe_Maximum.T1:Bool×List (List Nat×List Nat):=(true,[([],[]),([],[]),([1],[1]),([2],[2]),([0,3,3],[0,3]),([4],[4]),([4],[4]),([5,4,0,1,2,3,4,5,6],[5]),([6,7,0,1,2,3,4,5,6,7],[6])])
def fe_Maximum.B1:List Nat:=[0,0,2,6,15,31,31,127,255]
theorem fe_Maximum.tab1:rtab .any (opsOf Try.f25 1)=fe_Maximum.T1:=by kernel_rfl
theorem fe_Maximum.bits1:waitsOk fe_Maximum.T1.2 fe_Maximum.B1=true:=by kernel_rfl
set_option maxHeartbeats 8000000 in
set_option maxRecDepth 100000 in
theorem fe_Maximum.calls (k:Nat) (a0_0:ByteArray) (a0_1 a0_2 a0_3 a0_4 a0_5 a0_6 a0_7:Int) (A0_8:Option Addr) (c0_8:Nat) (l0_8:List (S104)) (r1 r2:Int) (w:World) (hr0_8:Kd.C k104 w A0_8 l0_8.length l0_8) (hc0_8:l0_8.length≤c0_8) (h:fe_Maximum.f k a0_0 a0_1 a0_2 a0_3 a0_4 a0_5 a0_6 a0_7 l0_8=some (r1,r2)):
 Calls Try.prog 25 #[.agg #[.string a0_0,.int .i64 a0_1,.int .i64 a0_2,.int .i64 a0_3,.int .i64 a0_4,.int .i64 a0_5,.int .i64 a0_6,.int .i64 a0_7,.slice A0_8 l0_8.length c0_8]] w fun e w'=>e=.returned (.tuple #[.int .i64 r1,.int .i64 r2])∧Below w.heap.size w w':=by
 have hu28:=Try.underlying28
 have HR0_8:=zm hr0_8
 have HC0_8:=zm hc0_8
 clear hr0_8 hc0_8
 have HB:=zm (Below.refl w.heap.size w)
 have H:((fe_inner.f a0_1).bind fun t147=>((fe_extreme.f k a0_0 a0_1 a0_2 a0_3 a0_4 a0_5 a0_6 a0_7 l0_8 t147).bind fun bt148=>(some (bt148.1,bt148.2))))=some (r1,r2):=h
 clear h
 replace H:=Option.bind_eq_some_iff.mp H
 obtain⟨t147,A20,H⟩:=H
 replace H:((fe_extreme.f k a0_0 a0_1 a0_2 a0_3 a0_4 a0_5 a0_6 a0_7 l0_8 t147).bind fun bt148=>(some (bt148.1,bt148.2)))=some (r1,r2):=H
 have A2:=zm A20
 clear A20
 replace H:=Option.bind_eq_some_iff.mp H
 obtain⟨⟨t148,t149⟩,A30,H⟩:=H
 replace H:(some (t148,t149))=some (r1,r2):=H
 have A3:=zm A30
 clear A30
 simp only[Option.some.injEq,Prod.mk.injEq] at H
 obtain⟨rfl,rfl⟩:=H
 go_enter Try.func25,Try.ntmps25
 try go_wp2_with (first|((with_reducible refine gate_dst (N:=1) rfl ?_);refine box_event ?hg (N:=1) ?hd (cs:=#[.string a0_0,.int .i64 a0_1,.int .i64 a0_2,.int .i64 a0_3,.int .i64 a0_4,.int .i64 a0_5,.int .i64 a0_6,.int .i64 a0_7,.slice A0_8 l0_8.length c0_8]) (t:=28) ?hr ?_;(case hd=>rfl);(case hg=>rfl);(case hr=>first|(go_simp;done)|(go_simp;rfl));intro gb146 hg w4 hbox hb;have n0_:=zm (below_step (by repeat(first|(with_reducible first|exact HB.out|apply zA|apply zD|apply zE)|exact HB.out)) hb);have n1_:=zm (hbox);have n2_:=zm ((by rw[hg];exact(below_size (by repeat(first|(with_reducible first|exact HB.out|apply zA|apply zD|apply zE)|exact HB.out))):w.heap.size≤gb146));have n3_:=zm ((by rw[hg];exact(below_size (by repeat(first|(with_reducible first|exact HB.out|apply zA|apply zD|apply zE)|exact HB.out))):w.heap.size≤gb146));clear HB;have HB:=n0_;have BK146:=n1_;have GW146:=n2_;have GE146:=n3_;clear n0_ n1_ n2_ n3_;clear hb hbox hg))
 have n0_:=zm (ze BK146.out)
 have n1_:=zm (zE HB.out)
 clear BK146 HB
 have BK146:=n0_
 have HB:=n1_
 clear n0_ n1_
 refine start_ (n:=9) (S:=fun w'=>w'.cell? ⟨gb146,0,none⟩=some (.string a0_0)∧w'.cell? ⟨gb146,1,none⟩=some (.int .i64 a0_1)∧w'.cell? ⟨gb146,2,none⟩=some (.int .i64 a0_2)∧w'.cell? ⟨gb146,3,none⟩=some (.int .i64 a0_3)∧w'.cell? ⟨gb146,4,none⟩=some (.int .i64 a0_4)∧w'.cell? ⟨gb146,5,none⟩=some (.int .i64 a0_5)∧w'.cell? ⟨gb146,6,none⟩=some (.int .i64 a0_6)∧w'.cell? ⟨gb146,7,none⟩=some (.int .i64 a0_7)∧w'.cell? ⟨gb146,8,none⟩=some (.slice A0_8 l0_8.length c0_8)) (ds:=[]) #[false,false,false,false,false,false,false,false,false] (by kernel_rfl) rfl rfl ⟨(blk_cell BK146.out 0).trans rfl,(blk_cell BK146.out 1).trans rfl,(blk_cell BK146.out 2).trans rfl,(blk_cell BK146.out 3).trans rfl,(blk_cell BK146.out 4).trans rfl,(blk_cell BK146.out 5).trans rfl,(blk_cell BK146.out 6).trans rfl,(blk_cell BK146.out 7).trans rfl,(blk_cell BK146.out 8).trans rfl⟩ (fun hHeld=>?_);refine with_tabW fe_Maximum.tab1 fe_Maximum.bits1 (fun HT_ HW_=>?_)
 generalize w4.drew=w5 at BK146 HB hHeld ⊢
 refine pure_ (i:=1) (N:=some 5) (v:=?_) (a':=?_) #[false,true,false,false,false,false,false,false,false] rfl rfl (any_of HT_.out (by kernel_rfl)) (fun _ _ _ h=>h) (Or.inl ⟨by rfl,?_⟩) ?_ ?_
 rotate_left
 ·intro w'
  go_simp
  with_reducible rfl
 rotate_left
 ·simp only[Act.put,zx,zy,zz,i64_w,i32_w]
  rfl
 refine take_ (i:=0) (N:=some 4) (v:=?_) (a':=?_) #[true,true,false,false,false,false,false,false,false] rfl rfl (take_ofW HT_.out HW_.out (by kernel_rfl)) (fun _ _ _ h=>h) (Or.inl ⟨by rfl,?_⟩) hHeld ?_ ?_
 rotate_left
 ·rintro w' ⟨s0,s1,s2,s3,s4,s5,s6,s7,s8⟩
  go_simp
  with_reducible rfl
 rotate_left
 ·simp only[Act.put,zx,zy,zz,i64_w,i32_w]
  rfl
 refine take_ (i:=2) (N:=some 6) (v:=?_) (a':=?_) #[true,true,true,false,false,false,false,false,false] rfl rfl (take_ofW HT_.out HW_.out (by kernel_rfl)) (fun _ _ _ h=>h) (Or.inl ⟨by rfl,?_⟩) hHeld ?_ ?_
 rotate_left
 ·rintro w' ⟨s0,s1,s2,s3,s4,s5,s6,s7,s8⟩
  go_simp
  with_reducible rfl
 rotate_left
 ·simp only[Act.put,zx,zy,zz,i64_w,i32_w]
  rfl
 refine one_ (i:=3) (N:=some 7) #[true,true,true,true,false,false,false,false,false] rfl rfl (one_of HT_.out (by kernel_rfl)) (by decide) (fun K hK=>?_)
 refine goes_ Try.func76 (by kernel_rfl) rfl #[.int .i64 a0_1] (by rfl) rfl rfl (by(try simp only[List.map_toArray,List.map_cons,List.map_nil]);first|done|rfl|(simp only[List.length_drop,List.length_take];rfl)) ?_
 with_reducible refine(fe_inner.calls a0_1 t147 _ A2.out).mono ?_
 rintro e w' ⟨rfl,⟨nd,rfl⟩⟩
 refine⟨_,rfl,?_⟩
 refine hK.out _ _ ⟨(blk_cell BK146.out 0).trans rfl,(blk_cell BK146.out 1).trans rfl,(blk_cell BK146.out 2).trans rfl,(blk_cell BK146.out 3).trans rfl,(blk_cell BK146.out 4).trans rfl,(blk_cell BK146.out 5).trans rfl,(blk_cell BK146.out 6).trans rfl,(blk_cell BK146.out 7).trans rfl,(blk_cell BK146.out 8).trans rfl⟩ (fun hHeld=>?_)
 clear hK K
 refine norm_ (a':=?_) ?_ ?_
 rotate_left
 ·show Act.put _ (some 7) _=_
  simp only[Act.put,zx,zy,zz,i64_w,i32_w]
  rfl
 refine one_ (i:=4) (N:=some 8) #[true,true,true,true,true,false,false,false,false] rfl rfl (one_of HT_.out (by kernel_rfl)) (by decide) (fun K hK=>?_)
 refine goes_ Try.func78 (by kernel_rfl) rfl #[.agg #[.string a0_0,.int .i64 a0_1,.int .i64 a0_2,.int .i64 a0_3,.int .i64 a0_4,.int .i64 a0_5,.int .i64 a0_6,.int .i64 a0_7,.slice A0_8 l0_8.length c0_8],.bool t147] (by rfl) rfl rfl (by(try simp only[List.map_toArray,List.map_cons,List.map_nil]);first|done|rfl|(simp only[List.length_drop,List.length_take];rfl)) ?_
 with_reducible refine(fe_extreme.calls k a0_0 a0_1 a0_2 a0_3 a0_4 a0_5 a0_6 a0_7 _ _ l0_8 t147 t148 t149 _ ?side1 ?side2 A3.out).mono ?_
 (case side1=>repeat(first|exact(Kd.C_below HR0_8.out (by repeat(first|(with_reducible first|exact HB.out|apply zA|apply zD|apply zE|refine zS ?_ GE146.out)|exact HB.out)))|(with_reducible refine Kd.C_alloc ?_ _)|(with_reducible refine Kd.C_drewN ?_ _)|(with_reducible refine Kd.C_drew ?_)))
 (case side2=>exact HC0_8.out)
 rintro e w6 ⟨rfl,hb⟩
 refine⟨_,rfl,?_⟩
 have n0_:=zm (zb (g:=gb146) (by(with_reducible repeat first|apply zd|apply ze|apply za);exact BK146.out) hb)
 have n1_:=zm (below_step (by repeat(first|(with_reducible first|exact HB.out|apply zA|apply zD|apply zE|refine zS ?_ GE146.out)|exact HB.out)) hb)
 clear BK146 HB
 have BK146:=n0_
 have HB:=n1_
 clear n0_ n1_
 (try clear hb)
 (try clear hb2)
 (try clear hk)
 (try clear hi)
 refine hK.out _ _ ⟨(blk_cell BK146.out 0).trans rfl,(blk_cell BK146.out 1).trans rfl,(blk_cell BK146.out 2).trans rfl,(blk_cell BK146.out 3).trans rfl,(blk_cell BK146.out 4).trans rfl,(blk_cell BK146.out 5).trans rfl,(blk_cell BK146.out 6).trans rfl,(blk_cell BK146.out 7).trans rfl,(blk_cell BK146.out 8).trans rfl⟩ (fun hHeld=>?_)
 clear hK K
 refine norm_ (a':=?_) ?_ ?_
 rotate_left
 ·show Act.put _ (some 8) _=_
  simp only[Act.put,zx,zy,zz,i64_w,i32_w]
  rfl
 refine pure_ (i:=5) (N:=some 9) (v:=?_) (a':=?_) #[true,true,true,true,true,true,false,false,false] rfl rfl (any_of HT_.out (by kernel_rfl)) (fun _ _ _ h=>h) (Or.inl ⟨by rfl,?_⟩) ?_ ?_
 rotate_left
 ·intro w'
  go_simp
  with_reducible rfl
 rotate_left
 ·simp only[Act.put,zx,zy,zz,i64_w,i32_w]
  rfl
 refine pure_ (i:=6) (N:=some 10) (v:=?_) (a':=?_) #[true,true,true,true,true,true,true,false,false] rfl rfl (any_of HT_.out (by kernel_rfl)) (fun _ _ _ h=>h) (Or.inl ⟨by rfl,?_⟩) ?_ ?_
 rotate_left
 ·intro w'
  go_simp
  with_reducible rfl
 rotate_left
 ·simp only[Act.put,zx,zy,zz,i64_w,i32_w]
  rfl
 refine pure_ (i:=7) (N:=some 2) (v:=?_) (a':=?_) #[true,true,true,true,true,true,true,true,false] rfl rfl (any_of HT_.out (by kernel_rfl)) (fun _ _ _ h=>h) (Or.inl ⟨by rfl,?_⟩) ?_ ?_
 rotate_left
 ·intro w'
  go_simp
  with_reducible rfl
 rotate_left
 ·simp only[Act.put,zx,zy,zz,i64_w,i32_w]
  rfl
 refine pure_ (i:=8) (N:=some 3) (v:=?_) (a':=?_) #[true,true,true,true,true,true,true,true,true] rfl rfl (any_of HT_.out (by kernel_rfl)) (fun _ _ _ h=>h) (Or.inl ⟨by rfl,?_⟩) ?_ ?_
 rotate_left
 ·intro w'
  go_simp
  with_reducible rfl
 rotate_left
 ·simp only[Act.put,zx,zy,zz,i64_w,i32_w]
  rfl
 refine done_ (done_of HT_.out (by kernel_rfl)) ?_
 try go_wp2
 go_ret2
 exact⟨by first|rfl|(simp[errW_none,errW_some]<;>rfl)|(simp[*,errW_none,errW_some]<;>rfl),by repeat(first|(with_reducible first|exact HB.out|apply zA|apply zD|apply zE|refine zS ?_ GE146.out)|exact HB.out)⟩
def ml_Hole.f :Option (ByteArray×Int×Int×Int×Int×Int×Int×Int×(List (S104))):=some ((⟨#[72]⟩:ByteArray),1,2,5000,0,0,1000,1011,([]:List (S104)))
set_option maxHeartbeats 8000000 in
set_option maxRecDepth 100000 in
theorem ml_Hole.calls  (r1:ByteArray) (r2 r3 r4 r5 r6 r7 r8:Int) (r9:List (S104)) (w:World) (h:ml_Hole.f =some (r1,r2,r3,r4,r5,r6,r7,r8,r9)):
    Calls Try.prog 67 #[] w fun e w'=>∃ v8_:Value,e=.returned (.agg #[.string r1,.int .i64 r2,.int .i64 r3,.int .i64 r4,.int .i64 r5,.int .i64 r6,.int .i64 r7,.int .i64 r8,v8_])∧Kd.S k104 104 w' w.heap.size (fun _=>True) v8_ r9∧Below w.heap.size w w':=by
  have hu28:=Try.underlying28
  have hu23:=Try.underlying23
  have hu25:=Try.underlying25
  have HB:=Aside0.mk (Below.refl w.heap.size w)
  have H:(some ((⟨#[72]⟩:ByteArray),1,2,5000,0,0,1000,1011,([]:List (S104))))=some (r1,r2,r3,r4,r5,r6,r7,r8,r9):=h
  clear h
  simp only[Option.some.injEq,Prod.mk.injEq] at H
  obtain⟨rfl,rfl,rfl,rfl,rfl,rfl,rfl,rfl,rfl⟩:=H
  go_enter Try.func67,Try.ntmps67
  go_wp2_with (first|((with_reducible refine gate_dst (N:=0) rfl ?_);refine box_event ?hg (N:=0) ?hd (cs:=#[.string (⟨#[]⟩:ByteArray),.int .i64 0,.int .i64 0,.int .i64 0,.int .i64 0,.int .i64 0,.int .i64 0,.int .i64 0,.slice none 0 0]) (t:=28) ?hr ?_;(case hd=>rfl);(case hg=>rfl);(case hr=>first|(go_simp;done)|(go_simp;rfl));intro gb150 hg w1 hbox hb;have n0_:=Aside0.mk (below_step (by repeat(first|(with_reducible first|exact HB.out|apply below_alloc|apply pw_below_drewN|apply below_drew1)|exact HB.out)) hb);have n1_:=Aside0.mk (hbox);have n2_:=Aside0.mk ((by rw[hg];exact(below_size (by repeat(first|(with_reducible first|exact HB.out|apply below_alloc|apply pw_below_drewN|apply below_drew1)|exact HB.out))):w.heap.size≤gb150));have n3_:=Aside0.mk ((by rw[hg];exact(below_size (by repeat(first|(with_reducible first|exact HB.out|apply below_alloc|apply pw_below_drewN|apply below_drew1)|exact HB.out))):w.heap.size≤gb150));clear HB;have HB:=n0_;have BK150:=n1_;have GW150:=n2_;have GE150:=n3_;clear n0_ n1_ n2_ n3_;clear hb hbox hg;have hcz2_0:w1.cell? ⟨gb150,0,none⟩=some (.string (⟨#[]⟩:ByteArray)):=(blk_cell BK150.out 0).trans rfl;have hcz2_1:w1.cell? ⟨gb150,1,none⟩=some (.int .i64 0):=(blk_cell BK150.out 1).trans rfl;have hcz2_2:w1.cell? ⟨gb150,2,none⟩=some (.int .i64 0):=(blk_cell BK150.out 2).trans rfl;have hcz2_3:w1.cell? ⟨gb150,3,none⟩=some (.int .i64 0):=(blk_cell BK150.out 3).trans rfl;have hcz2_4:w1.cell? ⟨gb150,4,none⟩=some (.int .i64 0):=(blk_cell BK150.out 4).trans rfl;have hcz2_5:w1.cell? ⟨gb150,5,none⟩=some (.int .i64 0):=(blk_cell BK150.out 5).trans rfl;have hcz2_6:w1.cell? ⟨gb150,6,none⟩=some (.int .i64 0):=(blk_cell BK150.out 6).trans rfl;have hcz2_7:w1.cell? ⟨gb150,7,none⟩=some (.int .i64 0):=(blk_cell BK150.out 7).trans rfl;have hcz2_8:w1.cell? ⟨gb150,8,none⟩=some (.slice none 0 0):=(blk_cell BK150.out 8).trans rfl;have hfz2_0:=blk_frozen BK150.out 0;have hfz2_1:=blk_frozen BK150.out 1;have hfz2_2:=blk_frozen BK150.out 2;have hfz2_3:=blk_frozen BK150.out 3;have hfz2_4:=blk_frozen BK150.out 4;have hfz2_5:=blk_frozen BK150.out 5;have hfz2_6:=blk_frozen BK150.out 6;have hfz2_7:=blk_frozen BK150.out 7;have hfz2_8:=blk_frozen BK150.out 8))
  refine bodyPost_ret (results_cell_row rfl _ _ gb150 28 #[.string (⟨#[72]⟩:ByteArray),.int .i64 1,.int .i64 2,.int .i64 5000,.int .i64 0,.int .i64 0,.int .i64 1000,.int .i64 1011,.slice none 0 0] (0,0) _ rfl (by(with_reducible repeat(first|refine blk_drewN ?_ _|refine blk_drew ?_|refine blk_alloc ?_ _));refine blk_put (cs:=#[.string (⟨#[72]⟩:ByteArray),.int .i64 1,.int .i64 2,.int .i64 5000,.int .i64 0,.int .i64 0,.int .i64 1000,.int .i64 1011,.slice none 0 0]) ?_ 8 _ rfl;(with_reducible repeat(first|refine blk_drewN ?_ _|refine blk_drew ?_|refine blk_alloc ?_ _));refine blk_put (cs:=#[.string (⟨#[72]⟩:ByteArray),.int .i64 1,.int .i64 2,.int .i64 5000,.int .i64 0,.int .i64 0,.int .i64 1000,.int .i64 0,.slice none 0 0]) ?_ 7 _ rfl;(with_reducible repeat(first|refine blk_drewN ?_ _|refine blk_drew ?_|refine blk_alloc ?_ _));refine blk_put (cs:=#[.string (⟨#[72]⟩:ByteArray),.int .i64 1,.int .i64 2,.int .i64 5000,.int .i64 0,.int .i64 0,.int .i64 0,.int .i64 0,.slice none 0 0]) ?_ 6 _ rfl;(with_reducible repeat(first|refine blk_drewN ?_ _|refine blk_drew ?_|refine blk_alloc ?_ _));refine blk_put (cs:=#[.string (⟨#[72]⟩:ByteArray),.int .i64 1,.int .i64 2,.int .i64 5000,.int .i64 0,.int .i64 0,.int .i64 0,.int .i64 0,.slice none 0 0]) ?_ 5 _ rfl;(with_reducible repeat(first|refine blk_drewN ?_ _|refine blk_drew ?_|refine blk_alloc ?_ _));refine blk_put (cs:=#[.string (⟨#[72]⟩:ByteArray),.int .i64 1,.int .i64 2,.int .i64 5000,.int .i64 0,.int .i64 0,.int .i64 0,.int .i64 0,.slice none 0 0]) ?_ 4 _ rfl;(with_reducible repeat(first|refine blk_drewN ?_ _|refine blk_drew ?_|refine blk_alloc ?_ _));refine blk_put (cs:=#[.string (⟨#[72]⟩:ByteArray),.int .i64 1,.int .i64 2,.int .i64 0,.int .i64 0,.int .i64 0,.int .i64 0,.int .i64 0,.slice none 0 0]) ?_ 3 _ rfl;(with_reducible repeat(first|refine blk_drewN ?_ _|refine blk_drew ?_|refine blk_alloc ?_ _));refine blk_put (cs:=#[.string (⟨#[72]⟩:ByteArray),.int .i64 1,.int .i64 0,.int .i64 0,.int .i64 0,.int .i64 0,.int .i64 0,.int .i64 0,.slice none 0 0]) ?_ 2 _ rfl;(with_reducible repeat(first|refine blk_drewN ?_ _|refine blk_drew ?_|refine blk_alloc ?_ _));refine blk_put (cs:=#[.string (⟨#[72]⟩:ByteArray),.int .i64 0,.int .i64 0,.int .i64 0,.int .i64 0,.int .i64 0,.int .i64 0,.int .i64 0,.slice none 0 0]) ?_ 1 _ rfl;(with_reducible repeat(first|refine blk_drewN ?_ _|refine blk_drew ?_|refine blk_alloc ?_ _));refine blk_put (cs:=#[.string (⟨#[]⟩:ByteArray),.int .i64 0,.int .i64 0,.int .i64 0,.int .i64 0,.int .i64 0,.int .i64 0,.int .i64 0,.slice none 0 0]) ?_ 0 _ rfl;(with_reducible repeat(first|refine blk_drewN ?_ _|refine blk_drew ?_|refine blk_alloc ?_ _));exact BK150.out) Try.underlying28 rfl (by kernel_rfl)) rfl ?_
  exact⟨_,by first|rfl|(simp[errW_none,errW_some]<;>rfl)|(simp[*,errW_none,errW_some]<;>rfl),by first|exact Kd.S_nil _ _ _ _ _|exact Kd.N_nil _ _ _ _ _|exact Kd.V_nil _ _ _ _ _|exact Kd.Q_nil _ _ _ _ _|exact Kd.R_nil _ _ _ _ _,by repeat(first|(with_reducible first|exact HB.out|apply below_alloc|apply pw_below_drewN|apply below_drew1|refine below_set ?_ GE150.out)|exact HB.out)⟩
end Go.Proofs.Ytkgdlbepjmgaiaa.Fea
