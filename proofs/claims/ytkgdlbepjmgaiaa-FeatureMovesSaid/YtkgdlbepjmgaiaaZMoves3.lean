/- Part 3 of the texts behind the last one of this claim. -/
import Derived.LoopTactic
import Derived.Deep.LoopGhost
import Derived.Outline
import Derived.Test.YtkgdlbepjmgaiaaZMoves2
set_option linter.unusedVariables false
set_option linter.unusedSimpArgs false
namespace Go.Proofs.Ytkgdlbepjmgaiaa.Fea
open Go.RowKit YtkgdlbepjmgaiaaW.PrintWords YtkgdlbepjmgaiaaW.PrintLast YtkgdlbepjmgaiaaW.PrintMore
theorem rletter_eq (c:Int):mq_letter.f c=some (Hand.letB c):=by
  unfold mq_letter.f Hand.letB
  by_cases h1:97≤c
  · rw[if_pos (show c≥97 from h1)]
    by_cases h2:c≤122
    · rw[if_pos h2];simp[h1,h2]
    · rw[if_neg h2,if_pos (show c≥65 by omega),decide_eq_false (show ¬ c≤90 by omega),decide_eq_false h2]
      simp
  · rw[if_neg (show ¬ c≥97 from h1)]
    by_cases h2:65≤c
    · rw[if_pos (show c≥65 from h2)]
      simp[h1,h2]
    · rw[if_neg (show ¬ c≥65 from h2)]
      simp[h1,h2]
theorem rName_ev (s:ByteArray):Ev (fun k=>mq_Name.f k s) (Hand.nmV s):=by
  unfold mq_Name.f Hand.nmV
  by_cases h24:24 < (s.size:Int)
  · rw[if_pos h24];exact Ev.t h24 (Ev.now _)
  rw[if_neg h24]
  refine Ev.e h24 ?_
  have j3:Ev (fun k=>mq_Name.j0 k s true) 3:=by
    refine Ev.step (fun k=>by rw[mq_Name.j0]) ?_
    exact Ev.t rfl (Ev.now _)
  by_cases hz:(s.size:Int)=0
  · rw[if_pos hz];exact Ev.t hz j3
  rw[if_neg hz]
  refine Ev.e hz ?_
  refine Ev.t (by omega) ?_
  simp only[rletter_eq,Option.bind_some]
  cases h0:Hand.letB (bt s 0)
  · rw[if_pos rfl];exact j3
  · rw[if_neg (by decide)]
    refine Ev.step (fun k=>by rw[mq_Name.j0]) ?_
    refine Ev.e (by decide) ?_
    have key:∀ n i:Nat,i+n=s.size→Hand.nmGo s i=true→Ev (fun k=>mq_Name.l0 k s (i:Int)) (if Hand.nmGo s s.size=true then 0 else 3):=by
      intro n
      induction n with
      | zero=>
        intro i hi hg
        obtain rfl:i=s.size:=by omega
        refine Ev.step (fun k=>by rw[mq_Name.l0]) ?_
        rw[if_pos hg]
        exact Ev.e (by omega) (Ev.now _)
      | succ n ih=>
        intro i hi hg
        refine Ev.step (fun k=>by rw[mq_Name.l0]) ?_
        simp only[rletter_eq,Option.bind_some]
        refine Ev.t (by omega) (Ev.t (by omega) ?_)
        rw[w64s (by omega)]
        have hst:=Hand.nmGo_step s i hg
        have bad:Hand.nmOk (bt s (i:Int))=false→(if Hand.nmGo s s.size=true then(0:Int) else 3)=3:=by
          intro h
          rw[h] at hst
          rw[Hand.nmGo_false s (i+1) s.size hst (by omega)]
          rfl
        cases hl:Hand.letB (bt s (i:Int))
        · refine Ev.e (by decide) ?_
          by_cases h1:bt s (i:Int) < 48
          · refine Ev.t h1 (Ev.some_eq (bad ?_).symm)
            simp[Hand.nmOk,Hand.digB,hl];omega
          · refine Ev.e h1 ?_
            by_cases h2:bt s (i:Int) > 57
            · refine Ev.t h2 (Ev.some_eq (bad ?_).symm)
              simp[Hand.nmOk,Hand.digB,hl];omega
            · refine Ev.e h2 (ih (i+1) (by omega) ?_)
              rw[hst]
              simp[Hand.nmOk,Hand.digB];omega
        · refine Ev.t rfl (ih (i+1) (by omega) ?_)
          rw[hst]
          simp[Hand.nmOk,hl]
    exact key s.size 0 (by omega) rfl
theorem rin_eq (n:Int):mq_In.f n=some (inR n):=by
  unfold mq_In.f inR
  by_cases h:n≥(-100000)
  · rw[if_pos h,decide_eq_true (show (-100000)≤n from h)];rfl
  · rw[if_neg h,decide_eq_false (show ¬(-100000)≤n from h)];rfl
theorem rlimits_ev (a b:Int):Ev (fun k=>mq_Check.f k a b) (limV a b):=by
  have j:∀ c,Ev (fun k=>mq_Check.j0 k c a b) (if c=true then 2 else if a > b then 9 else 0):=fun c=>by
    refine Ev.step (fun k=>by rw[mq_Check.j0]) ?_
    exact Ev.ite2 (Ev.now _) (Ev.ite2 (Ev.now _) (Ev.now _))
  unfold mq_Check.f limV
  simp only[rin_eq,Option.bind_some]
  cases inR a
  · exact Ev.e (by decide) (j true)
  · refine Ev.t rfl ?_
    cases inR b
    · exact j true
    · exact j false
theorem RCheck_ev (nm:ByteArray) (k ax x y z lo hi:Int) (l:List S104):Ev (fun n=>mr_Check.f n nm k ax x y z lo hi l) (chkF nm k ax x y z lo hi):=by
  have j2:∀ b,Ev (fun n=>mr_Check.j2 n b nm k ax x y z lo hi l) (if b=true then 2 else if k=0 then(if lo=0∧hi=0 then 0 else 3) else if limV lo hi=0 then(if lo < 1 then 2 else 0) else limV lo hi):=fun b=>by
    refine Ev.step (fun n=>by rw[mr_Check.j2]) ?_
    refine Ev.ite2 (Ev.now _) (Ev.ite2 ?_ (Ev.bind (rlimits_ev lo hi) (Ev.ite2 (Ev.ite2 (Ev.now _) (Ev.now _)) (Ev.now _))))
    by_cases h1:lo=0∧hi=0
    · rw[if_pos h1];exact Ev.e (by simp[h1.1,h1.2]) (Ev.now _)
    · rw[if_neg h1]
      refine Ev.t ?_ (Ev.now _)
      simp only[Bool.or_eq_true,Bool.not_eq_true',beq_eq_false_iff_ne]
      omega
  have j1:∀ b,Ev (fun n=>mr_Check.j1 n b nm k ax x y z lo hi l) (if b=true then 3 else if in3 x y z=true then(if k=0 then(if lo=0∧hi=0 then 0 else 3) else if limV lo hi=0 then(if lo < 1 then 2 else 0) else limV lo hi) else 2):=fun b=>by
    refine Ev.step (fun n=>by rw[mr_Check.j1]) ?_
    refine Ev.ite2 (Ev.now _) ?_
    simp only[rin_eq,Option.bind_some]
    unfold in3
    cases inR x
    · exact Ev.e (by decide) (j2 true)
    refine Ev.t rfl ?_
    cases inR y
    · exact Ev.e (by decide) (j2 true)
    refine Ev.t rfl ?_
    cases inR z
    · exact j2 true
    · exact j2 false
  have j0:∀ b,Ev (fun n=>mr_Check.j0 n b nm k ax x y z lo hi l) (if b=true then 1 else if k=4∧ax≠0 then 3 else if in3 x y z=true then(if k=0 then(if lo=0∧hi=0 then 0 else 3) else if limV lo hi=0 then(if lo < 1 then 2 else 0) else limV lo hi) else 2):=fun b=>by
    refine Ev.step (fun n=>by rw[mr_Check.j0]) ?_
    refine Ev.ite2 (Ev.now _) ?_
    by_cases h4:k=4
    · refine Ev.t h4 ?_
      have:=j1 (ax != 0)
      by_cases ha:ax=0
      · rw[if_neg (fun h=>h.2 ha)]
        rw[show (ax != 0)=false by simp[ha]] at this ⊢
        exact this
      · rw[if_pos ⟨h4,ha⟩]
        rw[show (ax != 0)=true by simp[ha]] at this ⊢
        exact this
    · refine Ev.e h4 ?_
      rw[if_neg (fun h=>h4 h.1)]
      exact j1 false
  unfold mr_Check.f chkF
  refine Ev.bind (rName_ev nm) (Ev.ite2 ?_ (Ev.now _))
  by_cases h:0≤k∧k < 5∧0≤ax∧ax < 3
  · rw[if_pos h]
    refine Ev.e (by omega) (Ev.e (by omega) (Ev.e (by omega) ?_))
    rw[decide_eq_false (show ¬ ax≥3 by omega)]
    exact j0 false
  · rw[if_neg h]
    refine Ev.ite (fun _=>j0 true) (fun h1=>Ev.ite (fun _=>j0 true) (fun h2=>Ev.ite (fun _=>j0 true) (fun h3=>?_)))
    rw[decide_eq_true (show ax≥3 by omega)]
    exact j0 true
def dtB (d:S106):Bool:=decide (d.f0.size≤100)
def frB (p:S104):Bool:=decide (p.f4.length≤6)&&p.f4.all dtB
def fewV (nm:ByteArray) (l:List S104):Bool:=decide (nm.size≤100)&&(decide (l.length≤12)&&l.all frB)
theorem rd104 (l:List S104) (i:Nat) (h:i < l.length):rd_T104 l (i:Int)=l[i]:=by
  unfold rd_T104
  rw[Int.toNat_natCast]
  simp[List.getD_eq_getElem?_getD,h]
theorem rd106 (l:List S106) (i:Nat) (h:i < l.length):rd_T106 l (i:Int)=l[i]:=by
  unfold rd_T106
  rw[Int.toNat_natCast]
  simp[List.getD_eq_getElem?_getD,h]
theorem Few_ev (nm:ByteArray) (k ax x y z lo hi:Int) (l:List S104):Ev (fun n=>mr_Few.f n nm k ax x y z lo hi l) (fewV nm l):=by
  have l1:∀ i:Nat,(hi':i < l.length)→i < 100→(∀ r,Ev (fun n=>mr_Few.l0 n ((i+1:Nat):Int) nm k ax x y z lo hi l) r→l[i].f4.length≤6→∀ m j:Nat,j+m=l[i].f4.length→Ev (fun n=>mr_Few.l1 n (i:Int) (j:Int) nm k ax x y z lo hi l) ((l[i].f4.drop j).all dtB&&r)):=by
    intro i hi' hi1 r hr h6 m
    induction m with
    | zero=>
      intro j hj
      refine Ev.step (fun n=>by rw[mr_Few.l1]) ?_
      rw[rd104 l i hi',w64s (n:=i) (by omega)]
      refine Ev.t (by omega) (Ev.t (by omega) (Ev.e (by omega) ?_))
      rw[List.drop_eq_nil_of_le (by omega)]
      exact hr
    | succ m ih=>
      intro j hj
      refine Ev.step (fun n=>by rw[mr_Few.l1]) ?_
      rw[rd104 l i hi',w64s (n:=j) (by omega),rd106 _ j (by omega)]
      refine Ev.t (by omega) (Ev.t (by omega) (Ev.t (by omega) (Ev.t (by omega) ?_)))
      rw[List.drop_eq_getElem_cons (show j < l[i].f4.length by omega),List.all_cons]
      by_cases hs:l[i].f4[j].f0.size≤100
      · rw[show dtB l[i].f4[j]=true from decide_eq_true hs,Bool.true_and]
        exact Ev.e (by omega) (ih (j+1) (by omega))
      · rw[show dtB l[i].f4[j]=false from decide_eq_false hs,Bool.false_and,Bool.false_and]
        exact Ev.t (by omega) (Ev.now _)
  have l0:l.length≤12→∀ m i:Nat,i+m=l.length→Ev (fun n=>mr_Few.l0 n (i:Int) nm k ax x y z lo hi l) ((l.drop i).all frB):=by
    intro h12 m
    induction m with
    | zero=>
      intro i hi'
      refine Ev.step (fun n=>by rw[mr_Few.l0]) ?_
      rw[List.drop_eq_nil_of_le (by omega)]
      exact Ev.e (by omega) (Ev.now _)
    | succ m ih=>
      intro i hi'
      refine Ev.step (fun n=>by rw[mr_Few.l0]) ?_
      rw[rd104 l i (by omega)]
      refine Ev.t (by omega) (Ev.t (by omega) ?_)
      rw[List.drop_eq_getElem_cons (show i < l.length by omega),List.all_cons]
      by_cases h6:l[i].f4.length≤6
      · refine Ev.e (by omega) ?_
        have:=l1 i (by omega) (by omega) _ (ih (i+1) (by omega)) h6 l[i].f4.length 0 (by omega)
        unfold frB
        rw[decide_eq_true h6,Bool.true_and]
        exact this
      · unfold frB
        rw[decide_eq_false h6,Bool.false_and,Bool.false_and]
        exact Ev.t (by omega) (Ev.now _)
  have j0:∀ b,(b=false→l.length≤12)→Ev (fun n=>mr_Few.j0 n b nm k ax x y z lo hi l) (!b&&l.all frB):=by
    intro b hb
    refine Ev.step (fun n=>by rw[mr_Few.j0]) ?_
    cases b
    · exact Ev.e (by decide) (l0 (hb rfl) l.length 0 (by omega))
    · exact Ev.t rfl (Ev.now _)
  unfold mr_Few.f fewV
  by_cases h1:nm.size≤100
  · refine Ev.e (by omega) ?_
    rw[decide_eq_true h1,Bool.true_and]
    by_cases h2:l.length≤12
    · rw[decide_eq_true h2,Bool.true_and,decide_eq_false (show ¬(l.length:Int) > 12 by omega)]
      exact j0 false (fun _=>h2)
    · rw[decide_eq_false h2,Bool.false_and,decide_eq_true (show (l.length:Int) > 12 by omega)]
      exact j0 true (fun h=>by cases h)
  · rw[decide_eq_false h1,Bool.false_and]
    exact Ev.t (by omega) (j0 true (fun h=>by cases h))
theorem fewV_small {nm:ByteArray} {l:List S104} (h:fewV nm l=true):l.length≤12∧∀ p∈l,p.f4.length≤6:=by
  simp only[fewV,frB,Bool.and_eq_true,decide_eq_true_eq,List.all_eq_true] at h
  exact⟨h.2.1,fun p hp=>(h.2.2 p hp).1⟩
end Go.Proofs.Ytkgdlbepjmgaiaa.Fea
namespace Go.Proofs.Ytkgdlbepjmgaiaa.Fea
open Go.RowKit YtkgdlbepjmgaiaaW.PrintWords YtkgdlbepjmgaiaaW.PrintLast YtkgdlbepjmgaiaaW.PrintMore
attribute [local go_sem] max2_int min2_int max_two min_two max_three min_three max_four min_four
theorem eqA23 (d:Nat) (w:World) (x0 y0 x1 y1 x2 y2:Int):
    (Op.equalIn (d+2) 23 (.agg #[.int .i64 x0,.int .i64 x1,.int .i64 x2]) (.agg #[.int .i64 y0,.int .i64 y1,.int .i64 y2])).run Try.prog w=.ok (x0==y0&&(x1==y1&&(x2==y2))) w:=by
  refine eqA_of Try.underlying23 (by kernel_rfl) ?_
  refine eqf_cons (by rfl) (by go_simp;rfl) (by go_simp;rfl) (by go_simp) ?_
  refine eqf_cons (by rfl) (by go_simp;rfl) (by go_simp;rfl) (by go_simp) ?_
  exact eqf_last (by rfl) (by go_simp;rfl) (by go_simp;rfl) (by go_simp)
theorem eqA106 (d:Nat) (w:World) (x0 y0:ByteArray) (x1 y1:Int):
    (Op.equalIn (d+2) 106 (.agg #[.string x0,.int .i64 x1]) (.agg #[.string y0,.int .i64 y1])).run Try.prog w=.ok (x0.toList==y0.toList&&(x1==y1)) w:=by
  refine eqA_of Try.underlying106 (by kernel_rfl) ?_
  refine eqf_cons (by rfl) (by go_simp;rfl) (by go_simp;rfl) (by go_simp) ?_
  exact eqf_last (by rfl) (by go_simp;rfl) (by go_simp;rfl) (by go_simp)
end Go.Proofs.Ytkgdlbepjmgaiaa.Fea
namespace Go.Proofs.Ytkgdlbepjmgaiaa.Fea
open Go.RowKit YtkgdlbepjmgaiaaW.PrintWords YtkgdlbepjmgaiaaW.PrintLast YtkgdlbepjmgaiaaW.PrintMore
attribute [local go_sem] max2_int min2_int max_two min_two max_three min_three max_four min_four
attribute [local go_sem high] eqA106
mutual
def mr_SameFrames.l0:Nat→List (S104)→List (S104)→Int→Option (Bool)
  | 0,_,_,_=>none
  | k+1,x0,x1,x5=>if x5 < (x0.length:Int) then(if 0≤x5 then(if x5 < (x1.length:Int) then(if((rd_T104 x0 x5).f0)=((rd_T104 x1 x5).f0) then(if(((rd_T104 x0 x5).f1) != ((rd_T104 x1 x5).f1))=true then(mr_SameFrames.j1 k x0 x1 x5 true ((rd_T104 x0 x5).f0) ((rd_T104 x0 x5).f1) ((rd_T104 x0 x5).f2) ((rd_T104 x0 x5).f3) ((rd_T104 x0 x5).f4) ((rd_T104 x1 x5).f0) ((rd_T104 x1 x5).f1) ((rd_T104 x1 x5).f2) ((rd_T104 x1 x5).f3) ((rd_T104 x1 x5).f4)) else(if((rd_T104 x0 x5).f2)=((rd_T104 x1 x5).f2) then(if((rd_T104 x0 x5).f3)=((rd_T104 x1 x5).f3) then(mr_SameFrames.j1 k x0 x1 x5 ((((rd_T104 x0 x5).f4).length:Int) != (((rd_T104 x1 x5).f4).length:Int)) ((rd_T104 x0 x5).f0) ((rd_T104 x0 x5).f1) ((rd_T104 x0 x5).f2) ((rd_T104 x0 x5).f3) ((rd_T104 x0 x5).f4) ((rd_T104 x1 x5).f0) ((rd_T104 x1 x5).f1) ((rd_T104 x1 x5).f2) ((rd_T104 x1 x5).f3) ((rd_T104 x1 x5).f4)) else(mr_SameFrames.j1 k x0 x1 x5 true ((rd_T104 x0 x5).f0) ((rd_T104 x0 x5).f1) ((rd_T104 x0 x5).f2) ((rd_T104 x0 x5).f3) ((rd_T104 x0 x5).f4) ((rd_T104 x1 x5).f0) ((rd_T104 x1 x5).f1) ((rd_T104 x1 x5).f2) ((rd_T104 x1 x5).f3) ((rd_T104 x1 x5).f4))) else(mr_SameFrames.j1 k x0 x1 x5 true ((rd_T104 x0 x5).f0) ((rd_T104 x0 x5).f1) ((rd_T104 x0 x5).f2) ((rd_T104 x0 x5).f3) ((rd_T104 x0 x5).f4) ((rd_T104 x1 x5).f0) ((rd_T104 x1 x5).f1) ((rd_T104 x1 x5).f2) ((rd_T104 x1 x5).f3) ((rd_T104 x1 x5).f4)))) else(mr_SameFrames.j1 k x0 x1 x5 true ((rd_T104 x0 x5).f0) ((rd_T104 x0 x5).f1) ((rd_T104 x0 x5).f2) ((rd_T104 x0 x5).f3) ((rd_T104 x0 x5).f4) ((rd_T104 x1 x5).f0) ((rd_T104 x1 x5).f1) ((rd_T104 x1 x5).f2) ((rd_T104 x1 x5).f3) ((rd_T104 x1 x5).f4))) else(none)) else(none)) else(some true)
def mr_SameFrames.j1:Nat→List (S104)→List (S104)→Int→Bool→Int→Bool→Int→Int→List (S106)→Int→Bool→Int→Int→List (S106)→Option (Bool)
  | 0,_,_,_,_,_,_,_,_,_,_,_,_,_,_=>none
  | k+1,x0,x1,x5,x62,x357000,x357001,x357002,x357003,x357004,x358000,x358001,x358002,x358003,x358004=>if x62=true then(some false) else(mr_SameFrames.l1 k x0 x1 x5 0 x357000 x357001 x357002 x357003 x357004 x358000 x358001 x358002 x358003 x358004)
def mr_SameFrames.l1:Nat→List (S104)→List (S104)→Int→Int→Int→Bool→Int→Int→List (S106)→Int→Bool→Int→Int→List (S106)→Option (Bool)
  | 0,_,_,_,_,_,_,_,_,_,_,_,_,_,_=>none
  | k+1,x0,x1,x5,x8,x357000,x357001,x357002,x357003,x357004,x358000,x358001,x358002,x358003,x358004=>if x8 < (x357004.length:Int) then(if 0≤x8 then(if x8 < (x358004.length:Int) then(if(!((((rd_T106 x357004 x8).f0).toList)==(((rd_T106 x358004 x8).f0).toList))||(!(((rd_T106 x357004 x8).f1)==((rd_T106 x358004 x8).f1))))=true then(some false) else(mr_SameFrames.l1 k x0 x1 x5 (wrap64 (x8+1)) x357000 x357001 x357002 x357003 x357004 x358000 x358001 x358002 x358003 x358004)) else(none)) else(none)) else(mr_SameFrames.l0 k x0 x1 (wrap64 (x5+1)))
end
def mr_SameFrames.f (k:Nat) (l0:List (S104)) (l1:List (S104)):Option (Bool):=if(l0.length:Int)=(l1.length:Int) then(mr_SameFrames.l0 k l0 l1 0) else(some false)
theorem mr_SameFrames.mono_l:∀ k,(∀ y0 y1 y2,LeO (mr_SameFrames.l0 k y0 y1 y2) (mr_SameFrames.l0 (k+1) y0 y1 y2))∧(∀ y0 y1 y2 y3 y4 y5 y6 y7 y8 y9 y10 y11 y12 y13,LeO (mr_SameFrames.j1 k y0 y1 y2 y3 y4 y5 y6 y7 y8 y9 y10 y11 y12 y13) (mr_SameFrames.j1 (k+1) y0 y1 y2 y3 y4 y5 y6 y7 y8 y9 y10 y11 y12 y13))∧(∀ y0 y1 y2 y3 y4 y5 y6 y7 y8 y9 y10 y11 y12 y13,LeO (mr_SameFrames.l1 k y0 y1 y2 y3 y4 y5 y6 y7 y8 y9 y10 y11 y12 y13) (mr_SameFrames.l1 (k+1) y0 y1 y2 y3 y4 y5 y6 y7 y8 y9 y10 y11 y12 y13))
 | 0=>⟨fun _ _ _ r h=>by simp[mr_SameFrames.l0] at h,fun _ _ _ _ _ _ _ _ _ _ _ _ _ _ r h=>by simp[mr_SameFrames.j1] at h,fun _ _ _ _ _ _ _ _ _ _ _ _ _ _ r h=>by simp[mr_SameFrames.l1] at h⟩
 | k+1=>by
  obtain⟨ih0,ih1,ih2⟩:=mr_SameFrames.mono_l k
  refine⟨?_,?_,?_⟩
  ·intro y0 y1 y2
   unfold mr_SameFrames.l0
   repeat' first
   | (with_reducible exact ih0 _ _ _)
   | (with_reducible exact ih1 _ _ _ _ _ _ _ _ _ _ _ _ _ _)
   | (with_reducible exact ih2 _ _ _ _ _ _ _ _ _ _ _ _ _ _)
   | (with_reducible exact LeO.refl _)
   | (with_reducible exact LeO.none _)
   | (with_reducible refine LeO.ite ?_ ?_)
   | (with_reducible refine LeO.bind ?_ (fun _=>?_))
   | exact ih0 _ _ _
   | exact ih1 _ _ _ _ _ _ _ _ _ _ _ _ _ _
   | exact ih2 _ _ _ _ _ _ _ _ _ _ _ _ _ _
   | exact LeO.none _
   | refine LeO.ite ?_ ?_
   | refine LeO.bind ?_ (fun _=>?_)
  ·intro y0 y1 y2 y3 y4 y5 y6 y7 y8 y9 y10 y11 y12 y13
   unfold mr_SameFrames.j1
   repeat' first
   | (with_reducible exact ih0 _ _ _)
   | (with_reducible exact ih1 _ _ _ _ _ _ _ _ _ _ _ _ _ _)
   | (with_reducible exact ih2 _ _ _ _ _ _ _ _ _ _ _ _ _ _)
   | (with_reducible exact LeO.refl _)
   | (with_reducible exact LeO.none _)
   | (with_reducible refine LeO.ite ?_ ?_)
   | (with_reducible refine LeO.bind ?_ (fun _=>?_))
   | exact ih0 _ _ _
   | exact ih1 _ _ _ _ _ _ _ _ _ _ _ _ _ _
   | exact ih2 _ _ _ _ _ _ _ _ _ _ _ _ _ _
   | exact LeO.none _
   | refine LeO.ite ?_ ?_
   | refine LeO.bind ?_ (fun _=>?_)
  ·intro y0 y1 y2 y3 y4 y5 y6 y7 y8 y9 y10 y11 y12 y13
   unfold mr_SameFrames.l1
   repeat' first
   | (with_reducible exact ih0 _ _ _)
   | (with_reducible exact ih1 _ _ _ _ _ _ _ _ _ _ _ _ _ _)
   | (with_reducible exact ih2 _ _ _ _ _ _ _ _ _ _ _ _ _ _)
   | (with_reducible exact LeO.refl _)
   | (with_reducible exact LeO.none _)
   | (with_reducible refine LeO.ite ?_ ?_)
   | (with_reducible refine LeO.bind ?_ (fun _=>?_))
   | exact ih0 _ _ _
   | exact ih1 _ _ _ _ _ _ _ _ _ _ _ _ _ _
   | exact ih2 _ _ _ _ _ _ _ _ _ _ _ _ _ _
   | exact LeO.none _
   | refine LeO.ite ?_ ?_
   | refine LeO.bind ?_ (fun _=>?_)
theorem mr_SameFrames.mono:∀ a0 a1 k,LeO (mr_SameFrames.f k a0 a1) (mr_SameFrames.f (k+1) a0 a1):=by
 intro a0 a1 k
 obtain⟨ih0,ih1,ih2⟩:=mr_SameFrames.mono_l k
 unfold mr_SameFrames.f
 repeat' first
  | (with_reducible exact ih0 _ _ _)
  | (with_reducible exact ih1 _ _ _ _ _ _ _ _ _ _ _ _ _ _)
  | (with_reducible exact ih2 _ _ _ _ _ _ _ _ _ _ _ _ _ _)
  | (with_reducible exact LeO.refl _)
  | (with_reducible exact LeO.none _)
  | (with_reducible refine LeO.ite ?_ ?_)
  | (with_reducible refine LeO.bind ?_ (fun _=>?_))
  | exact ih0 _ _ _
  | exact ih1 _ _ _ _ _ _ _ _ _ _ _ _ _ _
  | exact ih2 _ _ _ _ _ _ _ _ _ _ _ _ _ _
  | exact LeO.none _
  | refine LeO.ite ?_ ?_
  | refine LeO.bind ?_ (fun _=>?_)
def mr_SameFrames.T6:Bool×List (List Nat×List Nat):=(true,[([],[]),([],[]),([0,1],[0,1]),([2],[2]),([],[]),([],[]),([4,5],[4,5]),([6],[6]),([],[]),([],[]),([8,3,0,1,2,3,8,9],[3,8]),([9,7,10,0,1,2,3,4,5,6,7,8,9,10],[7,9])])
def mr_SameFrames.B6:List Nat:=[0,0,3,7,0,0,48,112,0,0,783,2047]
theorem mr_SameFrames.tab6:rtab .any (opsOf Try.f101 6)=mr_SameFrames.T6:=by kernel_rfl
theorem mr_SameFrames.bits6:waitsOk mr_SameFrames.T6.2 mr_SameFrames.B6=true:=by kernel_rfl
def mr_SameFrames.T12:Bool×List (List Nat×List Nat):=(true,[([],[]),([0],[0]),([],[]),([1,2],[1,2]),([3],[3]),([],[]),([5],[5]),([],[]),([6,7],[6,7]),([8],[8]),([4,9],[4,9])])
def mr_SameFrames.B12:List Nat:=[0,1,0,7,15,0,32,0,224,480,1023]
theorem mr_SameFrames.tab12:rtab .any (opsOf Try.f101 12)=mr_SameFrames.T12:=by kernel_rfl
theorem mr_SameFrames.bits12:waitsOk mr_SameFrames.T12.2 mr_SameFrames.B12=true:=by kernel_rfl
set_option maxHeartbeats 8000000 in
set_option maxRecDepth 100000 in
theorem mr_SameFrames.calls (k:Nat) (A0:Option Addr) (c0:Nat) (l0:List (S104)) (A1:Option Addr) (c1:Nat) (l1:List (S104)) (r:Bool) (w:World) (hr0:Kd.C k104 w A0 l0.length l0) (hc0:l0.length≤c0) (hr1:Kd.C k104 w A1 l1.length l1) (hc1:l1.length≤c1) (h:mr_SameFrames.f k l0 l1=some r):
 Calls Try.prog 101 #[.slice A0 l0.length c0,.slice A1 l1.length c1] w fun e w'=>e=.returned (.bool r)∧Below w.heap.size w w':=by
 have hu104:=Try.underlying104
 have hu106:=Try.underlying106
 have HR0:=zm hr0
 have HC0:=zm hc0
 clear hr0 hc0
 have HR1:=zm hr1
 have HC1:=zm hc1
 clear hr1 hc1
 have HB:=zm (Below.refl w.heap.size w)
 have H:(if(l0.length:Int)=(l1.length:Int) then(mr_SameFrames.l0 k l0 l1 0) else(some false))=some r:=h
 clear h
 by_cases c3:(l0.length:Int)=(l1.length:Int)
 ·rw[if_pos c3] at H
  have c3b0:((l0.length:Int)==(l1.length:Int))=true:=beq_iff_eq.mpr c3
  have c3b1:((l0.length:Int) != (l1.length:Int))=false:=bne_eq_false_iff_eq.mpr c3
  have c3b2:(l0.length==l1.length)=true:=by first|simpa using c3|(simp at c3 ⊢;omega)
  clear c3
  have H':=zm H
  clear H
  go_enter Try.func101,Try.ntmps101
  go_wp2
  go_loopg [5] k (fun kq v5 w'=>∃(x5_1:Int),v5=.int .i64 x5_1∧Aside0 (mr_SameFrames.l0 kq l0 l1 x5_1=some r)∧Aside0 (kq≤k)∧Aside0 (Below w.heap.size w w'))
  case atStart=>exact⟨(0),(by first|rfl|(simp;done)|(simp[*];done)),H',⟨Nat.le_refl _⟩,⟨by repeat(first|(with_reducible first|exact HB.out|apply zA|apply zD|apply zE)|exact HB.out)⟩⟩
  case round=>
   clear H'
   try clear c1
   try clear p2
   try clear c3
   try clear c3b0
   try clear c3b1
   try clear c3b2
   obtain⟨x5_1,rfl,HA,HK1,HB⟩:=hrel
   cases gk with
   | zero=>exact absurd HA.out (by simp[mr_SameFrames.l0])
   | succ k1=>
    have H:=HA.out
    clear HA
    simp only[mr_SameFrames.l0] at H
    by_cases c4:x5_1 < (l0.length:Int)
    ·rw[if_pos c4] at H
     have c4b0:decide (x5_1 < (l0.length:Int))=true:=decide_eq_true c4
     clear c4
     by_cases c5:0≤x5_1
     ·rw[if_pos c5] at H
      have c5b0:decide (0≤x5_1)=true:=decide_eq_true c5
      clear c5
      by_cases c6:x5_1 < (l1.length:Int)
      ·rw[if_pos c6] at H
       have c6b0:decide (x5_1 < (l1.length:Int))=true:=decide_eq_true c6
       clear c6
       have HC7:=zm H
       clear H
       try go_wp2
       have n0_:=zm (zE HB.out)
       clear HB
       have HB:=n0_
       clear n0_
       have p354:0≤(x5_1:Int):=of_decide_eq_true (by first|(with_reducible assumption)|assumption)
       have q354:x5_1 < (l0.length:Int):=of_decide_eq_true (by first|(with_reducible assumption)|assumption)
       obtain⟨ad354,A354_4,c354_4,e354,hx354_0,hx354_1,hx354_2,hx354_3,hx354_4,hl354_4,hi354_4⟩:=at_T104 HR0.out x5_1 p354 q354
       have hw354_4:=hx354_4
       have hw354_3:=hx354_3
       have hw354_2:=hx354_2
       have hw354_1:=hx354_1
       have hw354_0:=hx354_0
       cases e354
       replace hx354_0:=(HB.out.cell (World.block_lt_of_cell? w _ hx354_0)).trans hx354_0
       replace hx354_1:=(HB.out.cell (World.block_lt_of_cell? w _ hx354_1)).trans hx354_1
       replace hx354_2:=(HB.out.cell (World.block_lt_of_cell? w _ hx354_2)).trans hx354_2
       replace hx354_3:=(HB.out.cell (World.block_lt_of_cell? w _ hx354_3)).trans hx354_3
       replace hx354_4:=(HB.out.cell (World.block_lt_of_cell? w _ hx354_4)).trans hx354_4
       have HR354_4:=zm hi354_4
       have HC354_4:=zm hl354_4
       clear hi354_4 hl354_4
       replace p354:=eq_true p354
       replace q354:=eq_true q354
       have p355:0≤(x5_1:Int):=of_decide_eq_true (by first|(with_reducible assumption)|assumption)
       have q355:x5_1 < (l1.length:Int):=of_decide_eq_true (by first|(with_reducible assumption)|assumption)
       obtain⟨ad355,A355_4,c355_4,e355,hx355_0,hx355_1,hx355_2,hx355_3,hx355_4,hl355_4,hi355_4⟩:=at_T104 HR1.out x5_1 p355 q355
       have hw355_4:=hx355_4
       have hw355_3:=hx355_3
       have hw355_2:=hx355_2
       have hw355_1:=hx355_1
       have hw355_0:=hx355_0
       cases e355
       replace hx355_0:=(HB.out.cell (World.block_lt_of_cell? w _ hx355_0)).trans hx355_0
       replace hx355_1:=(HB.out.cell (World.block_lt_of_cell? w _ hx355_1)).trans hx355_1
       replace hx355_2:=(HB.out.cell (World.block_lt_of_cell? w _ hx355_2)).trans hx355_2
       replace hx355_3:=(HB.out.cell (World.block_lt_of_cell? w _ hx355_3)).trans hx355_3
       replace hx355_4:=(HB.out.cell (World.block_lt_of_cell? w _ hx355_4)).trans hx355_4
       have HR355_4:=zm hi355_4
       have HC355_4:=zm hl355_4
       clear hi355_4 hl355_4
       replace p355:=eq_true p355
       replace q355:=eq_true q355
       refine start_ (n:=12) (S:=fun w'=>w'.cell? (ad354.add ((x5_1).toNat * 5))=some (.int .i64 ((rd_T104 l0 x5_1).f0))∧w'.cell? ⟨(ad354.add ((x5_1).toNat * 5)).block,(ad354.add ((x5_1).toNat * 5)).off+1,none⟩=some (.bool ((rd_T104 l0 x5_1).f1))∧w'.cell? ⟨(ad354.add ((x5_1).toNat * 5)).block,(ad354.add ((x5_1).toNat * 5)).off+2,none⟩=some (.int .i64 ((rd_T104 l0 x5_1).f2))∧w'.cell? ⟨(ad354.add ((x5_1).toNat * 5)).block,(ad354.add ((x5_1).toNat * 5)).off+3,none⟩=some (.int .i64 ((rd_T104 l0 x5_1).f3))∧w'.cell? ⟨(ad354.add ((x5_1).toNat * 5)).block,(ad354.add ((x5_1).toNat * 5)).off+4,none⟩=some (.slice A354_4 ((rd_T104 l0 x5_1).f4).length c354_4)∧w'.cell? (ad355.add ((x5_1).toNat * 5))=some (.int .i64 ((rd_T104 l1 x5_1).f0))∧w'.cell? ⟨(ad355.add ((x5_1).toNat * 5)).block,(ad355.add ((x5_1).toNat * 5)).off+1,none⟩=some (.bool ((rd_T104 l1 x5_1).f1))∧w'.cell? ⟨(ad355.add ((x5_1).toNat * 5)).block,(ad355.add ((x5_1).toNat * 5)).off+2,none⟩=some (.int .i64 ((rd_T104 l1 x5_1).f2))∧w'.cell? ⟨(ad355.add ((x5_1).toNat * 5)).block,(ad355.add ((x5_1).toNat * 5)).off+3,none⟩=some (.int .i64 ((rd_T104 l1 x5_1).f3))∧w'.cell? ⟨(ad355.add ((x5_1).toNat * 5)).block,(ad355.add ((x5_1).toNat * 5)).off+4,none⟩=some (.slice A355_4 ((rd_T104 l1 x5_1).f4).length c355_4)) (ds:=[]) #[false,false,false,false,false,false,false,false,false,false,false,false] (by kernel_rfl) rfl rfl ⟨((HB.out.cell (World.block_lt_of_cell? w _ hw354_0)).trans hw354_0),((HB.out.cell (World.block_lt_of_cell? w _ hw354_1)).trans hw354_1),((HB.out.cell (World.block_lt_of_cell? w _ hw354_2)).trans hw354_2),((HB.out.cell (World.block_lt_of_cell? w _ hw354_3)).trans hw354_3),((HB.out.cell (World.block_lt_of_cell? w _ hw354_4)).trans hw354_4),((HB.out.cell (World.block_lt_of_cell? w _ hw355_0)).trans hw355_0),((HB.out.cell (World.block_lt_of_cell? w _ hw355_1)).trans hw355_1),((HB.out.cell (World.block_lt_of_cell? w _ hw355_2)).trans hw355_2),((HB.out.cell (World.block_lt_of_cell? w _ hw355_3)).trans hw355_3),((HB.out.cell (World.block_lt_of_cell? w _ hw355_4)).trans hw355_4)⟩ (fun hHeld=>?_);refine with_tabW mr_SameFrames.tab6 mr_SameFrames.bits6 (fun HT_ HW_=>?_)
       generalize wr.drew=w8 at HB HR354_4 HR355_4 hx354_0 hx354_1 hx354_2 hx354_3 hx354_4 hx355_0 hx355_1 hx355_2 hx355_3 hx355_4 hHeld ⊢
       refine pure_ (i:=0) (N:=some 20) (v:=?_) (a':=?_) #[true,false,false,false,false,false,false,false,false,false,false,false] rfl rfl (any_of HT_.out (by kernel_rfl)) (fun _ _ _ h=>h) (Or.inl ⟨by rfl,?_⟩) ?_ ?_
       rotate_left
       ·intro w'
        go_simp
        with_reducible rfl
       rotate_left
       ·simp only[Act.put,zx,zy,zz,i64_w,i32_w]
        rfl
       refine pure_ (i:=1) (N:=some 21) (v:=?_) (a':=?_) #[true,true,false,false,false,false,false,false,false,false,false,false] rfl rfl (any_of HT_.out (by kernel_rfl)) (fun _ _ _ h=>h) (Or.inl ⟨by rfl,?_⟩) ?_ ?_
       rotate_left
       ·intro w'
        go_simp
        with_reducible rfl
       rotate_left
       ·simp only[Act.put,zx,zy,zz,i64_w,i32_w]
        rfl
       refine pure_ (i:=2) (N:=some 22) (v:=?_) (a':=?_) #[true,true,true,false,false,false,false,false,false,false,false,false] rfl rfl (any_of HT_.out (by kernel_rfl)) (fun _ _ _ h=>h) (Or.inl ⟨by rfl,?_⟩) ?_ ?_
       rotate_left
       ·intro w'
        go_simp
        with_reducible rfl
       rotate_left
       ·simp only[Act.put,zx,zy,zz,i64_w,i32_w]
        rfl
       refine pure_ (i:=4) (N:=some 24) (v:=?_) (a':=?_) #[true,true,true,false,true,false,false,false,false,false,false,false] rfl rfl (any_of HT_.out (by kernel_rfl)) (fun _ _ _ h=>h) (Or.inl ⟨by rfl,?_⟩) ?_ ?_
       rotate_left
       ·intro w'
        go_simp
        with_reducible rfl
       rotate_left
       ·simp only[Act.put,zx,zy,zz,i64_w,i32_w]
        rfl
       refine pure_ (i:=5) (N:=some 25) (v:=?_) (a':=?_) #[true,true,true,false,true,true,false,false,false,false,false,false] rfl rfl (any_of HT_.out (by kernel_rfl)) (fun _ _ _ h=>h) (Or.inl ⟨by rfl,?_⟩) ?_ ?_
       rotate_left
       ·intro w'
        go_simp
        with_reducible rfl
       rotate_left
       ·simp only[Act.put,zx,zy,zz,i64_w,i32_w]
        rfl
       refine pure_ (i:=6) (N:=some 26) (v:=?_) (a':=?_) #[true,true,true,false,true,true,true,false,false,false,false,false] rfl rfl (any_of HT_.out (by kernel_rfl)) (fun _ _ _ h=>h) (Or.inl ⟨by rfl,?_⟩) ?_ ?_
       rotate_left
       ·intro w'
        go_simp
        with_reducible rfl
       rotate_left
       ·simp only[Act.put,zx,zy,zz,i64_w,i32_w]
        rfl
       refine take_ (i:=3) (N:=some 23) (v:=?_) (a':=?_) #[true,true,true,true,true,true,true,false,false,false,false,false] rfl rfl (take_ofW HT_.out HW_.out (by kernel_rfl)) (fun _ _ _ h=>h) (Or.inl ⟨by rfl,?_⟩) hHeld ?_ ?_
       rotate_left
       ·rintro w' ⟨s0,s1,s2,s3,s4,s5,s6,s7,s8,s9⟩
        go_simp
        with_reducible rfl
       rotate_left
       ·simp only[Act.put,zx,zy,zz,i64_w,i32_w]
        rfl
       refine take_ (i:=7) (N:=some 27) (v:=?_) (a':=?_) #[true,true,true,true,true,true,true,true,false,false,false,false] rfl rfl (take_ofW HT_.out HW_.out (by kernel_rfl)) (fun _ _ _ h=>h) (Or.inl ⟨by rfl,?_⟩) hHeld ?_ ?_
       rotate_left
       ·rintro w' ⟨s0,s1,s2,s3,s4,s5,s6,s7,s8,s9⟩
        go_simp
        with_reducible rfl
       rotate_left
       ·simp only[Act.put,zx,zy,zz,i64_w,i32_w]
        rfl
       refine join_ (σ:=Nat×Nat) 2 #[true,true,true,true,true,true,true,true,true,true,false,false] (fun s_=>[(6,.pointer (some ⟨s_.1,0,none⟩)),(7,.pointer (some ⟨s_.2,0,none⟩))]) (fun s_ w'=>(w'.cell? (ad354.add ((x5_1).toNat * 5))=some (.int .i64 ((rd_T104 l0 x5_1).f0))∧w'.cell? ⟨(ad354.add ((x5_1).toNat * 5)).block,(ad354.add ((x5_1).toNat * 5)).off+1,none⟩=some (.bool ((rd_T104 l0 x5_1).f1))∧w'.cell? ⟨(ad354.add ((x5_1).toNat * 5)).block,(ad354.add ((x5_1).toNat * 5)).off+2,none⟩=some (.int .i64 ((rd_T104 l0 x5_1).f2))∧w'.cell? ⟨(ad354.add ((x5_1).toNat * 5)).block,(ad354.add ((x5_1).toNat * 5)).off+3,none⟩=some (.int .i64 ((rd_T104 l0 x5_1).f3))∧w'.cell? ⟨(ad354.add ((x5_1).toNat * 5)).block,(ad354.add ((x5_1).toNat * 5)).off+4,none⟩=some (.slice A354_4 ((rd_T104 l0 x5_1).f4).length c354_4)∧w'.cell? (ad355.add ((x5_1).toNat * 5))=some (.int .i64 ((rd_T104 l1 x5_1).f0))∧w'.cell? ⟨(ad355.add ((x5_1).toNat * 5)).block,(ad355.add ((x5_1).toNat * 5)).off+1,none⟩=some (.bool ((rd_T104 l1 x5_1).f1))∧w'.cell? ⟨(ad355.add ((x5_1).toNat * 5)).block,(ad355.add ((x5_1).toNat * 5)).off+2,none⟩=some (.int .i64 ((rd_T104 l1 x5_1).f2))∧w'.cell? ⟨(ad355.add ((x5_1).toNat * 5)).block,(ad355.add ((x5_1).toNat * 5)).off+3,none⟩=some (.int .i64 ((rd_T104 l1 x5_1).f3))∧w'.cell? ⟨(ad355.add ((x5_1).toNat * 5)).block,(ad355.add ((x5_1).toNat * 5)).off+4,none⟩=some (.slice A355_4 ((rd_T104 l1 x5_1).f4).length c355_4))∧(w'.heap[s_.1]?=some (.cells #[.int .i64 0,.bool false,.int .i64 0,.int .i64 0,.slice none 0 0] 104 (0,0)))∧(w'.heap[s_.2]?=some (.cells #[.int .i64 0,.bool false,.int .i64 0,.int .i64 0,.slice none 0 0] 104 (0,0)))∧(w.heap.size≤s_.1)∧(w.heap.size≤s_.1)∧(s_.2≠s_.1)∧(s_.1≠s_.2)∧(w.heap.size≤s_.2)∧(w.heap.size≤s_.2)∧(Below w.heap.size w w')) ?_ ?_
       rotate_left
       ·intro hCont
        refine two_ (i:=8) (j:=9) (Ni:=some 6) (Nj:=some 7) #[true,true,true,true,true,true,true,true,true,false,false,false] #[true,true,true,true,true,true,true,true,false,true,false,false] rfl rfl rfl rfl (two_of HT_.out (by kernel_rfl)) (by decide) (by decide) (fun K hK=>?_) (fun K hK=>?_)
        ·skip
         refine box_step ?hg (N:=6) ?hd (cs:=#[.int .i64 0,.bool false,.int .i64 0,.int .i64 0,.slice none 0 0]) (t:=104) ?hr ?_;(case hd=>rfl);(case hg=>rfl);(case hr=>first|(go_simp;done)|(go_simp;rfl))
         intro gb356 hg w9 hbox hb
         have n0_:=zm (below_step (by repeat(first|(with_reducible first|exact HB.out|apply zA|apply zD|apply zE)|exact HB.out)) hb)
         have n1_:=zm (hbox)
         have n2_:=zm ((by rw[hg];exact(below_size (by repeat(first|(with_reducible first|exact HB.out|apply zA|apply zD|apply zE)|exact HB.out))):w.heap.size≤gb356))
         have n3_:=zm ((by rw[hg];exact(below_size (by repeat(first|(with_reducible first|exact HB.out|apply zA|apply zD|apply zE)|exact HB.out))):w.heap.size≤gb356))
         clear HB
         have HB:=n0_
         have BK356:=n1_
         have GW356:=n2_
         have GE356:=n3_
         clear n0_ n1_ n2_ n3_ hb hbox hg
         refine hK.out _ _ ⟨((HB.out.cell (World.block_lt_of_cell? w _ hw354_0)).trans hw354_0),((HB.out.cell (World.block_lt_of_cell? w _ hw354_1)).trans hw354_1),((HB.out.cell (World.block_lt_of_cell? w _ hw354_2)).trans hw354_2),((HB.out.cell (World.block_lt_of_cell? w _ hw354_3)).trans hw354_3),((HB.out.cell (World.block_lt_of_cell? w _ hw354_4)).trans hw354_4),((HB.out.cell (World.block_lt_of_cell? w _ hw355_0)).trans hw355_0),((HB.out.cell (World.block_lt_of_cell? w _ hw355_1)).trans hw355_1),((HB.out.cell (World.block_lt_of_cell? w _ hw355_2)).trans hw355_2),((HB.out.cell (World.block_lt_of_cell? w _ hw355_3)).trans hw355_3),((HB.out.cell (World.block_lt_of_cell? w _ hw355_4)).trans hw355_4)⟩ (fun hHeld=>?_)
         clear hK K
         refine norm_ (a':=?_) ?_ ?_
         rotate_left
         ·show Act.put _ (some 6) _=_
          simp only[Act.put,zx,zy,zz,i64_w,i32_w]
          rfl
         refine one_ (i:=9) (N:=some 7) #[true,true,true,true,true,true,true,true,true,true,false,false] rfl rfl (one_of HT_.out (by kernel_rfl)) (by decide) (fun K hK=>?_)
         refine box_step ?hg (N:=7) ?hd (cs:=#[.int .i64 0,.bool false,.int .i64 0,.int .i64 0,.slice none 0 0]) (t:=104) ?hr ?_;(case hd=>rfl);(case hg=>rfl);(case hr=>first|(go_simp;done)|(go_simp;rfl))
         intro gb357 hg w10 hbox hb
         have n0_:=zm (zb (g:=gb356) (by(with_reducible repeat first|apply zd|apply ze|apply za);exact BK356.out) hb)
         have n1_:=zm (below_step (by repeat(first|(with_reducible first|exact HB.out|apply zA|apply zD|apply zE|refine zS ?_ GE356.out)|exact HB.out)) hb)
         have n2_:=zm (hbox)
         have n3_:=zm ((by rw[hg];exact(below_size (by repeat(first|(with_reducible first|exact HB.out|apply zA|apply zD|apply zE|refine zS ?_ GE356.out)|exact HB.out))):w.heap.size≤gb357))
         have n4_:=zm ((by rw[hg];exact(below_size (by repeat(first|(with_reducible first|exact HB.out|apply zA|apply zD|apply zE|refine zS ?_ GE356.out)|exact HB.out))):w.heap.size≤gb357))
         have n5_:=zm ((by rw[hg];exact Nat.ne_of_lt (blk_lt (g:=gb356) (by(with_reducible repeat first|apply zd|apply ze|apply za);exact BK356.out)):gb356≠gb357))
         have n6_:=zm ((by rw[hg];exact Nat.ne_of_gt (blk_lt (g:=gb356) (by(with_reducible repeat first|apply zd|apply ze|apply za);exact BK356.out)):gb357≠gb356))
         clear BK356 HB
         have BK356:=n0_
         have HB:=n1_
         have BK357:=n2_
         have GW357:=n3_
         have GE357:=n4_
         have NB356_357:=n5_
         have NB357_356:=n6_
         clear n0_ n1_ n2_ n3_ n4_ n5_ n6_ hb hbox hg
         refine hK.out _ _ ⟨((HB.out.cell (World.block_lt_of_cell? w _ hw354_0)).trans hw354_0),((HB.out.cell (World.block_lt_of_cell? w _ hw354_1)).trans hw354_1),((HB.out.cell (World.block_lt_of_cell? w _ hw354_2)).trans hw354_2),((HB.out.cell (World.block_lt_of_cell? w _ hw354_3)).trans hw354_3),((HB.out.cell (World.block_lt_of_cell? w _ hw354_4)).trans hw354_4),((HB.out.cell (World.block_lt_of_cell? w _ hw355_0)).trans hw355_0),((HB.out.cell (World.block_lt_of_cell? w _ hw355_1)).trans hw355_1),((HB.out.cell (World.block_lt_of_cell? w _ hw355_2)).trans hw355_2),((HB.out.cell (World.block_lt_of_cell? w _ hw355_3)).trans hw355_3),((HB.out.cell (World.block_lt_of_cell? w _ hw355_4)).trans hw355_4)⟩ (fun hHeld=>?_)
         clear hK K
         refine norm_ (a':=?_) ?_ ?_
         rotate_left
         ·show Act.put _ (some 7) _=_
          simp only[Act.put,zx,zy,zz,i64_w,i32_w]
          rfl
         exact norm_ (by simp only[putAll,Act.put,zx,zy,zz]) (hCont (gb356,gb357) _ ⟨hHeld,(by(with_reducible repeat first|apply zd|apply ze|apply za);exact BK356.out),(by(with_reducible repeat first|apply zd|apply ze|apply za);exact BK357.out),GW356.out,GE356.out,NB357_356.out,NB356_357.out,GW357.out,GE357.out,(by repeat(first|(with_reducible first|exact HB.out|apply zA|apply zD|apply zE|refine zS ?_ GE356.out|refine zS ?_ GE357.out)|exact HB.out))⟩)
        ·skip
         refine box_step ?hg (N:=7) ?hd (cs:=#[.int .i64 0,.bool false,.int .i64 0,.int .i64 0,.slice none 0 0]) (t:=104) ?hr ?_;(case hd=>rfl);(case hg=>rfl);(case hr=>first|(go_simp;done)|(go_simp;rfl))
         intro gb357 hg w9 hbox hb
         have n0_:=zm (below_step (by repeat(first|(with_reducible first|exact HB.out|apply zA|apply zD|apply zE)|exact HB.out)) hb)
         have n1_:=zm (hbox)
         have n2_:=zm ((by rw[hg];exact(below_size (by repeat(first|(with_reducible first|exact HB.out|apply zA|apply zD|apply zE)|exact HB.out))):w.heap.size≤gb357))
         have n3_:=zm ((by rw[hg];exact(below_size (by repeat(first|(with_reducible first|exact HB.out|apply zA|apply zD|apply zE)|exact HB.out))):w.heap.size≤gb357))
         clear HB
         have HB:=n0_
         have BK357:=n1_
         have GW357:=n2_
         have GE357:=n3_
         clear n0_ n1_ n2_ n3_ hb hbox hg
         refine hK.out _ _ ⟨((HB.out.cell (World.block_lt_of_cell? w _ hw354_0)).trans hw354_0),((HB.out.cell (World.block_lt_of_cell? w _ hw354_1)).trans hw354_1),((HB.out.cell (World.block_lt_of_cell? w _ hw354_2)).trans hw354_2),((HB.out.cell (World.block_lt_of_cell? w _ hw354_3)).trans hw354_3),((HB.out.cell (World.block_lt_of_cell? w _ hw354_4)).trans hw354_4),((HB.out.cell (World.block_lt_of_cell? w _ hw355_0)).trans hw355_0),((HB.out.cell (World.block_lt_of_cell? w _ hw355_1)).trans hw355_1),((HB.out.cell (World.block_lt_of_cell? w _ hw355_2)).trans hw355_2),((HB.out.cell (World.block_lt_of_cell? w _ hw355_3)).trans hw355_3),((HB.out.cell (World.block_lt_of_cell? w _ hw355_4)).trans hw355_4)⟩ (fun hHeld=>?_)
         clear hK K
         refine norm_ (a':=?_) ?_ ?_
         rotate_left
         ·show Act.put _ (some 7) _=_
          simp only[Act.put,zx,zy,zz,i64_w,i32_w]
          rfl
         refine one_ (i:=8) (N:=some 6) #[true,true,true,true,true,true,true,true,true,true,false,false] rfl rfl (one_of HT_.out (by kernel_rfl)) (by decide) (fun K hK=>?_)
         refine box_step ?hg (N:=6) ?hd (cs:=#[.int .i64 0,.bool false,.int .i64 0,.int .i64 0,.slice none 0 0]) (t:=104) ?hr ?_;(case hd=>rfl);(case hg=>rfl);(case hr=>first|(go_simp;done)|(go_simp;rfl))
         intro gb356 hg w10 hbox hb
         have n0_:=zm (zb (g:=gb357) (by(with_reducible repeat first|apply zd|apply ze|apply za);exact BK357.out) hb)
         have n1_:=zm (below_step (by repeat(first|(with_reducible first|exact HB.out|apply zA|apply zD|apply zE|refine zS ?_ GE357.out)|exact HB.out)) hb)
         have n2_:=zm (hbox)
         have n3_:=zm ((by rw[hg];exact(below_size (by repeat(first|(with_reducible first|exact HB.out|apply zA|apply zD|apply zE|refine zS ?_ GE357.out)|exact HB.out))):w.heap.size≤gb356))
         have n4_:=zm ((by rw[hg];exact(below_size (by repeat(first|(with_reducible first|exact HB.out|apply zA|apply zD|apply zE|refine zS ?_ GE357.out)|exact HB.out))):w.heap.size≤gb356))
         have n5_:=zm ((by rw[hg];exact Nat.ne_of_lt (blk_lt (g:=gb357) (by(with_reducible repeat first|apply zd|apply ze|apply za);exact BK357.out)):gb357≠gb356))
         have n6_:=zm ((by rw[hg];exact Nat.ne_of_gt (blk_lt (g:=gb357) (by(with_reducible repeat first|apply zd|apply ze|apply za);exact BK357.out)):gb356≠gb357))
         clear BK357 HB
         have BK357:=n0_
         have HB:=n1_
         have BK356:=n2_
         have GW356:=n3_
         have GE356:=n4_
         have NB357_356:=n5_
         have NB356_357:=n6_
         clear n0_ n1_ n2_ n3_ n4_ n5_ n6_ hb hbox hg
         refine hK.out _ _ ⟨((HB.out.cell (World.block_lt_of_cell? w _ hw354_0)).trans hw354_0),((HB.out.cell (World.block_lt_of_cell? w _ hw354_1)).trans hw354_1),((HB.out.cell (World.block_lt_of_cell? w _ hw354_2)).trans hw354_2),((HB.out.cell (World.block_lt_of_cell? w _ hw354_3)).trans hw354_3),((HB.out.cell (World.block_lt_of_cell? w _ hw354_4)).trans hw354_4),((HB.out.cell (World.block_lt_of_cell? w _ hw355_0)).trans hw355_0),((HB.out.cell (World.block_lt_of_cell? w _ hw355_1)).trans hw355_1),((HB.out.cell (World.block_lt_of_cell? w _ hw355_2)).trans hw355_2),((HB.out.cell (World.block_lt_of_cell? w _ hw355_3)).trans hw355_3),((HB.out.cell (World.block_lt_of_cell? w _ hw355_4)).trans hw355_4)⟩ (fun hHeld=>?_)
         clear hK K
         refine norm_ (a':=?_) ?_ ?_
         rotate_left
         ·show Act.put _ (some 6) _=_
          simp only[Act.put,zx,zy,zz,i64_w,i32_w]
          rfl
         exact norm_ (by simp only[putAll,Act.put,zx,zy,zz]) (hCont (gb356,gb357) _ ⟨hHeld,(by(with_reducible repeat first|apply zd|apply ze|apply za);exact BK356.out),(by(with_reducible repeat first|apply zd|apply ze|apply za);exact BK357.out),GW356.out,GE356.out,NB357_356.out,NB356_357.out,GW357.out,GE357.out,(by repeat(first|(with_reducible first|exact HB.out|apply zA|apply zD|apply zE|refine zS ?_ GE357.out|refine zS ?_ GE356.out)|exact HB.out))⟩)
       rintro⟨gb356,gb357⟩ w11 ⟨hS_,h0_,h1_,h2_,h3_,h4_,h5_,h6_,h7_,h8_⟩
       have n0_:Aside0 (w11.heap[gb356]?=some (.cells #[.int .i64 0,.bool false,.int .i64 0,.int .i64 0,.slice none 0 0] 104 (0,0))):=⟨h0_⟩
       have n1_:Aside0 (w11.heap[gb357]?=some (.cells #[.int .i64 0,.bool false,.int .i64 0,.int .i64 0,.slice none 0 0] 104 (0,0))):=⟨h1_⟩
       have n2_:Aside0 (w.heap.size≤gb356):=⟨h2_⟩
       have n3_:Aside0 (w.heap.size≤gb356):=⟨h3_⟩
       have n4_:Aside0 (gb357≠gb356):=⟨h4_⟩
       have n5_:Aside0 (gb356≠gb357):=⟨h5_⟩
       have n6_:Aside0 (w.heap.size≤gb357):=⟨h6_⟩
       have n7_:Aside0 (w.heap.size≤gb357):=⟨h7_⟩
       have n8_:Aside0 (Below w.heap.size w w11):=⟨h8_⟩
       clear HB h0_ h1_ h2_ h3_ h4_ h5_ h6_ h7_ h8_
       have BK356:=n0_
       have BK357:=n1_
       have GW356:=n2_
       have GE356:=n3_
       have NB357_356:=n4_
       have NB356_357:=n5_
       have GW357:=n6_
       have GE357:=n7_
       have HB:=n8_
       clear n0_ n1_ n2_ n3_ n4_ n5_ n6_ n7_ n8_
       have hHeld:w11.cell? (ad354.add ((x5_1).toNat * 5))=some (.int .i64 ((rd_T104 l0 x5_1).f0))∧w11.cell? ⟨(ad354.add ((x5_1).toNat * 5)).block,(ad354.add ((x5_1).toNat * 5)).off+1,none⟩=some (.bool ((rd_T104 l0 x5_1).f1))∧w11.cell? ⟨(ad354.add ((x5_1).toNat * 5)).block,(ad354.add ((x5_1).toNat * 5)).off+2,none⟩=some (.int .i64 ((rd_T104 l0 x5_1).f2))∧w11.cell? ⟨(ad354.add ((x5_1).toNat * 5)).block,(ad354.add ((x5_1).toNat * 5)).off+3,none⟩=some (.int .i64 ((rd_T104 l0 x5_1).f3))∧w11.cell? ⟨(ad354.add ((x5_1).toNat * 5)).block,(ad354.add ((x5_1).toNat * 5)).off+4,none⟩=some (.slice A354_4 ((rd_T104 l0 x5_1).f4).length c354_4)∧w11.cell? (ad355.add ((x5_1).toNat * 5))=some (.int .i64 ((rd_T104 l1 x5_1).f0))∧w11.cell? ⟨(ad355.add ((x5_1).toNat * 5)).block,(ad355.add ((x5_1).toNat * 5)).off+1,none⟩=some (.bool ((rd_T104 l1 x5_1).f1))∧w11.cell? ⟨(ad355.add ((x5_1).toNat * 5)).block,(ad355.add ((x5_1).toNat * 5)).off+2,none⟩=some (.int .i64 ((rd_T104 l1 x5_1).f2))∧w11.cell? ⟨(ad355.add ((x5_1).toNat * 5)).block,(ad355.add ((x5_1).toNat * 5)).off+3,none⟩=some (.int .i64 ((rd_T104 l1 x5_1).f3))∧w11.cell? ⟨(ad355.add ((x5_1).toNat * 5)).block,(ad355.add ((x5_1).toNat * 5)).off+4,none⟩=some (.slice A355_4 ((rd_T104 l1 x5_1).f4).length c355_4):=hS_
       refine norm_ (a':=?_) ?_ ?_
       rotate_left
       ·simp only[putAll,Act.put,zx,zy,zz]
        rfl
       refine one_ (i:=10) (N:=none) #[true,true,true,true,true,true,true,true,true,true,true,false] rfl rfl (one_of HT_.out (by kernel_rfl)) (by decide) (fun K hK=>?_)
       have hs12:=zc BK356.out 0 (.int .i64 0) rfl
       have hfs12:=zf BK356.out 0
       have hns12_1:=NB357_356.out
       have hms12_1:=NB356_357.out
       have hs13:=zc BK356.out 1 (.bool false) rfl
       have hfs13:=zf BK356.out 1
       have hns13_1:=NB357_356.out
       have hms13_1:=NB356_357.out
       have hs14:=zc BK356.out 2 (.int .i64 0) rfl
       have hfs14:=zf BK356.out 2
       have hns14_1:=NB357_356.out
       have hms14_1:=NB356_357.out
       have hs15:=zc BK356.out 3 (.int .i64 0) rfl
       have hfs15:=zf BK356.out 3
       have hns15_1:=NB357_356.out
       have hms15_1:=NB356_357.out
       have hs16:=zc BK356.out 4 (.slice none 0 0) rfl
       have hfs16:=zf BK356.out 4
       have hns16_1:=NB357_356.out
       have hms16_1:=NB356_357.out
       refine skip_ (w1:=?_) (by rfl) rfl ?_ ?_
       rotate_left
       ·go_simp
        rfl
       refine hK.out _ _ ⟨((cell_far (p:=⟨gb356,_,none⟩) (zl hw354_0 GW356.out) _).trans (((cell_far (p:=⟨gb356,_,none⟩) (zl hw354_0 GW356.out) _).trans (((cell_far (p:=⟨gb356,_,none⟩) (zl hw354_0 GW356.out) _).trans (((cell_far (p:=⟨gb356,_,none⟩) (zl hw354_0 GW356.out) _).trans (((cell_far (p:=⟨gb356,_,none⟩) (zl hw354_0 GW356.out) _).trans (hHeld.1)))))))))),((cell_far (p:=⟨gb356,_,none⟩) (zl hw354_1 GW356.out) _).trans (((cell_far (p:=⟨gb356,_,none⟩) (zl hw354_1 GW356.out) _).trans (((cell_far (p:=⟨gb356,_,none⟩) (zl hw354_1 GW356.out) _).trans (((cell_far (p:=⟨gb356,_,none⟩) (zl hw354_1 GW356.out) _).trans (((cell_far (p:=⟨gb356,_,none⟩) (zl hw354_1 GW356.out) _).trans (hHeld.2.1)))))))))),((cell_far (p:=⟨gb356,_,none⟩) (zl hw354_2 GW356.out) _).trans (((cell_far (p:=⟨gb356,_,none⟩) (zl hw354_2 GW356.out) _).trans (((cell_far (p:=⟨gb356,_,none⟩) (zl hw354_2 GW356.out) _).trans (((cell_far (p:=⟨gb356,_,none⟩) (zl hw354_2 GW356.out) _).trans (((cell_far (p:=⟨gb356,_,none⟩) (zl hw354_2 GW356.out) _).trans (hHeld.2.2.1)))))))))),((cell_far (p:=⟨gb356,_,none⟩) (zl hw354_3 GW356.out) _).trans (((cell_far (p:=⟨gb356,_,none⟩) (zl hw354_3 GW356.out) _).trans (((cell_far (p:=⟨gb356,_,none⟩) (zl hw354_3 GW356.out) _).trans (((cell_far (p:=⟨gb356,_,none⟩) (zl hw354_3 GW356.out) _).trans (((cell_far (p:=⟨gb356,_,none⟩) (zl hw354_3 GW356.out) _).trans (hHeld.2.2.2.1)))))))))),((cell_far (p:=⟨gb356,_,none⟩) (zl hw354_4 GW356.out) _).trans (((cell_far (p:=⟨gb356,_,none⟩) (zl hw354_4 GW356.out) _).trans (((cell_far (p:=⟨gb356,_,none⟩) (zl hw354_4 GW356.out) _).trans (((cell_far (p:=⟨gb356,_,none⟩) (zl hw354_4 GW356.out) _).trans (((cell_far (p:=⟨gb356,_,none⟩) (zl hw354_4 GW356.out) _).trans (hHeld.2.2.2.2.1)))))))))),((cell_far (p:=⟨gb356,_,none⟩) (zl hw355_0 GW356.out) _).trans (((cell_far (p:=⟨gb356,_,none⟩) (zl hw355_0 GW356.out) _).trans (((cell_far (p:=⟨gb356,_,none⟩) (zl hw355_0 GW356.out) _).trans (((cell_far (p:=⟨gb356,_,none⟩) (zl hw355_0 GW356.out) _).trans (((cell_far (p:=⟨gb356,_,none⟩) (zl hw355_0 GW356.out) _).trans (hHeld.2.2.2.2.2.1)))))))))),((cell_far (p:=⟨gb356,_,none⟩) (zl hw355_1 GW356.out) _).trans (((cell_far (p:=⟨gb356,_,none⟩) (zl hw355_1 GW356.out) _).trans (((cell_far (p:=⟨gb356,_,none⟩) (zl hw355_1 GW356.out) _).trans (((cell_far (p:=⟨gb356,_,none⟩) (zl hw355_1 GW356.out) _).trans (((cell_far (p:=⟨gb356,_,none⟩) (zl hw355_1 GW356.out) _).trans (hHeld.2.2.2.2.2.2.1)))))))))),((cell_far (p:=⟨gb356,_,none⟩) (zl hw355_2 GW356.out) _).trans (((cell_far (p:=⟨gb356,_,none⟩) (zl hw355_2 GW356.out) _).trans (((cell_far (p:=⟨gb356,_,none⟩) (zl hw355_2 GW356.out) _).trans (((cell_far (p:=⟨gb356,_,none⟩) (zl hw355_2 GW356.out) _).trans (((cell_far (p:=⟨gb356,_,none⟩) (zl hw355_2 GW356.out) _).trans (hHeld.2.2.2.2.2.2.2.1)))))))))),((cell_far (p:=⟨gb356,_,none⟩) (zl hw355_3 GW356.out) _).trans (((cell_far (p:=⟨gb356,_,none⟩) (zl hw355_3 GW356.out) _).trans (((cell_far (p:=⟨gb356,_,none⟩) (zl hw355_3 GW356.out) _).trans (((cell_far (p:=⟨gb356,_,none⟩) (zl hw355_3 GW356.out) _).trans (((cell_far (p:=⟨gb356,_,none⟩) (zl hw355_3 GW356.out) _).trans (hHeld.2.2.2.2.2.2.2.2.1)))))))))),((cell_far (p:=⟨gb356,_,none⟩) (zl hw355_4 GW356.out) _).trans (((cell_far (p:=⟨gb356,_,none⟩) (zl hw355_4 GW356.out) _).trans (((cell_far (p:=⟨gb356,_,none⟩) (zl hw355_4 GW356.out) _).trans (((cell_far (p:=⟨gb356,_,none⟩) (zl hw355_4 GW356.out) _).trans (((cell_far (p:=⟨gb356,_,none⟩) (zl hw355_4 GW356.out) _).trans (hHeld.2.2.2.2.2.2.2.2.2))))))))))⟩ (fun hHeld=>?_)
       clear hK K
       refine one_ (i:=11) (N:=none) #[true,true,true,true,true,true,true,true,true,true,true,true] rfl rfl (one_of HT_.out (by kernel_rfl)) (by decide) (fun K hK=>?_)
       have hs17:=zc BK357.out 0 (.int .i64 0) rfl
       have hfs17:=zf BK357.out 0
       have hns17_0:=NB356_357.out
       have hms17_0:=NB357_356.out
       have hs18:=zc BK357.out 1 (.bool false) rfl
       have hfs18:=zf BK357.out 1
       have hns18_0:=NB356_357.out
       have hms18_0:=NB357_356.out
       have hs19:=zc BK357.out 2 (.int .i64 0) rfl
       have hfs19:=zf BK357.out 2
       have hns19_0:=NB356_357.out
       have hms19_0:=NB357_356.out
       have hs20:=zc BK357.out 3 (.int .i64 0) rfl
       have hfs20:=zf BK357.out 3
       have hns20_0:=NB356_357.out
       have hms20_0:=NB357_356.out
       have hs21:=zc BK357.out 4 (.slice none 0 0) rfl
       have hfs21:=zf BK357.out 4
       have hns21_0:=NB356_357.out
       have hms21_0:=NB357_356.out
       refine skip_ (w1:=?_) (by rfl) rfl ?_ ?_
       rotate_left
       ·go_simp
        rfl
       refine hK.out _ _ ⟨((cell_far (p:=⟨gb357,_,none⟩) (zl hw354_0 GW357.out) _).trans (((cell_far (p:=⟨gb357,_,none⟩) (zl hw354_0 GW357.out) _).trans (((cell_far (p:=⟨gb357,_,none⟩) (zl hw354_0 GW357.out) _).trans (((cell_far (p:=⟨gb357,_,none⟩) (zl hw354_0 GW357.out) _).trans (((cell_far (p:=⟨gb357,_,none⟩) (zl hw354_0 GW357.out) _).trans (hHeld.1)))))))))),((cell_far (p:=⟨gb357,_,none⟩) (zl hw354_1 GW357.out) _).trans (((cell_far (p:=⟨gb357,_,none⟩) (zl hw354_1 GW357.out) _).trans (((cell_far (p:=⟨gb357,_,none⟩) (zl hw354_1 GW357.out) _).trans (((cell_far (p:=⟨gb357,_,none⟩) (zl hw354_1 GW357.out) _).trans (((cell_far (p:=⟨gb357,_,none⟩) (zl hw354_1 GW357.out) _).trans (hHeld.2.1)))))))))),((cell_far (p:=⟨gb357,_,none⟩) (zl hw354_2 GW357.out) _).trans (((cell_far (p:=⟨gb357,_,none⟩) (zl hw354_2 GW357.out) _).trans (((cell_far (p:=⟨gb357,_,none⟩) (zl hw354_2 GW357.out) _).trans (((cell_far (p:=⟨gb357,_,none⟩) (zl hw354_2 GW357.out) _).trans (((cell_far (p:=⟨gb357,_,none⟩) (zl hw354_2 GW357.out) _).trans (hHeld.2.2.1)))))))))),((cell_far (p:=⟨gb357,_,none⟩) (zl hw354_3 GW357.out) _).trans (((cell_far (p:=⟨gb357,_,none⟩) (zl hw354_3 GW357.out) _).trans (((cell_far (p:=⟨gb357,_,none⟩) (zl hw354_3 GW357.out) _).trans (((cell_far (p:=⟨gb357,_,none⟩) (zl hw354_3 GW357.out) _).trans (((cell_far (p:=⟨gb357,_,none⟩) (zl hw354_3 GW357.out) _).trans (hHeld.2.2.2.1)))))))))),((cell_far (p:=⟨gb357,_,none⟩) (zl hw354_4 GW357.out) _).trans (((cell_far (p:=⟨gb357,_,none⟩) (zl hw354_4 GW357.out) _).trans (((cell_far (p:=⟨gb357,_,none⟩) (zl hw354_4 GW357.out) _).trans (((cell_far (p:=⟨gb357,_,none⟩) (zl hw354_4 GW357.out) _).trans (((cell_far (p:=⟨gb357,_,none⟩) (zl hw354_4 GW357.out) _).trans (hHeld.2.2.2.2.1)))))))))),((cell_far (p:=⟨gb357,_,none⟩) (zl hw355_0 GW357.out) _).trans (((cell_far (p:=⟨gb357,_,none⟩) (zl hw355_0 GW357.out) _).trans (((cell_far (p:=⟨gb357,_,none⟩) (zl hw355_0 GW357.out) _).trans (((cell_far (p:=⟨gb357,_,none⟩) (zl hw355_0 GW357.out) _).trans (((cell_far (p:=⟨gb357,_,none⟩) (zl hw355_0 GW357.out) _).trans (hHeld.2.2.2.2.2.1)))))))))),((cell_far (p:=⟨gb357,_,none⟩) (zl hw355_1 GW357.out) _).trans (((cell_far (p:=⟨gb357,_,none⟩) (zl hw355_1 GW357.out) _).trans (((cell_far (p:=⟨gb357,_,none⟩) (zl hw355_1 GW357.out) _).trans (((cell_far (p:=⟨gb357,_,none⟩) (zl hw355_1 GW357.out) _).trans (((cell_far (p:=⟨gb357,_,none⟩) (zl hw355_1 GW357.out) _).trans (hHeld.2.2.2.2.2.2.1)))))))))),((cell_far (p:=⟨gb357,_,none⟩) (zl hw355_2 GW357.out) _).trans (((cell_far (p:=⟨gb357,_,none⟩) (zl hw355_2 GW357.out) _).trans (((cell_far (p:=⟨gb357,_,none⟩) (zl hw355_2 GW357.out) _).trans (((cell_far (p:=⟨gb357,_,none⟩) (zl hw355_2 GW357.out) _).trans (((cell_far (p:=⟨gb357,_,none⟩) (zl hw355_2 GW357.out) _).trans (hHeld.2.2.2.2.2.2.2.1)))))))))),((cell_far (p:=⟨gb357,_,none⟩) (zl hw355_3 GW357.out) _).trans (((cell_far (p:=⟨gb357,_,none⟩) (zl hw355_3 GW357.out) _).trans (((cell_far (p:=⟨gb357,_,none⟩) (zl hw355_3 GW357.out) _).trans (((cell_far (p:=⟨gb357,_,none⟩) (zl hw355_3 GW357.out) _).trans (((cell_far (p:=⟨gb357,_,none⟩) (zl hw355_3 GW357.out) _).trans (hHeld.2.2.2.2.2.2.2.2.1)))))))))),((cell_far (p:=⟨gb357,_,none⟩) (zl hw355_4 GW357.out) _).trans (((cell_far (p:=⟨gb357,_,none⟩) (zl hw355_4 GW357.out) _).trans (((cell_far (p:=⟨gb357,_,none⟩) (zl hw355_4 GW357.out) _).trans (((cell_far (p:=⟨gb357,_,none⟩) (zl hw355_4 GW357.out) _).trans (((cell_far (p:=⟨gb357,_,none⟩) (zl hw355_4 GW357.out) _).trans (hHeld.2.2.2.2.2.2.2.2.2))))))))))⟩ (fun hHeld=>?_)
       clear hK K
       refine done_ (done_of HT_.out (by kernel_rfl)) ?_
       go_upto_region 7 with (fail)
       go_cut [62] (fun v62 wc=>∃(kq:Nat) (x62_6:Bool),v62=.bool x62_6∧Aside0 (mr_SameFrames.j1 kq l0 l1 x5_1 x62_6 ((rd_T104 l0 x5_1).f0) ((rd_T104 l0 x5_1).f1) ((rd_T104 l0 x5_1).f2) ((rd_T104 l0 x5_1).f3) ((rd_T104 l0 x5_1).f4) ((rd_T104 l1 x5_1).f0) ((rd_T104 l1 x5_1).f1) ((rd_T104 l1 x5_1).f2) ((rd_T104 l1 x5_1).f3) ((rd_T104 l1 x5_1).f4)=some r)∧Aside0 (kq≤k1)∧Aside0 (wc.heap[gb356]?=some (.cells #[.int .i64 ((rd_T104 l0 x5_1).f0),.bool ((rd_T104 l0 x5_1).f1),.int .i64 ((rd_T104 l0 x5_1).f2),.int .i64 ((rd_T104 l0 x5_1).f3),(.slice A354_4 ((rd_T104 l0 x5_1).f4).length c354_4)] 104 (0,0)))∧Aside0 (wc.heap[gb357]?=some (.cells #[.int .i64 ((rd_T104 l1 x5_1).f0),.bool ((rd_T104 l1 x5_1).f1),.int .i64 ((rd_T104 l1 x5_1).f2),.int .i64 ((rd_T104 l1 x5_1).f3),(.slice A355_4 ((rd_T104 l1 x5_1).f4).length c355_4)] 104 (0,0)))∧Aside0 (Below w.heap.size w wc))
       case first=>
        have H:=HC7.out
        clear HC7
        by_cases c22:((rd_T104 l0 x5_1).f0)=((rd_T104 l1 x5_1).f0)
        ·rw[if_pos c22] at H
         have c22b0:(((rd_T104 l0 x5_1).f0)==((rd_T104 l1 x5_1).f0))=true:=beq_iff_eq.mpr c22
         have c22b1:(((rd_T104 l0 x5_1).f0) != ((rd_T104 l1 x5_1).f0))=false:=bne_eq_false_iff_eq.mpr c22
         clear c22
         (first|rw[c22b0]|(simp only[i64_w,i32_w];rw[c22b0])|(rw[c22b2];try simp only[Bool.not_true,Bool.not_false])|skip)
         by_cases c23:(((rd_T104 l0 x5_1).f1) != ((rd_T104 l1 x5_1).f1))=true
         ·rw[if_pos c23] at H
          have c23b0:(((rd_T104 l0 x5_1).f1) != ((rd_T104 l1 x5_1).f1))=true:=c23
          (try(have c23b1:decide (((rd_T104 l0 x5_1).f1)=((rd_T104 l1 x5_1).f1))=false:=by simpa using c23))
          (try(have c23b2:(((rd_T104 l0 x5_1).f1)==((rd_T104 l1 x5_1).f1))=false:=by simpa using c23))
          (try(have c23b3:¬(((rd_T104 l0 x5_1).f1)=((rd_T104 l1 x5_1).f1)):=by simpa using c23))
          clear c23
          have H':=zm H
          clear H
          have hnb24:=NB356_357.out
          have hnc24:=NB357_356.out
          have hcz25_0:=zc BK356.out 0 (.int .i64 0) rfl
          have hcz25_1:=zc BK356.out 1 (.bool false) rfl
          have hcz25_2:=zc BK356.out 2 (.int .i64 0) rfl
          have hcz25_3:=zc BK356.out 3 (.int .i64 0) rfl
          have hcz25_4:=zc BK356.out 4 (.slice none 0 0) rfl
          have hfz25_0:=zf BK356.out 0
          have hfz25_1:=zf BK356.out 1
          have hfz25_2:=zf BK356.out 2
          have hfz25_3:=zf BK356.out 3
          have hfz25_4:=zf BK356.out 4
          have hcz26_0:=zc BK357.out 0 (.int .i64 0) rfl
          have hcz26_1:=zc BK357.out 1 (.bool false) rfl
          have hcz26_2:=zc BK357.out 2 (.int .i64 0) rfl
          have hcz26_3:=zc BK357.out 3 (.int .i64 0) rfl
          have hcz26_4:=zc BK357.out 4 (.slice none 0 0) rfl
          have hfz26_0:=zf BK357.out 0
          have hfz26_1:=zf BK357.out 1
          have hfz26_2:=zf BK357.out 2
          have hfz26_3:=zf BK357.out 3
          have hfz26_4:=zf BK357.out 4
          go_wp2
          go_meet
          case rel=>exact⟨_,(true),(by first|rfl|(simp;done)|(simp[*];done)),H',⟨by have:=HK1.out;first|omega|exact Nat.le_refl _⟩,⟨by(with_reducible repeat first|apply zd|apply ze|apply za);refine blk_far ?_ NB356_357.out _;(with_reducible repeat first|apply zd|apply ze|apply za);refine blk_far ?_ NB356_357.out _;(with_reducible repeat first|apply zd|apply ze|apply za);refine blk_far ?_ NB356_357.out _;(with_reducible repeat first|apply zd|apply ze|apply za);refine blk_far ?_ NB356_357.out _;(with_reducible repeat first|apply zd|apply ze|apply za);refine blk_far ?_ NB356_357.out _;(with_reducible repeat first|apply zd|apply ze|apply za);refine blk_put (cs:=#[.int .i64 ((rd_T104 l0 x5_1).f0),.bool ((rd_T104 l0 x5_1).f1),.int .i64 ((rd_T104 l0 x5_1).f2),.int .i64 ((rd_T104 l0 x5_1).f3),.slice none 0 0]) ?_ 4 _ rfl;(with_reducible repeat first|apply zd|apply ze|apply za);refine blk_put (cs:=#[.int .i64 ((rd_T104 l0 x5_1).f0),.bool ((rd_T104 l0 x5_1).f1),.int .i64 ((rd_T104 l0 x5_1).f2),.int .i64 0,.slice none 0 0]) ?_ 3 _ rfl;(with_reducible repeat first|apply zd|apply ze|apply za);refine blk_put (cs:=#[.int .i64 ((rd_T104 l0 x5_1).f0),.bool ((rd_T104 l0 x5_1).f1),.int .i64 0,.int .i64 0,.slice none 0 0]) ?_ 2 _ rfl;(with_reducible repeat first|apply zd|apply ze|apply za);refine blk_put (cs:=#[.int .i64 ((rd_T104 l0 x5_1).f0),.bool false,.int .i64 0,.int .i64 0,.slice none 0 0]) ?_ 1 _ rfl;(with_reducible repeat first|apply zd|apply ze|apply za);refine blk_put (cs:=#[.int .i64 0,.bool false,.int .i64 0,.int .i64 0,.slice none 0 0]) ?_ 0 _ rfl;(with_reducible repeat first|apply zd|apply ze|apply za);exact BK356.out⟩,⟨by(with_reducible repeat first|apply zd|apply ze|apply za);refine blk_put (cs:=#[.int .i64 ((rd_T104 l1 x5_1).f0),.bool ((rd_T104 l1 x5_1).f1),.int .i64 ((rd_T104 l1 x5_1).f2),.int .i64 ((rd_T104 l1 x5_1).f3),.slice none 0 0]) ?_ 4 _ rfl;(with_reducible repeat first|apply zd|apply ze|apply za);refine blk_put (cs:=#[.int .i64 ((rd_T104 l1 x5_1).f0),.bool ((rd_T104 l1 x5_1).f1),.int .i64 ((rd_T104 l1 x5_1).f2),.int .i64 0,.slice none 0 0]) ?_ 3 _ rfl;(with_reducible repeat first|apply zd|apply ze|apply za);refine blk_put (cs:=#[.int .i64 ((rd_T104 l1 x5_1).f0),.bool ((rd_T104 l1 x5_1).f1),.int .i64 0,.int .i64 0,.slice none 0 0]) ?_ 2 _ rfl;(with_reducible repeat first|apply zd|apply ze|apply za);refine blk_put (cs:=#[.int .i64 ((rd_T104 l1 x5_1).f0),.bool false,.int .i64 0,.int .i64 0,.slice none 0 0]) ?_ 1 _ rfl;(with_reducible repeat first|apply zd|apply ze|apply za);refine blk_put (cs:=#[.int .i64 0,.bool false,.int .i64 0,.int .i64 0,.slice none 0 0]) ?_ 0 _ rfl;(with_reducible repeat first|apply zd|apply ze|apply za);refine blk_far ?_ NB357_356.out _;(with_reducible repeat first|apply zd|apply ze|apply za);refine blk_far ?_ NB357_356.out _;(with_reducible repeat first|apply zd|apply ze|apply za);refine blk_far ?_ NB357_356.out _;(with_reducible repeat first|apply zd|apply ze|apply za);refine blk_far ?_ NB357_356.out _;(with_reducible repeat first|apply zd|apply ze|apply za);refine blk_far ?_ NB357_356.out _;(with_reducible repeat first|apply zd|apply ze|apply za);exact BK357.out⟩,⟨by repeat(first|(with_reducible first|exact HB.out|apply zA|apply zD|apply zE|refine zS ?_ GE356.out|refine zS ?_ GE357.out)|exact HB.out)⟩⟩
         ·rw[if_neg c23] at H
          have c23b0:(((rd_T104 l0 x5_1).f1) != ((rd_T104 l1 x5_1).f1))=false:=by simpa using c23
          (try(have c23b1:decide (((rd_T104 l0 x5_1).f1)=((rd_T104 l1 x5_1).f1))=true:=by simpa using c23))
          (try(have c23b2:(((rd_T104 l0 x5_1).f1)==((rd_T104 l1 x5_1).f1))=true:=by simpa using c23))
          clear c23
          by_cases c27:((rd_T104 l0 x5_1).f2)=((rd_T104 l1 x5_1).f2)
          ·rw[if_pos c27] at H
           have c27b0:(((rd_T104 l0 x5_1).f2)==((rd_T104 l1 x5_1).f2))=true:=beq_iff_eq.mpr c27
           have c27b1:(((rd_T104 l0 x5_1).f2) != ((rd_T104 l1 x5_1).f2))=false:=bne_eq_false_iff_eq.mpr c27
           clear c27
           by_cases c28:((rd_T104 l0 x5_1).f3)=((rd_T104 l1 x5_1).f3)
           ·rw[if_pos c28] at H
            have c28b0:(((rd_T104 l0 x5_1).f3)==((rd_T104 l1 x5_1).f3))=true:=beq_iff_eq.mpr c28
            have c28b1:(((rd_T104 l0 x5_1).f3) != ((rd_T104 l1 x5_1).f3))=false:=bne_eq_false_iff_eq.mpr c28
            clear c28
            have H':=zm H
            clear H
            have hnb29:=NB356_357.out
            have hnc29:=NB357_356.out
            have hcz30_0:=zc BK356.out 0 (.int .i64 0) rfl
            have hcz30_1:=zc BK356.out 1 (.bool false) rfl
            have hcz30_2:=zc BK356.out 2 (.int .i64 0) rfl
            have hcz30_3:=zc BK356.out 3 (.int .i64 0) rfl
            have hcz30_4:=zc BK356.out 4 (.slice none 0 0) rfl
            have hfz30_0:=zf BK356.out 0
            have hfz30_1:=zf BK356.out 1
            have hfz30_2:=zf BK356.out 2
            have hfz30_3:=zf BK356.out 3
            have hfz30_4:=zf BK356.out 4
            have hcz31_0:=zc BK357.out 0 (.int .i64 0) rfl
            have hcz31_1:=zc BK357.out 1 (.bool false) rfl
            have hcz31_2:=zc BK357.out 2 (.int .i64 0) rfl
            have hcz31_3:=zc BK357.out 3 (.int .i64 0) rfl
            have hcz31_4:=zc BK357.out 4 (.slice none 0 0) rfl
            have hfz31_0:=zf BK357.out 0
            have hfz31_1:=zf BK357.out 1
            have hfz31_2:=zf BK357.out 2
            have hfz31_3:=zf BK357.out 3
            have hfz31_4:=zf BK357.out 4
            go_wp2
            go_meet
            case rel=>exact⟨_,(((((rd_T104 l0 x5_1).f4).length:Int) != (((rd_T104 l1 x5_1).f4).length:Int))),(by first|rfl|(simp;done)|(simp[*];done)),H',⟨by have:=HK1.out;first|omega|exact Nat.le_refl _⟩,⟨by(with_reducible repeat first|apply zd|apply ze|apply za);refine blk_far ?_ NB356_357.out _;(with_reducible repeat first|apply zd|apply ze|apply za);refine blk_far ?_ NB356_357.out _;(with_reducible repeat first|apply zd|apply ze|apply za);refine blk_far ?_ NB356_357.out _;(with_reducible repeat first|apply zd|apply ze|apply za);refine blk_far ?_ NB356_357.out _;(with_reducible repeat first|apply zd|apply ze|apply za);refine blk_far ?_ NB356_357.out _;(with_reducible repeat first|apply zd|apply ze|apply za);refine blk_put (cs:=#[.int .i64 ((rd_T104 l0 x5_1).f0),.bool ((rd_T104 l0 x5_1).f1),.int .i64 ((rd_T104 l0 x5_1).f2),.int .i64 ((rd_T104 l0 x5_1).f3),.slice none 0 0]) ?_ 4 _ rfl;(with_reducible repeat first|apply zd|apply ze|apply za);refine blk_put (cs:=#[.int .i64 ((rd_T104 l0 x5_1).f0),.bool ((rd_T104 l0 x5_1).f1),.int .i64 ((rd_T104 l0 x5_1).f2),.int .i64 0,.slice none 0 0]) ?_ 3 _ rfl;(with_reducible repeat first|apply zd|apply ze|apply za);refine blk_put (cs:=#[.int .i64 ((rd_T104 l0 x5_1).f0),.bool ((rd_T104 l0 x5_1).f1),.int .i64 0,.int .i64 0,.slice none 0 0]) ?_ 2 _ rfl;(with_reducible repeat first|apply zd|apply ze|apply za);refine blk_put (cs:=#[.int .i64 ((rd_T104 l0 x5_1).f0),.bool false,.int .i64 0,.int .i64 0,.slice none 0 0]) ?_ 1 _ rfl;(with_reducible repeat first|apply zd|apply ze|apply za);refine blk_put (cs:=#[.int .i64 0,.bool false,.int .i64 0,.int .i64 0,.slice none 0 0]) ?_ 0 _ rfl;(with_reducible repeat first|apply zd|apply ze|apply za);exact BK356.out⟩,⟨by(with_reducible repeat first|apply zd|apply ze|apply za);refine blk_put (cs:=#[.int .i64 ((rd_T104 l1 x5_1).f0),.bool ((rd_T104 l1 x5_1).f1),.int .i64 ((rd_T104 l1 x5_1).f2),.int .i64 ((rd_T104 l1 x5_1).f3),.slice none 0 0]) ?_ 4 _ rfl;(with_reducible repeat first|apply zd|apply ze|apply za);refine blk_put (cs:=#[.int .i64 ((rd_T104 l1 x5_1).f0),.bool ((rd_T104 l1 x5_1).f1),.int .i64 ((rd_T104 l1 x5_1).f2),.int .i64 0,.slice none 0 0]) ?_ 3 _ rfl;(with_reducible repeat first|apply zd|apply ze|apply za);refine blk_put (cs:=#[.int .i64 ((rd_T104 l1 x5_1).f0),.bool ((rd_T104 l1 x5_1).f1),.int .i64 0,.int .i64 0,.slice none 0 0]) ?_ 2 _ rfl;(with_reducible repeat first|apply zd|apply ze|apply za);refine blk_put (cs:=#[.int .i64 ((rd_T104 l1 x5_1).f0),.bool false,.int .i64 0,.int .i64 0,.slice none 0 0]) ?_ 1 _ rfl;(with_reducible repeat first|apply zd|apply ze|apply za);refine blk_put (cs:=#[.int .i64 0,.bool false,.int .i64 0,.int .i64 0,.slice none 0 0]) ?_ 0 _ rfl;(with_reducible repeat first|apply zd|apply ze|apply za);refine blk_far ?_ NB357_356.out _;(with_reducible repeat first|apply zd|apply ze|apply za);refine blk_far ?_ NB357_356.out _;(with_reducible repeat first|apply zd|apply ze|apply za);refine blk_far ?_ NB357_356.out _;(with_reducible repeat first|apply zd|apply ze|apply za);refine blk_far ?_ NB357_356.out _;(with_reducible repeat first|apply zd|apply ze|apply za);refine blk_far ?_ NB357_356.out _;(with_reducible repeat first|apply zd|apply ze|apply za);exact BK357.out⟩,⟨by repeat(first|(with_reducible first|exact HB.out|apply zA|apply zD|apply zE|refine zS ?_ GE356.out|refine zS ?_ GE357.out)|exact HB.out)⟩⟩
           ·rw[if_neg c28] at H
            have c28b0:(((rd_T104 l0 x5_1).f3)==((rd_T104 l1 x5_1).f3))=false:=beq_eq_false_iff_ne.mpr c28
            have c28b1:(((rd_T104 l0 x5_1).f3) != ((rd_T104 l1 x5_1).f3))=true:=bne_iff_ne.mpr c28
            have H':=zm H
            clear H
            have hnb32:=NB356_357.out
            have hnc32:=NB357_356.out
            have hcz33_0:=zc BK356.out 0 (.int .i64 0) rfl
            have hcz33_1:=zc BK356.out 1 (.bool false) rfl
            have hcz33_2:=zc BK356.out 2 (.int .i64 0) rfl
            have hcz33_3:=zc BK356.out 3 (.int .i64 0) rfl
            have hcz33_4:=zc BK356.out 4 (.slice none 0 0) rfl
            have hfz33_0:=zf BK356.out 0
            have hfz33_1:=zf BK356.out 1
            have hfz33_2:=zf BK356.out 2
            have hfz33_3:=zf BK356.out 3
            have hfz33_4:=zf BK356.out 4
            have hcz34_0:=zc BK357.out 0 (.int .i64 0) rfl
            have hcz34_1:=zc BK357.out 1 (.bool false) rfl
            have hcz34_2:=zc BK357.out 2 (.int .i64 0) rfl
            have hcz34_3:=zc BK357.out 3 (.int .i64 0) rfl
            have hcz34_4:=zc BK357.out 4 (.slice none 0 0) rfl
            have hfz34_0:=zf BK357.out 0
            have hfz34_1:=zf BK357.out 1
            have hfz34_2:=zf BK357.out 2
            have hfz34_3:=zf BK357.out 3
            have hfz34_4:=zf BK357.out 4
            go_wp2
            go_meet
            case rel=>exact⟨_,(true),(by first|rfl|(simp;done)|(simp[*];done)),H',⟨by have:=HK1.out;first|omega|exact Nat.le_refl _⟩,⟨by(with_reducible repeat first|apply zd|apply ze|apply za);refine blk_far ?_ NB356_357.out _;(with_reducible repeat first|apply zd|apply ze|apply za);refine blk_far ?_ NB356_357.out _;(with_reducible repeat first|apply zd|apply ze|apply za);refine blk_far ?_ NB356_357.out _;(with_reducible repeat first|apply zd|apply ze|apply za);refine blk_far ?_ NB356_357.out _;(with_reducible repeat first|apply zd|apply ze|apply za);refine blk_far ?_ NB356_357.out _;(with_reducible repeat first|apply zd|apply ze|apply za);refine blk_put (cs:=#[.int .i64 ((rd_T104 l0 x5_1).f0),.bool ((rd_T104 l0 x5_1).f1),.int .i64 ((rd_T104 l0 x5_1).f2),.int .i64 ((rd_T104 l0 x5_1).f3),.slice none 0 0]) ?_ 4 _ rfl;(with_reducible repeat first|apply zd|apply ze|apply za);refine blk_put (cs:=#[.int .i64 ((rd_T104 l0 x5_1).f0),.bool ((rd_T104 l0 x5_1).f1),.int .i64 ((rd_T104 l0 x5_1).f2),.int .i64 0,.slice none 0 0]) ?_ 3 _ rfl;(with_reducible repeat first|apply zd|apply ze|apply za);refine blk_put (cs:=#[.int .i64 ((rd_T104 l0 x5_1).f0),.bool ((rd_T104 l0 x5_1).f1),.int .i64 0,.int .i64 0,.slice none 0 0]) ?_ 2 _ rfl;(with_reducible repeat first|apply zd|apply ze|apply za);refine blk_put (cs:=#[.int .i64 ((rd_T104 l0 x5_1).f0),.bool false,.int .i64 0,.int .i64 0,.slice none 0 0]) ?_ 1 _ rfl;(with_reducible repeat first|apply zd|apply ze|apply za);refine blk_put (cs:=#[.int .i64 0,.bool false,.int .i64 0,.int .i64 0,.slice none 0 0]) ?_ 0 _ rfl;(with_reducible repeat first|apply zd|apply ze|apply za);exact BK356.out⟩,⟨by(with_reducible repeat first|apply zd|apply ze|apply za);refine blk_put (cs:=#[.int .i64 ((rd_T104 l1 x5_1).f0),.bool ((rd_T104 l1 x5_1).f1),.int .i64 ((rd_T104 l1 x5_1).f2),.int .i64 ((rd_T104 l1 x5_1).f3),.slice none 0 0]) ?_ 4 _ rfl;(with_reducible repeat first|apply zd|apply ze|apply za);refine blk_put (cs:=#[.int .i64 ((rd_T104 l1 x5_1).f0),.bool ((rd_T104 l1 x5_1).f1),.int .i64 ((rd_T104 l1 x5_1).f2),.int .i64 0,.slice none 0 0]) ?_ 3 _ rfl;(with_reducible repeat first|apply zd|apply ze|apply za);refine blk_put (cs:=#[.int .i64 ((rd_T104 l1 x5_1).f0),.bool ((rd_T104 l1 x5_1).f1),.int .i64 0,.int .i64 0,.slice none 0 0]) ?_ 2 _ rfl;(with_reducible repeat first|apply zd|apply ze|apply za);refine blk_put (cs:=#[.int .i64 ((rd_T104 l1 x5_1).f0),.bool false,.int .i64 0,.int .i64 0,.slice none 0 0]) ?_ 1 _ rfl;(with_reducible repeat first|apply zd|apply ze|apply za);refine blk_put (cs:=#[.int .i64 0,.bool false,.int .i64 0,.int .i64 0,.slice none 0 0]) ?_ 0 _ rfl;(with_reducible repeat first|apply zd|apply ze|apply za);refine blk_far ?_ NB357_356.out _;(with_reducible repeat first|apply zd|apply ze|apply za);refine blk_far ?_ NB357_356.out _;(with_reducible repeat first|apply zd|apply ze|apply za);refine blk_far ?_ NB357_356.out _;(with_reducible repeat first|apply zd|apply ze|apply za);refine blk_far ?_ NB357_356.out _;(with_reducible repeat first|apply zd|apply ze|apply za);refine blk_far ?_ NB357_356.out _;(with_reducible repeat first|apply zd|apply ze|apply za);exact BK357.out⟩,⟨by repeat(first|(with_reducible first|exact HB.out|apply zA|apply zD|apply zE|refine zS ?_ GE356.out|refine zS ?_ GE357.out)|exact HB.out)⟩⟩
          ·rw[if_neg c27] at H
           have c27b0:(((rd_T104 l0 x5_1).f2)==((rd_T104 l1 x5_1).f2))=false:=beq_eq_false_iff_ne.mpr c27
           have c27b1:(((rd_T104 l0 x5_1).f2) != ((rd_T104 l1 x5_1).f2))=true:=bne_iff_ne.mpr c27
           have H':=zm H
           clear H
           have hnb35:=NB356_357.out
           have hnc35:=NB357_356.out
           have hcz36_0:=zc BK356.out 0 (.int .i64 0) rfl
           have hcz36_1:=zc BK356.out 1 (.bool false) rfl
           have hcz36_2:=zc BK356.out 2 (.int .i64 0) rfl
           have hcz36_3:=zc BK356.out 3 (.int .i64 0) rfl
           have hcz36_4:=zc BK356.out 4 (.slice none 0 0) rfl
           have hfz36_0:=zf BK356.out 0
           have hfz36_1:=zf BK356.out 1
           have hfz36_2:=zf BK356.out 2
           have hfz36_3:=zf BK356.out 3
           have hfz36_4:=zf BK356.out 4
           have hcz37_0:=zc BK357.out 0 (.int .i64 0) rfl
           have hcz37_1:=zc BK357.out 1 (.bool false) rfl
           have hcz37_2:=zc BK357.out 2 (.int .i64 0) rfl
           have hcz37_3:=zc BK357.out 3 (.int .i64 0) rfl
           have hcz37_4:=zc BK357.out 4 (.slice none 0 0) rfl
           have hfz37_0:=zf BK357.out 0
           have hfz37_1:=zf BK357.out 1
           have hfz37_2:=zf BK357.out 2
           have hfz37_3:=zf BK357.out 3
           have hfz37_4:=zf BK357.out 4
           go_wp2
           go_meet
           case rel=>exact⟨_,(true),(by first|rfl|(simp;done)|(simp[*];done)),H',⟨by have:=HK1.out;first|omega|exact Nat.le_refl _⟩,⟨by(with_reducible repeat first|apply zd|apply ze|apply za);refine blk_far ?_ NB356_357.out _;(with_reducible repeat first|apply zd|apply ze|apply za);refine blk_far ?_ NB356_357.out _;(with_reducible repeat first|apply zd|apply ze|apply za);refine blk_far ?_ NB356_357.out _;(with_reducible repeat first|apply zd|apply ze|apply za);refine blk_far ?_ NB356_357.out _;(with_reducible repeat first|apply zd|apply ze|apply za);refine blk_far ?_ NB356_357.out _;(with_reducible repeat first|apply zd|apply ze|apply za);refine blk_put (cs:=#[.int .i64 ((rd_T104 l0 x5_1).f0),.bool ((rd_T104 l0 x5_1).f1),.int .i64 ((rd_T104 l0 x5_1).f2),.int .i64 ((rd_T104 l0 x5_1).f3),.slice none 0 0]) ?_ 4 _ rfl;(with_reducible repeat first|apply zd|apply ze|apply za);refine blk_put (cs:=#[.int .i64 ((rd_T104 l0 x5_1).f0),.bool ((rd_T104 l0 x5_1).f1),.int .i64 ((rd_T104 l0 x5_1).f2),.int .i64 0,.slice none 0 0]) ?_ 3 _ rfl;(with_reducible repeat first|apply zd|apply ze|apply za);refine blk_put (cs:=#[.int .i64 ((rd_T104 l0 x5_1).f0),.bool ((rd_T104 l0 x5_1).f1),.int .i64 0,.int .i64 0,.slice none 0 0]) ?_ 2 _ rfl;(with_reducible repeat first|apply zd|apply ze|apply za);refine blk_put (cs:=#[.int .i64 ((rd_T104 l0 x5_1).f0),.bool false,.int .i64 0,.int .i64 0,.slice none 0 0]) ?_ 1 _ rfl;(with_reducible repeat first|apply zd|apply ze|apply za);refine blk_put (cs:=#[.int .i64 0,.bool false,.int .i64 0,.int .i64 0,.slice none 0 0]) ?_ 0 _ rfl;(with_reducible repeat first|apply zd|apply ze|apply za);exact BK356.out⟩,⟨by(with_reducible repeat first|apply zd|apply ze|apply za);refine blk_put (cs:=#[.int .i64 ((rd_T104 l1 x5_1).f0),.bool ((rd_T104 l1 x5_1).f1),.int .i64 ((rd_T104 l1 x5_1).f2),.int .i64 ((rd_T104 l1 x5_1).f3),.slice none 0 0]) ?_ 4 _ rfl;(with_reducible repeat first|apply zd|apply ze|apply za);refine blk_put (cs:=#[.int .i64 ((rd_T104 l1 x5_1).f0),.bool ((rd_T104 l1 x5_1).f1),.int .i64 ((rd_T104 l1 x5_1).f2),.int .i64 0,.slice none 0 0]) ?_ 3 _ rfl;(with_reducible repeat first|apply zd|apply ze|apply za);refine blk_put (cs:=#[.int .i64 ((rd_T104 l1 x5_1).f0),.bool ((rd_T104 l1 x5_1).f1),.int .i64 0,.int .i64 0,.slice none 0 0]) ?_ 2 _ rfl;(with_reducible repeat first|apply zd|apply ze|apply za);refine blk_put (cs:=#[.int .i64 ((rd_T104 l1 x5_1).f0),.bool false,.int .i64 0,.int .i64 0,.slice none 0 0]) ?_ 1 _ rfl;(with_reducible repeat first|apply zd|apply ze|apply za);refine blk_put (cs:=#[.int .i64 0,.bool false,.int .i64 0,.int .i64 0,.slice none 0 0]) ?_ 0 _ rfl;(with_reducible repeat first|apply zd|apply ze|apply za);refine blk_far ?_ NB357_356.out _;(with_reducible repeat first|apply zd|apply ze|apply za);refine blk_far ?_ NB357_356.out _;(with_reducible repeat first|apply zd|apply ze|apply za);refine blk_far ?_ NB357_356.out _;(with_reducible repeat first|apply zd|apply ze|apply za);refine blk_far ?_ NB357_356.out _;(with_reducible repeat first|apply zd|apply ze|apply za);refine blk_far ?_ NB357_356.out _;(with_reducible repeat first|apply zd|apply ze|apply za);exact BK357.out⟩,⟨by repeat(first|(with_reducible first|exact HB.out|apply zA|apply zD|apply zE|refine zS ?_ GE356.out|refine zS ?_ GE357.out)|exact HB.out)⟩⟩
        ·rw[if_neg c22] at H
         have c22b0:(((rd_T104 l0 x5_1).f0)==((rd_T104 l1 x5_1).f0))=false:=beq_eq_false_iff_ne.mpr c22
         have c22b1:(((rd_T104 l0 x5_1).f0) != ((rd_T104 l1 x5_1).f0))=true:=bne_iff_ne.mpr c22
         (first|rw[c22b0]|(simp only[i64_w,i32_w];rw[c22b0])|(rw[c22b2];try simp only[Bool.not_true,Bool.not_false])|skip)
         have H':=zm H
         clear H
         have hnb38:=NB356_357.out
         have hnc38:=NB357_356.out
         have hcz39_0:=zc BK356.out 0 (.int .i64 0) rfl
         have hcz39_1:=zc BK356.out 1 (.bool false) rfl
         have hcz39_2:=zc BK356.out 2 (.int .i64 0) rfl
         have hcz39_3:=zc BK356.out 3 (.int .i64 0) rfl
         have hcz39_4:=zc BK356.out 4 (.slice none 0 0) rfl
         have hfz39_0:=zf BK356.out 0
         have hfz39_1:=zf BK356.out 1
         have hfz39_2:=zf BK356.out 2
         have hfz39_3:=zf BK356.out 3
         have hfz39_4:=zf BK356.out 4
         have hcz40_0:=zc BK357.out 0 (.int .i64 0) rfl
         have hcz40_1:=zc BK357.out 1 (.bool false) rfl
         have hcz40_2:=zc BK357.out 2 (.int .i64 0) rfl
         have hcz40_3:=zc BK357.out 3 (.int .i64 0) rfl
         have hcz40_4:=zc BK357.out 4 (.slice none 0 0) rfl
         have hfz40_0:=zf BK357.out 0
         have hfz40_1:=zf BK357.out 1
         have hfz40_2:=zf BK357.out 2
         have hfz40_3:=zf BK357.out 3
         have hfz40_4:=zf BK357.out 4
         go_wp2
         go_meet
         case rel=>exact⟨_,(true),(by first|rfl|(simp;done)|(simp[*];done)),H',⟨by have:=HK1.out;first|omega|exact Nat.le_refl _⟩,⟨by(with_reducible repeat first|apply zd|apply ze|apply za);refine blk_far ?_ NB356_357.out _;(with_reducible repeat first|apply zd|apply ze|apply za);refine blk_far ?_ NB356_357.out _;(with_reducible repeat first|apply zd|apply ze|apply za);refine blk_far ?_ NB356_357.out _;(with_reducible repeat first|apply zd|apply ze|apply za);refine blk_far ?_ NB356_357.out _;(with_reducible repeat first|apply zd|apply ze|apply za);refine blk_far ?_ NB356_357.out _;(with_reducible repeat first|apply zd|apply ze|apply za);refine blk_put (cs:=#[.int .i64 ((rd_T104 l0 x5_1).f0),.bool ((rd_T104 l0 x5_1).f1),.int .i64 ((rd_T104 l0 x5_1).f2),.int .i64 ((rd_T104 l0 x5_1).f3),.slice none 0 0]) ?_ 4 _ rfl;(with_reducible repeat first|apply zd|apply ze|apply za);refine blk_put (cs:=#[.int .i64 ((rd_T104 l0 x5_1).f0),.bool ((rd_T104 l0 x5_1).f1),.int .i64 ((rd_T104 l0 x5_1).f2),.int .i64 0,.slice none 0 0]) ?_ 3 _ rfl;(with_reducible repeat first|apply zd|apply ze|apply za);refine blk_put (cs:=#[.int .i64 ((rd_T104 l0 x5_1).f0),.bool ((rd_T104 l0 x5_1).f1),.int .i64 0,.int .i64 0,.slice none 0 0]) ?_ 2 _ rfl;(with_reducible repeat first|apply zd|apply ze|apply za);refine blk_put (cs:=#[.int .i64 ((rd_T104 l0 x5_1).f0),.bool false,.int .i64 0,.int .i64 0,.slice none 0 0]) ?_ 1 _ rfl;(with_reducible repeat first|apply zd|apply ze|apply za);refine blk_put (cs:=#[.int .i64 0,.bool false,.int .i64 0,.int .i64 0,.slice none 0 0]) ?_ 0 _ rfl;(with_reducible repeat first|apply zd|apply ze|apply za);exact BK356.out⟩,⟨by(with_reducible repeat first|apply zd|apply ze|apply za);refine blk_put (cs:=#[.int .i64 ((rd_T104 l1 x5_1).f0),.bool ((rd_T104 l1 x5_1).f1),.int .i64 ((rd_T104 l1 x5_1).f2),.int .i64 ((rd_T104 l1 x5_1).f3),.slice none 0 0]) ?_ 4 _ rfl;(with_reducible repeat first|apply zd|apply ze|apply za);refine blk_put (cs:=#[.int .i64 ((rd_T104 l1 x5_1).f0),.bool ((rd_T104 l1 x5_1).f1),.int .i64 ((rd_T104 l1 x5_1).f2),.int .i64 0,.slice none 0 0]) ?_ 3 _ rfl;(with_reducible repeat first|apply zd|apply ze|apply za);refine blk_put (cs:=#[.int .i64 ((rd_T104 l1 x5_1).f0),.bool ((rd_T104 l1 x5_1).f1),.int .i64 0,.int .i64 0,.slice none 0 0]) ?_ 2 _ rfl;(with_reducible repeat first|apply zd|apply ze|apply za);refine blk_put (cs:=#[.int .i64 ((rd_T104 l1 x5_1).f0),.bool false,.int .i64 0,.int .i64 0,.slice none 0 0]) ?_ 1 _ rfl;(with_reducible repeat first|apply zd|apply ze|apply za);refine blk_put (cs:=#[.int .i64 0,.bool false,.int .i64 0,.int .i64 0,.slice none 0 0]) ?_ 0 _ rfl;(with_reducible repeat first|apply zd|apply ze|apply za);refine blk_far ?_ NB357_356.out _;(with_reducible repeat first|apply zd|apply ze|apply za);refine blk_far ?_ NB357_356.out _;(with_reducible repeat first|apply zd|apply ze|apply za);refine blk_far ?_ NB357_356.out _;(with_reducible repeat first|apply zd|apply ze|apply za);refine blk_far ?_ NB357_356.out _;(with_reducible repeat first|apply zd|apply ze|apply za);refine blk_far ?_ NB357_356.out _;(with_reducible repeat first|apply zd|apply ze|apply za);exact BK357.out⟩,⟨by repeat(first|(with_reducible first|exact HB.out|apply zA|apply zD|apply zE|refine zS ?_ GE356.out|refine zS ?_ GE357.out)|exact HB.out)⟩⟩
       case rest=>
        clear HC7
        try clear c1
        try clear c2
        try clear p2
        try clear c3
        try clear c3b0
        try clear c3b1
        try clear c3b2
        try clear p3
        try clear q3
        try clear hx3
        try clear c4
        try clear c4b0
        try clear c5
        try clear c5b0
        try clear c6
        try clear c6b0
        try clear c10
        try clear c22
        try clear c22b0
        try clear c22b1
        try clear c22b2
        try clear c23
        try clear c23b0
        try clear c23b1
        try clear c23b2
        try clear c24
        try clear c27
        try clear c27b0
        try clear c27b1
        try clear c28
        try clear c28b0
        try clear c28b1
        try clear c29
        try clear c32
        try clear c35
        try clear p35
        try clear q35
        try clear hx35
        try clear c38
        try clear hcz25_0
        try clear hcz25_1
        try clear hcz25_2
        try clear hcz25_3
        try clear hcz25_4
        try clear hcz26_0
        try clear hcz26_1
        try clear hcz26_2
        try clear hcz26_3
        try clear hcz26_4
        try clear hcz30_0
        try clear hcz30_1
        try clear hcz30_2
        try clear hcz30_3
        try clear hcz30_4
        try clear hcz31_0
        try clear hcz31_1
        try clear hcz31_2
        try clear hcz31_3
        try clear hcz31_4
        try clear hcz33_0
        try clear hcz33_1
        try clear hcz33_2
        try clear hcz33_3
        try clear hcz33_4
        try clear hcz34_0
        try clear hcz34_1
        try clear hcz34_2
        try clear hcz34_3
        try clear hcz34_4
        try clear hcz36_0
        try clear hcz36_1
        try clear hcz36_2
        try clear hcz36_3
        try clear hcz36_4
        try clear hcz37_0
        try clear hcz37_1
        try clear hcz37_2
        try clear hcz37_3
        try clear hcz37_4
        try clear hcz39_0
        try clear hcz39_1
        try clear hcz39_2
        try clear hcz39_3
        try clear hcz39_4
        try clear hcz40_0
        try clear hcz40_1
        try clear hcz40_2
        try clear hcz40_3
        try clear hcz40_4
        try clear hfz25_0
        try clear hfz25_1
        try clear hfz25_2
        try clear hfz25_3
        try clear hfz25_4
        try clear hfz26_0
        try clear hfz26_1
        try clear hfz26_2
        try clear hfz26_3
        try clear hfz26_4
        try clear hfz30_0
        try clear hfz30_1
        try clear hfz30_2
        try clear hfz30_3
        try clear hfz30_4
        try clear hfz31_0
        try clear hfz31_1
        try clear hfz31_2
        try clear hfz31_3
        try clear hfz31_4
        try clear hfz33_0
        try clear hfz33_1
        try clear hfz33_2
        try clear hfz33_3
        try clear hfz33_4
        try clear hfz34_0
        try clear hfz34_1
        try clear hfz34_2
        try clear hfz34_3
        try clear hfz34_4
        try clear hfz36_0
        try clear hfz36_1
        try clear hfz36_2
        try clear hfz36_3
        try clear hfz36_4
        try clear hfz37_0
        try clear hfz37_1
        try clear hfz37_2
        try clear hfz37_3
        try clear hfz37_4
        try clear hfz39_0
        try clear hfz39_1
        try clear hfz39_2
        try clear hfz39_3
        try clear hfz39_4
        try clear hfz40_0
        try clear hfz40_1
        try clear hfz40_2
        try clear hfz40_3
        try clear hfz40_4
        try clear hx354_0
        try clear hx354_1
        try clear hx354_2
        try clear hx354_3
        try clear hx354_4
        try clear hx355_0
        try clear hx355_1
        try clear hx355_2
        try clear hx355_3
        try clear hx355_4
        try clear p2
        try clear p354
        try clear p355
        try clear q354
        try clear q355
        obtain⟨kq,x62_6,rfl,HA,HJ6,BK356,BK357,HB⟩:=hcut
        cases kq with
        | zero=>exact absurd HA.out (by simp[mr_SameFrames.j1])
        | succ kj6=>
         have H:=HA.out
         clear HA
         simp only[mr_SameFrames.j1] at H
         by_cases c41:x62_6=true
         ·subst c41
          have H1:(some false)=some r:=by rw[if_pos rfl] at H;exact H
          clear H
          have H:=H1
          clear H1
          obtain rfl:=Option.some.inj H
          go_wp2
          go_ret
          exact⟨by first|rfl|(simp[errW_none,errW_some]<;>rfl)|(simp[*,errW_none,errW_some]<;>rfl),by repeat(first|(with_reducible first|exact HB.out|apply zA|apply zD|apply zE|refine zS ?_ GE356.out|refine zS ?_ GE357.out)|exact HB.out)⟩
         ·replace c41:=Bool.eq_false_iff.mpr c41
          subst c41
          have H1:(mr_SameFrames.l1 kj6 l0 l1 x5_1 0 ((rd_T104 l0 x5_1).f0) ((rd_T104 l0 x5_1).f1) ((rd_T104 l0 x5_1).f2) ((rd_T104 l0 x5_1).f3) ((rd_T104 l0 x5_1).f4) ((rd_T104 l1 x5_1).f0) ((rd_T104 l1 x5_1).f1) ((rd_T104 l1 x5_1).f2) ((rd_T104 l1 x5_1).f3) ((rd_T104 l1 x5_1).f4))=some r:=by rw[if_neg (show ¬(false=true) by decide)] at H;exact H
          clear H
          have H:=H1
          clear H1
          have H':=zm H
          clear H
          go_wp2
          go_loopg [8] kj6 (fun kq v8 w'=>∃(x8_3:Int),v8=.int .i64 x8_3∧Aside0 (mr_SameFrames.l1 kq l0 l1 x5_1 x8_3 ((rd_T104 l0 x5_1).f0) ((rd_T104 l0 x5_1).f1) ((rd_T104 l0 x5_1).f2) ((rd_T104 l0 x5_1).f3) ((rd_T104 l0 x5_1).f4) ((rd_T104 l1 x5_1).f0) ((rd_T104 l1 x5_1).f1) ((rd_T104 l1 x5_1).f2) ((rd_T104 l1 x5_1).f3) ((rd_T104 l1 x5_1).f4)=some r)∧Aside0 (kq≤kj6)∧Aside0 (w'.heap[gb356]?=some (.cells #[.int .i64 ((rd_T104 l0 x5_1).f0),.bool ((rd_T104 l0 x5_1).f1),.int .i64 ((rd_T104 l0 x5_1).f2),.int .i64 ((rd_T104 l0 x5_1).f3),(.slice A354_4 ((rd_T104 l0 x5_1).f4).length c354_4)] 104 (0,0)))∧Aside0 (w'.heap[gb357]?=some (.cells #[.int .i64 ((rd_T104 l1 x5_1).f0),.bool ((rd_T104 l1 x5_1).f1),.int .i64 ((rd_T104 l1 x5_1).f2),.int .i64 ((rd_T104 l1 x5_1).f3),(.slice A355_4 ((rd_T104 l1 x5_1).f4).length c355_4)] 104 (0,0)))∧Aside0 (Below w.heap.size w w'))
          case atStart=>exact⟨(0),(by first|rfl|(simp;done)|(simp[*];done)),H',⟨Nat.le_refl _⟩,⟨by(with_reducible repeat first|apply zd|apply ze|apply za);exact BK356.out⟩,⟨by(with_reducible repeat first|apply zd|apply ze|apply za);exact BK357.out⟩,⟨by repeat(first|(with_reducible first|exact HB.out|apply zA|apply zD|apply zE|refine zS ?_ GE356.out|refine zS ?_ GE357.out)|exact HB.out)⟩⟩
          case round=>
           clear H'
           try clear c1
           try clear c2
           try clear p2
           try clear c3
           try clear c3b0
           try clear c3b1
           try clear c3b2
           try clear p3
           try clear q3
           try clear hx3
           try clear c4
           try clear c4b0
           try clear c5
           try clear c5b0
           try clear c6
           try clear c6b0
           try clear c10
           try clear c22
           try clear c22b0
           try clear c22b1
           try clear c22b2
           try clear c23
           try clear c23b0
           try clear c23b1
           try clear c23b2
           try clear c24
           try clear c27
           try clear c27b0
           try clear c27b1
           try clear c28
           try clear c28b0
           try clear c28b1
           try clear c29
           try clear c32
           try clear c35
           try clear p35
           try clear q35
           try clear hx35
           try clear c38
           try clear c41
           try clear hcz25_0
           try clear hcz25_1
           try clear hcz25_2
           try clear hcz25_3
           try clear hcz25_4
           try clear hcz26_0
           try clear hcz26_1
           try clear hcz26_2
           try clear hcz26_3
           try clear hcz26_4
           try clear hcz30_0
           try clear hcz30_1
           try clear hcz30_2
           try clear hcz30_3
           try clear hcz30_4
           try clear hcz31_0
           try clear hcz31_1
           try clear hcz31_2
           try clear hcz31_3
           try clear hcz31_4
           try clear hcz33_0
           try clear hcz33_1
           try clear hcz33_2
           try clear hcz33_3
           try clear hcz33_4
           try clear hcz34_0
           try clear hcz34_1
           try clear hcz34_2
           try clear hcz34_3
           try clear hcz34_4
           try clear hcz36_0
           try clear hcz36_1
           try clear hcz36_2
           try clear hcz36_3
           try clear hcz36_4
           try clear hcz37_0
           try clear hcz37_1
           try clear hcz37_2
           try clear hcz37_3
           try clear hcz37_4
           try clear hcz39_0
           try clear hcz39_1
           try clear hcz39_2
           try clear hcz39_3
           try clear hcz39_4
           try clear hcz40_0
           try clear hcz40_1
           try clear hcz40_2
           try clear hcz40_3
           try clear hcz40_4
           try clear hfz25_0
           try clear hfz25_1
           try clear hfz25_2
           try clear hfz25_3
           try clear hfz25_4
           try clear hfz26_0
           try clear hfz26_1
           try clear hfz26_2
           try clear hfz26_3
           try clear hfz26_4
           try clear hfz30_0
           try clear hfz30_1
           try clear hfz30_2
           try clear hfz30_3
           try clear hfz30_4
           try clear hfz31_0
           try clear hfz31_1
           try clear hfz31_2
           try clear hfz31_3
           try clear hfz31_4
           try clear hfz33_0
           try clear hfz33_1
           try clear hfz33_2
           try clear hfz33_3
           try clear hfz33_4
           try clear hfz34_0
           try clear hfz34_1
           try clear hfz34_2
           try clear hfz34_3
           try clear hfz34_4
           try clear hfz36_0
           try clear hfz36_1
           try clear hfz36_2
           try clear hfz36_3
           try clear hfz36_4
           try clear hfz37_0
           try clear hfz37_1
           try clear hfz37_2
           try clear hfz37_3
           try clear hfz37_4
           try clear hfz39_0
           try clear hfz39_1
           try clear hfz39_2
           try clear hfz39_3
           try clear hfz39_4
           try clear hfz40_0
           try clear hfz40_1
           try clear hfz40_2
           try clear hfz40_3
           try clear hfz40_4
           try clear hx354_0
           try clear hx354_1
           try clear hx354_2
           try clear hx354_3
           try clear hx354_4
           try clear hx355_0
           try clear hx355_1
           try clear hx355_2
           try clear hx355_3
           try clear hx355_4
           try clear p2
           try clear p3
           try clear p35
           try clear p354
           try clear p355
           try clear q3
           try clear q35
           try clear q354
           try clear q355
           obtain⟨x8_3,rfl,HA,HK3,BK356,BK357,HB⟩:=hrel
           cases gk with
           | zero=>exact absurd HA.out (by simp[mr_SameFrames.l1])
           | succ k3=>
            have H:=HA.out
            clear HA
            simp only[mr_SameFrames.l1] at H
            by_cases c42:x8_3 < (((rd_T104 l0 x5_1).f4).length:Int)
            ·rw[if_pos c42] at H
             have c42b0:decide (x8_3 < (((rd_T104 l0 x5_1).f4).length:Int))=true:=decide_eq_true c42
             clear c42
             by_cases c43:0≤x8_3
             ·rw[if_pos c43] at H
              have c43b0:decide (0≤x8_3)=true:=decide_eq_true c43
              clear c43
              by_cases c44:x8_3 < (((rd_T104 l1 x5_1).f4).length:Int)
              ·rw[if_pos c44] at H
               have c44b0:decide (x8_3 < (((rd_T104 l1 x5_1).f4).length:Int))=true:=decide_eq_true c44
               clear c44
               by_cases c45:(!((((rd_T106 ((rd_T104 l0 x5_1).f4) x8_3).f0).toList)==(((rd_T106 ((rd_T104 l1 x5_1).f4) x8_3).f0).toList))||(!(((rd_T106 ((rd_T104 l0 x5_1).f4) x8_3).f1)==((rd_T106 ((rd_T104 l1 x5_1).f4) x8_3).f1))))=true
               ·rw[if_pos c45] at H
                have c45b0:(!((((rd_T106 ((rd_T104 l0 x5_1).f4) x8_3).f0).toList)==(((rd_T106 ((rd_T104 l1 x5_1).f4) x8_3).f0).toList))||(!(((rd_T106 ((rd_T104 l0 x5_1).f4) x8_3).f1)==((rd_T106 ((rd_T104 l1 x5_1).f4) x8_3).f1))))=true:=c45
                clear c45
                obtain rfl:=Option.some.inj H
                have hnb46:=NB356_357.out
                have hnc46:=NB357_356.out
                have hcz47_0:=zc BK356.out 0 (.int .i64 ((rd_T104 l0 x5_1).f0)) rfl
                have hcz47_1:=zc BK356.out 1 (.bool ((rd_T104 l0 x5_1).f1)) rfl
                have hcz47_2:=zc BK356.out 2 (.int .i64 ((rd_T104 l0 x5_1).f2)) rfl
                have hcz47_3:=zc BK356.out 3 (.int .i64 ((rd_T104 l0 x5_1).f3)) rfl
                have hcz47_4:=zc BK356.out 4 (.slice A354_4 ((rd_T104 l0 x5_1).f4).length c354_4) rfl
                have hfz47_0:=zf BK356.out 0
                have hfz47_1:=zf BK356.out 1
                have hfz47_2:=zf BK356.out 2
                have hfz47_3:=zf BK356.out 3
                have hfz47_4:=zf BK356.out 4
                try go_wp2
                have n0_:=zm (ze BK356.out)
                have n1_:=zm (ze BK357.out)
                have n2_:=zm (zE HB.out)
                clear BK356 BK357 HB
                have BK356:=n0_
                have BK357:=n1_
                have HB:=n2_
                clear n0_ n1_ n2_
                have p358:0≤(x8_3:Int):=of_decide_eq_true (by first|(with_reducible assumption)|assumption)
                have q358:x8_3 < (((rd_T104 l0 x5_1).f4).length:Int):=of_decide_eq_true (by first|(with_reducible assumption)|assumption)
                obtain⟨ad358,e358,hx358_0,hx358_1⟩:=at_T106 HR354_4.out x8_3 p358 q358
                have hw358_1:=hx358_1
                have hw358_0:=hx358_0
                cases e358
                replace hx358_0:=(HB.out.cell (World.block_lt_of_cell? w _ hx358_0)).trans hx358_0
                replace hx358_1:=(HB.out.cell (World.block_lt_of_cell? w _ hx358_1)).trans hx358_1
                replace p358:=eq_true p358
                replace q358:=eq_true q358
                have p359:0≤(x8_3:Int):=of_decide_eq_true (by first|(with_reducible assumption)|assumption)
                have q359:x8_3 < (((rd_T104 l1 x5_1).f4).length:Int):=of_decide_eq_true (by first|(with_reducible assumption)|assumption)
                obtain⟨ad359,e359,hx359_0,hx359_1⟩:=at_T106 HR355_4.out x8_3 p359 q359
                have hw359_1:=hx359_1
                have hw359_0:=hx359_0
                cases e359
                replace hx359_0:=(HB.out.cell (World.block_lt_of_cell? w _ hx359_0)).trans hx359_0
                replace hx359_1:=(HB.out.cell (World.block_lt_of_cell? w _ hx359_1)).trans hx359_1
                replace p359:=eq_true p359
                replace q359:=eq_true q359
                refine start_ (n:=11) (S:=fun w'=>w'.cell? ⟨gb356,0,none⟩=some (.int .i64 ((rd_T104 l0 x5_1).f0))∧w'.cell? ⟨gb356,1,none⟩=some (.bool ((rd_T104 l0 x5_1).f1))∧w'.cell? ⟨gb356,2,none⟩=some (.int .i64 ((rd_T104 l0 x5_1).f2))∧w'.cell? ⟨gb356,3,none⟩=some (.int .i64 ((rd_T104 l0 x5_1).f3))∧w'.cell? ⟨gb356,4,none⟩=some (.slice (some ad358) ((rd_T104 l0 x5_1).f4).length c354_4)∧w'.cell? ⟨gb357,0,none⟩=some (.int .i64 ((rd_T104 l1 x5_1).f0))∧w'.cell? ⟨gb357,1,none⟩=some (.bool ((rd_T104 l1 x5_1).f1))∧w'.cell? ⟨gb357,2,none⟩=some (.int .i64 ((rd_T104 l1 x5_1).f2))∧w'.cell? ⟨gb357,3,none⟩=some (.int .i64 ((rd_T104 l1 x5_1).f3))∧w'.cell? ⟨gb357,4,none⟩=some (.slice (some ad359) ((rd_T104 l1 x5_1).f4).length c355_4)∧w'.cell? (ad358.add ((x8_3).toNat * 2))=some (.string ((rd_T106 ((rd_T104 l0 x5_1).f4) x8_3).f0))∧w'.cell? ⟨(ad358.add ((x8_3).toNat * 2)).block,(ad358.add ((x8_3).toNat * 2)).off+1,none⟩=some (.int .i64 ((rd_T106 ((rd_T104 l0 x5_1).f4) x8_3).f1))∧w'.cell? (ad359.add ((x8_3).toNat * 2))=some (.string ((rd_T106 ((rd_T104 l1 x5_1).f4) x8_3).f0))∧w'.cell? ⟨(ad359.add ((x8_3).toNat * 2)).block,(ad359.add ((x8_3).toNat * 2)).off+1,none⟩=some (.int .i64 ((rd_T106 ((rd_T104 l1 x5_1).f4) x8_3).f1))) (ds:=[]) #[false,false,false,false,false,false,false,false,false,false,false] (by kernel_rfl) rfl rfl ⟨(blk_cell BK356.out 0).trans rfl,(blk_cell BK356.out 1).trans rfl,(blk_cell BK356.out 2).trans rfl,(blk_cell BK356.out 3).trans rfl,(blk_cell BK356.out 4).trans rfl,(blk_cell BK357.out 0).trans rfl,(blk_cell BK357.out 1).trans rfl,(blk_cell BK357.out 2).trans rfl,(blk_cell BK357.out 3).trans rfl,(blk_cell BK357.out 4).trans rfl,((HB.out.cell (World.block_lt_of_cell? w _ hw358_0)).trans hw358_0),((HB.out.cell (World.block_lt_of_cell? w _ hw358_1)).trans hw358_1),((HB.out.cell (World.block_lt_of_cell? w _ hw359_0)).trans hw359_0),((HB.out.cell (World.block_lt_of_cell? w _ hw359_1)).trans hw359_1)⟩ (fun hHeld=>?_);refine with_tabW mr_SameFrames.tab12 mr_SameFrames.bits12 (fun HT_ HW_=>?_)
                generalize wr.drew=w48 at BK356 BK357 HB hx358_0 hx358_1 hx359_0 hx359_1 hHeld ⊢
                refine pure_ (i:=0) (N:=some 70) (v:=?_) (a':=?_) #[true,false,false,false,false,false,false,false,false,false,false] rfl rfl (any_of HT_.out (by kernel_rfl)) (fun _ _ _ h=>h) (Or.inl ⟨by rfl,?_⟩) ?_ ?_
                rotate_left
                ·intro w'
                 go_simp
                 with_reducible rfl
                rotate_left
                ·simp only[Act.put,zx,zy,zz,i64_w,i32_w]
                 rfl
                refine pure_ (i:=2) (N:=some 72) (v:=?_) (a':=?_) #[true,false,true,false,false,false,false,false,false,false,false] rfl rfl (any_of HT_.out (by kernel_rfl)) (fun _ _ _ h=>h) (Or.inl ⟨by rfl,?_⟩) ?_ ?_
                rotate_left
                ·intro w'
                 go_simp
                 with_reducible rfl
                rotate_left
                ·simp only[Act.put,zx,zy,zz,i64_w,i32_w]
                 rfl
                refine pure_ (i:=5) (N:=some 75) (v:=?_) (a':=?_) #[true,false,true,false,false,true,false,false,false,false,false] rfl rfl (any_of HT_.out (by kernel_rfl)) (fun _ _ _ h=>h) (Or.inl ⟨by rfl,?_⟩) ?_ ?_
                rotate_left
                ·intro w'
                 go_simp
                 with_reducible rfl
                rotate_left
                ·simp only[Act.put,zx,zy,zz,i64_w,i32_w]
                 rfl
                refine pure_ (i:=7) (N:=some 77) (v:=?_) (a':=?_) #[true,false,true,false,false,true,false,true,false,false,false] rfl rfl (any_of HT_.out (by kernel_rfl)) (fun _ _ _ h=>h) (Or.inl ⟨by rfl,?_⟩) ?_ ?_
                rotate_left
                ·intro w'
                 go_simp
                 with_reducible rfl
                rotate_left
                ·simp only[Act.put,zx,zy,zz,i64_w,i32_w]
                 rfl
                refine take_ (i:=1) (N:=some 71) (v:=?_) (a':=?_) #[true,true,true,false,false,true,false,true,false,false,false] rfl rfl (take_ofW HT_.out HW_.out (by kernel_rfl)) (fun _ _ _ h=>h) (Or.inl ⟨by rfl,?_⟩) hHeld ?_ ?_
                rotate_left
                ·rintro w' ⟨s0,s1,s2,s3,s4,s5,s6,s7,s8,s9,s10,s11,s12,s13⟩
                 go_simp
                 with_reducible rfl
                rotate_left
                ·simp only[Act.put,zx,zy,zz,i64_w,i32_w]
                 rfl
                refine pure_ (i:=3) (N:=some 73) (v:=?_) (a':=?_) #[true,true,true,true,false,true,false,true,false,false,false] rfl rfl (any_of HT_.out (by kernel_rfl)) (fun _ _ _ h=>h) (Or.inl ⟨by rfl,?_⟩) ?_ ?_
                rotate_left
                ·intro w'
                 go_simp
                 with_reducible rfl
                rotate_left
                ·simp only[Act.put,zx,zy,zz,i64_w,i32_w]
                 rfl
                refine take_ (i:=4) (N:=some 74) (v:=?_) (a':=?_) #[true,true,true,true,true,true,false,true,false,false,false] rfl rfl (take_ofW HT_.out HW_.out (by kernel_rfl)) (fun _ _ _ h=>h) (Or.inl ⟨by rfl,?_⟩) hHeld ?_ ?_
                rotate_left
                ·rintro w' ⟨s0,s1,s2,s3,s4,s5,s6,s7,s8,s9,s10,s11,s12,s13⟩
                 go_simp
                 with_reducible rfl
                rotate_left
                ·simp only[Act.put,zx,zy,zz,i64_w,i32_w]
                 rfl
                refine take_ (i:=6) (N:=some 76) (v:=?_) (a':=?_) #[true,true,true,true,true,true,true,true,false,false,false] rfl rfl (take_ofW HT_.out HW_.out (by kernel_rfl)) (fun _ _ _ h=>h) (Or.inl ⟨by rfl,?_⟩) hHeld ?_ ?_
                rotate_left
                ·rintro w' ⟨s0,s1,s2,s3,s4,s5,s6,s7,s8,s9,s10,s11,s12,s13⟩
                 go_simp
                 with_reducible rfl
                rotate_left
                ·simp only[Act.put,zx,zy,zz,i64_w,i32_w]
                 rfl
                refine pure_ (i:=8) (N:=some 78) (v:=?_) (a':=?_) #[true,true,true,true,true,true,true,true,true,false,false] rfl rfl (any_of HT_.out (by kernel_rfl)) (fun _ _ _ h=>h) (Or.inl ⟨by rfl,?_⟩) ?_ ?_
                rotate_left
                ·intro w'
                 go_simp
                 with_reducible rfl
                rotate_left
                ·simp only[Act.put,zx,zy,zz,i64_w,i32_w]
                 rfl
                refine take_ (i:=9) (N:=some 79) (v:=?_) (a':=?_) #[true,true,true,true,true,true,true,true,true,true,false] rfl rfl (take_ofW HT_.out HW_.out (by kernel_rfl)) (fun _ _ _ h=>h) (Or.inl ⟨by rfl,?_⟩) hHeld ?_ ?_
                rotate_left
                ·rintro w' ⟨s0,s1,s2,s3,s4,s5,s6,s7,s8,s9,s10,s11,s12,s13⟩
                 go_simp
                 with_reducible rfl
                rotate_left
                ·simp only[Act.put,zx,zy,zz,i64_w,i32_w]
                 rfl
                refine pure_ (i:=10) (N:=some 80) (v:=?_) (a':=?_) #[true,true,true,true,true,true,true,true,true,true,true] rfl rfl (any_of HT_.out (by kernel_rfl)) (fun _ _ _ h=>h) (Or.inl ⟨by rfl,?_⟩) ?_ ?_
                rotate_left
                ·intro w'
                 go_simp
                 with_reducible rfl
                rotate_left
                ·simp only[Act.put,zx,zy,zz,i64_w,i32_w]
                 rfl
                refine done_ (done_of HT_.out (by kernel_rfl)) ?_
                try go_wp2
                go_ret
                exact⟨by first|rfl|(simp[errW_none,errW_some]<;>rfl)|(simp[*,errW_none,errW_some]<;>rfl),by repeat(first|(with_reducible first|exact HB.out|apply zA|apply zD|apply zE|refine zS ?_ GE356.out|refine zS ?_ GE357.out)|exact HB.out)⟩
               ·rw[if_neg c45] at H
                have c45b0:(!((((rd_T106 ((rd_T104 l0 x5_1).f4) x8_3).f0).toList)==(((rd_T106 ((rd_T104 l1 x5_1).f4) x8_3).f0).toList))||(!(((rd_T106 ((rd_T104 l0 x5_1).f4) x8_3).f1)==((rd_T106 ((rd_T104 l1 x5_1).f4) x8_3).f1))))=false:=by simpa using c45
                clear c45
                have H':=zm H
                clear H
                have hnb49:=NB356_357.out
                have hnc49:=NB357_356.out
                have hcz50_0:=zc BK356.out 0 (.int .i64 ((rd_T104 l0 x5_1).f0)) rfl
                have hcz50_1:=zc BK356.out 1 (.bool ((rd_T104 l0 x5_1).f1)) rfl
                have hcz50_2:=zc BK356.out 2 (.int .i64 ((rd_T104 l0 x5_1).f2)) rfl
                have hcz50_3:=zc BK356.out 3 (.int .i64 ((rd_T104 l0 x5_1).f3)) rfl
                have hcz50_4:=zc BK356.out 4 (.slice A354_4 ((rd_T104 l0 x5_1).f4).length c354_4) rfl
                have hfz50_0:=zf BK356.out 0
                have hfz50_1:=zf BK356.out 1
                have hfz50_2:=zf BK356.out 2
                have hfz50_3:=zf BK356.out 3
                have hfz50_4:=zf BK356.out 4
                try go_wp2
                have n0_:=zm (ze BK356.out)
                have n1_:=zm (ze BK357.out)
                have n2_:=zm (zE HB.out)
                clear BK356 BK357 HB
                have BK356:=n0_
                have BK357:=n1_
                have HB:=n2_
                clear n0_ n1_ n2_
                have p358:0≤(x8_3:Int):=of_decide_eq_true (by first|(with_reducible assumption)|assumption)
                have q358:x8_3 < (((rd_T104 l0 x5_1).f4).length:Int):=of_decide_eq_true (by first|(with_reducible assumption)|assumption)
                obtain⟨ad358,e358,hx358_0,hx358_1⟩:=at_T106 HR354_4.out x8_3 p358 q358
                have hw358_1:=hx358_1
                have hw358_0:=hx358_0
                cases e358
                replace hx358_0:=(HB.out.cell (World.block_lt_of_cell? w _ hx358_0)).trans hx358_0
                replace hx358_1:=(HB.out.cell (World.block_lt_of_cell? w _ hx358_1)).trans hx358_1
                replace p358:=eq_true p358
                replace q358:=eq_true q358
                have p359:0≤(x8_3:Int):=of_decide_eq_true (by first|(with_reducible assumption)|assumption)
                have q359:x8_3 < (((rd_T104 l1 x5_1).f4).length:Int):=of_decide_eq_true (by first|(with_reducible assumption)|assumption)
                obtain⟨ad359,e359,hx359_0,hx359_1⟩:=at_T106 HR355_4.out x8_3 p359 q359
                have hw359_1:=hx359_1
                have hw359_0:=hx359_0
                cases e359
                replace hx359_0:=(HB.out.cell (World.block_lt_of_cell? w _ hx359_0)).trans hx359_0
                replace hx359_1:=(HB.out.cell (World.block_lt_of_cell? w _ hx359_1)).trans hx359_1
                replace p359:=eq_true p359
                replace q359:=eq_true q359
                refine start_ (n:=11) (S:=fun w'=>w'.cell? ⟨gb356,0,none⟩=some (.int .i64 ((rd_T104 l0 x5_1).f0))∧w'.cell? ⟨gb356,1,none⟩=some (.bool ((rd_T104 l0 x5_1).f1))∧w'.cell? ⟨gb356,2,none⟩=some (.int .i64 ((rd_T104 l0 x5_1).f2))∧w'.cell? ⟨gb356,3,none⟩=some (.int .i64 ((rd_T104 l0 x5_1).f3))∧w'.cell? ⟨gb356,4,none⟩=some (.slice (some ad358) ((rd_T104 l0 x5_1).f4).length c354_4)∧w'.cell? ⟨gb357,0,none⟩=some (.int .i64 ((rd_T104 l1 x5_1).f0))∧w'.cell? ⟨gb357,1,none⟩=some (.bool ((rd_T104 l1 x5_1).f1))∧w'.cell? ⟨gb357,2,none⟩=some (.int .i64 ((rd_T104 l1 x5_1).f2))∧w'.cell? ⟨gb357,3,none⟩=some (.int .i64 ((rd_T104 l1 x5_1).f3))∧w'.cell? ⟨gb357,4,none⟩=some (.slice (some ad359) ((rd_T104 l1 x5_1).f4).length c355_4)∧w'.cell? (ad358.add ((x8_3).toNat * 2))=some (.string ((rd_T106 ((rd_T104 l0 x5_1).f4) x8_3).f0))∧w'.cell? ⟨(ad358.add ((x8_3).toNat * 2)).block,(ad358.add ((x8_3).toNat * 2)).off+1,none⟩=some (.int .i64 ((rd_T106 ((rd_T104 l0 x5_1).f4) x8_3).f1))∧w'.cell? (ad359.add ((x8_3).toNat * 2))=some (.string ((rd_T106 ((rd_T104 l1 x5_1).f4) x8_3).f0))∧w'.cell? ⟨(ad359.add ((x8_3).toNat * 2)).block,(ad359.add ((x8_3).toNat * 2)).off+1,none⟩=some (.int .i64 ((rd_T106 ((rd_T104 l1 x5_1).f4) x8_3).f1))) (ds:=[]) #[false,false,false,false,false,false,false,false,false,false,false] (by kernel_rfl) rfl rfl ⟨(blk_cell BK356.out 0).trans rfl,(blk_cell BK356.out 1).trans rfl,(blk_cell BK356.out 2).trans rfl,(blk_cell BK356.out 3).trans rfl,(blk_cell BK356.out 4).trans rfl,(blk_cell BK357.out 0).trans rfl,(blk_cell BK357.out 1).trans rfl,(blk_cell BK357.out 2).trans rfl,(blk_cell BK357.out 3).trans rfl,(blk_cell BK357.out 4).trans rfl,((HB.out.cell (World.block_lt_of_cell? w _ hw358_0)).trans hw358_0),((HB.out.cell (World.block_lt_of_cell? w _ hw358_1)).trans hw358_1),((HB.out.cell (World.block_lt_of_cell? w _ hw359_0)).trans hw359_0),((HB.out.cell (World.block_lt_of_cell? w _ hw359_1)).trans hw359_1)⟩ (fun hHeld=>?_);refine with_tabW mr_SameFrames.tab12 mr_SameFrames.bits12 (fun HT_ HW_=>?_)
                generalize wr.drew=w51 at BK356 BK357 HB hx358_0 hx358_1 hx359_0 hx359_1 hHeld ⊢
                refine pure_ (i:=0) (N:=some 70) (v:=?_) (a':=?_) #[true,false,false,false,false,false,false,false,false,false,false] rfl rfl (any_of HT_.out (by kernel_rfl)) (fun _ _ _ h=>h) (Or.inl ⟨by rfl,?_⟩) ?_ ?_
                rotate_left
                ·intro w'
                 go_simp
                 with_reducible rfl
                rotate_left
                ·simp only[Act.put,zx,zy,zz,i64_w,i32_w]
                 rfl
                refine pure_ (i:=2) (N:=some 72) (v:=?_) (a':=?_) #[true,false,true,false,false,false,false,false,false,false,false] rfl rfl (any_of HT_.out (by kernel_rfl)) (fun _ _ _ h=>h) (Or.inl ⟨by rfl,?_⟩) ?_ ?_
                rotate_left
                ·intro w'
                 go_simp
                 with_reducible rfl
                rotate_left
                ·simp only[Act.put,zx,zy,zz,i64_w,i32_w]
                 rfl
                refine pure_ (i:=5) (N:=some 75) (v:=?_) (a':=?_) #[true,false,true,false,false,true,false,false,false,false,false] rfl rfl (any_of HT_.out (by kernel_rfl)) (fun _ _ _ h=>h) (Or.inl ⟨by rfl,?_⟩) ?_ ?_
                rotate_left
                ·intro w'
                 go_simp
                 with_reducible rfl
                rotate_left
                ·simp only[Act.put,zx,zy,zz,i64_w,i32_w]
                 rfl
                refine pure_ (i:=7) (N:=some 77) (v:=?_) (a':=?_) #[true,false,true,false,false,true,false,true,false,false,false] rfl rfl (any_of HT_.out (by kernel_rfl)) (fun _ _ _ h=>h) (Or.inl ⟨by rfl,?_⟩) ?_ ?_
                rotate_left
                ·intro w'
                 go_simp
                 with_reducible rfl
                rotate_left
                ·simp only[Act.put,zx,zy,zz,i64_w,i32_w]
                 rfl
                refine take_ (i:=1) (N:=some 71) (v:=?_) (a':=?_) #[true,true,true,false,false,true,false,true,false,false,false] rfl rfl (take_ofW HT_.out HW_.out (by kernel_rfl)) (fun _ _ _ h=>h) (Or.inl ⟨by rfl,?_⟩) hHeld ?_ ?_
                rotate_left
                ·rintro w' ⟨s0,s1,s2,s3,s4,s5,s6,s7,s8,s9,s10,s11,s12,s13⟩
                 go_simp
                 with_reducible rfl
                rotate_left
                ·simp only[Act.put,zx,zy,zz,i64_w,i32_w]
                 rfl
                refine pure_ (i:=3) (N:=some 73) (v:=?_) (a':=?_) #[true,true,true,true,false,true,false,true,false,false,false] rfl rfl (any_of HT_.out (by kernel_rfl)) (fun _ _ _ h=>h) (Or.inl ⟨by rfl,?_⟩) ?_ ?_
                rotate_left
                ·intro w'
                 go_simp
                 with_reducible rfl
                rotate_left
                ·simp only[Act.put,zx,zy,zz,i64_w,i32_w]
                 rfl
                refine take_ (i:=4) (N:=some 74) (v:=?_) (a':=?_) #[true,true,true,true,true,true,false,true,false,false,false] rfl rfl (take_ofW HT_.out HW_.out (by kernel_rfl)) (fun _ _ _ h=>h) (Or.inl ⟨by rfl,?_⟩) hHeld ?_ ?_
                rotate_left
                ·rintro w' ⟨s0,s1,s2,s3,s4,s5,s6,s7,s8,s9,s10,s11,s12,s13⟩
                 go_simp
                 with_reducible rfl
                rotate_left
                ·simp only[Act.put,zx,zy,zz,i64_w,i32_w]
                 rfl
                refine take_ (i:=6) (N:=some 76) (v:=?_) (a':=?_) #[true,true,true,true,true,true,true,true,false,false,false] rfl rfl (take_ofW HT_.out HW_.out (by kernel_rfl)) (fun _ _ _ h=>h) (Or.inl ⟨by rfl,?_⟩) hHeld ?_ ?_
                rotate_left
                ·rintro w' ⟨s0,s1,s2,s3,s4,s5,s6,s7,s8,s9,s10,s11,s12,s13⟩
                 go_simp
                 with_reducible rfl
                rotate_left
                ·simp only[Act.put,zx,zy,zz,i64_w,i32_w]
                 rfl
                refine pure_ (i:=8) (N:=some 78) (v:=?_) (a':=?_) #[true,true,true,true,true,true,true,true,true,false,false] rfl rfl (any_of HT_.out (by kernel_rfl)) (fun _ _ _ h=>h) (Or.inl ⟨by rfl,?_⟩) ?_ ?_
                rotate_left
                ·intro w'
                 go_simp
                 with_reducible rfl
                rotate_left
                ·simp only[Act.put,zx,zy,zz,i64_w,i32_w]
                 rfl
                refine take_ (i:=9) (N:=some 79) (v:=?_) (a':=?_) #[true,true,true,true,true,true,true,true,true,true,false] rfl rfl (take_ofW HT_.out HW_.out (by kernel_rfl)) (fun _ _ _ h=>h) (Or.inl ⟨by rfl,?_⟩) hHeld ?_ ?_
                rotate_left
                ·rintro w' ⟨s0,s1,s2,s3,s4,s5,s6,s7,s8,s9,s10,s11,s12,s13⟩
                 go_simp
                 with_reducible rfl
                rotate_left
                ·simp only[Act.put,zx,zy,zz,i64_w,i32_w]
                 rfl
                refine pure_ (i:=10) (N:=some 80) (v:=?_) (a':=?_) #[true,true,true,true,true,true,true,true,true,true,true] rfl rfl (any_of HT_.out (by kernel_rfl)) (fun _ _ _ h=>h) (Or.inl ⟨by rfl,?_⟩) ?_ ?_
                rotate_left
                ·intro w'
                 go_simp
                 with_reducible rfl
                rotate_left
                ·simp only[Act.put,zx,zy,zz,i64_w,i32_w]
                 rfl
                refine done_ (done_of HT_.out (by kernel_rfl)) ?_
                try go_wp2
                go_roundg k3
                case measure=>have:=HK1.out;have:=HJ6.out;have:=HK3.out;omega
                case rel=>exact⟨(wrap64 (x8_3+1)),(by first|rfl|(simp;done)|(simp[*];done)),H',⟨by have:=HK1.out;have:=HJ6.out;have:=HK3.out;omega⟩,⟨by(with_reducible repeat first|apply zd|apply ze|apply za);exact BK356.out⟩,⟨by(with_reducible repeat first|apply zd|apply ze|apply za);exact BK357.out⟩,⟨by repeat(first|(with_reducible first|exact HB.out|apply zA|apply zD|apply zE|refine zS ?_ GE356.out|refine zS ?_ GE357.out)|exact HB.out)⟩⟩
              ·rw[if_neg c44] at H
               exact absurd H (by simp)
             ·rw[if_neg c43] at H
              exact absurd H (by simp)
            ·rw[if_neg c42] at H
             have c42b0:decide (x8_3 < (((rd_T104 l0 x5_1).f4).length:Int))=false:=decide_eq_false c42
             clear c42
             have H':=zm H
             clear H
             have hnb52:=NB356_357.out
             have hnc52:=NB357_356.out
             have hcz53_0:=zc BK356.out 0 (.int .i64 ((rd_T104 l0 x5_1).f0)) rfl
             have hcz53_1:=zc BK356.out 1 (.bool ((rd_T104 l0 x5_1).f1)) rfl
             have hcz53_2:=zc BK356.out 2 (.int .i64 ((rd_T104 l0 x5_1).f2)) rfl
             have hcz53_3:=zc BK356.out 3 (.int .i64 ((rd_T104 l0 x5_1).f3)) rfl
             have hcz53_4:=zc BK356.out 4 (.slice A354_4 ((rd_T104 l0 x5_1).f4).length c354_4) rfl
             have hfz53_0:=zf BK356.out 0
             have hfz53_1:=zf BK356.out 1
             have hfz53_2:=zf BK356.out 2
             have hfz53_3:=zf BK356.out 3
             have hfz53_4:=zf BK356.out 4
             go_wp2
             go_roundg k3
             case measure=>have:=HK1.out;have:=HJ6.out;have:=HK3.out;omega
             case rel=>exact⟨(wrap64 (x5_1+1)),(by first|rfl|(simp;done)|(simp[*];done)),H',⟨by have:=HK1.out;have:=HJ6.out;have:=HK3.out;omega⟩,⟨by repeat(first|(with_reducible first|exact HB.out|apply zA|apply zD|apply zE|refine zS ?_ GE356.out|refine zS ?_ GE357.out)|exact HB.out)⟩⟩
      ·rw[if_neg c6] at H
       exact absurd H (by simp)
     ·rw[if_neg c5] at H
      exact absurd H (by simp)
    ·rw[if_neg c4] at H
     have c4b0:decide (x5_1 < (l0.length:Int))=false:=decide_eq_false c4
     clear c4
     obtain rfl:=Option.some.inj H
     go_wp2
     go_ret
     exact⟨by first|rfl|(simp[errW_none,errW_some]<;>rfl)|(simp[*,errW_none,errW_some]<;>rfl),by repeat(first|(with_reducible first|exact HB.out|apply zA|apply zD|apply zE)|exact HB.out)⟩
 ·rw[if_neg c3] at H
  have c3b0:((l0.length:Int)==(l1.length:Int))=false:=beq_eq_false_iff_ne.mpr c3
  have c3b1:((l0.length:Int) != (l1.length:Int))=true:=bne_iff_ne.mpr c3
  have c3b2:(l0.length==l1.length)=false:=by first|simpa using c3|(simp at c3 ⊢;omega)
  obtain rfl:=Option.some.inj H
  go_enter Try.func101,Try.ntmps101
  go_wp2
  go_ret
  exact⟨by first|rfl|(simp[errW_none,errW_some]<;>rfl)|(simp[*,errW_none,errW_some]<;>rfl),by repeat(first|(with_reducible first|exact HB.out|apply zA|apply zD|apply zE)|exact HB.out)⟩
end Go.Proofs.Ytkgdlbepjmgaiaa.Fea
namespace Go.Proofs.Ytkgdlbepjmgaiaa.Fea
open Go.RowKit YtkgdlbepjmgaiaaW.PrintWords YtkgdlbepjmgaiaaW.PrintLast YtkgdlbepjmgaiaaW.PrintMore
attribute [local go_sem] max2_int min2_int max_two min_two max_three min_three max_four min_four
attribute [local go_sem high] eqA23 eqA25
def mr_Same.f (k:Nat) (a0_0:ByteArray) (a0_1 a0_2 a0_3 a0_4 a0_5 a0_6 a0_7:Int) (l0_8:List (S104)) (a1_0:ByteArray) (a1_1 a1_2 a1_3 a1_4 a1_5 a1_6 a1_7:Int) (l1_8:List (S104)):Option (Bool):=if a0_0.toList=a1_0.toList then(if a0_1=a1_1 then(if a0_2=a1_2 then(if(a0_3==a1_3&&(a0_4==a1_4&&(a0_5==a1_5)))=true then(if(a0_6==a1_6&&(a0_7==a1_7))=true then((mr_SameFrames.f k l0_8 l1_8).bind fun t362=>(some t362)) else(some false)) else(some false)) else(some false)) else(some false)) else(some false)
theorem mr_Same.mono:∀ a0 a1 a2 a3 a4 a5 a6 a7 a8 a9 a10 a11 a12 a13 a14 a15 a16 a17 k,LeO (mr_Same.f k a0 a1 a2 a3 a4 a5 a6 a7 a8 a9 a10 a11 a12 a13 a14 a15 a16 a17) (mr_Same.f (k+1) a0 a1 a2 a3 a4 a5 a6 a7 a8 a9 a10 a11 a12 a13 a14 a15 a16 a17):=by
 intro a0 a1 a2 a3 a4 a5 a6 a7 a8 a9 a10 a11 a12 a13 a14 a15 a16 a17 k
 unfold mr_Same.f
 repeat' first
  | (with_reducible exact mr_SameFrames.mono _ _ _)
  | (with_reducible exact LeO.refl _)
  | (with_reducible exact LeO.none _)
  | (with_reducible refine LeO.ite ?_ ?_)
  | (with_reducible refine LeO.bind ?_ (fun _=>?_))
  | exact mr_SameFrames.mono _ _ _
  | exact LeO.none _
  | refine LeO.ite ?_ ?_
  | refine LeO.bind ?_ (fun _=>?_)
set_option maxHeartbeats 8000000 in
set_option maxRecDepth 100000 in
theorem mr_Same.calls (k:Nat) (a0_0:ByteArray) (a0_1 a0_2 a0_3 a0_4 a0_5 a0_6 a0_7:Int) (A0_8:Option Addr) (c0_8:Nat) (l0_8:List (S104)) (a1_0:ByteArray) (a1_1 a1_2 a1_3 a1_4 a1_5 a1_6 a1_7:Int) (A1_8:Option Addr) (c1_8:Nat) (l1_8:List (S104)) (r:Bool) (w:World) (hr0_8:Kd.C k104 w A0_8 l0_8.length l0_8) (hc0_8:l0_8.length≤c0_8) (hr1_8:Kd.C k104 w A1_8 l1_8.length l1_8) (hc1_8:l1_8.length≤c1_8) (h:mr_Same.f k a0_0 a0_1 a0_2 a0_3 a0_4 a0_5 a0_6 a0_7 l0_8 a1_0 a1_1 a1_2 a1_3 a1_4 a1_5 a1_6 a1_7 l1_8=some r):
 Calls Try.prog 49 #[.agg #[.string a0_0,.int .i64 a0_1,.int .i64 a0_2,.int .i64 a0_3,.int .i64 a0_4,.int .i64 a0_5,.int .i64 a0_6,.int .i64 a0_7,.slice A0_8 l0_8.length c0_8],.agg #[.string a1_0,.int .i64 a1_1,.int .i64 a1_2,.int .i64 a1_3,.int .i64 a1_4,.int .i64 a1_5,.int .i64 a1_6,.int .i64 a1_7,.slice A1_8 l1_8.length c1_8]] w fun e w'=>e=.returned (.bool r)∧Below w.heap.size w w':=by
 have hu28:=Try.underlying28
 have hu23:=Try.underlying23
 have hu25:=Try.underlying25
 have HR0_8:=zm hr0_8
 have HC0_8:=zm hc0_8
 clear hr0_8 hc0_8
 have HR1_8:=zm hr1_8
 have HC1_8:=zm hc1_8
 clear hr1_8 hc1_8
 have HB:=zm (Below.refl w.heap.size w)
 have H:(if a0_0.toList=a1_0.toList then(if a0_1=a1_1 then(if a0_2=a1_2 then(if(a0_3==a1_3&&(a0_4==a1_4&&(a0_5==a1_5)))=true then(if(a0_6==a1_6&&(a0_7==a1_7))=true then((mr_SameFrames.f k l0_8 l1_8).bind fun t362=>(some t362)) else(some false)) else(some false)) else(some false)) else(some false)) else(some false))=some r:=h
 clear h
 by_cases c3:a0_0.toList=a1_0.toList
 ·rw[if_pos c3] at H
  have c3b0:(a0_0.toList==a1_0.toList)=true:=beq_iff_eq.mpr c3
  have c3b1:(a0_0.toList != a1_0.toList)=false:=bne_eq_false_iff_eq.mpr c3
  clear c3
  by_cases c4:a0_1=a1_1
  ·rw[if_pos c4] at H
   have c4b0:(a0_1==a1_1)=true:=beq_iff_eq.mpr c4
   have c4b1:(a0_1 != a1_1)=false:=bne_eq_false_iff_eq.mpr c4
   clear c4
   by_cases c5:a0_2=a1_2
   ·rw[if_pos c5] at H
    have c5b0:(a0_2==a1_2)=true:=beq_iff_eq.mpr c5
    have c5b1:(a0_2 != a1_2)=false:=bne_eq_false_iff_eq.mpr c5
    clear c5
    by_cases c6:(a0_3==a1_3&&(a0_4==a1_4&&(a0_5==a1_5)))=true
    ·rw[if_pos c6] at H
     have c6b0:(a0_3==a1_3&&(a0_4==a1_4&&(a0_5==a1_5)))=true:=c6
     (try(have c6b1:decide (a0_3=a1_3&&(a0_4==a1_4&&(a0_5==a1_5)))=true:=by simpa using c6))
     (try(have c6b2:(a0_3==a1_3&&(a0_4==a1_4&&(a0_5==a1_5)))=true:=by simpa using c6))
     clear c6
     by_cases c7:(a0_6==a1_6&&(a0_7==a1_7))=true
     ·rw[if_pos c7] at H
      have c7b0:(a0_6==a1_6&&(a0_7==a1_7))=true:=c7
      (try(have c7b1:decide (a0_6=a1_6&&(a0_7==a1_7))=true:=by simpa using c7))
      (try(have c7b2:(a0_6==a1_6&&(a0_7==a1_7))=true:=by simpa using c7))
      clear c7
      replace H:=Option.bind_eq_some_iff.mp H
      obtain⟨t362,A80,H⟩:=H
      replace H:(some t362)=some r:=H
      have A8:=zm A80
      clear A80
      obtain rfl:=Option.some.inj H
      go_enter Try.func49,Try.ntmps49
      go_wp2_with (first|((with_reducible refine gate_dst (N:=2) rfl ?_);refine box_event ?hg (N:=2) ?hd (cs:=#[.string a0_0,.int .i64 a0_1,.int .i64 a0_2,.int .i64 a0_3,.int .i64 a0_4,.int .i64 a0_5,.int .i64 a0_6,.int .i64 a0_7,.slice A0_8 l0_8.length c0_8]) (t:=28) ?hr ?_;(case hd=>rfl);(case hg=>rfl);(case hr=>first|(go_simp;done)|(go_simp;rfl));intro gb360 hg w9 hbox hb;have n0_:=zm (below_step (by repeat(first|(with_reducible first|exact HB.out|apply zA|apply zD|apply zE)|exact HB.out)) hb);have n1_:=zm (hbox);have n2_:=zm ((by rw[hg];exact(below_size (by repeat(first|(with_reducible first|exact HB.out|apply zA|apply zD|apply zE)|exact HB.out))):w.heap.size≤gb360));have n3_:=zm ((by rw[hg];exact(below_size (by repeat(first|(with_reducible first|exact HB.out|apply zA|apply zD|apply zE)|exact HB.out))):w.heap.size≤gb360));clear HB;have HB:=n0_;have BK360:=n1_;have GW360:=n2_;have GE360:=n3_;clear n0_ n1_ n2_ n3_;clear hb hbox hg)|((with_reducible refine gate_dst (N:=3) rfl ?_);refine box_event ?hg (N:=3) ?hd (cs:=#[.string a1_0,.int .i64 a1_1,.int .i64 a1_2,.int .i64 a1_3,.int .i64 a1_4,.int .i64 a1_5,.int .i64 a1_6,.int .i64 a1_7,.slice A1_8 l1_8.length c1_8]) (t:=28) ?hr ?_;(case hd=>rfl);(case hg=>rfl);(case hr=>first|(go_simp;done)|(go_simp;rfl));intro gb361 hg w10 hbox hb;have n0_:=zm (zb (g:=gb360) (o:=.cells #[.string a0_0,.int .i64 a0_1,.int .i64 a0_2,.int .i64 a0_3,.int .i64 a0_4,.int .i64 a0_5,.int .i64 a0_6,.int .i64 a0_7,.slice A0_8 l0_8.length c0_8] 28 (0,0)) (by(with_reducible repeat first|apply zd|apply ze|apply za);exact BK360.out) hb);have n1_:=zm (below_step (by repeat(first|(with_reducible first|exact HB.out|apply zA|apply zD|apply zE|refine zS ?_ GE360.out)|exact HB.out)) hb);have n2_:=zm (hbox);have n3_:=zm ((by rw[hg];exact(below_size (by repeat(first|(with_reducible first|exact HB.out|apply zA|apply zD|apply zE|refine zS ?_ GE360.out)|exact HB.out))):w.heap.size≤gb361));have n4_:=zm ((by rw[hg];exact(below_size (by repeat(first|(with_reducible first|exact HB.out|apply zA|apply zD|apply zE|refine zS ?_ GE360.out)|exact HB.out))):w.heap.size≤gb361));have n5_:=zm ((by rw[hg];exact Nat.ne_of_lt (blk_lt (g:=gb360) (o:=.cells #[.string a0_0,.int .i64 a0_1,.int .i64 a0_2,.int .i64 a0_3,.int .i64 a0_4,.int .i64 a0_5,.int .i64 a0_6,.int .i64 a0_7,.slice A0_8 l0_8.length c0_8] 28 (0,0)) (by(with_reducible repeat first|apply zd|apply ze|apply za);exact BK360.out)):gb360≠gb361));have n6_:=zm ((by rw[hg];exact Nat.ne_of_gt (blk_lt (g:=gb360) (o:=.cells #[.string a0_0,.int .i64 a0_1,.int .i64 a0_2,.int .i64 a0_3,.int .i64 a0_4,.int .i64 a0_5,.int .i64 a0_6,.int .i64 a0_7,.slice A0_8 l0_8.length c0_8] 28 (0,0)) (by(with_reducible repeat first|apply zd|apply ze|apply za);exact BK360.out)):gb361≠gb360));clear BK360 HB;have BK360:=n0_;have HB:=n1_;have BK361:=n2_;have GW361:=n3_;have GE361:=n4_;have NB360_361:=n5_;have NB361_360:=n6_;clear n0_ n1_ n2_ n3_ n4_ n5_ n6_;clear hb hbox hg;have hnb11:=NB360_361.out;have hnc11:=NB361_360.out;have hcz12_0:=zc BK360.out 0 (.string a0_0) rfl;have hcz12_1:=zc BK360.out 1 (.int .i64 a0_1) rfl;have hcz12_2:=zc BK360.out 2 (.int .i64 a0_2) rfl;have hcz12_3:=zc BK360.out 3 (.int .i64 a0_3) rfl;have hcz12_4:=zc BK360.out 4 (.int .i64 a0_4) rfl;have hcz12_5:=zc BK360.out 5 (.int .i64 a0_5) rfl;have hcz12_6:=zc BK360.out 6 (.int .i64 a0_6) rfl;have hcz12_7:=zc BK360.out 7 (.int .i64 a0_7) rfl;have hcz12_8:=zc BK360.out 8 (.slice A0_8 l0_8.length c0_8) rfl;have hfz12_0:=zf BK360.out 0;have hfz12_1:=zf BK360.out 1;have hfz12_2:=zf BK360.out 2;have hfz12_3:=zf BK360.out 3;have hfz12_4:=zf BK360.out 4;have hfz12_5:=zf BK360.out 5;have hfz12_6:=zf BK360.out 6;have hfz12_7:=zf BK360.out 7;have hfz12_8:=zf BK360.out 8;have hcz13_0:=zc BK361.out 0 (.string a1_0) rfl;have hcz13_1:=zc BK361.out 1 (.int .i64 a1_1) rfl;have hcz13_2:=zc BK361.out 2 (.int .i64 a1_2) rfl;have hcz13_3:=zc BK361.out 3 (.int .i64 a1_3) rfl;have hcz13_4:=zc BK361.out 4 (.int .i64 a1_4) rfl;have hcz13_5:=zc BK361.out 5 (.int .i64 a1_5) rfl;have hcz13_6:=zc BK361.out 6 (.int .i64 a1_6) rfl;have hcz13_7:=zc BK361.out 7 (.int .i64 a1_7) rfl;have hcz13_8:=zc BK361.out 8 (.slice A1_8 l1_8.length c1_8) rfl;have hfz13_0:=zf BK361.out 0;have hfz13_1:=zf BK361.out 1;have hfz13_2:=zf BK361.out 2;have hfz13_3:=zf BK361.out 3;have hfz13_4:=zf BK361.out 4;have hfz13_5:=zf BK361.out 5;have hfz13_6:=zf BK361.out 6;have hfz13_7:=zf BK361.out 7;have hfz13_8:=zf BK361.out 8)|(go_at_call 101;(with_reducible refine(mr_SameFrames.calls k _ _ l0_8 _ _ l1_8 t362 _ ?side1 ?side2 ?side3 ?side4 A8.out).mono ?_);(case side1=>repeat(first|exact(Kd.C_below HR0_8.out HB.out)|(with_reducible refine Kd.C_alloc ?_ _)|(with_reducible refine Kd.C_drewN ?_ _)|(with_reducible refine Kd.C_drew ?_)));(case side2=>exact HC0_8.out);(case side3=>repeat(first|exact(Kd.C_below HR1_8.out HB.out)|(with_reducible refine Kd.C_alloc ?_ _)|(with_reducible refine Kd.C_drewN ?_ _)|(with_reducible refine Kd.C_drew ?_)));(case side4=>exact HC1_8.out);rintro e w14 ⟨rfl,hb⟩;have n0_:=zm (zb (g:=gb360) (o:=.cells #[.string a0_0,.int .i64 a0_1,.int .i64 a0_2,.int .i64 a0_3,.int .i64 a0_4,.int .i64 a0_5,.int .i64 a0_6,.int .i64 a0_7,.slice A0_8 l0_8.length c0_8] 28 (0,0)) (by(with_reducible repeat first|apply zd|apply ze|apply za);exact BK360.out) hb);have n1_:=zm (zb (g:=gb361) (o:=.cells #[.string a1_0,.int .i64 a1_1,.int .i64 a1_2,.int .i64 a1_3,.int .i64 a1_4,.int .i64 a1_5,.int .i64 a1_6,.int .i64 a1_7,.slice A1_8 l1_8.length c1_8] 28 (0,0)) (by(with_reducible repeat first|apply zd|apply ze|apply za);exact BK361.out) hb);have n2_:=zm (below_step (by repeat(first|(with_reducible first|exact HB.out|apply zA|apply zD|apply zE|refine zS ?_ GE360.out|refine zS ?_ GE361.out)|exact HB.out)) hb);clear BK360 BK361 HB;have BK360:=n0_;have BK361:=n1_;have HB:=n2_;clear n0_ n1_ n2_;(try clear hb);(try clear hb2);(try clear hk);(try clear hi)))
      go_ret
      exact⟨by first|rfl|(simp[errW_none,errW_some]<;>rfl)|(simp[*,errW_none,errW_some]<;>rfl),by repeat(first|(with_reducible first|exact HB.out|apply zA|apply zD|apply zE|refine zS ?_ GE360.out|refine zS ?_ GE361.out)|exact HB.out)⟩
     ·rw[if_neg c7] at H
      have c7b0:(a0_6==a1_6&&(a0_7==a1_7))=false:=by simpa using c7
      (try(have c7b1:decide (a0_6=a1_6&&(a0_7==a1_7))=false:=by simpa using c7))
      (try(have c7b2:(a0_6==a1_6&&(a0_7==a1_7))=false:=by simpa using c7))
      (try(have c7b3:¬(a0_6=a1_6&&(a0_7==a1_7)):=by simpa using c7))
      clear c7
      obtain rfl:=Option.some.inj H
      go_enter Try.func49,Try.ntmps49
      go_wp2_with (first|((with_reducible refine gate_dst (N:=2) rfl ?_);refine box_event ?hg (N:=2) ?hd (cs:=#[.string a0_0,.int .i64 a0_1,.int .i64 a0_2,.int .i64 a0_3,.int .i64 a0_4,.int .i64 a0_5,.int .i64 a0_6,.int .i64 a0_7,.slice A0_8 l0_8.length c0_8]) (t:=28) ?hr ?_;(case hd=>rfl);(case hg=>rfl);(case hr=>first|(go_simp;done)|(go_simp;rfl));intro gb360 hg w15 hbox hb;have n0_:=zm (below_step (by repeat(first|(with_reducible first|exact HB.out|apply zA|apply zD|apply zE)|exact HB.out)) hb);have n1_:=zm (hbox);have n2_:=zm ((by rw[hg];exact(below_size (by repeat(first|(with_reducible first|exact HB.out|apply zA|apply zD|apply zE)|exact HB.out))):w.heap.size≤gb360));have n3_:=zm ((by rw[hg];exact(below_size (by repeat(first|(with_reducible first|exact HB.out|apply zA|apply zD|apply zE)|exact HB.out))):w.heap.size≤gb360));clear HB;have HB:=n0_;have BK360:=n1_;have GW360:=n2_;have GE360:=n3_;clear n0_ n1_ n2_ n3_;clear hb hbox hg)|((with_reducible refine gate_dst (N:=3) rfl ?_);refine box_event ?hg (N:=3) ?hd (cs:=#[.string a1_0,.int .i64 a1_1,.int .i64 a1_2,.int .i64 a1_3,.int .i64 a1_4,.int .i64 a1_5,.int .i64 a1_6,.int .i64 a1_7,.slice A1_8 l1_8.length c1_8]) (t:=28) ?hr ?_;(case hd=>rfl);(case hg=>rfl);(case hr=>first|(go_simp;done)|(go_simp;rfl));intro gb361 hg w16 hbox hb;have n0_:=zm (zb (g:=gb360) (o:=.cells #[.string a0_0,.int .i64 a0_1,.int .i64 a0_2,.int .i64 a0_3,.int .i64 a0_4,.int .i64 a0_5,.int .i64 a0_6,.int .i64 a0_7,.slice A0_8 l0_8.length c0_8] 28 (0,0)) (by(with_reducible repeat first|apply zd|apply ze|apply za);exact BK360.out) hb);have n1_:=zm (below_step (by repeat(first|(with_reducible first|exact HB.out|apply zA|apply zD|apply zE|refine zS ?_ GE360.out)|exact HB.out)) hb);have n2_:=zm (hbox);have n3_:=zm ((by rw[hg];exact(below_size (by repeat(first|(with_reducible first|exact HB.out|apply zA|apply zD|apply zE|refine zS ?_ GE360.out)|exact HB.out))):w.heap.size≤gb361));have n4_:=zm ((by rw[hg];exact(below_size (by repeat(first|(with_reducible first|exact HB.out|apply zA|apply zD|apply zE|refine zS ?_ GE360.out)|exact HB.out))):w.heap.size≤gb361));have n5_:=zm ((by rw[hg];exact Nat.ne_of_lt (blk_lt (g:=gb360) (o:=.cells #[.string a0_0,.int .i64 a0_1,.int .i64 a0_2,.int .i64 a0_3,.int .i64 a0_4,.int .i64 a0_5,.int .i64 a0_6,.int .i64 a0_7,.slice A0_8 l0_8.length c0_8] 28 (0,0)) (by(with_reducible repeat first|apply zd|apply ze|apply za);exact BK360.out)):gb360≠gb361));have n6_:=zm ((by rw[hg];exact Nat.ne_of_gt (blk_lt (g:=gb360) (o:=.cells #[.string a0_0,.int .i64 a0_1,.int .i64 a0_2,.int .i64 a0_3,.int .i64 a0_4,.int .i64 a0_5,.int .i64 a0_6,.int .i64 a0_7,.slice A0_8 l0_8.length c0_8] 28 (0,0)) (by(with_reducible repeat first|apply zd|apply ze|apply za);exact BK360.out)):gb361≠gb360));clear BK360 HB;have BK360:=n0_;have HB:=n1_;have BK361:=n2_;have GW361:=n3_;have GE361:=n4_;have NB360_361:=n5_;have NB361_360:=n6_;clear n0_ n1_ n2_ n3_ n4_ n5_ n6_;clear hb hbox hg;have hnb17:=NB360_361.out;have hnc17:=NB361_360.out;have hcz18_0:=zc BK360.out 0 (.string a0_0) rfl;have hcz18_1:=zc BK360.out 1 (.int .i64 a0_1) rfl;have hcz18_2:=zc BK360.out 2 (.int .i64 a0_2) rfl;have hcz18_3:=zc BK360.out 3 (.int .i64 a0_3) rfl;have hcz18_4:=zc BK360.out 4 (.int .i64 a0_4) rfl;have hcz18_5:=zc BK360.out 5 (.int .i64 a0_5) rfl;have hcz18_6:=zc BK360.out 6 (.int .i64 a0_6) rfl;have hcz18_7:=zc BK360.out 7 (.int .i64 a0_7) rfl;have hcz18_8:=zc BK360.out 8 (.slice A0_8 l0_8.length c0_8) rfl;have hfz18_0:=zf BK360.out 0;have hfz18_1:=zf BK360.out 1;have hfz18_2:=zf BK360.out 2;have hfz18_3:=zf BK360.out 3;have hfz18_4:=zf BK360.out 4;have hfz18_5:=zf BK360.out 5;have hfz18_6:=zf BK360.out 6;have hfz18_7:=zf BK360.out 7;have hfz18_8:=zf BK360.out 8;have hcz19_0:=zc BK361.out 0 (.string a1_0) rfl;have hcz19_1:=zc BK361.out 1 (.int .i64 a1_1) rfl;have hcz19_2:=zc BK361.out 2 (.int .i64 a1_2) rfl;have hcz19_3:=zc BK361.out 3 (.int .i64 a1_3) rfl;have hcz19_4:=zc BK361.out 4 (.int .i64 a1_4) rfl;have hcz19_5:=zc BK361.out 5 (.int .i64 a1_5) rfl;have hcz19_6:=zc BK361.out 6 (.int .i64 a1_6) rfl;have hcz19_7:=zc BK361.out 7 (.int .i64 a1_7) rfl;have hcz19_8:=zc BK361.out 8 (.slice A1_8 l1_8.length c1_8) rfl;have hfz19_0:=zf BK361.out 0;have hfz19_1:=zf BK361.out 1;have hfz19_2:=zf BK361.out 2;have hfz19_3:=zf BK361.out 3;have hfz19_4:=zf BK361.out 4;have hfz19_5:=zf BK361.out 5;have hfz19_6:=zf BK361.out 6;have hfz19_7:=zf BK361.out 7;have hfz19_8:=zf BK361.out 8))
      go_ret
      exact⟨by first|rfl|(simp[errW_none,errW_some]<;>rfl)|(simp[*,errW_none,errW_some]<;>rfl),by repeat(first|(with_reducible first|exact HB.out|apply zA|apply zD|apply zE|refine zS ?_ GE360.out|refine zS ?_ GE361.out)|exact HB.out)⟩
    ·rw[if_neg c6] at H
     have c6b0:(a0_3==a1_3&&(a0_4==a1_4&&(a0_5==a1_5)))=false:=by simpa using c6
     (try(have c6b1:decide (a0_3=a1_3&&(a0_4==a1_4&&(a0_5==a1_5)))=false:=by simpa using c6))
     (try(have c6b2:(a0_3==a1_3&&(a0_4==a1_4&&(a0_5==a1_5)))=false:=by simpa using c6))
     (try(have c6b3:¬(a0_3=a1_3&&(a0_4==a1_4&&(a0_5==a1_5))):=by simpa using c6))
     clear c6
     obtain rfl:=Option.some.inj H
     go_enter Try.func49,Try.ntmps49
     go_wp2_with (first|((with_reducible refine gate_dst (N:=2) rfl ?_);refine box_event ?hg (N:=2) ?hd (cs:=#[.string a0_0,.int .i64 a0_1,.int .i64 a0_2,.int .i64 a0_3,.int .i64 a0_4,.int .i64 a0_5,.int .i64 a0_6,.int .i64 a0_7,.slice A0_8 l0_8.length c0_8]) (t:=28) ?hr ?_;(case hd=>rfl);(case hg=>rfl);(case hr=>first|(go_simp;done)|(go_simp;rfl));intro gb360 hg w20 hbox hb;have n0_:=zm (below_step (by repeat(first|(with_reducible first|exact HB.out|apply zA|apply zD|apply zE)|exact HB.out)) hb);have n1_:=zm (hbox);have n2_:=zm ((by rw[hg];exact(below_size (by repeat(first|(with_reducible first|exact HB.out|apply zA|apply zD|apply zE)|exact HB.out))):w.heap.size≤gb360));have n3_:=zm ((by rw[hg];exact(below_size (by repeat(first|(with_reducible first|exact HB.out|apply zA|apply zD|apply zE)|exact HB.out))):w.heap.size≤gb360));clear HB;have HB:=n0_;have BK360:=n1_;have GW360:=n2_;have GE360:=n3_;clear n0_ n1_ n2_ n3_;clear hb hbox hg)|((with_reducible refine gate_dst (N:=3) rfl ?_);refine box_event ?hg (N:=3) ?hd (cs:=#[.string a1_0,.int .i64 a1_1,.int .i64 a1_2,.int .i64 a1_3,.int .i64 a1_4,.int .i64 a1_5,.int .i64 a1_6,.int .i64 a1_7,.slice A1_8 l1_8.length c1_8]) (t:=28) ?hr ?_;(case hd=>rfl);(case hg=>rfl);(case hr=>first|(go_simp;done)|(go_simp;rfl));intro gb361 hg w21 hbox hb;have n0_:=zm (zb (g:=gb360) (o:=.cells #[.string a0_0,.int .i64 a0_1,.int .i64 a0_2,.int .i64 a0_3,.int .i64 a0_4,.int .i64 a0_5,.int .i64 a0_6,.int .i64 a0_7,.slice A0_8 l0_8.length c0_8] 28 (0,0)) (by(with_reducible repeat first|apply zd|apply ze|apply za);exact BK360.out) hb);have n1_:=zm (below_step (by repeat(first|(with_reducible first|exact HB.out|apply zA|apply zD|apply zE|refine zS ?_ GE360.out)|exact HB.out)) hb);have n2_:=zm (hbox);have n3_:=zm ((by rw[hg];exact(below_size (by repeat(first|(with_reducible first|exact HB.out|apply zA|apply zD|apply zE|refine zS ?_ GE360.out)|exact HB.out))):w.heap.size≤gb361));have n4_:=zm ((by rw[hg];exact(below_size (by repeat(first|(with_reducible first|exact HB.out|apply zA|apply zD|apply zE|refine zS ?_ GE360.out)|exact HB.out))):w.heap.size≤gb361));have n5_:=zm ((by rw[hg];exact Nat.ne_of_lt (blk_lt (g:=gb360) (o:=.cells #[.string a0_0,.int .i64 a0_1,.int .i64 a0_2,.int .i64 a0_3,.int .i64 a0_4,.int .i64 a0_5,.int .i64 a0_6,.int .i64 a0_7,.slice A0_8 l0_8.length c0_8] 28 (0,0)) (by(with_reducible repeat first|apply zd|apply ze|apply za);exact BK360.out)):gb360≠gb361));have n6_:=zm ((by rw[hg];exact Nat.ne_of_gt (blk_lt (g:=gb360) (o:=.cells #[.string a0_0,.int .i64 a0_1,.int .i64 a0_2,.int .i64 a0_3,.int .i64 a0_4,.int .i64 a0_5,.int .i64 a0_6,.int .i64 a0_7,.slice A0_8 l0_8.length c0_8] 28 (0,0)) (by(with_reducible repeat first|apply zd|apply ze|apply za);exact BK360.out)):gb361≠gb360));clear BK360 HB;have BK360:=n0_;have HB:=n1_;have BK361:=n2_;have GW361:=n3_;have GE361:=n4_;have NB360_361:=n5_;have NB361_360:=n6_;clear n0_ n1_ n2_ n3_ n4_ n5_ n6_;clear hb hbox hg;have hnb22:=NB360_361.out;have hnc22:=NB361_360.out;have hcz23_0:=zc BK360.out 0 (.string a0_0) rfl;have hcz23_1:=zc BK360.out 1 (.int .i64 a0_1) rfl;have hcz23_2:=zc BK360.out 2 (.int .i64 a0_2) rfl;have hcz23_3:=zc BK360.out 3 (.int .i64 a0_3) rfl;have hcz23_4:=zc BK360.out 4 (.int .i64 a0_4) rfl;have hcz23_5:=zc BK360.out 5 (.int .i64 a0_5) rfl;have hcz23_6:=zc BK360.out 6 (.int .i64 a0_6) rfl;have hcz23_7:=zc BK360.out 7 (.int .i64 a0_7) rfl;have hcz23_8:=zc BK360.out 8 (.slice A0_8 l0_8.length c0_8) rfl;have hfz23_0:=zf BK360.out 0;have hfz23_1:=zf BK360.out 1;have hfz23_2:=zf BK360.out 2;have hfz23_3:=zf BK360.out 3;have hfz23_4:=zf BK360.out 4;have hfz23_5:=zf BK360.out 5;have hfz23_6:=zf BK360.out 6;have hfz23_7:=zf BK360.out 7;have hfz23_8:=zf BK360.out 8;have hcz24_0:=zc BK361.out 0 (.string a1_0) rfl;have hcz24_1:=zc BK361.out 1 (.int .i64 a1_1) rfl;have hcz24_2:=zc BK361.out 2 (.int .i64 a1_2) rfl;have hcz24_3:=zc BK361.out 3 (.int .i64 a1_3) rfl;have hcz24_4:=zc BK361.out 4 (.int .i64 a1_4) rfl;have hcz24_5:=zc BK361.out 5 (.int .i64 a1_5) rfl;have hcz24_6:=zc BK361.out 6 (.int .i64 a1_6) rfl;have hcz24_7:=zc BK361.out 7 (.int .i64 a1_7) rfl;have hcz24_8:=zc BK361.out 8 (.slice A1_8 l1_8.length c1_8) rfl;have hfz24_0:=zf BK361.out 0;have hfz24_1:=zf BK361.out 1;have hfz24_2:=zf BK361.out 2;have hfz24_3:=zf BK361.out 3;have hfz24_4:=zf BK361.out 4;have hfz24_5:=zf BK361.out 5;have hfz24_6:=zf BK361.out 6;have hfz24_7:=zf BK361.out 7;have hfz24_8:=zf BK361.out 8))
     go_ret
     exact⟨by first|rfl|(simp[errW_none,errW_some]<;>rfl)|(simp[*,errW_none,errW_some]<;>rfl),by repeat(first|(with_reducible first|exact HB.out|apply zA|apply zD|apply zE|refine zS ?_ GE360.out|refine zS ?_ GE361.out)|exact HB.out)⟩
   ·rw[if_neg c5] at H
    have c5b0:(a0_2==a1_2)=false:=beq_eq_false_iff_ne.mpr c5
    have c5b1:(a0_2 != a1_2)=true:=bne_iff_ne.mpr c5
    obtain rfl:=Option.some.inj H
    go_enter Try.func49,Try.ntmps49
    go_wp2_with (first|((with_reducible refine gate_dst (N:=2) rfl ?_);refine box_event ?hg (N:=2) ?hd (cs:=#[.string a0_0,.int .i64 a0_1,.int .i64 a0_2,.int .i64 a0_3,.int .i64 a0_4,.int .i64 a0_5,.int .i64 a0_6,.int .i64 a0_7,.slice A0_8 l0_8.length c0_8]) (t:=28) ?hr ?_;(case hd=>rfl);(case hg=>rfl);(case hr=>first|(go_simp;done)|(go_simp;rfl));intro gb360 hg w25 hbox hb;have n0_:=zm (below_step (by repeat(first|(with_reducible first|exact HB.out|apply zA|apply zD|apply zE)|exact HB.out)) hb);have n1_:=zm (hbox);have n2_:=zm ((by rw[hg];exact(below_size (by repeat(first|(with_reducible first|exact HB.out|apply zA|apply zD|apply zE)|exact HB.out))):w.heap.size≤gb360));have n3_:=zm ((by rw[hg];exact(below_size (by repeat(first|(with_reducible first|exact HB.out|apply zA|apply zD|apply zE)|exact HB.out))):w.heap.size≤gb360));clear HB;have HB:=n0_;have BK360:=n1_;have GW360:=n2_;have GE360:=n3_;clear n0_ n1_ n2_ n3_;clear hb hbox hg)|((with_reducible refine gate_dst (N:=3) rfl ?_);refine box_event ?hg (N:=3) ?hd (cs:=#[.string a1_0,.int .i64 a1_1,.int .i64 a1_2,.int .i64 a1_3,.int .i64 a1_4,.int .i64 a1_5,.int .i64 a1_6,.int .i64 a1_7,.slice A1_8 l1_8.length c1_8]) (t:=28) ?hr ?_;(case hd=>rfl);(case hg=>rfl);(case hr=>first|(go_simp;done)|(go_simp;rfl));intro gb361 hg w26 hbox hb;have n0_:=zm (zb (g:=gb360) (o:=.cells #[.string a0_0,.int .i64 a0_1,.int .i64 a0_2,.int .i64 a0_3,.int .i64 a0_4,.int .i64 a0_5,.int .i64 a0_6,.int .i64 a0_7,.slice A0_8 l0_8.length c0_8] 28 (0,0)) (by(with_reducible repeat first|apply zd|apply ze|apply za);exact BK360.out) hb);have n1_:=zm (below_step (by repeat(first|(with_reducible first|exact HB.out|apply zA|apply zD|apply zE|refine zS ?_ GE360.out)|exact HB.out)) hb);have n2_:=zm (hbox);have n3_:=zm ((by rw[hg];exact(below_size (by repeat(first|(with_reducible first|exact HB.out|apply zA|apply zD|apply zE|refine zS ?_ GE360.out)|exact HB.out))):w.heap.size≤gb361));have n4_:=zm ((by rw[hg];exact(below_size (by repeat(first|(with_reducible first|exact HB.out|apply zA|apply zD|apply zE|refine zS ?_ GE360.out)|exact HB.out))):w.heap.size≤gb361));have n5_:=zm ((by rw[hg];exact Nat.ne_of_lt (blk_lt (g:=gb360) (o:=.cells #[.string a0_0,.int .i64 a0_1,.int .i64 a0_2,.int .i64 a0_3,.int .i64 a0_4,.int .i64 a0_5,.int .i64 a0_6,.int .i64 a0_7,.slice A0_8 l0_8.length c0_8] 28 (0,0)) (by(with_reducible repeat first|apply zd|apply ze|apply za);exact BK360.out)):gb360≠gb361));have n6_:=zm ((by rw[hg];exact Nat.ne_of_gt (blk_lt (g:=gb360) (o:=.cells #[.string a0_0,.int .i64 a0_1,.int .i64 a0_2,.int .i64 a0_3,.int .i64 a0_4,.int .i64 a0_5,.int .i64 a0_6,.int .i64 a0_7,.slice A0_8 l0_8.length c0_8] 28 (0,0)) (by(with_reducible repeat first|apply zd|apply ze|apply za);exact BK360.out)):gb361≠gb360));clear BK360 HB;have BK360:=n0_;have HB:=n1_;have BK361:=n2_;have GW361:=n3_;have GE361:=n4_;have NB360_361:=n5_;have NB361_360:=n6_;clear n0_ n1_ n2_ n3_ n4_ n5_ n6_;clear hb hbox hg;have hnb27:=NB360_361.out;have hnc27:=NB361_360.out;have hcz28_0:=zc BK360.out 0 (.string a0_0) rfl;have hcz28_1:=zc BK360.out 1 (.int .i64 a0_1) rfl;have hcz28_2:=zc BK360.out 2 (.int .i64 a0_2) rfl;have hcz28_3:=zc BK360.out 3 (.int .i64 a0_3) rfl;have hcz28_4:=zc BK360.out 4 (.int .i64 a0_4) rfl;have hcz28_5:=zc BK360.out 5 (.int .i64 a0_5) rfl;have hcz28_6:=zc BK360.out 6 (.int .i64 a0_6) rfl;have hcz28_7:=zc BK360.out 7 (.int .i64 a0_7) rfl;have hcz28_8:=zc BK360.out 8 (.slice A0_8 l0_8.length c0_8) rfl;have hfz28_0:=zf BK360.out 0;have hfz28_1:=zf BK360.out 1;have hfz28_2:=zf BK360.out 2;have hfz28_3:=zf BK360.out 3;have hfz28_4:=zf BK360.out 4;have hfz28_5:=zf BK360.out 5;have hfz28_6:=zf BK360.out 6;have hfz28_7:=zf BK360.out 7;have hfz28_8:=zf BK360.out 8;have hcz29_0:=zc BK361.out 0 (.string a1_0) rfl;have hcz29_1:=zc BK361.out 1 (.int .i64 a1_1) rfl;have hcz29_2:=zc BK361.out 2 (.int .i64 a1_2) rfl;have hcz29_3:=zc BK361.out 3 (.int .i64 a1_3) rfl;have hcz29_4:=zc BK361.out 4 (.int .i64 a1_4) rfl;have hcz29_5:=zc BK361.out 5 (.int .i64 a1_5) rfl;have hcz29_6:=zc BK361.out 6 (.int .i64 a1_6) rfl;have hcz29_7:=zc BK361.out 7 (.int .i64 a1_7) rfl;have hcz29_8:=zc BK361.out 8 (.slice A1_8 l1_8.length c1_8) rfl;have hfz29_0:=zf BK361.out 0;have hfz29_1:=zf BK361.out 1;have hfz29_2:=zf BK361.out 2;have hfz29_3:=zf BK361.out 3;have hfz29_4:=zf BK361.out 4;have hfz29_5:=zf BK361.out 5;have hfz29_6:=zf BK361.out 6;have hfz29_7:=zf BK361.out 7;have hfz29_8:=zf BK361.out 8))
    go_ret
    exact⟨by first|rfl|(simp[errW_none,errW_some]<;>rfl)|(simp[*,errW_none,errW_some]<;>rfl),by repeat(first|(with_reducible first|exact HB.out|apply zA|apply zD|apply zE|refine zS ?_ GE360.out|refine zS ?_ GE361.out)|exact HB.out)⟩
  ·rw[if_neg c4] at H
   have c4b0:(a0_1==a1_1)=false:=beq_eq_false_iff_ne.mpr c4
   have c4b1:(a0_1 != a1_1)=true:=bne_iff_ne.mpr c4
   obtain rfl:=Option.some.inj H
   go_enter Try.func49,Try.ntmps49
   go_wp2_with (first|((with_reducible refine gate_dst (N:=2) rfl ?_);refine box_event ?hg (N:=2) ?hd (cs:=#[.string a0_0,.int .i64 a0_1,.int .i64 a0_2,.int .i64 a0_3,.int .i64 a0_4,.int .i64 a0_5,.int .i64 a0_6,.int .i64 a0_7,.slice A0_8 l0_8.length c0_8]) (t:=28) ?hr ?_;(case hd=>rfl);(case hg=>rfl);(case hr=>first|(go_simp;done)|(go_simp;rfl));intro gb360 hg w30 hbox hb;have n0_:=zm (below_step (by repeat(first|(with_reducible first|exact HB.out|apply zA|apply zD|apply zE)|exact HB.out)) hb);have n1_:=zm (hbox);have n2_:=zm ((by rw[hg];exact(below_size (by repeat(first|(with_reducible first|exact HB.out|apply zA|apply zD|apply zE)|exact HB.out))):w.heap.size≤gb360));have n3_:=zm ((by rw[hg];exact(below_size (by repeat(first|(with_reducible first|exact HB.out|apply zA|apply zD|apply zE)|exact HB.out))):w.heap.size≤gb360));clear HB;have HB:=n0_;have BK360:=n1_;have GW360:=n2_;have GE360:=n3_;clear n0_ n1_ n2_ n3_;clear hb hbox hg)|((with_reducible refine gate_dst (N:=3) rfl ?_);refine box_event ?hg (N:=3) ?hd (cs:=#[.string a1_0,.int .i64 a1_1,.int .i64 a1_2,.int .i64 a1_3,.int .i64 a1_4,.int .i64 a1_5,.int .i64 a1_6,.int .i64 a1_7,.slice A1_8 l1_8.length c1_8]) (t:=28) ?hr ?_;(case hd=>rfl);(case hg=>rfl);(case hr=>first|(go_simp;done)|(go_simp;rfl));intro gb361 hg w31 hbox hb;have n0_:=zm (zb (g:=gb360) (o:=.cells #[.string a0_0,.int .i64 a0_1,.int .i64 a0_2,.int .i64 a0_3,.int .i64 a0_4,.int .i64 a0_5,.int .i64 a0_6,.int .i64 a0_7,.slice A0_8 l0_8.length c0_8] 28 (0,0)) (by(with_reducible repeat first|apply zd|apply ze|apply za);exact BK360.out) hb);have n1_:=zm (below_step (by repeat(first|(with_reducible first|exact HB.out|apply zA|apply zD|apply zE|refine zS ?_ GE360.out)|exact HB.out)) hb);have n2_:=zm (hbox);have n3_:=zm ((by rw[hg];exact(below_size (by repeat(first|(with_reducible first|exact HB.out|apply zA|apply zD|apply zE|refine zS ?_ GE360.out)|exact HB.out))):w.heap.size≤gb361));have n4_:=zm ((by rw[hg];exact(below_size (by repeat(first|(with_reducible first|exact HB.out|apply zA|apply zD|apply zE|refine zS ?_ GE360.out)|exact HB.out))):w.heap.size≤gb361));have n5_:=zm ((by rw[hg];exact Nat.ne_of_lt (blk_lt (g:=gb360) (o:=.cells #[.string a0_0,.int .i64 a0_1,.int .i64 a0_2,.int .i64 a0_3,.int .i64 a0_4,.int .i64 a0_5,.int .i64 a0_6,.int .i64 a0_7,.slice A0_8 l0_8.length c0_8] 28 (0,0)) (by(with_reducible repeat first|apply zd|apply ze|apply za);exact BK360.out)):gb360≠gb361));have n6_:=zm ((by rw[hg];exact Nat.ne_of_gt (blk_lt (g:=gb360) (o:=.cells #[.string a0_0,.int .i64 a0_1,.int .i64 a0_2,.int .i64 a0_3,.int .i64 a0_4,.int .i64 a0_5,.int .i64 a0_6,.int .i64 a0_7,.slice A0_8 l0_8.length c0_8] 28 (0,0)) (by(with_reducible repeat first|apply zd|apply ze|apply za);exact BK360.out)):gb361≠gb360));clear BK360 HB;have BK360:=n0_;have HB:=n1_;have BK361:=n2_;have GW361:=n3_;have GE361:=n4_;have NB360_361:=n5_;have NB361_360:=n6_;clear n0_ n1_ n2_ n3_ n4_ n5_ n6_;clear hb hbox hg;have hnb32:=NB360_361.out;have hnc32:=NB361_360.out;have hcz33_0:=zc BK360.out 0 (.string a0_0) rfl;have hcz33_1:=zc BK360.out 1 (.int .i64 a0_1) rfl;have hcz33_2:=zc BK360.out 2 (.int .i64 a0_2) rfl;have hcz33_3:=zc BK360.out 3 (.int .i64 a0_3) rfl;have hcz33_4:=zc BK360.out 4 (.int .i64 a0_4) rfl;have hcz33_5:=zc BK360.out 5 (.int .i64 a0_5) rfl;have hcz33_6:=zc BK360.out 6 (.int .i64 a0_6) rfl;have hcz33_7:=zc BK360.out 7 (.int .i64 a0_7) rfl;have hcz33_8:=zc BK360.out 8 (.slice A0_8 l0_8.length c0_8) rfl;have hfz33_0:=zf BK360.out 0;have hfz33_1:=zf BK360.out 1;have hfz33_2:=zf BK360.out 2;have hfz33_3:=zf BK360.out 3;have hfz33_4:=zf BK360.out 4;have hfz33_5:=zf BK360.out 5;have hfz33_6:=zf BK360.out 6;have hfz33_7:=zf BK360.out 7;have hfz33_8:=zf BK360.out 8;have hcz34_0:=zc BK361.out 0 (.string a1_0) rfl;have hcz34_1:=zc BK361.out 1 (.int .i64 a1_1) rfl;have hcz34_2:=zc BK361.out 2 (.int .i64 a1_2) rfl;have hcz34_3:=zc BK361.out 3 (.int .i64 a1_3) rfl;have hcz34_4:=zc BK361.out 4 (.int .i64 a1_4) rfl;have hcz34_5:=zc BK361.out 5 (.int .i64 a1_5) rfl;have hcz34_6:=zc BK361.out 6 (.int .i64 a1_6) rfl;have hcz34_7:=zc BK361.out 7 (.int .i64 a1_7) rfl;have hcz34_8:=zc BK361.out 8 (.slice A1_8 l1_8.length c1_8) rfl;have hfz34_0:=zf BK361.out 0;have hfz34_1:=zf BK361.out 1;have hfz34_2:=zf BK361.out 2;have hfz34_3:=zf BK361.out 3;have hfz34_4:=zf BK361.out 4;have hfz34_5:=zf BK361.out 5;have hfz34_6:=zf BK361.out 6;have hfz34_7:=zf BK361.out 7;have hfz34_8:=zf BK361.out 8))
   go_ret
   exact⟨by first|rfl|(simp[errW_none,errW_some]<;>rfl)|(simp[*,errW_none,errW_some]<;>rfl),by repeat(first|(with_reducible first|exact HB.out|apply zA|apply zD|apply zE|refine zS ?_ GE360.out|refine zS ?_ GE361.out)|exact HB.out)⟩
 ·rw[if_neg c3] at H
  have c3b0:(a0_0.toList==a1_0.toList)=false:=beq_eq_false_iff_ne.mpr c3
  have c3b1:(a0_0.toList != a1_0.toList)=true:=bne_iff_ne.mpr c3
  obtain rfl:=Option.some.inj H
  go_enter Try.func49,Try.ntmps49
  go_wp2_with (first|((with_reducible refine gate_dst (N:=2) rfl ?_);refine box_event ?hg (N:=2) ?hd (cs:=#[.string a0_0,.int .i64 a0_1,.int .i64 a0_2,.int .i64 a0_3,.int .i64 a0_4,.int .i64 a0_5,.int .i64 a0_6,.int .i64 a0_7,.slice A0_8 l0_8.length c0_8]) (t:=28) ?hr ?_;(case hd=>rfl);(case hg=>rfl);(case hr=>first|(go_simp;done)|(go_simp;rfl));intro gb360 hg w35 hbox hb;have n0_:=zm (below_step (by repeat(first|(with_reducible first|exact HB.out|apply zA|apply zD|apply zE)|exact HB.out)) hb);have n1_:=zm (hbox);have n2_:=zm ((by rw[hg];exact(below_size (by repeat(first|(with_reducible first|exact HB.out|apply zA|apply zD|apply zE)|exact HB.out))):w.heap.size≤gb360));have n3_:=zm ((by rw[hg];exact(below_size (by repeat(first|(with_reducible first|exact HB.out|apply zA|apply zD|apply zE)|exact HB.out))):w.heap.size≤gb360));clear HB;have HB:=n0_;have BK360:=n1_;have GW360:=n2_;have GE360:=n3_;clear n0_ n1_ n2_ n3_;clear hb hbox hg)|((with_reducible refine gate_dst (N:=3) rfl ?_);refine box_event ?hg (N:=3) ?hd (cs:=#[.string a1_0,.int .i64 a1_1,.int .i64 a1_2,.int .i64 a1_3,.int .i64 a1_4,.int .i64 a1_5,.int .i64 a1_6,.int .i64 a1_7,.slice A1_8 l1_8.length c1_8]) (t:=28) ?hr ?_;(case hd=>rfl);(case hg=>rfl);(case hr=>first|(go_simp;done)|(go_simp;rfl));intro gb361 hg w36 hbox hb;have n0_:=zm (zb (g:=gb360) (o:=.cells #[.string a0_0,.int .i64 a0_1,.int .i64 a0_2,.int .i64 a0_3,.int .i64 a0_4,.int .i64 a0_5,.int .i64 a0_6,.int .i64 a0_7,.slice A0_8 l0_8.length c0_8] 28 (0,0)) (by(with_reducible repeat first|apply zd|apply ze|apply za);exact BK360.out) hb);have n1_:=zm (below_step (by repeat(first|(with_reducible first|exact HB.out|apply zA|apply zD|apply zE|refine zS ?_ GE360.out)|exact HB.out)) hb);have n2_:=zm (hbox);have n3_:=zm ((by rw[hg];exact(below_size (by repeat(first|(with_reducible first|exact HB.out|apply zA|apply zD|apply zE|refine zS ?_ GE360.out)|exact HB.out))):w.heap.size≤gb361));have n4_:=zm ((by rw[hg];exact(below_size (by repeat(first|(with_reducible first|exact HB.out|apply zA|apply zD|apply zE|refine zS ?_ GE360.out)|exact HB.out))):w.heap.size≤gb361));have n5_:=zm ((by rw[hg];exact Nat.ne_of_lt (blk_lt (g:=gb360) (o:=.cells #[.string a0_0,.int .i64 a0_1,.int .i64 a0_2,.int .i64 a0_3,.int .i64 a0_4,.int .i64 a0_5,.int .i64 a0_6,.int .i64 a0_7,.slice A0_8 l0_8.length c0_8] 28 (0,0)) (by(with_reducible repeat first|apply zd|apply ze|apply za);exact BK360.out)):gb360≠gb361));have n6_:=zm ((by rw[hg];exact Nat.ne_of_gt (blk_lt (g:=gb360) (o:=.cells #[.string a0_0,.int .i64 a0_1,.int .i64 a0_2,.int .i64 a0_3,.int .i64 a0_4,.int .i64 a0_5,.int .i64 a0_6,.int .i64 a0_7,.slice A0_8 l0_8.length c0_8] 28 (0,0)) (by(with_reducible repeat first|apply zd|apply ze|apply za);exact BK360.out)):gb361≠gb360));clear BK360 HB;have BK360:=n0_;have HB:=n1_;have BK361:=n2_;have GW361:=n3_;have GE361:=n4_;have NB360_361:=n5_;have NB361_360:=n6_;clear n0_ n1_ n2_ n3_ n4_ n5_ n6_;clear hb hbox hg;have hnb37:=NB360_361.out;have hnc37:=NB361_360.out;have hcz38_0:=zc BK360.out 0 (.string a0_0) rfl;have hcz38_1:=zc BK360.out 1 (.int .i64 a0_1) rfl;have hcz38_2:=zc BK360.out 2 (.int .i64 a0_2) rfl;have hcz38_3:=zc BK360.out 3 (.int .i64 a0_3) rfl;have hcz38_4:=zc BK360.out 4 (.int .i64 a0_4) rfl;have hcz38_5:=zc BK360.out 5 (.int .i64 a0_5) rfl;have hcz38_6:=zc BK360.out 6 (.int .i64 a0_6) rfl;have hcz38_7:=zc BK360.out 7 (.int .i64 a0_7) rfl;have hcz38_8:=zc BK360.out 8 (.slice A0_8 l0_8.length c0_8) rfl;have hfz38_0:=zf BK360.out 0;have hfz38_1:=zf BK360.out 1;have hfz38_2:=zf BK360.out 2;have hfz38_3:=zf BK360.out 3;have hfz38_4:=zf BK360.out 4;have hfz38_5:=zf BK360.out 5;have hfz38_6:=zf BK360.out 6;have hfz38_7:=zf BK360.out 7;have hfz38_8:=zf BK360.out 8;have hcz39_0:=zc BK361.out 0 (.string a1_0) rfl;have hcz39_1:=zc BK361.out 1 (.int .i64 a1_1) rfl;have hcz39_2:=zc BK361.out 2 (.int .i64 a1_2) rfl;have hcz39_3:=zc BK361.out 3 (.int .i64 a1_3) rfl;have hcz39_4:=zc BK361.out 4 (.int .i64 a1_4) rfl;have hcz39_5:=zc BK361.out 5 (.int .i64 a1_5) rfl;have hcz39_6:=zc BK361.out 6 (.int .i64 a1_6) rfl;have hcz39_7:=zc BK361.out 7 (.int .i64 a1_7) rfl;have hcz39_8:=zc BK361.out 8 (.slice A1_8 l1_8.length c1_8) rfl;have hfz39_0:=zf BK361.out 0;have hfz39_1:=zf BK361.out 1;have hfz39_2:=zf BK361.out 2;have hfz39_3:=zf BK361.out 3;have hfz39_4:=zf BK361.out 4;have hfz39_5:=zf BK361.out 5;have hfz39_6:=zf BK361.out 6;have hfz39_7:=zf BK361.out 7;have hfz39_8:=zf BK361.out 8))
  go_ret
  exact⟨by first|rfl|(simp[errW_none,errW_some]<;>rfl)|(simp[*,errW_none,errW_some]<;>rfl),by repeat(first|(with_reducible first|exact HB.out|apply zA|apply zD|apply zE|refine zS ?_ GE360.out|refine zS ?_ GE361.out)|exact HB.out)⟩
end Go.Proofs.Ytkgdlbepjmgaiaa.Fea
namespace Go.Proofs.Ytkgdlbepjmgaiaa.Fea
open Go.RowKit YtkgdlbepjmgaiaaW.PrintWords YtkgdlbepjmgaiaaW.PrintLast YtkgdlbepjmgaiaaW.PrintMore
def eqD (x y:S106):Bool:=x.f0.toList==y.f0.toList&&(x.f1==y.f1)
def eqLD:List S106→List S106→Bool
  | [],[]=>true
  | x :: xs,y :: ys=>if eqD x y=true then eqLD xs ys else false
  | _,_=>false
def eqF (x y:S104):Bool:=if x.f0=y.f0 then(if(x.f1==y.f1)=true then(if x.f2=y.f2 then(if x.f3=y.f3 then eqLD x.f4 y.f4 else false) else false) else false) else false
def eqLF:List S104→List S104→Bool
  | [],[]=>true
  | x :: xs,y :: ys=>if eqF x y=true then eqLF xs ys else false
  | _,_=>false
theorem eqLD_len:∀ {a b:List S106},a.length≠b.length→eqLD a b=false
  | [],[],h=>absurd rfl h
  | [],_ :: _,_=>rfl
  | _ :: _,[],_=>rfl
  | x :: xs,y :: ys,h=>by
    rw[eqLD,eqLD_len (a:=xs) (b:=ys) (fun e=>h (by simp[e]))]
    split<;>rfl
theorem eqLF_len:∀ {a b:List S104},a.length≠b.length→eqLF a b=false
  | [],[],h=>absurd rfl h
  | [],_ :: _,_=>rfl
  | _ :: _,[],_=>rfl
  | x :: xs,y :: ys,h=>by
    rw[eqLF,eqLF_len (a:=xs) (b:=ys) (fun e=>h (by simp[e]))]
    split<;>rfl
theorem eqLD_refl:∀ a:List S106,eqLD a a=true
  | []=>rfl
  | x :: xs=>by
    rw[eqLD,if_pos (by simp[eqD])]
    exact eqLD_refl xs
theorem eqF_refl (x:S104):eqF x x=true:=by simp[eqF,eqLD_refl]
theorem eqLF_refl:∀ a:List S104,eqLF a a=true
  | []=>rfl
  | x :: xs=>by
    rw[eqLF,if_pos (eqF_refl x)]
    exact eqLF_refl xs
def tinyL (l:List S104):Prop:=l.length≤12∧∀ p∈l,p.f4.length≤6
theorem RFrames_ev (a b:List S104) (ha:tinyL a):Ev (fun n=>mr_SameFrames.f n a b) (eqLF a b):=by
  unfold mr_SameFrames.f
  by_cases hl:a.length=b.length
  case neg=>
    rw[eqLF_len hl]
    exact Ev.e (by omega) (Ev.now _)
  refine Ev.t (by omega) ?_
  have key:∀ m i:Nat,i+m=a.length→Ev (fun n=>mr_SameFrames.l0 n a b (i:Int)) (eqLF (a.drop i) (b.drop i)):=by
    intro m
    induction m with
    | zero=>
      intro i hi
      refine Ev.step (fun n=>by rw[mr_SameFrames.l0]) ?_
      rw[List.drop_eq_nil_of_le (by omega),List.drop_eq_nil_of_le (by omega)]
      exact Ev.e (by omega) (Ev.now _)
    | succ m ih=>
      intro i hi
      have h1:i < a.length:=by omega
      have h2:i < b.length:=by omega
      have h6:(a[i]).f4.length≤6:=ha.2 _ (List.getElem_mem h1)
      have bad:∀ p0 p1 p2 p3 p4 q0 q1 q2 q3 q4,Ev (fun n=>mr_SameFrames.j1 n a b (i:Int) true p0 p1 p2 p3 p4 q0 q1 q2 q3 q4) false:=fun _ _ _ _ _ _ _ _ _ _=>by
        refine Ev.step (fun n=>by rw[mr_SameFrames.j1]) ?_
        exact Ev.t rfl (Ev.now _)
      have l1:∀(p0:Int) (p1:Bool) (p2 p3:Int) (d:List S106) (q0:Int) (q1:Bool) (q2 q3:Int) (e:List S106),d.length=e.length→d.length≤6→∀ mm j:Nat,j+mm=d.length→
          Ev (fun n=>mr_SameFrames.l1 n a b (i:Int) (j:Int) p0 p1 p2 p3 d q0 q1 q2 q3 e) (if eqLD (d.drop j) (e.drop j)=true then eqLF (a.drop (i+1)) (b.drop (i+1)) else false):=by
        intro p0 p1 p2 p3 d q0 q1 q2 q3 e hde hd6 mm
        induction mm with
        | zero=>
          intro j hj
          refine Ev.step (fun n=>by rw[mr_SameFrames.l1]) ?_
          rw[List.drop_eq_nil_of_le (show d.length≤j by omega),List.drop_eq_nil_of_le (show e.length≤j by omega)]
          refine Ev.e (by omega) ?_
          rw[w64s (n:=i) (by have:=ha.1;omega)]
          exact ih (i+1) (by omega)
        | succ mm ih2=>
          intro j hj
          refine Ev.step (fun n=>by rw[mr_SameFrames.l1]) ?_
          rw[rd106 d j (by omega),rd106 e j (by omega),w64s (n:=j) (by omega),List.drop_eq_getElem_cons (show j < d.length by omega),List.drop_eq_getElem_cons (show j < e.length by omega),eqLD]
          refine Ev.t (by omega) (Ev.t (by omega) (Ev.t (by omega) ?_))
          cases hq:eqD d[j] e[j]
          · refine Ev.t ?_ (Ev.now _)
            revert hq
            unfold eqD
            cases (d[j].f0.toList==e[j].f0.toList)<;>cases (d[j].f1==e[j].f1)<;>simp
          · refine Ev.e ?_ (ih2 (j+1) (by omega))
            revert hq
            unfold eqD
            cases (d[j].f0.toList==e[j].f0.toList)<;>cases (d[j].f1==e[j].f1)<;>simp
      refine Ev.step (fun n=>by rw[mr_SameFrames.l0]) ?_
      rw[rd104 a i h1,rd104 b i h2,List.drop_eq_getElem_cons h1,List.drop_eq_getElem_cons h2,eqLF]
      refine Ev.t (by omega) (Ev.t (by omega) (Ev.t (by omega) ?_))
      unfold eqF
      by_cases g0:a[i].f0=b[i].f0
      case neg=>rw[if_neg g0];exact Ev.e g0 (bad _ _ _ _ _ _ _ _ _ _)
      refine Ev.t g0 ?_
      rw[if_pos g0]
      cases g1:(a[i].f1==b[i].f1)
      · exact Ev.t (by rw[bne,g1];rfl) (bad _ _ _ _ _ _ _ _ _ _)
      refine Ev.e (by rw[bne,g1];decide) ?_
      by_cases g2:a[i].f2=b[i].f2
      case neg=>rw[if_pos rfl,if_neg g2];exact Ev.e g2 (bad _ _ _ _ _ _ _ _ _ _)
      refine Ev.t g2 ?_
      by_cases g3:a[i].f3=b[i].f3
      case neg=>rw[if_pos rfl,if_pos g2,if_neg g3];exact Ev.e g3 (bad _ _ _ _ _ _ _ _ _ _)
      refine Ev.t g3 ?_
      rw[if_pos rfl,if_pos g2,if_pos g3]
      by_cases g4:a[i].f4.length=b[i].f4.length
      case neg=>
        rw[eqLD_len g4,show ((a[i].f4.length:Int) != (b[i].f4.length:Int))=true by rw[bne_iff_ne];omega]
        exact bad _ _ _ _ _ _ _ _ _ _
      rw[show ((a[i].f4.length:Int) != (b[i].f4.length:Int))=false by rw[bne_eq_false_iff_eq];omega]
      refine Ev.step (fun n=>by rw[mr_SameFrames.j1]) ?_
      refine Ev.e (by decide) ?_
      exact l1 _ _ _ _ _ _ _ _ _ _ g4 h6 a[i].f4.length 0 (by omega)
  exact key a.length 0 (by omega)
def sameV (nm:ByteArray) (k ax x y z lo hi:Int) (l:List S104) (nm':ByteArray) (k' ax' x' y' z' lo' hi':Int) (l':List S104):Bool:=
  if nm.toList=nm'.toList then(if k=k' then(if ax=ax' then(if(x==x'&&(y==y'&&(z==z')))=true then(if(lo==lo'&&(hi==hi'))=true then eqLF l l' else false) else false) else false) else false) else false
theorem sameV_refl (nm:ByteArray) (k ax x y z lo hi:Int) (l:List S104):sameV nm k ax x y z lo hi l nm k ax x y z lo hi l=true:=by
  simp[sameV,eqLF_refl]
theorem RSame_ev (nm:ByteArray) (k ax x y z lo hi:Int) (l:List S104) (nm':ByteArray) (k' ax' x' y' z' lo' hi':Int) (l':List S104) (hl:tinyL l):
    Ev (fun n=>mr_Same.f n nm k ax x y z lo hi l nm' k' ax' x' y' z' lo' hi' l') (sameV nm k ax x y z lo hi l nm' k' ax' x' y' z' lo' hi' l'):=by
  unfold mr_Same.f sameV
  exact Ev.ite2 (Ev.ite2 (Ev.ite2 (Ev.ite2 (Ev.ite2 (Ev.bind (RFrames_ev l l' hl) (Ev.now _)) (Ev.now _)) (Ev.now _)) (Ev.now _)) (Ev.now _)) (Ev.now _)
theorem tiny_few {nm:ByteArray} {l:List S104} (h:fewV nm l=true):tinyL l:=fewV_small h
abbrev v3 (x y z:Int):Array Value:=#[.int .i64 x,.int .i64 y,.int .i64 z]
theorem heap1 (w:World) (o:Obj):(w.alloc o).heap[w.heap.size]?=some o:=blk_new w o
theorem heap2 (w:World) (o o':Obj):((w.alloc o).alloc o').heap[w.heap.size+1]?=some o':=by
  have h:=blk_new (w.alloc o) o'
  have e:(w.alloc o).heap.size=w.heap.size+1:=by unfold World.alloc;exact Array.size_push _
  rwa[e] at h
theorem heap2o (w:World) (o o':Obj):((w.alloc o).alloc o').heap[w.heap.size]?=some o:=blk_alloc (blk_new w o) o'
theorem bel1 (w:World) (o:Obj):Below w.heap.size w (w.alloc o):=below_alloc (Below.refl _ _) _
theorem bel2 (w:World) (o o':Obj):Below w.heap.size w ((w.alloc o).alloc o'):=below_alloc (bel1 w o) _
theorem cell_on {W W':World} (hb:Below W.heap.size W W') {g i:Nat} {v:Value} (h:W.cell? ⟨g,i,none⟩=some v):W'.cell? ⟨g,i,none⟩=some v:=by
  have hlt:=World.block_lt_of_cell? W ⟨g,i,none⟩ h
  have e:=hb.block g hlt
  simpa only [World.cell?,e] using h
set_option maxHeartbeats 8000000 in
set_option maxRecDepth 100000 in
theorem coord_calls (x y z:Int) (w:World):Calls Try.prog 103 #[.agg (v3 x y z)] w fun e w'=>e=.returned (.agg (v3 x y z))∧Below w.heap.size w w':=by
  have hu128:=Try.underlying128
  have hu23:=Try.underlying23
  go_enter Try.func103,Try.ntmps103
  go_wp2
  refine bodyPost_ret (results_cell_row rfl _ _ (w.heap.size+1) 128 (v3 x y z) (0,0) _ rfl (heap2 w _ _) Try.underlying128 rfl (by kernel_rfl)) rfl ?_
  exact⟨rfl,bel2 w _ _⟩
set_option maxHeartbeats 8000000 in
set_option maxRecDepth 100000 in
theorem rcoord_calls (x y z:Int) (w:World):Calls Try.prog 104 #[.agg (v3 x y z)] w fun e w'=>e=.returned (.agg (v3 x y z))∧Below w.heap.size w w':=by
  have hu128:=Try.underlying128
  have hu23:=Try.underlying23
  go_enter Try.func104,Try.ntmps104
  go_wp2
  refine bodyPost_ret (results_cell_row rfl _ _ (w.heap.size+1) 128 (v3 x y z) (0,0) _ rfl (heap2 w _ _) Try.underlying128 rfl (by kernel_rfl)) rfl ?_
  exact⟨rfl,bel2 w _ _⟩
set_option maxHeartbeats 8000000 in
set_option maxRecDepth 100000 in
theorem spot_calls (x y z:Int) (w:World):Calls Try.prog 124 #[.agg (v3 x y z)] w fun e w'=>e=.returned (.agg (v3 x y z))∧Below w.heap.size w w':=by
  have hu128:=Try.underlying128
  have hu23:=Try.underlying23
  go_enter Try.func124,Try.ntmps124
  go_wp2
  refine bodyPost_ret (results_cell_row rfl _ _ (w.heap.size+1) 23 (v3 x y z) (0,0) _ rfl (heap2 w _ _) Try.underlying23 rfl (by kernel_rfl)) rfl ?_
  exact⟨rfl,bel2 w _ _⟩
set_option maxHeartbeats 8000000 in
set_option maxRecDepth 100000 in
theorem rplace_calls (x y z:Int) (w:World):Calls Try.prog 106 #[.agg (v3 x y z)] w fun e w'=>e=.returned (.agg (v3 x y z))∧Below w.heap.size w w':=by
  have hu128:=Try.underlying128
  have hu23:=Try.underlying23
  go_enter Try.func106,Try.ntmps106
  go_wp2
  refine bodyPost_ret (results_cell_row rfl _ _ (w.heap.size+1) 23 (v3 x y z) (0,0) _ rfl (heap2 w _ _) Try.underlying23 rfl (by kernel_rfl)) rfl ?_
  exact⟨rfl,bel2 w _ _⟩
def bdsV:Array Value:=#[.bool true,.bool false,.bool false,.bool false,.bool true,.bool true,.bool false,.bool true,.bool true,.bool true,.bool false,.bool false,.bool true,.bool true,.bool true]
set_option maxHeartbeats 8000000 in
set_option maxRecDepth 100000 in
theorem bounds_calls (w:World):Calls Try.prog 113 #[] w fun e w'=>e=.returned (.agg bdsV)∧Below w.heap.size w w':=by
  have hu143:=Try.underlying143
  have hu142:=Try.underlying142
  go_enter Try.func113,Try.ntmps113
  go_wp2
  refine bodyPost_ret (results_cell_row rfl _ _ w.heap.size 143 bdsV (0,0) _ rfl (heap1 w _) Try.underlying143 rfl (by kernel_rfl)) rfl ?_
  exact⟨rfl,bel1 w _⟩
abbrev ftV (nm:ByteArray) (k ax x y z lo hi:Int) (A:Option Addr) (n c:Nat):Array Value:=#[.string nm,.int .i64 k,.int .i64 ax,.int .i64 x,.int .i64 y,.int .i64 z,.int .i64 lo,.int .i64 hi,.slice A n c]
def bndV (k ax axis:Int):Bool:=if k=4 then true else if k=1∨k=2 then axis != ax else axis==ax
def bRow (k:Int):Array Value:=if k=4 then #[.bool true,.bool true,.bool true] else if k=1∨k=2 then #[.bool false,.bool true,.bool true] else #[.bool true,.bool false,.bool false]
def bAt (k r:Int):Bool:=if k=4 then true else if k=1∨k=2 then r != 0 else r==0
set_option maxHeartbeats 2000000 in
set_option maxRecDepth 100000 in
theorem idx143 (k:Int) (h:0≤k∧k < 5) (W:World):Sem.run Try.prog (Instr.index 143 (.agg bdsV) (.int .i64 k)) W=.ok (.agg (bRow k)) W:=by
  have hu143:=Try.underlying143
  have hk:k=0∨k=1∨k=2∨k=3∨k=4:=by omega
  clear h
  rcases hk with rfl|rfl|rfl|rfl|rfl<;>rfl
set_option maxHeartbeats 2000000 in
set_option maxRecDepth 100000 in
theorem idx142 (k r:Int) (h:0≤r∧r < 3) (W:World):Sem.run Try.prog (Instr.index 142 (.agg (bRow k)) (.int .i64 r)) W=.ok (.bool (bAt k r)) W:=by
  have hu142:=Try.underlying142
  have hk:r=0∨r=1∨r=2:=by omega
  clear h
  unfold bRow bAt
  by_cases h4:k=4
  · simp only[if_pos h4]
    rcases hk with rfl|rfl|rfl<;>rfl
  · by_cases h12:k=1∨k=2
    · simp only[if_neg h4,if_pos h12]
      rcases hk with rfl|rfl|rfl<;>rfl
    · simp only[if_neg h4,if_neg h12]
      rcases hk with rfl|rfl|rfl<;>rfl
def sel3 (x y z a:Int):Int:=if a=0 then x else if a=1 then y else z
set_option maxHeartbeats 2000000 in
set_option maxRecDepth 100000 in
theorem idx128 (x y z a:Int) (h:0≤a∧a < 3) (W:World):Sem.run Try.prog (Instr.index 128 (.agg (v3 x y z)) (.int .i64 a)) W=.ok (.int .i64 (sel3 x y z a)) W:=by
  have hk:a=0∨a=1∨a=2:=by omega
  clear h
  rcases hk with rfl|rfl|rfl<;>rfl
set_option maxHeartbeats 8000000 in
set_option maxRecDepth 100000 in
theorem bounded_calls (nm:ByteArray) (k ax x y z lo hi:Int) (A:Option Addr) (n c:Nat) (axis:Int) (w:World) (h1:0≤k∧k < 5) (h2:0≤ax∧ax < 3) (h3:0≤axis∧axis < 3):
    Calls Try.prog 69 #[.agg (ftV nm k ax x y z lo hi A n c),.int .i64 axis] w fun e w'=>e=.returned (.bool (bndV k ax axis))∧Below w.heap.size w w':=by
  have hu28:=Try.underlying28
  have hr:bAt k ((axis - ax+3).tmod 3)=bndV k ax axis:=by
    rw[Int.tmod_eq_emod_of_nonneg (by omega)]
    unfold bAt bndV
    by_cases h4:k=4
    · rw[if_pos h4,if_pos h4]
    · rw[if_neg h4,if_neg h4]
      by_cases h12:k=1∨k=2
      · rw[if_pos h12,if_pos h12,Bool.eq_iff_iff];simp;omega
      · rw[if_neg h12,if_neg h12,Bool.eq_iff_iff];simp;omega
  have HR:=Aside0.mk hr
  clear hr
  have i143:=idx143 k h1
  have i142:=idx142 k ((axis - ax+3).tmod 3) (by rw[Int.tmod_eq_emod_of_nonneg (by omega)];omega)
  have e1:IntKind.i64.wrap (axis - ax)=axis - ax:=IntWalk.i64_in _ (by omega)
  have e2:IntKind.i64.wrap (axis - ax+3)=axis - ax+3:=IntWalk.i64_in _ (by omega)
  clear h1 h2 h3
  go_enter Try.func69,Try.ntmps69
  go_upto_region 1 with (fail)
  have hc1:(w.alloc (.cells (ftV nm k ax x y z lo hi A n c) 28)).cell? ⟨w.heap.size,1,none⟩=some (.int .i64 k):=by go_simp
  have hc2:(w.alloc (.cells (ftV nm k ax x y z lo hi A n c) 28)).cell? ⟨w.heap.size,2,none⟩=some (.int .i64 ax):=by go_simp
  have hB:=bel1 w (.cells (ftV nm k ax x y z lo hi A n c) 28)
  generalize w.alloc (.cells (ftV nm k ax x y z lo hi A n c) 28)=W1 at *
  go_region_held3 (fun w'=>w'.cell? ⟨w.heap.size,1,none⟩=some (.int .i64 k)∧w'.cell? ⟨w.heap.size,2,none⟩=some (.int .i64 ax)∧Below w.heap.size w w') (first|exact⟨hc1,hc2,below_drew1 hB⟩|(refine And.intro ?_ (And.intro ?_ ?_)<;>first|exact cell_on hb hc1|exact cell_on hb hc2|exact below_step (below_drew1 hB) hb)) (first|(go_at_call 113;refine(bounds_calls _).mono ?_;rintro e w' ⟨rfl,hb⟩))
  go_wp2
  go_ret
  exact⟨by rw[HR.out];rfl,‹_∧_∧Below w.heap.size w _›.2.2⟩
def halfV (hi:Int):Int:=(hi+1).tdiv 2
set_option maxHeartbeats 8000000 in
set_option maxRecDepth 100000 in
theorem reach_calls (nm:ByteArray) (k ax x y z lo hi:Int) (A:Option Addr) (n c:Nat) (axis:Int) (w:World) (hx:-100000≤x∧x≤100000) (hy:-100000≤y∧y≤100000) (hz:-100000≤z∧z≤100000) (hh:-100000≤hi∧hi≤100000) (h3:0≤axis∧axis < 3):
    Calls Try.prog 70 #[.agg (ftV nm k ax x y z lo hi A n c),.int .i64 axis] w fun e w'=>e=.returned (.agg #[.int .i64 (sel3 x y z axis - halfV hi),.int .i64 (sel3 x y z axis+halfV hi)])∧Below w.heap.size w w':=by
  have hu28:=Try.underlying28
  have hu25:=Try.underlying25
  have hu23:=Try.underlying23
  have i128:=idx128 x y z axis h3
  have hhv:-100000≤halfV hi∧halfV hi≤100000:=by
    unfold halfV
    rcases Int.lt_or_le (hi+1) 0 with g|g
    · have:(hi+1).tdiv 2=-((-(hi+1)).tdiv 2):=by rw[Int.neg_tdiv,Int.neg_neg]
      rw[this,Int.tdiv_eq_ediv_of_nonneg (by omega)];omega
    · rw[Int.tdiv_eq_ediv_of_nonneg g];omega
  have hs3:-100000≤sel3 x y z axis∧sel3 x y z axis≤100000:=by
    unfold sel3
    repeat' split
    all_goals assumption
  have e1:IntKind.i64.wrap (hi+1)=hi+1:=IntWalk.i64_in _ (by omega)
  have e2:(hi+1).tdiv 2=halfV hi:=rfl
  have e3:IntKind.i64.wrap (sel3 x y z axis - halfV hi)=sel3 x y z axis - halfV hi:=IntWalk.i64_in _ (by omega)
  have e4:IntKind.i64.wrap (sel3 x y z axis+halfV hi)=sel3 x y z axis+halfV hi:=IntWalk.i64_in _ (by omega)
  have e5:IntKind.i64.wrap (halfV hi)=halfV hi:=IntWalk.i64_in _ (by omega)
  generalize halfV hi=hv at *
  generalize hs:sel3 x y z axis=sv at *
  clear hx hy hz hh h3 hhv hs3
  go_enter Try.func70,Try.ntmps70
  go_upto_region 1 with (fail)
  have hb1:=heap2o w (.cells (ftV nm k ax x y z lo hi A n c) 28) (.cells #[.int .i64 0,.int .i64 0] 25)
  have hb2:=heap2 w (.cells (ftV nm k ax x y z lo hi A n c) 28) (.cells #[.int .i64 0,.int .i64 0] 25)
  have hB:=bel2 w (.cells (ftV nm k ax x y z lo hi A n c) 28) (.cells #[.int .i64 0,.int .i64 0] 25)
  generalize (w.alloc (.cells (ftV nm k ax x y z lo hi A n c) 28)).alloc (.cells #[.int .i64 0,.int .i64 0] 25)=W1 at *
  have c3:=(blk_cell hb1 3).trans (rfl:_=some (Value.int .i64 x))
  have c4:=(blk_cell hb1 4).trans (rfl:_=some (Value.int .i64 y))
  have c5:=(blk_cell hb1 5).trans (rfl:_=some (Value.int .i64 z))
  go_wp2_with (go_at_call 103;refine(coord_calls _ _ _ _).mono ?_;rintro e w' ⟨rfl,hb⟩;have c7:=cell_on hb ((blk_cell hb1 7).trans (rfl:_=some (Value.int .i64 hi)));have hb2':=blk_below hb2 hb;have d0:=(blk_cell hb2' 0).trans (rfl:_=some (Value.int .i64 0));have d1:=(blk_cell hb2' 1).trans (rfl:_=some (Value.int .i64 0));have z0:=blk_frozen hb2' 0;have z1:=blk_frozen hb2' 1)
  refine bodyPost_ret (results_cell_row rfl _ _ (w.heap.size+1) 25 #[.int .i64 (sv - hv),.int .i64 (sv+hv)] (0,0) _ rfl (blk_put (blk_put hb2' 0 _ rfl) 1 _ rfl) Try.underlying25 rfl (by kernel_rfl)) rfl ?_
  exact⟨rfl,below_set (below_set (below_step hB hb) (by omega)) (by omega)⟩
set_option maxHeartbeats 8000000 in
set_option maxRecDepth 100000 in
theorem along_calls (nm:ByteArray) (k ax x y z lo hi:Int) (A:Option Addr) (n c:Nat) (axis:Int) (w:World) (hx:-100000≤x∧x≤100000) (hy:-100000≤y∧y≤100000) (hz:-100000≤z∧z≤100000) (hh:-100000≤hi∧hi≤100000) (h3:0≤axis∧axis < 3):
    Calls Try.prog 74 #[.agg (ftV nm k ax x y z lo hi A n c),.int .i64 axis] w fun e w'=>e=.returned (.agg #[.int .i64 (sel3 x y z axis - halfV hi),.int .i64 (sel3 x y z axis+halfV hi)])∧Below w.heap.size w w':=by
  have hu28:=Try.underlying28
  have hu25:=Try.underlying25
  have hu23:=Try.underlying23
  have i128:=idx128 x y z axis h3
  have hhv:-100000≤halfV hi∧halfV hi≤100000:=by
    unfold halfV
    rcases Int.lt_or_le (hi+1) 0 with g|g
    · have:(hi+1).tdiv 2=-((-(hi+1)).tdiv 2):=by rw[Int.neg_tdiv,Int.neg_neg]
      rw[this,Int.tdiv_eq_ediv_of_nonneg (by omega)];omega
    · rw[Int.tdiv_eq_ediv_of_nonneg g];omega
  have hs3:-100000≤sel3 x y z axis∧sel3 x y z axis≤100000:=by
    unfold sel3
    repeat' split
    all_goals assumption
  have e1:IntKind.i64.wrap (hi+1)=hi+1:=IntWalk.i64_in _ (by omega)
  have e2:(hi+1).tdiv 2=halfV hi:=rfl
  have e3:IntKind.i64.wrap (sel3 x y z axis - halfV hi)=sel3 x y z axis - halfV hi:=IntWalk.i64_in _ (by omega)
  have e4:IntKind.i64.wrap (sel3 x y z axis+halfV hi)=sel3 x y z axis+halfV hi:=IntWalk.i64_in _ (by omega)
  have e5:IntKind.i64.wrap (halfV hi)=halfV hi:=IntWalk.i64_in _ (by omega)
  generalize halfV hi=hv at *
  generalize hs:sel3 x y z axis=sv at *
  clear hx hy hz hh h3 hhv hs3
  go_enter Try.func74,Try.ntmps74
  go_upto_region 1 with (fail)
  have hb1:=heap2o w (.cells (ftV nm k ax x y z lo hi A n c) 28) (.cells #[.int .i64 0,.int .i64 0] 25)
  have hb2:=heap2 w (.cells (ftV nm k ax x y z lo hi A n c) 28) (.cells #[.int .i64 0,.int .i64 0] 25)
  have hB:=bel2 w (.cells (ftV nm k ax x y z lo hi A n c) 28) (.cells #[.int .i64 0,.int .i64 0] 25)
  generalize (w.alloc (.cells (ftV nm k ax x y z lo hi A n c) 28)).alloc (.cells #[.int .i64 0,.int .i64 0] 25)=W1 at *
  have c3:=(blk_cell hb1 3).trans (rfl:_=some (Value.int .i64 x))
  have c4:=(blk_cell hb1 4).trans (rfl:_=some (Value.int .i64 y))
  have c5:=(blk_cell hb1 5).trans (rfl:_=some (Value.int .i64 z))
  have c7:=(blk_cell hb1 7).trans (rfl:_=some (Value.int .i64 hi))
  go_wp2_with (go_at_call 104;refine(rcoord_calls _ _ _ _).mono ?_;rintro e w' ⟨rfl,hb⟩;have hb2':=blk_below hb2 hb;have d0:=(blk_cell hb2' 0).trans (rfl:_=some (Value.int .i64 0));have d1:=(blk_cell hb2' 1).trans (rfl:_=some (Value.int .i64 0));have z0:=blk_frozen hb2' 0;have z1:=blk_frozen hb2' 1)
  refine bodyPost_ret (results_cell_row rfl _ _ (w.heap.size+1) 25 #[.int .i64 (sv - hv),.int .i64 (sv+hv)] (0,0) _ rfl (blk_put (blk_put hb2' 0 _ rfl) 1 _ rfl) Try.underlying25 rfl (by kernel_rfl)) rfl ?_
  exact⟨rfl,below_set (below_set (below_step hB hb) (by omega)) (by omega)⟩
end Go.Proofs.Ytkgdlbepjmgaiaa.Fea
namespace Go.Proofs.Ytkgdlbepjmgaiaa.Fea
open Go.RowKit YtkgdlbepjmgaiaaW.PrintWords YtkgdlbepjmgaiaaW.PrintLast YtkgdlbepjmgaiaaW.PrintMore
attribute [local go_sem] max2_int min2_int max_two min_two max_three min_three max_four min_four
def fe_bounded.f (a0_0:ByteArray) (a0_1 a0_2 a0_3 a0_4 a0_5 a0_6 a0_7:Int) (l0_8:List (S104)) (a1:Int):Option Bool:=if 0≤a0_1∧a0_1 < 5∧0≤a0_2∧a0_2 < 3∧0≤a1∧a1 < 3 then some (bndV a0_1 a0_2 a1) else none
theorem fe_bounded.calls (a0_0:ByteArray) (a0_1 a0_2 a0_3 a0_4 a0_5 a0_6 a0_7:Int) (A0_8:Option Addr) (c0_8:Nat) (l0_8:List (S104)) (a1:Int) (r:Bool) (w:World) (hr0_8:Kd.C k104 w A0_8 l0_8.length l0_8) (hc0_8:l0_8.length≤c0_8) (h:fe_bounded.f a0_0 a0_1 a0_2 a0_3 a0_4 a0_5 a0_6 a0_7 l0_8 a1=some r):
    Calls Try.prog 69 #[.agg #[.string a0_0,.int .i64 a0_1,.int .i64 a0_2,.int .i64 a0_3,.int .i64 a0_4,.int .i64 a0_5,.int .i64 a0_6,.int .i64 a0_7,.slice A0_8 l0_8.length c0_8],.int .i64 a1] w fun e w'=>e=.returned (.bool r)∧Below w.heap.size w w':=by
  unfold fe_bounded.f at h
  split at h
  · rename_i g
    obtain rfl:=Option.some.inj h
    exact bounded_calls a0_0 a0_1 a0_2 a0_3 a0_4 a0_5 a0_6 a0_7 A0_8 l0_8.length c0_8 a1 w ⟨g.1,g.2.1⟩ ⟨g.2.2.1,g.2.2.2.1⟩ ⟨g.2.2.2.2.1,g.2.2.2.2.2⟩
  · cases h
def fe_reach.f (a0_0:ByteArray) (a0_1 a0_2 a0_3 a0_4 a0_5 a0_6 a0_7:Int) (l0_8:List (S104)) (a1:Int):Option (Int×Int):=
  if(-100000≤a0_3∧a0_3≤100000)∧(-100000≤a0_4∧a0_4≤100000)∧(-100000≤a0_5∧a0_5≤100000)∧(-100000≤a0_7∧a0_7≤100000)∧0≤a1∧a1 < 3 then some (sel3 a0_3 a0_4 a0_5 a1 - halfV a0_7,sel3 a0_3 a0_4 a0_5 a1+halfV a0_7) else none
theorem fe_reach.calls (a0_0:ByteArray) (a0_1 a0_2 a0_3 a0_4 a0_5 a0_6 a0_7:Int) (A0_8:Option Addr) (c0_8:Nat) (l0_8:List (S104)) (a1 r1 r2:Int) (w:World) (hr0_8:Kd.C k104 w A0_8 l0_8.length l0_8) (hc0_8:l0_8.length≤c0_8) (h:fe_reach.f a0_0 a0_1 a0_2 a0_3 a0_4 a0_5 a0_6 a0_7 l0_8 a1=some (r1,r2)):
    Calls Try.prog 70 #[.agg #[.string a0_0,.int .i64 a0_1,.int .i64 a0_2,.int .i64 a0_3,.int .i64 a0_4,.int .i64 a0_5,.int .i64 a0_6,.int .i64 a0_7,.slice A0_8 l0_8.length c0_8],.int .i64 a1] w fun e w'=>e=.returned (.agg #[.int .i64 r1,.int .i64 r2])∧Below w.heap.size w w':=by
  unfold fe_reach.f at h
  split at h
  · rename_i g
    simp only[Option.some.injEq,Prod.mk.injEq] at h
    obtain⟨rfl,rfl⟩:=h
    exact reach_calls a0_0 a0_1 a0_2 a0_3 a0_4 a0_5 a0_6 a0_7 A0_8 l0_8.length c0_8 a1 w g.1 g.2.1 g.2.2.1 g.2.2.2.1 g.2.2.2.2
  · cases h
end Go.Proofs.Ytkgdlbepjmgaiaa.Fea
