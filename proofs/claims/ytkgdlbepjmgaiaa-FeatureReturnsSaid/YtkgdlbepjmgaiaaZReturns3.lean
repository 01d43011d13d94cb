/- Part 3 of the texts behind the last one of this claim. -/
import Derived.LoopTactic
import Derived.Deep.LoopGhost
import Derived.Outline
import Derived.Test.YtkgdlbepjmgaiaaZReturns2
set_option linter.unusedVariables false
set_option linter.unusedSimpArgs false
namespace Go.Proofs.Ytkgdlbepjmgaiaa.Fea
open Go.RowKit Go.Proofs.YtkgdlbepjmgaiaaW.PrintWords Go.Proofs.YtkgdlbepjmgaiaaW.PrintLast Go.Proofs.YtkgdlbepjmgaiaaW.PrintMore
theorem rletter_eq (c : Int) : metrolabref17_letter.f c = some (Hand.letB c) := by
  unfold metrolabref17_letter.f Hand.letB
  by_cases h1 : 97 ≤ c
  · rw [if_pos (show c ≥ 97 from h1)]
    by_cases h2 : c ≤ 122
    · rw [if_pos h2]; simp [h1, h2]
    · rw [if_neg h2, if_pos (show c ≥ 65 by omega), decide_eq_false (show ¬ c ≤ 90 by omega), decide_eq_false h2]
      simp
  · rw [if_neg (show ¬ c ≥ 97 from h1)]
    by_cases h2 : 65 ≤ c
    · rw [if_pos (show c ≥ 65 from h2)]
      simp [h1, h2]
    · rw [if_neg (show ¬ c ≥ 65 from h2)]
      simp [h1, h2]
theorem rName_ev (s : ByteArray) : Ev (fun k => metrolabref17_Name.f k s) (Hand.nmV s) := by
  unfold metrolabref17_Name.f Hand.nmV
  by_cases h24 : 24 < (s.size : Int)
  · rw [if_pos h24]; exact Ev.t h24 (Ev.now _)
  rw [if_neg h24]
  refine Ev.e h24 ?_
  have j3 : Ev (fun k => metrolabref17_Name.j0 k s true) 3 := by
    refine Ev.step (fun k => by rw [metrolabref17_Name.j0]) ?_
    exact Ev.t rfl (Ev.now _)
  by_cases hz : (s.size : Int) = 0
  · rw [if_pos hz]; exact Ev.t hz j3
  rw [if_neg hz]
  refine Ev.e hz ?_
  refine Ev.t (by omega) ?_
  simp only [rletter_eq, Option.bind_some]
  cases h0 : Hand.letB (bt s 0)
  · rw [if_pos rfl]; exact j3
  · rw [if_neg (by decide)]
    refine Ev.step (fun k => by rw [metrolabref17_Name.j0]) ?_
    refine Ev.e (by decide) ?_
    have key : ∀ n i : Nat, i + n = s.size → Hand.nmGo s i = true → Ev (fun k => metrolabref17_Name.l0 k s (i : Int)) (if Hand.nmGo s s.size = true then 0 else 3) := by
      intro n
      induction n with
      | zero =>
        intro i hi hg
        obtain rfl : i = s.size := by omega
        refine Ev.step (fun k => by rw [metrolabref17_Name.l0]) ?_
        rw [if_pos hg]
        exact Ev.e (by omega) (Ev.now _)
      | succ n ih =>
        intro i hi hg
        refine Ev.step (fun k => by rw [metrolabref17_Name.l0]) ?_
        simp only [rletter_eq, Option.bind_some]
        refine Ev.t (by omega) (Ev.t (by omega) ?_)
        rw [w64s (by omega)]
        have hst := Hand.nmGo_step s i hg
        have bad : Hand.nmOk (bt s (i : Int)) = false → (if Hand.nmGo s s.size = true then (0 : Int) else 3) = 3 := by
          intro h
          rw [h] at hst
          rw [Hand.nmGo_false s (i + 1) s.size hst (by omega)]
          rfl
        cases hl : Hand.letB (bt s (i : Int))
        · refine Ev.e (by decide) ?_
          by_cases h1 : bt s (i : Int) < 48
          · refine Ev.t h1 (Ev.some_eq (bad ?_).symm)
            simp [Hand.nmOk, Hand.digB, hl]; omega
          · refine Ev.e h1 ?_
            by_cases h2 : bt s (i : Int) > 57
            · refine Ev.t h2 (Ev.some_eq (bad ?_).symm)
              simp [Hand.nmOk, Hand.digB, hl]; omega
            · refine Ev.e h2 (ih (i + 1) (by omega) ?_)
              rw [hst]
              simp [Hand.nmOk, Hand.digB]; omega
        · refine Ev.t rfl (ih (i + 1) (by omega) ?_)
          rw [hst]
          simp [Hand.nmOk, hl]
    exact key s.size 0 (by omega) rfl
theorem rin_eq (n : Int) : metrolabref17_In.f n = some (inR n) := by
  unfold metrolabref17_In.f inR
  by_cases h : n ≥ (-100000)
  · rw [if_pos h, decide_eq_true (show (-100000) ≤ n from h)]; rfl
  · rw [if_neg h, decide_eq_false (show ¬ (-100000) ≤ n from h)]; rfl
theorem rlimits_ev (a b : Int) : Ev (fun k => metrolabref17_Check.f k a b) (limV a b) := by
  have j : ∀ c, Ev (fun k => metrolabref17_Check.j0 k c a b) (if c = true then 2 else if a > b then 9 else 0) := fun c => by
    refine Ev.step (fun k => by rw [metrolabref17_Check.j0]) ?_
    exact Ev.ite2 (Ev.now _) (Ev.ite2 (Ev.now _) (Ev.now _))
  unfold metrolabref17_Check.f limV
  simp only [rin_eq, Option.bind_some]
  cases inR a
  · exact Ev.e (by decide) (j true)
  · refine Ev.t rfl ?_
    cases inR b
    · exact j true
    · exact j false
theorem RCheck_ev (nm : ByteArray) (k ax x y z lo hi : Int) (l : List S104) : Ev (fun n => metrolabref18_Check.f n nm k ax x y z lo hi l) (chkF nm k ax x y z lo hi) := by
  have j2 : ∀ b, Ev (fun n => metrolabref18_Check.j2 n b nm k ax x y z lo hi l) (if b = true then 2 else if k = 0 then (if lo = 0 ∧ hi = 0 then 0 else 3) else if limV lo hi = 0 then (if lo < 1 then 2 else 0) else limV lo hi) := fun b => by
    refine Ev.step (fun n => by rw [metrolabref18_Check.j2]) ?_
    refine Ev.ite2 (Ev.now _) (Ev.ite2 ?_ (Ev.bind (rlimits_ev lo hi) (Ev.ite2 (Ev.ite2 (Ev.now _) (Ev.now _)) (Ev.now _))))
    by_cases h1 : lo = 0 ∧ hi = 0
    · rw [if_pos h1]; exact Ev.e (by simp [h1.1, h1.2]) (Ev.now _)
    · rw [if_neg h1]
      refine Ev.t ?_ (Ev.now _)
      simp only [Bool.or_eq_true, Bool.not_eq_true', beq_eq_false_iff_ne]
      omega
  have j1 : ∀ b, Ev (fun n => metrolabref18_Check.j1 n b nm k ax x y z lo hi l) (if b = true then 3 else if in3 x y z = true then (if k = 0 then (if lo = 0 ∧ hi = 0 then 0 else 3) else if limV lo hi = 0 then (if lo < 1 then 2 else 0) else limV lo hi) else 2) := fun b => by
    refine Ev.step (fun n => by rw [metrolabref18_Check.j1]) ?_
    refine Ev.ite2 (Ev.now _) ?_
    simp only [rin_eq, Option.bind_some]
    unfold in3
    cases inR x
    · exact Ev.e (by decide) (j2 true)
    refine Ev.t rfl ?_
    cases inR y
    · exact Ev.e (by decide) (j2 true)
    refine Ev.t rfl ?_
    cases inR z
    · exact j2 true
    · exact j2 false
  have j0 : ∀ b, Ev (fun n => metrolabref18_Check.j0 n b nm k ax x y z lo hi l) (if b = true then 1 else if k = 4 ∧ ax ≠ 0 then 3 else if in3 x y z = true then (if k = 0 then (if lo = 0 ∧ hi = 0 then 0 else 3) else if limV lo hi = 0 then (if lo < 1 then 2 else 0) else limV lo hi) else 2) := fun b => by
    refine Ev.step (fun n => by rw [metrolabref18_Check.j0]) ?_
    refine Ev.ite2 (Ev.now _) ?_
    by_cases h4 : k = 4
    · refine Ev.t h4 ?_
      have := j1 (ax != 0)
      by_cases ha : ax = 0
      · rw [if_neg (fun h => h.2 ha)]
        rw [show (ax != 0) = false by simp [ha]] at this ⊢
        exact this
      · rw [if_pos ⟨h4, ha⟩]
        rw [show (ax != 0) = true by simp [ha]] at this ⊢
        exact this
    · refine Ev.e h4 ?_
      rw [if_neg (fun h => h4 h.1)]
      exact j1 false
  unfold metrolabref18_Check.f chkF
  refine Ev.bind (rName_ev nm) (Ev.ite2 ?_ (Ev.now _))
  by_cases h : 0 ≤ k ∧ k < 5 ∧ 0 ≤ ax ∧ ax < 3
  · rw [if_pos h]
    refine Ev.e (by omega) (Ev.e (by omega) (Ev.e (by omega) ?_))
    rw [decide_eq_false (show ¬ ax ≥ 3 by omega)]
    exact j0 false
  · rw [if_neg h]
    refine Ev.ite (fun _ => j0 true) (fun h1 => Ev.ite (fun _ => j0 true) (fun h2 => Ev.ite (fun _ => j0 true) (fun h3 => ?_)))
    rw [decide_eq_true (show ax ≥ 3 by omega)]
    exact j0 true
def dtB (d : S106) : Bool := decide (d.f0.size ≤ 100)
def frB (p : S104) : Bool := decide (p.f4.length ≤ 6) && p.f4.all dtB
def fewV (nm : ByteArray) (l : List S104) : Bool := decide (nm.size ≤ 100) && (decide (l.length ≤ 12) && l.all frB)
theorem rd104 (l : List S104) (i : Nat) (h : i < l.length) : rd_T104 l (i : Int) = l[i] := by
  unfold rd_T104
  rw [Int.toNat_natCast]
  simp [List.getD_eq_getElem?_getD, h]
theorem rd106 (l : List S106) (i : Nat) (h : i < l.length) : rd_T106 l (i : Int) = l[i] := by
  unfold rd_T106
  rw [Int.toNat_natCast]
  simp [List.getD_eq_getElem?_getD, h]
theorem Few_ev (nm : ByteArray) (k ax x y z lo hi : Int) (l : List S104) : Ev (fun n => metrolabref18_Few.f n nm k ax x y z lo hi l) (fewV nm l) := by
  have l1 : ∀ i : Nat, (hi' : i < l.length) → i < 100 → (∀ r, Ev (fun n => metrolabref18_Few.l0 n ((i + 1 : Nat) : Int) nm k ax x y z lo hi l) r → l[i].f4.length ≤ 6 → ∀ m j : Nat, j + m = l[i].f4.length → Ev (fun n => metrolabref18_Few.l1 n (i : Int) (j : Int) nm k ax x y z lo hi l) ((l[i].f4.drop j).all dtB && r)) := by
    intro i hi' hi1 r hr h6 m
    induction m with
    | zero =>
      intro j hj
      refine Ev.step (fun n => by rw [metrolabref18_Few.l1]) ?_
      rw [rd104 l i hi', w64s (n := i) (by omega)]
      refine Ev.t (by omega) (Ev.t (by omega) (Ev.e (by omega) ?_))
      rw [List.drop_eq_nil_of_le (by omega)]
      exact hr
    | succ m ih =>
      intro j hj
      refine Ev.step (fun n => by rw [metrolabref18_Few.l1]) ?_
      rw [rd104 l i hi', w64s (n := j) (by omega), rd106 _ j (by omega)]
      refine Ev.t (by omega) (Ev.t (by omega) (Ev.t (by omega) (Ev.t (by omega) ?_)))
      rw [List.drop_eq_getElem_cons (show j < l[i].f4.length by omega), List.all_cons]
      by_cases hs : l[i].f4[j].f0.size ≤ 100
      · rw [show dtB l[i].f4[j] = true from decide_eq_true hs, Bool.true_and]
        exact Ev.e (by omega) (ih (j + 1) (by omega))
      · rw [show dtB l[i].f4[j] = false from decide_eq_false hs, Bool.false_and, Bool.false_and]
        exact Ev.t (by omega) (Ev.now _)
  have l0 : l.length ≤ 12 → ∀ m i : Nat, i + m = l.length → Ev (fun n => metrolabref18_Few.l0 n (i : Int) nm k ax x y z lo hi l) ((l.drop i).all frB) := by
    intro h12 m
    induction m with
    | zero =>
      intro i hi'
      refine Ev.step (fun n => by rw [metrolabref18_Few.l0]) ?_
      rw [List.drop_eq_nil_of_le (by omega)]
      exact Ev.e (by omega) (Ev.now _)
    | succ m ih =>
      intro i hi'
      refine Ev.step (fun n => by rw [metrolabref18_Few.l0]) ?_
      rw [rd104 l i (by omega)]
      refine Ev.t (by omega) (Ev.t (by omega) ?_)
      rw [List.drop_eq_getElem_cons (show i < l.length by omega), List.all_cons]
      by_cases h6 : l[i].f4.length ≤ 6
      · refine Ev.e (by omega) ?_
        have := l1 i (by omega) (by omega) _ (ih (i + 1) (by omega)) h6 l[i].f4.length 0 (by omega)
        unfold frB
        rw [decide_eq_true h6, Bool.true_and]
        exact this
      · unfold frB
        rw [decide_eq_false h6, Bool.false_and, Bool.false_and]
        exact Ev.t (by omega) (Ev.now _)
  have j0 : ∀ b, (b = false → l.length ≤ 12) → Ev (fun n => metrolabref18_Few.j0 n b nm k ax x y z lo hi l) (!b && l.all frB) := by
    intro b hb
    refine Ev.step (fun n => by rw [metrolabref18_Few.j0]) ?_
    cases b
    · exact Ev.e (by decide) (l0 (hb rfl) l.length 0 (by omega))
    · exact Ev.t rfl (Ev.now _)
  unfold metrolabref18_Few.f fewV
  by_cases h1 : nm.size ≤ 100
  · refine Ev.e (by omega) ?_
    rw [decide_eq_true h1, Bool.true_and]
    by_cases h2 : l.length ≤ 12
    · rw [decide_eq_true h2, Bool.true_and, decide_eq_false (show ¬ (l.length : Int) > 12 by omega)]
      exact j0 false (fun _ => h2)
    · rw [decide_eq_false h2, Bool.false_and, decide_eq_true (show (l.length : Int) > 12 by omega)]
      exact j0 true (fun h => by cases h)
  · rw [decide_eq_false h1, Bool.false_and]
    exact Ev.t (by omega) (j0 true (fun h => by cases h))
theorem fewV_small {nm : ByteArray} {l : List S104} (h : fewV nm l = true) : l.length ≤ 12 ∧ ∀ p ∈ l, p.f4.length ≤ 6 := by
  simp only [fewV, frB, Bool.and_eq_true, decide_eq_true_eq, List.all_eq_true] at h
  exact ⟨h.2.1, fun p hp => (h.2.2 p hp).1⟩
end Go.Proofs.Ytkgdlbepjmgaiaa.Fea
set_option linter.unusedVariables false
set_option linter.unusedSimpArgs false
namespace Go.Proofs.Ytkgdlbepjmgaiaa.Fea
open Go.RowKit Go.Proofs.YtkgdlbepjmgaiaaW.PrintWords Go.Proofs.YtkgdlbepjmgaiaaW.PrintLast Go.Proofs.YtkgdlbepjmgaiaaW.PrintMore
abbrev v3 (x y z : Int) : Array Value := #[.int .i64 x, .int .i64 y, .int .i64 z]
theorem heap1 (w : World) (o : Obj) : (w.alloc o).heap[w.heap.size]? = some o := blk_new w o
theorem heap2 (w : World) (o o' : Obj) : ((w.alloc o).alloc o').heap[w.heap.size + 1]? = some o' := by
  have h := blk_new (w.alloc o) o'
  have e : (w.alloc o).heap.size = w.heap.size + 1 := by unfold World.alloc; exact Array.size_push _
  rwa [e] at h
theorem heap2o (w : World) (o o' : Obj) : ((w.alloc o).alloc o').heap[w.heap.size]? = some o := blk_alloc (blk_new w o) o'
theorem bel1 (w : World) (o : Obj) : Below w.heap.size w (w.alloc o) := below_alloc (Below.refl _ _) _
theorem bel2 (w : World) (o o' : Obj) : Below w.heap.size w ((w.alloc o).alloc o') := below_alloc (bel1 w o) _
theorem cell_on {W W' : World} (hb : Below W.heap.size W W') {g i : Nat} {v : Value} (h : W.cell? ⟨g, i, none⟩ = some v) : W'.cell? ⟨g, i, none⟩ = some v := by
  have hlt := World.block_lt_of_cell? W ⟨g, i, none⟩ h
  have e := hb.block g hlt
  simpa only [World.cell?, e] using h
set_option maxHeartbeats 8000000 in
set_option maxRecDepth 100000 in
theorem coord_calls (x y z : Int) (w : World) : Calls Try.prog 103 #[.agg (v3 x y z)] w fun e w' => e = .returned (.agg (v3 x y z)) ∧ Below w.heap.size w w' := by
  have hu128 := Try.underlying128
  have hu23 := Try.underlying23
  go_enter Try.func103, Try.ntmps103
  go_wp2
  refine bodyPost_ret (results_cell_row rfl _ _ (w.heap.size + 1) 128 (v3 x y z) (0, 0) _ rfl (heap2 w _ _) Try.underlying128 rfl (by kernel_rfl)) rfl ?_
  exact ⟨rfl, bel2 w _ _⟩
set_option maxHeartbeats 8000000 in
set_option maxRecDepth 100000 in
theorem rcoord_calls (x y z : Int) (w : World) : Calls Try.prog 104 #[.agg (v3 x y z)] w fun e w' => e = .returned (.agg (v3 x y z)) ∧ Below w.heap.size w w' := by
  have hu128 := Try.underlying128
  have hu23 := Try.underlying23
  go_enter Try.func104, Try.ntmps104
  go_wp2
  refine bodyPost_ret (results_cell_row rfl _ _ (w.heap.size + 1) 128 (v3 x y z) (0, 0) _ rfl (heap2 w _ _) Try.underlying128 rfl (by kernel_rfl)) rfl ?_
  exact ⟨rfl, bel2 w _ _⟩
set_option maxHeartbeats 8000000 in
set_option maxRecDepth 100000 in
theorem spot_calls (x y z : Int) (w : World) : Calls Try.prog 124 #[.agg (v3 x y z)] w fun e w' => e = .returned (.agg (v3 x y z)) ∧ Below w.heap.size w w' := by
  have hu128 := Try.underlying128
  have hu23 := Try.underlying23
  go_enter Try.func124, Try.ntmps124
  go_wp2
  refine bodyPost_ret (results_cell_row rfl _ _ (w.heap.size + 1) 23 (v3 x y z) (0, 0) _ rfl (heap2 w _ _) Try.underlying23 rfl (by kernel_rfl)) rfl ?_
  exact ⟨rfl, bel2 w _ _⟩
set_option maxHeartbeats 8000000 in
set_option maxRecDepth 100000 in
theorem rplace_calls (x y z : Int) (w : World) : Calls Try.prog 106 #[.agg (v3 x y z)] w fun e w' => e = .returned (.agg (v3 x y z)) ∧ Below w.heap.size w w' := by
  have hu128 := Try.underlying128
  have hu23 := Try.underlying23
  go_enter Try.func106, Try.ntmps106
  go_wp2
  refine bodyPost_ret (results_cell_row rfl _ _ (w.heap.size + 1) 23 (v3 x y z) (0, 0) _ rfl (heap2 w _ _) Try.underlying23 rfl (by kernel_rfl)) rfl ?_
  exact ⟨rfl, bel2 w _ _⟩
def bdsV : Array Value := #[.bool true, .bool false, .bool false, .bool false, .bool true, .bool true, .bool false, .bool true, .bool true, .bool true, .bool false, .bool false, .bool true, .bool true, .bool true]
set_option maxHeartbeats 8000000 in
set_option maxRecDepth 100000 in
theorem bounds_calls (w : World) : Calls Try.prog 113 #[] w fun e w' => e = .returned (.agg bdsV) ∧ Below w.heap.size w w' := by
  have hu143 := Try.underlying143
  have hu142 := Try.underlying142
  go_enter Try.func113, Try.ntmps113
  go_wp2
  refine bodyPost_ret (results_cell_row rfl _ _ w.heap.size 143 bdsV (0, 0) _ rfl (heap1 w _) Try.underlying143 rfl (by kernel_rfl)) rfl ?_
  exact ⟨rfl, bel1 w _⟩
abbrev ftV (nm : ByteArray) (k ax x y z lo hi : Int) (A : Option Addr) (n c : Nat) : Array Value := #[.string nm, .int .i64 k, .int .i64 ax, .int .i64 x, .int .i64 y, .int .i64 z, .int .i64 lo, .int .i64 hi, .slice A n c]
def bndV (k ax axis : Int) : Bool := if k = 4 then true else if k = 1 ∨ k = 2 then axis != ax else axis == ax
def bRow (k : Int) : Array Value := if k = 4 then #[.bool true, .bool true, .bool true] else if k = 1 ∨ k = 2 then #[.bool false, .bool true, .bool true] else #[.bool true, .bool false, .bool false]
def bAt (k r : Int) : Bool := if k = 4 then true else if k = 1 ∨ k = 2 then r != 0 else r == 0
set_option maxHeartbeats 2000000 in
set_option maxRecDepth 100000 in
theorem idx143 (k : Int) (h : 0 ≤ k ∧ k < 5) (W : World) : Sem.run Try.prog (Instr.index 143 (.agg bdsV) (.int .i64 k)) W = .ok (.agg (bRow k)) W := by
  have hu143 := Try.underlying143
  have hk : k = 0 ∨ k = 1 ∨ k = 2 ∨ k = 3 ∨ k = 4 := by omega
  clear h
  rcases hk with rfl | rfl | rfl | rfl | rfl <;> rfl
set_option maxHeartbeats 2000000 in
set_option maxRecDepth 100000 in
theorem idx142 (k r : Int) (h : 0 ≤ r ∧ r < 3) (W : World) : Sem.run Try.prog (Instr.index 142 (.agg (bRow k)) (.int .i64 r)) W = .ok (.bool (bAt k r)) W := by
  have hu142 := Try.underlying142
  have hk : r = 0 ∨ r = 1 ∨ r = 2 := by omega
  clear h
  unfold bRow bAt
  by_cases h4 : k = 4
  · simp only [if_pos h4]
    rcases hk with rfl | rfl | rfl <;> rfl
  · by_cases h12 : k = 1 ∨ k = 2
    · simp only [if_neg h4, if_pos h12]
      rcases hk with rfl | rfl | rfl <;> rfl
    · simp only [if_neg h4, if_neg h12]
      rcases hk with rfl | rfl | rfl <;> rfl
def sel3 (x y z a : Int) : Int := if a = 0 then x else if a = 1 then y else z
set_option maxHeartbeats 2000000 in
set_option maxRecDepth 100000 in
theorem idx128 (x y z a : Int) (h : 0 ≤ a ∧ a < 3) (W : World) : Sem.run Try.prog (Instr.index 128 (.agg (v3 x y z)) (.int .i64 a)) W = .ok (.int .i64 (sel3 x y z a)) W := by
  have hk : a = 0 ∨ a = 1 ∨ a = 2 := by omega
  clear h
  rcases hk with rfl | rfl | rfl <;> rfl
set_option maxHeartbeats 8000000 in
set_option maxRecDepth 100000 in
theorem bounded_calls (nm : ByteArray) (k ax x y z lo hi : Int) (A : Option Addr) (n c : Nat) (axis : Int) (w : World) (h1 : 0 ≤ k ∧ k < 5) (h2 : 0 ≤ ax ∧ ax < 3) (h3 : 0 ≤ axis ∧ axis < 3) :
    Calls Try.prog 69 #[.agg (ftV nm k ax x y z lo hi A n c), .int .i64 axis] w fun e w' => e = .returned (.bool (bndV k ax axis)) ∧ Below w.heap.size w w' := by
  have hu28 := Try.underlying28
  have hr : bAt k ((axis - ax + 3).tmod 3) = bndV k ax axis := by
    rw [Int.tmod_eq_emod_of_nonneg (by omega)]
    unfold bAt bndV
    by_cases h4 : k = 4
    · rw [if_pos h4, if_pos h4]
    · rw [if_neg h4, if_neg h4]
      by_cases h12 : k = 1 ∨ k = 2
      · rw [if_pos h12, if_pos h12, Bool.eq_iff_iff]; simp; omega
      · rw [if_neg h12, if_neg h12, Bool.eq_iff_iff]; simp; omega
  have HR := Aside0.mk hr
  clear hr
  have i143 := idx143 k h1
  have i142 := idx142 k ((axis - ax + 3).tmod 3) (by rw [Int.tmod_eq_emod_of_nonneg (by omega)]; omega)
  have e1 : IntKind.i64.wrap (axis - ax) = axis - ax := IntWalk.i64_in _ (by omega)
  have e2 : IntKind.i64.wrap (axis - ax + 3) = axis - ax + 3 := IntWalk.i64_in _ (by omega)
  clear h1 h2 h3
  go_enter Try.func69, Try.ntmps69
  go_upto_region 1 with (fail)
  have hc1 : (w.alloc (.cells (ftV nm k ax x y z lo hi A n c) 28)).cell? ⟨w.heap.size, 1, none⟩ = some (.int .i64 k) := by go_simp
  have hc2 : (w.alloc (.cells (ftV nm k ax x y z lo hi A n c) 28)).cell? ⟨w.heap.size, 2, none⟩ = some (.int .i64 ax) := by go_simp
  have hB := bel1 w (.cells (ftV nm k ax x y z lo hi A n c) 28)
  generalize w.alloc (.cells (ftV nm k ax x y z lo hi A n c) 28) = W1 at *
  go_region_held3 (fun w' => w'.cell? ⟨w.heap.size, 1, none⟩ = some (.int .i64 k) ∧ w'.cell? ⟨w.heap.size, 2, none⟩ = some (.int .i64 ax) ∧ Below w.heap.size w w') (first | exact ⟨hc1, hc2, below_drew1 hB⟩ | (refine And.intro ?_ (And.intro ?_ ?_) <;> first | exact cell_on hb hc1 | exact cell_on hb hc2 | exact below_step (below_drew1 hB) hb)) (first | (go_at_call 113; refine (bounds_calls _).mono ?_; rintro e w' ⟨rfl, hb⟩))
  go_wp2
  go_ret
  exact ⟨by rw [HR.out]; rfl, ‹_ ∧ _ ∧ Below w.heap.size w _›.2.2⟩
def halfV (hi : Int) : Int := (hi + 1).tdiv 2
set_option maxHeartbeats 8000000 in
set_option maxRecDepth 100000 in
theorem reach_calls (nm : ByteArray) (k ax x y z lo hi : Int) (A : Option Addr) (n c : Nat) (axis : Int) (w : World) (hx : -100000 ≤ x ∧ x ≤ 100000) (hy : -100000 ≤ y ∧ y ≤ 100000) (hz : -100000 ≤ z ∧ z ≤ 100000) (hh : -100000 ≤ hi ∧ hi ≤ 100000) (h3 : 0 ≤ axis ∧ axis < 3) :
    Calls Try.prog 70 #[.agg (ftV nm k ax x y z lo hi A n c), .int .i64 axis] w fun e w' => e = .returned (.agg #[.int .i64 (sel3 x y z axis - halfV hi), .int .i64 (sel3 x y z axis + halfV hi)]) ∧ Below w.heap.size w w' := by
  have hu28 := Try.underlying28
  have hu25 := Try.underlying25
  have hu23 := Try.underlying23
  have i128 := idx128 x y z axis h3
  have hhv : -100000 ≤ halfV hi ∧ halfV hi ≤ 100000 := by
    unfold halfV
    rcases Int.lt_or_le (hi + 1) 0 with g | g
    · have : (hi + 1).tdiv 2 = -((-(hi + 1)).tdiv 2) := by rw [Int.neg_tdiv, Int.neg_neg]
      rw [this, Int.tdiv_eq_ediv_of_nonneg (by omega)]; omega
    · rw [Int.tdiv_eq_ediv_of_nonneg g]; omega
  have hs3 : -100000 ≤ sel3 x y z axis ∧ sel3 x y z axis ≤ 100000 := by
    unfold sel3
    repeat' split
    all_goals assumption
  have e1 : IntKind.i64.wrap (hi + 1) = hi + 1 := IntWalk.i64_in _ (by omega)
  have e2 : (hi + 1).tdiv 2 = halfV hi := rfl
  have e3 : IntKind.i64.wrap (sel3 x y z axis - halfV hi) = sel3 x y z axis - halfV hi := IntWalk.i64_in _ (by omega)
  have e4 : IntKind.i64.wrap (sel3 x y z axis + halfV hi) = sel3 x y z axis + halfV hi := IntWalk.i64_in _ (by omega)
  have e5 : IntKind.i64.wrap (halfV hi) = halfV hi := IntWalk.i64_in _ (by omega)
  generalize halfV hi = hv at *
  generalize hs : sel3 x y z axis = sv at *
  clear hx hy hz hh h3 hhv hs3
  go_enter Try.func70, Try.ntmps70
  go_upto_region 1 with (fail)
  have hb1 := heap2o w (.cells (ftV nm k ax x y z lo hi A n c) 28) (.cells #[.int .i64 0, .int .i64 0] 25)
  have hb2 := heap2 w (.cells (ftV nm k ax x y z lo hi A n c) 28) (.cells #[.int .i64 0, .int .i64 0] 25)
  have hB := bel2 w (.cells (ftV nm k ax x y z lo hi A n c) 28) (.cells #[.int .i64 0, .int .i64 0] 25)
  generalize (w.alloc (.cells (ftV nm k ax x y z lo hi A n c) 28)).alloc (.cells #[.int .i64 0, .int .i64 0] 25) = W1 at *
  have c3 := (blk_cell hb1 3).trans (rfl : _ = some (Value.int .i64 x))
  have c4 := (blk_cell hb1 4).trans (rfl : _ = some (Value.int .i64 y))
  have c5 := (blk_cell hb1 5).trans (rfl : _ = some (Value.int .i64 z))
  go_wp2_with (go_at_call 103; refine (coord_calls _ _ _ _).mono ?_; rintro e w' ⟨rfl, hb⟩; have c7 := cell_on hb ((blk_cell hb1 7).trans (rfl : _ = some (Value.int .i64 hi))); have hb2' := blk_below hb2 hb; have d0 := (blk_cell hb2' 0).trans (rfl : _ = some (Value.int .i64 0)); have d1 := (blk_cell hb2' 1).trans (rfl : _ = some (Value.int .i64 0)); have z0 := blk_frozen hb2' 0; have z1 := blk_frozen hb2' 1)
  refine bodyPost_ret (results_cell_row rfl _ _ (w.heap.size + 1) 25 #[.int .i64 (sv - hv), .int .i64 (sv + hv)] (0, 0) _ rfl (blk_put (blk_put hb2' 0 _ rfl) 1 _ rfl) Try.underlying25 rfl (by kernel_rfl)) rfl ?_
  exact ⟨rfl, below_set (below_set (below_step hB hb) (by omega)) (by omega)⟩
set_option maxHeartbeats 8000000 in
set_option maxRecDepth 100000 in
theorem along_calls (nm : ByteArray) (k ax x y z lo hi : Int) (A : Option Addr) (n c : Nat) (axis : Int) (w : World) (hx : -100000 ≤ x ∧ x ≤ 100000) (hy : -100000 ≤ y ∧ y ≤ 100000) (hz : -100000 ≤ z ∧ z ≤ 100000) (hh : -100000 ≤ hi ∧ hi ≤ 100000) (h3 : 0 ≤ axis ∧ axis < 3) :
    Calls Try.prog 74 #[.agg (ftV nm k ax x y z lo hi A n c), .int .i64 axis] w fun e w' => e = .returned (.agg #[.int .i64 (sel3 x y z axis - halfV hi), .int .i64 (sel3 x y z axis + halfV hi)]) ∧ Below w.heap.size w w' := by
  have hu28 := Try.underlying28
  have hu25 := Try.underlying25
  have hu23 := Try.underlying23
  have i128 := idx128 x y z axis h3
  have hhv : -100000 ≤ halfV hi ∧ halfV hi ≤ 100000 := by
    unfold halfV
    rcases Int.lt_or_le (hi + 1) 0 with g | g
    · have : (hi + 1).tdiv 2 = -((-(hi + 1)).tdiv 2) := by rw [Int.neg_tdiv, Int.neg_neg]
      rw [this, Int.tdiv_eq_ediv_of_nonneg (by omega)]; omega
    · rw [Int.tdiv_eq_ediv_of_nonneg g]; omega
  have hs3 : -100000 ≤ sel3 x y z axis ∧ sel3 x y z axis ≤ 100000 := by
    unfold sel3
    repeat' split
    all_goals assumption
  have e1 : IntKind.i64.wrap (hi + 1) = hi + 1 := IntWalk.i64_in _ (by omega)
  have e2 : (hi + 1).tdiv 2 = halfV hi := rfl
  have e3 : IntKind.i64.wrap (sel3 x y z axis - halfV hi) = sel3 x y z axis - halfV hi := IntWalk.i64_in _ (by omega)
  have e4 : IntKind.i64.wrap (sel3 x y z axis + halfV hi) = sel3 x y z axis + halfV hi := IntWalk.i64_in _ (by omega)
  have e5 : IntKind.i64.wrap (halfV hi) = halfV hi := IntWalk.i64_in _ (by omega)
  generalize halfV hi = hv at *
  generalize hs : sel3 x y z axis = sv at *
  clear hx hy hz hh h3 hhv hs3
  go_enter Try.func74, Try.ntmps74
  go_upto_region 1 with (fail)
  have hb1 := heap2o w (.cells (ftV nm k ax x y z lo hi A n c) 28) (.cells #[.int .i64 0, .int .i64 0] 25)
  have hb2 := heap2 w (.cells (ftV nm k ax x y z lo hi A n c) 28) (.cells #[.int .i64 0, .int .i64 0] 25)
  have hB := bel2 w (.cells (ftV nm k ax x y z lo hi A n c) 28) (.cells #[.int .i64 0, .int .i64 0] 25)
  generalize (w.alloc (.cells (ftV nm k ax x y z lo hi A n c) 28)).alloc (.cells #[.int .i64 0, .int .i64 0] 25) = W1 at *
  have c3 := (blk_cell hb1 3).trans (rfl : _ = some (Value.int .i64 x))
  have c4 := (blk_cell hb1 4).trans (rfl : _ = some (Value.int .i64 y))
  have c5 := (blk_cell hb1 5).trans (rfl : _ = some (Value.int .i64 z))
  have c7 := (blk_cell hb1 7).trans (rfl : _ = some (Value.int .i64 hi))
  go_wp2_with (go_at_call 104; refine (rcoord_calls _ _ _ _).mono ?_; rintro e w' ⟨rfl, hb⟩; have hb2' := blk_below hb2 hb; have d0 := (blk_cell hb2' 0).trans (rfl : _ = some (Value.int .i64 0)); have d1 := (blk_cell hb2' 1).trans (rfl : _ = some (Value.int .i64 0)); have z0 := blk_frozen hb2' 0; have z1 := blk_frozen hb2' 1)
  refine bodyPost_ret (results_cell_row rfl _ _ (w.heap.size + 1) 25 #[.int .i64 (sv - hv), .int .i64 (sv + hv)] (0, 0) _ rfl (blk_put (blk_put hb2' 0 _ rfl) 1 _ rfl) Try.underlying25 rfl (by kernel_rfl)) rfl ?_
  exact ⟨rfl, below_set (below_set (below_step hB hb) (by omega)) (by omega)⟩
end Go.Proofs.Ytkgdlbepjmgaiaa.Fea
namespace Go.Proofs.Ytkgdlbepjmgaiaa.Fea
open Go.RowKit Go.Proofs.YtkgdlbepjmgaiaaW.PrintWords Go.Proofs.YtkgdlbepjmgaiaaW.PrintLast Go.Proofs.YtkgdlbepjmgaiaaW.PrintMore
attribute [local go_sem] max2_int min2_int max_two min_two max_three min_three max_four min_four
set_option linter.unusedVariables false
set_option linter.unusedSimpArgs false
def feature_bounded.f (a0_0 : ByteArray) (a0_1 : Int) (a0_2 : Int) (a0_3 : Int) (a0_4 : Int) (a0_5 : Int) (a0_6 : Int) (a0_7 : Int) (l0_8 : List (S104)) (a1 : Int) : Option Bool := if 0 ≤ a0_1 ∧ a0_1 < 5 ∧ 0 ≤ a0_2 ∧ a0_2 < 3 ∧ 0 ≤ a1 ∧ a1 < 3 then some (bndV a0_1 a0_2 a1) else none
theorem feature_bounded.calls (a0_0 : ByteArray) (a0_1 : Int) (a0_2 : Int) (a0_3 : Int) (a0_4 : Int) (a0_5 : Int) (a0_6 : Int) (a0_7 : Int) (A0_8 : Option Addr) (c0_8 : Nat) (l0_8 : List (S104)) (a1 : Int) (r : Bool) (w : World) (hr0_8 : Kd.C k104 w A0_8 l0_8.length l0_8) (hc0_8 : l0_8.length ≤ c0_8) (h : feature_bounded.f a0_0 a0_1 a0_2 a0_3 a0_4 a0_5 a0_6 a0_7 l0_8 a1 = some r) :
    Calls Try.prog 69 #[.agg #[.string a0_0, .int .i64 a0_1, .int .i64 a0_2, .int .i64 a0_3, .int .i64 a0_4, .int .i64 a0_5, .int .i64 a0_6, .int .i64 a0_7, .slice A0_8 l0_8.length c0_8], .int .i64 a1] w fun e w' => e = .returned (.bool r) ∧ Below w.heap.size w w' := by
  unfold feature_bounded.f at h
  split at h
  · rename_i g
    obtain rfl := Option.some.inj h
    exact bounded_calls a0_0 a0_1 a0_2 a0_3 a0_4 a0_5 a0_6 a0_7 A0_8 l0_8.length c0_8 a1 w ⟨g.1, g.2.1⟩ ⟨g.2.2.1, g.2.2.2.1⟩ ⟨g.2.2.2.2.1, g.2.2.2.2.2⟩
  · cases h
end Go.Proofs.Ytkgdlbepjmgaiaa.Fea
namespace Go.Proofs.Ytkgdlbepjmgaiaa.Fea
open Go.RowKit Go.Proofs.YtkgdlbepjmgaiaaW.PrintWords Go.Proofs.YtkgdlbepjmgaiaaW.PrintLast Go.Proofs.YtkgdlbepjmgaiaaW.PrintMore
attribute [local go_sem] max2_int min2_int max_two min_two max_three min_three max_four min_four
set_option linter.unusedVariables false
set_option linter.unusedSimpArgs false
def feature_reach.f (a0_0 : ByteArray) (a0_1 : Int) (a0_2 : Int) (a0_3 : Int) (a0_4 : Int) (a0_5 : Int) (a0_6 : Int) (a0_7 : Int) (l0_8 : List (S104)) (a1 : Int) : Option (Int × Int) :=
  if (-100000 ≤ a0_3 ∧ a0_3 ≤ 100000) ∧ (-100000 ≤ a0_4 ∧ a0_4 ≤ 100000) ∧ (-100000 ≤ a0_5 ∧ a0_5 ≤ 100000) ∧ (-100000 ≤ a0_7 ∧ a0_7 ≤ 100000) ∧ 0 ≤ a1 ∧ a1 < 3 then some (sel3 a0_3 a0_4 a0_5 a1 - halfV a0_7, sel3 a0_3 a0_4 a0_5 a1 + halfV a0_7) else none
theorem feature_reach.calls (a0_0 : ByteArray) (a0_1 : Int) (a0_2 : Int) (a0_3 : Int) (a0_4 : Int) (a0_5 : Int) (a0_6 : Int) (a0_7 : Int) (A0_8 : Option Addr) (c0_8 : Nat) (l0_8 : List (S104)) (a1 : Int) (r1 : Int) (r2 : Int) (w : World) (hr0_8 : Kd.C k104 w A0_8 l0_8.length l0_8) (hc0_8 : l0_8.length ≤ c0_8) (h : feature_reach.f a0_0 a0_1 a0_2 a0_3 a0_4 a0_5 a0_6 a0_7 l0_8 a1 = some (r1, r2)) :
    Calls Try.prog 70 #[.agg #[.string a0_0, .int .i64 a0_1, .int .i64 a0_2, .int .i64 a0_3, .int .i64 a0_4, .int .i64 a0_5, .int .i64 a0_6, .int .i64 a0_7, .slice A0_8 l0_8.length c0_8], .int .i64 a1] w fun e w' => e = .returned (.agg #[.int .i64 r1, .int .i64 r2]) ∧ Below w.heap.size w w' := by
  unfold feature_reach.f at h
  split at h
  · rename_i g
    simp only [Option.some.injEq, Prod.mk.injEq] at h
    obtain ⟨rfl, rfl⟩ := h
    exact reach_calls a0_0 a0_1 a0_2 a0_3 a0_4 a0_5 a0_6 a0_7 A0_8 l0_8.length c0_8 a1 w g.1 g.2.1 g.2.2.1 g.2.2.2.1 g.2.2.2.2
  · cases h
end Go.Proofs.Ytkgdlbepjmgaiaa.Fea
namespace Go.Proofs.Ytkgdlbepjmgaiaa.Fea
open Go.RowKit Go.Proofs.YtkgdlbepjmgaiaaW.PrintWords Go.Proofs.YtkgdlbepjmgaiaaW.PrintLast Go.Proofs.YtkgdlbepjmgaiaaW.PrintMore
attribute [local go_sem] max2_int min2_int max_two min_two max_three min_three max_four min_four
set_option linter.unusedVariables false
set_option linter.unusedSimpArgs false
def feature_Reach.f (k : Nat) (a0_0 : ByteArray) (a0_1 : Int) (a0_2 : Int) (a0_3 : Int) (a0_4 : Int) (a0_5 : Int) (a0_6 : Int) (a0_7 : Int) (l0_8 : List (S104)) (a1 : Int) : Option (Int × Int × Int) := (feature_along.f k a0_0 a0_1 a0_2 a0_3 a0_4 a0_5 a0_6 a0_7 l0_8 a1).bind fun t121 => (if t121 = 0 then ((feature_bounded.f a0_0 a0_1 a0_2 a0_3 a0_4 a0_5 a0_6 a0_7 l0_8 a1).bind fun t122 => (if t122 = true then ((feature_reach.f a0_0 a0_1 a0_2 a0_3 a0_4 a0_5 a0_6 a0_7 l0_8 a1).bind fun bt123 => ((feature_in.f bt123.1).bind fun t126 => (if t126 = true then ((feature_in.f bt123.2).bind fun t127 => (if t127 = true then (some (bt123.1, bt123.2, 0)) else (some (0, 0, 2)))) else (some (0, 0, 2))))) else (some (0, 0, 14)))) else (some (0, 0, t121)))
theorem feature_Reach.mono : ∀ a0 a1 a2 a3 a4 a5 a6 a7 a8 a9 k, LeO (feature_Reach.f k a0 a1 a2 a3 a4 a5 a6 a7 a8 a9) (feature_Reach.f (k + 1) a0 a1 a2 a3 a4 a5 a6 a7 a8 a9) := by
 intro a0 a1 a2 a3 a4 a5 a6 a7 a8 a9 k
 unfold feature_Reach.f
 repeat' first
  | (with_reducible exact feature_along.mono _ _ _ _ _ _ _ _ _ _ _)
  | (with_reducible exact LeO.refl _)
  | (with_reducible exact LeO.none _)
  | (with_reducible refine LeO.ite ?_ ?_)
  | (with_reducible refine LeO.bind ?_ (fun _ => ?_))
  | exact feature_along.mono _ _ _ _ _ _ _ _ _ _ _
  | exact LeO.none _
  | refine LeO.ite ?_ ?_
  | refine LeO.bind ?_ (fun _ => ?_)
set_option maxHeartbeats 8000000 in
set_option maxRecDepth 100000 in
theorem feature_Reach.calls (k : Nat) (a0_0 : ByteArray) (a0_1 : Int) (a0_2 : Int) (a0_3 : Int) (a0_4 : Int) (a0_5 : Int) (a0_6 : Int) (a0_7 : Int) (A0_8 : Option Addr) (c0_8 : Nat) (l0_8 : List (S104)) (a1 : Int) (r1 : Int) (r2 : Int) (r3 : Int) (w : World) (hr0_8 : Kd.C k104 w A0_8 l0_8.length l0_8) (hc0_8 : l0_8.length ≤ c0_8) (h : feature_Reach.f k a0_0 a0_1 a0_2 a0_3 a0_4 a0_5 a0_6 a0_7 l0_8 a1 = some (r1, r2, r3)) :
 Calls Try.prog 19 #[.agg #[.string a0_0, .int .i64 a0_1, .int .i64 a0_2, .int .i64 a0_3, .int .i64 a0_4, .int .i64 a0_5, .int .i64 a0_6, .int .i64 a0_7, .slice A0_8 l0_8.length c0_8], .int .i64 a1] w fun e w' => e = .returned (.tuple #[.agg #[.int .i64 r1, .int .i64 r2], .int .i64 r3]) ∧ Below w.heap.size w w' := by
 have hu28 := Try.underlying28
 have hu25 := Try.underlying25
 have HR0_8 := zm hr0_8
 have HC0_8 := zm hc0_8
 clear hr0_8 hc0_8
 have HB := zm (Below.refl w.heap.size w)
 have H : ((feature_along.f k a0_0 a0_1 a0_2 a0_3 a0_4 a0_5 a0_6 a0_7 l0_8 a1).bind fun t121 => (if t121 = 0 then ((feature_bounded.f a0_0 a0_1 a0_2 a0_3 a0_4 a0_5 a0_6 a0_7 l0_8 a1).bind fun t122 => (if t122 = true then ((feature_reach.f a0_0 a0_1 a0_2 a0_3 a0_4 a0_5 a0_6 a0_7 l0_8 a1).bind fun bt123 => ((feature_in.f bt123.1).bind fun t126 => (if t126 = true then ((feature_in.f bt123.2).bind fun t127 => (if t127 = true then (some (bt123.1, bt123.2, 0)) else (some (0, 0, 2)))) else (some (0, 0, 2))))) else (some (0, 0, 14)))) else (some (0, 0, t121)))) = some (r1, r2, r3) := h
 clear h
 replace H := Option.bind_eq_some_iff.mp H
 obtain ⟨t121, A30, H⟩ := H
 replace H : (if t121 = 0 then ((feature_bounded.f a0_0 a0_1 a0_2 a0_3 a0_4 a0_5 a0_6 a0_7 l0_8 a1).bind fun t122 => (if t122 = true then ((feature_reach.f a0_0 a0_1 a0_2 a0_3 a0_4 a0_5 a0_6 a0_7 l0_8 a1).bind fun bt123 => ((feature_in.f bt123.1).bind fun t126 => (if t126 = true then ((feature_in.f bt123.2).bind fun t127 => (if t127 = true then (some (bt123.1, bt123.2, 0)) else (some (0, 0, 2)))) else (some (0, 0, 2))))) else (some (0, 0, 14)))) else (some (0, 0, t121))) = some (r1, r2, r3) := H
 have A3 := zm A30
 clear A30
 by_cases c4 : t121 = 0
 ·rw [if_pos c4] at H
  have c4b0 : (t121 == 0) = true := beq_iff_eq.mpr c4
  have c4b1 : (t121 != 0) = false := bne_eq_false_iff_eq.mpr c4
  clear c4
  replace H := Option.bind_eq_some_iff.mp H
  obtain ⟨t122, A50, H⟩ := H
  replace H : (if t122 = true then ((feature_reach.f a0_0 a0_1 a0_2 a0_3 a0_4 a0_5 a0_6 a0_7 l0_8 a1).bind fun bt123 => ((feature_in.f bt123.1).bind fun t126 => (if t126 = true then ((feature_in.f bt123.2).bind fun t127 => (if t127 = true then (some (bt123.1, bt123.2, 0)) else (some (0, 0, 2)))) else (some (0, 0, 2))))) else (some (0, 0, 14))) = some (r1, r2, r3) := H
  have A5 := zm A50
  clear A50
  by_cases c6 : t122 = true
  ·subst c6
   have H1 : ((feature_reach.f a0_0 a0_1 a0_2 a0_3 a0_4 a0_5 a0_6 a0_7 l0_8 a1).bind fun bt123 => ((feature_in.f bt123.1).bind fun t126 => (if t126 = true then ((feature_in.f bt123.2).bind fun t127 => (if t127 = true then (some (bt123.1, bt123.2, 0)) else (some (0, 0, 2)))) else (some (0, 0, 2))))) = some (r1, r2, r3) := by rw [if_pos rfl] at H; exact H
   clear H
   have H := H1
   clear H1
   replace H := Option.bind_eq_some_iff.mp H
   obtain ⟨⟨t123, t124⟩, A70, H⟩ := H
   replace H : ((feature_in.f t123).bind fun t126 => (if t126 = true then ((feature_in.f t124).bind fun t127 => (if t127 = true then (some (t123, t124, 0)) else (some (0, 0, 2)))) else (some (0, 0, 2)))) = some (r1, r2, r3) := H
   have A7 := zm A70
   clear A70
   replace H := Option.bind_eq_some_iff.mp H
   obtain ⟨t126, A80, H⟩ := H
   replace H : (if t126 = true then ((feature_in.f t124).bind fun t127 => (if t127 = true then (some (t123, t124, 0)) else (some (0, 0, 2)))) else (some (0, 0, 2))) = some (r1, r2, r3) := H
   have A8 := zm A80
   clear A80
   by_cases c9 : t126 = true
   ·subst c9
    have H1 : ((feature_in.f t124).bind fun t127 => (if t127 = true then (some (t123, t124, 0)) else (some (0, 0, 2)))) = some (r1, r2, r3) := by rw [if_pos rfl] at H; exact H
    clear H
    have H := H1
    clear H1
    replace H := Option.bind_eq_some_iff.mp H
    obtain ⟨t127, A100, H⟩ := H
    replace H : (if t127 = true then (some (t123, t124, 0)) else (some (0, 0, 2))) = some (r1, r2, r3) := H
    have A10 := zm A100
    clear A100
    by_cases c11 : t127 = true
    ·subst c11
     have H1 : (some (t123, t124, 0)) = some (r1, r2, r3) := by rw [if_pos rfl] at H; exact H
     clear H
     have H := H1
     clear H1
     simp only [Option.some.injEq, Prod.mk.injEq] at H
     obtain ⟨rfl, rfl, rfl⟩ := H
     go_enter Try.func19, Try.ntmps19
     go_wp2_with (first | ((with_reducible refine gate_dst (N := 2) rfl ?_); refine box_event ?hg (N := 2) ?hd (cs := #[.string a0_0, .int .i64 a0_1, .int .i64 a0_2, .int .i64 a0_3, .int .i64 a0_4, .int .i64 a0_5, .int .i64 a0_6, .int .i64 a0_7, .slice A0_8 l0_8.length c0_8]) (t := 28) ?hr ?_; (case hd => rfl); (case hg => rfl); (case hr => first | (go_simp; done) | (go_simp; rfl)); intro gb119 hg w12 hbox hb; have n0_ := zm (below_step (by repeat (first | (with_reducible first | exact HB.out | apply zA | apply zD | apply zE) | exact HB.out)) hb); have n1_ := zm (hbox); have n2_ := zm ((by rw [hg]; exact (below_size (by repeat (first | (with_reducible first | exact HB.out | apply zA | apply zD | apply zE) | exact HB.out))) : w.heap.size ≤ gb119)); have n3_ := zm ((by rw [hg]; exact (below_size (by repeat (first | (with_reducible first | exact HB.out | apply zA | apply zD | apply zE) | exact HB.out))) : w.heap.size ≤ gb119)); clear HB; have HB := n0_; have BK119 := n1_; have GW119 := n2_; have GE119 := n3_; clear n0_ n1_ n2_ n3_; clear hb hbox hg) | ((with_reducible refine gate_dst (N := 4) rfl ?_); refine box_event ?hg (N := 4) ?hd (cs := #[.int .i64 0, .int .i64 0]) (t := 25) ?hr ?_; (case hd => rfl); (case hg => rfl); (case hr => first | (go_simp; done) | (go_simp; rfl)); intro gb120 hg w13 hbox hb; have n0_ := zm (zb (g := gb119) (o := .cells #[.string a0_0, .int .i64 a0_1, .int .i64 a0_2, .int .i64 a0_3, .int .i64 a0_4, .int .i64 a0_5, .int .i64 a0_6, .int .i64 a0_7, .slice A0_8 l0_8.length c0_8] 28 (0, 0)) (by (with_reducible repeat first | apply zd | apply ze | apply za); exact BK119.out) hb); have n1_ := zm (below_step (by repeat (first | (with_reducible first | exact HB.out | apply zA | apply zD | apply zE | refine zS ?_ GE119.out) | exact HB.out)) hb); have n2_ := zm (hbox); have n3_ := zm ((by rw [hg]; exact (below_size (by repeat (first | (with_reducible first | exact HB.out | apply zA | apply zD | apply zE | refine zS ?_ GE119.out) | exact HB.out))) : w.heap.size ≤ gb120)); have n4_ := zm ((by rw [hg]; exact (below_size (by repeat (first | (with_reducible first | exact HB.out | apply zA | apply zD | apply zE | refine zS ?_ GE119.out) | exact HB.out))) : w.heap.size ≤ gb120)); have n5_ := zm ((by rw [hg]; exact Nat.ne_of_lt (blk_lt (g := gb119) (o := .cells #[.string a0_0, .int .i64 a0_1, .int .i64 a0_2, .int .i64 a0_3, .int .i64 a0_4, .int .i64 a0_5, .int .i64 a0_6, .int .i64 a0_7, .slice A0_8 l0_8.length c0_8] 28 (0, 0)) (by (with_reducible repeat first | apply zd | apply ze | apply za); exact BK119.out)) : gb119 ≠ gb120)); have n6_ := zm ((by rw [hg]; exact Nat.ne_of_gt (blk_lt (g := gb119) (o := .cells #[.string a0_0, .int .i64 a0_1, .int .i64 a0_2, .int .i64 a0_3, .int .i64 a0_4, .int .i64 a0_5, .int .i64 a0_6, .int .i64 a0_7, .slice A0_8 l0_8.length c0_8] 28 (0, 0)) (by (with_reducible repeat first | apply zd | apply ze | apply za); exact BK119.out)) : gb120 ≠ gb119)); clear BK119 HB; have BK119 := n0_; have HB := n1_; have BK120 := n2_; have GW120 := n3_; have GE120 := n4_; have NB119_120 := n5_; have NB120_119 := n6_; clear n0_ n1_ n2_ n3_ n4_ n5_ n6_; clear hb hbox hg; have hnb14 := NB119_120.out; have hnc14 := NB120_119.out; have hcz15_0 := zc BK119.out 0 (.string a0_0) rfl; have hcz15_1 := zc BK119.out 1 (.int .i64 a0_1) rfl; have hcz15_2 := zc BK119.out 2 (.int .i64 a0_2) rfl; have hcz15_3 := zc BK119.out 3 (.int .i64 a0_3) rfl; have hcz15_4 := zc BK119.out 4 (.int .i64 a0_4) rfl; have hcz15_5 := zc BK119.out 5 (.int .i64 a0_5) rfl; have hcz15_6 := zc BK119.out 6 (.int .i64 a0_6) rfl; have hcz15_7 := zc BK119.out 7 (.int .i64 a0_7) rfl; have hcz15_8 := zc BK119.out 8 (.slice A0_8 l0_8.length c0_8) rfl; have hfz15_0 := zf BK119.out 0; have hfz15_1 := zf BK119.out 1; have hfz15_2 := zf BK119.out 2; have hfz15_3 := zf BK119.out 3; have hfz15_4 := zf BK119.out 4; have hfz15_5 := zf BK119.out 5; have hfz15_6 := zf BK119.out 6; have hfz15_7 := zf BK119.out 7; have hfz15_8 := zf BK119.out 8) | ((with_reducible refine gate_callee (f := 68) rfl ?_); refine goesL_ (some 10) rfl rfl Try.func68 (by kernel_rfl) rfl #[.agg #[.string a0_0, .int .i64 a0_1, .int .i64 a0_2, .int .i64 a0_3, .int .i64 a0_4, .int .i64 a0_5, .int .i64 a0_6, .int .i64 a0_7, .slice A0_8 l0_8.length c0_8], .int .i64 a1] rfl (by (try simp only [List.map_toArray, List.map_cons, List.map_nil]); first | done | rfl | (simp only [List.length_drop, List.length_take]; rfl)) ?_; (with_reducible refine (feature_along.calls k a0_0 a0_1 a0_2 a0_3 a0_4 a0_5 a0_6 a0_7 _ _ l0_8 a1 t121 _ ?side1 ?side2 A3.out).mono ?_); (case side1 => repeat (first | exact (Kd.C_below HR0_8.out HB.out) | (with_reducible refine Kd.C_alloc ?_ _) | (with_reducible refine Kd.C_drewN ?_ _) | (with_reducible refine Kd.C_drew ?_))); (case side2 => exact HC0_8.out); rintro e w16 ⟨rfl, hb⟩; refine ⟨_, rfl, ?_⟩; have n0_ := zm (zb (g := gb119) (o := .cells #[.string a0_0, .int .i64 a0_1, .int .i64 a0_2, .int .i64 a0_3, .int .i64 a0_4, .int .i64 a0_5, .int .i64 a0_6, .int .i64 a0_7, .slice A0_8 l0_8.length c0_8] 28 (0, 0)) (by (with_reducible repeat first | apply zd | apply ze | apply za); exact BK119.out) hb); have n1_ := zm (zb (g := gb120) (o := .cells #[.int .i64 0, .int .i64 0] 25 (0, 0)) (by (with_reducible repeat first | apply zd | apply ze | apply za); exact BK120.out) hb); have n2_ := zm (below_step (by repeat (first | (with_reducible first | exact HB.out | apply zA | apply zD | apply zE | refine zS ?_ GE119.out | refine zS ?_ GE120.out) | exact HB.out)) hb); clear BK119 BK120 HB; have BK119 := n0_; have BK120 := n1_; have HB := n2_; clear n0_ n1_ n2_; (try clear hb); (try clear hb2); (try clear hk); (try clear hi); have hcz17_0 := zc BK119.out 0 (.string a0_0) rfl; have hcz17_1 := zc BK119.out 1 (.int .i64 a0_1) rfl; have hcz17_2 := zc BK119.out 2 (.int .i64 a0_2) rfl; have hcz17_3 := zc BK119.out 3 (.int .i64 a0_3) rfl; have hcz17_4 := zc BK119.out 4 (.int .i64 a0_4) rfl; have hcz17_5 := zc BK119.out 5 (.int .i64 a0_5) rfl; have hcz17_6 := zc BK119.out 6 (.int .i64 a0_6) rfl; have hcz17_7 := zc BK119.out 7 (.int .i64 a0_7) rfl; have hcz17_8 := zc BK119.out 8 (.slice A0_8 l0_8.length c0_8) rfl; have hfz17_0 := zf BK119.out 0; have hfz17_1 := zf BK119.out 1; have hfz17_2 := zf BK119.out 2; have hfz17_3 := zf BK119.out 3; have hfz17_4 := zf BK119.out 4; have hfz17_5 := zf BK119.out 5; have hfz17_6 := zf BK119.out 6; have hfz17_7 := zf BK119.out 7; have hfz17_8 := zf BK119.out 8) | ((with_reducible refine gate_callee (f := 69) rfl ?_); refine goesL_ (some 17) rfl rfl Try.func69 (by kernel_rfl) rfl #[.agg #[.string a0_0, .int .i64 a0_1, .int .i64 a0_2, .int .i64 a0_3, .int .i64 a0_4, .int .i64 a0_5, .int .i64 a0_6, .int .i64 a0_7, .slice A0_8 l0_8.length c0_8], .int .i64 a1] rfl (by (try simp only [List.map_toArray, List.map_cons, List.map_nil]); first | done | rfl | (simp only [List.length_drop, List.length_take]; rfl)) ?_; (with_reducible refine (feature_bounded.calls a0_0 a0_1 a0_2 a0_3 a0_4 a0_5 a0_6 a0_7 _ _ l0_8 a1 true _ ?side1 ?side2 A5.out).mono ?_); (case side1 => repeat (first | exact (Kd.C_below HR0_8.out HB.out) | (with_reducible refine Kd.C_alloc ?_ _) | (with_reducible refine Kd.C_drewN ?_ _) | (with_reducible refine Kd.C_drew ?_))); (case side2 => exact HC0_8.out); rintro e w18 ⟨rfl, hb⟩; refine ⟨_, rfl, ?_⟩; have n0_ := zm (zb (g := gb119) (o := .cells #[.string a0_0, .int .i64 a0_1, .int .i64 a0_2, .int .i64 a0_3, .int .i64 a0_4, .int .i64 a0_5, .int .i64 a0_6, .int .i64 a0_7, .slice A0_8 l0_8.length c0_8] 28 (0, 0)) (by (with_reducible repeat first | apply zd | apply ze | apply za); exact BK119.out) hb); have n1_ := zm (zb (g := gb120) (o := .cells #[.int .i64 0, .int .i64 0] 25 (0, 0)) (by (with_reducible repeat first | apply zd | apply ze | apply za); exact BK120.out) hb); have n2_ := zm (below_step (by repeat (first | (with_reducible first | exact HB.out | apply zA | apply zD | apply zE | refine zS ?_ GE119.out | refine zS ?_ GE120.out) | exact HB.out)) hb); clear BK119 BK120 HB; have BK119 := n0_; have BK120 := n1_; have HB := n2_; clear n0_ n1_ n2_; (try clear hb); (try clear hb2); (try clear hk); (try clear hi); have hcz19_0 := zc BK119.out 0 (.string a0_0) rfl; have hcz19_1 := zc BK119.out 1 (.int .i64 a0_1) rfl; have hcz19_2 := zc BK119.out 2 (.int .i64 a0_2) rfl; have hcz19_3 := zc BK119.out 3 (.int .i64 a0_3) rfl; have hcz19_4 := zc BK119.out 4 (.int .i64 a0_4) rfl; have hcz19_5 := zc BK119.out 5 (.int .i64 a0_5) rfl; have hcz19_6 := zc BK119.out 6 (.int .i64 a0_6) rfl; have hcz19_7 := zc BK119.out 7 (.int .i64 a0_7) rfl; have hcz19_8 := zc BK119.out 8 (.slice A0_8 l0_8.length c0_8) rfl; have hfz19_0 := zf BK119.out 0; have hfz19_1 := zf BK119.out 1; have hfz19_2 := zf BK119.out 2; have hfz19_3 := zf BK119.out 3; have hfz19_4 := zf BK119.out 4; have hfz19_5 := zf BK119.out 5; have hfz19_6 := zf BK119.out 6; have hfz19_7 := zf BK119.out 7; have hfz19_8 := zf BK119.out 8) | ((with_reducible refine gate_callee (f := 70) rfl ?_); refine goesL_ (some 22) rfl rfl Try.func70 (by kernel_rfl) rfl #[.agg #[.string a0_0, .int .i64 a0_1, .int .i64 a0_2, .int .i64 a0_3, .int .i64 a0_4, .int .i64 a0_5, .int .i64 a0_6, .int .i64 a0_7, .slice A0_8 l0_8.length c0_8], .int .i64 a1] rfl (by (try simp only [List.map_toArray, List.map_cons, List.map_nil]); first | done | rfl | (simp only [List.length_drop, List.length_take]; rfl)) ?_; (with_reducible refine (feature_reach.calls a0_0 a0_1 a0_2 a0_3 a0_4 a0_5 a0_6 a0_7 _ _ l0_8 a1 t123 t124 _ ?side1 ?side2 A7.out).mono ?_); (case side1 => repeat (first | exact (Kd.C_below HR0_8.out HB.out) | (with_reducible refine Kd.C_alloc ?_ _) | (with_reducible refine Kd.C_drewN ?_ _) | (with_reducible refine Kd.C_drew ?_))); (case side2 => exact HC0_8.out); rintro e w20 ⟨rfl, hb⟩; refine ⟨_, rfl, ?_⟩; have n0_ := zm (zb (g := gb119) (o := .cells #[.string a0_0, .int .i64 a0_1, .int .i64 a0_2, .int .i64 a0_3, .int .i64 a0_4, .int .i64 a0_5, .int .i64 a0_6, .int .i64 a0_7, .slice A0_8 l0_8.length c0_8] 28 (0, 0)) (by (with_reducible repeat first | apply zd | apply ze | apply za); exact BK119.out) hb); have n1_ := zm (zb (g := gb120) (o := .cells #[.int .i64 0, .int .i64 0] 25 (0, 0)) (by (with_reducible repeat first | apply zd | apply ze | apply za); exact BK120.out) hb); have n2_ := zm (below_step (by repeat (first | (with_reducible first | exact HB.out | apply zA | apply zD | apply zE | refine zS ?_ GE119.out | refine zS ?_ GE120.out) | exact HB.out)) hb); clear BK119 BK120 HB; have BK119 := n0_; have BK120 := n1_; have HB := n2_; clear n0_ n1_ n2_; (try clear hb); (try clear hb2); (try clear hk); (try clear hi)) | ((with_reducible refine gate_dst (N := 7) rfl ?_); refine box_event ?hg (N := 7) ?hd (cs := #[.int .i64 0, .int .i64 0]) (t := 25) ?hr ?_; (case hd => rfl); (case hg => rfl); (case hr => first | (go_simp; done) | (go_simp; rfl)); intro gb125 hg w21 hbox hb; have n0_ := zm (zb (g := gb119) (o := .cells #[.string a0_0, .int .i64 a0_1, .int .i64 a0_2, .int .i64 a0_3, .int .i64 a0_4, .int .i64 a0_5, .int .i64 a0_6, .int .i64 a0_7, .slice A0_8 l0_8.length c0_8] 28 (0, 0)) (by (with_reducible repeat first | apply zd | apply ze | apply za); exact BK119.out) hb); have n1_ := zm (zb (g := gb120) (o := .cells #[.int .i64 0, .int .i64 0] 25 (0, 0)) (by (with_reducible repeat first | apply zd | apply ze | apply za); exact BK120.out) hb); have n2_ := zm (below_step (by repeat (first | (with_reducible first | exact HB.out | apply zA | apply zD | apply zE | refine zS ?_ GE119.out | refine zS ?_ GE120.out) | exact HB.out)) hb); have n3_ := zm (hbox); have n4_ := zm ((by rw [hg]; exact (below_size (by repeat (first | (with_reducible first | exact HB.out | apply zA | apply zD | apply zE | refine zS ?_ GE119.out | refine zS ?_ GE120.out) | exact HB.out))) : w.heap.size ≤ gb125)); have n5_ := zm ((by rw [hg]; exact (below_size (by repeat (first | (with_reducible first | exact HB.out | apply zA | apply zD | apply zE | refine zS ?_ GE119.out | refine zS ?_ GE120.out) | exact HB.out))) : w.heap.size ≤ gb125)); have n6_ := zm ((by rw [hg]; exact Nat.ne_of_lt (blk_lt (g := gb119) (o := .cells #[.string a0_0, .int .i64 a0_1, .int .i64 a0_2, .int .i64 a0_3, .int .i64 a0_4, .int .i64 a0_5, .int .i64 a0_6, .int .i64 a0_7, .slice A0_8 l0_8.length c0_8] 28 (0, 0)) (by (with_reducible repeat first | apply zd | apply ze | apply za); exact BK119.out)) : gb119 ≠ gb125)); have n7_ := zm ((by rw [hg]; exact Nat.ne_of_gt (blk_lt (g := gb119) (o := .cells #[.string a0_0, .int .i64 a0_1, .int .i64 a0_2, .int .i64 a0_3, .int .i64 a0_4, .int .i64 a0_5, .int .i64 a0_6, .int .i64 a0_7, .slice A0_8 l0_8.length c0_8] 28 (0, 0)) (by (with_reducible repeat first | apply zd | apply ze | apply za); exact BK119.out)) : gb125 ≠ gb119)); have n8_ := zm ((by rw [hg]; exact Nat.ne_of_lt (blk_lt (g := gb120) (o := .cells #[.int .i64 0, .int .i64 0] 25 (0, 0)) (by (with_reducible repeat first | apply zd | apply ze | apply za); exact BK120.out)) : gb120 ≠ gb125)); have n9_ := zm ((by rw [hg]; exact Nat.ne_of_gt (blk_lt (g := gb120) (o := .cells #[.int .i64 0, .int .i64 0] 25 (0, 0)) (by (with_reducible repeat first | apply zd | apply ze | apply za); exact BK120.out)) : gb125 ≠ gb120)); clear BK119 BK120 HB; have BK119 := n0_; have BK120 := n1_; have HB := n2_; have BK125 := n3_; have GW125 := n4_; have GE125 := n5_; have NB119_125 := n6_; have NB125_119 := n7_; have NB120_125 := n8_; have NB125_120 := n9_; clear n0_ n1_ n2_ n3_ n4_ n5_ n6_ n7_ n8_ n9_; clear hb hbox hg; have hnb22 := NB125_119.out; have hnc22 := NB119_125.out; have hnb23 := NB125_120.out; have hnc23 := NB120_125.out; have hcz24_0 := zc BK125.out 0 (.int .i64 0) rfl; have hcz24_1 := zc BK125.out 1 (.int .i64 0) rfl; have hfz24_0 := zf BK125.out 0; have hfz24_1 := zf BK125.out 1) | ((with_reducible refine gate_callee (f := 71) rfl ?_); refine goesL_ (some 25) rfl rfl Try.func71 (by kernel_rfl) rfl #[.int .i64 t123] rfl (by (try simp only [List.map_toArray, List.map_cons, List.map_nil]); first | done | rfl | (simp only [List.length_drop, List.length_take]; rfl)) ?_; (with_reducible refine (feature_in.calls t123 true _ A8.out).mono ?_); rintro e w' ⟨rfl, ⟨nd, rfl⟩⟩; refine ⟨_, rfl, ?_⟩) | (go_at_call 71; (with_reducible refine (feature_in.calls t124 true _ A10.out).mono ?_); rintro e w' ⟨rfl, ⟨nd, rfl⟩⟩; have hcz25_0 := zc BK120.out 0 (.int .i64 0) rfl; have hcz25_1 := zc BK120.out 1 (.int .i64 0) rfl; have hfz25_0 := zf BK120.out 0; have hfz25_1 := zf BK120.out 1))
     refine bodyPost_ret (results_ct rfl _ _ gb120 25 #[.int .i64 t123, .int .i64 t124] (0, 0) _ rfl (by (with_reducible repeat first | apply zd | apply ze | apply za); refine blk_put (cs := #[.int .i64 t123, .int .i64 0]) ?_ 1 _ rfl; (with_reducible repeat first | apply zd | apply ze | apply za); refine blk_put (cs := #[.int .i64 0, .int .i64 0]) ?_ 0 _ rfl; (with_reducible repeat first | apply zd | apply ze | apply za); refine blk_far ?_ NB120_125.out _; (with_reducible repeat first | apply zd | apply ze | apply za); refine blk_far ?_ NB120_125.out _; (with_reducible repeat first | apply zd | apply ze | apply za); exact BK120.out) Try.underlying25 rfl (by kernel_rfl)) rfl ?_
     exact ⟨by first | rfl | (simp [errW_none, errW_some] <;> rfl) | (simp [*, errW_none, errW_some] <;> rfl), by repeat (first | (with_reducible first | exact HB.out | apply zA | apply zD | apply zE | refine zS ?_ GE119.out | refine zS ?_ GE120.out | refine zS ?_ GE125.out) | exact HB.out)⟩
    ·replace c11 := Bool.eq_false_iff.mpr c11
     subst c11
     have H1 : (some (0, 0, 2)) = some (r1, r2, r3) := by rw [if_neg (show ¬ (false = true) by decide)] at H; exact H
     clear H
     have H := H1
     clear H1
     simp only [Option.some.injEq, Prod.mk.injEq] at H
     obtain ⟨rfl, rfl, rfl⟩ := H
     go_enter Try.func19, Try.ntmps19
     go_wp2_with (first | ((with_reducible refine gate_dst (N := 2) rfl ?_); refine box_event ?hg (N := 2) ?hd (cs := #[.string a0_0, .int .i64 a0_1, .int .i64 a0_2, .int .i64 a0_3, .int .i64 a0_4, .int .i64 a0_5, .int .i64 a0_6, .int .i64 a0_7, .slice A0_8 l0_8.length c0_8]) (t := 28) ?hr ?_; (case hd => rfl); (case hg => rfl); (case hr => first | (go_simp; done) | (go_simp; rfl)); intro gb119 hg w26 hbox hb; have n0_ := zm (below_step (by repeat (first | (with_reducible first | exact HB.out | apply zA | apply zD | apply zE) | exact HB.out)) hb); have n1_ := zm (hbox); have n2_ := zm ((by rw [hg]; exact (below_size (by repeat (first | (with_reducible first | exact HB.out | apply zA | apply zD | apply zE) | exact HB.out))) : w.heap.size ≤ gb119)); have n3_ := zm ((by rw [hg]; exact (below_size (by repeat (first | (with_reducible first | exact HB.out | apply zA | apply zD | apply zE) | exact HB.out))) : w.heap.size ≤ gb119)); clear HB; have HB := n0_; have BK119 := n1_; have GW119 := n2_; have GE119 := n3_; clear n0_ n1_ n2_ n3_; clear hb hbox hg) | ((with_reducible refine gate_dst (N := 4) rfl ?_); refine box_event ?hg (N := 4) ?hd (cs := #[.int .i64 0, .int .i64 0]) (t := 25) ?hr ?_; (case hd => rfl); (case hg => rfl); (case hr => first | (go_simp; done) | (go_simp; rfl)); intro gb120 hg w27 hbox hb; have n0_ := zm (zb (g := gb119) (o := .cells #[.string a0_0, .int .i64 a0_1, .int .i64 a0_2, .int .i64 a0_3, .int .i64 a0_4, .int .i64 a0_5, .int .i64 a0_6, .int .i64 a0_7, .slice A0_8 l0_8.length c0_8] 28 (0, 0)) (by (with_reducible repeat first | apply zd | apply ze | apply za); exact BK119.out) hb); have n1_ := zm (below_step (by repeat (first | (with_reducible first | exact HB.out | apply zA | apply zD | apply zE | refine zS ?_ GE119.out) | exact HB.out)) hb); have n2_ := zm (hbox); have n3_ := zm ((by rw [hg]; exact (below_size (by repeat (first | (with_reducible first | exact HB.out | apply zA | apply zD | apply zE | refine zS ?_ GE119.out) | exact HB.out))) : w.heap.size ≤ gb120)); have n4_ := zm ((by rw [hg]; exact (below_size (by repeat (first | (with_reducible first | exact HB.out | apply zA | apply zD | apply zE | refine zS ?_ GE119.out) | exact HB.out))) : w.heap.size ≤ gb120)); have n5_ := zm ((by rw [hg]; exact Nat.ne_of_lt (blk_lt (g := gb119) (o := .cells #[.string a0_0, .int .i64 a0_1, .int .i64 a0_2, .int .i64 a0_3, .int .i64 a0_4, .int .i64 a0_5, .int .i64 a0_6, .int .i64 a0_7, .slice A0_8 l0_8.length c0_8] 28 (0, 0)) (by (with_reducible repeat first | apply zd | apply ze | apply za); exact BK119.out)) : gb119 ≠ gb120)); have n6_ := zm ((by rw [hg]; exact Nat.ne_of_gt (blk_lt (g := gb119) (o := .cells #[.string a0_0, .int .i64 a0_1, .int .i64 a0_2, .int .i64 a0_3, .int .i64 a0_4, .int .i64 a0_5, .int .i64 a0_6, .int .i64 a0_7, .slice A0_8 l0_8.length c0_8] 28 (0, 0)) (by (with_reducible repeat first | apply zd | apply ze | apply za); exact BK119.out)) : gb120 ≠ gb119)); clear BK119 HB; have BK119 := n0_; have HB := n1_; have BK120 := n2_; have GW120 := n3_; have GE120 := n4_; have NB119_120 := n5_; have NB120_119 := n6_; clear n0_ n1_ n2_ n3_ n4_ n5_ n6_; clear hb hbox hg; have hnb28 := NB119_120.out; have hnc28 := NB120_119.out; have hcz29_0 := zc BK119.out 0 (.string a0_0) rfl; have hcz29_1 := zc BK119.out 1 (.int .i64 a0_1) rfl; have hcz29_2 := zc BK119.out 2 (.int .i64 a0_2) rfl; have hcz29_3 := zc BK119.out 3 (.int .i64 a0_3) rfl; have hcz29_4 := zc BK119.out 4 (.int .i64 a0_4) rfl; have hcz29_5 := zc BK119.out 5 (.int .i64 a0_5) rfl; have hcz29_6 := zc BK119.out 6 (.int .i64 a0_6) rfl; have hcz29_7 := zc BK119.out 7 (.int .i64 a0_7) rfl; have hcz29_8 := zc BK119.out 8 (.slice A0_8 l0_8.length c0_8) rfl; have hfz29_0 := zf BK119.out 0; have hfz29_1 := zf BK119.out 1; have hfz29_2 := zf BK119.out 2; have hfz29_3 := zf BK119.out 3; have hfz29_4 := zf BK119.out 4; have hfz29_5 := zf BK119.out 5; have hfz29_6 := zf BK119.out 6; have hfz29_7 := zf BK119.out 7; have hfz29_8 := zf BK119.out 8) | ((with_reducible refine gate_callee (f := 68) rfl ?_); refine goesL_ (some 10) rfl rfl Try.func68 (by kernel_rfl) rfl #[.agg #[.string a0_0, .int .i64 a0_1, .int .i64 a0_2, .int .i64 a0_3, .int .i64 a0_4, .int .i64 a0_5, .int .i64 a0_6, .int .i64 a0_7, .slice A0_8 l0_8.length c0_8], .int .i64 a1] rfl (by (try simp only [List.map_toArray, List.map_cons, List.map_nil]); first | done | rfl | (simp only [List.length_drop, List.length_take]; rfl)) ?_; (with_reducible refine (feature_along.calls k a0_0 a0_1 a0_2 a0_3 a0_4 a0_5 a0_6 a0_7 _ _ l0_8 a1 t121 _ ?side1 ?side2 A3.out).mono ?_); (case side1 => repeat (first | exact (Kd.C_below HR0_8.out HB.out) | (with_reducible refine Kd.C_alloc ?_ _) | (with_reducible refine Kd.C_drewN ?_ _) | (with_reducible refine Kd.C_drew ?_))); (case side2 => exact HC0_8.out); rintro e w30 ⟨rfl, hb⟩; refine ⟨_, rfl, ?_⟩; have n0_ := zm (zb (g := gb119) (o := .cells #[.string a0_0, .int .i64 a0_1, .int .i64 a0_2, .int .i64 a0_3, .int .i64 a0_4, .int .i64 a0_5, .int .i64 a0_6, .int .i64 a0_7, .slice A0_8 l0_8.length c0_8] 28 (0, 0)) (by (with_reducible repeat first | apply zd | apply ze | apply za); exact BK119.out) hb); have n1_ := zm (zb (g := gb120) (o := .cells #[.int .i64 0, .int .i64 0] 25 (0, 0)) (by (with_reducible repeat first | apply zd | apply ze | apply za); exact BK120.out) hb); have n2_ := zm (below_step (by repeat (first | (with_reducible first | exact HB.out | apply zA | apply zD | apply zE | refine zS ?_ GE119.out | refine zS ?_ GE120.out) | exact HB.out)) hb); clear BK119 BK120 HB; have BK119 := n0_; have BK120 := n1_; have HB := n2_; clear n0_ n1_ n2_; (try clear hb); (try clear hb2); (try clear hk); (try clear hi); have hcz31_0 := zc BK119.out 0 (.string a0_0) rfl; have hcz31_1 := zc BK119.out 1 (.int .i64 a0_1) rfl; have hcz31_2 := zc BK119.out 2 (.int .i64 a0_2) rfl; have hcz31_3 := zc BK119.out 3 (.int .i64 a0_3) rfl; have hcz31_4 := zc BK119.out 4 (.int .i64 a0_4) rfl; have hcz31_5 := zc BK119.out 5 (.int .i64 a0_5) rfl; have hcz31_6 := zc BK119.out 6 (.int .i64 a0_6) rfl; have hcz31_7 := zc BK119.out 7 (.int .i64 a0_7) rfl; have hcz31_8 := zc BK119.out 8 (.slice A0_8 l0_8.length c0_8) rfl; have hfz31_0 := zf BK119.out 0; have hfz31_1 := zf BK119.out 1; have hfz31_2 := zf BK119.out 2; have hfz31_3 := zf BK119.out 3; have hfz31_4 := zf BK119.out 4; have hfz31_5 := zf BK119.out 5; have hfz31_6 := zf BK119.out 6; have hfz31_7 := zf BK119.out 7; have hfz31_8 := zf BK119.out 8) | ((with_reducible refine gate_callee (f := 69) rfl ?_); refine goesL_ (some 17) rfl rfl Try.func69 (by kernel_rfl) rfl #[.agg #[.string a0_0, .int .i64 a0_1, .int .i64 a0_2, .int .i64 a0_3, .int .i64 a0_4, .int .i64 a0_5, .int .i64 a0_6, .int .i64 a0_7, .slice A0_8 l0_8.length c0_8], .int .i64 a1] rfl (by (try simp only [List.map_toArray, List.map_cons, List.map_nil]); first | done | rfl | (simp only [List.length_drop, List.length_take]; rfl)) ?_; (with_reducible refine (feature_bounded.calls a0_0 a0_1 a0_2 a0_3 a0_4 a0_5 a0_6 a0_7 _ _ l0_8 a1 true _ ?side1 ?side2 A5.out).mono ?_); (case side1 => repeat (first | exact (Kd.C_below HR0_8.out HB.out) | (with_reducible refine Kd.C_alloc ?_ _) | (with_reducible refine Kd.C_drewN ?_ _) | (with_reducible refine Kd.C_drew ?_))); (case side2 => exact HC0_8.out); rintro e w32 ⟨rfl, hb⟩; refine ⟨_, rfl, ?_⟩; have n0_ := zm (zb (g := gb119) (o := .cells #[.string a0_0, .int .i64 a0_1, .int .i64 a0_2, .int .i64 a0_3, .int .i64 a0_4, .int .i64 a0_5, .int .i64 a0_6, .int .i64 a0_7, .slice A0_8 l0_8.length c0_8] 28 (0, 0)) (by (with_reducible repeat first | apply zd | apply ze | apply za); exact BK119.out) hb); have n1_ := zm (zb (g := gb120) (o := .cells #[.int .i64 0, .int .i64 0] 25 (0, 0)) (by (with_reducible repeat first | apply zd | apply ze | apply za); exact BK120.out) hb); have n2_ := zm (below_step (by repeat (first | (with_reducible first | exact HB.out | apply zA | apply zD | apply zE | refine zS ?_ GE119.out | refine zS ?_ GE120.out) | exact HB.out)) hb); clear BK119 BK120 HB; have BK119 := n0_; have BK120 := n1_; have HB := n2_; clear n0_ n1_ n2_; (try clear hb); (try clear hb2); (try clear hk); (try clear hi); have hcz33_0 := zc BK119.out 0 (.string a0_0) rfl; have hcz33_1 := zc BK119.out 1 (.int .i64 a0_1) rfl; have hcz33_2 := zc BK119.out 2 (.int .i64 a0_2) rfl; have hcz33_3 := zc BK119.out 3 (.int .i64 a0_3) rfl; have hcz33_4 := zc BK119.out 4 (.int .i64 a0_4) rfl; have hcz33_5 := zc BK119.out 5 (.int .i64 a0_5) rfl; have hcz33_6 := zc BK119.out 6 (.int .i64 a0_6) rfl; have hcz33_7 := zc BK119.out 7 (.int .i64 a0_7) rfl; have hcz33_8 := zc BK119.out 8 (.slice A0_8 l0_8.length c0_8) rfl; have hfz33_0 := zf BK119.out 0; have hfz33_1 := zf BK119.out 1; have hfz33_2 := zf BK119.out 2; have hfz33_3 := zf BK119.out 3; have hfz33_4 := zf BK119.out 4; have hfz33_5 := zf BK119.out 5; have hfz33_6 := zf BK119.out 6; have hfz33_7 := zf BK119.out 7; have hfz33_8 := zf BK119.out 8) | ((with_reducible refine gate_callee (f := 70) rfl ?_); refine goesL_ (some 22) rfl rfl Try.func70 (by kernel_rfl) rfl #[.agg #[.string a0_0, .int .i64 a0_1, .int .i64 a0_2, .int .i64 a0_3, .int .i64 a0_4, .int .i64 a0_5, .int .i64 a0_6, .int .i64 a0_7, .slice A0_8 l0_8.length c0_8], .int .i64 a1] rfl (by (try simp only [List.map_toArray, List.map_cons, List.map_nil]); first | done | rfl | (simp only [List.length_drop, List.length_take]; rfl)) ?_; (with_reducible refine (feature_reach.calls a0_0 a0_1 a0_2 a0_3 a0_4 a0_5 a0_6 a0_7 _ _ l0_8 a1 t123 t124 _ ?side1 ?side2 A7.out).mono ?_); (case side1 => repeat (first | exact (Kd.C_below HR0_8.out HB.out) | (with_reducible refine Kd.C_alloc ?_ _) | (with_reducible refine Kd.C_drewN ?_ _) | (with_reducible refine Kd.C_drew ?_))); (case side2 => exact HC0_8.out); rintro e w34 ⟨rfl, hb⟩; refine ⟨_, rfl, ?_⟩; have n0_ := zm (zb (g := gb119) (o := .cells #[.string a0_0, .int .i64 a0_1, .int .i64 a0_2, .int .i64 a0_3, .int .i64 a0_4, .int .i64 a0_5, .int .i64 a0_6, .int .i64 a0_7, .slice A0_8 l0_8.length c0_8] 28 (0, 0)) (by (with_reducible repeat first | apply zd | apply ze | apply za); exact BK119.out) hb); have n1_ := zm (zb (g := gb120) (o := .cells #[.int .i64 0, .int .i64 0] 25 (0, 0)) (by (with_reducible repeat first | apply zd | apply ze | apply za); exact BK120.out) hb); have n2_ := zm (below_step (by repeat (first | (with_reducible first | exact HB.out | apply zA | apply zD | apply zE | refine zS ?_ GE119.out | refine zS ?_ GE120.out) | exact HB.out)) hb); clear BK119 BK120 HB; have BK119 := n0_; have BK120 := n1_; have HB := n2_; clear n0_ n1_ n2_; (try clear hb); (try clear hb2); (try clear hk); (try clear hi)) | ((with_reducible refine gate_dst (N := 7) rfl ?_); refine box_event ?hg (N := 7) ?hd (cs := #[.int .i64 0, .int .i64 0]) (t := 25) ?hr ?_; (case hd => rfl); (case hg => rfl); (case hr => first | (go_simp; done) | (go_simp; rfl)); intro gb125 hg w35 hbox hb; have n0_ := zm (zb (g := gb119) (o := .cells #[.string a0_0, .int .i64 a0_1, .int .i64 a0_2, .int .i64 a0_3, .int .i64 a0_4, .int .i64 a0_5, .int .i64 a0_6, .int .i64 a0_7, .slice A0_8 l0_8.length c0_8] 28 (0, 0)) (by (with_reducible repeat first | apply zd | apply ze | apply za); exact BK119.out) hb); have n1_ := zm (zb (g := gb120) (o := .cells #[.int .i64 0, .int .i64 0] 25 (0, 0)) (by (with_reducible repeat first | apply zd | apply ze | apply za); exact BK120.out) hb); have n2_ := zm (below_step (by repeat (first | (with_reducible first | exact HB.out | apply zA | apply zD | apply zE | refine zS ?_ GE119.out | refine zS ?_ GE120.out) | exact HB.out)) hb); have n3_ := zm (hbox); have n4_ := zm ((by rw [hg]; exact (below_size (by repeat (first | (with_reducible first | exact HB.out | apply zA | apply zD | apply zE | refine zS ?_ GE119.out | refine zS ?_ GE120.out) | exact HB.out))) : w.heap.size ≤ gb125)); have n5_ := zm ((by rw [hg]; exact (below_size (by repeat (first | (with_reducible first | exact HB.out | apply zA | apply zD | apply zE | refine zS ?_ GE119.out | refine zS ?_ GE120.out) | exact HB.out))) : w.heap.size ≤ gb125)); have n6_ := zm ((by rw [hg]; exact Nat.ne_of_lt (blk_lt (g := gb119) (o := .cells #[.string a0_0, .int .i64 a0_1, .int .i64 a0_2, .int .i64 a0_3, .int .i64 a0_4, .int .i64 a0_5, .int .i64 a0_6, .int .i64 a0_7, .slice A0_8 l0_8.length c0_8] 28 (0, 0)) (by (with_reducible repeat first | apply zd | apply ze | apply za); exact BK119.out)) : gb119 ≠ gb125)); have n7_ := zm ((by rw [hg]; exact Nat.ne_of_gt (blk_lt (g := gb119) (o := .cells #[.string a0_0, .int .i64 a0_1, .int .i64 a0_2, .int .i64 a0_3, .int .i64 a0_4, .int .i64 a0_5, .int .i64 a0_6, .int .i64 a0_7, .slice A0_8 l0_8.length c0_8] 28 (0, 0)) (by (with_reducible repeat first | apply zd | apply ze | apply za); exact BK119.out)) : gb125 ≠ gb119)); have n8_ := zm ((by rw [hg]; exact Nat.ne_of_lt (blk_lt (g := gb120) (o := .cells #[.int .i64 0, .int .i64 0] 25 (0, 0)) (by (with_reducible repeat first | apply zd | apply ze | apply za); exact BK120.out)) : gb120 ≠ gb125)); have n9_ := zm ((by rw [hg]; exact Nat.ne_of_gt (blk_lt (g := gb120) (o := .cells #[.int .i64 0, .int .i64 0] 25 (0, 0)) (by (with_reducible repeat first | apply zd | apply ze | apply za); exact BK120.out)) : gb125 ≠ gb120)); clear BK119 BK120 HB; have BK119 := n0_; have BK120 := n1_; have HB := n2_; have BK125 := n3_; have GW125 := n4_; have GE125 := n5_; have NB119_125 := n6_; have NB125_119 := n7_; have NB120_125 := n8_; have NB125_120 := n9_; clear n0_ n1_ n2_ n3_ n4_ n5_ n6_ n7_ n8_ n9_; clear hb hbox hg; have hnb36 := NB125_119.out; have hnc36 := NB119_125.out; have hnb37 := NB125_120.out; have hnc37 := NB120_125.out; have hcz38_0 := zc BK125.out 0 (.int .i64 0) rfl; have hcz38_1 := zc BK125.out 1 (.int .i64 0) rfl; have hfz38_0 := zf BK125.out 0; have hfz38_1 := zf BK125.out 1) | ((with_reducible refine gate_callee (f := 71) rfl ?_); refine goesL_ (some 25) rfl rfl Try.func71 (by kernel_rfl) rfl #[.int .i64 t123] rfl (by (try simp only [List.map_toArray, List.map_cons, List.map_nil]); first | done | rfl | (simp only [List.length_drop, List.length_take]; rfl)) ?_; (with_reducible refine (feature_in.calls t123 true _ A8.out).mono ?_); rintro e w' ⟨rfl, ⟨nd, rfl⟩⟩; refine ⟨_, rfl, ?_⟩) | (go_at_call 71; (with_reducible refine (feature_in.calls t124 false _ A10.out).mono ?_); rintro e w' ⟨rfl, ⟨nd, rfl⟩⟩; have hcz39_0 := zc BK120.out 0 (.int .i64 0) rfl; have hcz39_1 := zc BK120.out 1 (.int .i64 0) rfl; have hfz39_0 := zf BK120.out 0; have hfz39_1 := zf BK120.out 1))
     refine bodyPost_ret (results_ct rfl _ _ gb120 25 #[.int .i64 0, .int .i64 0] (0, 0) _ rfl (by (with_reducible repeat first | apply zd | apply ze | apply za); refine blk_put (cs := #[.int .i64 0, .int .i64 0]) ?_ 1 _ rfl; (with_reducible repeat first | apply zd | apply ze | apply za); refine blk_put (cs := #[.int .i64 0, .int .i64 0]) ?_ 0 _ rfl; (with_reducible repeat first | apply zd | apply ze | apply za); refine blk_far ?_ NB120_125.out _; (with_reducible repeat first | apply zd | apply ze | apply za); refine blk_far ?_ NB120_125.out _; (with_reducible repeat first | apply zd | apply ze | apply za); exact BK120.out) Try.underlying25 rfl (by kernel_rfl)) rfl ?_
     exact ⟨by first | rfl | (simp [errW_none, errW_some] <;> rfl) | (simp [*, errW_none, errW_some] <;> rfl), by repeat (first | (with_reducible first | exact HB.out | apply zA | apply zD | apply zE | refine zS ?_ GE119.out | refine zS ?_ GE120.out | refine zS ?_ GE125.out) | exact HB.out)⟩
   ·replace c9 := Bool.eq_false_iff.mpr c9
    subst c9
    have H1 : (some (0, 0, 2)) = some (r1, r2, r3) := by rw [if_neg (show ¬ (false = true) by decide)] at H; exact H
    clear H
    have H := H1
    clear H1
    simp only [Option.some.injEq, Prod.mk.injEq] at H
    obtain ⟨rfl, rfl, rfl⟩ := H
    go_enter Try.func19, Try.ntmps19
    go_wp2_with (first | ((with_reducible refine gate_dst (N := 2) rfl ?_); refine box_event ?hg (N := 2) ?hd (cs := #[.string a0_0, .int .i64 a0_1, .int .i64 a0_2, .int .i64 a0_3, .int .i64 a0_4, .int .i64 a0_5, .int .i64 a0_6, .int .i64 a0_7, .slice A0_8 l0_8.length c0_8]) (t := 28) ?hr ?_; (case hd => rfl); (case hg => rfl); (case hr => first | (go_simp; done) | (go_simp; rfl)); intro gb119 hg w40 hbox hb; have n0_ := zm (below_step (by repeat (first | (with_reducible first | exact HB.out | apply zA | apply zD | apply zE) | exact HB.out)) hb); have n1_ := zm (hbox); have n2_ := zm ((by rw [hg]; exact (below_size (by repeat (first | (with_reducible first | exact HB.out | apply zA | apply zD | apply zE) | exact HB.out))) : w.heap.size ≤ gb119)); have n3_ := zm ((by rw [hg]; exact (below_size (by repeat (first | (with_reducible first | exact HB.out | apply zA | apply zD | apply zE) | exact HB.out))) : w.heap.size ≤ gb119)); clear HB; have HB := n0_; have BK119 := n1_; have GW119 := n2_; have GE119 := n3_; clear n0_ n1_ n2_ n3_; clear hb hbox hg) | ((with_reducible refine gate_dst (N := 4) rfl ?_); refine box_event ?hg (N := 4) ?hd (cs := #[.int .i64 0, .int .i64 0]) (t := 25) ?hr ?_; (case hd => rfl); (case hg => rfl); (case hr => first | (go_simp; done) | (go_simp; rfl)); intro gb120 hg w41 hbox hb; have n0_ := zm (zb (g := gb119) (o := .cells #[.string a0_0, .int .i64 a0_1, .int .i64 a0_2, .int .i64 a0_3, .int .i64 a0_4, .int .i64 a0_5, .int .i64 a0_6, .int .i64 a0_7, .slice A0_8 l0_8.length c0_8] 28 (0, 0)) (by (with_reducible repeat first | apply zd | apply ze | apply za); exact BK119.out) hb); have n1_ := zm (below_step (by repeat (first | (with_reducible first | exact HB.out | apply zA | apply zD | apply zE | refine zS ?_ GE119.out) | exact HB.out)) hb); have n2_ := zm (hbox); have n3_ := zm ((by rw [hg]; exact (below_size (by repeat (first | (with_reducible first | exact HB.out | apply zA | apply zD | apply zE | refine zS ?_ GE119.out) | exact HB.out))) : w.heap.size ≤ gb120)); have n4_ := zm ((by rw [hg]; exact (below_size (by repeat (first | (with_reducible first | exact HB.out | apply zA | apply zD | apply zE | refine zS ?_ GE119.out) | exact HB.out))) : w.heap.size ≤ gb120)); have n5_ := zm ((by rw [hg]; exact Nat.ne_of_lt (blk_lt (g := gb119) (o := .cells #[.string a0_0, .int .i64 a0_1, .int .i64 a0_2, .int .i64 a0_3, .int .i64 a0_4, .int .i64 a0_5, .int .i64 a0_6, .int .i64 a0_7, .slice A0_8 l0_8.length c0_8] 28 (0, 0)) (by (with_reducible repeat first | apply zd | apply ze | apply za); exact BK119.out)) : gb119 ≠ gb120)); have n6_ := zm ((by rw [hg]; exact Nat.ne_of_gt (blk_lt (g := gb119) (o := .cells #[.string a0_0, .int .i64 a0_1, .int .i64 a0_2, .int .i64 a0_3, .int .i64 a0_4, .int .i64 a0_5, .int .i64 a0_6, .int .i64 a0_7, .slice A0_8 l0_8.length c0_8] 28 (0, 0)) (by (with_reducible repeat first | apply zd | apply ze | apply za); exact BK119.out)) : gb120 ≠ gb119)); clear BK119 HB; have BK119 := n0_; have HB := n1_; have BK120 := n2_; have GW120 := n3_; have GE120 := n4_; have NB119_120 := n5_; have NB120_119 := n6_; clear n0_ n1_ n2_ n3_ n4_ n5_ n6_; clear hb hbox hg; have hnb42 := NB119_120.out; have hnc42 := NB120_119.out; have hcz43_0 := zc BK119.out 0 (.string a0_0) rfl; have hcz43_1 := zc BK119.out 1 (.int .i64 a0_1) rfl; have hcz43_2 := zc BK119.out 2 (.int .i64 a0_2) rfl; have hcz43_3 := zc BK119.out 3 (.int .i64 a0_3) rfl; have hcz43_4 := zc BK119.out 4 (.int .i64 a0_4) rfl; have hcz43_5 := zc BK119.out 5 (.int .i64 a0_5) rfl; have hcz43_6 := zc BK119.out 6 (.int .i64 a0_6) rfl; have hcz43_7 := zc BK119.out 7 (.int .i64 a0_7) rfl; have hcz43_8 := zc BK119.out 8 (.slice A0_8 l0_8.length c0_8) rfl; have hfz43_0 := zf BK119.out 0; have hfz43_1 := zf BK119.out 1; have hfz43_2 := zf BK119.out 2; have hfz43_3 := zf BK119.out 3; have hfz43_4 := zf BK119.out 4; have hfz43_5 := zf BK119.out 5; have hfz43_6 := zf BK119.out 6; have hfz43_7 := zf BK119.out 7; have hfz43_8 := zf BK119.out 8) | ((with_reducible refine gate_callee (f := 68) rfl ?_); refine goesL_ (some 10) rfl rfl Try.func68 (by kernel_rfl) rfl #[.agg #[.string a0_0, .int .i64 a0_1, .int .i64 a0_2, .int .i64 a0_3, .int .i64 a0_4, .int .i64 a0_5, .int .i64 a0_6, .int .i64 a0_7, .slice A0_8 l0_8.length c0_8], .int .i64 a1] rfl (by (try simp only [List.map_toArray, List.map_cons, List.map_nil]); first | done | rfl | (simp only [List.length_drop, List.length_take]; rfl)) ?_; (with_reducible refine (feature_along.calls k a0_0 a0_1 a0_2 a0_3 a0_4 a0_5 a0_6 a0_7 _ _ l0_8 a1 t121 _ ?side1 ?side2 A3.out).mono ?_); (case side1 => repeat (first | exact (Kd.C_below HR0_8.out HB.out) | (with_reducible refine Kd.C_alloc ?_ _) | (with_reducible refine Kd.C_drewN ?_ _) | (with_reducible refine Kd.C_drew ?_))); (case side2 => exact HC0_8.out); rintro e w44 ⟨rfl, hb⟩; refine ⟨_, rfl, ?_⟩; have n0_ := zm (zb (g := gb119) (o := .cells #[.string a0_0, .int .i64 a0_1, .int .i64 a0_2, .int .i64 a0_3, .int .i64 a0_4, .int .i64 a0_5, .int .i64 a0_6, .int .i64 a0_7, .slice A0_8 l0_8.length c0_8] 28 (0, 0)) (by (with_reducible repeat first | apply zd | apply ze | apply za); exact BK119.out) hb); have n1_ := zm (zb (g := gb120) (o := .cells #[.int .i64 0, .int .i64 0] 25 (0, 0)) (by (with_reducible repeat first | apply zd | apply ze | apply za); exact BK120.out) hb); have n2_ := zm (below_step (by repeat (first | (with_reducible first | exact HB.out | apply zA | apply zD | apply zE | refine zS ?_ GE119.out | refine zS ?_ GE120.out) | exact HB.out)) hb); clear BK119 BK120 HB; have BK119 := n0_; have BK120 := n1_; have HB := n2_; clear n0_ n1_ n2_; (try clear hb); (try clear hb2); (try clear hk); (try clear hi); have hcz45_0 := zc BK119.out 0 (.string a0_0) rfl; have hcz45_1 := zc BK119.out 1 (.int .i64 a0_1) rfl; have hcz45_2 := zc BK119.out 2 (.int .i64 a0_2) rfl; have hcz45_3 := zc BK119.out 3 (.int .i64 a0_3) rfl; have hcz45_4 := zc BK119.out 4 (.int .i64 a0_4) rfl; have hcz45_5 := zc BK119.out 5 (.int .i64 a0_5) rfl; have hcz45_6 := zc BK119.out 6 (.int .i64 a0_6) rfl; have hcz45_7 := zc BK119.out 7 (.int .i64 a0_7) rfl; have hcz45_8 := zc BK119.out 8 (.slice A0_8 l0_8.length c0_8) rfl; have hfz45_0 := zf BK119.out 0; have hfz45_1 := zf BK119.out 1; have hfz45_2 := zf BK119.out 2; have hfz45_3 := zf BK119.out 3; have hfz45_4 := zf BK119.out 4; have hfz45_5 := zf BK119.out 5; have hfz45_6 := zf BK119.out 6; have hfz45_7 := zf BK119.out 7; have hfz45_8 := zf BK119.out 8) | ((with_reducible refine gate_callee (f := 69) rfl ?_); refine goesL_ (some 17) rfl rfl Try.func69 (by kernel_rfl) rfl #[.agg #[.string a0_0, .int .i64 a0_1, .int .i64 a0_2, .int .i64 a0_3, .int .i64 a0_4, .int .i64 a0_5, .int .i64 a0_6, .int .i64 a0_7, .slice A0_8 l0_8.length c0_8], .int .i64 a1] rfl (by (try simp only [List.map_toArray, List.map_cons, List.map_nil]); first | done | rfl | (simp only [List.length_drop, List.length_take]; rfl)) ?_; (with_reducible refine (feature_bounded.calls a0_0 a0_1 a0_2 a0_3 a0_4 a0_5 a0_6 a0_7 _ _ l0_8 a1 true _ ?side1 ?side2 A5.out).mono ?_); (case side1 => repeat (first | exact (Kd.C_below HR0_8.out HB.out) | (with_reducible refine Kd.C_alloc ?_ _) | (with_reducible refine Kd.C_drewN ?_ _) | (with_reducible refine Kd.C_drew ?_))); (case side2 => exact HC0_8.out); rintro e w46 ⟨rfl, hb⟩; refine ⟨_, rfl, ?_⟩; have n0_ := zm (zb (g := gb119) (o := .cells #[.string a0_0, .int .i64 a0_1, .int .i64 a0_2, .int .i64 a0_3, .int .i64 a0_4, .int .i64 a0_5, .int .i64 a0_6, .int .i64 a0_7, .slice A0_8 l0_8.length c0_8] 28 (0, 0)) (by (with_reducible repeat first | apply zd | apply ze | apply za); exact BK119.out) hb); have n1_ := zm (zb (g := gb120) (o := .cells #[.int .i64 0, .int .i64 0] 25 (0, 0)) (by (with_reducible repeat first | apply zd | apply ze | apply za); exact BK120.out) hb); have n2_ := zm (below_step (by repeat (first | (with_reducible first | exact HB.out | apply zA | apply zD | apply zE | refine zS ?_ GE119.out | refine zS ?_ GE120.out) | exact HB.out)) hb); clear BK119 BK120 HB; have BK119 := n0_; have BK120 := n1_; have HB := n2_; clear n0_ n1_ n2_; (try clear hb); (try clear hb2); (try clear hk); (try clear hi); have hcz47_0 := zc BK119.out 0 (.string a0_0) rfl; have hcz47_1 := zc BK119.out 1 (.int .i64 a0_1) rfl; have hcz47_2 := zc BK119.out 2 (.int .i64 a0_2) rfl; have hcz47_3 := zc BK119.out 3 (.int .i64 a0_3) rfl; have hcz47_4 := zc BK119.out 4 (.int .i64 a0_4) rfl; have hcz47_5 := zc BK119.out 5 (.int .i64 a0_5) rfl; have hcz47_6 := zc BK119.out 6 (.int .i64 a0_6) rfl; have hcz47_7 := zc BK119.out 7 (.int .i64 a0_7) rfl; have hcz47_8 := zc BK119.out 8 (.slice A0_8 l0_8.length c0_8) rfl; have hfz47_0 := zf BK119.out 0; have hfz47_1 := zf BK119.out 1; have hfz47_2 := zf BK119.out 2; have hfz47_3 := zf BK119.out 3; have hfz47_4 := zf BK119.out 4; have hfz47_5 := zf BK119.out 5; have hfz47_6 := zf BK119.out 6; have hfz47_7 := zf BK119.out 7; have hfz47_8 := zf BK119.out 8) | ((with_reducible refine gate_callee (f := 70) rfl ?_); refine goesL_ (some 22) rfl rfl Try.func70 (by kernel_rfl) rfl #[.agg #[.string a0_0, .int .i64 a0_1, .int .i64 a0_2, .int .i64 a0_3, .int .i64 a0_4, .int .i64 a0_5, .int .i64 a0_6, .int .i64 a0_7, .slice A0_8 l0_8.length c0_8], .int .i64 a1] rfl (by (try simp only [List.map_toArray, List.map_cons, List.map_nil]); first | done | rfl | (simp only [List.length_drop, List.length_take]; rfl)) ?_; (with_reducible refine (feature_reach.calls a0_0 a0_1 a0_2 a0_3 a0_4 a0_5 a0_6 a0_7 _ _ l0_8 a1 t123 t124 _ ?side1 ?side2 A7.out).mono ?_); (case side1 => repeat (first | exact (Kd.C_below HR0_8.out HB.out) | (with_reducible refine Kd.C_alloc ?_ _) | (with_reducible refine Kd.C_drewN ?_ _) | (with_reducible refine Kd.C_drew ?_))); (case side2 => exact HC0_8.out); rintro e w48 ⟨rfl, hb⟩; refine ⟨_, rfl, ?_⟩; have n0_ := zm (zb (g := gb119) (o := .cells #[.string a0_0, .int .i64 a0_1, .int .i64 a0_2, .int .i64 a0_3, .int .i64 a0_4, .int .i64 a0_5, .int .i64 a0_6, .int .i64 a0_7, .slice A0_8 l0_8.length c0_8] 28 (0, 0)) (by (with_reducible repeat first | apply zd | apply ze | apply za); exact BK119.out) hb); have n1_ := zm (zb (g := gb120) (o := .cells #[.int .i64 0, .int .i64 0] 25 (0, 0)) (by (with_reducible repeat first | apply zd | apply ze | apply za); exact BK120.out) hb); have n2_ := zm (below_step (by repeat (first | (with_reducible first | exact HB.out | apply zA | apply zD | apply zE | refine zS ?_ GE119.out | refine zS ?_ GE120.out) | exact HB.out)) hb); clear BK119 BK120 HB; have BK119 := n0_; have BK120 := n1_; have HB := n2_; clear n0_ n1_ n2_; (try clear hb); (try clear hb2); (try clear hk); (try clear hi)) | ((with_reducible refine gate_dst (N := 7) rfl ?_); refine box_event ?hg (N := 7) ?hd (cs := #[.int .i64 0, .int .i64 0]) (t := 25) ?hr ?_; (case hd => rfl); (case hg => rfl); (case hr => first | (go_simp; done) | (go_simp; rfl)); intro gb125 hg w49 hbox hb; have n0_ := zm (zb (g := gb119) (o := .cells #[.string a0_0, .int .i64 a0_1, .int .i64 a0_2, .int .i64 a0_3, .int .i64 a0_4, .int .i64 a0_5, .int .i64 a0_6, .int .i64 a0_7, .slice A0_8 l0_8.length c0_8] 28 (0, 0)) (by (with_reducible repeat first | apply zd | apply ze | apply za); exact BK119.out) hb); have n1_ := zm (zb (g := gb120) (o := .cells #[.int .i64 0, .int .i64 0] 25 (0, 0)) (by (with_reducible repeat first | apply zd | apply ze | apply za); exact BK120.out) hb); have n2_ := zm (below_step (by repeat (first | (with_reducible first | exact HB.out | apply zA | apply zD | apply zE | refine zS ?_ GE119.out | refine zS ?_ GE120.out) | exact HB.out)) hb); have n3_ := zm (hbox); have n4_ := zm ((by rw [hg]; exact (below_size (by repeat (first | (with_reducible first | exact HB.out | apply zA | apply zD | apply zE | refine zS ?_ GE119.out | refine zS ?_ GE120.out) | exact HB.out))) : w.heap.size ≤ gb125)); have n5_ := zm ((by rw [hg]; exact (below_size (by repeat (first | (with_reducible first | exact HB.out | apply zA | apply zD | apply zE | refine zS ?_ GE119.out | refine zS ?_ GE120.out) | exact HB.out))) : w.heap.size ≤ gb125)); have n6_ := zm ((by rw [hg]; exact Nat.ne_of_lt (blk_lt (g := gb119) (o := .cells #[.string a0_0, .int .i64 a0_1, .int .i64 a0_2, .int .i64 a0_3, .int .i64 a0_4, .int .i64 a0_5, .int .i64 a0_6, .int .i64 a0_7, .slice A0_8 l0_8.length c0_8] 28 (0, 0)) (by (with_reducible repeat first | apply zd | apply ze | apply za); exact BK119.out)) : gb119 ≠ gb125)); have n7_ := zm ((by rw [hg]; exact Nat.ne_of_gt (blk_lt (g := gb119) (o := .cells #[.string a0_0, .int .i64 a0_1, .int .i64 a0_2, .int .i64 a0_3, .int .i64 a0_4, .int .i64 a0_5, .int .i64 a0_6, .int .i64 a0_7, .slice A0_8 l0_8.length c0_8] 28 (0, 0)) (by (with_reducible repeat first | apply zd | apply ze | apply za); exact BK119.out)) : gb125 ≠ gb119)); have n8_ := zm ((by rw [hg]; exact Nat.ne_of_lt (blk_lt (g := gb120) (o := .cells #[.int .i64 0, .int .i64 0] 25 (0, 0)) (by (with_reducible repeat first | apply zd | apply ze | apply za); exact BK120.out)) : gb120 ≠ gb125)); have n9_ := zm ((by rw [hg]; exact Nat.ne_of_gt (blk_lt (g := gb120) (o := .cells #[.int .i64 0, .int .i64 0] 25 (0, 0)) (by (with_reducible repeat first | apply zd | apply ze | apply za); exact BK120.out)) : gb125 ≠ gb120)); clear BK119 BK120 HB; have BK119 := n0_; have BK120 := n1_; have HB := n2_; have BK125 := n3_; have GW125 := n4_; have GE125 := n5_; have NB119_125 := n6_; have NB125_119 := n7_; have NB120_125 := n8_; have NB125_120 := n9_; clear n0_ n1_ n2_ n3_ n4_ n5_ n6_ n7_ n8_ n9_; clear hb hbox hg; have hnb50 := NB125_119.out; have hnc50 := NB119_125.out; have hnb51 := NB125_120.out; have hnc51 := NB120_125.out; have hcz52_0 := zc BK125.out 0 (.int .i64 0) rfl; have hcz52_1 := zc BK125.out 1 (.int .i64 0) rfl; have hfz52_0 := zf BK125.out 0; have hfz52_1 := zf BK125.out 1) | ((with_reducible refine gate_callee (f := 71) rfl ?_); refine goesL_ (some 25) rfl rfl Try.func71 (by kernel_rfl) rfl #[.int .i64 t123] rfl (by (try simp only [List.map_toArray, List.map_cons, List.map_nil]); first | done | rfl | (simp only [List.length_drop, List.length_take]; rfl)) ?_; (with_reducible refine (feature_in.calls t123 false _ A8.out).mono ?_); rintro e w' ⟨rfl, ⟨nd, rfl⟩⟩; refine ⟨_, rfl, ?_⟩; have hcz53_0 := zc BK120.out 0 (.int .i64 0) rfl; have hcz53_1 := zc BK120.out 1 (.int .i64 0) rfl; have hfz53_0 := zf BK120.out 0; have hfz53_1 := zf BK120.out 1))
    refine bodyPost_ret (results_ct rfl _ _ gb120 25 #[.int .i64 0, .int .i64 0] (0, 0) _ rfl (by (with_reducible repeat first | apply zd | apply ze | apply za); refine blk_put (cs := #[.int .i64 0, .int .i64 0]) ?_ 1 _ rfl; (with_reducible repeat first | apply zd | apply ze | apply za); refine blk_put (cs := #[.int .i64 0, .int .i64 0]) ?_ 0 _ rfl; (with_reducible repeat first | apply zd | apply ze | apply za); refine blk_far ?_ NB120_125.out _; (with_reducible repeat first | apply zd | apply ze | apply za); refine blk_far ?_ NB120_125.out _; (with_reducible repeat first | apply zd | apply ze | apply za); exact BK120.out) Try.underlying25 rfl (by kernel_rfl)) rfl ?_
    exact ⟨by first | rfl | (simp [errW_none, errW_some] <;> rfl) | (simp [*, errW_none, errW_some] <;> rfl), by repeat (first | (with_reducible first | exact HB.out | apply zA | apply zD | apply zE | refine zS ?_ GE119.out | refine zS ?_ GE120.out | refine zS ?_ GE125.out) | exact HB.out)⟩
  ·replace c6 := Bool.eq_false_iff.mpr c6
   subst c6
   have H1 : (some (0, 0, 14)) = some (r1, r2, r3) := by rw [if_neg (show ¬ (false = true) by decide)] at H; exact H
   clear H
   have H := H1
   clear H1
   simp only [Option.some.injEq, Prod.mk.injEq] at H
   obtain ⟨rfl, rfl, rfl⟩ := H
   go_enter Try.func19, Try.ntmps19
   go_wp2_with (first | ((with_reducible refine gate_dst (N := 2) rfl ?_); refine box_event ?hg (N := 2) ?hd (cs := #[.string a0_0, .int .i64 a0_1, .int .i64 a0_2, .int .i64 a0_3, .int .i64 a0_4, .int .i64 a0_5, .int .i64 a0_6, .int .i64 a0_7, .slice A0_8 l0_8.length c0_8]) (t := 28) ?hr ?_; (case hd => rfl); (case hg => rfl); (case hr => first | (go_simp; done) | (go_simp; rfl)); intro gb119 hg w54 hbox hb; have n0_ := zm (below_step (by repeat (first | (with_reducible first | exact HB.out | apply zA | apply zD | apply zE) | exact HB.out)) hb); have n1_ := zm (hbox); have n2_ := zm ((by rw [hg]; exact (below_size (by repeat (first | (with_reducible first | exact HB.out | apply zA | apply zD | apply zE) | exact HB.out))) : w.heap.size ≤ gb119)); have n3_ := zm ((by rw [hg]; exact (below_size (by repeat (first | (with_reducible first | exact HB.out | apply zA | apply zD | apply zE) | exact HB.out))) : w.heap.size ≤ gb119)); clear HB; have HB := n0_; have BK119 := n1_; have GW119 := n2_; have GE119 := n3_; clear n0_ n1_ n2_ n3_; clear hb hbox hg) | ((with_reducible refine gate_dst (N := 4) rfl ?_); refine box_event ?hg (N := 4) ?hd (cs := #[.int .i64 0, .int .i64 0]) (t := 25) ?hr ?_; (case hd => rfl); (case hg => rfl); (case hr => first | (go_simp; done) | (go_simp; rfl)); intro gb120 hg w55 hbox hb; have n0_ := zm (zb (g := gb119) (o := .cells #[.string a0_0, .int .i64 a0_1, .int .i64 a0_2, .int .i64 a0_3, .int .i64 a0_4, .int .i64 a0_5, .int .i64 a0_6, .int .i64 a0_7, .slice A0_8 l0_8.length c0_8] 28 (0, 0)) (by (with_reducible repeat first | apply zd | apply ze | apply za); exact BK119.out) hb); have n1_ := zm (below_step (by repeat (first | (with_reducible first | exact HB.out | apply zA | apply zD | apply zE | refine zS ?_ GE119.out) | exact HB.out)) hb); have n2_ := zm (hbox); have n3_ := zm ((by rw [hg]; exact (below_size (by repeat (first | (with_reducible first | exact HB.out | apply zA | apply zD | apply zE | refine zS ?_ GE119.out) | exact HB.out))) : w.heap.size ≤ gb120)); have n4_ := zm ((by rw [hg]; exact (below_size (by repeat (first | (with_reducible first | exact HB.out | apply zA | apply zD | apply zE | refine zS ?_ GE119.out) | exact HB.out))) : w.heap.size ≤ gb120)); have n5_ := zm ((by rw [hg]; exact Nat.ne_of_lt (blk_lt (g := gb119) (o := .cells #[.string a0_0, .int .i64 a0_1, .int .i64 a0_2, .int .i64 a0_3, .int .i64 a0_4, .int .i64 a0_5, .int .i64 a0_6, .int .i64 a0_7, .slice A0_8 l0_8.length c0_8] 28 (0, 0)) (by (with_reducible repeat first | apply zd | apply ze | apply za); exact BK119.out)) : gb119 ≠ gb120)); have n6_ := zm ((by rw [hg]; exact Nat.ne_of_gt (blk_lt (g := gb119) (o := .cells #[.string a0_0, .int .i64 a0_1, .int .i64 a0_2, .int .i64 a0_3, .int .i64 a0_4, .int .i64 a0_5, .int .i64 a0_6, .int .i64 a0_7, .slice A0_8 l0_8.length c0_8] 28 (0, 0)) (by (with_reducible repeat first | apply zd | apply ze | apply za); exact BK119.out)) : gb120 ≠ gb119)); clear BK119 HB; have BK119 := n0_; have HB := n1_; have BK120 := n2_; have GW120 := n3_; have GE120 := n4_; have NB119_120 := n5_; have NB120_119 := n6_; clear n0_ n1_ n2_ n3_ n4_ n5_ n6_; clear hb hbox hg; have hnb56 := NB119_120.out; have hnc56 := NB120_119.out; have hcz57_0 := zc BK119.out 0 (.string a0_0) rfl; have hcz57_1 := zc BK119.out 1 (.int .i64 a0_1) rfl; have hcz57_2 := zc BK119.out 2 (.int .i64 a0_2) rfl; have hcz57_3 := zc BK119.out 3 (.int .i64 a0_3) rfl; have hcz57_4 := zc BK119.out 4 (.int .i64 a0_4) rfl; have hcz57_5 := zc BK119.out 5 (.int .i64 a0_5) rfl; have hcz57_6 := zc BK119.out 6 (.int .i64 a0_6) rfl; have hcz57_7 := zc BK119.out 7 (.int .i64 a0_7) rfl; have hcz57_8 := zc BK119.out 8 (.slice A0_8 l0_8.length c0_8) rfl; have hfz57_0 := zf BK119.out 0; have hfz57_1 := zf BK119.out 1; have hfz57_2 := zf BK119.out 2; have hfz57_3 := zf BK119.out 3; have hfz57_4 := zf BK119.out 4; have hfz57_5 := zf BK119.out 5; have hfz57_6 := zf BK119.out 6; have hfz57_7 := zf BK119.out 7; have hfz57_8 := zf BK119.out 8) | ((with_reducible refine gate_callee (f := 68) rfl ?_); refine goesL_ (some 10) rfl rfl Try.func68 (by kernel_rfl) rfl #[.agg #[.string a0_0, .int .i64 a0_1, .int .i64 a0_2, .int .i64 a0_3, .int .i64 a0_4, .int .i64 a0_5, .int .i64 a0_6, .int .i64 a0_7, .slice A0_8 l0_8.length c0_8], .int .i64 a1] rfl (by (try simp only [List.map_toArray, List.map_cons, List.map_nil]); first | done | rfl | (simp only [List.length_drop, List.length_take]; rfl)) ?_; (with_reducible refine (feature_along.calls k a0_0 a0_1 a0_2 a0_3 a0_4 a0_5 a0_6 a0_7 _ _ l0_8 a1 t121 _ ?side1 ?side2 A3.out).mono ?_); (case side1 => repeat (first | exact (Kd.C_below HR0_8.out HB.out) | (with_reducible refine Kd.C_alloc ?_ _) | (with_reducible refine Kd.C_drewN ?_ _) | (with_reducible refine Kd.C_drew ?_))); (case side2 => exact HC0_8.out); rintro e w58 ⟨rfl, hb⟩; refine ⟨_, rfl, ?_⟩; have n0_ := zm (zb (g := gb119) (o := .cells #[.string a0_0, .int .i64 a0_1, .int .i64 a0_2, .int .i64 a0_3, .int .i64 a0_4, .int .i64 a0_5, .int .i64 a0_6, .int .i64 a0_7, .slice A0_8 l0_8.length c0_8] 28 (0, 0)) (by (with_reducible repeat first | apply zd | apply ze | apply za); exact BK119.out) hb); have n1_ := zm (zb (g := gb120) (o := .cells #[.int .i64 0, .int .i64 0] 25 (0, 0)) (by (with_reducible repeat first | apply zd | apply ze | apply za); exact BK120.out) hb); have n2_ := zm (below_step (by repeat (first | (with_reducible first | exact HB.out | apply zA | apply zD | apply zE | refine zS ?_ GE119.out | refine zS ?_ GE120.out) | exact HB.out)) hb); clear BK119 BK120 HB; have BK119 := n0_; have BK120 := n1_; have HB := n2_; clear n0_ n1_ n2_; (try clear hb); (try clear hb2); (try clear hk); (try clear hi); have hcz59_0 := zc BK119.out 0 (.string a0_0) rfl; have hcz59_1 := zc BK119.out 1 (.int .i64 a0_1) rfl; have hcz59_2 := zc BK119.out 2 (.int .i64 a0_2) rfl; have hcz59_3 := zc BK119.out 3 (.int .i64 a0_3) rfl; have hcz59_4 := zc BK119.out 4 (.int .i64 a0_4) rfl; have hcz59_5 := zc BK119.out 5 (.int .i64 a0_5) rfl; have hcz59_6 := zc BK119.out 6 (.int .i64 a0_6) rfl; have hcz59_7 := zc BK119.out 7 (.int .i64 a0_7) rfl; have hcz59_8 := zc BK119.out 8 (.slice A0_8 l0_8.length c0_8) rfl; have hfz59_0 := zf BK119.out 0; have hfz59_1 := zf BK119.out 1; have hfz59_2 := zf BK119.out 2; have hfz59_3 := zf BK119.out 3; have hfz59_4 := zf BK119.out 4; have hfz59_5 := zf BK119.out 5; have hfz59_6 := zf BK119.out 6; have hfz59_7 := zf BK119.out 7; have hfz59_8 := zf BK119.out 8) | ((with_reducible refine gate_callee (f := 69) rfl ?_); refine goesL_ (some 17) rfl rfl Try.func69 (by kernel_rfl) rfl #[.agg #[.string a0_0, .int .i64 a0_1, .int .i64 a0_2, .int .i64 a0_3, .int .i64 a0_4, .int .i64 a0_5, .int .i64 a0_6, .int .i64 a0_7, .slice A0_8 l0_8.length c0_8], .int .i64 a1] rfl (by (try simp only [List.map_toArray, List.map_cons, List.map_nil]); first | done | rfl | (simp only [List.length_drop, List.length_take]; rfl)) ?_; (with_reducible refine (feature_bounded.calls a0_0 a0_1 a0_2 a0_3 a0_4 a0_5 a0_6 a0_7 _ _ l0_8 a1 false _ ?side1 ?side2 A5.out).mono ?_); (case side1 => repeat (first | exact (Kd.C_below HR0_8.out HB.out) | (with_reducible refine Kd.C_alloc ?_ _) | (with_reducible refine Kd.C_drewN ?_ _) | (with_reducible refine Kd.C_drew ?_))); (case side2 => exact HC0_8.out); rintro e w60 ⟨rfl, hb⟩; refine ⟨_, rfl, ?_⟩; have n0_ := zm (zb (g := gb119) (o := .cells #[.string a0_0, .int .i64 a0_1, .int .i64 a0_2, .int .i64 a0_3, .int .i64 a0_4, .int .i64 a0_5, .int .i64 a0_6, .int .i64 a0_7, .slice A0_8 l0_8.length c0_8] 28 (0, 0)) (by (with_reducible repeat first | apply zd | apply ze | apply za); exact BK119.out) hb); have n1_ := zm (zb (g := gb120) (o := .cells #[.int .i64 0, .int .i64 0] 25 (0, 0)) (by (with_reducible repeat first | apply zd | apply ze | apply za); exact BK120.out) hb); have n2_ := zm (below_step (by repeat (first | (with_reducible first | exact HB.out | apply zA | apply zD | apply zE | refine zS ?_ GE119.out | refine zS ?_ GE120.out) | exact HB.out)) hb); clear BK119 BK120 HB; have BK119 := n0_; have BK120 := n1_; have HB := n2_; clear n0_ n1_ n2_; (try clear hb); (try clear hb2); (try clear hk); (try clear hi); have hcz61_0 := zc BK120.out 0 (.int .i64 0) rfl; have hcz61_1 := zc BK120.out 1 (.int .i64 0) rfl; have hfz61_0 := zf BK120.out 0; have hfz61_1 := zf BK120.out 1))
   refine bodyPost_ret (results_ct rfl _ _ gb120 25 #[.int .i64 0, .int .i64 0] (0, 0) _ rfl (by (with_reducible repeat first | apply zd | apply ze | apply za); refine blk_put (cs := #[.int .i64 0, .int .i64 0]) ?_ 1 _ rfl; (with_reducible repeat first | apply zd | apply ze | apply za); refine blk_put (cs := #[.int .i64 0, .int .i64 0]) ?_ 0 _ rfl; (with_reducible repeat first | apply zd | apply ze | apply za); exact BK120.out) Try.underlying25 rfl (by kernel_rfl)) rfl ?_
   exact ⟨by first | rfl | (simp [errW_none, errW_some] <;> rfl) | (simp [*, errW_none, errW_some] <;> rfl), by repeat (first | (with_reducible first | exact HB.out | apply zA | apply zD | apply zE | refine zS ?_ GE119.out | refine zS ?_ GE120.out) | exact HB.out)⟩
 ·rw [if_neg c4] at H
  have c4b0 : (t121 == 0) = false := beq_eq_false_iff_ne.mpr c4
  have c4b1 : (t121 != 0) = true := bne_iff_ne.mpr c4
  simp only [Option.some.injEq, Prod.mk.injEq] at H
  obtain ⟨rfl, rfl, rfl⟩ := H
  go_enter Try.func19, Try.ntmps19
  go_wp2_with (first | ((with_reducible refine gate_dst (N := 2) rfl ?_); refine box_event ?hg (N := 2) ?hd (cs := #[.string a0_0, .int .i64 a0_1, .int .i64 a0_2, .int .i64 a0_3, .int .i64 a0_4, .int .i64 a0_5, .int .i64 a0_6, .int .i64 a0_7, .slice A0_8 l0_8.length c0_8]) (t := 28) ?hr ?_; (case hd => rfl); (case hg => rfl); (case hr => first | (go_simp; done) | (go_simp; rfl)); intro gb119 hg w62 hbox hb; have n0_ := zm (below_step (by repeat (first | (with_reducible first | exact HB.out | apply zA | apply zD | apply zE) | exact HB.out)) hb); have n1_ := zm (hbox); have n2_ := zm ((by rw [hg]; exact (below_size (by repeat (first | (with_reducible first | exact HB.out | apply zA | apply zD | apply zE) | exact HB.out))) : w.heap.size ≤ gb119)); have n3_ := zm ((by rw [hg]; exact (below_size (by repeat (first | (with_reducible first | exact HB.out | apply zA | apply zD | apply zE) | exact HB.out))) : w.heap.size ≤ gb119)); clear HB; have HB := n0_; have BK119 := n1_; have GW119 := n2_; have GE119 := n3_; clear n0_ n1_ n2_ n3_; clear hb hbox hg) | ((with_reducible refine gate_dst (N := 4) rfl ?_); refine box_event ?hg (N := 4) ?hd (cs := #[.int .i64 0, .int .i64 0]) (t := 25) ?hr ?_; (case hd => rfl); (case hg => rfl); (case hr => first | (go_simp; done) | (go_simp; rfl)); intro gb120 hg w63 hbox hb; have n0_ := zm (zb (g := gb119) (o := .cells #[.string a0_0, .int .i64 a0_1, .int .i64 a0_2, .int .i64 a0_3, .int .i64 a0_4, .int .i64 a0_5, .int .i64 a0_6, .int .i64 a0_7, .slice A0_8 l0_8.length c0_8] 28 (0, 0)) (by (with_reducible repeat first | apply zd | apply ze | apply za); exact BK119.out) hb); have n1_ := zm (below_step (by repeat (first | (with_reducible first | exact HB.out | apply zA | apply zD | apply zE | refine zS ?_ GE119.out) | exact HB.out)) hb); have n2_ := zm (hbox); have n3_ := zm ((by rw [hg]; exact (below_size (by repeat (first | (with_reducible first | exact HB.out | apply zA | apply zD | apply zE | refine zS ?_ GE119.out) | exact HB.out))) : w.heap.size ≤ gb120)); have n4_ := zm ((by rw [hg]; exact (below_size (by repeat (first | (with_reducible first | exact HB.out | apply zA | apply zD | apply zE | refine zS ?_ GE119.out) | exact HB.out))) : w.heap.size ≤ gb120)); have n5_ := zm ((by rw [hg]; exact Nat.ne_of_lt (blk_lt (g := gb119) (o := .cells #[.string a0_0, .int .i64 a0_1, .int .i64 a0_2, .int .i64 a0_3, .int .i64 a0_4, .int .i64 a0_5, .int .i64 a0_6, .int .i64 a0_7, .slice A0_8 l0_8.length c0_8] 28 (0, 0)) (by (with_reducible repeat first | apply zd | apply ze | apply za); exact BK119.out)) : gb119 ≠ gb120)); have n6_ := zm ((by rw [hg]; exact Nat.ne_of_gt (blk_lt (g := gb119) (o := .cells #[.string a0_0, .int .i64 a0_1, .int .i64 a0_2, .int .i64 a0_3, .int .i64 a0_4, .int .i64 a0_5, .int .i64 a0_6, .int .i64 a0_7, .slice A0_8 l0_8.length c0_8] 28 (0, 0)) (by (with_reducible repeat first | apply zd | apply ze | apply za); exact BK119.out)) : gb120 ≠ gb119)); clear BK119 HB; have BK119 := n0_; have HB := n1_; have BK120 := n2_; have GW120 := n3_; have GE120 := n4_; have NB119_120 := n5_; have NB120_119 := n6_; clear n0_ n1_ n2_ n3_ n4_ n5_ n6_; clear hb hbox hg; have hnb64 := NB119_120.out; have hnc64 := NB120_119.out; have hcz65_0 := zc BK119.out 0 (.string a0_0) rfl; have hcz65_1 := zc BK119.out 1 (.int .i64 a0_1) rfl; have hcz65_2 := zc BK119.out 2 (.int .i64 a0_2) rfl; have hcz65_3 := zc BK119.out 3 (.int .i64 a0_3) rfl; have hcz65_4 := zc BK119.out 4 (.int .i64 a0_4) rfl; have hcz65_5 := zc BK119.out 5 (.int .i64 a0_5) rfl; have hcz65_6 := zc BK119.out 6 (.int .i64 a0_6) rfl; have hcz65_7 := zc BK119.out 7 (.int .i64 a0_7) rfl; have hcz65_8 := zc BK119.out 8 (.slice A0_8 l0_8.length c0_8) rfl; have hfz65_0 := zf BK119.out 0; have hfz65_1 := zf BK119.out 1; have hfz65_2 := zf BK119.out 2; have hfz65_3 := zf BK119.out 3; have hfz65_4 := zf BK119.out 4; have hfz65_5 := zf BK119.out 5; have hfz65_6 := zf BK119.out 6; have hfz65_7 := zf BK119.out 7; have hfz65_8 := zf BK119.out 8) | ((with_reducible refine gate_callee (f := 68) rfl ?_); refine goesL_ (some 10) rfl rfl Try.func68 (by kernel_rfl) rfl #[.agg #[.string a0_0, .int .i64 a0_1, .int .i64 a0_2, .int .i64 a0_3, .int .i64 a0_4, .int .i64 a0_5, .int .i64 a0_6, .int .i64 a0_7, .slice A0_8 l0_8.length c0_8], .int .i64 a1] rfl (by (try simp only [List.map_toArray, List.map_cons, List.map_nil]); first | done | rfl | (simp only [List.length_drop, List.length_take]; rfl)) ?_; (with_reducible refine (feature_along.calls k a0_0 a0_1 a0_2 a0_3 a0_4 a0_5 a0_6 a0_7 _ _ l0_8 a1 t121 _ ?side1 ?side2 A3.out).mono ?_); (case side1 => repeat (first | exact (Kd.C_below HR0_8.out HB.out) | (with_reducible refine Kd.C_alloc ?_ _) | (with_reducible refine Kd.C_drewN ?_ _) | (with_reducible refine Kd.C_drew ?_))); (case side2 => exact HC0_8.out); rintro e w66 ⟨rfl, hb⟩; refine ⟨_, rfl, ?_⟩; have n0_ := zm (zb (g := gb119) (o := .cells #[.string a0_0, .int .i64 a0_1, .int .i64 a0_2, .int .i64 a0_3, .int .i64 a0_4, .int .i64 a0_5, .int .i64 a0_6, .int .i64 a0_7, .slice A0_8 l0_8.length c0_8] 28 (0, 0)) (by (with_reducible repeat first | apply zd | apply ze | apply za); exact BK119.out) hb); have n1_ := zm (zb (g := gb120) (o := .cells #[.int .i64 0, .int .i64 0] 25 (0, 0)) (by (with_reducible repeat first | apply zd | apply ze | apply za); exact BK120.out) hb); have n2_ := zm (below_step (by repeat (first | (with_reducible first | exact HB.out | apply zA | apply zD | apply zE | refine zS ?_ GE119.out | refine zS ?_ GE120.out) | exact HB.out)) hb); clear BK119 BK120 HB; have BK119 := n0_; have BK120 := n1_; have HB := n2_; clear n0_ n1_ n2_; (try clear hb); (try clear hb2); (try clear hk); (try clear hi); have hcz67_0 := zc BK120.out 0 (.int .i64 0) rfl; have hcz67_1 := zc BK120.out 1 (.int .i64 0) rfl; have hfz67_0 := zf BK120.out 0; have hfz67_1 := zf BK120.out 1))
  refine bodyPost_ret (results_ct rfl _ _ gb120 25 #[.int .i64 0, .int .i64 0] (0, 0) _ rfl (by (with_reducible repeat first | apply zd | apply ze | apply za); refine blk_put (cs := #[.int .i64 0, .int .i64 0]) ?_ 1 _ rfl; (with_reducible repeat first | apply zd | apply ze | apply za); refine blk_put (cs := #[.int .i64 0, .int .i64 0]) ?_ 0 _ rfl; (with_reducible repeat first | apply zd | apply ze | apply za); exact BK120.out) Try.underlying25 rfl (by kernel_rfl)) rfl ?_
  exact ⟨by first | rfl | (simp [errW_none, errW_some] <;> rfl) | (simp [*, errW_none, errW_some] <;> rfl), by repeat (first | (with_reducible first | exact HB.out | apply zA | apply zD | apply zE | refine zS ?_ GE119.out | refine zS ?_ GE120.out) | exact HB.out)⟩
end Go.Proofs.Ytkgdlbepjmgaiaa.Fea
