/- Part 3 of the texts behind the last one of this claim. -/
import Derived.Maps.AppendAt
import Derived.Shelf.Slices.CompactS
import Derived.Shelf.Slices.Cells
import Derived.Test.YtkgdlbepjmgaiaaProg
import Derived.Test.YtkgdlbepjmgaiaaZJudges2
set_option linter.unusedVariables false
set_option linter.unusedSimpArgs false
namespace Go.Proofs.Ytkgdlbepjmgaiaa.Cal
open Go.RowKit Go.Proofs.YtkgdlbepjmgaiaaW.PrintWords Go.Proofs.YtkgdlbepjmgaiaaW.PrintLast Go.Proofs.YtkgdlbepjmgaiaaW.PrintMore
attribute [local go_sem] Oper.semAt_some
def CJ (s : Nat) (w : World) (R : Loop) (pre : List Int) (W : World) : Prop :=
  s + 8 ≤ W.heap.size ∧ W.heap[s]? = some (.cells #[.slice none 0 0] 63 (0, 0)) ∧ W.heap[s + 1]? = some (.cells #[.int .i64 0] 31 (0, 0)) ∧
    W.heap[s + 6]? = some (.deferred (some [])) ∧ W.heap[s + 7]? = some (.loop R) ∧ Below s w W ∧ ∃ v, Boxed W (s + 2) 63 v ∧ W.ownsRow (s + 9) 3 1 v pre.length (pre.map (Value.int .i64))
def CX (s : Nat) (w : World) (R : Loop) (er : Int) (W : World) : Prop :=
  s + 8 ≤ W.heap.size ∧ W.heap[s]? = some (.cells #[.slice none 0 0] 63 (0, 0)) ∧ W.heap[s + 1]? = some (.cells #[.int .i64 er] 31 (0, 0)) ∧
    W.heap[s + 6]? = some (.deferred (some [])) ∧ W.heap[s + 7]? = some (.loop R) ∧ Below s w W
theorem CJ_move {s : Nat} {w : World} {R : Loop} {pre : List Int} {W W' : World} (h : CJ s w R pre W) (hsz : W.heap.size ≤ W'.heap.size) (hB : Below s W W')
    (hm : ∀ k, k < W.heap.size → k ≠ s + 4 → k ≠ s + 5 → k ≠ s + 8 → W'.heap[k]? = W.heap[k]?) : CJ s w R pre W' := by
  obtain ⟨h0, h6, h7, hD, hL, hb, v, hv, hr⟩ := h
  have lt : ∀ {k : Nat} {o : Obj}, W.heap[k]? = some o → k < W.heap.size := fun h => (Array.getElem?_eq_some_iff.1 h).1
  refine ⟨Nat.le_trans h0 hsz, (hm _ (lt h6) (by omega) (by omega) (by omega)).trans h6, (hm _ (lt h7) (by omega) (by omega) (by omega)).trans h7, (hm _ (lt hD) (by omega) (by omega) (by omega)).trans hD,
    (hm _ (lt hL) (by omega) (by omega) (by omega)).trans hL, hb.trans hB, v, (hm _ (lt hv) (by omega) (by omega) (by omega)).trans hv, own_move hr (fun k hk => ?_)⟩
  have h1 := own_base hr k hk
  have h2 := own_lt hr k hk
  exact hm k h2 (by omega) (by omega) (by omega)
theorem appended9 {W w1 : World} {N9 B : Nat} {v v' : Value} {k m : Nat} {xs ys : List Value} {tmp : Obj} (hv : Boxed W B 63 v) (hrow : W.ownsRow N9 3 1 v k xs) (hN : N9 ≤ W.heap.size) (hB : B < N9)
    (hown' : w1.ownsRow N9 3 1 v' m ys) (hgrow : (W.alloc tmp).grownBy w1 v.ownBlock) :
    Boxed w1 B 63 v ∧ Boxed (w1.setCell ⟨B, 0, none⟩ v') B 63 v' ∧ (w1.setCell ⟨B, 0, none⟩ v').ownsRow N9 3 1 v' m ys ∧ W.heap.size ≤ (w1.setCell ⟨B, 0, none⟩ v').heap.size ∧
      (∀ j, j < N9 → j ≠ B → (w1.setCell ⟨B, 0, none⟩ v').heap[j]? = W.heap[j]?) ∧ ∀ s, s ≤ B → Below s W (w1.setCell ⟨B, 0, none⟩ v') := by
  have hj : ∀ j, j < N9 → w1.heap[j]? = W.heap[j]? := fun j hj => by
    rw [hgrow.block j (by simp; omega) (fun e => by have := own_base hrow j e.symm; omega)]
    exact Below.heap_alloc W tmp j (by omega)
  have hv1 : Boxed w1 B 63 v := (hj B hB).trans hv
  have hsz : W.heap.size ≤ (w1.setCell ⟨B, 0, none⟩ v').heap.size := by have := hgrow.size; simp at this ⊢; omega
  have hfar : ∀ j, j < N9 → j ≠ B → (w1.setCell ⟨B, 0, none⟩ v').heap[j]? = W.heap[j]? := fun j h1 h2 => (Below.heap_setCell w1 _ _ _ h2).trans (hj j h1)
  refine ⟨hv1, hv1.set v', own_move hown' (fun k hk => Below.heap_setCell w1 _ _ _ (by have := own_base hown' k hk; show k ≠ B; omega)), hsz, hfar, fun s hs => ⟨hgrow.os, hgrow.tape, hgrow.output, hsz, fun k hk => hfar k (by omega) (by omega)⟩⟩
theorem below_putObj (s : Nat) (W : World) (l : Nat) (o : Obj) (h : s ≤ l) : Below s W (W.putObj l o) :=
  ⟨rfl, rfl, rfl, by simp, fun k hk => World.putObj_heap_other (by omega)⟩
theorem chain_in (n : Nat) (A0 : Option Addr) (c0 len : Nat) (nm : ByteArray) (on : Int) (w : World) :
    CallsIn Fence.wide n Try.prog 122 #[.slice A0 len c0, .string nm, .int .i64 on] w fun e w' => e = .returned (.func (.func 129) #[] #[.pointer (some ⟨w.heap.size, 0, none⟩), .pointer (some ⟨w.heap.size + 1, 0, none⟩), .pointer (some ⟨w.heap.size + 1 + 1, 0, none⟩)]) ∧
      w' = ((w.alloc (.cells #[.slice A0 len c0] 49)).alloc (.cells #[.string nm] 9)).alloc (.cells #[.int .i64 on] 3) := by
  refine callsIn_of_wp Try.func122 rfl trivial ?_ rfl
  simp only [Try.ntmps122, List.size_toArray, List.length_cons, List.length_nil, Nat.reduceAdd, Nat.reduceSub, Array.replicate_succ, Array.replicate_zero, List.push_toArray, List.append_toArray, List.nil_append, List.cons_append]
  gi_wp2
  go_ret
  exact ⟨rfl, rfl⟩
theorem eg129 : ∀ args w, (callFunc 129 args).run Try.prog w = .ok (.enter 129 args) w := enters_of Try.func129 (by kernel_rfl) rfl
theorem at_new (w : World) (o : Obj) (k : Nat) (h : k = w.heap.size) : (w.alloc o).heap[k]? = some o := by subst h; exact World.alloc_heap_new w o
theorem at_old (w : World) (o : Obj) (k : Nat) (h : k < w.heap.size) : (w.alloc o).heap[k]? = w.heap[k]? := Below.heap_alloc w o k h
theorem six (w : World) (o0 o1 o2 o3 o4 o5 : Obj) (s : Nat) (hs : w.heap.size = s) :
    ((((((w.alloc o0).alloc o1).alloc o2).alloc o3).alloc o4).alloc o5).heap[s]? = some o0 ∧ ((((((w.alloc o0).alloc o1).alloc o2).alloc o3).alloc o4).alloc o5).heap[s + 1]? = some o1 ∧
    ((((((w.alloc o0).alloc o1).alloc o2).alloc o3).alloc o4).alloc o5).heap[s + 2]? = some o2 ∧ ((((((w.alloc o0).alloc o1).alloc o2).alloc o3).alloc o4).alloc o5).heap[s + 3]? = some o3 ∧
    ((((((w.alloc o0).alloc o1).alloc o2).alloc o3).alloc o4).alloc o5).heap[s + 4]? = some o4 ∧ ((((((w.alloc o0).alloc o1).alloc o2).alloc o3).alloc o4).alloc o5).heap[s + 5]? = some o5 := by
  subst hs
  refine ⟨?_, ?_, ?_, ?_, ?_, ?_⟩
  · rw [at_old _ _ _ (by simp <;> omega), at_old _ _ _ (by simp <;> omega), at_old _ _ _ (by simp <;> omega), at_old _ _ _ (by simp <;> omega), at_old _ _ _ (by simp), at_new _ _ _ (by simp)]
  · rw [at_old _ _ _ (by simp <;> omega), at_old _ _ _ (by simp <;> omega), at_old _ _ _ (by simp <;> omega), at_old _ _ _ (by simp), at_new _ _ _ (by simp)]
  · rw [at_old _ _ _ (by simp), at_old _ _ _ (by simp), at_old _ _ _ (by simp), at_new _ _ _ (by simp)]
  · rw [at_old _ _ _ (by simp), at_old _ _ _ (by simp), at_new _ _ _ (by simp)]
  · rw [at_old _ _ _ (by simp), at_new _ _ _ (by simp)]
  · rw [at_new _ _ _ (by simp)]
theorem rf_law {n : Nat} {P : Program} {g : Operand} {ps : Array Tmp} {assign body : Code} {Q : Exit → Act → World → Prop} {a : Act} {w : World} {gf : Nat} {lb : Array Value}
    (hg : a.eval g = .func (.func gf) #[] lb) (eg : ∀ args w, (callFunc gf args).run P w = .ok (.enter gf args) w)
    (h : ∀ R : Loop, R.state = .ready → R.pending = none → R.tmps = a.tmps → R.params = ps → R.assign = assign → R.body = body → CallsIn Fence.wide (n - 1) P gf (#[.func (.yield (w.heap.size + 1)) #[] #[]] ++ lb)
      ((w.alloc (.deferred (some []))).alloc (.loop R))
      (rangePost Fence.wide n P (w.heap.size + 1) Q { a with defers := { target := .collected w.heap.size, args := #[] } :: a.defers })) :
    (Code.rangeFunc g ps assign body).wpIn Fence.wide n P Q a w := by
  refine wpIn_rangeFunc ?_
  intro fn hfn
  obtain ⟨W1, hW1⟩ : ∃ W1, ((w.alloc (.deferred (some []))).alloc (.loop { state := .ready, pending := none, fn, tmps := a.tmps, params := ps, assign, body, defers := w.heap.size })) = W1 := ⟨_, rfl⟩
  refine ⟨w.heap.size + 1, [{ target := .collected w.heap.size, args := #[] }], W1, { target := .fn (.func gf) lb, args := #[.func (.yield (w.heap.size + 1)) #[] #[]] }, W1, gf,
    #[.func (.yield (w.heap.size + 1)) #[] #[]] ++ lb, W1, ?_, ?_, ?_, ?_, ?_, ?_⟩
  · rw [← hW1]; exact run_enterLoop_outer _ _ _ _ _
  · simp only [resolve, hg]
    simp [go_sem]
  · intro f' _; trivial
  · simp [invoke, go_sem, eg]
  · intro hd; cases hd
  · rw [← hW1]; exact h _ rfl rfl rfl rfl rfl rfl
def RP (l : Nat) (r : Loop) (R : Ending → World → Prop) : Exit → Act → World → Prop
  | .normal, _, w' => w'.heap[l]? = some (.loop { r with state := .busy }) ∧ R (.returned (.bool true)) (w'.putObj l (.loop { r with state := .ready, pending := none }))
  | .ret, _, w' => w'.heap[l]? = some (.loop { r with state := .busy }) ∧ R (.returned (.bool false)) (w'.putObj l (.loop { r with state := .done, pending := some .ret }))
  | _, _, _ => False
theorem rf_round {n : Nat} {P : Program} {l : Nat} {r : Loop} {args : Array Value} {W : World} {R : Ending → World → Prop} (hl : W.heap[l]? = some (.loop r)) (hr : r.state = .ready) (hs : args.size = r.params.size)
    (h : ∀ Wb, W.putObj l (.loop { r with state := .busy }) = Wb → r.assign.wpIn (Fence.wide.inRound l) n P (Exit.then (fun a₁ w₁ => w₁ = W ∧ r.body.wpIn (Fence.wide.inRound l) n P (RP l r R) a₁ Wb) (fun _ _ _ => False))
      { tmps := (r.params.zip args).foldl (fun t (p, v) => t.setIfInBounds p v) r.tmps, defers := [] } W) : YieldAt Fence.wide n P l args W R := by
  refine ⟨_, _, _, _, run_yield hl hs, roundIn_of_wpIn trivial (wpIn_mono (h _ rfl) ?_)⟩
  rintro e a1 w1 hp
  cases e with
  | normal =>
    obtain ⟨rfl, hb⟩ := hp
    refine ⟨_, run_beginRound hl hr, wpIn_mono hb ?_⟩
    rintro e a3 w3 hq
    cases e with
    | normal =>
      obtain ⟨h1, h2⟩ := hq
      exact ⟨_, _, run_endRound none h1, h2⟩
    | ret =>
      obtain ⟨h1, h2⟩ := hq
      exact ⟨_, _, run_endRound (some .ret) h1, h2⟩
    | exit id => exact hq.elim
    | goto t => exact hq.elim
    | panic ch => exact hq.elim
    | outgrown => exact hq.elim
  | ret => exact hp.elim
  | exit id => exact hp.elim
  | goto t => exact hp.elim
  | panic ch => exact hp.elim
  | outgrown => exact hp.elim
set_option maxHeartbeats 4000000 in
set_option maxRecDepth 100000 in
theorem collected_calls (A0 : Option Addr) (c0 : Nat) (l : List S68) (nm : ByteArray) (on : Int) (r1 : List Int) (r2 : Int) (w : World) (hr0 : Kd.C k68 w A0 l.length l) (hc0 : l.length ≤ c0) (h : collF l nm on = some (r1, r2)) :
    Calls Try.prog 90 #[.slice A0 l.length c0, .string nm, .int .i64 on] w fun e w' => ∃ v0_ : Value, e = .returned (.tuple #[v0_, .int .i64 r2]) ∧ Kd.R (Kd.int .i64) 3 w' w.heap.size (fun _ => True) v0_ r1 ∧ Below w.heap.size w w' := by
  unfold collF at h
  split at h
  case isFalse => cases h
  rename_i hl
  refine (callsIn_wide (n := 5)).1 ?_
  refine callsIn_of_wp_marks Try.func90 rfl trivial ?_ rfl
  simp only [Try.ntmps90, List.size_toArray, List.length_cons, List.length_nil, Nat.reduceAdd, Nat.reduceSub, Array.replicate_succ, Array.replicate_zero, List.push_toArray, List.append_toArray, List.nil_append, List.cons_append]
  have HG := Aside0.mk h
  have HC := Aside0.mk hr0
  clear h hr0
  gi_wp2_with fail
  refine ⟨trivial, ?_⟩
  refine (chain_in _ _ _ _ _ _ _).mono ?_
  rintro e w' ⟨rfl, rfl⟩
  obtain ⟨s, hs⟩ : ∃ s, w.heap.size = s := ⟨_, rfl⟩
  obtain ⟨W0, hW0⟩ : ∃ W0, (((((w.alloc (.cells #[.slice none 0 0] 63)).alloc (.cells #[.int .i64 0] 31)).alloc (.cells #[.slice none 0 0] 63)).alloc (.cells #[.slice A0 l.length c0] 49)).alloc (.cells #[.string nm] 9)).alloc (.cells #[.int .i64 on] 3) = W0 := ⟨_, rfl⟩
  have z0 : W0.heap.size = s + 6 := by rw [← hW0, ← hs]; simp
  have b0 : Below s w W0 := by
    rw [← hW0, ← hs]
    exact ((((((Below.refl _ w).alloc (Nat.le_refl _) _).alloc (by simp) _).alloc (by simp; omega) _).alloc (by simp; omega) _).alloc (by simp; omega) _).alloc (by simp; omega) _
  have g0 : W0.heap[s]? = some (.cells #[.slice none 0 0] 63 (0, 0)) ∧ W0.heap[s + 1]? = some (.cells #[.int .i64 0] 31 (0, 0)) ∧ W0.heap[s + 2]? = some (.cells #[.slice none 0 0] 63 (0, 0)) ∧
      W0.heap[s + 3]? = some (.cells #[.slice A0 l.length c0] 49 (0, 0)) ∧ W0.heap[s + 4]? = some (.cells #[.string nm] 9 (0, 0)) ∧ W0.heap[s + 5]? = some (.cells #[.int .i64 on] 3 (0, 0)) := by
    rw [← hW0]
    exact six w _ _ _ _ _ _ s hs
  rw [hs, hW0]
  have HS := Aside0.mk hs
  have HB0 := Aside0.mk b0
  have HZ := Aside0.mk z0
  have HG0 := Aside0.mk g0
  clear hs b0 z0 g0 hW0
  gi_wp2
  simp only [HS.out, Nat.add_assoc, Nat.reduceAdd]
  obtain ⟨i3, hi3, hz3, hz31, hz32⟩ := info_parts info3
  refine rf_law rfl eg129 (fun R e1 e2 e3 e4 e5 e6 => ?_)
  obtain ⟨g1, g2, g3, g4, g5, g6⟩ := HG0.out
  have hz := HZ.out
  rw [HZ.out]
  obtain ⟨W1, hW1⟩ : ∃ W1, (W0.alloc (.deferred (some []))).alloc (.loop R) = W1 := ⟨_, rfl⟩
  rw [hW1]
  have z1 : W1.heap.size = s + 8 := by rw [← hW1]; simp [hz]
  have o1 : ∀ k, k < s + 6 → W1.heap[k]? = W0.heap[k]? := fun k hk => by rw [← hW1, at_old _ _ _ (by simp; omega), at_old _ _ _ (by omega)]
  have d1 : W1.heap[s + 6]? = some (.deferred (some [])) := by rw [← hW1, at_old _ _ _ (by simp; omega), at_new _ _ _ (by omega)]
  have l1 : W1.heap[s + 7]? = some (.loop R) := by rw [← hW1, at_new _ _ _ (by simp; omega)]
  have b1 : Below s w W1 := by
    rw [← hW1]; exact (HB0.out.alloc (by omega) _).alloc (by simp; omega) _
  have j0 : CJ s w R [] W1 := ⟨by omega, (o1 _ (by omega)).trans g1, (o1 _ (by omega)).trans g2, d1, l1, b1, .slice none 0 0, (o1 _ (by omega)).trans g3, World.ownsRow_nil _ _ _ _⟩
  obtain ⟨Rd, hRd⟩ : ∃ Rd, ({ R with state := .done, pending := some .ret } : Loop) = Rd := ⟨_, rfl⟩
  refine (chain1_in (5 - 1) (s + 6 + 1) s (s + 3) (s + 4) (s + 5) A0 c0 l nm on w W1 (CJ s w R) (CX s w Rd) r1 r2 hl hc0 HC.out HS.out b1
    ((o1 _ (by omega)).trans g4) ((o1 _ (by omega)).trans g5) ((o1 _ (by omega)).trans g6) (by omega) (by omega) (by omega) (by omega) (by omega) (by omega) ?hJb ?hJs ?hY0 ?hYe j0 HG.out).mono ?fin
  case hJb =>
    intro pre W W' hJ hB
    exact CJ_move hJ hB.size (hB.mono (by have := hJ.1; omega)) (fun k hk _ _ _ => hB.block k hk)
  case hJs =>
    intro pre W b o v hb hJ
    have hb' : b = s + 4 ∨ b = s + 5 ∨ b = s + 8 := by rcases hb with h | h | h <;> omega
    refine CJ_move hJ (by simp) ((Below.refl s W).setCell (p := ⟨b, o, none⟩) (by show s ≤ b; omega) v) (fun k _ h1 h2 h3 => Below.heap_setCell _ _ _ _ (by show k ≠ b; omega))
  case hY0 =>
    intro pre i W hJ hM hi0 hil hlen
    obtain ⟨q0, q6, q7, qD, qL, qB, v, hv, hrow⟩ := hJ
    refine rf_round qL e1 (by rw [e4]; rfl) (fun W' hW' => ?_)
    rw [e3, e4, e5, e6]
    have hne : ∀ k, k < s + 7 → (W.putObj (s + 6 + 1) (.loop { R with state := .busy })).heap[k]? = W.heap[k]? := fun k hk => World.putObj_heap_other (by omega)
    have hW9 : s + 9 ≤ W.heap.size := by omega
    have HJ := Aside0.mk (And.intro q0 (And.intro q6 (And.intro q7 (And.intro qD (And.intro qL qB)))))
    have hv' : Boxed W' (s + 2) 63 v := by rw [← hW']; exact (hne _ (by omega)).trans hv
    have hrow' : W'.ownsRow (s + 9) 3 1 v pre.length (pre.map (Value.int .i64)) := own_move hrow (fun k hk => by rw [← hW']; exact World.putObj_heap_other (by have := own_base hrow k hk; omega))
    have hsz' : W'.heap.size = W.heap.size := by rw [← hW']; simp
    have HW' := Aside0.mk hW'
    have HN := Aside0.mk hne
    have HSZ := Aside0.mk hsz'
    have HZ1 := Aside0.mk z1
    have HE := Aside0.mk (And.intro e1 (And.intro e2 (And.intro e3 (And.intro e4 (And.intro e5 e6)))))
    clear q0 q6 q7 qD qL qB hv hrow hW' hne hsz' g1 g2 g3 g4 g5 g6 hz hW1 z1 o1 d1 l1 b1 j0 e1 e2 e3 e4 e5 e6
    have hc := hv'.cell
    have hml : pre.length + 1 ≤ maxLen := by unfold maxLen; omega
    have hbb : (pre.length + 1) * 8 ≤ 140737488355328 := by omega
    have h9 : s + 9 ≤ W'.heap.size := by have := HSZ.out; omega
    gi_wp2_with (gi_at_builtin; refine wpListIn_append_own _ rfl _ _ 63 rfl (s + 9) 3 i3 (.int .i64 0) 1 8 Try.underlying63 hi3 hz3 hz31 hz32 rfl (by decide) _ _ _ rfl (hrow'.alloc _) ⟨W'.heap.size, 0, none⟩ 1 1 [.int .i64 i] rfl rfl (cell_one_new _ _ _) (by simp [Value.oneCell']) hml hbb (by simp; omega) ?_; intro v' w1 hown' hgrow _; obtain ⟨g', cap', rfl⟩ := ownsRow_succ hown'; obtain ⟨a1, a2, a3, a4, a5, a6⟩ := appended9 hv' hrow' h9 (by omega) hown' hgrow; have hc1 := a1.cell; have hf1 := a1.frozen)
    obtain ⟨q0, q6, q7, qD, qL, qB⟩ := HJ.out
    obtain ⟨e1, e2, _⟩ := HE.out
    have eR : ({ R with state := .ready, pending := none } : Loop) = R := by cases R; simp_all
    have hlp : s + 7 < W.heap.size := (Array.getElem?_eq_some_iff.1 qL).1
    have hWk : ∀ k, k < s + 9 → k ≠ s + 7 → W'.heap[k]? = W.heap[k]? := fun k h1 h2 => by rw [← HW'.out]; exact World.putObj_heap_other h2
    have hbW : Below s W W' := by rw [← HW'.out]; exact below_putObj s W _ _ (by omega)
    obtain ⟨W3, hW3⟩ : ∃ W3, w1.setCell ⟨s + 2, 0, none⟩ (.slice (some ⟨g', 0, none⟩) (pre.length + 1) cap') = W3 := ⟨_, rfl⟩
    rw [hW3] at a2 a3 a4 a5 a6 ⊢
    have h3 : W3.heap[s + 7]? = some (.loop { R with state := .busy }) := by
      rw [a5 _ (by omega) (by omega), ← HW'.out]; exact World.putObj_heap_same hlp
    refine ⟨h3, ?_⟩
    rw [eR]
    have hk4 : ∀ k, k < s + 9 → k ≠ s + 2 → k ≠ s + 7 → (W3.putObj (s + 6 + 1) (.loop R)).heap[k]? = W.heap[k]? := fun k h1 h2 h3 => by
      rw [World.putObj_heap_other (by omega), a5 _ h1 h2, hWk _ h1 h3]
    have hb4 : Below s W (W3.putObj (s + 6 + 1) (.loop R)) := (hbW.trans (a6 s (by omega))).trans (below_putObj s W3 _ _ (by omega))
    refine ⟨rfl, ⟨by have := hb4.size; omega, (hk4 _ (by omega) (by omega) (by omega)).trans q6, (hk4 _ (by omega) (by omega) (by omega)).trans q7, (hk4 _ (by omega) (by omega) (by omega)).trans qD,
      World.putObj_heap_same (Array.getElem?_eq_some_iff.1 h3).1, qB.trans hb4, _, (World.putObj_heap_other (by omega)).trans a2, ?_⟩, hb4, ?_⟩
    · have a3' : W3.ownsRow (s + 9) 3 1 (.slice (some ⟨g', 0, none⟩) (pre.length + 1) cap') (pre ++ [i]).length ((pre ++ [i]).map (Value.int .i64)) := by
        rw [List.length_append, List.map_append]; exact a3
      exact own_move a3' (fun k hk => World.putObj_heap_other (by have := own_base a3' k hk; omega))
    · have HZ1 := HZ1.out
      intro k hk
      exact hk4 k (by omega) (by omega) (by omega)
  case hYe =>
    intro pre i er W hJ her
    obtain ⟨q0, q6, q7, qD, qL, qB, v, hv, hrow⟩ := hJ
    refine rf_round qL e1 (by rw [e4]; rfl) (fun W' hW' => ?_)
    rw [e3, e4, e5, e6]
    have hlp : s + 7 < W.heap.size := (Array.getElem?_eq_some_iff.1 qL).1
    have hWk : ∀ k, k ≠ s + 7 → W'.heap[k]? = W.heap[k]? := fun k h2 => by rw [← hW']; exact World.putObj_heap_other h2
    have hbW : Below s W W' := by rw [← hW']; exact below_putObj s W _ _ (by omega)
    have k6 : W'.heap[s]? = some (.cells #[.slice none 0 0] 63 (0, 0)) := (hWk _ (by omega)).trans q6
    have k7 : W'.heap[s + 1]? = some (.cells #[.int .i64 0] 31 (0, 0)) := (hWk _ (by omega)).trans q7
    have kD := (hWk _ (by omega)).trans qD
    have kL : W'.heap[s + 7]? = some (.loop { R with state := .busy }) := by rw [← hW']; exact World.putObj_heap_same hlp
    have c6 : W'.cell? ⟨s, 0, none⟩ = some (.slice none 0 0) := blk_cell k6 0
    have c7 : W'.cell? ⟨s + 1, 0, none⟩ = some (.int .i64 0) := blk_cell k7 0
    have f6 := blk_frozen k6 0
    have f7 := blk_frozen k7 0
    have FIN : Aside0 (∀ aa : Act, RP (s + 6 + 1) R (fun e W' => e = .returned (.bool false) ∧ CX s w Rd er W') .ret aa ((W'.setCell ⟨s, 0, none⟩ (.slice none 0 0)).setCell ⟨s + 1, 0, none⟩ (.int .i64 er))) := ⟨fun _ => by
      obtain ⟨W3, hW3⟩ : ∃ W3, (W'.setCell ⟨s, 0, none⟩ (.slice none 0 0)).setCell ⟨s + 1, 0, none⟩ (.int .i64 er) = W3 := ⟨_, rfl⟩
      have m6 : W3.heap[s]? = some (.cells #[.slice none 0 0] 63 (0, 0)) := by
        rw [← hW3, Below.heap_setCell _ _ _ _ (by show s ≠ s + 1; omega)]; exact blk_set k6 0 (.slice none 0 0)
      have m7 : W3.heap[s + 1]? = some (.cells #[.int .i64 er] 31 (0, 0)) := by
        rw [← hW3]
        have k7' : (W'.setCell ⟨s, 0, none⟩ (.slice none 0 0)).heap[s + 1]? = some (.cells #[.int .i64 0] 31 (0, 0)) := by rw [Below.heap_setCell _ _ _ _ (by show s + 1 ≠ s; omega)]; exact k7
        exact blk_set k7' 0 (.int .i64 er)
      have mf : ∀ k, s + 1 < k → W3.heap[k]? = W'.heap[k]? := fun k hk => by
        rw [← hW3, Below.heap_setCell _ _ _ _ (by show k ≠ s + 1; omega), Below.heap_setCell _ _ _ _ (by show k ≠ s; omega)]
      have mb : Below s W' W3 := by rw [← hW3]; exact ((Below.refl s W').setCell (p := ⟨s, 0, none⟩) (Nat.le_refl _) _).setCell (p := ⟨s + 1, 0, none⟩) (by show s ≤ s + 1; omega) _
      rw [hW3]
      have h3 : W3.heap[s + 7]? = some (.loop { R with state := .busy }) := (mf _ (by omega)).trans kL
      rw [← hRd]
      refine ⟨h3, rfl, ?_, (World.putObj_heap_other (by omega)).trans m6, (World.putObj_heap_other (by omega)).trans m7, (World.putObj_heap_other (by omega)).trans ((mf _ (by omega)).trans kD),
        World.putObj_heap_same (Array.getElem?_eq_some_iff.1 h3).1, ((qB.trans hbW).trans mb).trans (below_putObj s W3 _ _ (by omega))⟩
      have h1 := hbW.size
      have h2 := mb.size
      simp
      omega⟩
    have he1 : (er != 0) = true := bne_iff_ne.2 her
    clear q0 q6 q7 qD qL qB hv hrow hW' hWk hbW k6 k7 kD kL g1 g2 g3 g4 g5 g6 hz hW1 z1 o1 d1 l1 b1 j0 e1 e2 e3 e4 e5 e6 her
    gi_wp2
    refine ⟨trivial, ?_⟩
    gi_wp2
    exact FIN.out _
  case fin =>
    rintro e W3 ⟨⟨v, rfl⟩, ⟨h2, hJ⟩ | ⟨h2, h1, hX⟩⟩
    · obtain ⟨q0, q6, q7, qD, qL, qB, v3, hv, hrow⟩ := hJ
      obtain ⟨W4, hW4⟩ : ∃ W4, W3.putObj (s + 6 + 1) (.loop { R with state := .exhausted }) = W4 := ⟨_, rfl⟩
      refine ⟨none, W4, by have h := run_endLoop (P := Try.prog) qL (by rw [e1]; decide); rw [hW4, e2] at h; exact h, ?_⟩
      have m : ∀ k, k ≠ s + 7 → W4.heap[k]? = W3.heap[k]? := fun k hk => by rw [← hW4]; exact World.putObj_heap_other hk
      have m6 := (m _ (by omega)).trans q6
      have m7 := (m _ (by omega)).trans q7
      have mD := (m _ (by omega)).trans qD
      have mv : Boxed W4 (s + 2) 63 v3 := (m _ (by omega)).trans hv
      have mB : Below s w W4 := by rw [← hW4]; exact qB.trans (below_putObj s W3 _ _ (by omega))
      have mr : W4.ownsRow (s + 9) 3 1 v3 r1.length (r1.map (Value.int .i64)) := own_move hrow (fun k hk => m k (by have := own_base hrow k hk; omega))
      have c2 := mv.cell
      have c6 : W4.cell? ⟨s, 0, none⟩ = some (.slice none 0 0) := blk_cell m6 0
      have c7 : W4.cell? ⟨s + 1, 0, none⟩ = some (.int .i64 0) := blk_cell m7 0
      have f6 := blk_frozen m6 0
      have f7 := blk_frozen m7 0
      obtain ⟨A3, n3, c3, rfl⟩ : ∃ A3 n3 c3, v3 = .slice A3 n3 c3 := by
        rcases mr.2 with ⟨h, _⟩ | ⟨g, cap, _, h, _⟩
        · exact ⟨_, _, _, h⟩
        · exact ⟨_, _, _, h⟩
      have M1 := Aside0.mk (And.intro m6 (And.intro m7 (And.intro mD (And.intro mB mr))))
      clear q0 q6 q7 qD qL qB hv hrow m m6 m7 mD mv mB mr hW4 g1 g2 g3 g4 g5 g6 hz hW1 z1 o1 d1 l1 b1 j0 e1 e2 e3 e4 e5 e6 hRd
      gi_wp2
      obtain ⟨m6, m7, mD, mB, mr⟩ := M1.out
      obtain ⟨W5, hW5⟩ : ∃ W5, (W4.setCell ⟨s, 0, none⟩ (.slice A3 n3 c3)).setCell ⟨s + 1, 0, none⟩ (.int .i64 0) = W5 := ⟨_, rfl⟩
      rw [hW5]
      have n6 : W5.heap[s]? = some (.cells #[.slice A3 n3 c3] 63 (0, 0)) := by
        rw [← hW5, Below.heap_setCell _ _ _ _ (by show s ≠ s + 1; omega)]; exact blk_set m6 0 _
      have n7 : W5.heap[s + 1]? = some (.cells #[.int .i64 0] 31 (0, 0)) := by
        rw [← hW5]
        have m7' : (W4.setCell ⟨s, 0, none⟩ (.slice A3 n3 c3)).heap[s + 1]? = some (.cells #[.int .i64 0] 31 (0, 0)) := by rw [Below.heap_setCell _ _ _ _ (by show s + 1 ≠ s; omega)]; exact m7
        exact blk_set m7' 0 (.int .i64 0)
      have nf : ∀ k, s + 1 < k → W5.heap[k]? = W4.heap[k]? := fun k hk => by
        rw [← hW5, Below.heap_setCell _ _ _ _ (by show k ≠ s + 1; omega), Below.heap_setCell _ _ _ _ (by show k ≠ s; omega)]
      have nb : Below s W4 W5 := by rw [← hW5]; exact ((Below.refl s W4).setCell (p := ⟨s, 0, none⟩) (Nat.le_refl _) _).setCell (p := ⟨s + 1, 0, none⟩) (by show s ≤ s + 1; omega) _
      have nD := (nf (s + 6) (by omega)).trans mD
      refine ⟨by simp, .inl ⟨s + 6, _, rfl, run_takeDeferred nD, ?_⟩⟩
      obtain ⟨W6, hW6⟩ : ∃ W6, W5.putObj (s + 6) (.deferred none) = W6 := ⟨_, rfl⟩
      rw [hW6]
      have of : ∀ k, k ≠ s + 6 → W6.heap[k]? = W5.heap[k]? := fun k hk => by rw [← hW6]; exact World.putObj_heap_other hk
      have ob : Below s W5 W6 := by rw [← hW6]; exact below_putObj s W5 _ _ (by omega)
      have d6 : W6.cell? ⟨s, 0, none⟩ = some (.slice A3 n3 c3) := blk_cell ((of _ (by omega)).trans n6) 0
      have d7 : W6.cell? ⟨s + 1, 0, none⟩ = some (.int .i64 0) := blk_cell ((of _ (by omega)).trans n7) 0
      refine ⟨.tuple #[.slice A3 n3 c3, .int .i64 0], by simp [results, Try.results90, go_sem, d6, d7], .slice A3 n3 c3, by rw [h2], ?_, ?_⟩
      · have hr6 : W6.ownsRow (s + 9) 3 1 (.slice A3 n3 c3) r1.length (r1.map (Value.int .i64)) := own_move mr (fun k hk => by
          have hb := own_base mr k hk
          exact (of k (by omega)).trans (nf k (by omega)))
        exact Kd.R_of_own (own_weaken hr6 (by rw [HS.out]; omega)) (fun _ _ => trivial)
      · rw [HS.out]; exact (mB.trans nb).trans ob
    · obtain ⟨q0, q6, q7, qD, qL, qB⟩ := hX
      obtain ⟨W4, hW4⟩ : ∃ W4, W3.putObj (s + 6 + 1) (.loop { Rd with state := .exhausted }) = W4 := ⟨_, rfl⟩
      have p1 : Rd.state = .done := by rw [← hRd]
      have p2 : Rd.pending = some .ret := by rw [← hRd]
      refine ⟨some .ret, W4, by have h := run_endLoop (P := Try.prog) qL (by rw [p1]; decide); rw [hW4, p2] at h; exact h, ?_⟩
      have m : ∀ k, k ≠ s + 7 → W4.heap[k]? = W3.heap[k]? := fun k hk => by rw [← hW4]; exact World.putObj_heap_other hk
      have m6 := (m _ (by omega)).trans q6
      have m7 := (m _ (by omega)).trans q7
      have mD := (m _ (by omega)).trans qD
      have mB : Below s w W4 := by rw [← hW4]; exact qB.trans (below_putObj s W3 _ _ (by omega))
      have M1 := Aside0.mk (And.intro m6 (And.intro m7 (And.intro mD mB)))
      clear q0 q6 q7 qD qL qB m m6 m7 mD mB hW4 g1 g2 g3 g4 g5 g6 hz hW1 z1 o1 d1 l1 b1 j0 e1 e2 e3 e4 e5 e6 hRd p1 p2
      gi_wp2
      obtain ⟨m6, m7, mD, mB⟩ := M1.out
      refine ⟨by simp, .inl ⟨s + 6, _, rfl, run_takeDeferred mD, ?_⟩⟩
      obtain ⟨W6, hW6⟩ : ∃ W6, W4.putObj (s + 6) (.deferred none) = W6 := ⟨_, rfl⟩
      rw [hW6]
      have of : ∀ k, k ≠ s + 6 → W6.heap[k]? = W4.heap[k]? := fun k hk => by rw [← hW6]; exact World.putObj_heap_other hk
      have ob : Below s W4 W6 := by rw [← hW6]; exact below_putObj s W4 _ _ (by omega)
      have d6 : W6.cell? ⟨s, 0, none⟩ = some (.slice none 0 0) := blk_cell ((of _ (by omega)).trans m6) 0
      have d7 : W6.cell? ⟨s + 1, 0, none⟩ = some (.int .i64 r2) := blk_cell ((of _ (by omega)).trans m7) 0
      refine ⟨.tuple #[.slice none 0 0, .int .i64 r2], by simp [results, Try.results90, go_sem, d6, d7], .slice none 0 0, rfl, ?_, ?_⟩
      · rw [h1]; exact Kd.R_nil _ _ _ _ _
      · rw [HS.out]; exact mB.trans ob
end Go.Proofs.Ytkgdlbepjmgaiaa.Cal
namespace Go.Proofs.Ytkgdlbepjmgaiaa.Cal
open Go.RowKit Go.Proofs.YtkgdlbepjmgaiaaW.PrintWords Go.Proofs.YtkgdlbepjmgaiaaW.PrintLast Go.Proofs.YtkgdlbepjmgaiaaW.PrintMore
attribute [local go_sem] max2_int min2_int max_two min_two max_three min_three max_four min_four
set_option linter.unusedVariables false
set_option linter.unusedSimpArgs false
def calibrate_collected.f (l0 : List S68) (a1 : ByteArray) (a2 : Int) : Option (List Int × Int) := collF l0 a1 a2
theorem calibrate_collected.calls (A0 : Option Addr) (c0 : Nat) (l0 : List (S68)) (a1 : ByteArray) (a2 : Int) (r1 : List Int) (r2 : Int) (w : World) (hr0 : Kd.C k68 w A0 l0.length l0) (hc0 : l0.length ≤ c0) (h : calibrate_collected.f l0 a1 a2 = some (r1, r2)) :
    Calls Try.prog 90 #[.slice A0 l0.length c0, .string a1, .int .i64 a2] w fun e w' => ∃ v0_ : Value, e = .returned (.tuple #[v0_, .int .i64 r2]) ∧ Kd.R (Kd.int .i64) 3 w' w.heap.size (fun _ => True) v0_ r1 ∧ Below w.heap.size w w' := collected_calls A0 c0 l0 a1 a2 r1 r2 w hr0 hc0 h
end Go.Proofs.Ytkgdlbepjmgaiaa.Cal
namespace Go.Proofs.Ytkgdlbepjmgaiaa.Cal
open Go.RowKit Go.Proofs.YtkgdlbepjmgaiaaW.PrintWords Go.Proofs.YtkgdlbepjmgaiaaW.PrintLast Go.Proofs.YtkgdlbepjmgaiaaW.PrintMore
attribute [local go_sem] max2_int min2_int max_two min_two max_three min_three max_four min_four
set_option linter.unusedVariables false
set_option linter.unusedSimpArgs false
def calibrate_Chain.f (k : Nat) (l0 : List (S68)) (a1 : ByteArray) (a2 : Int) : Option (List Int × Int) := (calibrate_Valid.f k l0 a1 a2).bind fun bt132 => (if bt132.2 = 0 then ((calibrate_collected.f l0 a1 a2).bind fun bt134 => (some (bt134.1, bt134.2))) else (some (([] : List Int), bt132.2)))
theorem calibrate_Chain.mono : ∀ a0 a1 a2 k, LeO (calibrate_Chain.f k a0 a1 a2) (calibrate_Chain.f (k + 1) a0 a1 a2) := by
  intro a0 a1 a2 k
  unfold calibrate_Chain.f
  repeat' first
      | (with_reducible exact calibrate_Valid.mono _ _ _ _)
      | (with_reducible exact LeO.refl _)
      | (with_reducible exact LeO.none _)
      | (with_reducible refine LeO.ite ?_ ?_)
      | (with_reducible refine LeO.bind ?_ (fun _ => ?_))
      | exact calibrate_Valid.mono _ _ _ _
      | exact LeO.none _
      | refine LeO.ite ?_ ?_
      | refine LeO.bind ?_ (fun _ => ?_)
set_option maxHeartbeats 8000000 in
set_option maxRecDepth 100000 in
theorem calibrate_Chain.calls (k : Nat) (A0 : Option Addr) (c0 : Nat) (l0 : List (S68)) (a1 : ByteArray) (a2 : Int) (r1 : List Int) (r2 : Int) (w : World) (hr0 : Kd.C k68 w A0 l0.length l0) (hc0 : l0.length ≤ c0) (h : calibrate_Chain.f k l0 a1 a2 = some (r1, r2)) :
    Calls Try.prog 44 #[.slice A0 l0.length c0, .string a1, .int .i64 a2] w fun e w' => ∃ v0_ : Value, e = .returned (.tuple #[v0_, .int .i64 r2]) ∧ Kd.R (Kd.int .i64) 3 w' w.heap.size (fun _ => True) v0_ r1 ∧ Below w.heap.size w w' := by
  have HR0 := Aside0.mk hr0
  have HC0 := Aside0.mk hc0
  clear hr0 hc0
  have HB := Aside0.mk (Below.refl w.heap.size w)
  have H : ((calibrate_Valid.f k l0 a1 a2).bind fun bt132 => (if bt132.2 = 0 then ((calibrate_collected.f l0 a1 a2).bind fun bt134 => (some (bt134.1, bt134.2))) else (some (([] : List Int), bt132.2)))) = some (r1, r2) := h
  clear h
  replace H := Option.bind_eq_some_iff.mp H
  obtain ⟨⟨t132, t133⟩, A40, H⟩ := H
  replace H : (if t133 = 0 then ((calibrate_collected.f l0 a1 a2).bind fun bt134 => (some (bt134.1, bt134.2))) else (some (([] : List Int), t133))) = some (r1, r2) := H
  have A4 := Aside0.mk A40
  clear A40
  by_cases c5 : t133 = 0
  · rw [if_pos c5] at H
    have c5b0 : (t133 == 0) = true := beq_iff_eq.mpr c5
    have c5b1 : (t133 != 0) = false := bne_eq_false_iff_eq.mpr c5
    clear c5
    replace H := Option.bind_eq_some_iff.mp H
    obtain ⟨⟨t134, t135⟩, A60, H⟩ := H
    replace H : (some (t134, t135)) = some (r1, r2) := H
    have A6 := Aside0.mk A60
    clear A60
    simp only [Option.some.injEq, Prod.mk.injEq] at H
    obtain ⟨rfl, rfl⟩ := H
    go_enter Try.func44, Try.ntmps44
    go_wp2_with (first | ((with_reducible refine gate_callee (f := 42) rfl ?_); refine goesL_ (some 14) rfl rfl Try.func42 (by kernel_rfl) rfl #[.slice A0 l0.length c0, .string a1, .int .i64 a2] rfl (by (try simp only [List.map_toArray, List.map_cons, List.map_nil]); first | done | rfl | (simp only [List.length_drop, List.length_take]; rfl)) ?_; (with_reducible refine (calibrate_Valid.calls k _ _ l0 a1 a2 t132 t133 _ ?side1 ?side2 A4.out).mono ?_); (case side1 => repeat (first | exact HR0.out | (with_reducible refine Kd.C_alloc ?_ _) | (with_reducible refine Kd.C_drewN ?_ _) | (with_reducible refine Kd.C_drew ?_))); (case side2 => exact HC0.out); rintro e w7 ⟨rfl, hb⟩; refine ⟨_, rfl, ?_⟩; have n0_ := Aside0.mk (below_step (by repeat (first | (with_reducible first | exact HB.out | apply below_alloc | apply pw_below_drewN | apply below_drew1) | exact HB.out)) hb); clear HB; have HB := n0_; clear n0_; (try clear hb); (try clear hb2); (try clear hk); (try clear hi)) | ((with_reducible refine gate_callee (f := 90) rfl ?_); refine goesL_ (some 23) rfl rfl Try.func90 (by kernel_rfl) rfl #[.slice A0 l0.length c0, .string a1, .int .i64 a2] rfl (by (try simp only [List.map_toArray, List.map_cons, List.map_nil]); first | done | rfl | (simp only [List.length_drop, List.length_take]; rfl)) ?_; (with_reducible refine (calibrate_collected.calls _ _ l0 a1 a2 t134 t135 _ ?side1 ?side2 A6.out).mono ?_); (case side1 => repeat (first | exact (Kd.C_below HR0.out HB.out) | (with_reducible refine Kd.C_alloc ?_ _) | (with_reducible refine Kd.C_drewN ?_ _) | (with_reducible refine Kd.C_drew ?_))); (case side2 => exact HC0.out); rintro e w8 ⟨v136, rfl, ho0, hb⟩; refine ⟨_, rfl, ?_⟩; have n0_ := Aside0.mk (Kd.R_lower ho0 (below_size (by repeat (first | (with_reducible first | exact HB.out | apply below_alloc | apply pw_below_drewN | apply below_drew1) | exact HB.out)))); have n1_ := Aside0.mk (below_step (by repeat (first | (with_reducible first | exact HB.out | apply below_alloc | apply pw_below_drewN | apply below_drew1) | exact HB.out)) hb); clear HB; have HO137 := n0_; have HB := n1_; clear n0_ n1_; (try clear hb); (try clear hb2); (try clear hk); (try clear hi); (try clear ho0)))
    go_ret2
    exact ⟨_, by first | rfl | (simp [errW_none, errW_some] <;> rfl) | (simp [*, errW_none, errW_some] <;> rfl), by (with_reducible repeat (first | apply Kd.R_alloc | apply Kd.R_drewN | apply Kd.R_drew)); exact HO137.out, by repeat (first | (with_reducible first | exact HB.out | apply below_alloc | apply pw_below_drewN | apply below_drew1) | exact HB.out)⟩
  · rw [if_neg c5] at H
    have c5b0 : (t133 == 0) = false := beq_eq_false_iff_ne.mpr c5
    have c5b1 : (t133 != 0) = true := bne_iff_ne.mpr c5
    simp only [Option.some.injEq, Prod.mk.injEq] at H
    obtain ⟨rfl, rfl⟩ := H
    go_enter Try.func44, Try.ntmps44
    go_wp2_with (first | ((with_reducible refine gate_callee (f := 42) rfl ?_); refine goesL_ (some 14) rfl rfl Try.func42 (by kernel_rfl) rfl #[.slice A0 l0.length c0, .string a1, .int .i64 a2] rfl (by (try simp only [List.map_toArray, List.map_cons, List.map_nil]); first | done | rfl | (simp only [List.length_drop, List.length_take]; rfl)) ?_; (with_reducible refine (calibrate_Valid.calls k _ _ l0 a1 a2 t132 t133 _ ?side1 ?side2 A4.out).mono ?_); (case side1 => repeat (first | exact HR0.out | (with_reducible refine Kd.C_alloc ?_ _) | (with_reducible refine Kd.C_drewN ?_ _) | (with_reducible refine Kd.C_drew ?_))); (case side2 => exact HC0.out); rintro e w9 ⟨rfl, hb⟩; refine ⟨_, rfl, ?_⟩; have n0_ := Aside0.mk (below_step (by repeat (first | (with_reducible first | exact HB.out | apply below_alloc | apply pw_below_drewN | apply below_drew1) | exact HB.out)) hb); clear HB; have HB := n0_; clear n0_; (try clear hb); (try clear hb2); (try clear hk); (try clear hi)))
    go_ret2
    exact ⟨_, by first | rfl | (simp [errW_none, errW_some] <;> rfl) | (simp [*, errW_none, errW_some] <;> rfl), by first | exact Kd.R_nil _ _ _ _ _ | exact Kd.N_nil _ _ _ _ _ | exact Kd.V_nil _ _ _ _ _ | exact Kd.Q_nil _ _ _ _ _ | exact Kd.S_nil _ _ _ _ _, by repeat (first | (with_reducible first | exact HB.out | apply below_alloc | apply pw_below_drewN | apply below_drew1) | exact HB.out)⟩
end Go.Proofs.Ytkgdlbepjmgaiaa.Cal
namespace Go.Proofs.Ytkgdlbepjmgaiaa.Cal
open Go.RowKit Go.Proofs.YtkgdlbepjmgaiaaW.PrintWords Go.Proofs.YtkgdlbepjmgaiaaW.PrintLast Go.Proofs.YtkgdlbepjmgaiaaW.PrintMore
attribute [local go_sem] max2_int min2_int max_two min_two max_three min_three max_four min_four
set_option linter.unusedVariables false
set_option linter.unusedSimpArgs false
def calibrate_Error.l0 : Nat → List (S68) → List Int → Int → Int → Int → Int → Option (Int × Int × Int)
  | 0, _, _, _, _, _, _ => none
  | k + 1, x0, x24, x25, x26, x144000, x144001 => if x26 < x25 then (if 0 ≤ x26 then (if x26 < (x24.length : Int) then (if 0 ≤ (rd x24 x26) then (if (rd x24 x26) < (x0.length : Int) then (calibrate_Error.l0 k x0 x24 x25 (wrap64 (x26 + 1)) (wrap64 (x144000 + (wrap64 (((rd_T68 x0 (rd x24 x26)).f2) - ((rd_T68 x0 (rd x24 x26)).f3))))) (wrap64 (x144001 + (wrap64 (((rd_T68 x0 (rd x24 x26)).f2) + ((rd_T68 x0 (rd x24 x26)).f3)))))) else (none)) else (none)) else (none)) else (none)) else (some (x144000, x144001, 0))
def calibrate_Error.f (k : Nat) (l0 : List (S68)) (a1 : ByteArray) (a2 : Int) : Option (Int × Int × Int) := (calibrate_Chain.f k l0 a1 a2).bind fun bt139 => (if bt139.2 = 0 then (calibrate_Error.l0 k l0 bt139.1 (bt139.1.length : Int) 0 0 0) else (some (0, 0, bt139.2)))
theorem calibrate_Error.mono_l : ∀ k, (∀ y0 y1 y2 y3 y4 y5, LeO (calibrate_Error.l0 k y0 y1 y2 y3 y4 y5) (calibrate_Error.l0 (k + 1) y0 y1 y2 y3 y4 y5))
  | 0 => fun _ _ _ _ _ _ r h => by simp [calibrate_Error.l0] at h
  | k + 1 => by
    have ih0 := calibrate_Error.mono_l k
    · intro y0 y1 y2 y3 y4 y5
      unfold calibrate_Error.l0
      repeat' first
      | (with_reducible exact ih0 _ _ _ _ _ _)
      | (with_reducible exact calibrate_Chain.mono _ _ _ _)
      | (with_reducible exact LeO.refl _)
      | (with_reducible exact LeO.none _)
      | (with_reducible refine LeO.ite ?_ ?_)
      | (with_reducible refine LeO.bind ?_ (fun _ => ?_))
      | exact ih0 _ _ _ _ _ _
      | exact calibrate_Chain.mono _ _ _ _
      | exact LeO.none _
      | refine LeO.ite ?_ ?_
      | refine LeO.bind ?_ (fun _ => ?_)
theorem calibrate_Error.mono : ∀ a0 a1 a2 k, LeO (calibrate_Error.f k a0 a1 a2) (calibrate_Error.f (k + 1) a0 a1 a2) := by
  intro a0 a1 a2 k
  have ih0 := calibrate_Error.mono_l k
  unfold calibrate_Error.f
  repeat' first
      | (with_reducible exact ih0 _ _ _ _ _ _)
      | (with_reducible exact calibrate_Chain.mono _ _ _ _)
      | (with_reducible exact LeO.refl _)
      | (with_reducible exact LeO.none _)
      | (with_reducible refine LeO.ite ?_ ?_)
      | (with_reducible refine LeO.bind ?_ (fun _ => ?_))
      | exact ih0 _ _ _ _ _ _
      | exact calibrate_Chain.mono _ _ _ _
      | exact LeO.none _
      | refine LeO.ite ?_ ?_
      | refine LeO.bind ?_ (fun _ => ?_)
def calibrate_Error.T8 : Bool × List (List Nat × List Nat) := (true, [([], []), ([0], [0]), ([], []), ([], []), ([2, 3], [2, 3]), ([4], [4]), ([5], [5]), ([], []), ([], []), ([7, 8], [7, 8]), ([9], [9]), ([10], [10]), ([6, 11], [6, 11]), ([1, 12], [1, 12]), ([0, 1, 2, 3, 4, 5, 6, 7, 8, 9, 10, 11, 12, 13], []), ([14, 13, 0, 1, 2, 3, 4, 5, 6, 7, 8, 9, 10, 11, 12, 13], [13, 14])])
def calibrate_Error.B8 : List Nat := [0, 1, 0, 0, 12, 28, 60, 0, 0, 384, 896, 1920, 4092, 8191, 16383, 32767]
theorem calibrate_Error.tab8 : rtab .any (opsOf Try.f61 8) = calibrate_Error.T8 := by kernel_rfl
theorem calibrate_Error.bits8 : waitsOk calibrate_Error.T8.2 calibrate_Error.B8 = true := by kernel_rfl
def calibrate_Error.T9 : Bool × List (List Nat × List Nat) := (true, [([], []), ([0], [0]), ([], []), ([], []), ([2, 3], [2, 3]), ([4], [4]), ([5], [5]), ([], []), ([], []), ([7, 8], [7, 8]), ([9], [9]), ([10], [10]), ([6, 11], [6, 11]), ([1, 12], [1, 12]), ([0, 1, 2, 3, 4, 5, 6, 7, 8, 9, 10, 11, 12, 13], []), ([14, 13, 0, 1, 2, 3, 4, 5, 6, 7, 8, 9, 10, 11, 12, 13], [13, 14])])
def calibrate_Error.B9 : List Nat := [0, 1, 0, 0, 12, 28, 60, 0, 0, 384, 896, 1920, 4092, 8191, 16383, 32767]
theorem calibrate_Error.tab9 : rtab .any (opsOf Try.f61 9) = calibrate_Error.T9 := by kernel_rfl
theorem calibrate_Error.bits9 : waitsOk calibrate_Error.T9.2 calibrate_Error.B9 = true := by kernel_rfl
set_option maxHeartbeats 8000000 in
set_option maxRecDepth 100000 in
theorem calibrate_Error.calls (k : Nat) (A0 : Option Addr) (c0 : Nat) (l0 : List (S68)) (a1 : ByteArray) (a2 : Int) (r1 : Int) (r2 : Int) (r3 : Int) (w : World) (hr0 : Kd.C k68 w A0 l0.length l0) (hc0 : l0.length ≤ c0) (h : calibrate_Error.f k l0 a1 a2 = some (r1, r2, r3)) :
    Calls Try.prog 61 #[.slice A0 l0.length c0, .string a1, .int .i64 a2] w fun e w' => e = .returned (.tuple #[.agg #[.int .i64 r1, .int .i64 r2], .int .i64 r3]) ∧ Below w.heap.size w w' := by
  have hu25 := Try.underlying25
  have HR0 := Aside0.mk hr0
  have HC0 := Aside0.mk hc0
  clear hr0 hc0
  have HB := Aside0.mk (Below.refl w.heap.size w)
  have H : ((calibrate_Chain.f k l0 a1 a2).bind fun bt139 => (if bt139.2 = 0 then (calibrate_Error.l0 k l0 bt139.1 (bt139.1.length : Int) 0 0 0) else (some (0, 0, bt139.2)))) = some (r1, r2, r3) := h
  clear h
  replace H := Option.bind_eq_some_iff.mp H
  obtain ⟨⟨t139, t140⟩, A40, H⟩ := H
  replace H : (if t140 = 0 then (calibrate_Error.l0 k l0 t139 (t139.length : Int) 0 0 0) else (some (0, 0, t140))) = some (r1, r2, r3) := H
  have A4 := Aside0.mk A40
  clear A40
  by_cases c5 : t140 = 0
  · rw [if_pos c5] at H
    have c5b0 : (t140 == 0) = true := beq_iff_eq.mpr c5
    have c5b1 : (t140 != 0) = false := bne_eq_false_iff_eq.mpr c5
    clear c5
    have H' := Aside0.mk H
    clear H
    go_enter Try.func61, Try.ntmps61
    go_wp2_with (first | ((with_reducible refine gate_dst (N := 6) rfl ?_); refine box_event ?hg (N := 6) ?hd (cs := #[.int .i64 0, .int .i64 0]) (t := 25) ?hr ?_; (case hd => rfl); (case hg => rfl); (case hr => first | (go_simp; done) | (go_simp; rfl)); intro gb138 hg w6 hbox hb; have n0_ := Aside0.mk (below_step (by repeat (first | (with_reducible first | exact HB.out | apply below_alloc | apply pw_below_drewN | apply below_drew1) | exact HB.out)) hb); have n1_ := Aside0.mk (hbox); have n2_ := Aside0.mk ((by rw [hg]; exact (below_size (by repeat (first | (with_reducible first | exact HB.out | apply below_alloc | apply pw_below_drewN | apply below_drew1) | exact HB.out))) : w.heap.size ≤ gb138)); have n3_ := Aside0.mk ((by rw [hg]; exact (below_size (by repeat (first | (with_reducible first | exact HB.out | apply below_alloc | apply pw_below_drewN | apply below_drew1) | exact HB.out))) : w.heap.size ≤ gb138)); clear HB; have HB := n0_; have BK138 := n1_; have GW138 := n2_; have GE138 := n3_; clear n0_ n1_ n2_ n3_; clear hb hbox hg) | ((with_reducible refine gate_callee (f := 44) rfl ?_); refine goesL_ (some 17) rfl rfl Try.func44 (by kernel_rfl) rfl #[.slice A0 l0.length c0, .string a1, .int .i64 a2] rfl (by (try simp only [List.map_toArray, List.map_cons, List.map_nil]); first | done | rfl | (simp only [List.length_drop, List.length_take]; rfl)) ?_; (with_reducible refine (calibrate_Chain.calls k _ _ l0 a1 a2 t139 t140 _ ?side1 ?side2 A4.out).mono ?_); (case side1 => repeat (first | exact (Kd.C_below HR0.out HB.out) | (with_reducible refine Kd.C_alloc ?_ _) | (with_reducible refine Kd.C_drewN ?_ _) | (with_reducible refine Kd.C_drew ?_))); (case side2 => exact HC0.out); rintro e w7 ⟨v141, rfl, ho0, hb⟩; refine ⟨_, rfl, ?_⟩; have n0_ := Aside0.mk (Kd.R_lower ho0 (below_size (by repeat (first | (with_reducible first | exact HB.out | apply below_alloc | apply pw_below_drewN | apply below_drew1 | refine below_set ?_ GE138.out) | exact HB.out)))); have n1_ := Aside0.mk (blk_below (g := gb138) (o := .cells #[.int .i64 0, .int .i64 0] 25 (0, 0)) (by (with_reducible repeat (first | refine blk_drewN ?_ _ | refine blk_drew ?_ | refine blk_alloc ?_ _)); exact BK138.out) hb); have n2_ := Aside0.mk (below_step (by repeat (first | (with_reducible first | exact HB.out | apply below_alloc | apply pw_below_drewN | apply below_drew1 | refine below_set ?_ GE138.out) | exact HB.out)) hb); clear BK138; clear HB; have HO142 := n0_; have BK138 := n1_; have HB := n2_; clear n0_ n1_ n2_; (try clear hb); (try clear hb2); (try clear hk); (try clear hi); (try clear ho0)) | ((with_reducible refine gate_dst (N := 10) rfl ?_); refine box_event ?hg (N := 10) ?hd (cs := #[.int .i64 0, .int .i64 0]) (t := 25) ?hr ?_; (case hd => rfl); (case hg => rfl); (case hr => first | (go_simp; done) | (go_simp; rfl)); intro gb143 hg w8 hbox hb; have n0_ := Aside0.mk (Kd.R_below (by (with_reducible repeat (first | apply Kd.R_alloc | apply Kd.R_drewN | apply Kd.R_drew)); exact HO142.out) hb); have n1_ := Aside0.mk (blk_below (g := gb138) (o := .cells #[.int .i64 0, .int .i64 0] 25 (0, 0)) (by (with_reducible repeat (first | refine blk_drewN ?_ _ | refine blk_drew ?_ | refine blk_alloc ?_ _)); exact BK138.out) hb); have n2_ := Aside0.mk (below_step (by repeat (first | (with_reducible first | exact HB.out | apply below_alloc | apply pw_below_drewN | apply below_drew1 | refine below_set ?_ GE138.out) | exact HB.out)) hb); have n3_ := Aside0.mk (hbox); have n4_ := Aside0.mk ((by rw [hg]; exact (below_size (by repeat (first | (with_reducible first | exact HB.out | apply below_alloc | apply pw_below_drewN | apply below_drew1 | refine below_set ?_ GE138.out) | exact HB.out))) : w.heap.size ≤ gb143)); have n5_ := Aside0.mk ((by rw [hg]; exact (below_size (by repeat (first | (with_reducible first | exact HB.out | apply below_alloc | apply pw_below_drewN | apply below_drew1 | refine below_set ?_ GE138.out) | exact HB.out))) : w.heap.size ≤ gb143)); have n6_ := Aside0.mk ((by rw [hg]; exact Nat.ne_of_lt (blk_lt (g := gb138) (o := .cells #[.int .i64 0, .int .i64 0] 25 (0, 0)) (by (with_reducible repeat (first | refine blk_drewN ?_ _ | refine blk_drew ?_ | refine blk_alloc ?_ _)); exact BK138.out)) : gb138 ≠ gb143)); have n7_ := Aside0.mk ((by rw [hg]; exact Nat.ne_of_gt (blk_lt (g := gb138) (o := .cells #[.int .i64 0, .int .i64 0] 25 (0, 0)) (by (with_reducible repeat (first | refine blk_drewN ?_ _ | refine blk_drew ?_ | refine blk_alloc ?_ _)); exact BK138.out)) : gb143 ≠ gb138)); clear HO142; clear BK138; clear HB; have HO142 := n0_; have BK138 := n1_; have HB := n2_; have BK143 := n3_; have GW143 := n4_; have GE143 := n5_; have NB138_143 := n6_; have NB143_138 := n7_; clear n0_ n1_ n2_ n3_ n4_ n5_ n6_ n7_; clear hb hbox hg; obtain ⟨Ao9, co9, eo9⟩ := Kd.R_slice HO142.out; subst eo9))
    go_loopg [26] k (fun kq v26 w' => ∃ (x26_1 : Int) (x144000_1 : Int) (x144001_1 : Int), v26 = .int .i64 x26_1 ∧ Aside0 (calibrate_Error.l0 kq l0 t139 (t139.length : Int) x26_1 x144000_1 x144001_1 = some (r1, r2, r3)) ∧ Aside0 (kq ≤ k) ∧ Aside0 (Kd.R (Kd.int .i64) 3 w' w.heap.size (fun _ => True) (.slice Ao9 t139.length co9) t139) ∧ Aside0 (w'.heap[gb138]? = some (.cells #[.int .i64 0, .int .i64 0] 25 (0, 0))) ∧ Aside0 (w'.heap[gb143]? = some (.cells #[.int .i64 x144000_1, .int .i64 x144001_1] 25 (0, 0))) ∧ Aside0 (Below w.heap.size w w'))
    case atStart => exact ⟨(0), (0), (0), (by first | rfl | (simp; done) | (simp [*]; done)), H', ⟨Nat.le_refl _⟩, ⟨by (with_reducible repeat (first | apply Kd.R_alloc | apply Kd.R_drewN | apply Kd.R_drew)); exact HO142.out⟩, ⟨by (with_reducible repeat (first | refine blk_drewN ?_ _ | refine blk_drew ?_ | refine blk_alloc ?_ _)); exact BK138.out⟩, ⟨by (with_reducible repeat (first | refine blk_drewN ?_ _ | refine blk_drew ?_ | refine blk_alloc ?_ _)); exact BK143.out⟩, ⟨by repeat (first | (with_reducible first | exact HB.out | apply below_alloc | apply pw_below_drewN | apply below_drew1 | refine below_set ?_ GE138.out | refine below_set ?_ GE143.out) | exact HB.out)⟩⟩
    case round =>
      clear H'
      try clear p2
      try clear c4
      try clear c5
      try clear c5b0
      try clear c5b1
      try clear c6
      obtain ⟨x26_1, x144000_1, x144001_1, rfl, HA, HK1, HO_24, BK138, BK143, HB⟩ := hrel
      cases gk with
      | zero => exact absurd HA.out (by simp [calibrate_Error.l0])
      | succ k1 =>
        have H := HA.out
        clear HA
        simp only [calibrate_Error.l0] at H
        by_cases c10 : x26_1 < (t139.length : Int)
        · rw [if_pos c10] at H
          have c10b0 : decide (x26_1 < (t139.length : Int)) = true := decide_eq_true c10
          clear c10
          by_cases c11 : 0 ≤ x26_1
          · rw [if_pos c11] at H
            have c11b0 : decide (0 ≤ x26_1) = true := decide_eq_true c11
            clear c11
            by_cases c12 : x26_1 < (t139.length : Int)
            · rw [if_pos c12] at H
              have c12b0 : decide (x26_1 < (t139.length : Int)) = true := decide_eq_true c12
              clear c12
              by_cases c13 : 0 ≤ (rd t139 x26_1)
              · rw [if_pos c13] at H
                have c13b0 : decide (0 ≤ (rd t139 x26_1)) = true := decide_eq_true c13
                clear c13
                by_cases c14 : (rd t139 x26_1) < (l0.length : Int)
                · rw [if_pos c14] at H
                  have c14b0 : decide ((rd t139 x26_1) < (l0.length : Int)) = true := decide_eq_true c14
                  clear c14
                  have H' := Aside0.mk H
                  clear H
                  have p144 : 0 ≤ (x26_1 : Int) := of_decide_eq_true (by first | (with_reducible assumption) | assumption)
                  have q144 : x26_1 < (t139.length : Int) := of_decide_eq_true (by first | (with_reducible assumption) | assumption)
                  obtain ⟨ad144, e144, hx144_0⟩ := Kd.at_int (Kd.R_reads' HO_24.out).2.2 x26_1 p144 q144
                  cases e144
                  replace p144 := eq_true p144
                  replace q144 := eq_true q144
                  try go_wp2
                  have n0_ := Aside0.mk (Kd.R_drew HO_24.out)
                  have n1_ := Aside0.mk (blk_drew BK138.out)
                  have n2_ := Aside0.mk (blk_drew BK143.out)
                  have n3_ := Aside0.mk (below_drew1 HB.out)
                  clear HO_24
                  clear BK138
                  clear BK143
                  clear HB
                  have HO_24 := n0_
                  have BK138 := n1_
                  have BK143 := n2_
                  have HB := n3_
                  clear n0_ n1_ n2_ n3_
                  have p145 : 0 ≤ ((rd t139 x26_1) : Int) := of_decide_eq_true (by first | (with_reducible assumption) | assumption)
                  have q145 : (rd t139 x26_1) < (l0.length : Int) := of_decide_eq_true (by first | (with_reducible assumption) | assumption)
                  obtain ⟨ad145, e145, hx145_0, hx145_1, hx145_2, hx145_3, hx145_4, hx145_5⟩ := at_T68 HR0.out (rd t139 x26_1) p145 q145
                  have hw145_5 := hx145_5
                  have hw145_4 := hx145_4
                  have hw145_3 := hx145_3
                  have hw145_2 := hx145_2
                  have hw145_1 := hx145_1
                  have hw145_0 := hx145_0
                  cases e145
                  replace hx145_0 := (HB.out.cell (World.block_lt_of_cell? w _ hx145_0)).trans hx145_0
                  replace hx145_1 := (HB.out.cell (World.block_lt_of_cell? w _ hx145_1)).trans hx145_1
                  replace hx145_2 := (HB.out.cell (World.block_lt_of_cell? w _ hx145_2)).trans hx145_2
                  replace hx145_3 := (HB.out.cell (World.block_lt_of_cell? w _ hx145_3)).trans hx145_3
                  replace hx145_4 := (HB.out.cell (World.block_lt_of_cell? w _ hx145_4)).trans hx145_4
                  replace hx145_5 := (HB.out.cell (World.block_lt_of_cell? w _ hx145_5)).trans hx145_5
                  replace p145 := eq_true p145
                  replace q145 := eq_true q145
                  have p146 : 0 ≤ ((rd t139 x26_1) : Int) := of_decide_eq_true (by first | (with_reducible assumption) | assumption)
                  have q146 : (rd t139 x26_1) < (l0.length : Int) := of_decide_eq_true (by first | (with_reducible assumption) | assumption)
                  obtain ⟨ad146, e146, hx146_0, hx146_1, hx146_2, hx146_3, hx146_4, hx146_5⟩ := at_T68 HR0.out (rd t139 x26_1) p146 q146
                  have hw146_5 := hx146_5
                  have hw146_4 := hx146_4
                  have hw146_3 := hx146_3
                  have hw146_2 := hx146_2
                  have hw146_1 := hx146_1
                  have hw146_0 := hx146_0
                  obtain rfl : ad145 = ad146 := (by injection e146)
                  replace hx146_0 := (HB.out.cell (World.block_lt_of_cell? w _ hx146_0)).trans hx146_0
                  replace hx146_1 := (HB.out.cell (World.block_lt_of_cell? w _ hx146_1)).trans hx146_1
                  replace hx146_2 := (HB.out.cell (World.block_lt_of_cell? w _ hx146_2)).trans hx146_2
                  replace hx146_3 := (HB.out.cell (World.block_lt_of_cell? w _ hx146_3)).trans hx146_3
                  replace hx146_4 := (HB.out.cell (World.block_lt_of_cell? w _ hx146_4)).trans hx146_4
                  replace hx146_5 := (HB.out.cell (World.block_lt_of_cell? w _ hx146_5)).trans hx146_5
                  replace p146 := eq_true p146
                  replace q146 := eq_true q146
                  refine start_ (n := 16) (S := fun w' => w'.cell? ⟨gb143, 0, none⟩ = some (.int .i64 x144000_1) ∧ w'.cell? ⟨gb143, 1, none⟩ = some (.int .i64 x144001_1) ∧ w'.cell? (ad145.add (((rd t139 x26_1)).toNat * 6)) = some (.string ((rd_T68 l0 (rd t139 x26_1)).f0)) ∧ w'.cell? ⟨(ad145.add (((rd t139 x26_1)).toNat * 6)).block, (ad145.add (((rd t139 x26_1)).toNat * 6)).off + 1, none⟩ = some (.string ((rd_T68 l0 (rd t139 x26_1)).f1)) ∧ w'.cell? ⟨(ad145.add (((rd t139 x26_1)).toNat * 6)).block, (ad145.add (((rd t139 x26_1)).toNat * 6)).off + 2, none⟩ = some (.int .i64 ((rd_T68 l0 (rd t139 x26_1)).f2)) ∧ w'.cell? ⟨(ad145.add (((rd t139 x26_1)).toNat * 6)).block, (ad145.add (((rd t139 x26_1)).toNat * 6)).off + 3, none⟩ = some (.int .i64 ((rd_T68 l0 (rd t139 x26_1)).f3)) ∧ w'.cell? ⟨(ad145.add (((rd t139 x26_1)).toNat * 6)).block, (ad145.add (((rd t139 x26_1)).toNat * 6)).off + 4, none⟩ = some (.int .i64 ((rd_T68 l0 (rd t139 x26_1)).f4)) ∧ w'.cell? ⟨(ad145.add (((rd t139 x26_1)).toNat * 6)).block, (ad145.add (((rd t139 x26_1)).toNat * 6)).off + 5, none⟩ = some (.int .i64 ((rd_T68 l0 (rd t139 x26_1)).f5)) ∧ w'.cell? (ad145.add (((rd t139 x26_1)).toNat * 6)) = some (.string ((rd_T68 l0 (rd t139 x26_1)).f0)) ∧ w'.cell? ⟨(ad145.add (((rd t139 x26_1)).toNat * 6)).block, (ad145.add (((rd t139 x26_1)).toNat * 6)).off + 1, none⟩ = some (.string ((rd_T68 l0 (rd t139 x26_1)).f1)) ∧ w'.cell? ⟨(ad145.add (((rd t139 x26_1)).toNat * 6)).block, (ad145.add (((rd t139 x26_1)).toNat * 6)).off + 2, none⟩ = some (.int .i64 ((rd_T68 l0 (rd t139 x26_1)).f2)) ∧ w'.cell? ⟨(ad145.add (((rd t139 x26_1)).toNat * 6)).block, (ad145.add (((rd t139 x26_1)).toNat * 6)).off + 3, none⟩ = some (.int .i64 ((rd_T68 l0 (rd t139 x26_1)).f3)) ∧ w'.cell? ⟨(ad145.add (((rd t139 x26_1)).toNat * 6)).block, (ad145.add (((rd t139 x26_1)).toNat * 6)).off + 4, none⟩ = some (.int .i64 ((rd_T68 l0 (rd t139 x26_1)).f4)) ∧ w'.cell? ⟨(ad145.add (((rd t139 x26_1)).toNat * 6)).block, (ad145.add (((rd t139 x26_1)).toNat * 6)).off + 5, none⟩ = some (.int .i64 ((rd_T68 l0 (rd t139 x26_1)).f5))) (ds := [15]) #[false, false, false, false, false, false, false, false, false, false, false, false, false, false, false, false] (by kernel_rfl) rfl rfl ⟨(blk_cell BK143.out 0).trans rfl, (blk_cell BK143.out 1).trans rfl, ((HB.out.cell (World.block_lt_of_cell? w _ hw145_0)).trans hw145_0), ((HB.out.cell (World.block_lt_of_cell? w _ hw145_1)).trans hw145_1), ((HB.out.cell (World.block_lt_of_cell? w _ hw145_2)).trans hw145_2), ((HB.out.cell (World.block_lt_of_cell? w _ hw145_3)).trans hw145_3), ((HB.out.cell (World.block_lt_of_cell? w _ hw145_4)).trans hw145_4), ((HB.out.cell (World.block_lt_of_cell? w _ hw145_5)).trans hw145_5), ((HB.out.cell (World.block_lt_of_cell? w _ hw146_0)).trans hw146_0), ((HB.out.cell (World.block_lt_of_cell? w _ hw146_1)).trans hw146_1), ((HB.out.cell (World.block_lt_of_cell? w _ hw146_2)).trans hw146_2), ((HB.out.cell (World.block_lt_of_cell? w _ hw146_3)).trans hw146_3), ((HB.out.cell (World.block_lt_of_cell? w _ hw146_4)).trans hw146_4), ((HB.out.cell (World.block_lt_of_cell? w _ hw146_5)).trans hw146_5)⟩ (fun hHeld => ?_); refine with_tabW calibrate_Error.tab8 calibrate_Error.bits8 (fun HT_ HW_ => ?_)
                  generalize wr.drew = w15 at HO_24 BK138 BK143 HB hx145_0 hx145_1 hx145_2 hx145_3 hx145_4 hx145_5 hx146_0 hx146_1 hx146_2 hx146_3 hx146_4 hx146_5 hHeld ⊢
                  refine pure_ (i := 0) (N := some 30) (v := ?_) (a' := ?_) #[true, false, false, false, false, false, false, false, false, false, false, false, false, false, false, false] rfl rfl (any_of HT_.out (by kernel_rfl)) (fun _ _ _ h => h) (Or.inl ⟨by rfl, ?_⟩) ?_ ?_
                  rotate_left
                  · intro w'
                    go_simp
                    with_reducible rfl
                  rotate_left
                  · simp only [Act.put, List.setIfInBounds_toArray, List.set_cons_zero, List.set_cons_succ, i64_w, i32_w]
                    rfl
                  refine pure_ (i := 2) (N := some 32) (v := ?_) (a' := ?_) #[true, false, true, false, false, false, false, false, false, false, false, false, false, false, false, false] rfl rfl (any_of HT_.out (by kernel_rfl)) (fun _ _ _ h => h) (Or.inl ⟨by rfl, ?_⟩) ?_ ?_
                  rotate_left
                  · intro w'
                    go_simp
                    with_reducible rfl
                  rotate_left
                  · simp only [Act.put, List.setIfInBounds_toArray, List.set_cons_zero, List.set_cons_succ, i64_w, i32_w]
                    rfl
                  refine pure_ (i := 3) (N := some 33) (v := ?_) (a' := ?_) #[true, false, true, true, false, false, false, false, false, false, false, false, false, false, false, false] rfl rfl (any_of HT_.out (by kernel_rfl)) (fun _ _ _ h => h) (Or.inl ⟨by rfl, ?_⟩) ?_ ?_
                  rotate_left
                  · intro w'
                    go_simp
                    with_reducible rfl
                  rotate_left
                  · simp only [Act.put, List.setIfInBounds_toArray, List.set_cons_zero, List.set_cons_succ, i64_w, i32_w]
                    rfl
                  refine pure_ (i := 4) (N := some 34) (v := ?_) (a' := ?_) #[true, false, true, true, true, false, false, false, false, false, false, false, false, false, false, false] rfl rfl (any_of HT_.out (by kernel_rfl)) (fun _ _ _ h => h) (Or.inl ⟨by rfl, ?_⟩) ?_ ?_
                  rotate_left
                  · intro w'
                    go_simp
                    with_reducible rfl
                  rotate_left
                  · simp only [Act.put, List.setIfInBounds_toArray, List.set_cons_zero, List.set_cons_succ, i64_w, i32_w]
                    rfl
                  refine pure_ (i := 5) (N := some 35) (v := ?_) (a' := ?_) #[true, false, true, true, true, true, false, false, false, false, false, false, false, false, false, false] rfl rfl (any_of HT_.out (by kernel_rfl)) (fun _ _ _ h => h) (Or.inl ⟨by rfl, ?_⟩) ?_ ?_
                  rotate_left
                  · intro w'
                    go_simp
                    with_reducible rfl
                  rotate_left
                  · simp only [Act.put, List.setIfInBounds_toArray, List.set_cons_zero, List.set_cons_succ, i64_w, i32_w]
                    rfl
                  refine pure_ (i := 7) (N := some 37) (v := ?_) (a' := ?_) #[true, false, true, true, true, true, false, true, false, false, false, false, false, false, false, false] rfl rfl (any_of HT_.out (by kernel_rfl)) (fun _ _ _ h => h) (Or.inl ⟨by rfl, ?_⟩) ?_ ?_
                  rotate_left
                  · intro w'
                    go_simp
                    with_reducible rfl
                  rotate_left
                  · simp only [Act.put, List.setIfInBounds_toArray, List.set_cons_zero, List.set_cons_succ, i64_w, i32_w]
                    rfl
                  refine pure_ (i := 8) (N := some 38) (v := ?_) (a' := ?_) #[true, false, true, true, true, true, false, true, true, false, false, false, false, false, false, false] rfl rfl (any_of HT_.out (by kernel_rfl)) (fun _ _ _ h => h) (Or.inl ⟨by rfl, ?_⟩) ?_ ?_
                  rotate_left
                  · intro w'
                    go_simp
                    with_reducible rfl
                  rotate_left
                  · simp only [Act.put, List.setIfInBounds_toArray, List.set_cons_zero, List.set_cons_succ, i64_w, i32_w]
                    rfl
                  refine pure_ (i := 9) (N := some 39) (v := ?_) (a' := ?_) #[true, false, true, true, true, true, false, true, true, true, false, false, false, false, false, false] rfl rfl (any_of HT_.out (by kernel_rfl)) (fun _ _ _ h => h) (Or.inl ⟨by rfl, ?_⟩) ?_ ?_
                  rotate_left
                  · intro w'
                    go_simp
                    with_reducible rfl
                  rotate_left
                  · simp only [Act.put, List.setIfInBounds_toArray, List.set_cons_zero, List.set_cons_succ, i64_w, i32_w]
                    rfl
                  refine pure_ (i := 10) (N := some 40) (v := ?_) (a' := ?_) #[true, false, true, true, true, true, false, true, true, true, true, false, false, false, false, false] rfl rfl (any_of HT_.out (by kernel_rfl)) (fun _ _ _ h => h) (Or.inl ⟨by rfl, ?_⟩) ?_ ?_
                  rotate_left
                  · intro w'
                    go_simp
                    with_reducible rfl
                  rotate_left
                  · simp only [Act.put, List.setIfInBounds_toArray, List.set_cons_zero, List.set_cons_succ, i64_w, i32_w]
                    rfl
                  refine take_ (i := 1) (N := some 31) (v := ?_) (a' := ?_) #[true, true, true, true, true, true, false, true, true, true, true, false, false, false, false, false] rfl rfl (take_ofW HT_.out HW_.out (by kernel_rfl)) (fun _ _ _ h => h) (Or.inl ⟨by rfl, ?_⟩) hHeld ?_ ?_
                  rotate_left
                  · rintro w' ⟨s0, s1, s2, s3, s4, s5, s6, s7, s8, s9, s10, s11, s12, s13⟩
                    go_simp
                    with_reducible rfl
                  rotate_left
                  · simp only [Act.put, List.setIfInBounds_toArray, List.set_cons_zero, List.set_cons_succ, i64_w, i32_w]
                    rfl
                  refine take_ (i := 6) (N := some 36) (v := ?_) (a' := ?_) #[true, true, true, true, true, true, true, true, true, true, true, false, false, false, false, false] rfl rfl (take_ofW HT_.out HW_.out (by kernel_rfl)) (fun _ _ _ h => h) (Or.inl ⟨by rfl, ?_⟩) hHeld ?_ ?_
                  rotate_left
                  · rintro w' ⟨s0, s1, s2, s3, s4, s5, s6, s7, s8, s9, s10, s11, s12, s13⟩
                    go_simp
                    with_reducible rfl
                  rotate_left
                  · simp only [Act.put, List.setIfInBounds_toArray, List.set_cons_zero, List.set_cons_succ, i64_w, i32_w]
                    rfl
                  refine take_ (i := 11) (N := some 41) (v := ?_) (a' := ?_) #[true, true, true, true, true, true, true, true, true, true, true, true, false, false, false, false] rfl rfl (take_ofW HT_.out HW_.out (by kernel_rfl)) (fun _ _ _ h => h) (Or.inl ⟨by rfl, ?_⟩) hHeld ?_ ?_
                  rotate_left
                  · rintro w' ⟨s0, s1, s2, s3, s4, s5, s6, s7, s8, s9, s10, s11, s12, s13⟩
                    go_simp
                    with_reducible rfl
                  rotate_left
                  · simp only [Act.put, List.setIfInBounds_toArray, List.set_cons_zero, List.set_cons_succ, i64_w, i32_w]
                    rfl
                  refine pure_ (i := 12) (N := some 42) (v := ?_) (a' := ?_) #[true, true, true, true, true, true, true, true, true, true, true, true, true, false, false, false] rfl rfl (any_of HT_.out (by kernel_rfl)) (fun _ _ _ h => h) (Or.inl ⟨by rfl, ?_⟩) ?_ ?_
                  rotate_left
                  · intro w'
                    go_simp
                    with_reducible rfl
                  rotate_left
                  · simp only [Act.put, List.setIfInBounds_toArray, List.set_cons_zero, List.set_cons_succ, i64_w, i32_w]
                    rfl
                  refine pure_ (i := 13) (N := some 43) (v := ?_) (a' := ?_) #[true, true, true, true, true, true, true, true, true, true, true, true, true, true, false, false] rfl rfl (any_of HT_.out (by kernel_rfl)) (fun _ _ _ h => h) (Or.inl ⟨by rfl, ?_⟩) ?_ ?_
                  rotate_left
                  · intro w'
                    go_simp
                    with_reducible rfl
                  rotate_left
                  · simp only [Act.put, List.setIfInBounds_toArray, List.set_cons_zero, List.set_cons_succ, i64_w, i32_w]
                    rfl
                  refine pure_ (i := 14) (N := some 44) (v := ?_) (a' := ?_) #[true, true, true, true, true, true, true, true, true, true, true, true, true, true, true, false] rfl rfl (any_of HT_.out (by kernel_rfl)) (fun _ _ _ h => h) (Or.inl ⟨by rfl, ?_⟩) ?_ ?_
                  rotate_left
                  · intro w'
                    go_simp
                    with_reducible rfl
                  rotate_left
                  · simp only [Act.put, List.setIfInBounds_toArray, List.set_cons_zero, List.set_cons_succ, i64_w, i32_w]
                    rfl
                  refine last_ (i := 15) (N := none) #[true, true, true, true, true, true, true, true, true, true, true, true, true, true, true, true] rfl rfl (one_of HT_.out (by kernel_rfl)) (by decide) (fun K hK => ?_)
                  have hs16 : w15.cell? ⟨gb143, 0, none⟩ = some (.int .i64 x144000_1) := (blk_cell BK143.out 0).trans rfl
                  have hfs16 := blk_frozen BK143.out 0
                  have hns16_0 := NB138_143.out
                  have hms16_0 := NB143_138.out
                  refine skip_ (w1 := ?_) (by rfl) rfl ?_ ?_
                  rotate_left
                  · go_simp
                    rfl
                  refine hK.out _ _ ?_
                  clear hK K
                  refine done_ (done_of HT_.out (by kernel_rfl)) ?_
                  try go_wp2
                  have n0_ : Aside0 (Kd.R (Kd.int .i64) 3 (w15.setCell ⟨gb143, 0, none⟩ (.int .i64 (wrap64 (x144000_1 + (wrap64 (((rd_T68 l0 (rd t139 x26_1)).f2) - ((rd_T68 l0 (rd t139 x26_1)).f3))))))) w.heap.size (fun _ => True) (.slice (some ad144) t139.length co9) t139) := ⟨by (with_reducible repeat (first | apply Kd.R_alloc | apply Kd.R_drewN | apply Kd.R_drew)); exact Kd.R_mono (Kd.R_far (p := ⟨gb143, 0, none⟩) (Kd.R_types HO_24.out BK143.out (by decide)) (fun _ hk => hk.2) (.int .i64 (wrap64 (x144000_1 + (wrap64 (((rd_T68 l0 (rd t139 x26_1)).f2) - ((rd_T68 l0 (rd t139 x26_1)).f3))))))) (fun _ hk => trivial)⟩
                  have n1_ : Aside0 ((w15.setCell ⟨gb143, 0, none⟩ (.int .i64 (wrap64 (x144000_1 + (wrap64 (((rd_T68 l0 (rd t139 x26_1)).f2) - ((rd_T68 l0 (rd t139 x26_1)).f3))))))).heap[gb138]? = some (.cells #[.int .i64 0, .int .i64 0] 25 (0, 0))) := ⟨by (with_reducible repeat (first | refine blk_drewN ?_ _ | refine blk_drew ?_ | refine blk_alloc ?_ _)); refine blk_far ?_ NB138_143.out _; (with_reducible repeat (first | refine blk_drewN ?_ _ | refine blk_drew ?_ | refine blk_alloc ?_ _)); exact BK138.out⟩
                  have n2_ : Aside0 ((w15.setCell ⟨gb143, 0, none⟩ (.int .i64 (wrap64 (x144000_1 + (wrap64 (((rd_T68 l0 (rd t139 x26_1)).f2) - ((rd_T68 l0 (rd t139 x26_1)).f3))))))).heap[gb143]? = some (.cells #[.int .i64 (wrap64 (x144000_1 + (wrap64 (((rd_T68 l0 (rd t139 x26_1)).f2) - ((rd_T68 l0 (rd t139 x26_1)).f3))))), .int .i64 x144001_1] 25 (0, 0))) := ⟨by (with_reducible repeat (first | refine blk_drewN ?_ _ | refine blk_drew ?_ | refine blk_alloc ?_ _)); refine blk_put (cs := #[.int .i64 x144000_1, .int .i64 x144001_1]) ?_ 0 _ rfl; (with_reducible repeat (first | refine blk_drewN ?_ _ | refine blk_drew ?_ | refine blk_alloc ?_ _)); exact BK143.out⟩
                  have n3_ : Aside0 (Below w.heap.size w (w15.setCell ⟨gb143, 0, none⟩ (.int .i64 (wrap64 (x144000_1 + (wrap64 (((rd_T68 l0 (rd t139 x26_1)).f2) - ((rd_T68 l0 (rd t139 x26_1)).f3)))))))) := ⟨by repeat (first | (with_reducible first | exact HB.out | apply below_alloc | apply pw_below_drewN | apply below_drew1 | refine below_set ?_ GE138.out | refine below_set ?_ GE143.out) | exact HB.out)⟩
                  (try clear HO_24)
                  (try clear BK138)
                  (try clear BK143)
                  (try clear HB)
                  generalize (w15.setCell ⟨gb143, 0, none⟩ (.int .i64 (wrap64 (x144000_1 + (wrap64 (((rd_T68 l0 (rd t139 x26_1)).f2) - ((rd_T68 l0 (rd t139 x26_1)).f3))))))) = w17 at n0_ n1_ n2_ n3_ ⊢
                  have HO_24 := n0_
                  have BK138 := n1_
                  have BK143 := n2_
                  have HB := n3_
                  clear n0_ n1_ n2_ n3_
                  have n0_ := Aside0.mk (Kd.R_drew HO_24.out)
                  have n1_ := Aside0.mk (blk_drew BK138.out)
                  have n2_ := Aside0.mk (blk_drew BK143.out)
                  have n3_ := Aside0.mk (below_drew1 HB.out)
                  clear HO_24
                  clear BK138
                  clear BK143
                  clear HB
                  have HO_24 := n0_
                  have BK138 := n1_
                  have BK143 := n2_
                  have HB := n3_
                  clear n0_ n1_ n2_ n3_
                  have p147 : 0 ≤ ((rd t139 x26_1) : Int) := of_decide_eq_true (by first | (with_reducible assumption) | assumption)
                  have q147 : (rd t139 x26_1) < (l0.length : Int) := of_decide_eq_true (by first | (with_reducible assumption) | assumption)
                  obtain ⟨ad147, e147, hx147_0, hx147_1, hx147_2, hx147_3, hx147_4, hx147_5⟩ := at_T68 HR0.out (rd t139 x26_1) p147 q147
                  have hw147_5 := hx147_5
                  have hw147_4 := hx147_4
                  have hw147_3 := hx147_3
                  have hw147_2 := hx147_2
                  have hw147_1 := hx147_1
                  have hw147_0 := hx147_0
                  obtain rfl : ad145 = ad147 := (by injection e147)
                  replace hx147_0 := (HB.out.cell (World.block_lt_of_cell? w _ hx147_0)).trans hx147_0
                  replace hx147_1 := (HB.out.cell (World.block_lt_of_cell? w _ hx147_1)).trans hx147_1
                  replace hx147_2 := (HB.out.cell (World.block_lt_of_cell? w _ hx147_2)).trans hx147_2
                  replace hx147_3 := (HB.out.cell (World.block_lt_of_cell? w _ hx147_3)).trans hx147_3
                  replace hx147_4 := (HB.out.cell (World.block_lt_of_cell? w _ hx147_4)).trans hx147_4
                  replace hx147_5 := (HB.out.cell (World.block_lt_of_cell? w _ hx147_5)).trans hx147_5
                  replace p147 := eq_true p147
                  replace q147 := eq_true q147
                  have p148 : 0 ≤ ((rd t139 x26_1) : Int) := of_decide_eq_true (by first | (with_reducible assumption) | assumption)
                  have q148 : (rd t139 x26_1) < (l0.length : Int) := of_decide_eq_true (by first | (with_reducible assumption) | assumption)
                  obtain ⟨ad148, e148, hx148_0, hx148_1, hx148_2, hx148_3, hx148_4, hx148_5⟩ := at_T68 HR0.out (rd t139 x26_1) p148 q148
                  have hw148_5 := hx148_5
                  have hw148_4 := hx148_4
                  have hw148_3 := hx148_3
                  have hw148_2 := hx148_2
                  have hw148_1 := hx148_1
                  have hw148_0 := hx148_0
                  obtain rfl : ad145 = ad148 := (by injection e148)
                  replace hx148_0 := (HB.out.cell (World.block_lt_of_cell? w _ hx148_0)).trans hx148_0
                  replace hx148_1 := (HB.out.cell (World.block_lt_of_cell? w _ hx148_1)).trans hx148_1
                  replace hx148_2 := (HB.out.cell (World.block_lt_of_cell? w _ hx148_2)).trans hx148_2
                  replace hx148_3 := (HB.out.cell (World.block_lt_of_cell? w _ hx148_3)).trans hx148_3
                  replace hx148_4 := (HB.out.cell (World.block_lt_of_cell? w _ hx148_4)).trans hx148_4
                  replace hx148_5 := (HB.out.cell (World.block_lt_of_cell? w _ hx148_5)).trans hx148_5
                  replace p148 := eq_true p148
                  replace q148 := eq_true q148
                  refine start_ (n := 16) (S := fun w' => w'.cell? ⟨gb143, 0, none⟩ = some (.int .i64 (wrap64 (x144000_1 + (wrap64 (((rd_T68 l0 (rd t139 x26_1)).f2) - ((rd_T68 l0 (rd t139 x26_1)).f3)))))) ∧ w'.cell? ⟨gb143, 1, none⟩ = some (.int .i64 x144001_1) ∧ w'.cell? (ad145.add (((rd t139 x26_1)).toNat * 6)) = some (.string ((rd_T68 l0 (rd t139 x26_1)).f0)) ∧ w'.cell? ⟨(ad145.add (((rd t139 x26_1)).toNat * 6)).block, (ad145.add (((rd t139 x26_1)).toNat * 6)).off + 1, none⟩ = some (.string ((rd_T68 l0 (rd t139 x26_1)).f1)) ∧ w'.cell? ⟨(ad145.add (((rd t139 x26_1)).toNat * 6)).block, (ad145.add (((rd t139 x26_1)).toNat * 6)).off + 2, none⟩ = some (.int .i64 ((rd_T68 l0 (rd t139 x26_1)).f2)) ∧ w'.cell? ⟨(ad145.add (((rd t139 x26_1)).toNat * 6)).block, (ad145.add (((rd t139 x26_1)).toNat * 6)).off + 3, none⟩ = some (.int .i64 ((rd_T68 l0 (rd t139 x26_1)).f3)) ∧ w'.cell? ⟨(ad145.add (((rd t139 x26_1)).toNat * 6)).block, (ad145.add (((rd t139 x26_1)).toNat * 6)).off + 4, none⟩ = some (.int .i64 ((rd_T68 l0 (rd t139 x26_1)).f4)) ∧ w'.cell? ⟨(ad145.add (((rd t139 x26_1)).toNat * 6)).block, (ad145.add (((rd t139 x26_1)).toNat * 6)).off + 5, none⟩ = some (.int .i64 ((rd_T68 l0 (rd t139 x26_1)).f5)) ∧ w'.cell? (ad145.add (((rd t139 x26_1)).toNat * 6)) = some (.string ((rd_T68 l0 (rd t139 x26_1)).f0)) ∧ w'.cell? ⟨(ad145.add (((rd t139 x26_1)).toNat * 6)).block, (ad145.add (((rd t139 x26_1)).toNat * 6)).off + 1, none⟩ = some (.string ((rd_T68 l0 (rd t139 x26_1)).f1)) ∧ w'.cell? ⟨(ad145.add (((rd t139 x26_1)).toNat * 6)).block, (ad145.add (((rd t139 x26_1)).toNat * 6)).off + 2, none⟩ = some (.int .i64 ((rd_T68 l0 (rd t139 x26_1)).f2)) ∧ w'.cell? ⟨(ad145.add (((rd t139 x26_1)).toNat * 6)).block, (ad145.add (((rd t139 x26_1)).toNat * 6)).off + 3, none⟩ = some (.int .i64 ((rd_T68 l0 (rd t139 x26_1)).f3)) ∧ w'.cell? ⟨(ad145.add (((rd t139 x26_1)).toNat * 6)).block, (ad145.add (((rd t139 x26_1)).toNat * 6)).off + 4, none⟩ = some (.int .i64 ((rd_T68 l0 (rd t139 x26_1)).f4)) ∧ w'.cell? ⟨(ad145.add (((rd t139 x26_1)).toNat * 6)).block, (ad145.add (((rd t139 x26_1)).toNat * 6)).off + 5, none⟩ = some (.int .i64 ((rd_T68 l0 (rd t139 x26_1)).f5))) (ds := [15]) #[false, false, false, false, false, false, false, false, false, false, false, false, false, false, false, false] (by kernel_rfl) rfl rfl ⟨(blk_cell BK143.out 0).trans rfl, (blk_cell BK143.out 1).trans rfl, ((HB.out.cell (World.block_lt_of_cell? w _ hw147_0)).trans hw147_0), ((HB.out.cell (World.block_lt_of_cell? w _ hw147_1)).trans hw147_1), ((HB.out.cell (World.block_lt_of_cell? w _ hw147_2)).trans hw147_2), ((HB.out.cell (World.block_lt_of_cell? w _ hw147_3)).trans hw147_3), ((HB.out.cell (World.block_lt_of_cell? w _ hw147_4)).trans hw147_4), ((HB.out.cell (World.block_lt_of_cell? w _ hw147_5)).trans hw147_5), ((HB.out.cell (World.block_lt_of_cell? w _ hw148_0)).trans hw148_0), ((HB.out.cell (World.block_lt_of_cell? w _ hw148_1)).trans hw148_1), ((HB.out.cell (World.block_lt_of_cell? w _ hw148_2)).trans hw148_2), ((HB.out.cell (World.block_lt_of_cell? w _ hw148_3)).trans hw148_3), ((HB.out.cell (World.block_lt_of_cell? w _ hw148_4)).trans hw148_4), ((HB.out.cell (World.block_lt_of_cell? w _ hw148_5)).trans hw148_5)⟩ (fun hHeld => ?_); refine with_tabW calibrate_Error.tab9 calibrate_Error.bits9 (fun HT_ HW_ => ?_)
                  generalize w17.drew = w18 at HO_24 BK138 BK143 HB hx147_0 hx147_1 hx147_2 hx147_3 hx147_4 hx147_5 hx148_0 hx148_1 hx148_2 hx148_3 hx148_4 hx148_5 hHeld ⊢
                  refine pure_ (i := 0) (N := some 45) (v := ?_) (a' := ?_) #[true, false, false, false, false, false, false, false, false, false, false, false, false, false, false, false] rfl rfl (any_of HT_.out (by kernel_rfl)) (fun _ _ _ h => h) (Or.inl ⟨by rfl, ?_⟩) ?_ ?_
                  rotate_left
                  · intro w'
                    go_simp
                    with_reducible rfl
                  rotate_left
                  · simp only [Act.put, List.setIfInBounds_toArray, List.set_cons_zero, List.set_cons_succ, i64_w, i32_w]
                    rfl
                  refine pure_ (i := 2) (N := some 47) (v := ?_) (a' := ?_) #[true, false, true, false, false, false, false, false, false, false, false, false, false, false, false, false] rfl rfl (any_of HT_.out (by kernel_rfl)) (fun _ _ _ h => h) (Or.inl ⟨by rfl, ?_⟩) ?_ ?_
                  rotate_left
                  · intro w'
                    go_simp
                    with_reducible rfl
                  rotate_left
                  · simp only [Act.put, List.setIfInBounds_toArray, List.set_cons_zero, List.set_cons_succ, i64_w, i32_w]
                    rfl
                  refine pure_ (i := 3) (N := some 48) (v := ?_) (a' := ?_) #[true, false, true, true, false, false, false, false, false, false, false, false, false, false, false, false] rfl rfl (any_of HT_.out (by kernel_rfl)) (fun _ _ _ h => h) (Or.inl ⟨by rfl, ?_⟩) ?_ ?_
                  rotate_left
                  · intro w'
                    go_simp
                    with_reducible rfl
                  rotate_left
                  · simp only [Act.put, List.setIfInBounds_toArray, List.set_cons_zero, List.set_cons_succ, i64_w, i32_w]
                    rfl
                  refine pure_ (i := 4) (N := some 49) (v := ?_) (a' := ?_) #[true, false, true, true, true, false, false, false, false, false, false, false, false, false, false, false] rfl rfl (any_of HT_.out (by kernel_rfl)) (fun _ _ _ h => h) (Or.inl ⟨by rfl, ?_⟩) ?_ ?_
                  rotate_left
                  · intro w'
                    go_simp
                    with_reducible rfl
                  rotate_left
                  · simp only [Act.put, List.setIfInBounds_toArray, List.set_cons_zero, List.set_cons_succ, i64_w, i32_w]
                    rfl
                  refine pure_ (i := 5) (N := some 50) (v := ?_) (a' := ?_) #[true, false, true, true, true, true, false, false, false, false, false, false, false, false, false, false] rfl rfl (any_of HT_.out (by kernel_rfl)) (fun _ _ _ h => h) (Or.inl ⟨by rfl, ?_⟩) ?_ ?_
                  rotate_left
                  · intro w'
                    go_simp
                    with_reducible rfl
                  rotate_left
                  · simp only [Act.put, List.setIfInBounds_toArray, List.set_cons_zero, List.set_cons_succ, i64_w, i32_w]
                    rfl
                  refine pure_ (i := 7) (N := some 52) (v := ?_) (a' := ?_) #[true, false, true, true, true, true, false, true, false, false, false, false, false, false, false, false] rfl rfl (any_of HT_.out (by kernel_rfl)) (fun _ _ _ h => h) (Or.inl ⟨by rfl, ?_⟩) ?_ ?_
                  rotate_left
                  · intro w'
                    go_simp
                    with_reducible rfl
                  rotate_left
                  · simp only [Act.put, List.setIfInBounds_toArray, List.set_cons_zero, List.set_cons_succ, i64_w, i32_w]
                    rfl
                  refine pure_ (i := 8) (N := some 53) (v := ?_) (a' := ?_) #[true, false, true, true, true, true, false, true, true, false, false, false, false, false, false, false] rfl rfl (any_of HT_.out (by kernel_rfl)) (fun _ _ _ h => h) (Or.inl ⟨by rfl, ?_⟩) ?_ ?_
                  rotate_left
                  · intro w'
                    go_simp
                    with_reducible rfl
                  rotate_left
                  · simp only [Act.put, List.setIfInBounds_toArray, List.set_cons_zero, List.set_cons_succ, i64_w, i32_w]
                    rfl
                  refine pure_ (i := 9) (N := some 54) (v := ?_) (a' := ?_) #[true, false, true, true, true, true, false, true, true, true, false, false, false, false, false, false] rfl rfl (any_of HT_.out (by kernel_rfl)) (fun _ _ _ h => h) (Or.inl ⟨by rfl, ?_⟩) ?_ ?_
                  rotate_left
                  · intro w'
                    go_simp
                    with_reducible rfl
                  rotate_left
                  · simp only [Act.put, List.setIfInBounds_toArray, List.set_cons_zero, List.set_cons_succ, i64_w, i32_w]
                    rfl
                  refine pure_ (i := 10) (N := some 55) (v := ?_) (a' := ?_) #[true, false, true, true, true, true, false, true, true, true, true, false, false, false, false, false] rfl rfl (any_of HT_.out (by kernel_rfl)) (fun _ _ _ h => h) (Or.inl ⟨by rfl, ?_⟩) ?_ ?_
                  rotate_left
                  · intro w'
                    go_simp
                    with_reducible rfl
                  rotate_left
                  · simp only [Act.put, List.setIfInBounds_toArray, List.set_cons_zero, List.set_cons_succ, i64_w, i32_w]
                    rfl
                  refine take_ (i := 1) (N := some 46) (v := ?_) (a' := ?_) #[true, true, true, true, true, true, false, true, true, true, true, false, false, false, false, false] rfl rfl (take_ofW HT_.out HW_.out (by kernel_rfl)) (fun _ _ _ h => h) (Or.inl ⟨by rfl, ?_⟩) hHeld ?_ ?_
                  rotate_left
                  · rintro w' ⟨s0, s1, s2, s3, s4, s5, s6, s7, s8, s9, s10, s11, s12, s13⟩
                    go_simp
                    with_reducible rfl
                  rotate_left
                  · simp only [Act.put, List.setIfInBounds_toArray, List.set_cons_zero, List.set_cons_succ, i64_w, i32_w]
                    rfl
                  refine take_ (i := 6) (N := some 51) (v := ?_) (a' := ?_) #[true, true, true, true, true, true, true, true, true, true, true, false, false, false, false, false] rfl rfl (take_ofW HT_.out HW_.out (by kernel_rfl)) (fun _ _ _ h => h) (Or.inl ⟨by rfl, ?_⟩) hHeld ?_ ?_
                  rotate_left
                  · rintro w' ⟨s0, s1, s2, s3, s4, s5, s6, s7, s8, s9, s10, s11, s12, s13⟩
                    go_simp
                    with_reducible rfl
                  rotate_left
                  · simp only [Act.put, List.setIfInBounds_toArray, List.set_cons_zero, List.set_cons_succ, i64_w, i32_w]
                    rfl
                  refine take_ (i := 11) (N := some 56) (v := ?_) (a' := ?_) #[true, true, true, true, true, true, true, true, true, true, true, true, false, false, false, false] rfl rfl (take_ofW HT_.out HW_.out (by kernel_rfl)) (fun _ _ _ h => h) (Or.inl ⟨by rfl, ?_⟩) hHeld ?_ ?_
                  rotate_left
                  · rintro w' ⟨s0, s1, s2, s3, s4, s5, s6, s7, s8, s9, s10, s11, s12, s13⟩
                    go_simp
                    with_reducible rfl
                  rotate_left
                  · simp only [Act.put, List.setIfInBounds_toArray, List.set_cons_zero, List.set_cons_succ, i64_w, i32_w]
                    rfl
                  refine pure_ (i := 12) (N := some 57) (v := ?_) (a' := ?_) #[true, true, true, true, true, true, true, true, true, true, true, true, true, false, false, false] rfl rfl (any_of HT_.out (by kernel_rfl)) (fun _ _ _ h => h) (Or.inl ⟨by rfl, ?_⟩) ?_ ?_
                  rotate_left
                  · intro w'
                    go_simp
                    with_reducible rfl
                  rotate_left
                  · simp only [Act.put, List.setIfInBounds_toArray, List.set_cons_zero, List.set_cons_succ, i64_w, i32_w]
                    rfl
                  refine pure_ (i := 13) (N := some 58) (v := ?_) (a' := ?_) #[true, true, true, true, true, true, true, true, true, true, true, true, true, true, false, false] rfl rfl (any_of HT_.out (by kernel_rfl)) (fun _ _ _ h => h) (Or.inl ⟨by rfl, ?_⟩) ?_ ?_
                  rotate_left
                  · intro w'
                    go_simp
                    with_reducible rfl
                  rotate_left
                  · simp only [Act.put, List.setIfInBounds_toArray, List.set_cons_zero, List.set_cons_succ, i64_w, i32_w]
                    rfl
                  refine pure_ (i := 14) (N := some 59) (v := ?_) (a' := ?_) #[true, true, true, true, true, true, true, true, true, true, true, true, true, true, true, false] rfl rfl (any_of HT_.out (by kernel_rfl)) (fun _ _ _ h => h) (Or.inl ⟨by rfl, ?_⟩) ?_ ?_
                  rotate_left
                  · intro w'
                    go_simp
                    with_reducible rfl
                  rotate_left
                  · simp only [Act.put, List.setIfInBounds_toArray, List.set_cons_zero, List.set_cons_succ, i64_w, i32_w]
                    rfl
                  refine last_ (i := 15) (N := none) #[true, true, true, true, true, true, true, true, true, true, true, true, true, true, true, true] rfl rfl (one_of HT_.out (by kernel_rfl)) (by decide) (fun K hK => ?_)
                  have hs19 : w18.cell? ⟨gb143, 1, none⟩ = some (.int .i64 x144001_1) := (blk_cell BK143.out 1).trans rfl
                  have hfs19 := blk_frozen BK143.out 1
                  have hns19_0 := NB138_143.out
                  have hms19_0 := NB143_138.out
                  refine skip_ (w1 := ?_) (by rfl) rfl ?_ ?_
                  rotate_left
                  · go_simp
                    rfl
                  refine hK.out _ _ ?_
                  clear hK K
                  refine done_ (done_of HT_.out (by kernel_rfl)) ?_
                  try go_wp2
                  go_roundg k1
                  case measure => have := HK1.out; omega
                  case rel => exact ⟨(wrap64 (x26_1 + 1)), (wrap64 (x144000_1 + (wrap64 (((rd_T68 l0 (rd t139 x26_1)).f2) - ((rd_T68 l0 (rd t139 x26_1)).f3))))), (wrap64 (x144001_1 + (wrap64 (((rd_T68 l0 (rd t139 x26_1)).f2) + ((rd_T68 l0 (rd t139 x26_1)).f3))))), (by first | rfl | (simp; done) | (simp [*]; done)), H', ⟨by have := HK1.out; omega⟩, ⟨by (with_reducible repeat (first | apply Kd.R_alloc | apply Kd.R_drewN | apply Kd.R_drew)); exact Kd.R_mono (Kd.R_far (p := ⟨gb143, 1, none⟩) (Kd.R_types HO_24.out BK143.out (by decide)) (fun _ hk => hk.2) (.int .i64 (wrap64 (x144001_1 + (wrap64 (((rd_T68 l0 (rd t139 x26_1)).f2) + ((rd_T68 l0 (rd t139 x26_1)).f3))))))) (fun _ hk => trivial)⟩, ⟨by (with_reducible repeat (first | refine blk_drewN ?_ _ | refine blk_drew ?_ | refine blk_alloc ?_ _)); refine blk_far ?_ NB138_143.out _; (with_reducible repeat (first | refine blk_drewN ?_ _ | refine blk_drew ?_ | refine blk_alloc ?_ _)); exact BK138.out⟩, ⟨by (with_reducible repeat (first | refine blk_drewN ?_ _ | refine blk_drew ?_ | refine blk_alloc ?_ _)); refine blk_put (cs := #[.int .i64 (wrap64 (x144000_1 + (wrap64 (((rd_T68 l0 (rd t139 x26_1)).f2) - ((rd_T68 l0 (rd t139 x26_1)).f3))))), .int .i64 x144001_1]) ?_ 1 _ rfl; (with_reducible repeat (first | refine blk_drewN ?_ _ | refine blk_drew ?_ | refine blk_alloc ?_ _)); exact BK143.out⟩, ⟨by repeat (first | (with_reducible first | exact HB.out | apply below_alloc | apply pw_below_drewN | apply below_drew1 | refine below_set ?_ GE138.out | refine below_set ?_ GE143.out) | exact HB.out)⟩⟩
                · rw [if_neg c14] at H
                  exact absurd H (by simp)
              · rw [if_neg c13] at H
                exact absurd H (by simp)
            · rw [if_neg c12] at H
              exact absurd H (by simp)
          · rw [if_neg c11] at H
            exact absurd H (by simp)
        · rw [if_neg c10] at H
          have c10b0 : decide (x26_1 < (t139.length : Int)) = false := decide_eq_false c10
          clear c10
          simp only [Option.some.injEq, Prod.mk.injEq] at H
          obtain ⟨rfl, rfl, rfl⟩ := H
          have hnb20 := NB143_138.out
          have hnc20 := NB138_143.out
          have hcz21_0 : wr.cell? ⟨gb143, 0, none⟩ = some (.int .i64 x144000_1) := (blk_cell BK143.out 0).trans rfl
          have hcz21_1 : wr.cell? ⟨gb143, 1, none⟩ = some (.int .i64 x144001_1) := (blk_cell BK143.out 1).trans rfl
          have hfz21_0 := blk_frozen BK143.out 0
          have hfz21_1 := blk_frozen BK143.out 1
          have hcz22_0 : wr.cell? ⟨gb138, 0, none⟩ = some (.int .i64 0) := (blk_cell BK138.out 0).trans rfl
          have hcz22_1 : wr.cell? ⟨gb138, 1, none⟩ = some (.int .i64 0) := (blk_cell BK138.out 1).trans rfl
          have hfz22_0 := blk_frozen BK138.out 0
          have hfz22_1 := blk_frozen BK138.out 1
          go_wp2
          refine bodyPost_ret (results_ct rfl _ _ gb138 25 #[.int .i64 x144000_1, .int .i64 x144001_1] (0, 0) _ rfl (by (with_reducible repeat (first | refine blk_drewN ?_ _ | refine blk_drew ?_ | refine blk_alloc ?_ _)); refine blk_put (cs := #[.int .i64 x144000_1, .int .i64 0]) ?_ 1 _ rfl; (with_reducible repeat (first | refine blk_drewN ?_ _ | refine blk_drew ?_ | refine blk_alloc ?_ _)); refine blk_put (cs := #[.int .i64 0, .int .i64 0]) ?_ 0 _ rfl; (with_reducible repeat (first | refine blk_drewN ?_ _ | refine blk_drew ?_ | refine blk_alloc ?_ _)); exact BK138.out) Try.underlying25 rfl (by kernel_rfl)) rfl ?_
          exact ⟨by first | rfl | (simp [errW_none, errW_some] <;> rfl) | (simp [*, errW_none, errW_some] <;> rfl), by repeat (first | (with_reducible first | exact HB.out | apply below_alloc | apply pw_below_drewN | apply below_drew1 | refine below_set ?_ GE138.out | refine below_set ?_ GE143.out) | exact HB.out)⟩
  · rw [if_neg c5] at H
    have c5b0 : (t140 == 0) = false := beq_eq_false_iff_ne.mpr c5
    have c5b1 : (t140 != 0) = true := bne_iff_ne.mpr c5
    simp only [Option.some.injEq, Prod.mk.injEq] at H
    obtain ⟨rfl, rfl, rfl⟩ := H
    go_enter Try.func61, Try.ntmps61
    go_wp2_with (first | ((with_reducible refine gate_dst (N := 6) rfl ?_); refine box_event ?hg (N := 6) ?hd (cs := #[.int .i64 0, .int .i64 0]) (t := 25) ?hr ?_; (case hd => rfl); (case hg => rfl); (case hr => first | (go_simp; done) | (go_simp; rfl)); intro gb138 hg w23 hbox hb; have n0_ := Aside0.mk (below_step (by repeat (first | (with_reducible first | exact HB.out | apply below_alloc | apply pw_below_drewN | apply below_drew1) | exact HB.out)) hb); have n1_ := Aside0.mk (hbox); have n2_ := Aside0.mk ((by rw [hg]; exact (below_size (by repeat (first | (with_reducible first | exact HB.out | apply below_alloc | apply pw_below_drewN | apply below_drew1) | exact HB.out))) : w.heap.size ≤ gb138)); have n3_ := Aside0.mk ((by rw [hg]; exact (below_size (by repeat (first | (with_reducible first | exact HB.out | apply below_alloc | apply pw_below_drewN | apply below_drew1) | exact HB.out))) : w.heap.size ≤ gb138)); clear HB; have HB := n0_; have BK138 := n1_; have GW138 := n2_; have GE138 := n3_; clear n0_ n1_ n2_ n3_; clear hb hbox hg) | ((with_reducible refine gate_callee (f := 44) rfl ?_); refine goesL_ (some 17) rfl rfl Try.func44 (by kernel_rfl) rfl #[.slice A0 l0.length c0, .string a1, .int .i64 a2] rfl (by (try simp only [List.map_toArray, List.map_cons, List.map_nil]); first | done | rfl | (simp only [List.length_drop, List.length_take]; rfl)) ?_; (with_reducible refine (calibrate_Chain.calls k _ _ l0 a1 a2 t139 t140 _ ?side1 ?side2 A4.out).mono ?_); (case side1 => repeat (first | exact (Kd.C_below HR0.out HB.out) | (with_reducible refine Kd.C_alloc ?_ _) | (with_reducible refine Kd.C_drewN ?_ _) | (with_reducible refine Kd.C_drew ?_))); (case side2 => exact HC0.out); rintro e w24 ⟨v141, rfl, ho0, hb⟩; refine ⟨_, rfl, ?_⟩; have n0_ := Aside0.mk (Kd.R_lower ho0 (below_size (by repeat (first | (with_reducible first | exact HB.out | apply below_alloc | apply pw_below_drewN | apply below_drew1 | refine below_set ?_ GE138.out) | exact HB.out)))); have n1_ := Aside0.mk (blk_below (g := gb138) (o := .cells #[.int .i64 0, .int .i64 0] 25 (0, 0)) (by (with_reducible repeat (first | refine blk_drewN ?_ _ | refine blk_drew ?_ | refine blk_alloc ?_ _)); exact BK138.out) hb); have n2_ := Aside0.mk (below_step (by repeat (first | (with_reducible first | exact HB.out | apply below_alloc | apply pw_below_drewN | apply below_drew1 | refine below_set ?_ GE138.out) | exact HB.out)) hb); clear BK138; clear HB; have HO142 := n0_; have BK138 := n1_; have HB := n2_; clear n0_ n1_ n2_; (try clear hb); (try clear hb2); (try clear hk); (try clear hi); (try clear ho0); have hcz25_0 : w24.cell? ⟨gb138, 0, none⟩ = some (.int .i64 0) := (blk_cell BK138.out 0).trans rfl; have hcz25_1 : w24.cell? ⟨gb138, 1, none⟩ = some (.int .i64 0) := (blk_cell BK138.out 1).trans rfl; have hfz25_0 := blk_frozen BK138.out 0; have hfz25_1 := blk_frozen BK138.out 1))
    refine bodyPost_ret (results_ct rfl _ _ gb138 25 #[.int .i64 0, .int .i64 0] (0, 0) _ rfl (by (with_reducible repeat (first | refine blk_drewN ?_ _ | refine blk_drew ?_ | refine blk_alloc ?_ _)); refine blk_put (cs := #[.int .i64 0, .int .i64 0]) ?_ 1 _ rfl; (with_reducible repeat (first | refine blk_drewN ?_ _ | refine blk_drew ?_ | refine blk_alloc ?_ _)); refine blk_put (cs := #[.int .i64 0, .int .i64 0]) ?_ 0 _ rfl; (with_reducible repeat (first | refine blk_drewN ?_ _ | refine blk_drew ?_ | refine blk_alloc ?_ _)); exact BK138.out) Try.underlying25 rfl (by kernel_rfl)) rfl ?_
    exact ⟨by first | rfl | (simp [errW_none, errW_some] <;> rfl) | (simp [*, errW_none, errW_some] <;> rfl), by repeat (first | (with_reducible first | exact HB.out | apply below_alloc | apply pw_below_drewN | apply below_drew1 | refine below_set ?_ GE138.out) | exact HB.out)⟩
end Go.Proofs.Ytkgdlbepjmgaiaa.Cal
namespace Go.Proofs.Ytkgdlbepjmgaiaa.Cal
open Go.RowKit Go.Proofs.YtkgdlbepjmgaiaaW.PrintWords Go.Proofs.YtkgdlbepjmgaiaaW.PrintLast Go.Proofs.YtkgdlbepjmgaiaaW.PrintMore
attribute [local go_sem] max2_int min2_int max_two min_two max_three min_three max_four min_four
set_option linter.unusedVariables false
set_option linter.unusedSimpArgs false
def calibrate_Value.f (k : Nat) (l0 : List (S68)) (a1_0 : ByteArray) (a1_1 : Int) (a1_2 : Int) : Option (Int × Int × Int) := (calibrate_Error.f k l0 a1_0 a1_1).bind fun bt151 => (if bt151.2.2 = 0 then ((calibrate_ranged.f a1_2 (-100000) 100000).bind fun t155 => (if t155 = true then (some (wrap64 (a1_2 - bt151.2.1), wrap64 (a1_2 - bt151.1), 0)) else (some (0, 0, 2)))) else (some (0, 0, bt151.2.2)))
theorem calibrate_Value.mono : ∀ a0 a1 a2 a3 k, LeO (calibrate_Value.f k a0 a1 a2 a3) (calibrate_Value.f (k + 1) a0 a1 a2 a3) := by
  intro a0 a1 a2 a3 k
  unfold calibrate_Value.f
  repeat' first
      | (with_reducible exact calibrate_Error.mono _ _ _ _)
      | (with_reducible exact LeO.refl _)
      | (with_reducible exact LeO.none _)
      | (with_reducible refine LeO.ite ?_ ?_)
      | (with_reducible refine LeO.bind ?_ (fun _ => ?_))
      | exact calibrate_Error.mono _ _ _ _
      | exact LeO.none _
      | refine LeO.ite ?_ ?_
      | refine LeO.bind ?_ (fun _ => ?_)
set_option maxHeartbeats 8000000 in
set_option maxRecDepth 100000 in
theorem calibrate_Value.calls (k : Nat) (A0 : Option Addr) (c0 : Nat) (l0 : List (S68)) (a1_0 : ByteArray) (a1_1 : Int) (a1_2 : Int) (r1 : Int) (r2 : Int) (r3 : Int) (w : World) (hr0 : Kd.C k68 w A0 l0.length l0) (hc0 : l0.length ≤ c0) (h : calibrate_Value.f k l0 a1_0 a1_1 a1_2 = some (r1, r2, r3)) :
    Calls Try.prog 63 #[.slice A0 l0.length c0, .agg #[.string a1_0, .int .i64 a1_1, .int .i64 a1_2]] w fun e w' => e = .returned (.tuple #[.agg #[.int .i64 r1, .int .i64 r2], .int .i64 r3]) ∧ Below w.heap.size w w' := by
  have hu51 := Try.underlying51
  have hu25 := Try.underlying25
  have HR0 := Aside0.mk hr0
  have HC0 := Aside0.mk hc0
  clear hr0 hc0
  have HB := Aside0.mk (Below.refl w.heap.size w)
  have H : ((calibrate_Error.f k l0 a1_0 a1_1).bind fun bt151 => (if bt151.2.2 = 0 then ((calibrate_ranged.f a1_2 (-100000) 100000).bind fun t155 => (if t155 = true then (some (wrap64 (a1_2 - bt151.2.1), wrap64 (a1_2 - bt151.1), 0)) else (some (0, 0, 2)))) else (some (0, 0, bt151.2.2)))) = some (r1, r2, r3) := h
  clear h
  replace H := Option.bind_eq_some_iff.mp H
  obtain ⟨⟨t151, t152, t153⟩, A30, H⟩ := H
  replace H : (if t153 = 0 then ((calibrate_ranged.f a1_2 (-100000) 100000).bind fun t155 => (if t155 = true then (some (wrap64 (a1_2 - t152), wrap64 (a1_2 - t151), 0)) else (some (0, 0, 2)))) else (some (0, 0, t153))) = some (r1, r2, r3) := H
  have A3 := Aside0.mk A30
  clear A30
  by_cases c4 : t153 = 0
  · rw [if_pos c4] at H
    have c4b0 : (t153 == 0) = true := beq_iff_eq.mpr c4
    have c4b1 : (t153 != 0) = false := bne_eq_false_iff_eq.mpr c4
    clear c4
    replace H := Option.bind_eq_some_iff.mp H
    obtain ⟨t155, A50, H⟩ := H
    replace H : (if t155 = true then (some (wrap64 (a1_2 - t152), wrap64 (a1_2 - t151), 0)) else (some (0, 0, 2))) = some (r1, r2, r3) := H
    have A5 := Aside0.mk A50
    clear A50
    by_cases c6 : t155 = true
    · subst c6
      have H1 : (some (wrap64 (a1_2 - t152), wrap64 (a1_2 - t151), 0)) = some (r1, r2, r3) := by rw [if_pos rfl] at H; exact H
      clear H
      have H := H1
      clear H1
      simp only [Option.some.injEq, Prod.mk.injEq] at H
      obtain ⟨rfl, rfl, rfl⟩ := H
      go_enter Try.func63, Try.ntmps63
      go_wp2_with (first | ((with_reducible refine gate_dst (N := 3) rfl ?_); refine box_event ?hg (N := 3) ?hd (cs := #[.string a1_0, .int .i64 a1_1, .int .i64 a1_2]) (t := 51) ?hr ?_; (case hd => rfl); (case hg => rfl); (case hr => first | (go_simp; done) | (go_simp; rfl)); intro gb149 hg w7 hbox hb; have n0_ := Aside0.mk (below_step (by repeat (first | (with_reducible first | exact HB.out | apply below_alloc | apply pw_below_drewN | apply below_drew1) | exact HB.out)) hb); have n1_ := Aside0.mk (hbox); have n2_ := Aside0.mk ((by rw [hg]; exact (below_size (by repeat (first | (with_reducible first | exact HB.out | apply below_alloc | apply pw_below_drewN | apply below_drew1) | exact HB.out))) : w.heap.size ≤ gb149)); have n3_ := Aside0.mk ((by rw [hg]; exact (below_size (by repeat (first | (with_reducible first | exact HB.out | apply below_alloc | apply pw_below_drewN | apply below_drew1) | exact HB.out))) : w.heap.size ≤ gb149)); clear HB; have HB := n0_; have BK149 := n1_; have GW149 := n2_; have GE149 := n3_; clear n0_ n1_ n2_ n3_; clear hb hbox hg) | ((with_reducible refine gate_dst (N := 4) rfl ?_); refine box_event ?hg (N := 4) ?hd (cs := #[.int .i64 0, .int .i64 0]) (t := 25) ?hr ?_; (case hd => rfl); (case hg => rfl); (case hr => first | (go_simp; done) | (go_simp; rfl)); intro gb150 hg w8 hbox hb; have n0_ := Aside0.mk (blk_below (g := gb149) (o := .cells #[.string a1_0, .int .i64 a1_1, .int .i64 a1_2] 51 (0, 0)) (by (with_reducible repeat (first | refine blk_drewN ?_ _ | refine blk_drew ?_ | refine blk_alloc ?_ _)); exact BK149.out) hb); have n1_ := Aside0.mk (below_step (by repeat (first | (with_reducible first | exact HB.out | apply below_alloc | apply pw_below_drewN | apply below_drew1 | refine below_set ?_ GE149.out) | exact HB.out)) hb); have n2_ := Aside0.mk (hbox); have n3_ := Aside0.mk ((by rw [hg]; exact (below_size (by repeat (first | (with_reducible first | exact HB.out | apply below_alloc | apply pw_below_drewN | apply below_drew1 | refine below_set ?_ GE149.out) | exact HB.out))) : w.heap.size ≤ gb150)); have n4_ := Aside0.mk ((by rw [hg]; exact (below_size (by repeat (first | (with_reducible first | exact HB.out | apply below_alloc | apply pw_below_drewN | apply below_drew1 | refine below_set ?_ GE149.out) | exact HB.out))) : w.heap.size ≤ gb150)); have n5_ := Aside0.mk ((by rw [hg]; exact Nat.ne_of_lt (blk_lt (g := gb149) (o := .cells #[.string a1_0, .int .i64 a1_1, .int .i64 a1_2] 51 (0, 0)) (by (with_reducible repeat (first | refine blk_drewN ?_ _ | refine blk_drew ?_ | refine blk_alloc ?_ _)); exact BK149.out)) : gb149 ≠ gb150)); have n6_ := Aside0.mk ((by rw [hg]; exact Nat.ne_of_gt (blk_lt (g := gb149) (o := .cells #[.string a1_0, .int .i64 a1_1, .int .i64 a1_2] 51 (0, 0)) (by (with_reducible repeat (first | refine blk_drewN ?_ _ | refine blk_drew ?_ | refine blk_alloc ?_ _)); exact BK149.out)) : gb150 ≠ gb149)); clear BK149; clear HB; have BK149 := n0_; have HB := n1_; have BK150 := n2_; have GW150 := n3_; have GE150 := n4_; have NB149_150 := n5_; have NB150_149 := n6_; clear n0_ n1_ n2_ n3_ n4_ n5_ n6_; clear hb hbox hg; have hnb9 := NB149_150.out; have hnc9 := NB150_149.out; have hcz10_0 : w8.cell? ⟨gb149, 0, none⟩ = some (.string a1_0) := (blk_cell BK149.out 0).trans rfl; have hcz10_1 : w8.cell? ⟨gb149, 1, none⟩ = some (.int .i64 a1_1) := (blk_cell BK149.out 1).trans rfl; have hcz10_2 : w8.cell? ⟨gb149, 2, none⟩ = some (.int .i64 a1_2) := (blk_cell BK149.out 2).trans rfl; have hfz10_0 := blk_frozen BK149.out 0; have hfz10_1 := blk_frozen BK149.out 1; have hfz10_2 := blk_frozen BK149.out 2) | ((with_reducible refine gate_callee (f := 61) rfl ?_); refine goesL_ (some 14) rfl rfl Try.func61 (by kernel_rfl) rfl #[.slice A0 l0.length c0, .string a1_0, .int .i64 a1_1] rfl (by (try simp only [List.map_toArray, List.map_cons, List.map_nil]); first | done | rfl | (simp only [List.length_drop, List.length_take]; rfl)) ?_; (with_reducible refine (calibrate_Error.calls k _ _ l0 a1_0 a1_1 t151 t152 t153 _ ?side1 ?side2 A3.out).mono ?_); (case side1 => repeat (first | exact (Kd.C_below HR0.out HB.out) | (with_reducible refine Kd.C_alloc ?_ _) | (with_reducible refine Kd.C_drewN ?_ _) | (with_reducible refine Kd.C_drew ?_))); (case side2 => exact HC0.out); rintro e w11 ⟨rfl, hb⟩; refine ⟨_, rfl, ?_⟩; have n0_ := Aside0.mk (blk_below (g := gb149) (o := .cells #[.string a1_0, .int .i64 a1_1, .int .i64 a1_2] 51 (0, 0)) (by (with_reducible repeat (first | refine blk_drewN ?_ _ | refine blk_drew ?_ | refine blk_alloc ?_ _)); exact BK149.out) hb); have n1_ := Aside0.mk (blk_below (g := gb150) (o := .cells #[.int .i64 0, .int .i64 0] 25 (0, 0)) (by (with_reducible repeat (first | refine blk_drewN ?_ _ | refine blk_drew ?_ | refine blk_alloc ?_ _)); exact BK150.out) hb); have n2_ := Aside0.mk (below_step (by repeat (first | (with_reducible first | exact HB.out | apply below_alloc | apply pw_below_drewN | apply below_drew1 | refine below_set ?_ GE149.out | refine below_set ?_ GE150.out) | exact HB.out)) hb); clear BK149; clear BK150; clear HB; have BK149 := n0_; have BK150 := n1_; have HB := n2_; clear n0_ n1_ n2_; (try clear hb); (try clear hb2); (try clear hk); (try clear hi)) | ((with_reducible refine gate_dst (N := 6) rfl ?_); refine box_event ?hg (N := 6) ?hd (cs := #[.int .i64 0, .int .i64 0]) (t := 25) ?hr ?_; (case hd => rfl); (case hg => rfl); (case hr => first | (go_simp; done) | (go_simp; rfl)); intro gb154 hg w12 hbox hb; have n0_ := Aside0.mk (blk_below (g := gb149) (o := .cells #[.string a1_0, .int .i64 a1_1, .int .i64 a1_2] 51 (0, 0)) (by (with_reducible repeat (first | refine blk_drewN ?_ _ | refine blk_drew ?_ | refine blk_alloc ?_ _)); exact BK149.out) hb); have n1_ := Aside0.mk (blk_below (g := gb150) (o := .cells #[.int .i64 0, .int .i64 0] 25 (0, 0)) (by (with_reducible repeat (first | refine blk_drewN ?_ _ | refine blk_drew ?_ | refine blk_alloc ?_ _)); exact BK150.out) hb); have n2_ := Aside0.mk (below_step (by repeat (first | (with_reducible first | exact HB.out | apply below_alloc | apply pw_below_drewN | apply below_drew1 | refine below_set ?_ GE149.out | refine below_set ?_ GE150.out) | exact HB.out)) hb); have n3_ := Aside0.mk (hbox); have n4_ := Aside0.mk ((by rw [hg]; exact (below_size (by repeat (first | (with_reducible first | exact HB.out | apply below_alloc | apply pw_below_drewN | apply below_drew1 | refine below_set ?_ GE149.out | refine below_set ?_ GE150.out) | exact HB.out))) : w.heap.size ≤ gb154)); have n5_ := Aside0.mk ((by rw [hg]; exact (below_size (by repeat (first | (with_reducible first | exact HB.out | apply below_alloc | apply pw_below_drewN | apply below_drew1 | refine below_set ?_ GE149.out | refine below_set ?_ GE150.out) | exact HB.out))) : w.heap.size ≤ gb154)); have n6_ := Aside0.mk ((by rw [hg]; exact Nat.ne_of_lt (blk_lt (g := gb149) (o := .cells #[.string a1_0, .int .i64 a1_1, .int .i64 a1_2] 51 (0, 0)) (by (with_reducible repeat (first | refine blk_drewN ?_ _ | refine blk_drew ?_ | refine blk_alloc ?_ _)); exact BK149.out)) : gb149 ≠ gb154)); have n7_ := Aside0.mk ((by rw [hg]; exact Nat.ne_of_gt (blk_lt (g := gb149) (o := .cells #[.string a1_0, .int .i64 a1_1, .int .i64 a1_2] 51 (0, 0)) (by (with_reducible repeat (first | refine blk_drewN ?_ _ | refine blk_drew ?_ | refine blk_alloc ?_ _)); exact BK149.out)) : gb154 ≠ gb149)); have n8_ := Aside0.mk ((by rw [hg]; exact Nat.ne_of_lt (blk_lt (g := gb150) (o := .cells #[.int .i64 0, .int .i64 0] 25 (0, 0)) (by (with_reducible repeat (first | refine blk_drewN ?_ _ | refine blk_drew ?_ | refine blk_alloc ?_ _)); exact BK150.out)) : gb150 ≠ gb154)); have n9_ := Aside0.mk ((by rw [hg]; exact Nat.ne_of_gt (blk_lt (g := gb150) (o := .cells #[.int .i64 0, .int .i64 0] 25 (0, 0)) (by (with_reducible repeat (first | refine blk_drewN ?_ _ | refine blk_drew ?_ | refine blk_alloc ?_ _)); exact BK150.out)) : gb154 ≠ gb150)); clear BK149; clear BK150; clear HB; have BK149 := n0_; have BK150 := n1_; have HB := n2_; have BK154 := n3_; have GW154 := n4_; have GE154 := n5_; have NB149_154 := n6_; have NB154_149 := n7_; have NB150_154 := n8_; have NB154_150 := n9_; clear n0_ n1_ n2_ n3_ n4_ n5_ n6_ n7_ n8_ n9_; clear hb hbox hg; have hnb13 := NB154_149.out; have hnc13 := NB149_154.out; have hnb14 := NB154_150.out; have hnc14 := NB150_154.out; have hcz15_0 : w12.cell? ⟨gb154, 0, none⟩ = some (.int .i64 0) := (blk_cell BK154.out 0).trans rfl; have hcz15_1 : w12.cell? ⟨gb154, 1, none⟩ = some (.int .i64 0) := (blk_cell BK154.out 1).trans rfl; have hfz15_0 := blk_frozen BK154.out 0; have hfz15_1 := blk_frozen BK154.out 1; have hcz16_0 : w12.cell? ⟨gb149, 0, none⟩ = some (.string a1_0) := (blk_cell BK149.out 0).trans rfl; have hcz16_1 : w12.cell? ⟨gb149, 1, none⟩ = some (.int .i64 a1_1) := (blk_cell BK149.out 1).trans rfl; have hcz16_2 : w12.cell? ⟨gb149, 2, none⟩ = some (.int .i64 a1_2) := (blk_cell BK149.out 2).trans rfl; have hfz16_0 := blk_frozen BK149.out 0; have hfz16_1 := blk_frozen BK149.out 1; have hfz16_2 := blk_frozen BK149.out 2) | ((with_reducible refine gate_callee (f := 112) rfl ?_); refine goesL_ (some 23) rfl rfl Try.func112 (by kernel_rfl) rfl #[.int .i64 a1_2, .int .i64 (-100000), .int .i64 100000] rfl (by (try simp only [List.map_toArray, List.map_cons, List.map_nil]); first | done | rfl | (simp only [List.length_drop, List.length_take]; rfl)) ?_; (with_reducible refine (calibrate_ranged.calls a1_2 (-100000) 100000 true _ A5.out).mono ?_); rintro e w' ⟨rfl, ⟨nd, rfl⟩⟩; refine ⟨_, rfl, ?_⟩; have hcz17_0 : w12.cell? ⟨gb150, 0, none⟩ = some (.int .i64 0) := (blk_cell BK150.out 0).trans rfl; have hcz17_1 : w12.cell? ⟨gb150, 1, none⟩ = some (.int .i64 0) := (blk_cell BK150.out 1).trans rfl; have hfz17_0 := blk_frozen BK150.out 0; have hfz17_1 := blk_frozen BK150.out 1))
      refine bodyPost_ret (results_ct rfl _ _ gb150 25 #[.int .i64 (wrap64 (a1_2 - t152)), .int .i64 (wrap64 (a1_2 - t151))] (0, 0) _ rfl (by (with_reducible repeat (first | refine blk_drewN ?_ _ | refine blk_drew ?_ | refine blk_alloc ?_ _)); refine blk_put (cs := #[.int .i64 (wrap64 (a1_2 - t152)), .int .i64 0]) ?_ 1 _ rfl; (with_reducible repeat (first | refine blk_drewN ?_ _ | refine blk_drew ?_ | refine blk_alloc ?_ _)); refine blk_put (cs := #[.int .i64 0, .int .i64 0]) ?_ 0 _ rfl; (with_reducible repeat (first | refine blk_drewN ?_ _ | refine blk_drew ?_ | refine blk_alloc ?_ _)); refine blk_far ?_ NB150_154.out _; (with_reducible repeat (first | refine blk_drewN ?_ _ | refine blk_drew ?_ | refine blk_alloc ?_ _)); refine blk_far ?_ NB150_154.out _; (with_reducible repeat (first | refine blk_drewN ?_ _ | refine blk_drew ?_ | refine blk_alloc ?_ _)); exact BK150.out) Try.underlying25 rfl (by kernel_rfl)) rfl ?_
      exact ⟨by first | rfl | (simp [errW_none, errW_some] <;> rfl) | (simp [*, errW_none, errW_some] <;> rfl), by repeat (first | (with_reducible first | exact HB.out | apply below_alloc | apply pw_below_drewN | apply below_drew1 | refine below_set ?_ GE149.out | refine below_set ?_ GE150.out | refine below_set ?_ GE154.out) | exact HB.out)⟩
    · replace c6 := Bool.eq_false_iff.mpr c6
      subst c6
      have H1 : (some (0, 0, 2)) = some (r1, r2, r3) := by rw [if_neg (show ¬ (false = true) by decide)] at H; exact H
      clear H
      have H := H1
      clear H1
      simp only [Option.some.injEq, Prod.mk.injEq] at H
      obtain ⟨rfl, rfl, rfl⟩ := H
      go_enter Try.func63, Try.ntmps63
      go_wp2_with (first | ((with_reducible refine gate_dst (N := 3) rfl ?_); refine box_event ?hg (N := 3) ?hd (cs := #[.string a1_0, .int .i64 a1_1, .int .i64 a1_2]) (t := 51) ?hr ?_; (case hd => rfl); (case hg => rfl); (case hr => first | (go_simp; done) | (go_simp; rfl)); intro gb149 hg w18 hbox hb; have n0_ := Aside0.mk (below_step (by repeat (first | (with_reducible first | exact HB.out | apply below_alloc | apply pw_below_drewN | apply below_drew1) | exact HB.out)) hb); have n1_ := Aside0.mk (hbox); have n2_ := Aside0.mk ((by rw [hg]; exact (below_size (by repeat (first | (with_reducible first | exact HB.out | apply below_alloc | apply pw_below_drewN | apply below_drew1) | exact HB.out))) : w.heap.size ≤ gb149)); have n3_ := Aside0.mk ((by rw [hg]; exact (below_size (by repeat (first | (with_reducible first | exact HB.out | apply below_alloc | apply pw_below_drewN | apply below_drew1) | exact HB.out))) : w.heap.size ≤ gb149)); clear HB; have HB := n0_; have BK149 := n1_; have GW149 := n2_; have GE149 := n3_; clear n0_ n1_ n2_ n3_; clear hb hbox hg) | ((with_reducible refine gate_dst (N := 4) rfl ?_); refine box_event ?hg (N := 4) ?hd (cs := #[.int .i64 0, .int .i64 0]) (t := 25) ?hr ?_; (case hd => rfl); (case hg => rfl); (case hr => first | (go_simp; done) | (go_simp; rfl)); intro gb150 hg w19 hbox hb; have n0_ := Aside0.mk (blk_below (g := gb149) (o := .cells #[.string a1_0, .int .i64 a1_1, .int .i64 a1_2] 51 (0, 0)) (by (with_reducible repeat (first | refine blk_drewN ?_ _ | refine blk_drew ?_ | refine blk_alloc ?_ _)); exact BK149.out) hb); have n1_ := Aside0.mk (below_step (by repeat (first | (with_reducible first | exact HB.out | apply below_alloc | apply pw_below_drewN | apply below_drew1 | refine below_set ?_ GE149.out) | exact HB.out)) hb); have n2_ := Aside0.mk (hbox); have n3_ := Aside0.mk ((by rw [hg]; exact (below_size (by repeat (first | (with_reducible first | exact HB.out | apply below_alloc | apply pw_below_drewN | apply below_drew1 | refine below_set ?_ GE149.out) | exact HB.out))) : w.heap.size ≤ gb150)); have n4_ := Aside0.mk ((by rw [hg]; exact (below_size (by repeat (first | (with_reducible first | exact HB.out | apply below_alloc | apply pw_below_drewN | apply below_drew1 | refine below_set ?_ GE149.out) | exact HB.out))) : w.heap.size ≤ gb150)); have n5_ := Aside0.mk ((by rw [hg]; exact Nat.ne_of_lt (blk_lt (g := gb149) (o := .cells #[.string a1_0, .int .i64 a1_1, .int .i64 a1_2] 51 (0, 0)) (by (with_reducible repeat (first | refine blk_drewN ?_ _ | refine blk_drew ?_ | refine blk_alloc ?_ _)); exact BK149.out)) : gb149 ≠ gb150)); have n6_ := Aside0.mk ((by rw [hg]; exact Nat.ne_of_gt (blk_lt (g := gb149) (o := .cells #[.string a1_0, .int .i64 a1_1, .int .i64 a1_2] 51 (0, 0)) (by (with_reducible repeat (first | refine blk_drewN ?_ _ | refine blk_drew ?_ | refine blk_alloc ?_ _)); exact BK149.out)) : gb150 ≠ gb149)); clear BK149; clear HB; have BK149 := n0_; have HB := n1_; have BK150 := n2_; have GW150 := n3_; have GE150 := n4_; have NB149_150 := n5_; have NB150_149 := n6_; clear n0_ n1_ n2_ n3_ n4_ n5_ n6_; clear hb hbox hg; have hnb20 := NB149_150.out; have hnc20 := NB150_149.out; have hcz21_0 : w19.cell? ⟨gb149, 0, none⟩ = some (.string a1_0) := (blk_cell BK149.out 0).trans rfl; have hcz21_1 : w19.cell? ⟨gb149, 1, none⟩ = some (.int .i64 a1_1) := (blk_cell BK149.out 1).trans rfl; have hcz21_2 : w19.cell? ⟨gb149, 2, none⟩ = some (.int .i64 a1_2) := (blk_cell BK149.out 2).trans rfl; have hfz21_0 := blk_frozen BK149.out 0; have hfz21_1 := blk_frozen BK149.out 1; have hfz21_2 := blk_frozen BK149.out 2) | ((with_reducible refine gate_callee (f := 61) rfl ?_); refine goesL_ (some 14) rfl rfl Try.func61 (by kernel_rfl) rfl #[.slice A0 l0.length c0, .string a1_0, .int .i64 a1_1] rfl (by (try simp only [List.map_toArray, List.map_cons, List.map_nil]); first | done | rfl | (simp only [List.length_drop, List.length_take]; rfl)) ?_; (with_reducible refine (calibrate_Error.calls k _ _ l0 a1_0 a1_1 t151 t152 t153 _ ?side1 ?side2 A3.out).mono ?_); (case side1 => repeat (first | exact (Kd.C_below HR0.out HB.out) | (with_reducible refine Kd.C_alloc ?_ _) | (with_reducible refine Kd.C_drewN ?_ _) | (with_reducible refine Kd.C_drew ?_))); (case side2 => exact HC0.out); rintro e w22 ⟨rfl, hb⟩; refine ⟨_, rfl, ?_⟩; have n0_ := Aside0.mk (blk_below (g := gb149) (o := .cells #[.string a1_0, .int .i64 a1_1, .int .i64 a1_2] 51 (0, 0)) (by (with_reducible repeat (first | refine blk_drewN ?_ _ | refine blk_drew ?_ | refine blk_alloc ?_ _)); exact BK149.out) hb); have n1_ := Aside0.mk (blk_below (g := gb150) (o := .cells #[.int .i64 0, .int .i64 0] 25 (0, 0)) (by (with_reducible repeat (first | refine blk_drewN ?_ _ | refine blk_drew ?_ | refine blk_alloc ?_ _)); exact BK150.out) hb); have n2_ := Aside0.mk (below_step (by repeat (first | (with_reducible first | exact HB.out | apply below_alloc | apply pw_below_drewN | apply below_drew1 | refine below_set ?_ GE149.out | refine below_set ?_ GE150.out) | exact HB.out)) hb); clear BK149; clear BK150; clear HB; have BK149 := n0_; have BK150 := n1_; have HB := n2_; clear n0_ n1_ n2_; (try clear hb); (try clear hb2); (try clear hk); (try clear hi)) | ((with_reducible refine gate_dst (N := 6) rfl ?_); refine box_event ?hg (N := 6) ?hd (cs := #[.int .i64 0, .int .i64 0]) (t := 25) ?hr ?_; (case hd => rfl); (case hg => rfl); (case hr => first | (go_simp; done) | (go_simp; rfl)); intro gb154 hg w23 hbox hb; have n0_ := Aside0.mk (blk_below (g := gb149) (o := .cells #[.string a1_0, .int .i64 a1_1, .int .i64 a1_2] 51 (0, 0)) (by (with_reducible repeat (first | refine blk_drewN ?_ _ | refine blk_drew ?_ | refine blk_alloc ?_ _)); exact BK149.out) hb); have n1_ := Aside0.mk (blk_below (g := gb150) (o := .cells #[.int .i64 0, .int .i64 0] 25 (0, 0)) (by (with_reducible repeat (first | refine blk_drewN ?_ _ | refine blk_drew ?_ | refine blk_alloc ?_ _)); exact BK150.out) hb); have n2_ := Aside0.mk (below_step (by repeat (first | (with_reducible first | exact HB.out | apply below_alloc | apply pw_below_drewN | apply below_drew1 | refine below_set ?_ GE149.out | refine below_set ?_ GE150.out) | exact HB.out)) hb); have n3_ := Aside0.mk (hbox); have n4_ := Aside0.mk ((by rw [hg]; exact (below_size (by repeat (first | (with_reducible first | exact HB.out | apply below_alloc | apply pw_below_drewN | apply below_drew1 | refine below_set ?_ GE149.out | refine below_set ?_ GE150.out) | exact HB.out))) : w.heap.size ≤ gb154)); have n5_ := Aside0.mk ((by rw [hg]; exact (below_size (by repeat (first | (with_reducible first | exact HB.out | apply below_alloc | apply pw_below_drewN | apply below_drew1 | refine below_set ?_ GE149.out | refine below_set ?_ GE150.out) | exact HB.out))) : w.heap.size ≤ gb154)); have n6_ := Aside0.mk ((by rw [hg]; exact Nat.ne_of_lt (blk_lt (g := gb149) (o := .cells #[.string a1_0, .int .i64 a1_1, .int .i64 a1_2] 51 (0, 0)) (by (with_reducible repeat (first | refine blk_drewN ?_ _ | refine blk_drew ?_ | refine blk_alloc ?_ _)); exact BK149.out)) : gb149 ≠ gb154)); have n7_ := Aside0.mk ((by rw [hg]; exact Nat.ne_of_gt (blk_lt (g := gb149) (o := .cells #[.string a1_0, .int .i64 a1_1, .int .i64 a1_2] 51 (0, 0)) (by (with_reducible repeat (first | refine blk_drewN ?_ _ | refine blk_drew ?_ | refine blk_alloc ?_ _)); exact BK149.out)) : gb154 ≠ gb149)); have n8_ := Aside0.mk ((by rw [hg]; exact Nat.ne_of_lt (blk_lt (g := gb150) (o := .cells #[.int .i64 0, .int .i64 0] 25 (0, 0)) (by (with_reducible repeat (first | refine blk_drewN ?_ _ | refine blk_drew ?_ | refine blk_alloc ?_ _)); exact BK150.out)) : gb150 ≠ gb154)); have n9_ := Aside0.mk ((by rw [hg]; exact Nat.ne_of_gt (blk_lt (g := gb150) (o := .cells #[.int .i64 0, .int .i64 0] 25 (0, 0)) (by (with_reducible repeat (first | refine blk_drewN ?_ _ | refine blk_drew ?_ | refine blk_alloc ?_ _)); exact BK150.out)) : gb154 ≠ gb150)); clear BK149; clear BK150; clear HB; have BK149 := n0_; have BK150 := n1_; have HB := n2_; have BK154 := n3_; have GW154 := n4_; have GE154 := n5_; have NB149_154 := n6_; have NB154_149 := n7_; have NB150_154 := n8_; have NB154_150 := n9_; clear n0_ n1_ n2_ n3_ n4_ n5_ n6_ n7_ n8_ n9_; clear hb hbox hg; have hnb24 := NB154_149.out; have hnc24 := NB149_154.out; have hnb25 := NB154_150.out; have hnc25 := NB150_154.out; have hcz26_0 : w23.cell? ⟨gb154, 0, none⟩ = some (.int .i64 0) := (blk_cell BK154.out 0).trans rfl; have hcz26_1 : w23.cell? ⟨gb154, 1, none⟩ = some (.int .i64 0) := (blk_cell BK154.out 1).trans rfl; have hfz26_0 := blk_frozen BK154.out 0; have hfz26_1 := blk_frozen BK154.out 1; have hcz27_0 : w23.cell? ⟨gb149, 0, none⟩ = some (.string a1_0) := (blk_cell BK149.out 0).trans rfl; have hcz27_1 : w23.cell? ⟨gb149, 1, none⟩ = some (.int .i64 a1_1) := (blk_cell BK149.out 1).trans rfl; have hcz27_2 : w23.cell? ⟨gb149, 2, none⟩ = some (.int .i64 a1_2) := (blk_cell BK149.out 2).trans rfl; have hfz27_0 := blk_frozen BK149.out 0; have hfz27_1 := blk_frozen BK149.out 1; have hfz27_2 := blk_frozen BK149.out 2) | ((with_reducible refine gate_callee (f := 112) rfl ?_); refine goesL_ (some 23) rfl rfl Try.func112 (by kernel_rfl) rfl #[.int .i64 a1_2, .int .i64 (-100000), .int .i64 100000] rfl (by (try simp only [List.map_toArray, List.map_cons, List.map_nil]); first | done | rfl | (simp only [List.length_drop, List.length_take]; rfl)) ?_; (with_reducible refine (calibrate_ranged.calls a1_2 (-100000) 100000 false _ A5.out).mono ?_); rintro e w' ⟨rfl, ⟨nd, rfl⟩⟩; refine ⟨_, rfl, ?_⟩; have hcz28_0 : w23.cell? ⟨gb150, 0, none⟩ = some (.int .i64 0) := (blk_cell BK150.out 0).trans rfl; have hcz28_1 : w23.cell? ⟨gb150, 1, none⟩ = some (.int .i64 0) := (blk_cell BK150.out 1).trans rfl; have hfz28_0 := blk_frozen BK150.out 0; have hfz28_1 := blk_frozen BK150.out 1))
      refine bodyPost_ret (results_ct rfl _ _ gb150 25 #[.int .i64 0, .int .i64 0] (0, 0) _ rfl (by (with_reducible repeat (first | refine blk_drewN ?_ _ | refine blk_drew ?_ | refine blk_alloc ?_ _)); refine blk_put (cs := #[.int .i64 0, .int .i64 0]) ?_ 1 _ rfl; (with_reducible repeat (first | refine blk_drewN ?_ _ | refine blk_drew ?_ | refine blk_alloc ?_ _)); refine blk_put (cs := #[.int .i64 0, .int .i64 0]) ?_ 0 _ rfl; (with_reducible repeat (first | refine blk_drewN ?_ _ | refine blk_drew ?_ | refine blk_alloc ?_ _)); refine blk_far ?_ NB150_154.out _; (with_reducible repeat (first | refine blk_drewN ?_ _ | refine blk_drew ?_ | refine blk_alloc ?_ _)); refine blk_far ?_ NB150_154.out _; (with_reducible repeat (first | refine blk_drewN ?_ _ | refine blk_drew ?_ | refine blk_alloc ?_ _)); exact BK150.out) Try.underlying25 rfl (by kernel_rfl)) rfl ?_
      exact ⟨by first | rfl | (simp [errW_none, errW_some] <;> rfl) | (simp [*, errW_none, errW_some] <;> rfl), by repeat (first | (with_reducible first | exact HB.out | apply below_alloc | apply pw_below_drewN | apply below_drew1 | refine below_set ?_ GE149.out | refine below_set ?_ GE150.out | refine below_set ?_ GE154.out) | exact HB.out)⟩
  · rw [if_neg c4] at H
    have c4b0 : (t153 == 0) = false := beq_eq_false_iff_ne.mpr c4
    have c4b1 : (t153 != 0) = true := bne_iff_ne.mpr c4
    simp only [Option.some.injEq, Prod.mk.injEq] at H
    obtain ⟨rfl, rfl, rfl⟩ := H
    go_enter Try.func63, Try.ntmps63
    go_wp2_with (first | ((with_reducible refine gate_dst (N := 3) rfl ?_); refine box_event ?hg (N := 3) ?hd (cs := #[.string a1_0, .int .i64 a1_1, .int .i64 a1_2]) (t := 51) ?hr ?_; (case hd => rfl); (case hg => rfl); (case hr => first | (go_simp; done) | (go_simp; rfl)); intro gb149 hg w29 hbox hb; have n0_ := Aside0.mk (below_step (by repeat (first | (with_reducible first | exact HB.out | apply below_alloc | apply pw_below_drewN | apply below_drew1) | exact HB.out)) hb); have n1_ := Aside0.mk (hbox); have n2_ := Aside0.mk ((by rw [hg]; exact (below_size (by repeat (first | (with_reducible first | exact HB.out | apply below_alloc | apply pw_below_drewN | apply below_drew1) | exact HB.out))) : w.heap.size ≤ gb149)); have n3_ := Aside0.mk ((by rw [hg]; exact (below_size (by repeat (first | (with_reducible first | exact HB.out | apply below_alloc | apply pw_below_drewN | apply below_drew1) | exact HB.out))) : w.heap.size ≤ gb149)); clear HB; have HB := n0_; have BK149 := n1_; have GW149 := n2_; have GE149 := n3_; clear n0_ n1_ n2_ n3_; clear hb hbox hg) | ((with_reducible refine gate_dst (N := 4) rfl ?_); refine box_event ?hg (N := 4) ?hd (cs := #[.int .i64 0, .int .i64 0]) (t := 25) ?hr ?_; (case hd => rfl); (case hg => rfl); (case hr => first | (go_simp; done) | (go_simp; rfl)); intro gb150 hg w30 hbox hb; have n0_ := Aside0.mk (blk_below (g := gb149) (o := .cells #[.string a1_0, .int .i64 a1_1, .int .i64 a1_2] 51 (0, 0)) (by (with_reducible repeat (first | refine blk_drewN ?_ _ | refine blk_drew ?_ | refine blk_alloc ?_ _)); exact BK149.out) hb); have n1_ := Aside0.mk (below_step (by repeat (first | (with_reducible first | exact HB.out | apply below_alloc | apply pw_below_drewN | apply below_drew1 | refine below_set ?_ GE149.out) | exact HB.out)) hb); have n2_ := Aside0.mk (hbox); have n3_ := Aside0.mk ((by rw [hg]; exact (below_size (by repeat (first | (with_reducible first | exact HB.out | apply below_alloc | apply pw_below_drewN | apply below_drew1 | refine below_set ?_ GE149.out) | exact HB.out))) : w.heap.size ≤ gb150)); have n4_ := Aside0.mk ((by rw [hg]; exact (below_size (by repeat (first | (with_reducible first | exact HB.out | apply below_alloc | apply pw_below_drewN | apply below_drew1 | refine below_set ?_ GE149.out) | exact HB.out))) : w.heap.size ≤ gb150)); have n5_ := Aside0.mk ((by rw [hg]; exact Nat.ne_of_lt (blk_lt (g := gb149) (o := .cells #[.string a1_0, .int .i64 a1_1, .int .i64 a1_2] 51 (0, 0)) (by (with_reducible repeat (first | refine blk_drewN ?_ _ | refine blk_drew ?_ | refine blk_alloc ?_ _)); exact BK149.out)) : gb149 ≠ gb150)); have n6_ := Aside0.mk ((by rw [hg]; exact Nat.ne_of_gt (blk_lt (g := gb149) (o := .cells #[.string a1_0, .int .i64 a1_1, .int .i64 a1_2] 51 (0, 0)) (by (with_reducible repeat (first | refine blk_drewN ?_ _ | refine blk_drew ?_ | refine blk_alloc ?_ _)); exact BK149.out)) : gb150 ≠ gb149)); clear BK149; clear HB; have BK149 := n0_; have HB := n1_; have BK150 := n2_; have GW150 := n3_; have GE150 := n4_; have NB149_150 := n5_; have NB150_149 := n6_; clear n0_ n1_ n2_ n3_ n4_ n5_ n6_; clear hb hbox hg; have hnb31 := NB149_150.out; have hnc31 := NB150_149.out; have hcz32_0 : w30.cell? ⟨gb149, 0, none⟩ = some (.string a1_0) := (blk_cell BK149.out 0).trans rfl; have hcz32_1 : w30.cell? ⟨gb149, 1, none⟩ = some (.int .i64 a1_1) := (blk_cell BK149.out 1).trans rfl; have hcz32_2 : w30.cell? ⟨gb149, 2, none⟩ = some (.int .i64 a1_2) := (blk_cell BK149.out 2).trans rfl; have hfz32_0 := blk_frozen BK149.out 0; have hfz32_1 := blk_frozen BK149.out 1; have hfz32_2 := blk_frozen BK149.out 2) | ((with_reducible refine gate_callee (f := 61) rfl ?_); refine goesL_ (some 14) rfl rfl Try.func61 (by kernel_rfl) rfl #[.slice A0 l0.length c0, .string a1_0, .int .i64 a1_1] rfl (by (try simp only [List.map_toArray, List.map_cons, List.map_nil]); first | done | rfl | (simp only [List.length_drop, List.length_take]; rfl)) ?_; (with_reducible refine (calibrate_Error.calls k _ _ l0 a1_0 a1_1 t151 t152 t153 _ ?side1 ?side2 A3.out).mono ?_); (case side1 => repeat (first | exact (Kd.C_below HR0.out HB.out) | (with_reducible refine Kd.C_alloc ?_ _) | (with_reducible refine Kd.C_drewN ?_ _) | (with_reducible refine Kd.C_drew ?_))); (case side2 => exact HC0.out); rintro e w33 ⟨rfl, hb⟩; refine ⟨_, rfl, ?_⟩; have n0_ := Aside0.mk (blk_below (g := gb149) (o := .cells #[.string a1_0, .int .i64 a1_1, .int .i64 a1_2] 51 (0, 0)) (by (with_reducible repeat (first | refine blk_drewN ?_ _ | refine blk_drew ?_ | refine blk_alloc ?_ _)); exact BK149.out) hb); have n1_ := Aside0.mk (blk_below (g := gb150) (o := .cells #[.int .i64 0, .int .i64 0] 25 (0, 0)) (by (with_reducible repeat (first | refine blk_drewN ?_ _ | refine blk_drew ?_ | refine blk_alloc ?_ _)); exact BK150.out) hb); have n2_ := Aside0.mk (below_step (by repeat (first | (with_reducible first | exact HB.out | apply below_alloc | apply pw_below_drewN | apply below_drew1 | refine below_set ?_ GE149.out | refine below_set ?_ GE150.out) | exact HB.out)) hb); clear BK149; clear BK150; clear HB; have BK149 := n0_; have BK150 := n1_; have HB := n2_; clear n0_ n1_ n2_; (try clear hb); (try clear hb2); (try clear hk); (try clear hi)) | ((with_reducible refine gate_dst (N := 6) rfl ?_); refine box_event ?hg (N := 6) ?hd (cs := #[.int .i64 0, .int .i64 0]) (t := 25) ?hr ?_; (case hd => rfl); (case hg => rfl); (case hr => first | (go_simp; done) | (go_simp; rfl)); intro gb154 hg w34 hbox hb; have n0_ := Aside0.mk (blk_below (g := gb149) (o := .cells #[.string a1_0, .int .i64 a1_1, .int .i64 a1_2] 51 (0, 0)) (by (with_reducible repeat (first | refine blk_drewN ?_ _ | refine blk_drew ?_ | refine blk_alloc ?_ _)); exact BK149.out) hb); have n1_ := Aside0.mk (blk_below (g := gb150) (o := .cells #[.int .i64 0, .int .i64 0] 25 (0, 0)) (by (with_reducible repeat (first | refine blk_drewN ?_ _ | refine blk_drew ?_ | refine blk_alloc ?_ _)); exact BK150.out) hb); have n2_ := Aside0.mk (below_step (by repeat (first | (with_reducible first | exact HB.out | apply below_alloc | apply pw_below_drewN | apply below_drew1 | refine below_set ?_ GE149.out | refine below_set ?_ GE150.out) | exact HB.out)) hb); have n3_ := Aside0.mk (hbox); have n4_ := Aside0.mk ((by rw [hg]; exact (below_size (by repeat (first | (with_reducible first | exact HB.out | apply below_alloc | apply pw_below_drewN | apply below_drew1 | refine below_set ?_ GE149.out | refine below_set ?_ GE150.out) | exact HB.out))) : w.heap.size ≤ gb154)); have n5_ := Aside0.mk ((by rw [hg]; exact (below_size (by repeat (first | (with_reducible first | exact HB.out | apply below_alloc | apply pw_below_drewN | apply below_drew1 | refine below_set ?_ GE149.out | refine below_set ?_ GE150.out) | exact HB.out))) : w.heap.size ≤ gb154)); have n6_ := Aside0.mk ((by rw [hg]; exact Nat.ne_of_lt (blk_lt (g := gb149) (o := .cells #[.string a1_0, .int .i64 a1_1, .int .i64 a1_2] 51 (0, 0)) (by (with_reducible repeat (first | refine blk_drewN ?_ _ | refine blk_drew ?_ | refine blk_alloc ?_ _)); exact BK149.out)) : gb149 ≠ gb154)); have n7_ := Aside0.mk ((by rw [hg]; exact Nat.ne_of_gt (blk_lt (g := gb149) (o := .cells #[.string a1_0, .int .i64 a1_1, .int .i64 a1_2] 51 (0, 0)) (by (with_reducible repeat (first | refine blk_drewN ?_ _ | refine blk_drew ?_ | refine blk_alloc ?_ _)); exact BK149.out)) : gb154 ≠ gb149)); have n8_ := Aside0.mk ((by rw [hg]; exact Nat.ne_of_lt (blk_lt (g := gb150) (o := .cells #[.int .i64 0, .int .i64 0] 25 (0, 0)) (by (with_reducible repeat (first | refine blk_drewN ?_ _ | refine blk_drew ?_ | refine blk_alloc ?_ _)); exact BK150.out)) : gb150 ≠ gb154)); have n9_ := Aside0.mk ((by rw [hg]; exact Nat.ne_of_gt (blk_lt (g := gb150) (o := .cells #[.int .i64 0, .int .i64 0] 25 (0, 0)) (by (with_reducible repeat (first | refine blk_drewN ?_ _ | refine blk_drew ?_ | refine blk_alloc ?_ _)); exact BK150.out)) : gb154 ≠ gb150)); clear BK149; clear BK150; clear HB; have BK149 := n0_; have BK150 := n1_; have HB := n2_; have BK154 := n3_; have GW154 := n4_; have GE154 := n5_; have NB149_154 := n6_; have NB154_149 := n7_; have NB150_154 := n8_; have NB154_150 := n9_; clear n0_ n1_ n2_ n3_ n4_ n5_ n6_ n7_ n8_ n9_; clear hb hbox hg; have hnb35 := NB154_149.out; have hnc35 := NB149_154.out; have hnb36 := NB154_150.out; have hnc36 := NB150_154.out; have hcz37_0 : w34.cell? ⟨gb154, 0, none⟩ = some (.int .i64 0) := (blk_cell BK154.out 0).trans rfl; have hcz37_1 : w34.cell? ⟨gb154, 1, none⟩ = some (.int .i64 0) := (blk_cell BK154.out 1).trans rfl; have hfz37_0 := blk_frozen BK154.out 0; have hfz37_1 := blk_frozen BK154.out 1; have hcz38_0 : w34.cell? ⟨gb150, 0, none⟩ = some (.int .i64 0) := (blk_cell BK150.out 0).trans rfl; have hcz38_1 : w34.cell? ⟨gb150, 1, none⟩ = some (.int .i64 0) := (blk_cell BK150.out 1).trans rfl; have hfz38_0 := blk_frozen BK150.out 0; have hfz38_1 := blk_frozen BK150.out 1))
    refine bodyPost_ret (results_ct rfl _ _ gb150 25 #[.int .i64 0, .int .i64 0] (0, 0) _ rfl (by (with_reducible repeat (first | refine blk_drewN ?_ _ | refine blk_drew ?_ | refine blk_alloc ?_ _)); refine blk_put (cs := #[.int .i64 0, .int .i64 0]) ?_ 1 _ rfl; (with_reducible repeat (first | refine blk_drewN ?_ _ | refine blk_drew ?_ | refine blk_alloc ?_ _)); refine blk_put (cs := #[.int .i64 0, .int .i64 0]) ?_ 0 _ rfl; (with_reducible repeat (first | refine blk_drewN ?_ _ | refine blk_drew ?_ | refine blk_alloc ?_ _)); refine blk_far ?_ NB150_154.out _; (with_reducible repeat (first | refine blk_drewN ?_ _ | refine blk_drew ?_ | refine blk_alloc ?_ _)); refine blk_far ?_ NB150_154.out _; (with_reducible repeat (first | refine blk_drewN ?_ _ | refine blk_drew ?_ | refine blk_alloc ?_ _)); exact BK150.out) Try.underlying25 rfl (by kernel_rfl)) rfl ?_
    exact ⟨by first | rfl | (simp [errW_none, errW_some] <;> rfl) | (simp [*, errW_none, errW_some] <;> rfl), by repeat (first | (with_reducible first | exact HB.out | apply below_alloc | apply pw_below_drewN | apply below_drew1 | refine below_set ?_ GE149.out | refine below_set ?_ GE150.out | refine below_set ?_ GE154.out) | exact HB.out)⟩
end Go.Proofs.Ytkgdlbepjmgaiaa.Cal
namespace Go.Proofs.Ytkgdlbepjmgaiaa.Cal
open Go.RowKit Go.Proofs.YtkgdlbepjmgaiaaW.PrintWords Go.Proofs.YtkgdlbepjmgaiaaW.PrintLast Go.Proofs.YtkgdlbepjmgaiaaW.PrintMore
attribute [local go_sem] max2_int min2_int max_two min_two max_three min_three max_four min_four
set_option linter.unusedVariables false
set_option linter.unusedSimpArgs false
def dimension_ranged.f (a0 : Int) : Option (Bool) := if a0 ≥ (-100000) then (some (decide (a0 ≤ 100000))) else (some false)
set_option maxHeartbeats 8000000 in
set_option maxRecDepth 100000 in
theorem dimension_ranged.calls (a0 : Int) (r : Bool) (w : World) (h : dimension_ranged.f a0 = some r) :
    Calls Try.prog 117 #[.int .i64 a0] w fun e w' => e = .returned (.bool r) ∧ Drawn0 w w' := by
  have H : (if a0 ≥ (-100000) then (some (decide (a0 ≤ 100000))) else (some false)) = some r := h
  clear h
  by_cases c2 : a0 ≥ (-100000)
  · rw [if_pos c2] at H
    have c2b0 : decide ((-100000) ≤ a0) = true := decide_eq_true c2
    clear c2
    obtain rfl := Option.some.inj H
    go_enter Try.func117, Try.ntmps117
    go_wp2
    go_ret
    exact ⟨by first | rfl | (simp; done) | (simp [*]; done), by repeat (first | exact Drawn0.refl _ | apply Drawn0.step)⟩
  · rw [if_neg c2] at H
    have c2b0 : decide ((-100000) ≤ a0) = false := decide_eq_false c2
    clear c2
    obtain rfl := Option.some.inj H
    go_enter Try.func117, Try.ntmps117
    go_wp2
    go_ret
    exact ⟨by first | rfl | (simp; done) | (simp [*]; done), by repeat (first | exact Drawn0.refl _ | apply Drawn0.step)⟩
end Go.Proofs.Ytkgdlbepjmgaiaa.Cal
namespace Go.Proofs.Ytkgdlbepjmgaiaa.Cal
open Go.RowKit Go.Proofs.YtkgdlbepjmgaiaaW.PrintWords Go.Proofs.YtkgdlbepjmgaiaaW.PrintLast Go.Proofs.YtkgdlbepjmgaiaaW.PrintMore
attribute [local go_sem] max2_int min2_int max_two min_two max_three min_three max_four min_four
set_option linter.unusedVariables false
set_option linter.unusedSimpArgs false
def dimension_Check.j0 : Nat → Bool → Int → Int → Option (Int)
  | 0, _, _, _ => none
  | k + 1, x3, x157000, x157001 => if x3 = true then (some 2) else (if x157000 > x157001 then (some 9) else (some 0))
def dimension_Check.f (k : Nat) (a0_0 : Int) (a0_1 : Int) : Option (Int) := (dimension_ranged.f a0_0).bind fun t157 => (if t157 = true then ((dimension_ranged.f a0_1).bind fun t158 => (dimension_Check.j0 k (!t158) a0_0 a0_1)) else (dimension_Check.j0 k true a0_0 a0_1))
theorem dimension_Check.mono_l : ∀ k, (∀ y0 y1 y2, LeO (dimension_Check.j0 k y0 y1 y2) (dimension_Check.j0 (k + 1) y0 y1 y2))
  | 0 => fun _ _ _ r h => by simp [dimension_Check.j0] at h
  | k + 1 => by
    have ih0 := dimension_Check.mono_l k
    · intro y0 y1 y2
      unfold dimension_Check.j0
      repeat' first
      | (with_reducible exact ih0 _ _ _)
      | (with_reducible exact LeO.refl _)
      | (with_reducible exact LeO.none _)
      | (with_reducible refine LeO.ite ?_ ?_)
      | (with_reducible refine LeO.bind ?_ (fun _ => ?_))
      | exact ih0 _ _ _
      | exact LeO.none _
      | refine LeO.ite ?_ ?_
      | refine LeO.bind ?_ (fun _ => ?_)
theorem dimension_Check.mono : ∀ a0 a1 k, LeO (dimension_Check.f k a0 a1) (dimension_Check.f (k + 1) a0 a1) := by
  intro a0 a1 k
  have ih0 := dimension_Check.mono_l k
  unfold dimension_Check.f
  repeat' first
      | (with_reducible exact ih0 _ _ _)
      | (with_reducible exact LeO.refl _)
      | (with_reducible exact LeO.none _)
      | (with_reducible refine LeO.ite ?_ ?_)
      | (with_reducible refine LeO.bind ?_ (fun _ => ?_))
      | exact ih0 _ _ _
      | exact LeO.none _
      | refine LeO.ite ?_ ?_
      | refine LeO.bind ?_ (fun _ => ?_)
set_option maxHeartbeats 8000000 in
set_option maxRecDepth 100000 in
theorem dimension_Check.calls (k : Nat) (a0_0 : Int) (a0_1 : Int) (r : Int) (w : World) (h : dimension_Check.f k a0_0 a0_1 = some r) :
    Calls Try.prog 82 #[.agg #[.int .i64 a0_0, .int .i64 a0_1]] w fun e w' => e = .returned (.int .i64 r) ∧ Below w.heap.size w w' := by
  have hu25 := Try.underlying25
  have HB := Aside0.mk (Below.refl w.heap.size w)
  have H : ((dimension_ranged.f a0_0).bind fun t157 => (if t157 = true then ((dimension_ranged.f a0_1).bind fun t158 => (dimension_Check.j0 k (!t158) a0_0 a0_1)) else (dimension_Check.j0 k true a0_0 a0_1))) = some r := h
  clear h
  have HC2 := Aside0.mk H
  clear H
  go_enter Try.func82, Try.ntmps82
  go_upto_region 1 with (first | ((with_reducible refine gate_dst (N := 1) rfl ?_); refine box_event ?hg (N := 1) ?hd (cs := #[.int .i64 a0_0, .int .i64 a0_1]) (t := 25) ?hr ?_; (case hd => rfl); (case hg => rfl); (case hr => first | (go_simp; done) | (go_simp; rfl)); intro gb156 hg w3 hbox hb; have n0_ := Aside0.mk (below_step (by repeat (first | (with_reducible first | exact HB.out | apply below_alloc | apply pw_below_drewN | apply below_drew1) | exact HB.out)) hb); have n1_ := Aside0.mk (hbox); have n2_ := Aside0.mk ((by rw [hg]; exact (below_size (by repeat (first | (with_reducible first | exact HB.out | apply below_alloc | apply pw_below_drewN | apply below_drew1) | exact HB.out))) : w.heap.size ≤ gb156)); have n3_ := Aside0.mk ((by rw [hg]; exact (below_size (by repeat (first | (with_reducible first | exact HB.out | apply below_alloc | apply pw_below_drewN | apply below_drew1) | exact HB.out))) : w.heap.size ≤ gb156)); clear HB; have HB := n0_; have BK156 := n1_; have GW156 := n2_; have GE156 := n3_; clear n0_ n1_ n2_ n3_; clear hb hbox hg))
  (try simp only [Act.put, List.setIfInBounds_toArray, List.set_cons_zero, List.set_cons_succ])
  go_cut [3] (fun v3 wc => ∃ (kq : Nat) (x3_1 : Bool), v3 = .bool x3_1 ∧ Aside0 (dimension_Check.j0 kq x3_1 a0_0 a0_1 = some r) ∧ Aside0 (kq ≤ k) ∧ Aside0 (wc.heap[gb156]? = some (.cells #[.int .i64 a0_0, .int .i64 a0_1] 25 (0, 0))) ∧ Aside0 (Below w.heap.size w wc))
  case first =>
    have H := HC2.out
    clear HC2
    replace H := Option.bind_eq_some_iff.mp H
    obtain ⟨t157, A40, H⟩ := H
    replace H : (if t157 = true then ((dimension_ranged.f a0_1).bind fun t158 => (dimension_Check.j0 k (!t158) a0_0 a0_1)) else (dimension_Check.j0 k true a0_0 a0_1)) = some r := H
    have A4 := Aside0.mk A40
    clear A40
    by_cases c5 : t157 = true
    · subst c5
      have H1 : ((dimension_ranged.f a0_1).bind fun t158 => (dimension_Check.j0 k (!t158) a0_0 a0_1)) = some r := by rw [if_pos rfl] at H; exact H
      clear H
      have H := H1
      clear H1
      replace H := Option.bind_eq_some_iff.mp H
      obtain ⟨t158, A60, H⟩ := H
      replace H : (dimension_Check.j0 k (!t158) a0_0 a0_1) = some r := H
      have A6 := Aside0.mk A60
      clear A60
      have H' := Aside0.mk H
      clear H
      have hcz7_0 : w3.cell? ⟨gb156, 0, none⟩ = some (.int .i64 a0_0) := (blk_cell BK156.out 0).trans rfl
      have hcz7_1 : w3.cell? ⟨gb156, 1, none⟩ = some (.int .i64 a0_1) := (blk_cell BK156.out 1).trans rfl
      have hfz7_0 := blk_frozen BK156.out 0
      have hfz7_1 := blk_frozen BK156.out 1
      go_wp2_with (first | ((with_reducible refine gate_callee (f := 117) rfl ?_); refine goesL_ (some 6) rfl rfl Try.func117 (by kernel_rfl) rfl #[.int .i64 a0_0] rfl (by (try simp only [List.map_toArray, List.map_cons, List.map_nil]); first | done | rfl | (simp only [List.length_drop, List.length_take]; rfl)) ?_; (with_reducible refine (dimension_ranged.calls a0_0 true _ A4.out).mono ?_); rintro e w' ⟨rfl, ⟨nd, rfl⟩⟩; refine ⟨_, rfl, ?_⟩) | (go_at_call 117; (with_reducible refine (dimension_ranged.calls a0_1 t158 _ A6.out).mono ?_); rintro e w' ⟨rfl, ⟨nd, rfl⟩⟩))
      go_meet
      case rel => exact ⟨_, (!t158), (by first | rfl | (simp; done) | (simp [*]; done)), H', ⟨by first | omega | exact Nat.le_refl _⟩, ⟨by (with_reducible repeat (first | refine blk_drewN ?_ _ | refine blk_drew ?_ | refine blk_alloc ?_ _)); exact BK156.out⟩, ⟨by repeat (first | (with_reducible first | exact HB.out | apply below_alloc | apply pw_below_drewN | apply below_drew1 | refine below_set ?_ GE156.out) | exact HB.out)⟩⟩
    · replace c5 := Bool.eq_false_iff.mpr c5
      subst c5
      have H1 : (dimension_Check.j0 k true a0_0 a0_1) = some r := by rw [if_neg (show ¬ (false = true) by decide)] at H; exact H
      clear H
      have H := H1
      clear H1
      have H' := Aside0.mk H
      clear H
      have hcz8_0 : w3.cell? ⟨gb156, 0, none⟩ = some (.int .i64 a0_0) := (blk_cell BK156.out 0).trans rfl
      have hcz8_1 : w3.cell? ⟨gb156, 1, none⟩ = some (.int .i64 a0_1) := (blk_cell BK156.out 1).trans rfl
      have hfz8_0 := blk_frozen BK156.out 0
      have hfz8_1 := blk_frozen BK156.out 1
      go_wp2_with (first | ((with_reducible refine gate_callee (f := 117) rfl ?_); refine goesL_ (some 6) rfl rfl Try.func117 (by kernel_rfl) rfl #[.int .i64 a0_0] rfl (by (try simp only [List.map_toArray, List.map_cons, List.map_nil]); first | done | rfl | (simp only [List.length_drop, List.length_take]; rfl)) ?_; (with_reducible refine (dimension_ranged.calls a0_0 false _ A4.out).mono ?_); rintro e w' ⟨rfl, ⟨nd, rfl⟩⟩; refine ⟨_, rfl, ?_⟩))
      go_meet
      case rel => exact ⟨_, (true), (by first | rfl | (simp; done) | (simp [*]; done)), H', ⟨by first | omega | exact Nat.le_refl _⟩, ⟨by (with_reducible repeat (first | refine blk_drewN ?_ _ | refine blk_drew ?_ | refine blk_alloc ?_ _)); exact BK156.out⟩, ⟨by repeat (first | (with_reducible first | exact HB.out | apply below_alloc | apply pw_below_drewN | apply below_drew1 | refine below_set ?_ GE156.out) | exact HB.out)⟩⟩
  case rest =>
    clear HC2
    try clear c1
    try clear p2
    try clear c5
    try clear c8
    try clear hcz7_0
    try clear hcz7_1
    try clear hcz8_0
    try clear hcz8_1
    try clear hfz7_0
    try clear hfz7_1
    try clear hfz8_0
    try clear hfz8_1
    obtain ⟨kq, x3_1, rfl, HA, HJ1, BK156, HB⟩ := hcut
    cases kq with
    | zero => exact absurd HA.out (by simp [dimension_Check.j0])
    | succ kj1 =>
      have H := HA.out
      clear HA
      simp only [dimension_Check.j0] at H
      by_cases c9 : x3_1 = true
      · subst c9
        have H1 : (some 2) = some r := by rw [if_pos rfl] at H; exact H
        clear H
        have H := H1
        clear H1
        obtain rfl := Option.some.inj H
        go_wp2
        go_ret
        exact ⟨by first | rfl | (simp [errW_none, errW_some] <;> rfl) | (simp [*, errW_none, errW_some] <;> rfl), by repeat (first | (with_reducible first | exact HB.out | apply below_alloc | apply pw_below_drewN | apply below_drew1 | refine below_set ?_ GE156.out) | exact HB.out)⟩
      · replace c9 := Bool.eq_false_iff.mpr c9
        subst c9
        have H1 : (if a0_0 > a0_1 then (some 9) else (some 0)) = some r := by rw [if_neg (show ¬ (false = true) by decide)] at H; exact H
        clear H
        have H := H1
        clear H1
        by_cases c10 : a0_0 > a0_1
        · rw [if_pos c10] at H
          have c10b0 : decide (a0_1 < a0_0) = true := decide_eq_true c10
          clear c10
          obtain rfl := Option.some.inj H
          have hcz11_0 : wc.cell? ⟨gb156, 0, none⟩ = some (.int .i64 a0_0) := (blk_cell BK156.out 0).trans rfl
          have hcz11_1 : wc.cell? ⟨gb156, 1, none⟩ = some (.int .i64 a0_1) := (blk_cell BK156.out 1).trans rfl
          have hfz11_0 := blk_frozen BK156.out 0
          have hfz11_1 := blk_frozen BK156.out 1
          go_wp2
          go_ret
          exact ⟨by first | rfl | (simp [errW_none, errW_some] <;> rfl) | (simp [*, errW_none, errW_some] <;> rfl), by repeat (first | (with_reducible first | exact HB.out | apply below_alloc | apply pw_below_drewN | apply below_drew1 | refine below_set ?_ GE156.out) | exact HB.out)⟩
        · rw [if_neg c10] at H
          have c10b0 : decide (a0_1 < a0_0) = false := decide_eq_false c10
          clear c10
          obtain rfl := Option.some.inj H
          have hcz12_0 : wc.cell? ⟨gb156, 0, none⟩ = some (.int .i64 a0_0) := (blk_cell BK156.out 0).trans rfl
          have hcz12_1 : wc.cell? ⟨gb156, 1, none⟩ = some (.int .i64 a0_1) := (blk_cell BK156.out 1).trans rfl
          have hfz12_0 := blk_frozen BK156.out 0
          have hfz12_1 := blk_frozen BK156.out 1
          go_wp2
          go_ret
          exact ⟨by first | rfl | (simp [errW_none, errW_some] <;> rfl) | (simp [*, errW_none, errW_some] <;> rfl), by repeat (first | (with_reducible first | exact HB.out | apply below_alloc | apply pw_below_drewN | apply below_drew1 | refine below_set ?_ GE156.out) | exact HB.out)⟩
end Go.Proofs.Ytkgdlbepjmgaiaa.Cal
namespace Go.Proofs.Ytkgdlbepjmgaiaa.Cal
open Go.RowKit Go.Proofs.YtkgdlbepjmgaiaaW.PrintWords Go.Proofs.YtkgdlbepjmgaiaaW.PrintLast Go.Proofs.YtkgdlbepjmgaiaaW.PrintMore
attribute [local go_sem] max2_int min2_int max_two min_two max_three min_three max_four min_four
set_option linter.unusedVariables false
set_option linter.unusedSimpArgs false
def calibrate_Judge.j0 : Nat → Bool → Int → Int → Int → Int → Option (Int × Int)
  | 0, _, _, _, _, _ => none
  | k + 1, x25, x161000, x161001, x165000, x165001 => if x25 = true then (some (2, 0)) else (if x165001 < x161000 then (some (0, 0)) else (if x165000 > x161001 then (some (0, 0)) else (some (1, 0))))
def calibrate_Judge.f (k : Nat) (l0 : List (S68)) (a1_0 : ByteArray) (a1_1 : Int) (a1_2 : Int) (a2_0 : Int) (a2_1 : Int) : Option (Int × Int) := (calibrate_Value.f k l0 a1_0 a1_1 a1_2).bind fun bt161 => (if bt161.2.2 = 0 then ((dimension_Check.f k a2_0 a2_1).bind fun t165 => (if t165 = 0 then (if bt161.1 ≥ a2_0 then (calibrate_Judge.j0 k (decide (bt161.2.1 ≤ a2_1)) a2_0 a2_1 bt161.1 bt161.2.1) else (calibrate_Judge.j0 k false a2_0 a2_1 bt161.1 bt161.2.1)) else (some (0, t165)))) else (some (0, bt161.2.2)))
theorem calibrate_Judge.mono_l : ∀ k, (∀ y0 y1 y2 y3 y4, LeO (calibrate_Judge.j0 k y0 y1 y2 y3 y4) (calibrate_Judge.j0 (k + 1) y0 y1 y2 y3 y4))
  | 0 => fun _ _ _ _ _ r h => by simp [calibrate_Judge.j0] at h
  | k + 1 => by
    have ih0 := calibrate_Judge.mono_l k
    · intro y0 y1 y2 y3 y4
      unfold calibrate_Judge.j0
      repeat' first
      | (with_reducible exact ih0 _ _ _ _ _)
      | (with_reducible exact calibrate_Value.mono _ _ _ _ _)
      | (with_reducible exact dimension_Check.mono _ _ _)
      | (with_reducible exact LeO.refl _)
      | (with_reducible exact LeO.none _)
      | (with_reducible refine LeO.ite ?_ ?_)
      | (with_reducible refine LeO.bind ?_ (fun _ => ?_))
      | exact ih0 _ _ _ _ _
      | exact calibrate_Value.mono _ _ _ _ _
      | exact dimension_Check.mono _ _ _
      | exact LeO.none _
      | refine LeO.ite ?_ ?_
      | refine LeO.bind ?_ (fun _ => ?_)
theorem calibrate_Judge.mono : ∀ a0 a1 a2 a3 a4 a5 k, LeO (calibrate_Judge.f k a0 a1 a2 a3 a4 a5) (calibrate_Judge.f (k + 1) a0 a1 a2 a3 a4 a5) := by
  intro a0 a1 a2 a3 a4 a5 k
  have ih0 := calibrate_Judge.mono_l k
  unfold calibrate_Judge.f
  repeat' first
      | (with_reducible exact ih0 _ _ _ _ _)
      | (with_reducible exact calibrate_Value.mono _ _ _ _ _)
      | (with_reducible exact dimension_Check.mono _ _ _)
      | (with_reducible exact LeO.refl _)
      | (with_reducible exact LeO.none _)
      | (with_reducible refine LeO.ite ?_ ?_)
      | (with_reducible refine LeO.bind ?_ (fun _ => ?_))
      | exact ih0 _ _ _ _ _
      | exact calibrate_Value.mono _ _ _ _ _
      | exact dimension_Check.mono _ _ _
      | exact LeO.none _
      | refine LeO.ite ?_ ?_
      | refine LeO.bind ?_ (fun _ => ?_)
set_option maxHeartbeats 8000000 in
set_option maxRecDepth 100000 in
theorem calibrate_Judge.calls (k : Nat) (A0 : Option Addr) (c0 : Nat) (l0 : List (S68)) (a1_0 : ByteArray) (a1_1 : Int) (a1_2 : Int) (a2_0 : Int) (a2_1 : Int) (r1 : Int) (r2 : Int) (w : World) (hr0 : Kd.C k68 w A0 l0.length l0) (hc0 : l0.length ≤ c0) (h : calibrate_Judge.f k l0 a1_0 a1_1 a1_2 a2_0 a2_1 = some (r1, r2)) :
    Calls Try.prog 35 #[.slice A0 l0.length c0, .agg #[.string a1_0, .int .i64 a1_1, .int .i64 a1_2], .agg #[.int .i64 a2_0, .int .i64 a2_1]] w fun e w' => e = .returned (.tuple #[.int .i64 r1, .int .i64 r2]) ∧ Below w.heap.size w w' := by
  have hu51 := Try.underlying51
  have hu25 := Try.underlying25
  have HR0 := Aside0.mk hr0
  have HC0 := Aside0.mk hc0
  clear hr0 hc0
  have HB := Aside0.mk (Below.refl w.heap.size w)
  have H : ((calibrate_Value.f k l0 a1_0 a1_1 a1_2).bind fun bt161 => (if bt161.2.2 = 0 then ((dimension_Check.f k a2_0 a2_1).bind fun t165 => (if t165 = 0 then (if bt161.1 ≥ a2_0 then (calibrate_Judge.j0 k (decide (bt161.2.1 ≤ a2_1)) a2_0 a2_1 bt161.1 bt161.2.1) else (calibrate_Judge.j0 k false a2_0 a2_1 bt161.1 bt161.2.1)) else (some (0, t165)))) else (some (0, bt161.2.2)))) = some (r1, r2) := h
  clear h
  replace H := Option.bind_eq_some_iff.mp H
  obtain ⟨⟨t161, t162, t163⟩, A40, H⟩ := H
  replace H : (if t163 = 0 then ((dimension_Check.f k a2_0 a2_1).bind fun t165 => (if t165 = 0 then (if t161 ≥ a2_0 then (calibrate_Judge.j0 k (decide (t162 ≤ a2_1)) a2_0 a2_1 t161 t162) else (calibrate_Judge.j0 k false a2_0 a2_1 t161 t162)) else (some (0, t165)))) else (some (0, t163))) = some (r1, r2) := H
  have A4 := Aside0.mk A40
  clear A40
  by_cases c5 : t163 = 0
  · rw [if_pos c5] at H
    have c5b0 : (t163 == 0) = true := beq_iff_eq.mpr c5
    have c5b1 : (t163 != 0) = false := bne_eq_false_iff_eq.mpr c5
    clear c5
    replace H := Option.bind_eq_some_iff.mp H
    obtain ⟨t165, A60, H⟩ := H
    replace H : (if t165 = 0 then (if t161 ≥ a2_0 then (calibrate_Judge.j0 k (decide (t162 ≤ a2_1)) a2_0 a2_1 t161 t162) else (calibrate_Judge.j0 k false a2_0 a2_1 t161 t162)) else (some (0, t165))) = some (r1, r2) := H
    have A6 := Aside0.mk A60
    clear A60
    by_cases c7 : t165 = 0
    · rw [if_pos c7] at H
      have c7b0 : (t165 == 0) = true := beq_iff_eq.mpr c7
      have c7b1 : (t165 != 0) = false := bne_eq_false_iff_eq.mpr c7
      clear c7
      have HC8 := Aside0.mk H
      clear H
      go_enter Try.func35, Try.ntmps35
      go_upto_region 7 with (first | ((with_reducible refine gate_dst (N := 4) rfl ?_); refine box_event ?hg (N := 4) ?hd (cs := #[.string a1_0, .int .i64 a1_1, .int .i64 a1_2]) (t := 51) ?hr ?_; (case hd => rfl); (case hg => rfl); (case hr => first | (go_simp; done) | (go_simp; rfl)); intro gb159 hg w9 hbox hb; have n0_ := Aside0.mk (below_step (by repeat (first | (with_reducible first | exact HB.out | apply below_alloc | apply pw_below_drewN | apply below_drew1) | exact HB.out)) hb); have n1_ := Aside0.mk (hbox); have n2_ := Aside0.mk ((by rw [hg]; exact (below_size (by repeat (first | (with_reducible first | exact HB.out | apply below_alloc | apply pw_below_drewN | apply below_drew1) | exact HB.out))) : w.heap.size ≤ gb159)); have n3_ := Aside0.mk ((by rw [hg]; exact (below_size (by repeat (first | (with_reducible first | exact HB.out | apply below_alloc | apply pw_below_drewN | apply below_drew1) | exact HB.out))) : w.heap.size ≤ gb159)); clear HB; have HB := n0_; have BK159 := n1_; have GW159 := n2_; have GE159 := n3_; clear n0_ n1_ n2_ n3_; clear hb hbox hg) | ((with_reducible refine gate_dst (N := 5) rfl ?_); refine box_event ?hg (N := 5) ?hd (cs := #[.int .i64 a2_0, .int .i64 a2_1]) (t := 25) ?hr ?_; (case hd => rfl); (case hg => rfl); (case hr => first | (go_simp; done) | (go_simp; rfl)); intro gb160 hg w10 hbox hb; have n0_ := Aside0.mk (blk_below (g := gb159) (o := .cells #[.string a1_0, .int .i64 a1_1, .int .i64 a1_2] 51 (0, 0)) (by (with_reducible repeat (first | refine blk_drewN ?_ _ | refine blk_drew ?_ | refine blk_alloc ?_ _)); exact BK159.out) hb); have n1_ := Aside0.mk (below_step (by repeat (first | (with_reducible first | exact HB.out | apply below_alloc | apply pw_below_drewN | apply below_drew1 | refine below_set ?_ GE159.out) | exact HB.out)) hb); have n2_ := Aside0.mk (hbox); have n3_ := Aside0.mk ((by rw [hg]; exact (below_size (by repeat (first | (with_reducible first | exact HB.out | apply below_alloc | apply pw_below_drewN | apply below_drew1 | refine below_set ?_ GE159.out) | exact HB.out))) : w.heap.size ≤ gb160)); have n4_ := Aside0.mk ((by rw [hg]; exact (below_size (by repeat (first | (with_reducible first | exact HB.out | apply below_alloc | apply pw_below_drewN | apply below_drew1 | refine below_set ?_ GE159.out) | exact HB.out))) : w.heap.size ≤ gb160)); have n5_ := Aside0.mk ((by rw [hg]; exact Nat.ne_of_lt (blk_lt (g := gb159) (o := .cells #[.string a1_0, .int .i64 a1_1, .int .i64 a1_2] 51 (0, 0)) (by (with_reducible repeat (first | refine blk_drewN ?_ _ | refine blk_drew ?_ | refine blk_alloc ?_ _)); exact BK159.out)) : gb159 ≠ gb160)); have n6_ := Aside0.mk ((by rw [hg]; exact Nat.ne_of_gt (blk_lt (g := gb159) (o := .cells #[.string a1_0, .int .i64 a1_1, .int .i64 a1_2] 51 (0, 0)) (by (with_reducible repeat (first | refine blk_drewN ?_ _ | refine blk_drew ?_ | refine blk_alloc ?_ _)); exact BK159.out)) : gb160 ≠ gb159)); clear BK159; clear HB; have BK159 := n0_; have HB := n1_; have BK160 := n2_; have GW160 := n3_; have GE160 := n4_; have NB159_160 := n5_; have NB160_159 := n6_; clear n0_ n1_ n2_ n3_ n4_ n5_ n6_; clear hb hbox hg; have hnb11 := NB159_160.out; have hnc11 := NB160_159.out; have hcz12_0 : w10.cell? ⟨gb159, 0, none⟩ = some (.string a1_0) := (blk_cell BK159.out 0).trans rfl; have hcz12_1 : w10.cell? ⟨gb159, 1, none⟩ = some (.int .i64 a1_1) := (blk_cell BK159.out 1).trans rfl; have hcz12_2 : w10.cell? ⟨gb159, 2, none⟩ = some (.int .i64 a1_2) := (blk_cell BK159.out 2).trans rfl; have hfz12_0 := blk_frozen BK159.out 0; have hfz12_1 := blk_frozen BK159.out 1; have hfz12_2 := blk_frozen BK159.out 2) | ((with_reducible refine gate_callee (f := 63) rfl ?_); refine goesL_ (some 14) rfl rfl Try.func63 (by kernel_rfl) rfl #[.slice A0 l0.length c0, .agg #[.string a1_0, .int .i64 a1_1, .int .i64 a1_2]] rfl (by (try simp only [List.map_toArray, List.map_cons, List.map_nil]); first | done | rfl | (simp only [List.length_drop, List.length_take]; rfl)) ?_; (with_reducible refine (calibrate_Value.calls k _ _ l0 a1_0 a1_1 a1_2 t161 t162 t163 _ ?side1 ?side2 A4.out).mono ?_); (case side1 => repeat (first | exact (Kd.C_below HR0.out HB.out) | (with_reducible refine Kd.C_alloc ?_ _) | (with_reducible refine Kd.C_drewN ?_ _) | (with_reducible refine Kd.C_drew ?_))); (case side2 => exact HC0.out); rintro e w13 ⟨rfl, hb⟩; refine ⟨_, rfl, ?_⟩; have n0_ := Aside0.mk (blk_below (g := gb159) (o := .cells #[.string a1_0, .int .i64 a1_1, .int .i64 a1_2] 51 (0, 0)) (by (with_reducible repeat (first | refine blk_drewN ?_ _ | refine blk_drew ?_ | refine blk_alloc ?_ _)); exact BK159.out) hb); have n1_ := Aside0.mk (blk_below (g := gb160) (o := .cells #[.int .i64 a2_0, .int .i64 a2_1] 25 (0, 0)) (by (with_reducible repeat (first | refine blk_drewN ?_ _ | refine blk_drew ?_ | refine blk_alloc ?_ _)); exact BK160.out) hb); have n2_ := Aside0.mk (below_step (by repeat (first | (with_reducible first | exact HB.out | apply below_alloc | apply pw_below_drewN | apply below_drew1 | refine below_set ?_ GE159.out | refine below_set ?_ GE160.out) | exact HB.out)) hb); clear BK159; clear BK160; clear HB; have BK159 := n0_; have BK160 := n1_; have HB := n2_; clear n0_ n1_ n2_; (try clear hb); (try clear hb2); (try clear hk); (try clear hi)) | ((with_reducible refine gate_dst (N := 8) rfl ?_); refine box_event ?hg (N := 8) ?hd (cs := #[.int .i64 0, .int .i64 0]) (t := 25) ?hr ?_; (case hd => rfl); (case hg => rfl); (case hr => first | (go_simp; done) | (go_simp; rfl)); intro gb164 hg w14 hbox hb; have n0_ := Aside0.mk (blk_below (g := gb159) (o := .cells #[.string a1_0, .int .i64 a1_1, .int .i64 a1_2] 51 (0, 0)) (by (with_reducible repeat (first | refine blk_drewN ?_ _ | refine blk_drew ?_ | refine blk_alloc ?_ _)); exact BK159.out) hb); have n1_ := Aside0.mk (blk_below (g := gb160) (o := .cells #[.int .i64 a2_0, .int .i64 a2_1] 25 (0, 0)) (by (with_reducible repeat (first | refine blk_drewN ?_ _ | refine blk_drew ?_ | refine blk_alloc ?_ _)); exact BK160.out) hb); have n2_ := Aside0.mk (below_step (by repeat (first | (with_reducible first | exact HB.out | apply below_alloc | apply pw_below_drewN | apply below_drew1 | refine below_set ?_ GE159.out | refine below_set ?_ GE160.out) | exact HB.out)) hb); have n3_ := Aside0.mk (hbox); have n4_ := Aside0.mk ((by rw [hg]; exact (below_size (by repeat (first | (with_reducible first | exact HB.out | apply below_alloc | apply pw_below_drewN | apply below_drew1 | refine below_set ?_ GE159.out | refine below_set ?_ GE160.out) | exact HB.out))) : w.heap.size ≤ gb164)); have n5_ := Aside0.mk ((by rw [hg]; exact (below_size (by repeat (first | (with_reducible first | exact HB.out | apply below_alloc | apply pw_below_drewN | apply below_drew1 | refine below_set ?_ GE159.out | refine below_set ?_ GE160.out) | exact HB.out))) : w.heap.size ≤ gb164)); have n6_ := Aside0.mk ((by rw [hg]; exact Nat.ne_of_lt (blk_lt (g := gb159) (o := .cells #[.string a1_0, .int .i64 a1_1, .int .i64 a1_2] 51 (0, 0)) (by (with_reducible repeat (first | refine blk_drewN ?_ _ | refine blk_drew ?_ | refine blk_alloc ?_ _)); exact BK159.out)) : gb159 ≠ gb164)); have n7_ := Aside0.mk ((by rw [hg]; exact Nat.ne_of_gt (blk_lt (g := gb159) (o := .cells #[.string a1_0, .int .i64 a1_1, .int .i64 a1_2] 51 (0, 0)) (by (with_reducible repeat (first | refine blk_drewN ?_ _ | refine blk_drew ?_ | refine blk_alloc ?_ _)); exact BK159.out)) : gb164 ≠ gb159)); have n8_ := Aside0.mk ((by rw [hg]; exact Nat.ne_of_lt (blk_lt (g := gb160) (o := .cells #[.int .i64 a2_0, .int .i64 a2_1] 25 (0, 0)) (by (with_reducible repeat (first | refine blk_drewN ?_ _ | refine blk_drew ?_ | refine blk_alloc ?_ _)); exact BK160.out)) : gb160 ≠ gb164)); have n9_ := Aside0.mk ((by rw [hg]; exact Nat.ne_of_gt (blk_lt (g := gb160) (o := .cells #[.int .i64 a2_0, .int .i64 a2_1] 25 (0, 0)) (by (with_reducible repeat (first | refine blk_drewN ?_ _ | refine blk_drew ?_ | refine blk_alloc ?_ _)); exact BK160.out)) : gb164 ≠ gb160)); clear BK159; clear BK160; clear HB; have BK159 := n0_; have BK160 := n1_; have HB := n2_; have BK164 := n3_; have GW164 := n4_; have GE164 := n5_; have NB159_164 := n6_; have NB164_159 := n7_; have NB160_164 := n8_; have NB164_160 := n9_; clear n0_ n1_ n2_ n3_ n4_ n5_ n6_ n7_ n8_ n9_; clear hb hbox hg; have hnb15 := NB164_159.out; have hnc15 := NB159_164.out; have hnb16 := NB164_160.out; have hnc16 := NB160_164.out; have hcz17_0 : w14.cell? ⟨gb164, 0, none⟩ = some (.int .i64 0) := (blk_cell BK164.out 0).trans rfl; have hcz17_1 : w14.cell? ⟨gb164, 1, none⟩ = some (.int .i64 0) := (blk_cell BK164.out 1).trans rfl; have hfz17_0 := blk_frozen BK164.out 0; have hfz17_1 := blk_frozen BK164.out 1; have hcz18_0 : w14.cell? ⟨gb160, 0, none⟩ = some (.int .i64 a2_0) := (blk_cell BK160.out 0).trans rfl; have hcz18_1 : w14.cell? ⟨gb160, 1, none⟩ = some (.int .i64 a2_1) := (blk_cell BK160.out 1).trans rfl; have hfz18_0 := blk_frozen BK160.out 0; have hfz18_1 := blk_frozen BK160.out 1) | ((with_reducible refine gate_callee (f := 82) rfl ?_); refine goesL_ (some 21) rfl rfl Try.func82 (by kernel_rfl) rfl #[.agg #[.int .i64 a2_0, .int .i64 a2_1]] rfl (by (try simp only [List.map_toArray, List.map_cons, List.map_nil]); first | done | rfl | (simp only [List.length_drop, List.length_take]; rfl)) ?_; (with_reducible refine (dimension_Check.calls k a2_0 a2_1 t165 _ A6.out).mono ?_); rintro e w19 ⟨rfl, hb⟩; refine ⟨_, rfl, ?_⟩; have n0_ := Aside0.mk (blk_below (g := gb159) (o := .cells #[.string a1_0, .int .i64 a1_1, .int .i64 a1_2] 51 (0, 0)) (by (with_reducible repeat (first | refine blk_drewN ?_ _ | refine blk_drew ?_ | refine blk_alloc ?_ _)); refine blk_far ?_ NB159_164.out _; (with_reducible repeat (first | refine blk_drewN ?_ _ | refine blk_drew ?_ | refine blk_alloc ?_ _)); refine blk_far ?_ NB159_164.out _; (with_reducible repeat (first | refine blk_drewN ?_ _ | refine blk_drew ?_ | refine blk_alloc ?_ _)); exact BK159.out) hb); have n1_ := Aside0.mk (blk_below (g := gb160) (o := .cells #[.int .i64 a2_0, .int .i64 a2_1] 25 (0, 0)) (by (with_reducible repeat (first | refine blk_drewN ?_ _ | refine blk_drew ?_ | refine blk_alloc ?_ _)); refine blk_far ?_ NB160_164.out _; (with_reducible repeat (first | refine blk_drewN ?_ _ | refine blk_drew ?_ | refine blk_alloc ?_ _)); refine blk_far ?_ NB160_164.out _; (with_reducible repeat (first | refine blk_drewN ?_ _ | refine blk_drew ?_ | refine blk_alloc ?_ _)); exact BK160.out) hb); have n2_ := Aside0.mk (blk_below (g := gb164) (o := .cells #[.int .i64 t161, .int .i64 t162] 25 (0, 0)) (by (with_reducible repeat (first | refine blk_drewN ?_ _ | refine blk_drew ?_ | refine blk_alloc ?_ _)); refine blk_put (cs := #[.int .i64 t161, .int .i64 0]) ?_ 1 _ rfl; (with_reducible repeat (first | refine blk_drewN ?_ _ | refine blk_drew ?_ | refine blk_alloc ?_ _)); refine blk_put (cs := #[.int .i64 0, .int .i64 0]) ?_ 0 _ rfl; (with_reducible repeat (first | refine blk_drewN ?_ _ | refine blk_drew ?_ | refine blk_alloc ?_ _)); exact BK164.out) hb); have n3_ := Aside0.mk (below_step (by repeat (first | (with_reducible first | exact HB.out | apply below_alloc | apply pw_below_drewN | apply below_drew1 | refine below_set ?_ GE159.out | refine below_set ?_ GE160.out | refine below_set ?_ GE164.out) | exact HB.out)) hb); clear BK159; clear BK160; clear BK164; clear HB; have BK159 := n0_; have BK160 := n1_; have BK164 := n2_; have HB := n3_; clear n0_ n1_ n2_ n3_; (try clear hb); (try clear hb2); (try clear hk); (try clear hi)))
      (try simp only [Act.put, List.setIfInBounds_toArray, List.set_cons_zero, List.set_cons_succ])
      go_cut [25] (fun v25 wc => ∃ (kq : Nat) (x25_7 : Bool), v25 = .bool x25_7 ∧ Aside0 (calibrate_Judge.j0 kq x25_7 a2_0 a2_1 t161 t162 = some (r1, r2)) ∧ Aside0 (kq ≤ k) ∧ Aside0 (wc.heap[gb159]? = some (.cells #[.string a1_0, .int .i64 a1_1, .int .i64 a1_2] 51 (0, 0))) ∧ Aside0 (wc.heap[gb160]? = some (.cells #[.int .i64 a2_0, .int .i64 a2_1] 25 (0, 0))) ∧ Aside0 (wc.heap[gb164]? = some (.cells #[.int .i64 t161, .int .i64 t162] 25 (0, 0))) ∧ Aside0 (Below w.heap.size w wc))
      case first =>
        have H := HC8.out
        clear HC8
        by_cases c20 : t161 ≥ a2_0
        · rw [if_pos c20] at H
          have c20b0 : decide (a2_0 ≤ t161) = true := decide_eq_true c20
          clear c20
          (first | rw [c20b0] | (simp only [i64_w, i32_w]; rw [c20b0]) | (rw [c20b2]; try simp only [Bool.not_true, Bool.not_false]) | skip)
          have H' := Aside0.mk H
          clear H
          have hnb21 := NB164_159.out
          have hnc21 := NB159_164.out
          have hnb22 := NB164_160.out
          have hnc22 := NB160_164.out
          have hcz23_0 : w19.cell? ⟨gb164, 0, none⟩ = some (.int .i64 t161) := (blk_cell BK164.out 0).trans rfl
          have hcz23_1 : w19.cell? ⟨gb164, 1, none⟩ = some (.int .i64 t162) := (blk_cell BK164.out 1).trans rfl
          have hfz23_0 := blk_frozen BK164.out 0
          have hfz23_1 := blk_frozen BK164.out 1
          have hnb24 := NB160_159.out
          have hnc24 := NB159_160.out
          have hcz25_0 : w19.cell? ⟨gb160, 0, none⟩ = some (.int .i64 a2_0) := (blk_cell BK160.out 0).trans rfl
          have hcz25_1 : w19.cell? ⟨gb160, 1, none⟩ = some (.int .i64 a2_1) := (blk_cell BK160.out 1).trans rfl
          have hfz25_0 := blk_frozen BK160.out 0
          have hfz25_1 := blk_frozen BK160.out 1
          go_wp2
          go_meet
          case rel => exact ⟨_, (decide (t162 ≤ a2_1)), (by first | rfl | (simp; done) | (simp [*]; done)), H', ⟨by first | omega | exact Nat.le_refl _⟩, ⟨by (with_reducible repeat (first | refine blk_drewN ?_ _ | refine blk_drew ?_ | refine blk_alloc ?_ _)); exact BK159.out⟩, ⟨by (with_reducible repeat (first | refine blk_drewN ?_ _ | refine blk_drew ?_ | refine blk_alloc ?_ _)); exact BK160.out⟩, ⟨by (with_reducible repeat (first | refine blk_drewN ?_ _ | refine blk_drew ?_ | refine blk_alloc ?_ _)); exact BK164.out⟩, ⟨by repeat (first | (with_reducible first | exact HB.out | apply below_alloc | apply pw_below_drewN | apply below_drew1 | refine below_set ?_ GE159.out | refine below_set ?_ GE160.out | refine below_set ?_ GE164.out) | exact HB.out)⟩⟩
        · rw [if_neg c20] at H
          have c20b0 : decide (a2_0 ≤ t161) = false := decide_eq_false c20
          clear c20
          (first | rw [c20b0] | (simp only [i64_w, i32_w]; rw [c20b0]) | (rw [c20b2]; try simp only [Bool.not_true, Bool.not_false]) | skip)
          have H' := Aside0.mk H
          clear H
          have hnb26 := NB164_159.out
          have hnc26 := NB159_164.out
          have hnb27 := NB164_160.out
          have hnc27 := NB160_164.out
          have hcz28_0 : w19.cell? ⟨gb164, 0, none⟩ = some (.int .i64 t161) := (blk_cell BK164.out 0).trans rfl
          have hcz28_1 : w19.cell? ⟨gb164, 1, none⟩ = some (.int .i64 t162) := (blk_cell BK164.out 1).trans rfl
          have hfz28_0 := blk_frozen BK164.out 0
          have hfz28_1 := blk_frozen BK164.out 1
          have hnb29 := NB160_159.out
          have hnc29 := NB159_160.out
          have hcz30_0 : w19.cell? ⟨gb160, 0, none⟩ = some (.int .i64 a2_0) := (blk_cell BK160.out 0).trans rfl
          have hcz30_1 : w19.cell? ⟨gb160, 1, none⟩ = some (.int .i64 a2_1) := (blk_cell BK160.out 1).trans rfl
          have hfz30_0 := blk_frozen BK160.out 0
          have hfz30_1 := blk_frozen BK160.out 1
          go_wp2
          go_meet
          case rel => exact ⟨_, (false), (by first | rfl | (simp; done) | (simp [*]; done)), H', ⟨by first | omega | exact Nat.le_refl _⟩, ⟨by (with_reducible repeat (first | refine blk_drewN ?_ _ | refine blk_drew ?_ | refine blk_alloc ?_ _)); exact BK159.out⟩, ⟨by (with_reducible repeat (first | refine blk_drewN ?_ _ | refine blk_drew ?_ | refine blk_alloc ?_ _)); exact BK160.out⟩, ⟨by (with_reducible repeat (first | refine blk_drewN ?_ _ | refine blk_drew ?_ | refine blk_alloc ?_ _)); exact BK164.out⟩, ⟨by repeat (first | (with_reducible first | exact HB.out | apply below_alloc | apply pw_below_drewN | apply below_drew1 | refine below_set ?_ GE159.out | refine below_set ?_ GE160.out | refine below_set ?_ GE164.out) | exact HB.out)⟩⟩
      case rest =>
        clear HC8
        try clear c1
        try clear c2
        try clear p2
        try clear c3
        try clear c5
        try clear c5b0
        try clear c5b1
        try clear c6
        try clear c7
        try clear c7b0
        try clear c7b1
        try clear c8
        try clear c11
        try clear c15
        try clear c16
        try clear c20
        try clear c20b0
        try clear c20b2
        try clear c21
        try clear c22
        try clear c24
        try clear c26
        try clear c27
        try clear c29
        try clear hcz12_0
        try clear hcz12_1
        try clear hcz12_2
        try clear hcz17_0
        try clear hcz17_1
        try clear hcz18_0
        try clear hcz18_1
        try clear hcz23_0
        try clear hcz23_1
        try clear hcz25_0
        try clear hcz25_1
        try clear hcz28_0
        try clear hcz28_1
        try clear hcz30_0
        try clear hcz30_1
        try clear hfz12_0
        try clear hfz12_1
        try clear hfz12_2
        try clear hfz17_0
        try clear hfz17_1
        try clear hfz18_0
        try clear hfz18_1
        try clear hfz23_0
        try clear hfz23_1
        try clear hfz25_0
        try clear hfz25_1
        try clear hfz28_0
        try clear hfz28_1
        try clear hfz30_0
        try clear hfz30_1
        obtain ⟨kq, x25_7, rfl, HA, HJ7, BK159, BK160, BK164, HB⟩ := hcut
        cases kq with
        | zero => exact absurd HA.out (by simp [calibrate_Judge.j0])
        | succ kj7 =>
          have H := HA.out
          clear HA
          simp only [calibrate_Judge.j0] at H
          by_cases c31 : x25_7 = true
          · subst c31
            have H1 : (some (2, 0)) = some (r1, r2) := by rw [if_pos rfl] at H; exact H
            clear H
            have H := H1
            clear H1
            simp only [Option.some.injEq, Prod.mk.injEq] at H
            obtain ⟨rfl, rfl⟩ := H
            go_wp2
            go_ret2
            exact ⟨by first | rfl | (simp [errW_none, errW_some] <;> rfl) | (simp [*, errW_none, errW_some] <;> rfl), by repeat (first | (with_reducible first | exact HB.out | apply below_alloc | apply pw_below_drewN | apply below_drew1 | refine below_set ?_ GE159.out | refine below_set ?_ GE160.out | refine below_set ?_ GE164.out) | exact HB.out)⟩
          · replace c31 := Bool.eq_false_iff.mpr c31
            subst c31
            have H1 : (if t162 < a2_0 then (some (0, 0)) else (if t161 > a2_1 then (some (0, 0)) else (some (1, 0)))) = some (r1, r2) := by rw [if_neg (show ¬ (false = true) by decide)] at H; exact H
            clear H
            have H := H1
            clear H1
            by_cases c32 : t162 < a2_0
            · rw [if_pos c32] at H
              have c32b0 : decide (t162 < a2_0) = true := decide_eq_true c32
              clear c32
              simp only [Option.some.injEq, Prod.mk.injEq] at H
              obtain ⟨rfl, rfl⟩ := H
              have hnb33 := NB164_159.out
              have hnc33 := NB159_164.out
              have hnb34 := NB164_160.out
              have hnc34 := NB160_164.out
              have hcz35_0 : wc.cell? ⟨gb164, 0, none⟩ = some (.int .i64 t161) := (blk_cell BK164.out 0).trans rfl
              have hcz35_1 : wc.cell? ⟨gb164, 1, none⟩ = some (.int .i64 t162) := (blk_cell BK164.out 1).trans rfl
              have hfz35_0 := blk_frozen BK164.out 0
              have hfz35_1 := blk_frozen BK164.out 1
              have hnb36 := NB160_159.out
              have hnc36 := NB159_160.out
              have hcz37_0 : wc.cell? ⟨gb160, 0, none⟩ = some (.int .i64 a2_0) := (blk_cell BK160.out 0).trans rfl
              have hcz37_1 : wc.cell? ⟨gb160, 1, none⟩ = some (.int .i64 a2_1) := (blk_cell BK160.out 1).trans rfl
              have hfz37_0 := blk_frozen BK160.out 0
              have hfz37_1 := blk_frozen BK160.out 1
              go_wp2
              go_ret2
              exact ⟨by first | rfl | (simp [errW_none, errW_some] <;> rfl) | (simp [*, errW_none, errW_some] <;> rfl), by repeat (first | (with_reducible first | exact HB.out | apply below_alloc | apply pw_below_drewN | apply below_drew1 | refine below_set ?_ GE159.out | refine below_set ?_ GE160.out | refine below_set ?_ GE164.out) | exact HB.out)⟩
            · rw [if_neg c32] at H
              have c32b0 : decide (t162 < a2_0) = false := decide_eq_false c32
              clear c32
              by_cases c38 : t161 > a2_1
              · rw [if_pos c38] at H
                have c38b0 : decide (a2_1 < t161) = true := decide_eq_true c38
                clear c38
                simp only [Option.some.injEq, Prod.mk.injEq] at H
                obtain ⟨rfl, rfl⟩ := H
                have hnb39 := NB164_159.out
                have hnc39 := NB159_164.out
                have hnb40 := NB164_160.out
                have hnc40 := NB160_164.out
                have hcz41_0 : wc.cell? ⟨gb164, 0, none⟩ = some (.int .i64 t161) := (blk_cell BK164.out 0).trans rfl
                have hcz41_1 : wc.cell? ⟨gb164, 1, none⟩ = some (.int .i64 t162) := (blk_cell BK164.out 1).trans rfl
                have hfz41_0 := blk_frozen BK164.out 0
                have hfz41_1 := blk_frozen BK164.out 1
                have hnb42 := NB160_159.out
                have hnc42 := NB159_160.out
                have hcz43_0 : wc.cell? ⟨gb160, 0, none⟩ = some (.int .i64 a2_0) := (blk_cell BK160.out 0).trans rfl
                have hcz43_1 : wc.cell? ⟨gb160, 1, none⟩ = some (.int .i64 a2_1) := (blk_cell BK160.out 1).trans rfl
                have hfz43_0 := blk_frozen BK160.out 0
                have hfz43_1 := blk_frozen BK160.out 1
                go_wp2
                go_ret2
                exact ⟨by first | rfl | (simp [errW_none, errW_some] <;> rfl) | (simp [*, errW_none, errW_some] <;> rfl), by repeat (first | (with_reducible first | exact HB.out | apply below_alloc | apply pw_below_drewN | apply below_drew1 | refine below_set ?_ GE159.out | refine below_set ?_ GE160.out | refine below_set ?_ GE164.out) | exact HB.out)⟩
              · rw [if_neg c38] at H
                have c38b0 : decide (a2_1 < t161) = false := decide_eq_false c38
                clear c38
                simp only [Option.some.injEq, Prod.mk.injEq] at H
                obtain ⟨rfl, rfl⟩ := H
                have hnb44 := NB164_159.out
                have hnc44 := NB159_164.out
                have hnb45 := NB164_160.out
                have hnc45 := NB160_164.out
                have hcz46_0 : wc.cell? ⟨gb164, 0, none⟩ = some (.int .i64 t161) := (blk_cell BK164.out 0).trans rfl
                have hcz46_1 : wc.cell? ⟨gb164, 1, none⟩ = some (.int .i64 t162) := (blk_cell BK164.out 1).trans rfl
                have hfz46_0 := blk_frozen BK164.out 0
                have hfz46_1 := blk_frozen BK164.out 1
                have hnb47 := NB160_159.out
                have hnc47 := NB159_160.out
                have hcz48_0 : wc.cell? ⟨gb160, 0, none⟩ = some (.int .i64 a2_0) := (blk_cell BK160.out 0).trans rfl
                have hcz48_1 : wc.cell? ⟨gb160, 1, none⟩ = some (.int .i64 a2_1) := (blk_cell BK160.out 1).trans rfl
                have hfz48_0 := blk_frozen BK160.out 0
                have hfz48_1 := blk_frozen BK160.out 1
                go_wp2
                go_ret2
                exact ⟨by first | rfl | (simp [errW_none, errW_some] <;> rfl) | (simp [*, errW_none, errW_some] <;> rfl), by repeat (first | (with_reducible first | exact HB.out | apply below_alloc | apply pw_below_drewN | apply below_drew1 | refine below_set ?_ GE159.out | refine below_set ?_ GE160.out | refine below_set ?_ GE164.out) | exact HB.out)⟩
    · rw [if_neg c7] at H
      have c7b0 : (t165 == 0) = false := beq_eq_false_iff_ne.mpr c7
      have c7b1 : (t165 != 0) = true := bne_iff_ne.mpr c7
      simp only [Option.some.injEq, Prod.mk.injEq] at H
      obtain ⟨rfl, rfl⟩ := H
      go_enter Try.func35, Try.ntmps35
      go_wp2_with (first | ((with_reducible refine gate_dst (N := 4) rfl ?_); refine box_event ?hg (N := 4) ?hd (cs := #[.string a1_0, .int .i64 a1_1, .int .i64 a1_2]) (t := 51) ?hr ?_; (case hd => rfl); (case hg => rfl); (case hr => first | (go_simp; done) | (go_simp; rfl)); intro gb159 hg w49 hbox hb; have n0_ := Aside0.mk (below_step (by repeat (first | (with_reducible first | exact HB.out | apply below_alloc | apply pw_below_drewN | apply below_drew1) | exact HB.out)) hb); have n1_ := Aside0.mk (hbox); have n2_ := Aside0.mk ((by rw [hg]; exact (below_size (by repeat (first | (with_reducible first | exact HB.out | apply below_alloc | apply pw_below_drewN | apply below_drew1) | exact HB.out))) : w.heap.size ≤ gb159)); have n3_ := Aside0.mk ((by rw [hg]; exact (below_size (by repeat (first | (with_reducible first | exact HB.out | apply below_alloc | apply pw_below_drewN | apply below_drew1) | exact HB.out))) : w.heap.size ≤ gb159)); clear HB; have HB := n0_; have BK159 := n1_; have GW159 := n2_; have GE159 := n3_; clear n0_ n1_ n2_ n3_; clear hb hbox hg) | ((with_reducible refine gate_dst (N := 5) rfl ?_); refine box_event ?hg (N := 5) ?hd (cs := #[.int .i64 a2_0, .int .i64 a2_1]) (t := 25) ?hr ?_; (case hd => rfl); (case hg => rfl); (case hr => first | (go_simp; done) | (go_simp; rfl)); intro gb160 hg w50 hbox hb; have n0_ := Aside0.mk (blk_below (g := gb159) (o := .cells #[.string a1_0, .int .i64 a1_1, .int .i64 a1_2] 51 (0, 0)) (by (with_reducible repeat (first | refine blk_drewN ?_ _ | refine blk_drew ?_ | refine blk_alloc ?_ _)); exact BK159.out) hb); have n1_ := Aside0.mk (below_step (by repeat (first | (with_reducible first | exact HB.out | apply below_alloc | apply pw_below_drewN | apply below_drew1 | refine below_set ?_ GE159.out) | exact HB.out)) hb); have n2_ := Aside0.mk (hbox); have n3_ := Aside0.mk ((by rw [hg]; exact (below_size (by repeat (first | (with_reducible first | exact HB.out | apply below_alloc | apply pw_below_drewN | apply below_drew1 | refine below_set ?_ GE159.out) | exact HB.out))) : w.heap.size ≤ gb160)); have n4_ := Aside0.mk ((by rw [hg]; exact (below_size (by repeat (first | (with_reducible first | exact HB.out | apply below_alloc | apply pw_below_drewN | apply below_drew1 | refine below_set ?_ GE159.out) | exact HB.out))) : w.heap.size ≤ gb160)); have n5_ := Aside0.mk ((by rw [hg]; exact Nat.ne_of_lt (blk_lt (g := gb159) (o := .cells #[.string a1_0, .int .i64 a1_1, .int .i64 a1_2] 51 (0, 0)) (by (with_reducible repeat (first | refine blk_drewN ?_ _ | refine blk_drew ?_ | refine blk_alloc ?_ _)); exact BK159.out)) : gb159 ≠ gb160)); have n6_ := Aside0.mk ((by rw [hg]; exact Nat.ne_of_gt (blk_lt (g := gb159) (o := .cells #[.string a1_0, .int .i64 a1_1, .int .i64 a1_2] 51 (0, 0)) (by (with_reducible repeat (first | refine blk_drewN ?_ _ | refine blk_drew ?_ | refine blk_alloc ?_ _)); exact BK159.out)) : gb160 ≠ gb159)); clear BK159; clear HB; have BK159 := n0_; have HB := n1_; have BK160 := n2_; have GW160 := n3_; have GE160 := n4_; have NB159_160 := n5_; have NB160_159 := n6_; clear n0_ n1_ n2_ n3_ n4_ n5_ n6_; clear hb hbox hg; have hnb51 := NB159_160.out; have hnc51 := NB160_159.out; have hcz52_0 : w50.cell? ⟨gb159, 0, none⟩ = some (.string a1_0) := (blk_cell BK159.out 0).trans rfl; have hcz52_1 : w50.cell? ⟨gb159, 1, none⟩ = some (.int .i64 a1_1) := (blk_cell BK159.out 1).trans rfl; have hcz52_2 : w50.cell? ⟨gb159, 2, none⟩ = some (.int .i64 a1_2) := (blk_cell BK159.out 2).trans rfl; have hfz52_0 := blk_frozen BK159.out 0; have hfz52_1 := blk_frozen BK159.out 1; have hfz52_2 := blk_frozen BK159.out 2) | ((with_reducible refine gate_callee (f := 63) rfl ?_); refine goesL_ (some 14) rfl rfl Try.func63 (by kernel_rfl) rfl #[.slice A0 l0.length c0, .agg #[.string a1_0, .int .i64 a1_1, .int .i64 a1_2]] rfl (by (try simp only [List.map_toArray, List.map_cons, List.map_nil]); first | done | rfl | (simp only [List.length_drop, List.length_take]; rfl)) ?_; (with_reducible refine (calibrate_Value.calls k _ _ l0 a1_0 a1_1 a1_2 t161 t162 t163 _ ?side1 ?side2 A4.out).mono ?_); (case side1 => repeat (first | exact (Kd.C_below HR0.out HB.out) | (with_reducible refine Kd.C_alloc ?_ _) | (with_reducible refine Kd.C_drewN ?_ _) | (with_reducible refine Kd.C_drew ?_))); (case side2 => exact HC0.out); rintro e w53 ⟨rfl, hb⟩; refine ⟨_, rfl, ?_⟩; have n0_ := Aside0.mk (blk_below (g := gb159) (o := .cells #[.string a1_0, .int .i64 a1_1, .int .i64 a1_2] 51 (0, 0)) (by (with_reducible repeat (first | refine blk_drewN ?_ _ | refine blk_drew ?_ | refine blk_alloc ?_ _)); exact BK159.out) hb); have n1_ := Aside0.mk (blk_below (g := gb160) (o := .cells #[.int .i64 a2_0, .int .i64 a2_1] 25 (0, 0)) (by (with_reducible repeat (first | refine blk_drewN ?_ _ | refine blk_drew ?_ | refine blk_alloc ?_ _)); exact BK160.out) hb); have n2_ := Aside0.mk (below_step (by repeat (first | (with_reducible first | exact HB.out | apply below_alloc | apply pw_below_drewN | apply below_drew1 | refine below_set ?_ GE159.out | refine below_set ?_ GE160.out) | exact HB.out)) hb); clear BK159; clear BK160; clear HB; have BK159 := n0_; have BK160 := n1_; have HB := n2_; clear n0_ n1_ n2_; (try clear hb); (try clear hb2); (try clear hk); (try clear hi)) | ((with_reducible refine gate_dst (N := 8) rfl ?_); refine box_event ?hg (N := 8) ?hd (cs := #[.int .i64 0, .int .i64 0]) (t := 25) ?hr ?_; (case hd => rfl); (case hg => rfl); (case hr => first | (go_simp; done) | (go_simp; rfl)); intro gb164 hg w54 hbox hb; have n0_ := Aside0.mk (blk_below (g := gb159) (o := .cells #[.string a1_0, .int .i64 a1_1, .int .i64 a1_2] 51 (0, 0)) (by (with_reducible repeat (first | refine blk_drewN ?_ _ | refine blk_drew ?_ | refine blk_alloc ?_ _)); exact BK159.out) hb); have n1_ := Aside0.mk (blk_below (g := gb160) (o := .cells #[.int .i64 a2_0, .int .i64 a2_1] 25 (0, 0)) (by (with_reducible repeat (first | refine blk_drewN ?_ _ | refine blk_drew ?_ | refine blk_alloc ?_ _)); exact BK160.out) hb); have n2_ := Aside0.mk (below_step (by repeat (first | (with_reducible first | exact HB.out | apply below_alloc | apply pw_below_drewN | apply below_drew1 | refine below_set ?_ GE159.out | refine below_set ?_ GE160.out) | exact HB.out)) hb); have n3_ := Aside0.mk (hbox); have n4_ := Aside0.mk ((by rw [hg]; exact (below_size (by repeat (first | (with_reducible first | exact HB.out | apply below_alloc | apply pw_below_drewN | apply below_drew1 | refine below_set ?_ GE159.out | refine below_set ?_ GE160.out) | exact HB.out))) : w.heap.size ≤ gb164)); have n5_ := Aside0.mk ((by rw [hg]; exact (below_size (by repeat (first | (with_reducible first | exact HB.out | apply below_alloc | apply pw_below_drewN | apply below_drew1 | refine below_set ?_ GE159.out | refine below_set ?_ GE160.out) | exact HB.out))) : w.heap.size ≤ gb164)); have n6_ := Aside0.mk ((by rw [hg]; exact Nat.ne_of_lt (blk_lt (g := gb159) (o := .cells #[.string a1_0, .int .i64 a1_1, .int .i64 a1_2] 51 (0, 0)) (by (with_reducible repeat (first | refine blk_drewN ?_ _ | refine blk_drew ?_ | refine blk_alloc ?_ _)); exact BK159.out)) : gb159 ≠ gb164)); have n7_ := Aside0.mk ((by rw [hg]; exact Nat.ne_of_gt (blk_lt (g := gb159) (o := .cells #[.string a1_0, .int .i64 a1_1, .int .i64 a1_2] 51 (0, 0)) (by (with_reducible repeat (first | refine blk_drewN ?_ _ | refine blk_drew ?_ | refine blk_alloc ?_ _)); exact BK159.out)) : gb164 ≠ gb159)); have n8_ := Aside0.mk ((by rw [hg]; exact Nat.ne_of_lt (blk_lt (g := gb160) (o := .cells #[.int .i64 a2_0, .int .i64 a2_1] 25 (0, 0)) (by (with_reducible repeat (first | refine blk_drewN ?_ _ | refine blk_drew ?_ | refine blk_alloc ?_ _)); exact BK160.out)) : gb160 ≠ gb164)); have n9_ := Aside0.mk ((by rw [hg]; exact Nat.ne_of_gt (blk_lt (g := gb160) (o := .cells #[.int .i64 a2_0, .int .i64 a2_1] 25 (0, 0)) (by (with_reducible repeat (first | refine blk_drewN ?_ _ | refine blk_drew ?_ | refine blk_alloc ?_ _)); exact BK160.out)) : gb164 ≠ gb160)); clear BK159; clear BK160; clear HB; have BK159 := n0_; have BK160 := n1_; have HB := n2_; have BK164 := n3_; have GW164 := n4_; have GE164 := n5_; have NB159_164 := n6_; have NB164_159 := n7_; have NB160_164 := n8_; have NB164_160 := n9_; clear n0_ n1_ n2_ n3_ n4_ n5_ n6_ n7_ n8_ n9_; clear hb hbox hg; have hnb55 := NB164_159.out; have hnc55 := NB159_164.out; have hnb56 := NB164_160.out; have hnc56 := NB160_164.out; have hcz57_0 : w54.cell? ⟨gb164, 0, none⟩ = some (.int .i64 0) := (blk_cell BK164.out 0).trans rfl; have hcz57_1 : w54.cell? ⟨gb164, 1, none⟩ = some (.int .i64 0) := (blk_cell BK164.out 1).trans rfl; have hfz57_0 := blk_frozen BK164.out 0; have hfz57_1 := blk_frozen BK164.out 1; have hcz58_0 : w54.cell? ⟨gb160, 0, none⟩ = some (.int .i64 a2_0) := (blk_cell BK160.out 0).trans rfl; have hcz58_1 : w54.cell? ⟨gb160, 1, none⟩ = some (.int .i64 a2_1) := (blk_cell BK160.out 1).trans rfl; have hfz58_0 := blk_frozen BK160.out 0; have hfz58_1 := blk_frozen BK160.out 1) | ((with_reducible refine gate_callee (f := 82) rfl ?_); refine goesL_ (some 21) rfl rfl Try.func82 (by kernel_rfl) rfl #[.agg #[.int .i64 a2_0, .int .i64 a2_1]] rfl (by (try simp only [List.map_toArray, List.map_cons, List.map_nil]); first | done | rfl | (simp only [List.length_drop, List.length_take]; rfl)) ?_; (with_reducible refine (dimension_Check.calls k a2_0 a2_1 t165 _ A6.out).mono ?_); rintro e w59 ⟨rfl, hb⟩; refine ⟨_, rfl, ?_⟩; have n0_ := Aside0.mk (blk_below (g := gb159) (o := .cells #[.string a1_0, .int .i64 a1_1, .int .i64 a1_2] 51 (0, 0)) (by (with_reducible repeat (first | refine blk_drewN ?_ _ | refine blk_drew ?_ | refine blk_alloc ?_ _)); refine blk_far ?_ NB159_164.out _; (with_reducible repeat (first | refine blk_drewN ?_ _ | refine blk_drew ?_ | refine blk_alloc ?_ _)); refine blk_far ?_ NB159_164.out _; (with_reducible repeat (first | refine blk_drewN ?_ _ | refine blk_drew ?_ | refine blk_alloc ?_ _)); exact BK159.out) hb); have n1_ := Aside0.mk (blk_below (g := gb160) (o := .cells #[.int .i64 a2_0, .int .i64 a2_1] 25 (0, 0)) (by (with_reducible repeat (first | refine blk_drewN ?_ _ | refine blk_drew ?_ | refine blk_alloc ?_ _)); refine blk_far ?_ NB160_164.out _; (with_reducible repeat (first | refine blk_drewN ?_ _ | refine blk_drew ?_ | refine blk_alloc ?_ _)); refine blk_far ?_ NB160_164.out _; (with_reducible repeat (first | refine blk_drewN ?_ _ | refine blk_drew ?_ | refine blk_alloc ?_ _)); exact BK160.out) hb); have n2_ := Aside0.mk (blk_below (g := gb164) (o := .cells #[.int .i64 t161, .int .i64 t162] 25 (0, 0)) (by (with_reducible repeat (first | refine blk_drewN ?_ _ | refine blk_drew ?_ | refine blk_alloc ?_ _)); refine blk_put (cs := #[.int .i64 t161, .int .i64 0]) ?_ 1 _ rfl; (with_reducible repeat (first | refine blk_drewN ?_ _ | refine blk_drew ?_ | refine blk_alloc ?_ _)); refine blk_put (cs := #[.int .i64 0, .int .i64 0]) ?_ 0 _ rfl; (with_reducible repeat (first | refine blk_drewN ?_ _ | refine blk_drew ?_ | refine blk_alloc ?_ _)); exact BK164.out) hb); have n3_ := Aside0.mk (below_step (by repeat (first | (with_reducible first | exact HB.out | apply below_alloc | apply pw_below_drewN | apply below_drew1 | refine below_set ?_ GE159.out | refine below_set ?_ GE160.out | refine below_set ?_ GE164.out) | exact HB.out)) hb); clear BK159; clear BK160; clear BK164; clear HB; have BK159 := n0_; have BK160 := n1_; have BK164 := n2_; have HB := n3_; clear n0_ n1_ n2_ n3_; (try clear hb); (try clear hb2); (try clear hk); (try clear hi)))
      go_ret2
      exact ⟨by first | rfl | (simp [errW_none, errW_some] <;> rfl) | (simp [*, errW_none, errW_some] <;> rfl), by repeat (first | (with_reducible first | exact HB.out | apply below_alloc | apply pw_below_drewN | apply below_drew1 | refine below_set ?_ GE159.out | refine below_set ?_ GE160.out | refine below_set ?_ GE164.out) | exact HB.out)⟩
  · rw [if_neg c5] at H
    have c5b0 : (t163 == 0) = false := beq_eq_false_iff_ne.mpr c5
    have c5b1 : (t163 != 0) = true := bne_iff_ne.mpr c5
    simp only [Option.some.injEq, Prod.mk.injEq] at H
    obtain ⟨rfl, rfl⟩ := H
    go_enter Try.func35, Try.ntmps35
    go_wp2_with (first | ((with_reducible refine gate_dst (N := 4) rfl ?_); refine box_event ?hg (N := 4) ?hd (cs := #[.string a1_0, .int .i64 a1_1, .int .i64 a1_2]) (t := 51) ?hr ?_; (case hd => rfl); (case hg => rfl); (case hr => first | (go_simp; done) | (go_simp; rfl)); intro gb159 hg w60 hbox hb; have n0_ := Aside0.mk (below_step (by repeat (first | (with_reducible first | exact HB.out | apply below_alloc | apply pw_below_drewN | apply below_drew1) | exact HB.out)) hb); have n1_ := Aside0.mk (hbox); have n2_ := Aside0.mk ((by rw [hg]; exact (below_size (by repeat (first | (with_reducible first | exact HB.out | apply below_alloc | apply pw_below_drewN | apply below_drew1) | exact HB.out))) : w.heap.size ≤ gb159)); have n3_ := Aside0.mk ((by rw [hg]; exact (below_size (by repeat (first | (with_reducible first | exact HB.out | apply below_alloc | apply pw_below_drewN | apply below_drew1) | exact HB.out))) : w.heap.size ≤ gb159)); clear HB; have HB := n0_; have BK159 := n1_; have GW159 := n2_; have GE159 := n3_; clear n0_ n1_ n2_ n3_; clear hb hbox hg) | ((with_reducible refine gate_dst (N := 5) rfl ?_); refine box_event ?hg (N := 5) ?hd (cs := #[.int .i64 a2_0, .int .i64 a2_1]) (t := 25) ?hr ?_; (case hd => rfl); (case hg => rfl); (case hr => first | (go_simp; done) | (go_simp; rfl)); intro gb160 hg w61 hbox hb; have n0_ := Aside0.mk (blk_below (g := gb159) (o := .cells #[.string a1_0, .int .i64 a1_1, .int .i64 a1_2] 51 (0, 0)) (by (with_reducible repeat (first | refine blk_drewN ?_ _ | refine blk_drew ?_ | refine blk_alloc ?_ _)); exact BK159.out) hb); have n1_ := Aside0.mk (below_step (by repeat (first | (with_reducible first | exact HB.out | apply below_alloc | apply pw_below_drewN | apply below_drew1 | refine below_set ?_ GE159.out) | exact HB.out)) hb); have n2_ := Aside0.mk (hbox); have n3_ := Aside0.mk ((by rw [hg]; exact (below_size (by repeat (first | (with_reducible first | exact HB.out | apply below_alloc | apply pw_below_drewN | apply below_drew1 | refine below_set ?_ GE159.out) | exact HB.out))) : w.heap.size ≤ gb160)); have n4_ := Aside0.mk ((by rw [hg]; exact (below_size (by repeat (first | (with_reducible first | exact HB.out | apply below_alloc | apply pw_below_drewN | apply below_drew1 | refine below_set ?_ GE159.out) | exact HB.out))) : w.heap.size ≤ gb160)); have n5_ := Aside0.mk ((by rw [hg]; exact Nat.ne_of_lt (blk_lt (g := gb159) (o := .cells #[.string a1_0, .int .i64 a1_1, .int .i64 a1_2] 51 (0, 0)) (by (with_reducible repeat (first | refine blk_drewN ?_ _ | refine blk_drew ?_ | refine blk_alloc ?_ _)); exact BK159.out)) : gb159 ≠ gb160)); have n6_ := Aside0.mk ((by rw [hg]; exact Nat.ne_of_gt (blk_lt (g := gb159) (o := .cells #[.string a1_0, .int .i64 a1_1, .int .i64 a1_2] 51 (0, 0)) (by (with_reducible repeat (first | refine blk_drewN ?_ _ | refine blk_drew ?_ | refine blk_alloc ?_ _)); exact BK159.out)) : gb160 ≠ gb159)); clear BK159; clear HB; have BK159 := n0_; have HB := n1_; have BK160 := n2_; have GW160 := n3_; have GE160 := n4_; have NB159_160 := n5_; have NB160_159 := n6_; clear n0_ n1_ n2_ n3_ n4_ n5_ n6_; clear hb hbox hg; have hnb62 := NB159_160.out; have hnc62 := NB160_159.out; have hcz63_0 : w61.cell? ⟨gb159, 0, none⟩ = some (.string a1_0) := (blk_cell BK159.out 0).trans rfl; have hcz63_1 : w61.cell? ⟨gb159, 1, none⟩ = some (.int .i64 a1_1) := (blk_cell BK159.out 1).trans rfl; have hcz63_2 : w61.cell? ⟨gb159, 2, none⟩ = some (.int .i64 a1_2) := (blk_cell BK159.out 2).trans rfl; have hfz63_0 := blk_frozen BK159.out 0; have hfz63_1 := blk_frozen BK159.out 1; have hfz63_2 := blk_frozen BK159.out 2) | ((with_reducible refine gate_callee (f := 63) rfl ?_); refine goesL_ (some 14) rfl rfl Try.func63 (by kernel_rfl) rfl #[.slice A0 l0.length c0, .agg #[.string a1_0, .int .i64 a1_1, .int .i64 a1_2]] rfl (by (try simp only [List.map_toArray, List.map_cons, List.map_nil]); first | done | rfl | (simp only [List.length_drop, List.length_take]; rfl)) ?_; (with_reducible refine (calibrate_Value.calls k _ _ l0 a1_0 a1_1 a1_2 t161 t162 t163 _ ?side1 ?side2 A4.out).mono ?_); (case side1 => repeat (first | exact (Kd.C_below HR0.out HB.out) | (with_reducible refine Kd.C_alloc ?_ _) | (with_reducible refine Kd.C_drewN ?_ _) | (with_reducible refine Kd.C_drew ?_))); (case side2 => exact HC0.out); rintro e w64 ⟨rfl, hb⟩; refine ⟨_, rfl, ?_⟩; have n0_ := Aside0.mk (blk_below (g := gb159) (o := .cells #[.string a1_0, .int .i64 a1_1, .int .i64 a1_2] 51 (0, 0)) (by (with_reducible repeat (first | refine blk_drewN ?_ _ | refine blk_drew ?_ | refine blk_alloc ?_ _)); exact BK159.out) hb); have n1_ := Aside0.mk (blk_below (g := gb160) (o := .cells #[.int .i64 a2_0, .int .i64 a2_1] 25 (0, 0)) (by (with_reducible repeat (first | refine blk_drewN ?_ _ | refine blk_drew ?_ | refine blk_alloc ?_ _)); exact BK160.out) hb); have n2_ := Aside0.mk (below_step (by repeat (first | (with_reducible first | exact HB.out | apply below_alloc | apply pw_below_drewN | apply below_drew1 | refine below_set ?_ GE159.out | refine below_set ?_ GE160.out) | exact HB.out)) hb); clear BK159; clear BK160; clear HB; have BK159 := n0_; have BK160 := n1_; have HB := n2_; clear n0_ n1_ n2_; (try clear hb); (try clear hb2); (try clear hk); (try clear hi)) | ((with_reducible refine gate_dst (N := 8) rfl ?_); refine box_event ?hg (N := 8) ?hd (cs := #[.int .i64 0, .int .i64 0]) (t := 25) ?hr ?_; (case hd => rfl); (case hg => rfl); (case hr => first | (go_simp; done) | (go_simp; rfl)); intro gb164 hg w65 hbox hb; have n0_ := Aside0.mk (blk_below (g := gb159) (o := .cells #[.string a1_0, .int .i64 a1_1, .int .i64 a1_2] 51 (0, 0)) (by (with_reducible repeat (first | refine blk_drewN ?_ _ | refine blk_drew ?_ | refine blk_alloc ?_ _)); exact BK159.out) hb); have n1_ := Aside0.mk (blk_below (g := gb160) (o := .cells #[.int .i64 a2_0, .int .i64 a2_1] 25 (0, 0)) (by (with_reducible repeat (first | refine blk_drewN ?_ _ | refine blk_drew ?_ | refine blk_alloc ?_ _)); exact BK160.out) hb); have n2_ := Aside0.mk (below_step (by repeat (first | (with_reducible first | exact HB.out | apply below_alloc | apply pw_below_drewN | apply below_drew1 | refine below_set ?_ GE159.out | refine below_set ?_ GE160.out) | exact HB.out)) hb); have n3_ := Aside0.mk (hbox); have n4_ := Aside0.mk ((by rw [hg]; exact (below_size (by repeat (first | (with_reducible first | exact HB.out | apply below_alloc | apply pw_below_drewN | apply below_drew1 | refine below_set ?_ GE159.out | refine below_set ?_ GE160.out) | exact HB.out))) : w.heap.size ≤ gb164)); have n5_ := Aside0.mk ((by rw [hg]; exact (below_size (by repeat (first | (with_reducible first | exact HB.out | apply below_alloc | apply pw_below_drewN | apply below_drew1 | refine below_set ?_ GE159.out | refine below_set ?_ GE160.out) | exact HB.out))) : w.heap.size ≤ gb164)); have n6_ := Aside0.mk ((by rw [hg]; exact Nat.ne_of_lt (blk_lt (g := gb159) (o := .cells #[.string a1_0, .int .i64 a1_1, .int .i64 a1_2] 51 (0, 0)) (by (with_reducible repeat (first | refine blk_drewN ?_ _ | refine blk_drew ?_ | refine blk_alloc ?_ _)); exact BK159.out)) : gb159 ≠ gb164)); have n7_ := Aside0.mk ((by rw [hg]; exact Nat.ne_of_gt (blk_lt (g := gb159) (o := .cells #[.string a1_0, .int .i64 a1_1, .int .i64 a1_2] 51 (0, 0)) (by (with_reducible repeat (first | refine blk_drewN ?_ _ | refine blk_drew ?_ | refine blk_alloc ?_ _)); exact BK159.out)) : gb164 ≠ gb159)); have n8_ := Aside0.mk ((by rw [hg]; exact Nat.ne_of_lt (blk_lt (g := gb160) (o := .cells #[.int .i64 a2_0, .int .i64 a2_1] 25 (0, 0)) (by (with_reducible repeat (first | refine blk_drewN ?_ _ | refine blk_drew ?_ | refine blk_alloc ?_ _)); exact BK160.out)) : gb160 ≠ gb164)); have n9_ := Aside0.mk ((by rw [hg]; exact Nat.ne_of_gt (blk_lt (g := gb160) (o := .cells #[.int .i64 a2_0, .int .i64 a2_1] 25 (0, 0)) (by (with_reducible repeat (first | refine blk_drewN ?_ _ | refine blk_drew ?_ | refine blk_alloc ?_ _)); exact BK160.out)) : gb164 ≠ gb160)); clear BK159; clear BK160; clear HB; have BK159 := n0_; have BK160 := n1_; have HB := n2_; have BK164 := n3_; have GW164 := n4_; have GE164 := n5_; have NB159_164 := n6_; have NB164_159 := n7_; have NB160_164 := n8_; have NB164_160 := n9_; clear n0_ n1_ n2_ n3_ n4_ n5_ n6_ n7_ n8_ n9_; clear hb hbox hg; have hnb66 := NB164_159.out; have hnc66 := NB159_164.out; have hnb67 := NB164_160.out; have hnc67 := NB160_164.out; have hcz68_0 : w65.cell? ⟨gb164, 0, none⟩ = some (.int .i64 0) := (blk_cell BK164.out 0).trans rfl; have hcz68_1 : w65.cell? ⟨gb164, 1, none⟩ = some (.int .i64 0) := (blk_cell BK164.out 1).trans rfl; have hfz68_0 := blk_frozen BK164.out 0; have hfz68_1 := blk_frozen BK164.out 1))
    go_ret2
    exact ⟨by first | rfl | (simp [errW_none, errW_some] <;> rfl) | (simp [*, errW_none, errW_some] <;> rfl), by repeat (first | (with_reducible first | exact HB.out | apply below_alloc | apply pw_below_drewN | apply below_drew1 | refine below_set ?_ GE159.out | refine below_set ?_ GE160.out | refine below_set ?_ GE164.out) | exact HB.out)⟩
end Go.Proofs.Ytkgdlbepjmgaiaa.Cal
set_option linter.unusedVariables false
set_option linter.unusedSimpArgs false
namespace Go.Proofs.Ytkgdlbepjmgaiaa.Hand
open Go.Shelf Go.RowKit Go.Sort Go.Proofs.YtkgdlbepjmgaiaaW.PrintWords
def cpRen : Go.Shelf.Ren := ⟨fun | 194 => 89 | n => n, fun | 31 => 60 | 9 => 9 | 3 => 3 | 4 => 4 | 0 => 0 | n => n, fun | n => n⟩
theorem cpLays : Go.Proofs.Lays.n194 Try.prog cpRen := {
  mixed := by kernel_rfl
  f194 := Try.func89.trans (congrArg some (by kernel_rfl))
  t0 := Try.underlying0
  a0 := Try.isAgg0
  z0 := Try.sizeOf0
  v0 := Try.zeroValue0
  t3 := Try.underlying3
  a3 := Try.isAgg3
  z3 := Try.sizeOf3
  v3 := Try.zeroValue3
  t4 := Try.underlying4
  a4 := Try.isAgg4
  z4 := Try.sizeOf4
  v4 := Try.zeroValue4
  t9 := Try.underlying9
  a9 := Try.isAgg9
  z9 := Try.sizeOf9
  v9 := Try.zeroValue9
  t31 := Try.underlying60
  a31 := Try.isAgg60
  z31 := Try.sizeOf60
  v31 := Try.zeroValue60 }
def cpGo : List UInt8 → List ByteArray → List ByteArray
  | _, [] => []
  | p, x :: t => if x.data.toList = p then cpGo p t else x :: cpGo x.data.toList t
def cpF : List ByteArray → List ByteArray
  | [] => []
  | x :: t => x :: cpGo x.data.toList t
def bytesL (l : List ByteArray) : List (List UInt8) := l.map fun s => s.data.toList
theorem cp_snoc (zs : List (List UInt8)) (x : List UInt8) : Lib.compact (zs ++ [x]) = Lib.compact zs ++ (if zs.getLast? = some x then [] else [x]) := by
  unfold Lib.compact
  rw [List.length_append, List.length_singleton, Lib.compactUpTo_succ]
  have hk : ∀ j, j < zs.length → Lib.keeps (zs ++ [x]).toArray j = Lib.keeps zs.toArray j := by
    intro j hj
    unfold Lib.keeps
    have h1 : (zs ++ [x]).toArray[j]! = zs.toArray[j]! := by simp [getElem!_def, List.getElem?_append_left hj]
    have h2 : (zs ++ [x]).toArray[j - 1]! = zs.toArray[j - 1]! := by simp [getElem!_def, List.getElem?_append_left (show j - 1 < zs.length by omega)]
    rw [h1, h2]
  have e1 : Lib.compactUpTo (zs ++ [x]).toArray zs.length = Lib.compactUpTo zs.toArray zs.length := by
    unfold Lib.compactUpTo
    rw [List.filter_congr (fun j hj => hk j (List.mem_range.1 hj))]
    refine List.map_congr_left (fun j hj => ?_)
    have hj' : j < zs.length := List.mem_range.1 (List.mem_filter.1 hj).1
    simp [getElem!_def, List.getElem?_append_left hj']
  rw [e1]
  congr 1
  have hx : (zs ++ [x]).toArray[zs.length]! = x := by simp [getElem!_def]
  rw [hx]
  unfold Lib.keeps
  rw [hx]
  rcases List.eq_nil_or_concat zs with rfl | ⟨l, y, rfl⟩
  · simp
  · simp only [List.concat_eq_append] at *
    have hy : ((l ++ [y]) ++ [x]).toArray[(l ++ [y]).length - 1]! = y := by simp [getElem!_def, List.getElem?_append]
    rw [hy]
    by_cases h : x = y
    · subst h; simp
    · have h' : ¬ y = x := fun e => h e.symm
      simp [h, h']
theorem cpGo_snoc (p : List UInt8) (l : List ByteArray) (x : ByteArray) : cpGo p (l ++ [x]) = cpGo p l ++ (if (bytesL l).getLast?.getD p = x.data.toList then [] else [x]) := by
  induction l generalizing p with
  | nil => by_cases h : x.data.toList = p
           · simp [cpGo, bytesL, h]
           · have h' : ¬ p = x.data.toList := fun e => h e.symm
             simp [cpGo, bytesL, h, h']
  | cons y t ih =>
    have hg : ∀ q, ((bytesL (y :: t)).getLast?.getD q) = ((bytesL t).getLast?.getD y.data.toList) := by
      intro q
      cases t with
      | nil => simp [bytesL]
      | cons z t => simp [bytesL, List.getLast?_cons]
    simp only [List.cons_append, cpGo]
    split
    · rename_i h
      rw [ih, hg, h]
    · rw [ih, hg, List.cons_append]
theorem cpF_snoc (l : List ByteArray) (x : ByteArray) : cpF (l ++ [x]) = cpF l ++ (if (bytesL l).getLast? = some x.data.toList then [] else [x]) := by
  cases l with
  | nil => simp [cpF, cpGo, bytesL]
  | cons y t =>
    simp only [List.cons_append, cpF]
    rw [cpGo_snoc]
    have hg : (bytesL (y :: t)).getLast? = some ((bytesL t).getLast?.getD y.data.toList) := by
      cases t with
      | nil => simp [bytesL]
      | cons z t => simp [bytesL, List.getLast?_cons]
    rw [hg]
    simp
theorem revInd {α : Type} {P : List α → Prop} (h0 : P []) (h1 : ∀ l x, P l → P (l ++ [x])) (l : List α) : P l := by
  have : ∀ r : List α, P r.reverse := by
    intro r
    induction r with
    | nil => exact h0
    | cons x t ih => rw [List.reverse_cons]; exact h1 _ _ ih
  have h := this l.reverse
  rwa [List.reverse_reverse] at h
theorem bytesL_cpF (l : List ByteArray) : bytesL (cpF l) = Lib.compact (bytesL l) := by
  refine revInd (P := fun l => bytesL (cpF l) = Lib.compact (bytesL l)) rfl ?_ l
  intro l x ih
  show bytesL (cpF (l ++ [x])) = Lib.compact (bytesL (l ++ [x]))
  have ih' : bytesL (cpF l) = Lib.compact (bytesL l) := ih
  clear ih
  have ih := ih'
  · rw [cpF_snoc]
    have e : bytesL (l ++ [x]) = bytesL l ++ [x.data.toList] := by simp [bytesL]
    rw [e, cp_snoc, ← ih]
    by_cases h : (bytesL l).getLast? = some x.data.toList
    · rw [if_pos h, if_pos h]; simp [bytesL]
    · rw [if_neg h, if_neg h]; simp [bytesL]
theorem cpF_length_le (l : List ByteArray) : (cpF l).length ≤ l.length := by
  refine revInd (P := fun l => (cpF l).length ≤ l.length) (by simp [cpF]) ?_ l
  intro l x ih
  have ih' : (cpF l).length ≤ l.length := ih
  show (cpF (l ++ [x])).length ≤ (l ++ [x]).length
  rw [cpF_snoc]
  split <;> simp <;> omega
theorem encs_str (l : List ByteArray) : encs Value.string l = (bytesL l).map encStr := by
  simp [encs, bytesL, encStr]
set_option maxHeartbeats 1000000 in
theorem compact_calls (P0_ : Nat → Prop) (u : Value) (l : List ByteArray) (w0 w : World) (hB : Below w0.heap.size w0 w) (ho : Kd.R Kd.string 9 w w0.heap.size P0_ u l) :
    Calls Try.prog 89 #[u] w fun e w' => ∃ v0_ : Value, e = .returned v0_ ∧ Kd.R Kd.string 9 w' w0.heap.size (fun k_ => (P0_ k_ ∨ w.heap.size ≤ k_)) v0_ (cpF l) ∧ Below w0.heap.size w0 w' ∧ Kept w w' (fun k_ => P0_ k_) := by
  have hown := Kd.own_of_R ho
  obtain ⟨hlen, ⟨rfl, h0⟩ | ⟨g, cap, cur, rfl, hg, hh, hnc, hcm, hcs, htk⟩⟩ := hown
  · obtain rfl : l = [] := List.eq_nil_of_length_eq_zero h0
    refine (Any.slices_Compact_string_empty cpLays none 0 w).mono ?_
    rintro e w' ⟨rfl, rfl⟩
    exact ⟨_, rfl, Kd.R_nil _ _ _ _ _, hB, Nat.le_refl _, fun _ _ _ => rfl⟩
  · have hP := ho.1 g rfl
    have hgl : g < w.heap.size := by
      rcases Nat.lt_or_ge g w.heap.size with h | h
      · exact h
      · rw [Array.getElem?_eq_none h] at hh; cases hh
    have hcell : ∀ i, i < l.length → w.cell? ⟨g, 0 + i, none⟩ = some (.string (l.getD i ByteArray.empty)) := by
      intro i hi
      have h1 : cur.toList[i]? = some (.string (l.getD i ByteArray.empty)) := by
        have : (cur.toList.take (l.length * 1))[i]? = some (.string (l.getD i ByteArray.empty)) := by
          rw [htk]; simp [encs, List.getD_eq_getElem?_getD, hi]
        rw [Nat.mul_one, List.getElem?_take, if_pos hi] at this
        exact this
      rw [Nat.zero_add]
      exact (blk_cell hh i).trans (by rw [← Array.getElem?_toList]; exact h1)
    refine (Any.slices_Compact_string_cells cpLays g 0 l.length cap (fun i => l.getD i ByteArray.empty) w (by unfold maxLen at hcm; omega) hnc hcell (fun j _ => blk_frozen hh _)).mono ?_
    rintro e w' ⟨rfl, q, rfl⟩
    have hbl : Lib.strsOf (fun i => l.getD i ByteArray.empty) l.length = bytesL l := by
      apply List.ext_getElem
      · simp [Lib.strsOf, bytesL]
      · intro i h1 h2
        have hi : i < l.length := by simpa [bytesL] using h2
        simp [Lib.strsOf, bytesL, List.getD_eq_getElem?_getD, hi]
    rw [hbl, ← bytesL_cpF]
    have hle := cpF_length_le l
    have hlb : (bytesL (cpF l)).length = (cpF l).length := by simp [bytesL]
    rw [hlb]
    have hd : (w.drewN q).heap[g]? = some (.cells cur 9 (0, 0)) := blk_drewN hh q
    obtain ⟨cur', h1, h2, h3⟩ := setCells_row (g := g) (e := 9) (((bytesL (cpF l)) ++ List.replicate (l.length - (cpF l).length) []).map encStr) 0 (w.drewN q) cur hd (by simp [hlb]; omega)
    have hfar : ∀ i, i ≠ g → ((w.drewN q).setCells g 0 (((bytesL (cpF l)) ++ List.replicate (l.length - (cpF l).length) []).map encStr)).heap[i]? = w.heap[i]? := by
      intro i hi
      rw [setCells_far _ _ _ hi]
      rfl
    obtain ⟨q1, q2, q3, q4⟩ := setCells_same g (((bytesL (cpF l)) ++ List.replicate (l.length - (cpF l).length) []).map encStr) 0 (w.drewN q)
    refine ⟨_, rfl, Kd.R_of_own ⟨by simp [encs], .inr ⟨g, cap, cur', rfl, hg, h1, by omega, hcm, by rw [h2, hcs], ?_⟩⟩ (fun k hk => ?_), ?_, ?_, ?_⟩
    · rw [h3, encs_str]
      simp [hlb]
    · have : g = k := by simpa [Value.ownBlock] using hk
      subst this; exact .inl hP
    · exact hB.trans ⟨q1, q2, q3, Nat.le_of_eq q4.symm, fun k hk => hfar k (by omega)⟩
    · exact Nat.le_of_eq q4.symm
    · intro i _ hi
      exact hfar i (fun e => hi (by rw [e]; exact hP))
end Go.Proofs.Ytkgdlbepjmgaiaa.Hand
namespace Go.Proofs.Ytkgdlbepjmgaiaa.Cal
open Go.RowKit Go.Proofs.YtkgdlbepjmgaiaaW.PrintWords Go.Proofs.YtkgdlbepjmgaiaaW.PrintLast Go.Proofs.YtkgdlbepjmgaiaaW.PrintMore
attribute [local go_sem] max2_int min2_int max_two min_two max_three min_three max_four min_four
set_option linter.unusedVariables false
set_option linter.unusedSimpArgs false
def slices_Compact_string_string.f (l0 : List ByteArray) : Option (List ByteArray) := some (Hand.cpF l0)
theorem slices_Compact_string_string.calls (P0_ : Nat → Prop) (u9000_ : Value) (l0 : List ByteArray) (r : List ByteArray) (w0 : World) (w : World) (hB : Below w0.heap.size w0 w) (ho0 : Kd.R Kd.string 9 w w0.heap.size P0_ u9000_ l0) (h : slices_Compact_string_string.f l0 = some r) :
    Calls Try.prog 89 #[u9000_] w fun e w' => ∃ v0_ : Value, e = .returned v0_ ∧ Kd.R Kd.string 9 w' w0.heap.size (fun k_ => (P0_ k_ ∨ w.heap.size ≤ k_)) v0_ r ∧ Below w0.heap.size w0 w' ∧ Kept w w' (fun k_ => P0_ k_) := by
  obtain rfl := Option.some.inj h
  exact Hand.compact_calls P0_ u9000_ l0 w0 w hB ho0
end Go.Proofs.Ytkgdlbepjmgaiaa.Cal
namespace Go.Proofs.Ytkgdlbepjmgaiaa.Cal
open Go.RowKit Go.Proofs.YtkgdlbepjmgaiaaW.PrintWords Go.Proofs.YtkgdlbepjmgaiaaW.PrintLast Go.Proofs.YtkgdlbepjmgaiaaW.PrintMore
attribute [local go_sem] max2_int min2_int max_two min_two max_three min_three max_four min_four
set_option linter.unusedVariables false
set_option linter.unusedSimpArgs false
def calibrate_Due.l0 : Nat → List (S68) → Int → List ByteArray → List (S68) → Int → Int → Option (List ByteArray × Int)
  | 0, _, _, _, _, _, _ => none
  | k + 1, x0, x1, x8, x23, x24, x25 => if x25 < x24 then (if 0 ≤ x25 then (if x25 < (x23.length : Int) then ((calibrate_valid.f x0 ((rd_T68 x23 x25).f0) x1).bind fun bt170 => (if bt170.2 = 0 then (calibrate_Due.l0 k x0 x1 x8 x23 x24 (wrap64 (x25 + 1))) else (if x8.length < 8796093022208 then (calibrate_Due.l0 k x0 x1 (x8 ++ [(rd_T68 x23 x25).f0]) x23 x24 (wrap64 (x25 + 1))) else (none)))) else (none)) else (none)) else ((slices_Compact_string_string.f x8).bind fun t175 => (some (t175, 0)))
def calibrate_Due.f (k : Nat) (l0 : List (S68)) (a1 : Int) : Option (List ByteArray × Int) := (calibrate_Check.f k l0).bind fun t166 => (if t166 = 0 then ((calibrate_day.f a1).bind fun t167 => (if t167 = 0 then (calibrate_Due.l0 k l0 a1 ([] : List ByteArray) l0 (l0.length : Int) 0) else (some (([] : List ByteArray), t167)))) else (some (([] : List ByteArray), t166)))
theorem calibrate_Due.mono_l : ∀ k, (∀ y0 y1 y2 y3 y4 y5, LeO (calibrate_Due.l0 k y0 y1 y2 y3 y4 y5) (calibrate_Due.l0 (k + 1) y0 y1 y2 y3 y4 y5))
  | 0 => fun _ _ _ _ _ _ r h => by simp [calibrate_Due.l0] at h
  | k + 1 => by
    have ih0 := calibrate_Due.mono_l k
    · intro y0 y1 y2 y3 y4 y5
      unfold calibrate_Due.l0
      repeat' first
      | (with_reducible exact ih0 _ _ _ _ _ _)
      | (with_reducible exact calibrate_Check.mono _ _)
      | (with_reducible exact LeO.refl _)
      | (with_reducible exact LeO.none _)
      | (with_reducible refine LeO.ite ?_ ?_)
      | (with_reducible refine LeO.bind ?_ (fun _ => ?_))
      | exact ih0 _ _ _ _ _ _
      | exact calibrate_Check.mono _ _
      | exact LeO.none _
      | refine LeO.ite ?_ ?_
      | refine LeO.bind ?_ (fun _ => ?_)
theorem calibrate_Due.mono : ∀ a0 a1 k, LeO (calibrate_Due.f k a0 a1) (calibrate_Due.f (k + 1) a0 a1) := by
  intro a0 a1 k
  have ih0 := calibrate_Due.mono_l k
  unfold calibrate_Due.f
  repeat' first
      | (with_reducible exact ih0 _ _ _ _ _ _)
      | (with_reducible exact calibrate_Check.mono _ _)
      | (with_reducible exact LeO.refl _)
      | (with_reducible exact LeO.none _)
      | (with_reducible refine LeO.ite ?_ ?_)
      | (with_reducible refine LeO.bind ?_ (fun _ => ?_))
      | exact ih0 _ _ _ _ _ _
      | exact calibrate_Check.mono _ _
      | exact LeO.none _
      | refine LeO.ite ?_ ?_
      | refine LeO.bind ?_ (fun _ => ?_)
set_option maxHeartbeats 8000000 in
set_option maxRecDepth 100000 in
theorem calibrate_Due.calls (k : Nat) (A0 : Option Addr) (c0 : Nat) (l0 : List (S68)) (a1 : Int) (r1 : List ByteArray) (r2 : Int) (w : World) (hr0 : Kd.C k68 w A0 l0.length l0) (hc0 : l0.length ≤ c0) (h : calibrate_Due.f k l0 a1 = some (r1, r2)) :
    Calls Try.prog 39 #[.slice A0 l0.length c0, .int .i64 a1] w fun e w' => ∃ v0_ : Value, e = .returned (.tuple #[v0_, .int .i64 r2]) ∧ Kd.R Kd.string 9 w' w.heap.size (fun _ => True) v0_ r1 ∧ Below w.heap.size w w' := by
  have hu68 := Try.underlying68
  have HR0 := Aside0.mk hr0
  have HC0 := Aside0.mk hc0
  clear hr0 hc0
  have HB := Aside0.mk (Below.refl w.heap.size w)
  have H : ((calibrate_Check.f k l0).bind fun t166 => (if t166 = 0 then ((calibrate_day.f a1).bind fun t167 => (if t167 = 0 then (calibrate_Due.l0 k l0 a1 ([] : List ByteArray) l0 (l0.length : Int) 0) else (some (([] : List ByteArray), t167)))) else (some (([] : List ByteArray), t166)))) = some (r1, r2) := h
  clear h
  replace H := Option.bind_eq_some_iff.mp H
  obtain ⟨t166, A30, H⟩ := H
  replace H : (if t166 = 0 then ((calibrate_day.f a1).bind fun t167 => (if t167 = 0 then (calibrate_Due.l0 k l0 a1 ([] : List ByteArray) l0 (l0.length : Int) 0) else (some (([] : List ByteArray), t167)))) else (some (([] : List ByteArray), t166))) = some (r1, r2) := H
  have A3 := Aside0.mk A30
  clear A30
  by_cases c4 : t166 = 0
  · rw [if_pos c4] at H
    have c4b0 : (t166 == 0) = true := beq_iff_eq.mpr c4
    have c4b1 : (t166 != 0) = false := bne_eq_false_iff_eq.mpr c4
    clear c4
    replace H := Option.bind_eq_some_iff.mp H
    obtain ⟨t167, A50, H⟩ := H
    replace H : (if t167 = 0 then (calibrate_Due.l0 k l0 a1 ([] : List ByteArray) l0 (l0.length : Int) 0) else (some (([] : List ByteArray), t167))) = some (r1, r2) := H
    have A5 := Aside0.mk A50
    clear A50
    by_cases c6 : t167 = 0
    · rw [if_pos c6] at H
      have c6b0 : (t167 == 0) = true := beq_iff_eq.mpr c6
      have c6b1 : (t167 != 0) = false := bne_eq_false_iff_eq.mpr c6
      clear c6
      have H' := Aside0.mk H
      clear H
      go_enter Try.func39, Try.ntmps39
      go_wp2_with (first | ((with_reducible refine gate_callee (f := 56) rfl ?_); refine goesL_ (some 14) rfl rfl Try.func56 (by kernel_rfl) rfl #[.slice A0 l0.length c0] rfl (by (try simp only [List.map_toArray, List.map_cons, List.map_nil]); first | done | rfl | (simp only [List.length_drop, List.length_take]; rfl)) ?_; (with_reducible refine (calibrate_Check.calls k _ _ l0 t166 _ ?side1 ?side2 A3.out).mono ?_); (case side1 => repeat (first | exact HR0.out | (with_reducible refine Kd.C_alloc ?_ _) | (with_reducible refine Kd.C_drewN ?_ _) | (with_reducible refine Kd.C_drew ?_))); (case side2 => exact HC0.out); rintro e w7 ⟨rfl, hb⟩; refine ⟨_, rfl, ?_⟩; have n0_ := Aside0.mk (below_step (by repeat (first | (with_reducible first | exact HB.out | apply below_alloc | apply pw_below_drewN | apply below_drew1) | exact HB.out)) hb); clear HB; have HB := n0_; clear n0_; (try clear hb); (try clear hb2); (try clear hk); (try clear hi)) | ((with_reducible refine gate_callee (f := 87) rfl ?_); refine goesL_ (some 19) rfl rfl Try.func87 (by kernel_rfl) rfl #[.int .i64 a1] rfl (by (try simp only [List.map_toArray, List.map_cons, List.map_nil]); first | done | rfl | (simp only [List.length_drop, List.length_take]; rfl)) ?_; (with_reducible refine (calibrate_day.calls a1 t167 _ A5.out).mono ?_); rintro e w' ⟨rfl, ⟨nd, rfl⟩⟩; refine ⟨_, rfl, ?_⟩))
      go_loopg [8, 25] k (fun kq v8 v25 w' => ∃ (x8_1 : List ByteArray) (x25_1 : Int), v25 = .int .i64 x25_1 ∧ Aside0 (calibrate_Due.l0 kq l0 a1 x8_1 l0 (l0.length : Int) x25_1 = some (r1, r2)) ∧ Aside0 (kq ≤ k) ∧ Aside0 (Kd.R Kd.string 9 w' w.heap.size (fun _ => True) v8 x8_1) ∧ Aside0 (Below w.heap.size w w'))
      case atStart => exact ⟨(([] : List ByteArray)), (0), (by first | rfl | (simp; done) | (simp [*]; done)), H', ⟨Nat.le_refl _⟩, ⟨by first | exact Kd.R_nil _ _ _ _ _ | exact Kd.N_nil _ _ _ _ _ | exact Kd.V_nil _ _ _ _ _ | exact Kd.Q_nil _ _ _ _ _ | exact Kd.S_nil _ _ _ _ _⟩, ⟨by repeat (first | (with_reducible first | exact HB.out | apply below_alloc | apply pw_below_drewN | apply below_drew1) | exact HB.out)⟩⟩
      case round =>
        clear H'
        try clear p2
        try clear c3
        try clear c4
        try clear c4b0
        try clear c4b1
        try clear c5
        try clear c6
        try clear c6b0
        try clear c6b1
        obtain ⟨x8_1, x25_1, rfl, HA, HK1, HO_8, HB⟩ := hrel
        cases gk with
        | zero => exact absurd HA.out (by simp [calibrate_Due.l0])
        | succ k1 =>
          have H := HA.out
          clear HA
          simp only [calibrate_Due.l0] at H
          by_cases c8 : x25_1 < (l0.length : Int)
          · rw [if_pos c8] at H
            have c8b0 : decide (x25_1 < (l0.length : Int)) = true := decide_eq_true c8
            clear c8
            by_cases c9 : 0 ≤ x25_1
            · rw [if_pos c9] at H
              have c9b0 : decide (0 ≤ x25_1) = true := decide_eq_true c9
              clear c9
              by_cases c10 : x25_1 < (l0.length : Int)
              · rw [if_pos c10] at H
                have c10b0 : decide (x25_1 < (l0.length : Int)) = true := decide_eq_true c10
                clear c10
                replace H := Option.bind_eq_some_iff.mp H
                obtain ⟨⟨t170, t171⟩, A110, H⟩ := H
                replace H : (if t171 = 0 then (calibrate_Due.l0 k1 l0 a1 x8_1 l0 (l0.length : Int) (wrap64 (x25_1 + 1))) else (if x8_1.length < 8796093022208 then (calibrate_Due.l0 k1 l0 a1 (x8_1 ++ [(rd_T68 l0 x25_1).f0]) l0 (l0.length : Int) (wrap64 (x25_1 + 1))) else (none))) = some (r1, r2) := H
                have A11 := Aside0.mk A110
                clear A110
                by_cases c12 : t171 = 0
                · rw [if_pos c12] at H
                  have c12b0 : (t171 == 0) = true := beq_iff_eq.mpr c12
                  have c12b1 : (t171 != 0) = false := bne_eq_false_iff_eq.mpr c12
                  clear c12
                  have H' := Aside0.mk H
                  clear H
                  have p168 : 0 ≤ (x25_1 : Int) := of_decide_eq_true (by first | (with_reducible assumption) | assumption)
                  have q168 : x25_1 < (l0.length : Int) := of_decide_eq_true (by first | (with_reducible assumption) | assumption)
                  obtain ⟨ad168, e168, hx168_0, hx168_1, hx168_2, hx168_3, hx168_4, hx168_5⟩ := at_T68 HR0.out x25_1 p168 q168
                  cases e168
                  replace hx168_0 := (HB.out.cell (World.block_lt_of_cell? w _ hx168_0)).trans hx168_0
                  replace hx168_1 := (HB.out.cell (World.block_lt_of_cell? w _ hx168_1)).trans hx168_1
                  replace hx168_2 := (HB.out.cell (World.block_lt_of_cell? w _ hx168_2)).trans hx168_2
                  replace hx168_3 := (HB.out.cell (World.block_lt_of_cell? w _ hx168_3)).trans hx168_3
                  replace hx168_4 := (HB.out.cell (World.block_lt_of_cell? w _ hx168_4)).trans hx168_4
                  replace hx168_5 := (HB.out.cell (World.block_lt_of_cell? w _ hx168_5)).trans hx168_5
                  replace p168 := eq_true p168
                  replace q168 := eq_true q168
                  go_wp2_with (first | ((with_reducible refine gate_dst (N := 10) rfl ?_); refine box_event ?hg (N := 10) ?hd (cs := #[.string (⟨#[]⟩ : ByteArray), .string (⟨#[]⟩ : ByteArray), .int .i64 0, .int .i64 0, .int .i64 0, .int .i64 0]) (t := 68) ?hr ?_; (case hd => rfl); (case hg => rfl); (case hr => first | (go_simp; done) | (go_simp; rfl)); intro gb169 hg w13 hbox hb; have n0_ := Aside0.mk (Kd.R_below (by (with_reducible repeat (first | apply Kd.R_alloc | apply Kd.R_drewN | apply Kd.R_drew)); exact HO_8.out) hb); have n1_ := Aside0.mk (below_step (by repeat (first | (with_reducible first | exact HB.out | apply below_alloc | apply pw_below_drewN | apply below_drew1) | exact HB.out)) hb); have n2_ := Aside0.mk (hbox); have n3_ := Aside0.mk ((by rw [hg]; exact (below_size (by repeat (first | (with_reducible first | exact HB.out | apply below_alloc | apply pw_below_drewN | apply below_drew1) | exact HB.out))) : w.heap.size ≤ gb169)); have n4_ := Aside0.mk ((by rw [hg]; exact (below_size (by repeat (first | (with_reducible first | exact HB.out | apply below_alloc | apply pw_below_drewN | apply below_drew1) | exact HB.out))) : w.heap.size ≤ gb169)); clear HO_8; clear HB; have HO_8 := n0_; have HB := n1_; have BK169 := n2_; have GW169 := n3_; have GE169 := n4_; clear n0_ n1_ n2_ n3_ n4_; clear hb hbox hg; have hcz14_0 : w13.cell? ⟨gb169, 0, none⟩ = some (.string (⟨#[]⟩ : ByteArray)) := (blk_cell BK169.out 0).trans rfl; have hcz14_1 : w13.cell? ⟨gb169, 1, none⟩ = some (.string (⟨#[]⟩ : ByteArray)) := (blk_cell BK169.out 1).trans rfl; have hcz14_2 : w13.cell? ⟨gb169, 2, none⟩ = some (.int .i64 0) := (blk_cell BK169.out 2).trans rfl; have hcz14_3 : w13.cell? ⟨gb169, 3, none⟩ = some (.int .i64 0) := (blk_cell BK169.out 3).trans rfl; have hcz14_4 : w13.cell? ⟨gb169, 4, none⟩ = some (.int .i64 0) := (blk_cell BK169.out 4).trans rfl; have hcz14_5 : w13.cell? ⟨gb169, 5, none⟩ = some (.int .i64 0) := (blk_cell BK169.out 5).trans rfl; have hfz14_0 := blk_frozen BK169.out 0; have hfz14_1 := blk_frozen BK169.out 1; have hfz14_2 := blk_frozen BK169.out 2; have hfz14_3 := blk_frozen BK169.out 3; have hfz14_4 := blk_frozen BK169.out 4; have hfz14_5 := blk_frozen BK169.out 5) | ((with_reducible refine gate_callee (f := 88) rfl ?_); refine goesL_ (some 34) rfl rfl Try.func88 (by kernel_rfl) rfl #[.slice (some ad168) l0.length c0, .string ((rd_T68 l0 x25_1).f0), .int .i64 a1] rfl (by (try simp only [List.map_toArray, List.map_cons, List.map_nil]); first | done | rfl | (simp only [List.length_drop, List.length_take]; rfl)) ?_; (with_reducible refine (calibrate_valid.calls _ _ l0 ((rd_T68 l0 x25_1).f0) a1 t170 t171 _ ?side1 ?side2 A11.out).mono ?_); (case side1 => exact Kd.C_below HR0.out (by repeat (first | (with_reducible first | exact HB.out | apply below_alloc | apply pw_below_drewN | apply below_drew1 | refine below_set ?_ GE169.out) | exact HB.out))); (case side2 => exact HC0.out); rintro e w15 ⟨rfl, hb⟩; refine ⟨_, rfl, ?_⟩; have n0_ := Aside0.mk (Kd.R_below (by (with_reducible repeat (first | apply Kd.R_alloc | apply Kd.R_drewN | apply Kd.R_drew)); exact (Kd.R_mono (Kd.R_far (p := ⟨gb169, 5, none⟩) (Kd.R_far (p := ⟨gb169, 4, none⟩) (Kd.R_far (p := ⟨gb169, 3, none⟩) (Kd.R_far (p := ⟨gb169, 2, none⟩) (Kd.R_far (p := ⟨gb169, 1, none⟩) (Kd.R_far (p := ⟨gb169, 0, none⟩) (Kd.R_types HO_8.out BK169.out (by decide)) (fun _ hk => hk.2) (.string ((rd_T68 l0 x25_1).f0))) (fun _ hk => hk.2) (.string ((rd_T68 l0 x25_1).f1))) (fun _ hk => hk.2) (.int .i64 ((rd_T68 l0 x25_1).f2))) (fun _ hk => hk.2) (.int .i64 ((rd_T68 l0 x25_1).f3))) (fun _ hk => hk.2) (.int .i64 ((rd_T68 l0 x25_1).f4))) (fun _ hk => hk.2) (.int .i64 ((rd_T68 l0 x25_1).f5))) (fun _ h_ => h_.1))) hb); have n1_ := Aside0.mk (blk_below (g := gb169) (o := .cells #[.string ((rd_T68 l0 x25_1).f0), .string ((rd_T68 l0 x25_1).f1), .int .i64 ((rd_T68 l0 x25_1).f2), .int .i64 ((rd_T68 l0 x25_1).f3), .int .i64 ((rd_T68 l0 x25_1).f4), .int .i64 ((rd_T68 l0 x25_1).f5)] 68 (0, 0)) (by (with_reducible repeat (first | refine blk_drewN ?_ _ | refine blk_drew ?_ | refine blk_alloc ?_ _)); refine blk_put (cs := #[.string ((rd_T68 l0 x25_1).f0), .string ((rd_T68 l0 x25_1).f1), .int .i64 ((rd_T68 l0 x25_1).f2), .int .i64 ((rd_T68 l0 x25_1).f3), .int .i64 ((rd_T68 l0 x25_1).f4), .int .i64 0]) ?_ 5 _ rfl; (with_reducible repeat (first | refine blk_drewN ?_ _ | refine blk_drew ?_ | refine blk_alloc ?_ _)); refine blk_put (cs := #[.string ((rd_T68 l0 x25_1).f0), .string ((rd_T68 l0 x25_1).f1), .int .i64 ((rd_T68 l0 x25_1).f2), .int .i64 ((rd_T68 l0 x25_1).f3), .int .i64 0, .int .i64 0]) ?_ 4 _ rfl; (with_reducible repeat (first | refine blk_drewN ?_ _ | refine blk_drew ?_ | refine blk_alloc ?_ _)); refine blk_put (cs := #[.string ((rd_T68 l0 x25_1).f0), .string ((rd_T68 l0 x25_1).f1), .int .i64 ((rd_T68 l0 x25_1).f2), .int .i64 0, .int .i64 0, .int .i64 0]) ?_ 3 _ rfl; (with_reducible repeat (first | refine blk_drewN ?_ _ | refine blk_drew ?_ | refine blk_alloc ?_ _)); refine blk_put (cs := #[.string ((rd_T68 l0 x25_1).f0), .string ((rd_T68 l0 x25_1).f1), .int .i64 0, .int .i64 0, .int .i64 0, .int .i64 0]) ?_ 2 _ rfl; (with_reducible repeat (first | refine blk_drewN ?_ _ | refine blk_drew ?_ | refine blk_alloc ?_ _)); refine blk_put (cs := #[.string ((rd_T68 l0 x25_1).f0), .string (⟨#[]⟩ : ByteArray), .int .i64 0, .int .i64 0, .int .i64 0, .int .i64 0]) ?_ 1 _ rfl; (with_reducible repeat (first | refine blk_drewN ?_ _ | refine blk_drew ?_ | refine blk_alloc ?_ _)); refine blk_put (cs := #[.string (⟨#[]⟩ : ByteArray), .string (⟨#[]⟩ : ByteArray), .int .i64 0, .int .i64 0, .int .i64 0, .int .i64 0]) ?_ 0 _ rfl; (with_reducible repeat (first | refine blk_drewN ?_ _ | refine blk_drew ?_ | refine blk_alloc ?_ _)); exact BK169.out) hb); have n2_ := Aside0.mk (below_step (by repeat (first | (with_reducible first | exact HB.out | apply below_alloc | apply pw_below_drewN | apply below_drew1 | refine below_set ?_ GE169.out) | exact HB.out)) hb); clear HO_8; clear BK169; clear HB; have HO_8 := n0_; have BK169 := n1_; have HB := n2_; clear n0_ n1_ n2_; (try clear hb); (try clear hb2); (try clear hk); (try clear hi)))
                  go_roundg k1
                  case measure => have := HK1.out; omega
                  case rel => exact ⟨(x8_1), (wrap64 (x25_1 + 1)), (by first | rfl | (simp; done) | (simp [*]; done)), H', ⟨by have := HK1.out; omega⟩, ⟨by (with_reducible repeat (first | apply Kd.R_alloc | apply Kd.R_drewN | apply Kd.R_drew)); exact HO_8.out⟩, ⟨by repeat (first | (with_reducible first | exact HB.out | apply below_alloc | apply pw_below_drewN | apply below_drew1 | refine below_set ?_ GE169.out) | exact HB.out)⟩⟩
                · rw [if_neg c12] at H
                  have c12b0 : (t171 == 0) = false := beq_eq_false_iff_ne.mpr c12
                  have c12b1 : (t171 != 0) = true := bne_iff_ne.mpr c12
                  by_cases c16 : x8_1.length < 8796093022208
                  · rw [if_pos c16] at H
                    have LMc16 := Aside0.mk c16
                    clear c16
                    obtain ⟨y172, hy172⟩ : ∃ y_ : List ByteArray, y_ = (x8_1 ++ [(rd_T68 l0 x25_1).f0]) := ⟨_, rfl⟩
                    replace H : (calibrate_Due.l0 k1 l0 a1 y172 l0 (l0.length : Int) (wrap64 (x25_1 + 1))) = some (r1, r2) := by first | (rw [hy172]; with_reducible exact H) | (have H2_ := (Option.bind_some _ _).symm.trans H; rw [hy172]; with_reducible exact H2_) | (have H2_ := (Option.bind_some _ _).symm.trans H; with_reducible exact H2_) | with_reducible exact H | (rw [hy172]; exact H) | exact H
                    have Ny172 := Aside0.mk hy172
                    clear hy172
                    have H' := Aside0.mk H
                    clear H
                    have p168 : 0 ≤ (x25_1 : Int) := of_decide_eq_true (by first | (with_reducible assumption) | assumption)
                    have q168 : x25_1 < (l0.length : Int) := of_decide_eq_true (by first | (with_reducible assumption) | assumption)
                    obtain ⟨ad168, e168, hx168_0, hx168_1, hx168_2, hx168_3, hx168_4, hx168_5⟩ := at_T68 HR0.out x25_1 p168 q168
                    cases e168
                    replace hx168_0 := (HB.out.cell (World.block_lt_of_cell? w _ hx168_0)).trans hx168_0
                    replace hx168_1 := (HB.out.cell (World.block_lt_of_cell? w _ hx168_1)).trans hx168_1
                    replace hx168_2 := (HB.out.cell (World.block_lt_of_cell? w _ hx168_2)).trans hx168_2
                    replace hx168_3 := (HB.out.cell (World.block_lt_of_cell? w _ hx168_3)).trans hx168_3
                    replace hx168_4 := (HB.out.cell (World.block_lt_of_cell? w _ hx168_4)).trans hx168_4
                    replace hx168_5 := (HB.out.cell (World.block_lt_of_cell? w _ hx168_5)).trans hx168_5
                    replace p168 := eq_true p168
                    replace q168 := eq_true q168
                    go_wp2_with (first | ((with_reducible refine gate_dst (N := 10) rfl ?_); refine box_event ?hg (N := 10) ?hd (cs := #[.string (⟨#[]⟩ : ByteArray), .string (⟨#[]⟩ : ByteArray), .int .i64 0, .int .i64 0, .int .i64 0, .int .i64 0]) (t := 68) ?hr ?_; (case hd => rfl); (case hg => rfl); (case hr => first | (go_simp; done) | (go_simp; rfl)); intro gb169 hg w17 hbox hb; have n0_ := Aside0.mk (Kd.R_below (by (with_reducible repeat (first | apply Kd.R_alloc | apply Kd.R_drewN | apply Kd.R_drew)); exact HO_8.out) hb); have n1_ := Aside0.mk (below_step (by repeat (first | (with_reducible first | exact HB.out | apply below_alloc | apply pw_below_drewN | apply below_drew1) | exact HB.out)) hb); have n2_ := Aside0.mk (hbox); have n3_ := Aside0.mk ((by rw [hg]; exact (below_size (by repeat (first | (with_reducible first | exact HB.out | apply below_alloc | apply pw_below_drewN | apply below_drew1) | exact HB.out))) : w.heap.size ≤ gb169)); have n4_ := Aside0.mk ((by rw [hg]; exact (below_size (by repeat (first | (with_reducible first | exact HB.out | apply below_alloc | apply pw_below_drewN | apply below_drew1) | exact HB.out))) : w.heap.size ≤ gb169)); clear HO_8; clear HB; have HO_8 := n0_; have HB := n1_; have BK169 := n2_; have GW169 := n3_; have GE169 := n4_; clear n0_ n1_ n2_ n3_ n4_; clear hb hbox hg; have hcz18_0 : w17.cell? ⟨gb169, 0, none⟩ = some (.string (⟨#[]⟩ : ByteArray)) := (blk_cell BK169.out 0).trans rfl; have hcz18_1 : w17.cell? ⟨gb169, 1, none⟩ = some (.string (⟨#[]⟩ : ByteArray)) := (blk_cell BK169.out 1).trans rfl; have hcz18_2 : w17.cell? ⟨gb169, 2, none⟩ = some (.int .i64 0) := (blk_cell BK169.out 2).trans rfl; have hcz18_3 : w17.cell? ⟨gb169, 3, none⟩ = some (.int .i64 0) := (blk_cell BK169.out 3).trans rfl; have hcz18_4 : w17.cell? ⟨gb169, 4, none⟩ = some (.int .i64 0) := (blk_cell BK169.out 4).trans rfl; have hcz18_5 : w17.cell? ⟨gb169, 5, none⟩ = some (.int .i64 0) := (blk_cell BK169.out 5).trans rfl; have hfz18_0 := blk_frozen BK169.out 0; have hfz18_1 := blk_frozen BK169.out 1; have hfz18_2 := blk_frozen BK169.out 2; have hfz18_3 := blk_frozen BK169.out 3; have hfz18_4 := blk_frozen BK169.out 4; have hfz18_5 := blk_frozen BK169.out 5) | ((with_reducible refine gate_callee (f := 88) rfl ?_); refine goesL_ (some 34) rfl rfl Try.func88 (by kernel_rfl) rfl #[.slice (some ad168) l0.length c0, .string ((rd_T68 l0 x25_1).f0), .int .i64 a1] rfl (by (try simp only [List.map_toArray, List.map_cons, List.map_nil]); first | done | rfl | (simp only [List.length_drop, List.length_take]; rfl)) ?_; (with_reducible refine (calibrate_valid.calls _ _ l0 ((rd_T68 l0 x25_1).f0) a1 t170 t171 _ ?side1 ?side2 A11.out).mono ?_); (case side1 => exact Kd.C_below HR0.out (by repeat (first | (with_reducible first | exact HB.out | apply below_alloc | apply pw_below_drewN | apply below_drew1 | refine below_set ?_ GE169.out) | exact HB.out))); (case side2 => exact HC0.out); rintro e w19 ⟨rfl, hb⟩; refine ⟨_, rfl, ?_⟩; have n0_ := Aside0.mk (Kd.R_below (by (with_reducible repeat (first | apply Kd.R_alloc | apply Kd.R_drewN | apply Kd.R_drew)); exact (Kd.R_mono (Kd.R_far (p := ⟨gb169, 5, none⟩) (Kd.R_far (p := ⟨gb169, 4, none⟩) (Kd.R_far (p := ⟨gb169, 3, none⟩) (Kd.R_far (p := ⟨gb169, 2, none⟩) (Kd.R_far (p := ⟨gb169, 1, none⟩) (Kd.R_far (p := ⟨gb169, 0, none⟩) (Kd.R_types HO_8.out BK169.out (by decide)) (fun _ hk => hk.2) (.string ((rd_T68 l0 x25_1).f0))) (fun _ hk => hk.2) (.string ((rd_T68 l0 x25_1).f1))) (fun _ hk => hk.2) (.int .i64 ((rd_T68 l0 x25_1).f2))) (fun _ hk => hk.2) (.int .i64 ((rd_T68 l0 x25_1).f3))) (fun _ hk => hk.2) (.int .i64 ((rd_T68 l0 x25_1).f4))) (fun _ hk => hk.2) (.int .i64 ((rd_T68 l0 x25_1).f5))) (fun _ h_ => h_.1))) hb); have n1_ := Aside0.mk (blk_below (g := gb169) (o := .cells #[.string ((rd_T68 l0 x25_1).f0), .string ((rd_T68 l0 x25_1).f1), .int .i64 ((rd_T68 l0 x25_1).f2), .int .i64 ((rd_T68 l0 x25_1).f3), .int .i64 ((rd_T68 l0 x25_1).f4), .int .i64 ((rd_T68 l0 x25_1).f5)] 68 (0, 0)) (by (with_reducible repeat (first | refine blk_drewN ?_ _ | refine blk_drew ?_ | refine blk_alloc ?_ _)); refine blk_put (cs := #[.string ((rd_T68 l0 x25_1).f0), .string ((rd_T68 l0 x25_1).f1), .int .i64 ((rd_T68 l0 x25_1).f2), .int .i64 ((rd_T68 l0 x25_1).f3), .int .i64 ((rd_T68 l0 x25_1).f4), .int .i64 0]) ?_ 5 _ rfl; (with_reducible repeat (first | refine blk_drewN ?_ _ | refine blk_drew ?_ | refine blk_alloc ?_ _)); refine blk_put (cs := #[.string ((rd_T68 l0 x25_1).f0), .string ((rd_T68 l0 x25_1).f1), .int .i64 ((rd_T68 l0 x25_1).f2), .int .i64 ((rd_T68 l0 x25_1).f3), .int .i64 0, .int .i64 0]) ?_ 4 _ rfl; (with_reducible repeat (first | refine blk_drewN ?_ _ | refine blk_drew ?_ | refine blk_alloc ?_ _)); refine blk_put (cs := #[.string ((rd_T68 l0 x25_1).f0), .string ((rd_T68 l0 x25_1).f1), .int .i64 ((rd_T68 l0 x25_1).f2), .int .i64 0, .int .i64 0, .int .i64 0]) ?_ 3 _ rfl; (with_reducible repeat (first | refine blk_drewN ?_ _ | refine blk_drew ?_ | refine blk_alloc ?_ _)); refine blk_put (cs := #[.string ((rd_T68 l0 x25_1).f0), .string ((rd_T68 l0 x25_1).f1), .int .i64 0, .int .i64 0, .int .i64 0, .int .i64 0]) ?_ 2 _ rfl; (with_reducible repeat (first | refine blk_drewN ?_ _ | refine blk_drew ?_ | refine blk_alloc ?_ _)); refine blk_put (cs := #[.string ((rd_T68 l0 x25_1).f0), .string (⟨#[]⟩ : ByteArray), .int .i64 0, .int .i64 0, .int .i64 0, .int .i64 0]) ?_ 1 _ rfl; (with_reducible repeat (first | refine blk_drewN ?_ _ | refine blk_drew ?_ | refine blk_alloc ?_ _)); refine blk_put (cs := #[.string (⟨#[]⟩ : ByteArray), .string (⟨#[]⟩ : ByteArray), .int .i64 0, .int .i64 0, .int .i64 0, .int .i64 0]) ?_ 0 _ rfl; (with_reducible repeat (first | refine blk_drewN ?_ _ | refine blk_drew ?_ | refine blk_alloc ?_ _)); exact BK169.out) hb); have n2_ := Aside0.mk (below_step (by repeat (first | (with_reducible first | exact HB.out | apply below_alloc | apply pw_below_drewN | apply below_drew1 | refine below_set ?_ GE169.out) | exact HB.out)) hb); clear HO_8; clear BK169; clear HB; have HO_8 := n0_; have BK169 := n1_; have HB := n2_; clear n0_ n1_ n2_; (try clear hb); (try clear hb2); (try clear hk); (try clear hi); have hcz20_0 : w19.cell? ⟨gb169, 0, none⟩ = some (.string ((rd_T68 l0 x25_1).f0)) := (blk_cell BK169.out 0).trans rfl; have hcz20_1 : w19.cell? ⟨gb169, 1, none⟩ = some (.string ((rd_T68 l0 x25_1).f1)) := (blk_cell BK169.out 1).trans rfl; have hcz20_2 : w19.cell? ⟨gb169, 2, none⟩ = some (.int .i64 ((rd_T68 l0 x25_1).f2)) := (blk_cell BK169.out 2).trans rfl; have hcz20_3 : w19.cell? ⟨gb169, 3, none⟩ = some (.int .i64 ((rd_T68 l0 x25_1).f3)) := (blk_cell BK169.out 3).trans rfl; have hcz20_4 : w19.cell? ⟨gb169, 4, none⟩ = some (.int .i64 ((rd_T68 l0 x25_1).f4)) := (blk_cell BK169.out 4).trans rfl; have hcz20_5 : w19.cell? ⟨gb169, 5, none⟩ = some (.int .i64 ((rd_T68 l0 x25_1).f5)) := (blk_cell BK169.out 5).trans rfl; have hfz20_0 := blk_frozen BK169.out 0; have hfz20_1 := blk_frozen BK169.out 1; have hfz20_2 := blk_frozen BK169.out 2; have hfz20_3 := blk_frozen BK169.out 3; have hfz20_4 := blk_frozen BK169.out 4; have hfz20_5 := blk_frozen BK169.out 5) | ((with_reducible refine gate_builtin (b := .append) (xs := #[.tmp 39, .tmp 42]) rfl ?_); at_builtin; refine Kd.R_append Kd.string (w0 := w) w.heap.size rfl (.tmp 39) (.tmp 42) 60 9 (.string ⟨#[]⟩) 16 rfl Try.underlying60 info9 rfl (by decide) (by omega) u8 x8_1 ((rd_T68 l0 x25_1).f0) [.string ((rd_T68 l0 x25_1).f0)] (fun _ => True) (fun _ => False) rfl rfl ?aP (fun _ hk => hk.elim) ?aF ?aO ?aB ?aS ?aL ?_; (case aP => exact rfl); (case aB => exact (by repeat (first | (with_reducible first | exact HB.out | apply below_alloc | apply pw_below_drewN | apply below_drew1 | refine below_set ?_ GE169.out) | exact HB.out))); (case aF => exact (fun _ _ => trivial)); (case aO => exact (by (with_reducible repeat (first | apply Kd.R_alloc | apply Kd.R_drewN | apply Kd.R_drew)); exact HO_8.out)); (case aS => exact (below_size (by repeat (first | (with_reducible first | exact HB.out | apply below_alloc | apply pw_below_drewN | apply below_drew1 | refine below_set ?_ GE169.out) | exact HB.out)))); (case aL => have := LMc16.out; omega); intro v173 w21 ho hb hg hat; rw [← Ny172.out] at ho; have n0_ := Aside0.mk (blk_grown (g := gb169) (o := .cells #[.string ((rd_T68 l0 x25_1).f0), .string ((rd_T68 l0 x25_1).f1), .int .i64 ((rd_T68 l0 x25_1).f2), .int .i64 ((rd_T68 l0 x25_1).f3), .int .i64 ((rd_T68 l0 x25_1).f4), .int .i64 ((rd_T68 l0 x25_1).f5)] 68 (0, 0)) (by (with_reducible repeat (first | refine blk_drewN ?_ _ | refine blk_drew ?_ | refine blk_alloc ?_ _)); exact BK169.out) hg (Kd.R_ne HO_8.out BK169.out (by decide))); have n1_ := Aside0.mk (hb); have n2_ := Aside0.mk (ho); clear BK169; clear HB; clear HO_8; have BK169 := n0_; have HB := n1_; have HO174 := n2_; clear n0_ n1_ n2_; clear ho hb hg hat))
                    go_roundg k1
                    case measure => have := HK1.out; omega
                    case rel => exact ⟨(y172), (wrap64 (x25_1 + 1)), (by first | rfl | (simp; done) | (simp [*]; done)), H', ⟨by have := HK1.out; omega⟩, ⟨by (with_reducible repeat (first | apply Kd.R_alloc | apply Kd.R_drewN | apply Kd.R_drew)); exact HO174.out⟩, ⟨by repeat (first | (with_reducible first | exact HB.out | apply below_alloc | apply pw_below_drewN | apply below_drew1 | refine below_set ?_ GE169.out) | exact HB.out)⟩⟩
                  · rw [if_neg c16] at H
                    exact absurd H (by simp)
              · rw [if_neg c10] at H
                exact absurd H (by simp)
            · rw [if_neg c9] at H
              exact absurd H (by simp)
          · rw [if_neg c8] at H
            have c8b0 : decide (x25_1 < (l0.length : Int)) = false := decide_eq_false c8
            clear c8
            replace H := Option.bind_eq_some_iff.mp H
            obtain ⟨t175, A220, H⟩ := H
            replace H : (some (t175, 0)) = some (r1, r2) := H
            have A22 := Aside0.mk A220
            clear A220
            simp only [Option.some.injEq, Prod.mk.injEq] at H
            obtain ⟨rfl, rfl⟩ := H
            obtain ⟨Ao23, co23, eo23⟩ := Kd.R_slice HO_8.out
            subst eo23
            go_wp2_with (first | ((with_reducible refine gate_callee (f := 89) rfl ?_); refine goesL_ (some 46) rfl rfl Try.func89 (by kernel_rfl) rfl #[.slice Ao23 x8_1.length co23] rfl (by (try simp only [List.map_toArray, List.map_cons, List.map_nil]); first | done | rfl | (simp only [List.length_drop, List.length_take]; rfl)) ?_; (with_reducible refine (slices_Compact_string_string.calls (fun k_ => some k_ = (.slice Ao23 x8_1.length co23 : Value).ownBlock) (.slice Ao23 x8_1.length co23) x8_1 t175 w _ ?side1 ?side2 A22.out).mono ?_); (case side1 => repeat (first | (with_reducible first | exact HB.out | apply below_alloc | apply pw_below_drewN | apply below_drew1) | exact HB.out)); (case side2 => exact Kd.R_tight rfl HO_8.out); rintro e w24 ⟨v176, rfl, ho0, hb, hkp⟩; refine ⟨_, rfl, ?_⟩; have n0_ := Aside0.mk (Kd.R_mono (ok' := fun k_ => True) ho0 (fun k_ hk_ => trivial)); have n1_ := Aside0.mk (hb); clear HB; clear HO_8; have HO177 := n0_; have HB := n1_; clear n0_ n1_; (try clear hb); (try clear hkp); (try clear ho0)))
            go_ret2
            exact ⟨_, by first | rfl | (simp [errW_none, errW_some] <;> rfl) | (simp [*, errW_none, errW_some] <;> rfl), by (with_reducible repeat (first | apply Kd.R_alloc | apply Kd.R_drewN | apply Kd.R_drew)); exact HO177.out, by repeat (first | (with_reducible first | exact HB.out | apply below_alloc | apply pw_below_drewN | apply below_drew1) | exact HB.out)⟩
    · rw [if_neg c6] at H
      have c6b0 : (t167 == 0) = false := beq_eq_false_iff_ne.mpr c6
      have c6b1 : (t167 != 0) = true := bne_iff_ne.mpr c6
      simp only [Option.some.injEq, Prod.mk.injEq] at H
      obtain ⟨rfl, rfl⟩ := H
      go_enter Try.func39, Try.ntmps39
      go_wp2_with (first | ((with_reducible refine gate_callee (f := 56) rfl ?_); refine goesL_ (some 14) rfl rfl Try.func56 (by kernel_rfl) rfl #[.slice A0 l0.length c0] rfl (by (try simp only [List.map_toArray, List.map_cons, List.map_nil]); first | done | rfl | (simp only [List.length_drop, List.length_take]; rfl)) ?_; (with_reducible refine (calibrate_Check.calls k _ _ l0 t166 _ ?side1 ?side2 A3.out).mono ?_); (case side1 => repeat (first | exact HR0.out | (with_reducible refine Kd.C_alloc ?_ _) | (with_reducible refine Kd.C_drewN ?_ _) | (with_reducible refine Kd.C_drew ?_))); (case side2 => exact HC0.out); rintro e w25 ⟨rfl, hb⟩; refine ⟨_, rfl, ?_⟩; have n0_ := Aside0.mk (below_step (by repeat (first | (with_reducible first | exact HB.out | apply below_alloc | apply pw_below_drewN | apply below_drew1) | exact HB.out)) hb); clear HB; have HB := n0_; clear n0_; (try clear hb); (try clear hb2); (try clear hk); (try clear hi)) | ((with_reducible refine gate_callee (f := 87) rfl ?_); refine goesL_ (some 19) rfl rfl Try.func87 (by kernel_rfl) rfl #[.int .i64 a1] rfl (by (try simp only [List.map_toArray, List.map_cons, List.map_nil]); first | done | rfl | (simp only [List.length_drop, List.length_take]; rfl)) ?_; (with_reducible refine (calibrate_day.calls a1 t167 _ A5.out).mono ?_); rintro e w' ⟨rfl, ⟨nd, rfl⟩⟩; refine ⟨_, rfl, ?_⟩))
      go_ret2
      exact ⟨_, by first | rfl | (simp [errW_none, errW_some] <;> rfl) | (simp [*, errW_none, errW_some] <;> rfl), by first | exact Kd.R_nil _ _ _ _ _ | exact Kd.N_nil _ _ _ _ _ | exact Kd.V_nil _ _ _ _ _ | exact Kd.Q_nil _ _ _ _ _ | exact Kd.S_nil _ _ _ _ _, by repeat (first | (with_reducible first | exact HB.out | apply below_alloc | apply pw_below_drewN | apply below_drew1) | exact HB.out)⟩
  · rw [if_neg c4] at H
    have c4b0 : (t166 == 0) = false := beq_eq_false_iff_ne.mpr c4
    have c4b1 : (t166 != 0) = true := bne_iff_ne.mpr c4
    simp only [Option.some.injEq, Prod.mk.injEq] at H
    obtain ⟨rfl, rfl⟩ := H
    go_enter Try.func39, Try.ntmps39
    go_wp2_with (first | ((with_reducible refine gate_callee (f := 56) rfl ?_); refine goesL_ (some 14) rfl rfl Try.func56 (by kernel_rfl) rfl #[.slice A0 l0.length c0] rfl (by (try simp only [List.map_toArray, List.map_cons, List.map_nil]); first | done | rfl | (simp only [List.length_drop, List.length_take]; rfl)) ?_; (with_reducible refine (calibrate_Check.calls k _ _ l0 t166 _ ?side1 ?side2 A3.out).mono ?_); (case side1 => repeat (first | exact HR0.out | (with_reducible refine Kd.C_alloc ?_ _) | (with_reducible refine Kd.C_drewN ?_ _) | (with_reducible refine Kd.C_drew ?_))); (case side2 => exact HC0.out); rintro e w26 ⟨rfl, hb⟩; refine ⟨_, rfl, ?_⟩; have n0_ := Aside0.mk (below_step (by repeat (first | (with_reducible first | exact HB.out | apply below_alloc | apply pw_below_drewN | apply below_drew1) | exact HB.out)) hb); clear HB; have HB := n0_; clear n0_; (try clear hb); (try clear hb2); (try clear hk); (try clear hi)))
    go_ret2
    exact ⟨_, by first | rfl | (simp [errW_none, errW_some] <;> rfl) | (simp [*, errW_none, errW_some] <;> rfl), by first | exact Kd.R_nil _ _ _ _ _ | exact Kd.N_nil _ _ _ _ _ | exact Kd.V_nil _ _ _ _ _ | exact Kd.Q_nil _ _ _ _ _ | exact Kd.S_nil _ _ _ _ _, by repeat (first | (with_reducible first | exact HB.out | apply below_alloc | apply pw_below_drewN | apply below_drew1) | exact HB.out)⟩
end Go.Proofs.Ytkgdlbepjmgaiaa.Cal
namespace Go.Proofs.Ytkgdlbepjmgaiaa.Cal
open Go.RowKit Go.Proofs.YtkgdlbepjmgaiaaW.PrintWords Go.Proofs.YtkgdlbepjmgaiaaW.PrintLast Go.Proofs.YtkgdlbepjmgaiaaW.PrintMore
attribute [local go_sem] max2_int min2_int max_two min_two max_three min_three max_four min_four
set_option linter.unusedVariables false
set_option linter.unusedSimpArgs false
def calibrate_Broken.l0 : Nat → List (S68) → List Int → List (S68) → Int → Int → Option (List Int × Int)
  | 0, _, _, _, _, _ => none
  | k + 1, x0, x5, x15, x16, x17 => if x17 < x16 then (if 0 ≤ x17 then (if x17 < (x15.length : Int) then ((calibrate_collected.f x0 ((rd_T68 x15 x17).f0) ((rd_T68 x15 x17).f4)).bind fun bt181 => (if bt181.2 = 0 then (calibrate_Broken.l0 k x0 x5 x15 x16 (wrap64 (x17 + 1))) else (if x5.length < 17592186044416 then (calibrate_Broken.l0 k x0 (x5 ++ [x17]) x15 x16 (wrap64 (x17 + 1))) else (none)))) else (none)) else (none)) else (some (x5, 0))
def calibrate_Broken.f (k : Nat) (l0 : List (S68)) : Option (List Int × Int) := (calibrate_Check.f k l0).bind fun t178 => (if t178 = 0 then (calibrate_Broken.l0 k l0 ([] : List Int) l0 (l0.length : Int) 0) else (some (([] : List Int), t178)))
theorem calibrate_Broken.mono_l : ∀ k, (∀ y0 y1 y2 y3 y4, LeO (calibrate_Broken.l0 k y0 y1 y2 y3 y4) (calibrate_Broken.l0 (k + 1) y0 y1 y2 y3 y4))
  | 0 => fun _ _ _ _ _ r h => by simp [calibrate_Broken.l0] at h
  | k + 1 => by
    have ih0 := calibrate_Broken.mono_l k
    · intro y0 y1 y2 y3 y4
      unfold calibrate_Broken.l0
      repeat' first
      | (with_reducible exact ih0 _ _ _ _ _)
      | (with_reducible exact calibrate_Check.mono _ _)
      | (with_reducible exact LeO.refl _)
      | (with_reducible exact LeO.none _)
      | (with_reducible refine LeO.ite ?_ ?_)
      | (with_reducible refine LeO.bind ?_ (fun _ => ?_))
      | exact ih0 _ _ _ _ _
      | exact calibrate_Check.mono _ _
      | exact LeO.none _
      | refine LeO.ite ?_ ?_
      | refine LeO.bind ?_ (fun _ => ?_)
theorem calibrate_Broken.mono : ∀ a0 k, LeO (calibrate_Broken.f k a0) (calibrate_Broken.f (k + 1) a0) := by
  intro a0 k
  have ih0 := calibrate_Broken.mono_l k
  unfold calibrate_Broken.f
  repeat' first
      | (with_reducible exact ih0 _ _ _ _ _)
      | (with_reducible exact calibrate_Check.mono _ _)
      | (with_reducible exact LeO.refl _)
      | (with_reducible exact LeO.none _)
      | (with_reducible refine LeO.ite ?_ ?_)
      | (with_reducible refine LeO.bind ?_ (fun _ => ?_))
      | exact ih0 _ _ _ _ _
      | exact calibrate_Check.mono _ _
      | exact LeO.none _
      | refine LeO.ite ?_ ?_
      | refine LeO.bind ?_ (fun _ => ?_)
set_option maxHeartbeats 8000000 in
set_option maxRecDepth 100000 in
theorem calibrate_Broken.calls (k : Nat) (A0 : Option Addr) (c0 : Nat) (l0 : List (S68)) (r1 : List Int) (r2 : Int) (w : World) (hr0 : Kd.C k68 w A0 l0.length l0) (hc0 : l0.length ≤ c0) (h : calibrate_Broken.f k l0 = some (r1, r2)) :
    Calls Try.prog 40 #[.slice A0 l0.length c0] w fun e w' => ∃ v0_ : Value, e = .returned (.tuple #[v0_, .int .i64 r2]) ∧ Kd.R (Kd.int .i64) 3 w' w.heap.size (fun _ => True) v0_ r1 ∧ Below w.heap.size w w' := by
  have hu68 := Try.underlying68
  have HR0 := Aside0.mk hr0
  have HC0 := Aside0.mk hc0
  clear hr0 hc0
  have HB := Aside0.mk (Below.refl w.heap.size w)
  have H : ((calibrate_Check.f k l0).bind fun t178 => (if t178 = 0 then (calibrate_Broken.l0 k l0 ([] : List Int) l0 (l0.length : Int) 0) else (some (([] : List Int), t178)))) = some (r1, r2) := h
  clear h
  replace H := Option.bind_eq_some_iff.mp H
  obtain ⟨t178, A20, H⟩ := H
  replace H : (if t178 = 0 then (calibrate_Broken.l0 k l0 ([] : List Int) l0 (l0.length : Int) 0) else (some (([] : List Int), t178))) = some (r1, r2) := H
  have A2 := Aside0.mk A20
  clear A20
  by_cases c3 : t178 = 0
  · rw [if_pos c3] at H
    have c3b0 : (t178 == 0) = true := beq_iff_eq.mpr c3
    have c3b1 : (t178 != 0) = false := bne_eq_false_iff_eq.mpr c3
    clear c3
    have H' := Aside0.mk H
    clear H
    go_enter Try.func40, Try.ntmps40
    go_wp2_with (first | ((with_reducible refine gate_callee (f := 56) rfl ?_); refine goesL_ (some 11) rfl rfl Try.func56 (by kernel_rfl) rfl #[.slice A0 l0.length c0] rfl (by (try simp only [List.map_toArray, List.map_cons, List.map_nil]); first | done | rfl | (simp only [List.length_drop, List.length_take]; rfl)) ?_; (with_reducible refine (calibrate_Check.calls k _ _ l0 t178 _ ?side1 ?side2 A2.out).mono ?_); (case side1 => repeat (first | exact HR0.out | (with_reducible refine Kd.C_alloc ?_ _) | (with_reducible refine Kd.C_drewN ?_ _) | (with_reducible refine Kd.C_drew ?_))); (case side2 => exact HC0.out); rintro e w4 ⟨rfl, hb⟩; refine ⟨_, rfl, ?_⟩; have n0_ := Aside0.mk (below_step (by repeat (first | (with_reducible first | exact HB.out | apply below_alloc | apply pw_below_drewN | apply below_drew1) | exact HB.out)) hb); clear HB; have HB := n0_; clear n0_; (try clear hb); (try clear hb2); (try clear hk); (try clear hi)))
    go_loopg [5, 17] k (fun kq v5 v17 w' => ∃ (x5_1 : List Int) (x17_1 : Int), v17 = .int .i64 x17_1 ∧ Aside0 (calibrate_Broken.l0 kq l0 x5_1 l0 (l0.length : Int) x17_1 = some (r1, r2)) ∧ Aside0 (kq ≤ k) ∧ Aside0 (Kd.R (Kd.int .i64) 3 w' w.heap.size (fun _ => True) v5 x5_1) ∧ Aside0 (Below w.heap.size w w'))
    case atStart => exact ⟨(([] : List Int)), (0), (by first | rfl | (simp; done) | (simp [*]; done)), H', ⟨Nat.le_refl _⟩, ⟨by first | exact Kd.R_nil _ _ _ _ _ | exact Kd.N_nil _ _ _ _ _ | exact Kd.V_nil _ _ _ _ _ | exact Kd.Q_nil _ _ _ _ _ | exact Kd.S_nil _ _ _ _ _⟩, ⟨by repeat (first | (with_reducible first | exact HB.out | apply below_alloc | apply pw_below_drewN | apply below_drew1) | exact HB.out)⟩⟩
    case round =>
      clear H'
      try clear p2
      try clear c3
      try clear c3b0
      try clear c3b1
      try clear c4
      obtain ⟨x5_1, x17_1, rfl, HA, HK1, HO_5, HB⟩ := hrel
      cases gk with
      | zero => exact absurd HA.out (by simp [calibrate_Broken.l0])
      | succ k1 =>
        have H := HA.out
        clear HA
        simp only [calibrate_Broken.l0] at H
        by_cases c5 : x17_1 < (l0.length : Int)
        · rw [if_pos c5] at H
          have c5b0 : decide (x17_1 < (l0.length : Int)) = true := decide_eq_true c5
          clear c5
          by_cases c6 : 0 ≤ x17_1
          · rw [if_pos c6] at H
            have c6b0 : decide (0 ≤ x17_1) = true := decide_eq_true c6
            clear c6
            by_cases c7 : x17_1 < (l0.length : Int)
            · rw [if_pos c7] at H
              have c7b0 : decide (x17_1 < (l0.length : Int)) = true := decide_eq_true c7
              clear c7
              replace H := Option.bind_eq_some_iff.mp H
              obtain ⟨⟨t181, t182⟩, A80, H⟩ := H
              replace H : (if t182 = 0 then (calibrate_Broken.l0 k1 l0 x5_1 l0 (l0.length : Int) (wrap64 (x17_1 + 1))) else (if x5_1.length < 17592186044416 then (calibrate_Broken.l0 k1 l0 (x5_1 ++ [x17_1]) l0 (l0.length : Int) (wrap64 (x17_1 + 1))) else (none))) = some (r1, r2) := H
              have A8 := Aside0.mk A80
              clear A80
              by_cases c9 : t182 = 0
              · rw [if_pos c9] at H
                have c9b0 : (t182 == 0) = true := beq_iff_eq.mpr c9
                have c9b1 : (t182 != 0) = false := bne_eq_false_iff_eq.mpr c9
                clear c9
                have H' := Aside0.mk H
                clear H
                have p179 : 0 ≤ (x17_1 : Int) := of_decide_eq_true (by first | (with_reducible assumption) | assumption)
                have q179 : x17_1 < (l0.length : Int) := of_decide_eq_true (by first | (with_reducible assumption) | assumption)
                obtain ⟨ad179, e179, hx179_0, hx179_1, hx179_2, hx179_3, hx179_4, hx179_5⟩ := at_T68 HR0.out x17_1 p179 q179
                cases e179
                replace hx179_0 := (HB.out.cell (World.block_lt_of_cell? w _ hx179_0)).trans hx179_0
                replace hx179_1 := (HB.out.cell (World.block_lt_of_cell? w _ hx179_1)).trans hx179_1
                replace hx179_2 := (HB.out.cell (World.block_lt_of_cell? w _ hx179_2)).trans hx179_2
                replace hx179_3 := (HB.out.cell (World.block_lt_of_cell? w _ hx179_3)).trans hx179_3
                replace hx179_4 := (HB.out.cell (World.block_lt_of_cell? w _ hx179_4)).trans hx179_4
                replace hx179_5 := (HB.out.cell (World.block_lt_of_cell? w _ hx179_5)).trans hx179_5
                replace p179 := eq_true p179
                replace q179 := eq_true q179
                go_wp2_with (first | ((with_reducible refine gate_dst (N := 7) rfl ?_); refine box_event ?hg (N := 7) ?hd (cs := #[.string (⟨#[]⟩ : ByteArray), .string (⟨#[]⟩ : ByteArray), .int .i64 0, .int .i64 0, .int .i64 0, .int .i64 0]) (t := 68) ?hr ?_; (case hd => rfl); (case hg => rfl); (case hr => first | (go_simp; done) | (go_simp; rfl)); intro gb180 hg w10 hbox hb; have n0_ := Aside0.mk (Kd.R_below (by (with_reducible repeat (first | apply Kd.R_alloc | apply Kd.R_drewN | apply Kd.R_drew)); exact HO_5.out) hb); have n1_ := Aside0.mk (below_step (by repeat (first | (with_reducible first | exact HB.out | apply below_alloc | apply pw_below_drewN | apply below_drew1) | exact HB.out)) hb); have n2_ := Aside0.mk (hbox); have n3_ := Aside0.mk ((by rw [hg]; exact (below_size (by repeat (first | (with_reducible first | exact HB.out | apply below_alloc | apply pw_below_drewN | apply below_drew1) | exact HB.out))) : w.heap.size ≤ gb180)); have n4_ := Aside0.mk ((by rw [hg]; exact (below_size (by repeat (first | (with_reducible first | exact HB.out | apply below_alloc | apply pw_below_drewN | apply below_drew1) | exact HB.out))) : w.heap.size ≤ gb180)); clear HO_5; clear HB; have HO_5 := n0_; have HB := n1_; have BK180 := n2_; have GW180 := n3_; have GE180 := n4_; clear n0_ n1_ n2_ n3_ n4_; clear hb hbox hg; have hcz11_0 : w10.cell? ⟨gb180, 0, none⟩ = some (.string (⟨#[]⟩ : ByteArray)) := (blk_cell BK180.out 0).trans rfl; have hcz11_1 : w10.cell? ⟨gb180, 1, none⟩ = some (.string (⟨#[]⟩ : ByteArray)) := (blk_cell BK180.out 1).trans rfl; have hcz11_2 : w10.cell? ⟨gb180, 2, none⟩ = some (.int .i64 0) := (blk_cell BK180.out 2).trans rfl; have hcz11_3 : w10.cell? ⟨gb180, 3, none⟩ = some (.int .i64 0) := (blk_cell BK180.out 3).trans rfl; have hcz11_4 : w10.cell? ⟨gb180, 4, none⟩ = some (.int .i64 0) := (blk_cell BK180.out 4).trans rfl; have hcz11_5 : w10.cell? ⟨gb180, 5, none⟩ = some (.int .i64 0) := (blk_cell BK180.out 5).trans rfl; have hfz11_0 := blk_frozen BK180.out 0; have hfz11_1 := blk_frozen BK180.out 1; have hfz11_2 := blk_frozen BK180.out 2; have hfz11_3 := blk_frozen BK180.out 3; have hfz11_4 := blk_frozen BK180.out 4; have hfz11_5 := blk_frozen BK180.out 5) | ((with_reducible refine gate_callee (f := 90) rfl ?_); refine goesL_ (some 28) rfl rfl Try.func90 (by kernel_rfl) rfl #[.slice (some ad179) l0.length c0, .string ((rd_T68 l0 x17_1).f0), .int .i64 ((rd_T68 l0 x17_1).f4)] rfl (by (try simp only [List.map_toArray, List.map_cons, List.map_nil]); first | done | rfl | (simp only [List.length_drop, List.length_take]; rfl)) ?_; (with_reducible refine (calibrate_collected.calls _ _ l0 ((rd_T68 l0 x17_1).f0) ((rd_T68 l0 x17_1).f4) t181 t182 _ ?side1 ?side2 A8.out).mono ?_); (case side1 => exact Kd.C_below HR0.out (by repeat (first | (with_reducible first | exact HB.out | apply below_alloc | apply pw_below_drewN | apply below_drew1 | refine below_set ?_ GE180.out) | exact HB.out))); (case side2 => exact HC0.out); rintro e w12 ⟨v183, rfl, ho0, hb⟩; refine ⟨_, rfl, ?_⟩; have n0_ := Aside0.mk (Kd.R_elder' (by (with_reducible repeat (first | apply Kd.R_alloc | apply Kd.R_drewN | apply Kd.R_drew)); exact (Kd.R_mono (Kd.R_far (p := ⟨gb180, 5, none⟩) (Kd.R_far (p := ⟨gb180, 4, none⟩) (Kd.R_far (p := ⟨gb180, 3, none⟩) (Kd.R_far (p := ⟨gb180, 2, none⟩) (Kd.R_far (p := ⟨gb180, 1, none⟩) (Kd.R_far (p := ⟨gb180, 0, none⟩) (Kd.R_types HO_5.out BK180.out (by decide)) (fun _ hk => hk.2) (.string ((rd_T68 l0 x17_1).f0))) (fun _ hk => hk.2) (.string ((rd_T68 l0 x17_1).f1))) (fun _ hk => hk.2) (.int .i64 ((rd_T68 l0 x17_1).f2))) (fun _ hk => hk.2) (.int .i64 ((rd_T68 l0 x17_1).f3))) (fun _ hk => hk.2) (.int .i64 ((rd_T68 l0 x17_1).f4))) (fun _ hk => hk.2) (.int .i64 ((rd_T68 l0 x17_1).f5))) (fun _ h_ => h_.1))) (Kd.R_base ho0) hb); have n1_ := Aside0.mk (Kd.R_lower (Kd.R_new' ho0 (Kd.R_lt (by (with_reducible repeat (first | apply Kd.R_alloc | apply Kd.R_drewN | apply Kd.R_drew)); exact (Kd.R_mono (Kd.R_far (p := ⟨gb180, 5, none⟩) (Kd.R_far (p := ⟨gb180, 4, none⟩) (Kd.R_far (p := ⟨gb180, 3, none⟩) (Kd.R_far (p := ⟨gb180, 2, none⟩) (Kd.R_far (p := ⟨gb180, 1, none⟩) (Kd.R_far (p := ⟨gb180, 0, none⟩) (Kd.R_types HO_5.out BK180.out (by decide)) (fun _ hk => hk.2) (.string ((rd_T68 l0 x17_1).f0))) (fun _ hk => hk.2) (.string ((rd_T68 l0 x17_1).f1))) (fun _ hk => hk.2) (.int .i64 ((rd_T68 l0 x17_1).f2))) (fun _ hk => hk.2) (.int .i64 ((rd_T68 l0 x17_1).f3))) (fun _ hk => hk.2) (.int .i64 ((rd_T68 l0 x17_1).f4))) (fun _ hk => hk.2) (.int .i64 ((rd_T68 l0 x17_1).f5))) (fun _ h_ => h_.1))))) (below_size (by repeat (first | (with_reducible first | exact HB.out | apply below_alloc | apply pw_below_drewN | apply below_drew1 | refine below_set ?_ GE180.out) | exact HB.out)))); have n2_ := Aside0.mk (blk_below (g := gb180) (o := .cells #[.string ((rd_T68 l0 x17_1).f0), .string ((rd_T68 l0 x17_1).f1), .int .i64 ((rd_T68 l0 x17_1).f2), .int .i64 ((rd_T68 l0 x17_1).f3), .int .i64 ((rd_T68 l0 x17_1).f4), .int .i64 ((rd_T68 l0 x17_1).f5)] 68 (0, 0)) (by (with_reducible repeat (first | refine blk_drewN ?_ _ | refine blk_drew ?_ | refine blk_alloc ?_ _)); refine blk_put (cs := #[.string ((rd_T68 l0 x17_1).f0), .string ((rd_T68 l0 x17_1).f1), .int .i64 ((rd_T68 l0 x17_1).f2), .int .i64 ((rd_T68 l0 x17_1).f3), .int .i64 ((rd_T68 l0 x17_1).f4), .int .i64 0]) ?_ 5 _ rfl; (with_reducible repeat (first | refine blk_drewN ?_ _ | refine blk_drew ?_ | refine blk_alloc ?_ _)); refine blk_put (cs := #[.string ((rd_T68 l0 x17_1).f0), .string ((rd_T68 l0 x17_1).f1), .int .i64 ((rd_T68 l0 x17_1).f2), .int .i64 ((rd_T68 l0 x17_1).f3), .int .i64 0, .int .i64 0]) ?_ 4 _ rfl; (with_reducible repeat (first | refine blk_drewN ?_ _ | refine blk_drew ?_ | refine blk_alloc ?_ _)); refine blk_put (cs := #[.string ((rd_T68 l0 x17_1).f0), .string ((rd_T68 l0 x17_1).f1), .int .i64 ((rd_T68 l0 x17_1).f2), .int .i64 0, .int .i64 0, .int .i64 0]) ?_ 3 _ rfl; (with_reducible repeat (first | refine blk_drewN ?_ _ | refine blk_drew ?_ | refine blk_alloc ?_ _)); refine blk_put (cs := #[.string ((rd_T68 l0 x17_1).f0), .string ((rd_T68 l0 x17_1).f1), .int .i64 0, .int .i64 0, .int .i64 0, .int .i64 0]) ?_ 2 _ rfl; (with_reducible repeat (first | refine blk_drewN ?_ _ | refine blk_drew ?_ | refine blk_alloc ?_ _)); refine blk_put (cs := #[.string ((rd_T68 l0 x17_1).f0), .string (⟨#[]⟩ : ByteArray), .int .i64 0, .int .i64 0, .int .i64 0, .int .i64 0]) ?_ 1 _ rfl; (with_reducible repeat (first | refine blk_drewN ?_ _ | refine blk_drew ?_ | refine blk_alloc ?_ _)); refine blk_put (cs := #[.string (⟨#[]⟩ : ByteArray), .string (⟨#[]⟩ : ByteArray), .int .i64 0, .int .i64 0, .int .i64 0, .int .i64 0]) ?_ 0 _ rfl; (with_reducible repeat (first | refine blk_drewN ?_ _ | refine blk_drew ?_ | refine blk_alloc ?_ _)); exact BK180.out) hb); have n3_ := Aside0.mk (below_step (by repeat (first | (with_reducible first | exact HB.out | apply below_alloc | apply pw_below_drewN | apply below_drew1 | refine below_set ?_ GE180.out) | exact HB.out)) hb); clear HO_5; clear BK180; clear HB; have HO_5 := n0_; have HO184 := n1_; have BK180 := n2_; have HB := n3_; clear n0_ n1_ n2_ n3_; (try clear hb); (try clear hb2); (try clear hk); (try clear hi); (try clear ho0)))
                go_roundg k1
                case measure => have := HK1.out; omega
                case rel => exact ⟨(x5_1), (wrap64 (x17_1 + 1)), (by first | rfl | (simp; done) | (simp [*]; done)), H', ⟨by have := HK1.out; omega⟩, ⟨by (with_reducible repeat (first | apply Kd.R_alloc | apply Kd.R_drewN | apply Kd.R_drew)); exact Kd.R_mono HO_5.out (fun _ hk => trivial)⟩, ⟨by repeat (first | (with_reducible first | exact HB.out | apply below_alloc | apply pw_below_drewN | apply below_drew1 | refine below_set ?_ GE180.out) | exact HB.out)⟩⟩
              · rw [if_neg c9] at H
                have c9b0 : (t182 == 0) = false := beq_eq_false_iff_ne.mpr c9
                have c9b1 : (t182 != 0) = true := bne_iff_ne.mpr c9
                by_cases c13 : x5_1.length < 17592186044416
                · rw [if_pos c13] at H
                  have LMc13 := Aside0.mk c13
                  clear c13
                  obtain ⟨y185, hy185⟩ : ∃ y_ : List Int, y_ = (x5_1 ++ [x17_1]) := ⟨_, rfl⟩
                  replace H : (calibrate_Broken.l0 k1 l0 y185 l0 (l0.length : Int) (wrap64 (x17_1 + 1))) = some (r1, r2) := by first | (rw [hy185]; with_reducible exact H) | (have H2_ := (Option.bind_some _ _).symm.trans H; rw [hy185]; with_reducible exact H2_) | (have H2_ := (Option.bind_some _ _).symm.trans H; with_reducible exact H2_) | with_reducible exact H | (rw [hy185]; exact H) | exact H
                  have Ny185 := Aside0.mk hy185
                  clear hy185
                  have H' := Aside0.mk H
                  clear H
                  have p179 : 0 ≤ (x17_1 : Int) := of_decide_eq_true (by first | (with_reducible assumption) | assumption)
                  have q179 : x17_1 < (l0.length : Int) := of_decide_eq_true (by first | (with_reducible assumption) | assumption)
                  obtain ⟨ad179, e179, hx179_0, hx179_1, hx179_2, hx179_3, hx179_4, hx179_5⟩ := at_T68 HR0.out x17_1 p179 q179
                  cases e179
                  replace hx179_0 := (HB.out.cell (World.block_lt_of_cell? w _ hx179_0)).trans hx179_0
                  replace hx179_1 := (HB.out.cell (World.block_lt_of_cell? w _ hx179_1)).trans hx179_1
                  replace hx179_2 := (HB.out.cell (World.block_lt_of_cell? w _ hx179_2)).trans hx179_2
                  replace hx179_3 := (HB.out.cell (World.block_lt_of_cell? w _ hx179_3)).trans hx179_3
                  replace hx179_4 := (HB.out.cell (World.block_lt_of_cell? w _ hx179_4)).trans hx179_4
                  replace hx179_5 := (HB.out.cell (World.block_lt_of_cell? w _ hx179_5)).trans hx179_5
                  replace p179 := eq_true p179
                  replace q179 := eq_true q179
                  go_wp2_with (first | ((with_reducible refine gate_dst (N := 7) rfl ?_); refine box_event ?hg (N := 7) ?hd (cs := #[.string (⟨#[]⟩ : ByteArray), .string (⟨#[]⟩ : ByteArray), .int .i64 0, .int .i64 0, .int .i64 0, .int .i64 0]) (t := 68) ?hr ?_; (case hd => rfl); (case hg => rfl); (case hr => first | (go_simp; done) | (go_simp; rfl)); intro gb180 hg w14 hbox hb; have n0_ := Aside0.mk (Kd.R_below (by (with_reducible repeat (first | apply Kd.R_alloc | apply Kd.R_drewN | apply Kd.R_drew)); exact HO_5.out) hb); have n1_ := Aside0.mk (below_step (by repeat (first | (with_reducible first | exact HB.out | apply below_alloc | apply pw_below_drewN | apply below_drew1) | exact HB.out)) hb); have n2_ := Aside0.mk (hbox); have n3_ := Aside0.mk ((by rw [hg]; exact (below_size (by repeat (first | (with_reducible first | exact HB.out | apply below_alloc | apply pw_below_drewN | apply below_drew1) | exact HB.out))) : w.heap.size ≤ gb180)); have n4_ := Aside0.mk ((by rw [hg]; exact (below_size (by repeat (first | (with_reducible first | exact HB.out | apply below_alloc | apply pw_below_drewN | apply below_drew1) | exact HB.out))) : w.heap.size ≤ gb180)); clear HO_5; clear HB; have HO_5 := n0_; have HB := n1_; have BK180 := n2_; have GW180 := n3_; have GE180 := n4_; clear n0_ n1_ n2_ n3_ n4_; clear hb hbox hg; have hcz15_0 : w14.cell? ⟨gb180, 0, none⟩ = some (.string (⟨#[]⟩ : ByteArray)) := (blk_cell BK180.out 0).trans rfl; have hcz15_1 : w14.cell? ⟨gb180, 1, none⟩ = some (.string (⟨#[]⟩ : ByteArray)) := (blk_cell BK180.out 1).trans rfl; have hcz15_2 : w14.cell? ⟨gb180, 2, none⟩ = some (.int .i64 0) := (blk_cell BK180.out 2).trans rfl; have hcz15_3 : w14.cell? ⟨gb180, 3, none⟩ = some (.int .i64 0) := (blk_cell BK180.out 3).trans rfl; have hcz15_4 : w14.cell? ⟨gb180, 4, none⟩ = some (.int .i64 0) := (blk_cell BK180.out 4).trans rfl; have hcz15_5 : w14.cell? ⟨gb180, 5, none⟩ = some (.int .i64 0) := (blk_cell BK180.out 5).trans rfl; have hfz15_0 := blk_frozen BK180.out 0; have hfz15_1 := blk_frozen BK180.out 1; have hfz15_2 := blk_frozen BK180.out 2; have hfz15_3 := blk_frozen BK180.out 3; have hfz15_4 := blk_frozen BK180.out 4; have hfz15_5 := blk_frozen BK180.out 5) | ((with_reducible refine gate_callee (f := 90) rfl ?_); refine goesL_ (some 28) rfl rfl Try.func90 (by kernel_rfl) rfl #[.slice (some ad179) l0.length c0, .string ((rd_T68 l0 x17_1).f0), .int .i64 ((rd_T68 l0 x17_1).f4)] rfl (by (try simp only [List.map_toArray, List.map_cons, List.map_nil]); first | done | rfl | (simp only [List.length_drop, List.length_take]; rfl)) ?_; (with_reducible refine (calibrate_collected.calls _ _ l0 ((rd_T68 l0 x17_1).f0) ((rd_T68 l0 x17_1).f4) t181 t182 _ ?side1 ?side2 A8.out).mono ?_); (case side1 => exact Kd.C_below HR0.out (by repeat (first | (with_reducible first | exact HB.out | apply below_alloc | apply pw_below_drewN | apply below_drew1 | refine below_set ?_ GE180.out) | exact HB.out))); (case side2 => exact HC0.out); rintro e w16 ⟨v183, rfl, ho0, hb⟩; refine ⟨_, rfl, ?_⟩; have n0_ := Aside0.mk (Kd.R_elder' (by (with_reducible repeat (first | apply Kd.R_alloc | apply Kd.R_drewN | apply Kd.R_drew)); exact (Kd.R_mono (Kd.R_far (p := ⟨gb180, 5, none⟩) (Kd.R_far (p := ⟨gb180, 4, none⟩) (Kd.R_far (p := ⟨gb180, 3, none⟩) (Kd.R_far (p := ⟨gb180, 2, none⟩) (Kd.R_far (p := ⟨gb180, 1, none⟩) (Kd.R_far (p := ⟨gb180, 0, none⟩) (Kd.R_types HO_5.out BK180.out (by decide)) (fun _ hk => hk.2) (.string ((rd_T68 l0 x17_1).f0))) (fun _ hk => hk.2) (.string ((rd_T68 l0 x17_1).f1))) (fun _ hk => hk.2) (.int .i64 ((rd_T68 l0 x17_1).f2))) (fun _ hk => hk.2) (.int .i64 ((rd_T68 l0 x17_1).f3))) (fun _ hk => hk.2) (.int .i64 ((rd_T68 l0 x17_1).f4))) (fun _ hk => hk.2) (.int .i64 ((rd_T68 l0 x17_1).f5))) (fun _ h_ => h_.1))) (Kd.R_base ho0) hb); have n1_ := Aside0.mk (Kd.R_lower (Kd.R_new' ho0 (Kd.R_lt (by (with_reducible repeat (first | apply Kd.R_alloc | apply Kd.R_drewN | apply Kd.R_drew)); exact (Kd.R_mono (Kd.R_far (p := ⟨gb180, 5, none⟩) (Kd.R_far (p := ⟨gb180, 4, none⟩) (Kd.R_far (p := ⟨gb180, 3, none⟩) (Kd.R_far (p := ⟨gb180, 2, none⟩) (Kd.R_far (p := ⟨gb180, 1, none⟩) (Kd.R_far (p := ⟨gb180, 0, none⟩) (Kd.R_types HO_5.out BK180.out (by decide)) (fun _ hk => hk.2) (.string ((rd_T68 l0 x17_1).f0))) (fun _ hk => hk.2) (.string ((rd_T68 l0 x17_1).f1))) (fun _ hk => hk.2) (.int .i64 ((rd_T68 l0 x17_1).f2))) (fun _ hk => hk.2) (.int .i64 ((rd_T68 l0 x17_1).f3))) (fun _ hk => hk.2) (.int .i64 ((rd_T68 l0 x17_1).f4))) (fun _ hk => hk.2) (.int .i64 ((rd_T68 l0 x17_1).f5))) (fun _ h_ => h_.1))))) (below_size (by repeat (first | (with_reducible first | exact HB.out | apply below_alloc | apply pw_below_drewN | apply below_drew1 | refine below_set ?_ GE180.out) | exact HB.out)))); have n2_ := Aside0.mk (blk_below (g := gb180) (o := .cells #[.string ((rd_T68 l0 x17_1).f0), .string ((rd_T68 l0 x17_1).f1), .int .i64 ((rd_T68 l0 x17_1).f2), .int .i64 ((rd_T68 l0 x17_1).f3), .int .i64 ((rd_T68 l0 x17_1).f4), .int .i64 ((rd_T68 l0 x17_1).f5)] 68 (0, 0)) (by (with_reducible repeat (first | refine blk_drewN ?_ _ | refine blk_drew ?_ | refine blk_alloc ?_ _)); refine blk_put (cs := #[.string ((rd_T68 l0 x17_1).f0), .string ((rd_T68 l0 x17_1).f1), .int .i64 ((rd_T68 l0 x17_1).f2), .int .i64 ((rd_T68 l0 x17_1).f3), .int .i64 ((rd_T68 l0 x17_1).f4), .int .i64 0]) ?_ 5 _ rfl; (with_reducible repeat (first | refine blk_drewN ?_ _ | refine blk_drew ?_ | refine blk_alloc ?_ _)); refine blk_put (cs := #[.string ((rd_T68 l0 x17_1).f0), .string ((rd_T68 l0 x17_1).f1), .int .i64 ((rd_T68 l0 x17_1).f2), .int .i64 ((rd_T68 l0 x17_1).f3), .int .i64 0, .int .i64 0]) ?_ 4 _ rfl; (with_reducible repeat (first | refine blk_drewN ?_ _ | refine blk_drew ?_ | refine blk_alloc ?_ _)); refine blk_put (cs := #[.string ((rd_T68 l0 x17_1).f0), .string ((rd_T68 l0 x17_1).f1), .int .i64 ((rd_T68 l0 x17_1).f2), .int .i64 0, .int .i64 0, .int .i64 0]) ?_ 3 _ rfl; (with_reducible repeat (first | refine blk_drewN ?_ _ | refine blk_drew ?_ | refine blk_alloc ?_ _)); refine blk_put (cs := #[.string ((rd_T68 l0 x17_1).f0), .string ((rd_T68 l0 x17_1).f1), .int .i64 0, .int .i64 0, .int .i64 0, .int .i64 0]) ?_ 2 _ rfl; (with_reducible repeat (first | refine blk_drewN ?_ _ | refine blk_drew ?_ | refine blk_alloc ?_ _)); refine blk_put (cs := #[.string ((rd_T68 l0 x17_1).f0), .string (⟨#[]⟩ : ByteArray), .int .i64 0, .int .i64 0, .int .i64 0, .int .i64 0]) ?_ 1 _ rfl; (with_reducible repeat (first | refine blk_drewN ?_ _ | refine blk_drew ?_ | refine blk_alloc ?_ _)); refine blk_put (cs := #[.string (⟨#[]⟩ : ByteArray), .string (⟨#[]⟩ : ByteArray), .int .i64 0, .int .i64 0, .int .i64 0, .int .i64 0]) ?_ 0 _ rfl; (with_reducible repeat (first | refine blk_drewN ?_ _ | refine blk_drew ?_ | refine blk_alloc ?_ _)); exact BK180.out) hb); have n3_ := Aside0.mk (below_step (by repeat (first | (with_reducible first | exact HB.out | apply below_alloc | apply pw_below_drewN | apply below_drew1 | refine below_set ?_ GE180.out) | exact HB.out)) hb); clear HO_5; clear BK180; clear HB; have HO_5 := n0_; have HO184 := n1_; have BK180 := n2_; have HB := n3_; clear n0_ n1_ n2_ n3_; (try clear hb); (try clear hb2); (try clear hk); (try clear hi); (try clear ho0)) | ((with_reducible refine gate_builtin (b := .append) (xs := #[.tmp 33, .tmp 35]) rfl ?_); at_builtin; refine Kd.R_append (Kd.int .i64) (w0 := w) w.heap.size rfl (.tmp 33) (.tmp 35) 63 3 (.int .i64 0) 8 rfl Try.underlying63 info3 rfl (by decide) (by omega) u5 x5_1 x17_1 [.int .i64 x17_1] (fun k_ => some k_ ≠ (v183 : Value).ownBlock) (fun _ => False) rfl rfl ?aP (fun _ hk => hk.elim) ?aF ?aO ?aB ?aS ?aL ?_; (case aP => exact rfl); (case aB => exact (by repeat (first | (with_reducible first | exact HB.out | apply below_alloc | apply pw_below_drewN | apply below_drew1 | refine below_set ?_ GE180.out) | exact HB.out))); (case aF => exact (fun k_ hk => Kd.fresh' (Kd.R_lt (by (with_reducible repeat (first | apply Kd.R_alloc | apply Kd.R_drewN | apply Kd.R_drew)); exact HO184.out)) k_ hk)); (case aO => exact (by (with_reducible repeat (first | apply Kd.R_alloc | apply Kd.R_drewN | apply Kd.R_drew)); exact Kd.R_mono HO_5.out (fun _ hk => hk.2))); (case aS => exact (below_size (by repeat (first | (with_reducible first | exact HB.out | apply below_alloc | apply pw_below_drewN | apply below_drew1 | refine below_set ?_ GE180.out) | exact HB.out)))); (case aL => have := LMc13.out; omega); intro v186 w17 ho hb hg hat; rw [← Ny185.out] at ho; have n0_ := Aside0.mk (blk_grown (g := gb180) (o := .cells #[.string ((rd_T68 l0 x17_1).f0), .string ((rd_T68 l0 x17_1).f1), .int .i64 ((rd_T68 l0 x17_1).f2), .int .i64 ((rd_T68 l0 x17_1).f3), .int .i64 ((rd_T68 l0 x17_1).f4), .int .i64 ((rd_T68 l0 x17_1).f5)] 68 (0, 0)) (by (with_reducible repeat (first | refine blk_drewN ?_ _ | refine blk_drew ?_ | refine blk_alloc ?_ _)); exact BK180.out) hg (Kd.R_ne HO_5.out BK180.out (by decide))); have n1_ := Aside0.mk (Kd.R_after (ok := (fun _ => True)) (by (with_reducible repeat (first | apply Kd.R_alloc | apply Kd.R_drewN | apply Kd.R_drew)); exact HO184.out) hg hat); have n2_ := Aside0.mk (hb); have n3_ := Aside0.mk (ho); clear BK180; clear HO184; clear HB; clear HO_5; have BK180 := n0_; have HO184 := n1_; have HB := n2_; have HO187 := n3_; clear n0_ n1_ n2_ n3_; clear ho hb hg hat))
                  go_roundg k1
                  case measure => have := HK1.out; omega
                  case rel => exact ⟨(y185), (wrap64 (x17_1 + 1)), (by first | rfl | (simp; done) | (simp [*]; done)), H', ⟨by have := HK1.out; omega⟩, ⟨by (with_reducible repeat (first | apply Kd.R_alloc | apply Kd.R_drewN | apply Kd.R_drew)); exact Kd.R_mono HO187.out (fun _ hk => trivial)⟩, ⟨by repeat (first | (with_reducible first | exact HB.out | apply below_alloc | apply pw_below_drewN | apply below_drew1 | refine below_set ?_ GE180.out) | exact HB.out)⟩⟩
                · rw [if_neg c13] at H
                  exact absurd H (by simp)
            · rw [if_neg c7] at H
              exact absurd H (by simp)
          · rw [if_neg c6] at H
            exact absurd H (by simp)
        · rw [if_neg c5] at H
          have c5b0 : decide (x17_1 < (l0.length : Int)) = false := decide_eq_false c5
          clear c5
          simp only [Option.some.injEq, Prod.mk.injEq] at H
          obtain ⟨rfl, rfl⟩ := H
          go_wp2
          go_ret2
          exact ⟨_, by first | rfl | (simp [errW_none, errW_some] <;> rfl) | (simp [*, errW_none, errW_some] <;> rfl), by (with_reducible repeat (first | apply Kd.R_alloc | apply Kd.R_drewN | apply Kd.R_drew)); exact HO_5.out, by repeat (first | (with_reducible first | exact HB.out | apply below_alloc | apply pw_below_drewN | apply below_drew1) | exact HB.out)⟩
  · rw [if_neg c3] at H
    have c3b0 : (t178 == 0) = false := beq_eq_false_iff_ne.mpr c3
    have c3b1 : (t178 != 0) = true := bne_iff_ne.mpr c3
    simp only [Option.some.injEq, Prod.mk.injEq] at H
    obtain ⟨rfl, rfl⟩ := H
    go_enter Try.func40, Try.ntmps40
    go_wp2_with (first | ((with_reducible refine gate_callee (f := 56) rfl ?_); refine goesL_ (some 11) rfl rfl Try.func56 (by kernel_rfl) rfl #[.slice A0 l0.length c0] rfl (by (try simp only [List.map_toArray, List.map_cons, List.map_nil]); first | done | rfl | (simp only [List.length_drop, List.length_take]; rfl)) ?_; (with_reducible refine (calibrate_Check.calls k _ _ l0 t178 _ ?side1 ?side2 A2.out).mono ?_); (case side1 => repeat (first | exact HR0.out | (with_reducible refine Kd.C_alloc ?_ _) | (with_reducible refine Kd.C_drewN ?_ _) | (with_reducible refine Kd.C_drew ?_))); (case side2 => exact HC0.out); rintro e w18 ⟨rfl, hb⟩; refine ⟨_, rfl, ?_⟩; have n0_ := Aside0.mk (below_step (by repeat (first | (with_reducible first | exact HB.out | apply below_alloc | apply pw_below_drewN | apply below_drew1) | exact HB.out)) hb); clear HB; have HB := n0_; clear n0_; (try clear hb); (try clear hb2); (try clear hk); (try clear hi)))
    go_ret2
    exact ⟨_, by first | rfl | (simp [errW_none, errW_some] <;> rfl) | (simp [*, errW_none, errW_some] <;> rfl), by first | exact Kd.R_nil _ _ _ _ _ | exact Kd.N_nil _ _ _ _ _ | exact Kd.V_nil _ _ _ _ _ | exact Kd.Q_nil _ _ _ _ _ | exact Kd.S_nil _ _ _ _ _, by repeat (first | (with_reducible first | exact HB.out | apply below_alloc | apply pw_below_drewN | apply below_drew1) | exact HB.out)⟩
end Go.Proofs.Ytkgdlbepjmgaiaa.Cal
