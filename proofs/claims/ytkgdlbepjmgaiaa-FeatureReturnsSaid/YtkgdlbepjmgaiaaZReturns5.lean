/- Part 5 of the texts behind the last one of this claim. -/
import Derived.Lib.SliceRun
import Derived.Lib.Walk
import Derived.RegionTactic
import Derived.BigRegion
import Derived.Shelf.Abstract
import Derived.Test.YtkgdlbepjmgaiaaZReturns4
set_option linter.unusedVariables false
set_option linter.unusedSimpArgs false
namespace Go.Proofs.Ytkgdlbepjmgaiaa.Fea
open Go.RowKit Go.Proofs.YtkgdlbepjmgaiaaW.PrintWords Go.Proofs.YtkgdlbepjmgaiaaW.PrintLast Go.Proofs.YtkgdlbepjmgaiaaW.PrintMore
theorem Reps.imp' {α : Type} {R R' : α → List Value → Prop} {size : Nat} {ps : List α} {cs : List Value} (h : Reps R size ps cs) (hi : ∀ p c, R p c → R' p c) : Reps R' size ps cs :=
  ⟨h.1, fun j p hj => hi _ _ (h.2 j p hj)⟩
theorem F_of_own {α : Type} {d : Kd α} {W : World} {base e : Nat} {v : Value} {xs : List α} {cs : List Value} (hmax : xs.length ≤ 9223372036854775807) (h : W.ownsRow base e d.sz v xs.length cs) (hR : Reps (fun x c => Kd.FK d W (fun k => base ≤ k) x c) d.sz xs cs) :
    ∃ A c, v = .slice A xs.length c ∧ xs.length ≤ c ∧ Kd.F d W (fun k => base ≤ k) A xs.length xs := by
  rcases h.2 with ⟨rfl, hn⟩ | ⟨g, cap, cur, rfl, hg, hh, hc, hm, hs, ht⟩
  · refine ⟨none, 0, by rw [hn], by omega, fun W' _ => ⟨rfl, hmax, fun h0 => by omega⟩⟩
  · refine ⟨_, _, rfl, hc, fun W' hW => ?_⟩
    have hlt : g < W.heap.size := (Array.getElem?_eq_some_iff.1 hh).1
    have hh' : W'.heap[g]? = some (.cells cur e (0, 0)) := (hW g hg hlt).trans hh
    have ho : W'.ownsRow base e d.sz (.slice (some ⟨g, 0, none⟩) xs.length cap) xs.length cs := ⟨h.1, .inr ⟨g, cap, cur, rfl, hg, hh', hc, hm, hs, ht⟩⟩
    obtain ⟨A, c, e1, hr⟩ := own_reads_row ho (Reps.imp' hR (fun p c hk => hk W' hW)) rfl
    injection e1 with e1 _ _
    rw [← e1] at hr
    exact hr
theorem Reps.one' {α : Type} {R : α → List Value → Prop} {size : Nat} {ps : List α} {cs : List Value} (h : Reps R size ps cs) (hs : 0 < size) (hR : ∀ p c, R p c → ∀ u ∈ c, u.oneCell' = true) : ∀ u ∈ cs, u.oneCell' = true := by
  intro u hu
  obtain ⟨p, hp, rfl⟩ := List.mem_iff_getElem.1 hu
  have hl := h.1
  have hj : p / size < ps.length := by rw [Nat.div_lt_iff_lt_mul hs]; omega
  have hm : p % size < size := Nat.mod_lt _ hs
  have he : p / size * size + p % size = p := by rw [Nat.mul_comm]; exact Nat.div_add_mod _ _
  have hk := h.2 (p / size) _ (List.getElem?_eq_getElem hj)
  refine hR _ _ hk _ ?_
  refine List.mem_of_getElem? (i := p % size) ?_
  rw [List.getElem?_take_of_lt hm, List.getElem?_drop, he, List.getElem?_eq_getElem hp]
theorem cell_alloc {w : World} {a : Addr} {v : Value} (h : w.cell? a = some v) (o : Obj) : (w.alloc o).cell? a = some v := by
  rw [← h]
  exact World.cell?_of_block (Below.heap_alloc w o a.block (World.block_lt_of_cell? w a h))
set_option maxHeartbeats 4000000 in
set_option maxRecDepth 100000 in
theorem clone106_calls (A : Option Addr) (c : Nat) (xs : List S106) (w : World) (hr : Kd.C k106 w A xs.length xs) (hc : xs.length ≤ c) (hsm : xs.length ≤ 1000000) :
    Calls Try.prog 126 #[.slice A xs.length c] w fun e w' => ∃ A' c', e = .returned (.slice A' xs.length c') ∧ xs.length ≤ c' ∧ Kd.F k106 w' (fun k => w.heap.size ≤ k) A' xs.length xs ∧ Below w.heap.size w w' := by
  have hu102 := Try.underlying102
  have q102 : ∀ (w : World) (a : Option Addr) (n c n' c' : Nat), (binOp .eql 102 (.slice a n c) (.slice none n' c')).run Try.prog w = .ok (.bool a.isNone) w := fun w a n c n' c' => Lib.run_eql_slice_nil w _ _ a n c n' c' Try.underlying102
  cases A with
  | none =>
    have h0 : xs.length = 0 := by
      rcases Nat.eq_zero_or_pos xs.length with g | g
      · exact g
      · obtain ⟨ad, e, _⟩ := hr.2.2 g; cases e
    have HR := Aside0.mk hr
    clear hr
    go_enter Try.func126, Try.ntmps126
    go_wp2
    go_ret
    exact ⟨none, 0, by rw [h0]; rfl, by omega, fun W' _ => ⟨rfl, HR.out.2.1, fun h => by omega⟩, Below.refl _ _⟩
  | some ad =>
    obtain ⟨inner, hreps, hcell⟩ := ReadsRow.inner_ hr
    have hmax := hr.2.1
    have HC := Aside0.mk hcell
    have HP := Aside0.mk hreps
    have hlen := hreps.1
    clear hr hcell hreps
    obtain ⟨i0, hi, hz⟩ := Option.map_eq_some_iff.1 (show (Try.prog.info? 106).map (fun i => (i.zero, i.size, i.bytes)) = some (some (.agg #[(.string ⟨#[]⟩), (.int .i64 0)]), 2, 24) by kernel_rfl)
    simp only [Prod.mk.injEq] at hz
    obtain ⟨hz0, hz1, hz2⟩ := hz
    go_enter Try.func126, Try.ntmps126
    go_wp2_with (at_builtin; refine wpList_append_own _ rfl _ _ 102 rfl w.heap.size 106 i0 (.agg #[(.string ⟨#[]⟩), (.int .i64 0)]) 2 24 hu102 hi hz0 hz1 hz2 rfl (by decide) _ _ _ rfl (World.ownsRow_made w #[] 0 (Nat.le_refl _) (Nat.zero_le _) rfl) ad xs.length c inner rfl ?qc1 ?qc2 ?qc3 ?qc4 ?qc5 ?qc6 ?_)
    case qc1 => exact hlen
    case qc2 => exact fun j u hj => cell_alloc (HC.out j u hj) _
    case qc3 => exact Reps.one' HP.out (by decide) (fun _ _ hk => k106.K_one hk)
    case qc4 => unfold maxLen; omega
    case qc5 => omega
    case qc6 => simp
    intro v' w1 hown hgrow hnil
    have HO := Aside0.mk hown
    have HG := Aside0.mk hgrow
    clear hown hgrow hnil
    go_wp2
    go_ret
    have ho := HO.out
    obtain ⟨A', c', rfl, hc', hF⟩ := F_of_own (d := k106) hmax ho (Reps.imp' HP.out (fun p c hk => by rw [k106_open hk]; exact k106_mkF _ _ _))
    exact ⟨A', c', rfl, hc', hF, (bel1 w _).grown HG.out (by simp) (by intro k hk; simp [Value.ownBlock] at hk; omega)⟩
set_option maxHeartbeats 4000000 in
set_option maxRecDepth 100000 in
theorem clone104_calls (A : Option Addr) (c n : Nat) (inner : List Value) (w : World) (hlen : inner.length = n * 5) (h1 : ∀ u ∈ inner, u.oneCell' = true) (hcell : ∀ ad, A = some ad → ∀ j u, inner[j]? = some u → w.cell? (ad.add j) = some u) (h0 : A = none → n = 0) (hsm : n ≤ 1000000) :
    Calls Try.prog 125 #[.slice A n c] w fun e w' => ∃ v', e = .returned v' ∧ w'.ownsRow w.heap.size 104 5 v' n inner ∧ Below w.heap.size w w' := by
  have hu26 := Try.underlying26
  have q26 : ∀ (w : World) (a : Option Addr) (n c n' c' : Nat), (binOp .eql 26 (.slice a n c) (.slice none n' c')).run Try.prog w = .ok (.bool a.isNone) w := fun w a n c n' c' => Lib.run_eql_slice_nil w _ _ a n c n' c' Try.underlying26
  cases A with
  | none =>
    have e0 := h0 rfl
    clear hcell h0
    go_enter Try.func125, Try.ntmps125
    go_wp2
    go_ret
    subst e0
    exact ⟨.slice none 0 0, rfl, ⟨hlen, .inl ⟨rfl, rfl⟩⟩, Below.refl _ _⟩
  | some ad =>
    have HC := Aside0.mk (hcell ad rfl)
    have H1 := Aside0.mk h1
    clear hcell h0 h1
    obtain ⟨i0, hi, hz⟩ := Option.map_eq_some_iff.1 (show (Try.prog.info? 104).map (fun i => (i.zero, i.size, i.bytes)) = some (some (.agg #[(.int .i64 0), (.bool false), (.int .i64 0), (.int .i64 0), .slice none 0 0]), 5, 56) by kernel_rfl)
    simp only [Prod.mk.injEq] at hz
    obtain ⟨hz0, hz1, hz2⟩ := hz
    go_enter Try.func125, Try.ntmps125
    go_wp2_with (at_builtin; refine wpList_append_own _ rfl _ _ 26 rfl w.heap.size 104 i0 (.agg #[(.int .i64 0), (.bool false), (.int .i64 0), (.int .i64 0), .slice none 0 0]) 5 56 hu26 hi hz0 hz1 hz2 rfl (by decide) _ _ _ rfl (World.ownsRow_made w #[] 0 (Nat.le_refl _) (Nat.zero_le _) rfl) ad n c inner rfl ?qc1 ?qc2 ?qc3 ?qc4 ?qc5 ?qc6 ?_)
    case qc1 => exact hlen
    case qc2 => exact fun j u hj => cell_alloc (HC.out j u hj) _
    case qc3 => exact H1.out
    case qc4 => unfold maxLen; omega
    case qc5 => omega
    case qc6 => simp
    intro v' w1 hown hgrow hnil
    have HO := Aside0.mk hown
    have HG := Aside0.mk hgrow
    clear hown hgrow hnil
    go_wp2
    go_ret
    have hb : Below w.heap.size w w1 := (bel1 w _).grown HG.out (by simp) (by intro k hk; simp [Value.ownBlock] at hk; omega)
    exact ⟨v', rfl, by simpa using HO.out, hb⟩
end Go.Proofs.Ytkgdlbepjmgaiaa.Fea
set_option linter.unusedVariables false
set_option linter.unusedSimpArgs false
namespace Go.Proofs.Ytkgdlbepjmgaiaa.Fea
open Go.RowKit Go.Proofs.YtkgdlbepjmgaiaaW.PrintWords Go.Proofs.YtkgdlbepjmgaiaaW.PrintLast Go.Proofs.YtkgdlbepjmgaiaaW.PrintMore
abbrev ftU (nm : ByteArray) (k ax x y z lo hi : Int) (u : Value) : Array Value := #[.string nm, .int .i64 k, .int .i64 ax, .int .i64 x, .int .i64 y, .int .i64 z, .int .i64 lo, .int .i64 hi, u]
abbrev ft0 : Array Value := #[.string ⟨#[]⟩, .int .i64 0, .int .i64 0, .int .i64 0, .int .i64 0, .int .i64 0, .int .i64 0, .int .i64 0, .slice none 0 0]
def Mix (N g : Nat) (w W : World) (i : Nat) (l : List S104) (inner : List Value) : Prop :=
  inner.length = l.length * 5 ∧ ∀ j p, l[j]? = some p → (j < i → Kd.FK k104 W (fun k => N ≤ k ∧ k ≠ g) p ((inner.drop (j * 5)).take 5)) ∧ (i ≤ j → Kd.FK k104 w (fun k => k < w.heap.size) p ((inner.drop (j * 5)).take 5))
def small (l : List S104) : Bool := decide (l.length ≤ 1000000) && l.all fun p => decide (p.f4.length ≤ 1000000)
theorem own_at {w : World} {base g n cap : Nat} {e : TypeId} {size : Nat} {xs : List Value} (h : w.ownsRow base e size (.slice (some ⟨g, 0, none⟩) n cap) n xs) : base ≤ g ∧ n ≤ cap ∧ (∀ j u, xs[j]? = some u → w.cell? ⟨g, j, none⟩ = some u) ∧ (∀ j, w.frozen? ⟨g, j, none⟩ = false) := by
  rcases h.2 with ⟨e, _⟩ | ⟨g', cap', cur, e, hg, hh, hc, hm, hs, ht⟩
  · cases e
  · injection e with e1 _ e2
    injection e1 with e1
    injection e1 with e1 _ _
    subst e1 e2
    refine ⟨hg, hc, fun j u hj => ?_, fun j => blk_frozen hh j⟩
    rw [blk_cell hh]
    rw [← ht] at hj
    have hlt : j < (cur.toList.take (n * size)).length := (List.getElem?_eq_some_iff.1 hj).1
    rw [List.length_take] at hlt
    rw [List.getElem?_take_of_lt (by omega)] at hj
    rw [← Array.getElem?_toList]
    exact hj
theorem own_put {w : World} {base g n cap : Nat} {e : TypeId} {size : Nat} {xs : List Value} (h : w.ownsRow base e size (.slice (some ⟨g, 0, none⟩) n cap) n xs) (p : Nat) (u : Value) : (w.setCell ⟨g, p, none⟩ u).ownsRow base e size (.slice (some ⟨g, 0, none⟩) n cap) n (xs.set p u) := by
  rcases h.2 with ⟨e, _⟩ | ⟨g', cap', cur, e, hg, hh, hc, hm, hs, ht⟩
  · cases e
  · injection e with e1 _ e2
    injection e1 with e1
    injection e1 with e1 _ _
    subst e1 e2
    refine ⟨by rw [List.length_set]; exact h.1, .inr ⟨g, cap, cur.setIfInBounds p u, rfl, hg, blk_put hh p u rfl, hc, hm, by rw [Array.size_setIfInBounds]; exact hs, ?_⟩⟩
    rw [Array.toList_setIfInBounds, ← ht, List.take_set]
theorem row_new {w : World} {g : Nat} {t : TypeId} {old cs : Array Value} (h : w.heap[g]? = some (.cells old t (0, 0))) : (w.setRow g cs).heap[g]? = some (.cells cs t (0, 0)) := by
  simp [World.setRow, Array.getElem?_modify, h]
theorem row_far {w : World} {g k : Nat} {cs : Array Value} (h : k ≠ g) : (w.setRow g cs).heap[k]? = w.heap[k]? := by
  simp only [World.setRow, Array.getElem?_modify]
  rw [if_neg (by omega)]
theorem row_bel {w W : World} {g : Nat} {cs : Array Value} (h : Below w.heap.size w W) (hg : w.heap.size ≤ g) : Below w.heap.size w (W.setRow g cs) :=
  h.trans ⟨rfl, rfl, rfl, by rw [size_setRow]; exact Nat.le_refl _, fun k hk => row_far (by omega)⟩
theorem set_off {inn : List Value} {i j : Nat} {u : Value} (h : j ≠ i) : ((inn.set (i * 5 + 4) u).drop (j * 5)).take 5 = (inn.drop (j * 5)).take 5 := by
  apply List.ext_getElem?
  intro q
  rw [List.getElem?_take, List.getElem?_take]
  split
  · rw [List.getElem?_drop, List.getElem?_drop, List.getElem?_set_ne (by omega)]
  · rfl
theorem set_on {inn : List Value} {i : Nat} {u a b c d e : Value} (h : (inn.drop (i * 5)).take 5 = [a, b, c, d, e]) : ((inn.set (i * 5 + 4) u).drop (i * 5)).take 5 = [a, b, c, d, u] := by
  have h1 : ((inn.set (i * 5 + 4) u).drop (i * 5)).take 5 = ((inn.drop (i * 5)).take 5).set 4 u := by
    apply List.ext_getElem?
    intro q
    have hl := congrArg List.length h
    rw [List.length_take, List.length_drop] at hl
    simp only [List.length_cons, List.length_nil] at hl
    rw [List.getElem?_take]
    split
    · rename_i hq
      rw [List.getElem?_drop]
      by_cases e : q = 4
      · subst e
        rw [List.getElem?_set_self (by omega), List.getElem?_set_self (by rw [h]; simp)]
      · rw [List.getElem?_set_ne (by omega), List.getElem?_set_ne (by omega), List.getElem?_take, if_pos hq, List.getElem?_drop]
    · rename_i hq
      rw [List.getElem?_eq_none (by rw [List.length_set, h]; simp; omega)]
  rw [h1, h]
  rfl
theorem cell_far {W : World} {a i : Nat} {v : Value} (h : W.cell? ⟨a, i, none⟩ = some v) {g p : Nat} {u : Value} (hne : a ≠ g) : (W.setCell ⟨g, p, none⟩ u).cell? ⟨a, i, none⟩ = some v :=
  (World.cell?_of_block (Below.heap_setCell W ⟨g, p, none⟩ u a hne)).trans h
set_option maxHeartbeats 8000000 in
set_option maxRecDepth 100000 in
theorem placed_calls (g : Nat) (cb : Array Value) (eg : ∀ args w, (callFunc g args).run Try.prog w = .ok (.enter g args) w) (nm : ByteArray) (k ax x y z lo hi : Int) (A : Option Addr) (c : Nat) (l : List S104) (x' y' z' : Int) (w : World)
    (hr : Kd.C k104 w A l.length l) (hc : l.length ≤ c) (hsm : small l = true)
    (hf : ∀ W, Below w.heap.size w W → Calls Try.prog g (#[.agg (v3 x y z)] ++ cb) W fun e W' => e = .returned (.agg (v3 x' y' z')) ∧ Below W.heap.size W W') :
    Calls Try.prog 94 #[.agg (ftV nm k ax x y z lo hi A l.length c), .func (.func g) #[] cb] w fun e w' => ∃ A' c', e = .returned (.agg (ftV nm k ax x' y' z' lo hi A' l.length c')) ∧ l.length ≤ c' ∧ Kd.F k104 w' (fun k_ => w.heap.size ≤ k_) A' l.length l ∧ Below w.heap.size w w' := by
  have hu28 := Try.underlying28
  have hu23 := Try.underlying23
  have hu26 := Try.underlying26
  have HF := Aside0.mk hf
  have HR := Aside0.mk hr
  have hsm1 : l.length ≤ 1000000 := by
    simp only [small, Bool.and_eq_true, decide_eq_true_eq] at hsm; exact hsm.1
  have HS := Aside0.mk hsm
  clear hf hr hsm
  go_enter Try.func94, Try.ntmps94
  go_upto_region 1 with (fail)
  have hs1 := heap2o w (.cells (ftV nm k ax x y z lo hi A l.length c) 28) (.cells ft0 28)
  have hs2 := heap2 w (.cells (ftV nm k ax x y z lo hi A l.length c) 28) (.cells ft0 28)
  have hB := bel2 w (.cells (ftV nm k ax x y z lo hi A l.length c) 28) (.cells ft0 28)
  generalize (w.alloc (.cells (ftV nm k ax x y z lo hi A l.length c) 28)).alloc (.cells ft0 28) = W1 at *
  have c3 := (blk_cell hs1 3).trans (rfl : _ = some (Value.int .i64 x))
  have c4 := (blk_cell hs1 4).trans (rfl : _ = some (Value.int .i64 y))
  have c5 := (blk_cell hs1 5).trans (rfl : _ = some (Value.int .i64 z))
  go_wp2_with (go_at_call 103; refine (coord_calls _ _ _ _).mono ?_; rintro e w' ⟨rfl, hb⟩; have hs1' := blk_below hs1 hb; have hs2' := blk_below hs2 hb; have hB' := below_step hB hb; clear hb hs1 hs2 hB c3 c4 c5; have hcall := HF.out w' hB')
  refine hcall.mono ?_
  clear hcall
  rintro e w2 ⟨rfl, hb⟩
  have hs1 := blk_below hs1' hb
  have hs2 := blk_below hs2' hb
  have hB := below_step hB' hb
  clear hb hs1' hs2' hB'
  go_wp2_with (go_at_call 124; refine (spot_calls _ _ _ _).mono ?_; rintro e w3 ⟨rfl, hb⟩; have hs1' := blk_below hs1 hb; have hs2' := blk_below hs2 hb; have hB' := below_step hB hb; clear hb hs1 hs2 hB; have c3 := (blk_cell hs1' 3).trans (rfl : _ = some (Value.int .i64 x)); have c4 := (blk_cell hs1' 4).trans (rfl : _ = some (Value.int .i64 y)); have c5 := (blk_cell hs1' 5).trans (rfl : _ = some (Value.int .i64 z)); have f3 := blk_frozen hs1' 3; have f4 := blk_frozen hs1' 4; have f5 := blk_frozen hs1' 5; have c8 := (blk_cell hs1' 8).trans (rfl : _ = some (Value.slice A l.length c)))
  have hs3 := blk_put (blk_put (blk_put hs1' 3 (.int .i64 x') rfl) 4 (.int .i64 y') rfl) 5 (.int .i64 z') rfl
  have hs4 : (((w3.setCell ⟨w.heap.size, 3, none⟩ (.int .i64 x')).setCell ⟨w.heap.size, 4, none⟩ (.int .i64 y')).setCell ⟨w.heap.size, 5, none⟩ (.int .i64 z')).heap[w.heap.size + 1]? = some (.cells ft0 28 (0, 0)) :=
    (Below.heap_setCell _ _ _ _ (by show w.heap.size + 1 ≠ w.heap.size; omega)).trans ((Below.heap_setCell _ _ _ _ (by show w.heap.size + 1 ≠ w.heap.size; omega)).trans ((Below.heap_setCell _ _ _ _ (by show w.heap.size + 1 ≠ w.heap.size; omega)).trans hs2'))
  have hB4 := below_set (j := 5) (v := .int .i64 z') (below_set (j := 4) (v := .int .i64 y') (below_set (j := 3) (v := .int .i64 x') hB' (Nat.le_refl _)) (Nat.le_refl _)) (Nat.le_refl _)
  clear hs1' hs2' hB' c3 c4 c5 f3 f4 f5 c8
  generalize ((w3.setCell ⟨w.heap.size, 3, none⟩ (.int .i64 x')).setCell ⟨w.heap.size, 4, none⟩ (.int .i64 y')).setCell ⟨w.heap.size, 5, none⟩ (.int .i64 z') = W4 at *
  obtain ⟨inner, hreps, hcell, h0⟩ : ∃ inner, Reps (k104.K w) 5 l inner ∧ (∀ ad, A = some ad → ∀ j u, inner[j]? = some u → w.cell? (ad.add j) = some u) ∧ (A = none → l.length = 0) := by
    cases A with
    | none =>
      have h0 : l = [] := by
        rcases Nat.eq_zero_or_pos l.length with g | g
        · exact List.length_eq_zero_iff.1 g
        · obtain ⟨ad, e, _⟩ := HR.out.2.2 g; cases e
      subst h0
      exact ⟨[], Reps.none _ _, fun ad e => (by cases e), fun _ => rfl⟩
    | some ad =>
      obtain ⟨inner, h1, h2⟩ := ReadsRow.inner_ HR.out
      exact ⟨inner, h1, fun ad' e => by cases e; exact h2, fun e => by cases e⟩
  have hlt4 : w.heap.size + 2 ≤ W4.heap.size := (Array.getElem?_eq_some_iff.1 hs4).1
  have hmix : ∀ g, Mix (w.heap.size + 2) g w w 0 l inner := fun g => ⟨hreps.1, fun j p hj => ⟨fun h => absurd h (Nat.not_lt_zero _), fun _ W' hW => k104_heap.K (fun k hlt => hW k hlt hlt) (hreps.2 j p hj)⟩⟩
  refine (clone104_calls A c l.length inner W4 hreps.1 (Reps.one' hreps (by decide) (fun _ _ hk => k104.K_one hk)) (fun ad e j u hj => pw_cell_below hB4 (hcell ad e j u hj)) h0 hsm1).mono ?_
  clear hcell h0 hreps
  rintro e w5 ⟨v', rfl, ho, hb⟩
  have ho2 := own_weaken ho hlt4
  have hs5 := blk_below hs3 hb
  have hs6 := blk_below hs4 hb
  have hB5 := below_step hB4 hb
  clear ho hs3 hs4 hb hB4
  have c8 := (blk_cell hs5 8).trans (rfl : _ = some (Value.slice A l.length c))
  have f8 := blk_frozen hs5 8
  obtain ⟨A', c', rfl⟩ := own_slice ho2
  have HO := Aside0.mk ho2
  have HM := Aside0.mk hmix
  clear ho2 hmix
  go_upto_region 3 with (fail)
  have hs7 := blk_put hs5 8 (.slice A' l.length c') rfl
  have hs8 : (w5.setCell ⟨w.heap.size, 8, none⟩ (.slice A' l.length c')).heap[w.heap.size + 1]? = some (.cells ft0 28 (0, 0)) := (Below.heap_setCell _ _ _ _ (by show w.heap.size + 1 ≠ w.heap.size; omega)).trans hs6
  have hB6 := below_set (j := 8) (v := .slice A' l.length c') hB5 (Nat.le_refl _)
  have HO2 := Aside0.mk (own_move (w1 := w5.setCell ⟨w.heap.size, 8, none⟩ (.slice A' l.length c')) HO.out (fun k hk => Below.heap_setCell _ _ _ _ (by have := own_base HO.out k hk; show k ≠ w.heap.size; omega)))
  clear hs5 hs6 hB5 HO c8 f8
  generalize w5.setCell ⟨w.heap.size, 8, none⟩ (.slice A' l.length c') = W6 at *
  have c8 := (blk_cell hs7 8).trans (rfl : _ = some (Value.slice A' l.length c'))
  go_wp2
  obtain ⟨gg, hgg⟩ : ∃ gg, 0 < l.length → A' = some ⟨gg, 0, none⟩ := by
    rcases HO2.out.2 with ⟨e, h0⟩ | ⟨gg, cap, cur, e, _⟩
    · exact ⟨0, fun h => by omega⟩
    · injection e with e _ _
      exact ⟨gg, fun _ => e⟩
  have HG := Aside0.mk hgg
  clear hgg c8
  go_loopg [21] l.length (fun kx s21 wr => ∃ (i : Nat) (inn : List Value), i ≤ l.length ∧ s21 = .int .i64 i ∧ l.length - i ≤ kx ∧ wr.heap[w.heap.size]? = some (.cells (ftV nm k ax x' y' z' lo hi A' l.length c') 28 (0, 0)) ∧ wr.heap[w.heap.size + 1]? = some (.cells ft0 28 (0, 0)) ∧ Below w.heap.size w wr ∧ Aside0 (wr.ownsRow (w.heap.size + 2) 104 5 (.slice A' l.length c') l.length inn) ∧ Aside0 (Mix (w.heap.size + 2) gg w wr i l inn))
  case atStart => exact ⟨0, inner, Nat.zero_le _, rfl, by omega, hs7, hs8, hB6, HO2, ⟨(HM.out gg).1, fun j p hj => ⟨fun h => absurd h (Nat.not_lt_zero _), ((HM.out gg).2 j p hj).2⟩⟩⟩
  case round =>
    obtain ⟨i, inn, hin, rfl, hk, k1, k2, kB, HOi, HMi⟩ := hrel
    clear hs7 hs8 hB6 HO2 HM
    have c8 := (blk_cell k1 8).trans (rfl : _ = some (Value.slice A' l.length c'))
    by_cases hlt : i < l.length
    · obtain rfl := HG.out (by omega)
      obtain ⟨hge, hnc, hcl, hfr⟩ := own_at HOi.out
      obtain ⟨p, hp⟩ : ∃ p, l[i]? = some p := ⟨_, List.getElem?_eq_getElem hlt⟩
      have hK : k104.K wr p ((inn.drop (i * 5)).take 5) := ((HMi.out.2 i p hp).2 (Nat.le_refl _)) wr (fun k hk _ => kB.block k hk)
      obtain ⟨A4, c4, e5, l4, g4⟩ := k104_open hK
      have hq : ∀ q u, [Value.int .i64 p.f0, .bool p.f1, .int .i64 p.f2, .int .i64 p.f3, .slice A4 p.f4.length c4][q]? = some u → inn[i * 5 + q]? = some u := by
        intro q u hu
        rw [← e5, List.getElem?_take] at hu
        split at hu
        · rwa [List.getElem?_drop] at hu
        · cases hu
      have x0 : wr.cell? ⟨gg, i * 5, none⟩ = some (.int .i64 p.f0) := hcl _ _ (hq 0 _ rfl)
      have x1 := hcl _ _ (hq 1 _ rfl)
      have x2 := hcl _ _ (hq 2 _ rfl)
      have x3 := hcl _ _ (hq 3 _ rfl)
      have x4 := hcl _ _ (hq 4 _ rfl)
      have z4 := hfr (i * 5 + 4)
      have s4 : p.f4.length ≤ 1000000 := by
        have h := HS.out
        simp only [small, Bool.and_eq_true, List.all_eq_true, decide_eq_true_eq] at h
        exact h.2 p (List.mem_of_getElem? hp)
      have hq4 := hq 4 _ rfl
      clear hcl hfr hq hK
      have hii : (i : Int) < (l.length : Int) := by omega
      go_upto_region 6 with (fail)
      clear x0 x1 x2 x3 x4 z4 c8
      have hsr : w.heap.size + 2 ≤ wr.heap.size := (Array.getElem?_eq_some_iff.1 k2).1
      have hgr : gg < wr.heap.size := by
        rcases HOi.out.2 with ⟨e, _⟩ | ⟨g', cap', cur, e, hg, hh, _⟩
        · cases e
        · injection e with e1 _ _
          injection e1 with e1
          injection e1 with e1 _ _
          exact e1 ▸ (Array.getElem?_eq_some_iff.1 hh).1
      have hx := blk_new wr (.cells #[.int .i64 p.f0, .bool p.f1, .int .i64 p.f2, .int .i64 p.f3, .slice A4 p.f4.length c4] 104)
      have k1' := blk_alloc k1 (.cells #[.int .i64 p.f0, .bool p.f1, .int .i64 p.f2, .int .i64 p.f3, .slice A4 p.f4.length c4] 104)
      have k2' := blk_alloc k2 (.cells #[.int .i64 p.f0, .bool p.f1, .int .i64 p.f2, .int .i64 p.f3, .slice A4 p.f4.length c4] 104)
      have kW := bel1 wr (.cells #[.int .i64 p.f0, .bool p.f1, .int .i64 p.f2, .int .i64 p.f3, .slice A4 p.f4.length c4] 104)
      generalize wr.alloc (.cells #[.int .i64 p.f0, .bool p.f1, .int .i64 p.f2, .int .i64 p.f3, .slice A4 p.f4.length c4] 104) = Wx at *
      have G4 := Aside0.mk (Kd.C_below g4 kW)
      have HO' := Aside0.mk (pw_own_below HOi.out kW)
      clear g4
      have c8 := (blk_cell k1' 8).trans (rfl : _ = some (Value.slice (some ⟨gg, 0, none⟩) l.length c'))
      have y4 := (blk_cell hx 4).trans (rfl : _ = some (Value.slice A4 p.f4.length c4))
      go_region_held3 (fun w' => w'.cell? ⟨w.heap.size, 8, none⟩ = some (.slice (some ⟨gg, 0, none⟩) l.length c') ∧ w'.cell? ⟨wr.heap.size, 4, none⟩ = some (.slice A4 p.f4.length c4)) (first | exact ⟨c8, y4⟩ | exact ⟨cell_on hb c8, cell_on hb y4⟩ | exact ⟨cell_far (cell_on hb c8) (by omega), cell_far (cell_on hb y4) (by omega)⟩) (first | (go_at_call 126; refine (clone106_calls A4 c4 p.f4 _ (Kd.C_drew G4.out) l4 s4).mono ?_; rintro e w' ⟨A6, c6, rfl, l6, F6, hb⟩; have x4 := (own_at (pw_own_below (w := Wx.drew) HO'.out hb)).2.2.1 _ _ (hq4); have z4 := (own_at (pw_own_below (w := Wx.drew) HO'.out hb)).2.2.2 (i * 5 + 4)))
      go_wp2
      go_roundg (l.length - (i + 1))
      case measure => omega
      case rel =>
        have own' := pw_own_below (w := Wx.drew) HO'.out hb
        have hgx : gg < Wx.heap.size ∧ w.heap.size + 2 ≤ Wx.heap.size := ⟨Nat.lt_of_lt_of_le hgr kW.size, Nat.le_trans hsr kW.size⟩
        refine ⟨i + 1, inn.set (i * 5 + 4) (.slice A6 p.f4.length c6), by omega, rfl, Nat.le_refl _, ?_, ?_, ?_, ⟨own_put own' _ _⟩, ⟨by rw [List.length_set]; exact HMi.out.1, fun j p' hj => ⟨fun hjl => ?_, fun hjl => ?_⟩⟩⟩
        · exact (Below.heap_setCell _ _ _ _ (by show w.heap.size ≠ gg; omega)).trans (blk_below (w := Wx.drew) k1' hb)
        · exact (Below.heap_setCell _ _ _ _ (by show w.heap.size + 1 ≠ gg; omega)).trans (blk_below (w := Wx.drew) k2' hb)
        · exact below_set (below_step (w := w) (W := Wx.drew) (below_drew1 (below_step kB kW)) hb) (by omega)
        · rcases Nat.lt_or_ge j i with g | g
          · rw [set_off (by omega)]
            have h1 := (HMi.out.2 j p' hj).1 g
            have h2 : Kd.FK k104 w' (fun k => w.heap.size + 2 ≤ k ∧ k ≠ gg) p' ((inn.drop (j * 5)).take 5) := Kd.FK_below (Kd.FK_step (W1 := Wx.drew) h1 (fun k _ hlt => kW.block k hlt)) hb
            exact Kd.FK_step h2 (fun k hk _ => Below.heap_setCell _ _ _ _ hk.2)
          · obtain rfl : j = i := by omega
            rw [hp] at hj
            obtain rfl := Option.some.inj hj
            rw [set_on e5]
            exact k104_mkF _ _ _ l6 (Kd.F_far (Kd.F_mono F6 (fun k hk => ⟨Nat.le_trans hgx.2 hk, by have : Wx.heap.size ≤ k := hk; omega⟩)) (fun k hk => hk.2) _)
        · rw [set_off (by omega)]
          exact (HMi.out.2 j p' hj).2 (by omega)
    · obtain rfl : i = l.length := by omega
      go_wp2_with (first | ((with_reducible refine gate_dst (N := 35) rfl ?_); refine wpList_load_row rfl 28 (.tmp 2) rfl w.heap.size rfl 28 (ftV nm k ax x' y' z' lo hi A' l.length c') (0, 0) _ k1 Try.underlying28 rfl (by kernel_rfl) ?_) | ((with_reducible refine gate_store (t := 28) (p := 4) rfl ?_); refine wpList_store_row rfl 28 (.tmp 4) (.tmp 35) rfl (w.heap.size + 1) (ftV nm k ax x' y' z' lo hi A' l.length c') rfl rfl 28 ft0 k2 (by kernel_rfl) rfl (by simp [Value.oneCell']) ?_))
      refine bodyPost_ret (results_cell_row rfl _ _ (w.heap.size + 1) 28 (ftV nm k ax x' y' z' lo hi A' l.length c') (0, 0) _ rfl (row_new k2) Try.underlying28 rfl (by kernel_rfl)) rfl ?_
      obtain ⟨A8, c9, e8, h8, F8⟩ := F_of_own (d := k104) HR.out.2.1 HOi.out ⟨HMi.out.1, fun j p hj => Kd.FK_mono ((HMi.out.2 j p hj).1 (List.getElem?_eq_some_iff.1 hj).1) (fun k hk => hk.1)⟩
      injection e8 with e8 _ e9
      subst e8 e9
      refine ⟨A', c', rfl, h8, ?_, ?_⟩
      · refine Kd.F_mono (ok := fun k => w.heap.size + 2 ≤ k) ?_ (fun k hk => by omega)
        exact Kd.F_step F8 (fun k hk _ => row_far (by omega))
      · exact row_bel kB (by omega)
end Go.Proofs.Ytkgdlbepjmgaiaa.Fea
set_option linter.unusedVariables false
set_option linter.unusedSimpArgs false
namespace Go.Proofs.Ytkgdlbepjmgaiaa.Fea
open Go.RowKit Go.Proofs.YtkgdlbepjmgaiaaW.PrintWords Go.Proofs.YtkgdlbepjmgaiaaW.PrintLast Go.Proofs.YtkgdlbepjmgaiaaW.PrintMore
def turn3 (x y z a : Int) : Int × Int × Int := if a = 0 then (x, -z, y) else if a = 1 then (z, y, -x) else (-y, x, z)
def mir3 (x y z a : Int) : Int × Int × Int := if a = 0 then (-x, y, z) else if a = 1 then (x, -y, z) else (x, y, -z)
set_option maxHeartbeats 8000000 in
set_option maxRecDepth 100000 in
theorem turn1_0 (bl bn : Nat) (x y z : Int) (W : World) (hbl : W.cell? ⟨bl, 0, none⟩ = some (.int .i64 2)) (hbn : W.cell? ⟨bn, 0, none⟩ = some (.int .i64 1)) (rx : -100000 ≤ x ∧ x ≤ 100000) (ry : -100000 ≤ y ∧ y ≤ 100000) (rz : -100000 ≤ z ∧ z ≤ 100000) :
    Calls Try.prog 95 (#[.agg (v3 x y z)] ++ #[.pointer (some ⟨bl, 0, none⟩), .pointer (some ⟨bn, 0, none⟩)]) W fun e w' => e = .returned (.agg (v3 (x) (-z) (y))) ∧ Below W.heap.size W w' := by
  have hu128 := Try.underlying128
  have ez : IntKind.i64.wrap (-z) = -z := IntWalk.i64_in _ (by omega)
  have kbl : bl < W.heap.size := World.block_lt_of_cell? _ _ hbl
  have kbn : bn < W.heap.size := World.block_lt_of_cell? _ _ hbn
  clear rx ry rz
  go_enter Try.func95, Try.ntmps95
  go_upto_region 1 with (fail)
  have gbl := cell_alloc (cell_alloc hbl (.cells (v3 x y z) 128)) (.cells #[.int .i64 0, .int .i64 0, .int .i64 0] 128)
  have gbn := cell_alloc (cell_alloc hbn (.cells (v3 x y z) 128)) (.cells #[.int .i64 0, .int .i64 0, .int .i64 0] 128)
  have hc1 := heap2o W (.cells (v3 x y z) 128) (.cells #[.int .i64 0, .int .i64 0, .int .i64 0] 128)
  have hc2 := heap2 W (.cells (v3 x y z) 128) (.cells #[.int .i64 0, .int .i64 0, .int .i64 0] 128)
  have hB := bel2 W (.cells (v3 x y z) 128) (.cells #[.int .i64 0, .int .i64 0, .int .i64 0] 128)
  have nbl : bl ≠ W.heap.size := by omega
  have nbn : bn ≠ W.heap.size := by omega
  generalize (W.alloc (.cells (v3 x y z) 128)).alloc (.cells #[.int .i64 0, .int .i64 0, .int .i64 0] 128) = W1 at *
  have d0 := (blk_cell hc1 0).trans (rfl : _ = some (Value.int .i64 x))
  have z0 := blk_frozen hc1 0
  have d1 := (blk_cell hc1 1).trans (rfl : _ = some (Value.int .i64 y))
  have z1 := blk_frozen hc1 1
  have d2 := (blk_cell hc1 2).trans (rfl : _ = some (Value.int .i64 z))
  have z2 := blk_frozen hc1 2
  go_region
  have hc1' : ((W1.setCell ⟨W.heap.size, 1, none⟩ (.int .i64 (-z))).setCell ⟨W.heap.size, 2, none⟩ (.int .i64 (y))).drew.heap[W.heap.size]? = some (.cells (v3 (x) (-z) (y)) 128 (0, 0)) := (blk_put (blk_put hc1 1 _ rfl) 2 _ rfl)
  have hc2' : ((W1.setCell ⟨W.heap.size, 1, none⟩ (.int .i64 (-z))).setCell ⟨W.heap.size, 2, none⟩ (.int .i64 (y))).drew.heap[W.heap.size + 1]? = some (.cells #[.int .i64 0, .int .i64 0, .int .i64 0] 128 (0, 0)) := ((Below.heap_setCell _ _ _ _ (by show W.heap.size + 1 ≠ W.heap.size; omega)).trans ((Below.heap_setCell _ _ _ _ (by show W.heap.size + 1 ≠ W.heap.size; omega)).trans hc2))
  have hB' : Below W.heap.size W ((W1.setCell ⟨W.heap.size, 1, none⟩ (.int .i64 (-z))).setCell ⟨W.heap.size, 2, none⟩ (.int .i64 (y))).drew := below_drew1 (below_set (below_set hB (Nat.le_refl _)) (Nat.le_refl _))
  generalize ((W1.setCell ⟨W.heap.size, 1, none⟩ (.int .i64 (-z))).setCell ⟨W.heap.size, 2, none⟩ (.int .i64 (y))).drew = W2 at *
  have p0 := (blk_cell hc1' 0).trans (rfl : _ = some (Value.int .i64 (x)))
  have q0 := (blk_cell hc2' 0).trans (rfl : _ = some (Value.int .i64 0))
  have u0 := blk_frozen hc2' 0
  have p1 := (blk_cell hc1' 1).trans (rfl : _ = some (Value.int .i64 (-z)))
  have q1 := (blk_cell hc2' 1).trans (rfl : _ = some (Value.int .i64 0))
  have u1 := blk_frozen hc2' 1
  have p2 := (blk_cell hc1' 2).trans (rfl : _ = some (Value.int .i64 (y)))
  have q2 := (blk_cell hc2' 2).trans (rfl : _ = some (Value.int .i64 0))
  have u2 := blk_frozen hc2' 2
  clear gbl hbl gbn hbn d0 d1 d2 z0 z1 z2
  go_wp2
  refine bodyPost_ret (results_cell_row rfl _ _ (W.heap.size + 1) 128 (v3 (x) (-z) (y)) (0, 0) _ rfl (blk_put (blk_put (blk_put hc2' 0 _ rfl) 1 _ rfl) 2 _ rfl) Try.underlying128 rfl (by kernel_rfl)) rfl ?_
  exact ⟨rfl, below_set (below_set (below_set hB' (by omega)) (by omega)) (by omega)⟩
set_option maxHeartbeats 8000000 in
set_option maxRecDepth 100000 in
theorem turn1_1 (bl bn : Nat) (x y z : Int) (W : World) (hbl : W.cell? ⟨bl, 0, none⟩ = some (.int .i64 0)) (hbn : W.cell? ⟨bn, 0, none⟩ = some (.int .i64 2)) (rx : -100000 ≤ x ∧ x ≤ 100000) (ry : -100000 ≤ y ∧ y ≤ 100000) (rz : -100000 ≤ z ∧ z ≤ 100000) :
    Calls Try.prog 95 (#[.agg (v3 x y z)] ++ #[.pointer (some ⟨bl, 0, none⟩), .pointer (some ⟨bn, 0, none⟩)]) W fun e w' => e = .returned (.agg (v3 (z) (y) (-x))) ∧ Below W.heap.size W w' := by
  have hu128 := Try.underlying128
  have ex : IntKind.i64.wrap (-x) = -x := IntWalk.i64_in _ (by omega)
  have kbl : bl < W.heap.size := World.block_lt_of_cell? _ _ hbl
  have kbn : bn < W.heap.size := World.block_lt_of_cell? _ _ hbn
  clear rx ry rz
  go_enter Try.func95, Try.ntmps95
  go_upto_region 1 with (fail)
  have gbl := cell_alloc (cell_alloc hbl (.cells (v3 x y z) 128)) (.cells #[.int .i64 0, .int .i64 0, .int .i64 0] 128)
  have gbn := cell_alloc (cell_alloc hbn (.cells (v3 x y z) 128)) (.cells #[.int .i64 0, .int .i64 0, .int .i64 0] 128)
  have hc1 := heap2o W (.cells (v3 x y z) 128) (.cells #[.int .i64 0, .int .i64 0, .int .i64 0] 128)
  have hc2 := heap2 W (.cells (v3 x y z) 128) (.cells #[.int .i64 0, .int .i64 0, .int .i64 0] 128)
  have hB := bel2 W (.cells (v3 x y z) 128) (.cells #[.int .i64 0, .int .i64 0, .int .i64 0] 128)
  have nbl : bl ≠ W.heap.size := by omega
  have nbn : bn ≠ W.heap.size := by omega
  generalize (W.alloc (.cells (v3 x y z) 128)).alloc (.cells #[.int .i64 0, .int .i64 0, .int .i64 0] 128) = W1 at *
  have d0 := (blk_cell hc1 0).trans (rfl : _ = some (Value.int .i64 x))
  have z0 := blk_frozen hc1 0
  have d1 := (blk_cell hc1 1).trans (rfl : _ = some (Value.int .i64 y))
  have z1 := blk_frozen hc1 1
  have d2 := (blk_cell hc1 2).trans (rfl : _ = some (Value.int .i64 z))
  have z2 := blk_frozen hc1 2
  go_region
  have hc1' : ((W1.setCell ⟨W.heap.size, 2, none⟩ (.int .i64 (-x))).setCell ⟨W.heap.size, 0, none⟩ (.int .i64 (z))).drew.heap[W.heap.size]? = some (.cells (v3 (z) (y) (-x)) 128 (0, 0)) := (blk_put (blk_put hc1 2 _ rfl) 0 _ rfl)
  have hc2' : ((W1.setCell ⟨W.heap.size, 2, none⟩ (.int .i64 (-x))).setCell ⟨W.heap.size, 0, none⟩ (.int .i64 (z))).drew.heap[W.heap.size + 1]? = some (.cells #[.int .i64 0, .int .i64 0, .int .i64 0] 128 (0, 0)) := ((Below.heap_setCell _ _ _ _ (by show W.heap.size + 1 ≠ W.heap.size; omega)).trans ((Below.heap_setCell _ _ _ _ (by show W.heap.size + 1 ≠ W.heap.size; omega)).trans hc2))
  have hB' : Below W.heap.size W ((W1.setCell ⟨W.heap.size, 2, none⟩ (.int .i64 (-x))).setCell ⟨W.heap.size, 0, none⟩ (.int .i64 (z))).drew := below_drew1 (below_set (below_set hB (Nat.le_refl _)) (Nat.le_refl _))
  generalize ((W1.setCell ⟨W.heap.size, 2, none⟩ (.int .i64 (-x))).setCell ⟨W.heap.size, 0, none⟩ (.int .i64 (z))).drew = W2 at *
  have p0 := (blk_cell hc1' 0).trans (rfl : _ = some (Value.int .i64 (z)))
  have q0 := (blk_cell hc2' 0).trans (rfl : _ = some (Value.int .i64 0))
  have u0 := blk_frozen hc2' 0
  have p1 := (blk_cell hc1' 1).trans (rfl : _ = some (Value.int .i64 (y)))
  have q1 := (blk_cell hc2' 1).trans (rfl : _ = some (Value.int .i64 0))
  have u1 := blk_frozen hc2' 1
  have p2 := (blk_cell hc1' 2).trans (rfl : _ = some (Value.int .i64 (-x)))
  have q2 := (blk_cell hc2' 2).trans (rfl : _ = some (Value.int .i64 0))
  have u2 := blk_frozen hc2' 2
  clear gbl hbl gbn hbn d0 d1 d2 z0 z1 z2
  go_wp2
  refine bodyPost_ret (results_cell_row rfl _ _ (W.heap.size + 1) 128 (v3 (z) (y) (-x)) (0, 0) _ rfl (blk_put (blk_put (blk_put hc2' 0 _ rfl) 1 _ rfl) 2 _ rfl) Try.underlying128 rfl (by kernel_rfl)) rfl ?_
  exact ⟨rfl, below_set (below_set (below_set hB' (by omega)) (by omega)) (by omega)⟩
set_option maxHeartbeats 8000000 in
set_option maxRecDepth 100000 in
theorem turn1_2 (bl bn : Nat) (x y z : Int) (W : World) (hbl : W.cell? ⟨bl, 0, none⟩ = some (.int .i64 1)) (hbn : W.cell? ⟨bn, 0, none⟩ = some (.int .i64 0)) (rx : -100000 ≤ x ∧ x ≤ 100000) (ry : -100000 ≤ y ∧ y ≤ 100000) (rz : -100000 ≤ z ∧ z ≤ 100000) :
    Calls Try.prog 95 (#[.agg (v3 x y z)] ++ #[.pointer (some ⟨bl, 0, none⟩), .pointer (some ⟨bn, 0, none⟩)]) W fun e w' => e = .returned (.agg (v3 (-y) (x) (z))) ∧ Below W.heap.size W w' := by
  have hu128 := Try.underlying128
  have ey : IntKind.i64.wrap (-y) = -y := IntWalk.i64_in _ (by omega)
  have kbl : bl < W.heap.size := World.block_lt_of_cell? _ _ hbl
  have kbn : bn < W.heap.size := World.block_lt_of_cell? _ _ hbn
  clear rx ry rz
  go_enter Try.func95, Try.ntmps95
  go_upto_region 1 with (fail)
  have gbl := cell_alloc (cell_alloc hbl (.cells (v3 x y z) 128)) (.cells #[.int .i64 0, .int .i64 0, .int .i64 0] 128)
  have gbn := cell_alloc (cell_alloc hbn (.cells (v3 x y z) 128)) (.cells #[.int .i64 0, .int .i64 0, .int .i64 0] 128)
  have hc1 := heap2o W (.cells (v3 x y z) 128) (.cells #[.int .i64 0, .int .i64 0, .int .i64 0] 128)
  have hc2 := heap2 W (.cells (v3 x y z) 128) (.cells #[.int .i64 0, .int .i64 0, .int .i64 0] 128)
  have hB := bel2 W (.cells (v3 x y z) 128) (.cells #[.int .i64 0, .int .i64 0, .int .i64 0] 128)
  have nbl : bl ≠ W.heap.size := by omega
  have nbn : bn ≠ W.heap.size := by omega
  generalize (W.alloc (.cells (v3 x y z) 128)).alloc (.cells #[.int .i64 0, .int .i64 0, .int .i64 0] 128) = W1 at *
  have d0 := (blk_cell hc1 0).trans (rfl : _ = some (Value.int .i64 x))
  have z0 := blk_frozen hc1 0
  have d1 := (blk_cell hc1 1).trans (rfl : _ = some (Value.int .i64 y))
  have z1 := blk_frozen hc1 1
  have d2 := (blk_cell hc1 2).trans (rfl : _ = some (Value.int .i64 z))
  have z2 := blk_frozen hc1 2
  go_region
  have hc1' : ((W1.setCell ⟨W.heap.size, 0, none⟩ (.int .i64 (-y))).setCell ⟨W.heap.size, 1, none⟩ (.int .i64 (x))).drew.heap[W.heap.size]? = some (.cells (v3 (-y) (x) (z)) 128 (0, 0)) := (blk_put (blk_put hc1 0 _ rfl) 1 _ rfl)
  have hc2' : ((W1.setCell ⟨W.heap.size, 0, none⟩ (.int .i64 (-y))).setCell ⟨W.heap.size, 1, none⟩ (.int .i64 (x))).drew.heap[W.heap.size + 1]? = some (.cells #[.int .i64 0, .int .i64 0, .int .i64 0] 128 (0, 0)) := ((Below.heap_setCell _ _ _ _ (by show W.heap.size + 1 ≠ W.heap.size; omega)).trans ((Below.heap_setCell _ _ _ _ (by show W.heap.size + 1 ≠ W.heap.size; omega)).trans hc2))
  have hB' : Below W.heap.size W ((W1.setCell ⟨W.heap.size, 0, none⟩ (.int .i64 (-y))).setCell ⟨W.heap.size, 1, none⟩ (.int .i64 (x))).drew := below_drew1 (below_set (below_set hB (Nat.le_refl _)) (Nat.le_refl _))
  generalize ((W1.setCell ⟨W.heap.size, 0, none⟩ (.int .i64 (-y))).setCell ⟨W.heap.size, 1, none⟩ (.int .i64 (x))).drew = W2 at *
  have p0 := (blk_cell hc1' 0).trans (rfl : _ = some (Value.int .i64 (-y)))
  have q0 := (blk_cell hc2' 0).trans (rfl : _ = some (Value.int .i64 0))
  have u0 := blk_frozen hc2' 0
  have p1 := (blk_cell hc1' 1).trans (rfl : _ = some (Value.int .i64 (x)))
  have q1 := (blk_cell hc2' 1).trans (rfl : _ = some (Value.int .i64 0))
  have u1 := blk_frozen hc2' 1
  have p2 := (blk_cell hc1' 2).trans (rfl : _ = some (Value.int .i64 (z)))
  have q2 := (blk_cell hc2' 2).trans (rfl : _ = some (Value.int .i64 0))
  have u2 := blk_frozen hc2' 2
  clear gbl hbl gbn hbn d0 d1 d2 z0 z1 z2
  go_wp2
  refine bodyPost_ret (results_cell_row rfl _ _ (W.heap.size + 1) 128 (v3 (-y) (x) (z)) (0, 0) _ rfl (blk_put (blk_put (blk_put hc2' 0 _ rfl) 1 _ rfl) 2 _ rfl) Try.underlying128 rfl (by kernel_rfl)) rfl ?_
  exact ⟨rfl, below_set (below_set (below_set hB' (by omega)) (by omega)) (by omega)⟩
set_option maxHeartbeats 8000000 in
set_option maxRecDepth 100000 in
theorem mir1_0 (ba : Nat) (x y z : Int) (W : World) (hba : W.cell? ⟨ba, 0, none⟩ = some (.int .i64 0)) (rx : -100000 ≤ x ∧ x ≤ 100000) (ry : -100000 ≤ y ∧ y ≤ 100000) (rz : -100000 ≤ z ∧ z ≤ 100000) :
    Calls Try.prog 96 (#[.agg (v3 x y z)] ++ #[.pointer (some ⟨ba, 0, none⟩)]) W fun e w' => e = .returned (.agg (v3 (-x) (y) (z))) ∧ Below W.heap.size W w' := by
  have hu128 := Try.underlying128
  have ex : IntKind.i64.wrap (-x) = -x := IntWalk.i64_in _ (by omega)
  have kba : ba < W.heap.size := World.block_lt_of_cell? _ _ hba
  clear rx ry rz
  go_enter Try.func96, Try.ntmps96
  go_upto_region 1 with (fail)
  have gba := cell_alloc (cell_alloc hba (.cells (v3 x y z) 128)) (.cells #[.int .i64 0, .int .i64 0, .int .i64 0] 128)
  have hc1 := heap2o W (.cells (v3 x y z) 128) (.cells #[.int .i64 0, .int .i64 0, .int .i64 0] 128)
  have hc2 := heap2 W (.cells (v3 x y z) 128) (.cells #[.int .i64 0, .int .i64 0, .int .i64 0] 128)
  have hB := bel2 W (.cells (v3 x y z) 128) (.cells #[.int .i64 0, .int .i64 0, .int .i64 0] 128)
  have nba : ba ≠ W.heap.size := by omega
  generalize (W.alloc (.cells (v3 x y z) 128)).alloc (.cells #[.int .i64 0, .int .i64 0, .int .i64 0] 128) = W1 at *
  have d0 := (blk_cell hc1 0).trans (rfl : _ = some (Value.int .i64 x))
  have z0 := blk_frozen hc1 0
  have d1 := (blk_cell hc1 1).trans (rfl : _ = some (Value.int .i64 y))
  have z1 := blk_frozen hc1 1
  have d2 := (blk_cell hc1 2).trans (rfl : _ = some (Value.int .i64 z))
  have z2 := blk_frozen hc1 2
  go_region
  have hc1' : (W1.setCell ⟨W.heap.size, 0, none⟩ (.int .i64 (-x))).drew.heap[W.heap.size]? = some (.cells (v3 (-x) (y) (z)) 128 (0, 0)) := (blk_put hc1 0 _ rfl)
  have hc2' : (W1.setCell ⟨W.heap.size, 0, none⟩ (.int .i64 (-x))).drew.heap[W.heap.size + 1]? = some (.cells #[.int .i64 0, .int .i64 0, .int .i64 0] 128 (0, 0)) := ((Below.heap_setCell _ _ _ _ (by show W.heap.size + 1 ≠ W.heap.size; omega)).trans hc2)
  have hB' : Below W.heap.size W (W1.setCell ⟨W.heap.size, 0, none⟩ (.int .i64 (-x))).drew := below_drew1 (below_set hB (Nat.le_refl _))
  generalize (W1.setCell ⟨W.heap.size, 0, none⟩ (.int .i64 (-x))).drew = W2 at *
  have p0 := (blk_cell hc1' 0).trans (rfl : _ = some (Value.int .i64 (-x)))
  have q0 := (blk_cell hc2' 0).trans (rfl : _ = some (Value.int .i64 0))
  have u0 := blk_frozen hc2' 0
  have p1 := (blk_cell hc1' 1).trans (rfl : _ = some (Value.int .i64 (y)))
  have q1 := (blk_cell hc2' 1).trans (rfl : _ = some (Value.int .i64 0))
  have u1 := blk_frozen hc2' 1
  have p2 := (blk_cell hc1' 2).trans (rfl : _ = some (Value.int .i64 (z)))
  have q2 := (blk_cell hc2' 2).trans (rfl : _ = some (Value.int .i64 0))
  have u2 := blk_frozen hc2' 2
  clear gba hba d0 d1 d2 z0 z1 z2
  go_wp2
  refine bodyPost_ret (results_cell_row rfl _ _ (W.heap.size + 1) 128 (v3 (-x) (y) (z)) (0, 0) _ rfl (blk_put (blk_put (blk_put hc2' 0 _ rfl) 1 _ rfl) 2 _ rfl) Try.underlying128 rfl (by kernel_rfl)) rfl ?_
  exact ⟨rfl, below_set (below_set (below_set hB' (by omega)) (by omega)) (by omega)⟩
set_option maxHeartbeats 8000000 in
set_option maxRecDepth 100000 in
theorem mir1_1 (ba : Nat) (x y z : Int) (W : World) (hba : W.cell? ⟨ba, 0, none⟩ = some (.int .i64 1)) (rx : -100000 ≤ x ∧ x ≤ 100000) (ry : -100000 ≤ y ∧ y ≤ 100000) (rz : -100000 ≤ z ∧ z ≤ 100000) :
    Calls Try.prog 96 (#[.agg (v3 x y z)] ++ #[.pointer (some ⟨ba, 0, none⟩)]) W fun e w' => e = .returned (.agg (v3 (x) (-y) (z))) ∧ Below W.heap.size W w' := by
  have hu128 := Try.underlying128
  have ey : IntKind.i64.wrap (-y) = -y := IntWalk.i64_in _ (by omega)
  have kba : ba < W.heap.size := World.block_lt_of_cell? _ _ hba
  clear rx ry rz
  go_enter Try.func96, Try.ntmps96
  go_upto_region 1 with (fail)
  have gba := cell_alloc (cell_alloc hba (.cells (v3 x y z) 128)) (.cells #[.int .i64 0, .int .i64 0, .int .i64 0] 128)
  have hc1 := heap2o W (.cells (v3 x y z) 128) (.cells #[.int .i64 0, .int .i64 0, .int .i64 0] 128)
  have hc2 := heap2 W (.cells (v3 x y z) 128) (.cells #[.int .i64 0, .int .i64 0, .int .i64 0] 128)
  have hB := bel2 W (.cells (v3 x y z) 128) (.cells #[.int .i64 0, .int .i64 0, .int .i64 0] 128)
  have nba : ba ≠ W.heap.size := by omega
  generalize (W.alloc (.cells (v3 x y z) 128)).alloc (.cells #[.int .i64 0, .int .i64 0, .int .i64 0] 128) = W1 at *
  have d0 := (blk_cell hc1 0).trans (rfl : _ = some (Value.int .i64 x))
  have z0 := blk_frozen hc1 0
  have d1 := (blk_cell hc1 1).trans (rfl : _ = some (Value.int .i64 y))
  have z1 := blk_frozen hc1 1
  have d2 := (blk_cell hc1 2).trans (rfl : _ = some (Value.int .i64 z))
  have z2 := blk_frozen hc1 2
  go_region
  have hc1' : (W1.setCell ⟨W.heap.size, 1, none⟩ (.int .i64 (-y))).drew.heap[W.heap.size]? = some (.cells (v3 (x) (-y) (z)) 128 (0, 0)) := (blk_put hc1 1 _ rfl)
  have hc2' : (W1.setCell ⟨W.heap.size, 1, none⟩ (.int .i64 (-y))).drew.heap[W.heap.size + 1]? = some (.cells #[.int .i64 0, .int .i64 0, .int .i64 0] 128 (0, 0)) := ((Below.heap_setCell _ _ _ _ (by show W.heap.size + 1 ≠ W.heap.size; omega)).trans hc2)
  have hB' : Below W.heap.size W (W1.setCell ⟨W.heap.size, 1, none⟩ (.int .i64 (-y))).drew := below_drew1 (below_set hB (Nat.le_refl _))
  generalize (W1.setCell ⟨W.heap.size, 1, none⟩ (.int .i64 (-y))).drew = W2 at *
  have p0 := (blk_cell hc1' 0).trans (rfl : _ = some (Value.int .i64 (x)))
  have q0 := (blk_cell hc2' 0).trans (rfl : _ = some (Value.int .i64 0))
  have u0 := blk_frozen hc2' 0
  have p1 := (blk_cell hc1' 1).trans (rfl : _ = some (Value.int .i64 (-y)))
  have q1 := (blk_cell hc2' 1).trans (rfl : _ = some (Value.int .i64 0))
  have u1 := blk_frozen hc2' 1
  have p2 := (blk_cell hc1' 2).trans (rfl : _ = some (Value.int .i64 (z)))
  have q2 := (blk_cell hc2' 2).trans (rfl : _ = some (Value.int .i64 0))
  have u2 := blk_frozen hc2' 2
  clear gba hba d0 d1 d2 z0 z1 z2
  go_wp2
  refine bodyPost_ret (results_cell_row rfl _ _ (W.heap.size + 1) 128 (v3 (x) (-y) (z)) (0, 0) _ rfl (blk_put (blk_put (blk_put hc2' 0 _ rfl) 1 _ rfl) 2 _ rfl) Try.underlying128 rfl (by kernel_rfl)) rfl ?_
  exact ⟨rfl, below_set (below_set (below_set hB' (by omega)) (by omega)) (by omega)⟩
set_option maxHeartbeats 8000000 in
set_option maxRecDepth 100000 in
theorem mir1_2 (ba : Nat) (x y z : Int) (W : World) (hba : W.cell? ⟨ba, 0, none⟩ = some (.int .i64 2)) (rx : -100000 ≤ x ∧ x ≤ 100000) (ry : -100000 ≤ y ∧ y ≤ 100000) (rz : -100000 ≤ z ∧ z ≤ 100000) :
    Calls Try.prog 96 (#[.agg (v3 x y z)] ++ #[.pointer (some ⟨ba, 0, none⟩)]) W fun e w' => e = .returned (.agg (v3 (x) (y) (-z))) ∧ Below W.heap.size W w' := by
  have hu128 := Try.underlying128
  have ez : IntKind.i64.wrap (-z) = -z := IntWalk.i64_in _ (by omega)
  have kba : ba < W.heap.size := World.block_lt_of_cell? _ _ hba
  clear rx ry rz
  go_enter Try.func96, Try.ntmps96
  go_upto_region 1 with (fail)
  have gba := cell_alloc (cell_alloc hba (.cells (v3 x y z) 128)) (.cells #[.int .i64 0, .int .i64 0, .int .i64 0] 128)
  have hc1 := heap2o W (.cells (v3 x y z) 128) (.cells #[.int .i64 0, .int .i64 0, .int .i64 0] 128)
  have hc2 := heap2 W (.cells (v3 x y z) 128) (.cells #[.int .i64 0, .int .i64 0, .int .i64 0] 128)
  have hB := bel2 W (.cells (v3 x y z) 128) (.cells #[.int .i64 0, .int .i64 0, .int .i64 0] 128)
  have nba : ba ≠ W.heap.size := by omega
  generalize (W.alloc (.cells (v3 x y z) 128)).alloc (.cells #[.int .i64 0, .int .i64 0, .int .i64 0] 128) = W1 at *
  have d0 := (blk_cell hc1 0).trans (rfl : _ = some (Value.int .i64 x))
  have z0 := blk_frozen hc1 0
  have d1 := (blk_cell hc1 1).trans (rfl : _ = some (Value.int .i64 y))
  have z1 := blk_frozen hc1 1
  have d2 := (blk_cell hc1 2).trans (rfl : _ = some (Value.int .i64 z))
  have z2 := blk_frozen hc1 2
  go_region
  have hc1' : (W1.setCell ⟨W.heap.size, 2, none⟩ (.int .i64 (-z))).drew.heap[W.heap.size]? = some (.cells (v3 (x) (y) (-z)) 128 (0, 0)) := (blk_put hc1 2 _ rfl)
  have hc2' : (W1.setCell ⟨W.heap.size, 2, none⟩ (.int .i64 (-z))).drew.heap[W.heap.size + 1]? = some (.cells #[.int .i64 0, .int .i64 0, .int .i64 0] 128 (0, 0)) := ((Below.heap_setCell _ _ _ _ (by show W.heap.size + 1 ≠ W.heap.size; omega)).trans hc2)
  have hB' : Below W.heap.size W (W1.setCell ⟨W.heap.size, 2, none⟩ (.int .i64 (-z))).drew := below_drew1 (below_set hB (Nat.le_refl _))
  generalize (W1.setCell ⟨W.heap.size, 2, none⟩ (.int .i64 (-z))).drew = W2 at *
  have p0 := (blk_cell hc1' 0).trans (rfl : _ = some (Value.int .i64 (x)))
  have q0 := (blk_cell hc2' 0).trans (rfl : _ = some (Value.int .i64 0))
  have u0 := blk_frozen hc2' 0
  have p1 := (blk_cell hc1' 1).trans (rfl : _ = some (Value.int .i64 (y)))
  have q1 := (blk_cell hc2' 1).trans (rfl : _ = some (Value.int .i64 0))
  have u1 := blk_frozen hc2' 1
  have p2 := (blk_cell hc1' 2).trans (rfl : _ = some (Value.int .i64 (-z)))
  have q2 := (blk_cell hc2' 2).trans (rfl : _ = some (Value.int .i64 0))
  have u2 := blk_frozen hc2' 2
  clear gba hba d0 d1 d2 z0 z1 z2
  go_wp2
  refine bodyPost_ret (results_cell_row rfl _ _ (W.heap.size + 1) 128 (v3 (x) (y) (-z)) (0, 0) _ rfl (blk_put (blk_put (blk_put hc2' 0 _ rfl) 1 _ rfl) 2 _ rfl) Try.underlying128 rfl (by kernel_rfl)) rfl ?_
  exact ⟨rfl, below_set (below_set (below_set hB' (by omega)) (by omega)) (by omega)⟩
theorem turn1_calls (bl bn : Nat) (x y z a : Int) (W : World) (h3 : 0 ≤ a ∧ a < 3) (hl : W.cell? ⟨bl, 0, none⟩ = some (.int .i64 ((a + 2) % 3))) (hn : W.cell? ⟨bn, 0, none⟩ = some (.int .i64 ((a + 1) % 3))) (rx : -100000 ≤ x ∧ x ≤ 100000) (ry : -100000 ≤ y ∧ y ≤ 100000) (rz : -100000 ≤ z ∧ z ≤ 100000) :
    Calls Try.prog 95 (#[.agg (v3 x y z)] ++ #[.pointer (some ⟨bl, 0, none⟩), .pointer (some ⟨bn, 0, none⟩)]) W fun e w' => e = .returned (.agg (v3 (turn3 x y z a).1 (turn3 x y z a).2.1 (turn3 x y z a).2.2)) ∧ Below W.heap.size W w' := by
  have hk : a = 0 ∨ a = 1 ∨ a = 2 := by omega
  rcases hk with rfl | rfl | rfl
  · exact turn1_0 bl bn x y z W hl hn rx ry rz
  · exact turn1_1 bl bn x y z W hl hn rx ry rz
  · exact turn1_2 bl bn x y z W hl hn rx ry rz
theorem mir1_calls (ba : Nat) (x y z a : Int) (W : World) (h3 : 0 ≤ a ∧ a < 3) (ha : W.cell? ⟨ba, 0, none⟩ = some (.int .i64 a)) (rx : -100000 ≤ x ∧ x ≤ 100000) (ry : -100000 ≤ y ∧ y ≤ 100000) (rz : -100000 ≤ z ∧ z ≤ 100000) :
    Calls Try.prog 96 (#[.agg (v3 x y z)] ++ #[.pointer (some ⟨ba, 0, none⟩)]) W fun e w' => e = .returned (.agg (v3 (mir3 x y z a).1 (mir3 x y z a).2.1 (mir3 x y z a).2.2)) ∧ Below W.heap.size W w' := by
  have hk : a = 0 ∨ a = 1 ∨ a = 2 := by omega
  rcases hk with rfl | rfl | rfl
  · exact mir1_0 ba x y z W ha rx ry rz
  · exact mir1_1 ba x y z W ha rx ry rz
  · exact mir1_2 ba x y z W ha rx ry rz
end Go.Proofs.Ytkgdlbepjmgaiaa.Fea
set_option linter.unusedVariables false
set_option linter.unusedSimpArgs false
namespace Go.Proofs.Ytkgdlbepjmgaiaa.Fea
open Go.RowKit Go.Proofs.YtkgdlbepjmgaiaaW.PrintWords Go.Proofs.YtkgdlbepjmgaiaaW.PrintLast Go.Proofs.YtkgdlbepjmgaiaaW.PrintMore
set_option maxHeartbeats 16000000 in
set_option maxRecDepth 100000 in
theorem turn_bad (nm : ByteArray) (k ax x y z lo hi : Int) (A : Option Addr) (c : Nat) (l : List S104) (a : Int) (w : World) (hr : Kd.C k104 w A l.length l) (hc : l.length ≤ c) (hne : alongV nm k ax x y z lo hi a ≠ 0) :
    Calls Try.prog 46 #[.agg (ftV nm k ax x y z lo hi A l.length c), .int .i64 a] w fun e w' => ∃ v8_ : Value, e = .returned (.tuple #[.agg (ftU ⟨#[]⟩ 0 0 0 0 0 0 0 v8_), .int .i64 (alongV nm k ax x y z lo hi a)]) ∧ Kd.V k104 104 w' w.heap.size (fun k_ => w.heap.size ≤ k_) v8_ [] ∧ Below w.heap.size w w' := by
  have hu28 := Try.underlying28
  have hu23 := Try.underlying23
  obtain ⟨kk, hkk⟩ := (along_ev nm k ax x y z lo hi l a).rounds
  have HR := Aside0.mk hr
  clear hr
  have n0 : (alongV nm k ax x y z lo hi a == 0) = false := beq_eq_false_iff_ne.2 hne
  have n1 : (alongV nm k ax x y z lo hi a != 0) = true := bne_iff_ne.2 hne
  generalize alongV nm k ax x y z lo hi a = er at *
  clear hne
  go_enter Try.func46, Try.ntmps46
  go_upto_region 1 with (fail)
  have h0 := heap2o w (.cells (ftV nm k ax x y z lo hi A l.length c) 28) (.cells ft0 28)
  have h1 := heap2 w (.cells (ftV nm k ax x y z lo hi A l.length c) 28) (.cells ft0 28)
  have hB := bel2 w (.cells (ftV nm k ax x y z lo hi A l.length c) 28) (.cells ft0 28)
  generalize (w.alloc (.cells (ftV nm k ax x y z lo hi A l.length c) 28)).alloc (.cells ft0 28) = W1 at *
  have c0 := (blk_cell h0 0).trans (rfl : _ = some (Value.string nm))
  have c1 := (blk_cell h0 1).trans (rfl : _ = some (Value.int .i64 k))
  have c2 := (blk_cell h0 2).trans (rfl : _ = some (Value.int .i64 ax))
  have c3 := (blk_cell h0 3).trans (rfl : _ = some (Value.int .i64 x))
  have c4 := (blk_cell h0 4).trans (rfl : _ = some (Value.int .i64 y))
  have c5 := (blk_cell h0 5).trans (rfl : _ = some (Value.int .i64 z))
  have c6 := (blk_cell h0 6).trans (rfl : _ = some (Value.int .i64 lo))
  have c7 := (blk_cell h0 7).trans (rfl : _ = some (Value.int .i64 hi))
  have c8 := (blk_cell h0 8).trans (rfl : _ = some (Value.slice A l.length c))
  go_wp2_with (first | ((with_reducible refine gate_store (t := 28) (p := 4) rfl ?_); refine wpList_store_row rfl 28 (.tmp 4) (.tmp 15) rfl (w.heap.size + 1) ft0 rfl rfl 28 ft0 g1 (by kernel_rfl) rfl (by simp [Value.oneCell']) ?_) | (go_at_call 68; refine (feature_along.calls kk nm k ax x y z lo hi A c l a _ _ (Kd.C_below HR.out hB) hc hkk).mono ?_; rintro e w' ⟨rfl, hb⟩; have g0 := blk_below h0 hb; have g1 := blk_below h1 hb; have gB := below_step hB hb; clear hb c0 c1 c2 c3 c4 c5 c6 c7 c8; have HG := Aside0.mk g1))
  refine bodyPost_ret (results_ct rfl _ _ (w.heap.size + 1) 28 ft0 (0, 0) _ rfl (row_new g1) Try.underlying28 rfl (by kernel_rfl)) rfl ?_
  refine ⟨.slice none 0 0, rfl, Kd.V_nil _ _ _ _ _, row_bel gB (by omega)⟩
def turnAx (k ax a : Int) : Int := if k = 4 then ax else if ax = (a + 1) % 3 then (a + 2) % 3 else if ax = (a + 2) % 3 then (a + 1) % 3 else ax
theorem eg95 : ∀ args w, (callFunc 95 args).run Try.prog w = .ok (.enter 95 args) w := enters_of Try.func95 (by kernel_rfl) rfl
set_option maxHeartbeats 16000000 in
set_option maxRecDepth 100000 in
theorem turn_ok (nm : ByteArray) (k ax x y z lo hi : Int) (A : Option Addr) (c : Nat) (l : List S104) (a : Int) (w : World) (hr : Kd.C k104 w A l.length l) (hc : l.length ≤ c) (hsm : small l = true) (hok : alongV nm k ax x y z lo hi a = 0) :
    Calls Try.prog 46 #[.agg (ftV nm k ax x y z lo hi A l.length c), .int .i64 a] w fun e w' => ∃ v8_ : Value, e = .returned (.tuple #[.agg (ftU nm k (turnAx k ax a) (turn3 x y z a).1 (turn3 x y z a).2.1 (turn3 x y z a).2.2 lo hi v8_), .int .i64 0]) ∧ Kd.V k104 104 w' w.heap.size (fun k_ => w.heap.size ≤ k_) v8_ l ∧ Below w.heap.size w w' := by
  have hu28 := Try.underlying28
  have hu23 := Try.underlying23
  obtain ⟨kk, hkk⟩ := (along_ev nm k ax x y z lo hi l a).rounds
  have HR := Aside0.mk hr
  clear hr
  obtain ⟨hch, h3⟩ := alongV_ok.1 hok
  obtain ⟨_, hq⟩ := chkF_ok.1 hch
  rw [hok] at hkk
  have HQ := Aside0.mk hq
  have H3 := Aside0.mk h3
  have HS := Aside0.mk hsm
  have e1 : IntKind.i64.wrap (a + 1) = a + 1 := IntWalk.i64_in _ (by omega)
  have e2 : IntKind.i64.wrap (a + 2) = a + 2 := IntWalk.i64_in _ (by omega)
  have e3 : (a + 1).tmod 3 = (a + 1) % 3 := Int.tmod_eq_emod_of_nonneg (by omega)
  have e4 : (a + 2).tmod 3 = (a + 2) % 3 := Int.tmod_eq_emod_of_nonneg (by omega)
  clear hq h3 hok hch hsm
  generalize hT : turnAx k ax a = tx at *
  have HT := Aside0.mk hT
  clear hT
  unfold turnAx at HT
  generalize he : turn3 x y z a = p at *
  have HE := Aside0.mk he
  clear he
  have HN : Aside0 (∀ bl bn W, W.cell? ⟨bl, 0, none⟩ = some (.int .i64 ((a + 2) % 3)) → W.cell? ⟨bn, 0, none⟩ = some (.int .i64 ((a + 1) % 3)) → Calls Try.prog 95 (#[.agg (v3 x y z)] ++ #[.pointer (some ⟨bl, 0, none⟩), .pointer (some ⟨bn, 0, none⟩)]) W fun e w' => e = .returned (.agg (v3 p.1 p.2.1 p.2.2)) ∧ Below W.heap.size W w') := ⟨fun bl bn W h1 h2 => by have := turn1_calls bl bn x y z a W H3.out h1 h2 HQ.out.x1 HQ.out.y1 HQ.out.z1; rw [HE.out] at this; exact this⟩
  have hnl : (a + 1) % 3 ≠ (a + 2) % 3 := by omega
  generalize (a + 1) % 3 = nx at *
  generalize (a + 2) % 3 = la at *
  go_enter Try.func46, Try.ntmps46
  go_upto_region 1 with (fail)
  have h0 := heap2o w (.cells (ftV nm k ax x y z lo hi A l.length c) 28) (.cells ft0 28)
  have h1 := heap2 w (.cells (ftV nm k ax x y z lo hi A l.length c) 28) (.cells ft0 28)
  have hB := bel2 w (.cells (ftV nm k ax x y z lo hi A l.length c) 28) (.cells ft0 28)
  generalize (w.alloc (.cells (ftV nm k ax x y z lo hi A l.length c) 28)).alloc (.cells ft0 28) = W1 at *
  have c0 := (blk_cell h0 0).trans (rfl : _ = some (Value.string nm))
  have c1 := (blk_cell h0 1).trans (rfl : _ = some (Value.int .i64 k))
  have c2 := (blk_cell h0 2).trans (rfl : _ = some (Value.int .i64 ax))
  have c3 := (blk_cell h0 3).trans (rfl : _ = some (Value.int .i64 x))
  have c4 := (blk_cell h0 4).trans (rfl : _ = some (Value.int .i64 y))
  have c5 := (blk_cell h0 5).trans (rfl : _ = some (Value.int .i64 z))
  have c6 := (blk_cell h0 6).trans (rfl : _ = some (Value.int .i64 lo))
  have c7 := (blk_cell h0 7).trans (rfl : _ = some (Value.int .i64 hi))
  have c8 := (blk_cell h0 8).trans (rfl : _ = some (Value.slice A l.length c))
  go_upto_region 5 with (go_at_call 68; refine (feature_along.calls kk nm k ax x y z lo hi A c l a _ _ (Kd.C_below HR.out hB) hc hkk).mono ?_; rintro e w' ⟨rfl, hb⟩; have g0 := blk_below h0 hb; have g1 := blk_below h1 hb; have gB := below_step hB hb; clear hb h0 h1 hB c0 c1 c2 c3 c4 c5 c6 c7 c8)
  have n0 := heap2o w' (.cells #[.int .i64 nx] 3) (.cells #[.int .i64 la] 3)
  have n1 := heap2 w' (.cells #[.int .i64 nx] 3) (.cells #[.int .i64 la] 3)
  have nB := bel2 w' (.cells #[.int .i64 nx] 3) (.cells #[.int .i64 la] 3)
  have f0 := blk_below g0 nB
  have f1 := blk_below g1 nB
  have fB := below_step gB nB
  have hgs : w.heap.size + 2 ≤ w'.heap.size := (Array.getElem?_eq_some_iff.1 g1).1
  clear nB g0 g1 gB
  generalize (w'.alloc (.cells #[.int .i64 nx] 3)).alloc (.cells #[.int .i64 la] 3) = Wn at *
  have c0 := (blk_cell f0 0).trans (rfl : _ = some (Value.string nm))
  have c1 := (blk_cell f0 1).trans (rfl : _ = some (Value.int .i64 k))
  have c2 := (blk_cell f0 2).trans (rfl : _ = some (Value.int .i64 ax))
  have c3 := (blk_cell f0 3).trans (rfl : _ = some (Value.int .i64 x))
  have c4 := (blk_cell f0 4).trans (rfl : _ = some (Value.int .i64 y))
  have c5 := (blk_cell f0 5).trans (rfl : _ = some (Value.int .i64 z))
  have c6 := (blk_cell f0 6).trans (rfl : _ = some (Value.int .i64 lo))
  have c7 := (blk_cell f0 7).trans (rfl : _ = some (Value.int .i64 hi))
  have c8 := (blk_cell f0 8).trans (rfl : _ = some (Value.slice A l.length c))
  have hcall := placed_calls 95 #[.pointer (some ⟨w'.heap.size + 1, 0, none⟩), .pointer (some ⟨w'.heap.size, 0, none⟩)] eg95 nm k ax x y z lo hi A c l p.1 p.2.1 p.2.2 Wn (Kd.C_below HR.out fB) hc HS.out (fun W hW => HN.out _ _ W (cell_on hW ((blk_cell n1 0).trans (rfl : _ = some (Value.int .i64 la)))) (cell_on hW ((blk_cell n0 0).trans (rfl : _ = some (Value.int .i64 nx)))))
  go_wp2_with (fail)
  refine hcall.mono ?_
  clear hcall
  rintro e w2 ⟨A', c', rfl, hle, hF, hb⟩
  have hwn : w'.heap.size + 2 ≤ Wn.heap.size := (Array.getElem?_eq_some_iff.1 n1).1
  have m0 := blk_below n0 hb
  have m1 := blk_below n1 hb
  have k0 := blk_below f0 hb
  have k1 := blk_below f1 hb
  have kB := below_step fB hb
  have hsz := hb.size
  have HF := Aside0.mk hF
  clear hF hb n0 n1 f0 f1 fB c0 c1 c2 c3 c4 c5 c6 c7 c8
  go_upto_region 6 with (fail)
  have r9 := blk_new w2 (.cells (ftV nm k ax p.1 p.2.1 p.2.2 lo hi A' l.length c') 28)
  have j0 := blk_alloc k0 (.cells (ftV nm k ax p.1 p.2.1 p.2.2 lo hi A' l.length c') 28)
  have j1 := blk_alloc k1 (.cells (ftV nm k ax p.1 p.2.1 p.2.2 lo hi A' l.length c') 28)
  have j2 := blk_alloc m0 (.cells (ftV nm k ax p.1 p.2.1 p.2.2 lo hi A' l.length c') 28)
  have j3 := blk_alloc m1 (.cells (ftV nm k ax p.1 p.2.1 p.2.2 lo hi A' l.length c') 28)
  have jB := below_alloc kB (.cells (ftV nm k ax p.1 p.2.1 p.2.2 lo hi A' l.length c') 28)
  have HF2 := Aside0.mk (Kd.F_alloc (Kd.F_elderB HF.out w2.heap.size (Nat.le_refl _)) (.cells (ftV nm k ax p.1 p.2.1 p.2.2 lo hi A' l.length c') 28))
  clear k0 k1 m0 m1 kB HF
  generalize hz : w2.heap.size = z9 at *
  generalize w2.alloc (.cells (ftV nm k ax p.1 p.2.1 p.2.2 lo hi A' l.length c') 28) = W2 at *
  have d1 := (blk_cell j0 1).trans (rfl : _ = some (Value.int .i64 k))
  have d2 := (blk_cell j0 2).trans (rfl : _ = some (Value.int .i64 ax))
  have y0 := (blk_cell j2 0).trans (rfl : _ = some (Value.int .i64 nx))
  have y1 := (blk_cell j3 0).trans (rfl : _ = some (Value.int .i64 la))
  have v2 := (blk_cell r9 2).trans (rfl : _ = some (Value.int .i64 ax))
  have t2 := blk_frozen r9 2
  have HF3 : Aside0 (Kd.F k104 W2 (fun k => Wn.heap.size ≤ k ∧ k ≠ z9) A' l.length l) := HF2
  by_cases h4 : k = 4
  · have b1 : (k == 4) = true := beq_iff_eq.2 h4
    have ht : tx = ax := by rw [← HT.out, if_pos h4]
    subst ht
    clear h4
    go_wp2_with (first | ((with_reducible refine gate_dst (N := 44) rfl ?_); refine wpList_load_row rfl 28 (.tmp 9) rfl z9 rfl 28 (ftV nm k tx p.1 p.2.1 p.2.2 lo hi A' l.length c') (0, 0) _ r9 Try.underlying28 rfl (by kernel_rfl) ?_) | ((with_reducible refine gate_store (t := 28) (p := 4) rfl ?_); refine wpList_store_row rfl 28 (.tmp 4) (.tmp 44) rfl (w.heap.size + 1) (ftV nm k tx p.1 p.2.1 p.2.2 lo hi A' l.length c') rfl rfl 28 ft0 j1 (by kernel_rfl) rfl (by simp [Value.oneCell']) ?_))
    refine bodyPost_ret (results_ct rfl _ _ (w.heap.size + 1) 28 (ftV nm k tx p.1 p.2.1 p.2.2 lo hi A' l.length c') (0, 0) _ rfl (row_new j1) Try.underlying28 rfl (by kernel_rfl)) rfl ?_
    refine ⟨.slice A' l.length c', rfl, ⟨A', c', rfl, hle, ?_⟩, ?_⟩
    · refine Kd.F_mono (ok := fun k => Wn.heap.size ≤ k ∧ k ≠ z9) ?_ (fun k hk => by omega)
      refine Kd.F_step HF3.out (fun k hk _ => row_far (by omega))
    · exact row_bel jB (by omega)
  · have b1 : (k == 4) = false := beq_eq_false_iff_ne.2 h4
    by_cases h5 : ax = nx
    · have b2 : (ax == nx) = true := beq_iff_eq.2 h5
      have ht : tx = la := by rw [← HT.out, if_neg h4, if_pos h5]
      subst ht
      clear h4 h5
      have j1s : (W2.setCell ⟨z9, 2, none⟩ (.int .i64 tx)).heap[w.heap.size + 1]? = some (.cells ft0 28 (0, 0)) := (Below.heap_setCell _ _ _ _ (by show w.heap.size + 1 ≠ z9; omega)).trans j1
      go_wp2_with (first | ((with_reducible refine gate_dst (N := 44) rfl ?_); refine wpList_load_row rfl 28 (.tmp 9) rfl z9 rfl 28 (ftV nm k tx p.1 p.2.1 p.2.2 lo hi A' l.length c') (0, 0) _ (blk_put r9 2 _ rfl) Try.underlying28 rfl (by kernel_rfl) ?_) | ((with_reducible refine gate_store (t := 28) (p := 4) rfl ?_); refine wpList_store_row rfl 28 (.tmp 4) (.tmp 44) rfl (w.heap.size + 1) (ftV nm k tx p.1 p.2.1 p.2.2 lo hi A' l.length c') rfl rfl 28 ft0 j1s (by kernel_rfl) rfl (by simp [Value.oneCell']) ?_))
      refine bodyPost_ret (results_ct rfl _ _ (w.heap.size + 1) 28 (ftV nm k tx p.1 p.2.1 p.2.2 lo hi A' l.length c') (0, 0) _ rfl (row_new j1s) Try.underlying28 rfl (by kernel_rfl)) rfl ?_
      refine ⟨.slice A' l.length c', rfl, ⟨A', c', rfl, hle, ?_⟩, ?_⟩
      · refine Kd.F_mono (ok := fun k => Wn.heap.size ≤ k ∧ k ≠ z9) ?_ (fun k hk => by omega)
        refine Kd.F_step (Kd.F_far HF3.out (fun k hk => hk.2) _) (fun k hk _ => row_far (by omega))
      · exact row_bel (below_set jB (by omega)) (by omega)
    · have b2 : (ax == nx) = false := beq_eq_false_iff_ne.2 h5
      by_cases h6 : ax = la
      · have b3 : (ax == la) = true := beq_iff_eq.2 h6
        have ht : tx = nx := by rw [← HT.out, if_neg h4, if_neg h5, if_pos h6]
        subst ht
        clear h4 h5 h6
        have j1s : (W2.setCell ⟨z9, 2, none⟩ (.int .i64 tx)).heap[w.heap.size + 1]? = some (.cells ft0 28 (0, 0)) := (Below.heap_setCell _ _ _ _ (by show w.heap.size + 1 ≠ z9; omega)).trans j1
        go_wp2_with (first | ((with_reducible refine gate_dst (N := 44) rfl ?_); refine wpList_load_row rfl 28 (.tmp 9) rfl z9 rfl 28 (ftV nm k tx p.1 p.2.1 p.2.2 lo hi A' l.length c') (0, 0) _ (blk_put r9 2 _ rfl) Try.underlying28 rfl (by kernel_rfl) ?_) | ((with_reducible refine gate_store (t := 28) (p := 4) rfl ?_); refine wpList_store_row rfl 28 (.tmp 4) (.tmp 44) rfl (w.heap.size + 1) (ftV nm k tx p.1 p.2.1 p.2.2 lo hi A' l.length c') rfl rfl 28 ft0 j1s (by kernel_rfl) rfl (by simp [Value.oneCell']) ?_))
        refine bodyPost_ret (results_ct rfl _ _ (w.heap.size + 1) 28 (ftV nm k tx p.1 p.2.1 p.2.2 lo hi A' l.length c') (0, 0) _ rfl (row_new j1s) Try.underlying28 rfl (by kernel_rfl)) rfl ?_
        refine ⟨.slice A' l.length c', rfl, ⟨A', c', rfl, hle, ?_⟩, ?_⟩
        · refine Kd.F_mono (ok := fun k => Wn.heap.size ≤ k ∧ k ≠ z9) ?_ (fun k hk => by omega)
          refine Kd.F_step (Kd.F_far HF3.out (fun k hk => hk.2) _) (fun k hk _ => row_far (by omega))
        · exact row_bel (below_set jB (by omega)) (by omega)
      · have b3 : (ax == la) = false := beq_eq_false_iff_ne.2 h6
        have ht : tx = ax := by rw [← HT.out, if_neg h4, if_neg h5, if_neg h6]
        subst ht
        clear h4 h5 h6
        go_wp2_with (first | ((with_reducible refine gate_dst (N := 44) rfl ?_); refine wpList_load_row rfl 28 (.tmp 9) rfl z9 rfl 28 (ftV nm k tx p.1 p.2.1 p.2.2 lo hi A' l.length c') (0, 0) _ r9 Try.underlying28 rfl (by kernel_rfl) ?_) | ((with_reducible refine gate_store (t := 28) (p := 4) rfl ?_); refine wpList_store_row rfl 28 (.tmp 4) (.tmp 44) rfl (w.heap.size + 1) (ftV nm k tx p.1 p.2.1 p.2.2 lo hi A' l.length c') rfl rfl 28 ft0 j1 (by kernel_rfl) rfl (by simp [Value.oneCell']) ?_))
        refine bodyPost_ret (results_ct rfl _ _ (w.heap.size + 1) 28 (ftV nm k tx p.1 p.2.1 p.2.2 lo hi A' l.length c') (0, 0) _ rfl (row_new j1) Try.underlying28 rfl (by kernel_rfl)) rfl ?_
        refine ⟨.slice A' l.length c', rfl, ⟨A', c', rfl, hle, ?_⟩, ?_⟩
        · refine Kd.F_mono (ok := fun k => Wn.heap.size ≤ k ∧ k ≠ z9) ?_ (fun k hk => by omega)
          refine Kd.F_step HF3.out (fun k hk _ => row_far (by omega))
        · exact row_bel jB (by omega)
end Go.Proofs.Ytkgdlbepjmgaiaa.Fea
namespace Go.Proofs.Ytkgdlbepjmgaiaa.Fea
open Go.RowKit Go.Proofs.YtkgdlbepjmgaiaaW.PrintWords Go.Proofs.YtkgdlbepjmgaiaaW.PrintLast Go.Proofs.YtkgdlbepjmgaiaaW.PrintMore
attribute [local go_sem] max2_int min2_int max_two min_two max_three min_three max_four min_four
set_option linter.unusedVariables false
set_option linter.unusedSimpArgs false
def feature_Turn.f (a0_0 : ByteArray) (a0_1 : Int) (a0_2 : Int) (a0_3 : Int) (a0_4 : Int) (a0_5 : Int) (a0_6 : Int) (a0_7 : Int) (l0_8 : List (S104)) (a1 : Int) : Option (ByteArray × Int × Int × Int × Int × Int × Int × Int × (List (S104)) × Int) := if small l0_8 = true then some (if alongV a0_0 a0_1 a0_2 a0_3 a0_4 a0_5 a0_6 a0_7 a1 = 0 then (a0_0, a0_1, turnAx a0_1 a0_2 a1, (turn3 a0_3 a0_4 a0_5 a1).1, (turn3 a0_3 a0_4 a0_5 a1).2.1, (turn3 a0_3 a0_4 a0_5 a1).2.2, a0_6, a0_7, l0_8, (0 : Int)) else ((⟨#[]⟩ : ByteArray), (0 : Int), (0 : Int), (0 : Int), (0 : Int), (0 : Int), (0 : Int), (0 : Int), ([] : List (S104)), alongV a0_0 a0_1 a0_2 a0_3 a0_4 a0_5 a0_6 a0_7 a1)) else none
theorem feature_Turn.calls (a0_0 : ByteArray) (a0_1 : Int) (a0_2 : Int) (a0_3 : Int) (a0_4 : Int) (a0_5 : Int) (a0_6 : Int) (a0_7 : Int) (A0_8 : Option Addr) (c0_8 : Nat) (l0_8 : List (S104)) (a1 : Int) (r1 : ByteArray) (r2 : Int) (r3 : Int) (r4 : Int) (r5 : Int) (r6 : Int) (r7 : Int) (r8 : Int) (r9 : List (S104)) (r10 : Int) (w : World) (hr0_8 : Kd.C k104 w A0_8 l0_8.length l0_8) (hc0_8 : l0_8.length ≤ c0_8) (h : feature_Turn.f a0_0 a0_1 a0_2 a0_3 a0_4 a0_5 a0_6 a0_7 l0_8 a1 = some (r1, r2, r3, r4, r5, r6, r7, r8, r9, r10)) :
    Calls Try.prog 46 #[.agg #[.string a0_0, .int .i64 a0_1, .int .i64 a0_2, .int .i64 a0_3, .int .i64 a0_4, .int .i64 a0_5, .int .i64 a0_6, .int .i64 a0_7, .slice A0_8 l0_8.length c0_8], .int .i64 a1] w fun e w' => ∃ v8_ : Value, e = .returned (.tuple #[.agg #[.string r1, .int .i64 r2, .int .i64 r3, .int .i64 r4, .int .i64 r5, .int .i64 r6, .int .i64 r7, .int .i64 r8, v8_], .int .i64 r10]) ∧ Kd.V k104 104 w' w.heap.size (fun k_ => w.heap.size ≤ k_) v8_ r9 ∧ Below w.heap.size w w' := by
  unfold feature_Turn.f at h
  split at h
  case isFalse => cases h
  rename_i hsm
  replace h := Option.some.inj h
  split at h
  · rename_i g
    simp only [Prod.mk.injEq] at h
    obtain ⟨rfl, rfl, rfl, rfl, rfl, rfl, rfl, rfl, rfl, rfl⟩ := h
    exact turn_ok a0_0 a0_1 a0_2 a0_3 a0_4 a0_5 a0_6 a0_7 A0_8 c0_8 l0_8 a1 w hr0_8 hc0_8 hsm g
  · rename_i g
    simp only [Prod.mk.injEq] at h
    obtain ⟨rfl, rfl, rfl, rfl, rfl, rfl, rfl, rfl, rfl, rfl⟩ := h
    exact turn_bad a0_0 a0_1 a0_2 a0_3 a0_4 a0_5 a0_6 a0_7 A0_8 c0_8 l0_8 a1 w hr0_8 hc0_8 g
end Go.Proofs.Ytkgdlbepjmgaiaa.Fea
set_option linter.unusedVariables false
set_option linter.unusedSimpArgs false
namespace Go.Proofs.Ytkgdlbepjmgaiaa.Fea
open Go.RowKit Go.Proofs.YtkgdlbepjmgaiaaW.PrintWords Go.Proofs.YtkgdlbepjmgaiaaW.PrintLast Go.Proofs.YtkgdlbepjmgaiaaW.PrintMore
theorem heap3Mira (w : World) (o o' o2 : Obj) : (((w.alloc o).alloc o').alloc o2).heap[w.heap.size]? = some o := blk_alloc (heap2o w o o') o2
theorem heap3Mirb (w : World) (o o' o2 : Obj) : (((w.alloc o).alloc o').alloc o2).heap[w.heap.size + 1]? = some o' := blk_alloc (heap2 w o o') o2
theorem heap3Mirc (w : World) (o o' o2 : Obj) : (((w.alloc o).alloc o').alloc o2).heap[w.heap.size + 2]? = some o2 := by
  have h := blk_new ((w.alloc o).alloc o') o2
  have e : ((w.alloc o).alloc o').heap.size = w.heap.size + 2 := by
    show ((w.heap.push o).push o').size = _
    rw [Array.size_push, Array.size_push]
  rwa [e] at h
theorem bel3Mir (w : World) (o o' o2 : Obj) : Below w.heap.size w (((w.alloc o).alloc o').alloc o2) := below_alloc (bel2 w o o') _
set_option maxHeartbeats 16000000 in
set_option maxRecDepth 100000 in
theorem mirror_bad (nm : ByteArray) (k ax x y z lo hi : Int) (A : Option Addr) (c : Nat) (l : List S104) (a : Int) (w : World) (hr : Kd.C k104 w A l.length l) (hc : l.length ≤ c) (hne : alongV nm k ax x y z lo hi a ≠ 0) :
    Calls Try.prog 47 #[.agg (ftV nm k ax x y z lo hi A l.length c), .int .i64 a] w fun e w' => ∃ v8_ : Value, e = .returned (.tuple #[.agg (ftU ⟨#[]⟩ 0 0 0 0 0 0 0 v8_), .int .i64 (alongV nm k ax x y z lo hi a)]) ∧ Kd.V k104 104 w' w.heap.size (fun k_ => w.heap.size ≤ k_) v8_ [] ∧ Below w.heap.size w w' := by
  have hu28 := Try.underlying28
  have hu23 := Try.underlying23
  obtain ⟨kk, hkk⟩ := (along_ev nm k ax x y z lo hi l a).rounds
  have HR := Aside0.mk hr
  clear hr
  have n0 : (alongV nm k ax x y z lo hi a == 0) = false := beq_eq_false_iff_ne.2 hne
  have n1 : (alongV nm k ax x y z lo hi a != 0) = true := bne_iff_ne.2 hne
  generalize alongV nm k ax x y z lo hi a = er at *
  clear hne
  go_enter Try.func47, Try.ntmps47
  go_upto_region 1 with (fail)
  have h0 := heap3Mira w (.cells (ftV nm k ax x y z lo hi A l.length c) 28) (.cells #[.int .i64 a] 3) (.cells ft0 28)
  have h1 := heap3Mirb w (.cells (ftV nm k ax x y z lo hi A l.length c) 28) (.cells #[.int .i64 a] 3) (.cells ft0 28)
  have h2 := heap3Mirc w (.cells (ftV nm k ax x y z lo hi A l.length c) 28) (.cells #[.int .i64 a] 3) (.cells ft0 28)
  have hB := bel3Mir w (.cells (ftV nm k ax x y z lo hi A l.length c) 28) (.cells #[.int .i64 a] 3) (.cells ft0 28)
  generalize ((w.alloc (.cells (ftV nm k ax x y z lo hi A l.length c) 28)).alloc (.cells #[.int .i64 a] 3)).alloc (.cells ft0 28) = W1 at *
  have c0 := (blk_cell h0 0).trans (rfl : _ = some (Value.string nm))
  have c1 := (blk_cell h0 1).trans (rfl : _ = some (Value.int .i64 k))
  have c2 := (blk_cell h0 2).trans (rfl : _ = some (Value.int .i64 ax))
  have c3 := (blk_cell h0 3).trans (rfl : _ = some (Value.int .i64 x))
  have c4 := (blk_cell h0 4).trans (rfl : _ = some (Value.int .i64 y))
  have c5 := (blk_cell h0 5).trans (rfl : _ = some (Value.int .i64 z))
  have c6 := (blk_cell h0 6).trans (rfl : _ = some (Value.int .i64 lo))
  have c7 := (blk_cell h0 7).trans (rfl : _ = some (Value.int .i64 hi))
  have c8 := (blk_cell h0 8).trans (rfl : _ = some (Value.slice A l.length c))
  have b0 := (blk_cell h1 0).trans (rfl : _ = some (Value.int .i64 a))
  go_wp2_with (first | ((with_reducible refine gate_store (t := 28) (p := 4) rfl ?_); refine wpList_store_row rfl 28 (.tmp 4) (.tmp 12) rfl (w.heap.size + 2) ft0 rfl rfl 28 ft0 g2 (by kernel_rfl) rfl (by simp [Value.oneCell']) ?_) | (go_at_call 68; refine (feature_along.calls kk nm k ax x y z lo hi A c l a _ _ (Kd.C_below HR.out (by first | exact hB | exact hB)) hc hkk).mono ?_; rintro e w' ⟨rfl, hb⟩; have g0 := blk_below h0 hb; have g1 := blk_below h1 hb; have g2 := blk_below h2 hb; have gB := below_step hB hb; clear hb c0 c1 c2 c3 c4 c5 c6 c7 c8 b0; have HG := Aside0.mk g2))
  refine bodyPost_ret (results_ct rfl _ _ (w.heap.size + 2) 28 ft0 (0, 0) _ rfl (row_new g2) Try.underlying28 rfl (by kernel_rfl)) rfl ?_
  refine ⟨.slice none 0 0, rfl, Kd.V_nil _ _ _ _ _, row_bel gB (by omega)⟩
theorem eg96 : ∀ args w, (callFunc 96 args).run Try.prog w = .ok (.enter 96 args) w := enters_of Try.func96 (by kernel_rfl) rfl
set_option maxHeartbeats 16000000 in
set_option maxRecDepth 100000 in
theorem mirror_ok (nm : ByteArray) (k ax x y z lo hi : Int) (A : Option Addr) (c : Nat) (l : List S104) (a : Int) (w : World) (hr : Kd.C k104 w A l.length l) (hc : l.length ≤ c) (hsm : small l = true) (hok : alongV nm k ax x y z lo hi a = 0) :
    Calls Try.prog 47 #[.agg (ftV nm k ax x y z lo hi A l.length c), .int .i64 a] w fun e w' => ∃ v8_ : Value, e = .returned (.tuple #[.agg (ftU nm k ax (mir3 x y z a).1 (mir3 x y z a).2.1 (mir3 x y z a).2.2 lo hi v8_), .int .i64 0]) ∧ Kd.V k104 104 w' w.heap.size (fun k_ => w.heap.size ≤ k_) v8_ l ∧ Below w.heap.size w w' := by
  have hu28 := Try.underlying28
  have hu23 := Try.underlying23
  obtain ⟨kk, hkk⟩ := (along_ev nm k ax x y z lo hi l a).rounds
  have HR := Aside0.mk hr
  clear hr
  obtain ⟨hch, h3⟩ := alongV_ok.1 hok
  obtain ⟨_, hq⟩ := chkF_ok.1 hch
  rw [hok] at hkk
  have HQ := Aside0.mk hq
  have H3 := Aside0.mk h3
  have HS := Aside0.mk hsm
  clear hq h3 hok hch hsm
  generalize he : mir3 x y z a = p at *
  have HE := Aside0.mk he
  clear he
  go_enter Try.func47, Try.ntmps47
  go_upto_region 1 with (fail)
  have h0 := heap3Mira w (.cells (ftV nm k ax x y z lo hi A l.length c) 28) (.cells #[.int .i64 a] 3) (.cells ft0 28)
  have h1 := heap3Mirb w (.cells (ftV nm k ax x y z lo hi A l.length c) 28) (.cells #[.int .i64 a] 3) (.cells ft0 28)
  have h2 := heap3Mirc w (.cells (ftV nm k ax x y z lo hi A l.length c) 28) (.cells #[.int .i64 a] 3) (.cells ft0 28)
  have hB := bel3Mir w (.cells (ftV nm k ax x y z lo hi A l.length c) 28) (.cells #[.int .i64 a] 3) (.cells ft0 28)
  generalize ((w.alloc (.cells (ftV nm k ax x y z lo hi A l.length c) 28)).alloc (.cells #[.int .i64 a] 3)).alloc (.cells ft0 28) = W1 at *
  have c0 := (blk_cell h0 0).trans (rfl : _ = some (Value.string nm))
  have c1 := (blk_cell h0 1).trans (rfl : _ = some (Value.int .i64 k))
  have c2 := (blk_cell h0 2).trans (rfl : _ = some (Value.int .i64 ax))
  have c3 := (blk_cell h0 3).trans (rfl : _ = some (Value.int .i64 x))
  have c4 := (blk_cell h0 4).trans (rfl : _ = some (Value.int .i64 y))
  have c5 := (blk_cell h0 5).trans (rfl : _ = some (Value.int .i64 z))
  have c6 := (blk_cell h0 6).trans (rfl : _ = some (Value.int .i64 lo))
  have c7 := (blk_cell h0 7).trans (rfl : _ = some (Value.int .i64 hi))
  have c8 := (blk_cell h0 8).trans (rfl : _ = some (Value.slice A l.length c))
  have b0 := (blk_cell h1 0).trans (rfl : _ = some (Value.int .i64 a))
  go_wp2_with (first | (go_at_call 68; refine (feature_along.calls kk nm k ax x y z lo hi A c l a _ _ (Kd.C_below HR.out (by first | exact hB | exact hB)) hc hkk).mono ?_; rintro e w' ⟨rfl, hb⟩; have g0 := blk_below h0 hb; have g1 := blk_below h1 hb; have g2 := blk_below h2 hb; have gB := below_step hB hb; clear hb h0 h1 h2 hB c0 c1 c2 c3 c4 c5 c6 c7 c8 b0; have c0 := (blk_cell g0 0).trans (rfl : _ = some (Value.string nm)); have c1 := (blk_cell g0 1).trans (rfl : _ = some (Value.int .i64 k)); have c2 := (blk_cell g0 2).trans (rfl : _ = some (Value.int .i64 ax)); have c3 := (blk_cell g0 3).trans (rfl : _ = some (Value.int .i64 x)); have c4 := (blk_cell g0 4).trans (rfl : _ = some (Value.int .i64 y)); have c5 := (blk_cell g0 5).trans (rfl : _ = some (Value.int .i64 z)); have c6 := (blk_cell g0 6).trans (rfl : _ = some (Value.int .i64 lo)); have c7 := (blk_cell g0 7).trans (rfl : _ = some (Value.int .i64 hi)); have c8 := (blk_cell g0 8).trans (rfl : _ = some (Value.slice A l.length c)); have HW := Aside0.mk gB; have hcall := placed_calls 96 #[.pointer (some ⟨w.heap.size + 1, 0, none⟩)] eg96 nm k ax x y z lo hi A c l p.1 p.2.1 p.2.2 w' (Kd.C_below HR.out gB) hc HS.out (fun W hW => by have := mir1_calls (w.heap.size + 1) x y z a W H3.out (cell_on hW ((blk_cell g1 0).trans (rfl : _ = some (Value.int .i64 a)))) HQ.out.x1 HQ.out.y1 HQ.out.z1; rw [HE.out] at this; exact this)))
  refine hcall.mono ?_
  clear hcall
  rintro e w2 ⟨A', c', rfl, hle, hF, hb⟩
  have e2 := blk_below g2 hb
  have eB := below_step gB hb
  have hgs : w.heap.size + 3 ≤ w'.heap.size := (Array.getElem?_eq_some_iff.1 g2).1
  have HF := Aside0.mk hF
  clear hF hb g0 g1 g2 c0 c1 c2 c3 c4 c5 c6 c7 c8
  go_wp2_with ((with_reducible refine gate_store (t := 28) (p := 4) rfl ?_); refine wpList_store_row rfl 28 (.tmp 4) (.tmp 16) rfl (w.heap.size + 2) (ftV nm k ax p.1 p.2.1 p.2.2 lo hi A' l.length c') rfl rfl 28 ft0 e2 (by kernel_rfl) rfl (by simp [Value.oneCell']) ?_)
  refine bodyPost_ret (results_ct rfl _ _ (w.heap.size + 2) 28 (ftV nm k ax p.1 p.2.1 p.2.2 lo hi A' l.length c') (0, 0) _ rfl (row_new e2) Try.underlying28 rfl (by kernel_rfl)) rfl ?_
  refine ⟨.slice A' l.length c', rfl, ⟨A', c', rfl, hle, ?_⟩, row_bel eB (by omega)⟩
  refine Kd.F_mono (ok := fun k => w'.heap.size ≤ k) ?_ (fun k hk => by omega)
  exact Kd.F_step HF.out (fun k hk _ => row_far (by omega))
end Go.Proofs.Ytkgdlbepjmgaiaa.Fea
namespace Go.Proofs.Ytkgdlbepjmgaiaa.Fea
open Go.RowKit Go.Proofs.YtkgdlbepjmgaiaaW.PrintWords Go.Proofs.YtkgdlbepjmgaiaaW.PrintLast Go.Proofs.YtkgdlbepjmgaiaaW.PrintMore
attribute [local go_sem] max2_int min2_int max_two min_two max_three min_three max_four min_four
set_option linter.unusedVariables false
set_option linter.unusedSimpArgs false
def feature_Mirror.f (a0_0 : ByteArray) (a0_1 : Int) (a0_2 : Int) (a0_3 : Int) (a0_4 : Int) (a0_5 : Int) (a0_6 : Int) (a0_7 : Int) (l0_8 : List (S104)) (a1 : Int) : Option (ByteArray × Int × Int × Int × Int × Int × Int × Int × (List (S104)) × Int) := if small l0_8 = true then some (if alongV a0_0 a0_1 a0_2 a0_3 a0_4 a0_5 a0_6 a0_7 a1 = 0 then (a0_0, a0_1, a0_2, (mir3 a0_3 a0_4 a0_5 a1).1, (mir3 a0_3 a0_4 a0_5 a1).2.1, (mir3 a0_3 a0_4 a0_5 a1).2.2, a0_6, a0_7, l0_8, (0 : Int)) else ((⟨#[]⟩ : ByteArray), (0 : Int), (0 : Int), (0 : Int), (0 : Int), (0 : Int), (0 : Int), (0 : Int), ([] : List (S104)), alongV a0_0 a0_1 a0_2 a0_3 a0_4 a0_5 a0_6 a0_7 a1)) else none
theorem feature_Mirror.calls (a0_0 : ByteArray) (a0_1 : Int) (a0_2 : Int) (a0_3 : Int) (a0_4 : Int) (a0_5 : Int) (a0_6 : Int) (a0_7 : Int) (A0_8 : Option Addr) (c0_8 : Nat) (l0_8 : List (S104)) (a1 : Int) (r1 : ByteArray) (r2 : Int) (r3 : Int) (r4 : Int) (r5 : Int) (r6 : Int) (r7 : Int) (r8 : Int) (r9 : List (S104)) (r10 : Int) (w : World) (hr0_8 : Kd.C k104 w A0_8 l0_8.length l0_8) (hc0_8 : l0_8.length ≤ c0_8) (h : feature_Mirror.f a0_0 a0_1 a0_2 a0_3 a0_4 a0_5 a0_6 a0_7 l0_8 a1 = some (r1, r2, r3, r4, r5, r6, r7, r8, r9, r10)) :
    Calls Try.prog 47 #[.agg #[.string a0_0, .int .i64 a0_1, .int .i64 a0_2, .int .i64 a0_3, .int .i64 a0_4, .int .i64 a0_5, .int .i64 a0_6, .int .i64 a0_7, .slice A0_8 l0_8.length c0_8], .int .i64 a1] w fun e w' => ∃ v8_ : Value, e = .returned (.tuple #[.agg #[.string r1, .int .i64 r2, .int .i64 r3, .int .i64 r4, .int .i64 r5, .int .i64 r6, .int .i64 r7, .int .i64 r8, v8_], .int .i64 r10]) ∧ Kd.V k104 104 w' w.heap.size (fun k_ => w.heap.size ≤ k_) v8_ r9 ∧ Below w.heap.size w w' := by
  unfold feature_Mirror.f at h
  split at h
  case isFalse => cases h
  rename_i hsm
  replace h := Option.some.inj h
  split at h
  · rename_i g
    simp only [Prod.mk.injEq] at h
    obtain ⟨rfl, rfl, rfl, rfl, rfl, rfl, rfl, rfl, rfl, rfl⟩ := h
    exact mirror_ok a0_0 a0_1 a0_2 a0_3 a0_4 a0_5 a0_6 a0_7 A0_8 c0_8 l0_8 a1 w hr0_8 hc0_8 hsm g
  · rename_i g
    simp only [Prod.mk.injEq] at h
    obtain ⟨rfl, rfl, rfl, rfl, rfl, rfl, rfl, rfl, rfl, rfl⟩ := h
    exact mirror_bad a0_0 a0_1 a0_2 a0_3 a0_4 a0_5 a0_6 a0_7 A0_8 c0_8 l0_8 a1 w hr0_8 hc0_8 g
end Go.Proofs.Ytkgdlbepjmgaiaa.Fea
set_option linter.unusedVariables false
set_option linter.unusedSimpArgs false
namespace Go.Proofs.Ytkgdlbepjmgaiaa.Fea
open Go.RowKit Go.Proofs.YtkgdlbepjmgaiaaW.PrintWords Go.Proofs.YtkgdlbepjmgaiaaW.PrintLast Go.Proofs.YtkgdlbepjmgaiaaW.PrintMore
def rightV (nm : ByteArray) (k ax x y z lo hi : Int) (l : List S104) : Bool := fewV nm l && (chkF nm k ax x y z lo hi == 0)
theorem right_ev (nm : ByteArray) (k ax x y z lo hi : Int) (l : List S104) : Ev (fun n => metrolablaw18_right.f n nm k ax x y z lo hi l) (rightV nm k ax x y z lo hi l) := by
  unfold metrolablaw18_right.f rightV
  refine Ev.bind (Few_ev nm k ax x y z lo hi l) ?_
  cases fewV nm l
  · exact Ev.e (by decide) (Ev.now _)
  · exact Ev.t rfl (Ev.bind (RCheck_ev nm k ax x y z lo hi l) (Ev.now _))
theorem small_few {nm : ByteArray} {l : List S104} (h : fewV nm l = true) : small l = true := by
  obtain ⟨h1, h2⟩ := fewV_small h
  simp only [small, Bool.and_eq_true, decide_eq_true_eq, List.all_eq_true]
  exact ⟨by omega, fun p hp => by have := h2 p hp; omega⟩
theorem turnAx_rng {k ax a : Int} (hx : 0 ≤ ax ∧ ax < 3) (ha : 0 ≤ a ∧ a < 3) : 0 ≤ turnAx k ax a ∧ turnAx k ax a < 3 := by
  unfold turnAx
  split
  · exact hx
  · split
    · omega
    · split <;> omega
theorem turn_Rgt {k ax x y z lo hi a : Int} (h : Rgt k ax x y z lo hi) (ha : 0 ≤ a ∧ a < 3) : Rgt k (turnAx k ax a) (turn3 x y z a).1 (turn3 x y z a).2.1 (turn3 x y z a).2.2 lo hi := by
  have hr := turnAx_rng (k := k) ⟨h.a1, h.a2⟩ ha
  have hx := h.x1; have hy := h.y1; have hz := h.z1
  refine ⟨h.k1, h.k2, hr.1, hr.2, fun h4 => ?_, ?_, ?_, ?_, h.plane, h.size⟩
  · unfold turnAx; rw [if_pos h4]; exact h.ball h4
  all_goals
    unfold turn3
    split
    · dsimp only; omega
    · split
      · dsimp only; omega
      · dsimp only; omega
theorem mir_Rgt {k ax x y z lo hi a : Int} (h : Rgt k ax x y z lo hi) : Rgt k ax (mir3 x y z a).1 (mir3 x y z a).2.1 (mir3 x y z a).2.2 lo hi := by
  have hx := h.x1; have hy := h.y1; have hz := h.z1
  refine ⟨h.k1, h.k2, h.a1, h.a2, h.ball, ?_, ?_, ?_, h.plane, h.size⟩
  all_goals
    unfold mir3
    split
    · dsimp only; omega
    · split
      · dsimp only; omega
      · dsimp only; omega
theorem Turn_eq {nm : ByteArray} {k ax x y z lo hi : Int} {l : List S104} {a : Int} (hs : small l = true) (hc : chkF nm k ax x y z lo hi = 0) (ha : 0 ≤ a ∧ a < 3) :
    feature_Turn.f nm k ax x y z lo hi l a = some (nm, k, turnAx k ax a, (turn3 x y z a).1, (turn3 x y z a).2.1, (turn3 x y z a).2.2, lo, hi, l, 0) := by
  unfold feature_Turn.f
  rw [if_pos hs, if_pos (alongV_ok.2 ⟨hc, ha⟩)]
theorem Mirror_eq {nm : ByteArray} {k ax x y z lo hi : Int} {l : List S104} {a : Int} (hs : small l = true) (hc : chkF nm k ax x y z lo hi = 0) (ha : 0 ≤ a ∧ a < 3) :
    feature_Mirror.f nm k ax x y z lo hi l a = some (nm, k, ax, (mir3 x y z a).1, (mir3 x y z a).2.1, (mir3 x y z a).2.2, lo, hi, l, 0) := by
  unfold feature_Mirror.f
  rw [if_pos hs, if_pos (alongV_ok.2 ⟨hc, ha⟩)]
theorem ap3 (f : Int → Bool) : apG f 0 3 = (f 0 || (f 1 || f 2)) := by
  show (if f 0 = true then true else if f 1 = true then true else if f 2 = true then true else false) = _
  cases f 0 <;> cases f 1 <;> cases f 2 <;> rfl
def gapV (x h y h' : Int) : Bool := decide (x + h < y - h') || decide (y + h' < x - h)
theorem gap_neg (x h y h' : Int) : gapV (-x) h (-y) h' = gapV x h y h' := by
  unfold gapV
  rw [Bool.eq_iff_iff]
  simp only [Bool.or_eq_true, decide_eq_true_eq]
  omega
theorem sepAt_gap (k ax x y z hi k' ax' x' y' z' hi' i : Int) : sepAt k ax x y z hi k' ax' x' y' z' hi' i = (bndV k ax i && (bndV k' ax' i && gapV (sel3 x y z i) (halfV hi) (sel3 x' y' z' i) (halfV hi'))) := rfl
theorem bnd_turn0 {k ax : Int} (hx : 0 ≤ ax ∧ ax < 3) : bndV k (turnAx k ax 0) 0 = bndV k ax 0 ∧ bndV k (turnAx k ax 0) 1 = bndV k ax 2 ∧ bndV k (turnAx k ax 0) 2 = bndV k ax 1 := by
  have h : ax = 0 ∨ ax = 1 ∨ ax = 2 := by omega
  unfold bndV turnAx
  by_cases h4 : k = 4
  · simp [h4]
  · by_cases h1 : k = 1 ∨ k = 2 <;> rcases h with rfl | rfl | rfl <;> simp [h4, h1]
theorem bnd_turn1 {k ax : Int} (hx : 0 ≤ ax ∧ ax < 3) : bndV k (turnAx k ax 1) 0 = bndV k ax 2 ∧ bndV k (turnAx k ax 1) 1 = bndV k ax 1 ∧ bndV k (turnAx k ax 1) 2 = bndV k ax 0 := by
  have h : ax = 0 ∨ ax = 1 ∨ ax = 2 := by omega
  unfold bndV turnAx
  by_cases h4 : k = 4
  · simp [h4]
  · by_cases h1 : k = 1 ∨ k = 2 <;> rcases h with rfl | rfl | rfl <;> simp [h4, h1]
theorem bnd_turn2 {k ax : Int} (hx : 0 ≤ ax ∧ ax < 3) : bndV k (turnAx k ax 2) 0 = bndV k ax 1 ∧ bndV k (turnAx k ax 2) 1 = bndV k ax 0 ∧ bndV k (turnAx k ax 2) 2 = bndV k ax 2 := by
  have h : ax = 0 ∨ ax = 1 ∨ ax = 2 := by omega
  unfold bndV turnAx
  by_cases h4 : k = 4
  · simp [h4]
  · by_cases h1 : k = 1 ∨ k = 2 <;> rcases h with rfl | rfl | rfl <;> simp [h4, h1]
theorem sep_turn {k ax x y z lo hi k' ax' x' y' z' lo' hi' a : Int} (h : Rgt k ax x y z lo hi) (h' : Rgt k' ax' x' y' z' lo' hi') (ha : 0 ≤ a ∧ a < 3) :
    apG (sepAt k (turnAx k ax a) (turn3 x y z a).1 (turn3 x y z a).2.1 (turn3 x y z a).2.2 hi k' (turnAx k' ax' a) (turn3 x' y' z' a).1 (turn3 x' y' z' a).2.1 (turn3 x' y' z' a).2.2 hi') 0 3 = apG (sepAt k ax x y z hi k' ax' x' y' z' hi') 0 3 := by
  rw [ap3, ap3]
  simp only [sepAt_gap]
  have hc : a = 0 ∨ a = 1 ∨ a = 2 := by omega
  rcases hc with rfl | rfl | rfl
  · obtain ⟨b0, b1, b2⟩ := bnd_turn0 (k := k) ⟨h.a1, h.a2⟩
    obtain ⟨c0, c1, c2⟩ := bnd_turn0 (k := k') ⟨h'.a1, h'.a2⟩
    rw [b0, b1, b2, c0, c1, c2]
    simp only [turn3, sel3, if_true, gap_neg]
    simp only [show ¬ (1 : Int) = 0 by decide, show ¬ (2 : Int) = 0 by decide, show ¬ (2 : Int) = 1 by decide, if_false, if_true, gap_neg]
    generalize (bndV k ax 0 && (bndV k' ax' 0 && gapV x (halfV hi) x' (halfV hi'))) = p
    generalize (bndV k ax 1 && (bndV k' ax' 1 && gapV y (halfV hi) y' (halfV hi'))) = q
    generalize (bndV k ax 2 && (bndV k' ax' 2 && gapV z (halfV hi) z' (halfV hi'))) = r
    cases p <;> cases q <;> cases r <;> rfl
  · obtain ⟨b0, b1, b2⟩ := bnd_turn1 (k := k) ⟨h.a1, h.a2⟩
    obtain ⟨c0, c1, c2⟩ := bnd_turn1 (k := k') ⟨h'.a1, h'.a2⟩
    rw [b0, b1, b2, c0, c1, c2]
    simp only [turn3, sel3, show ¬ (1 : Int) = 0 by decide, show ¬ (2 : Int) = 0 by decide, show ¬ (2 : Int) = 1 by decide, if_false, if_true, gap_neg]
    generalize (bndV k ax 0 && (bndV k' ax' 0 && gapV x (halfV hi) x' (halfV hi'))) = p
    generalize (bndV k ax 1 && (bndV k' ax' 1 && gapV y (halfV hi) y' (halfV hi'))) = q
    generalize (bndV k ax 2 && (bndV k' ax' 2 && gapV z (halfV hi) z' (halfV hi'))) = r
    cases p <;> cases q <;> cases r <;> rfl
  · obtain ⟨b0, b1, b2⟩ := bnd_turn2 (k := k) ⟨h.a1, h.a2⟩
    obtain ⟨c0, c1, c2⟩ := bnd_turn2 (k := k') ⟨h'.a1, h'.a2⟩
    rw [b0, b1, b2, c0, c1, c2]
    simp only [turn3, sel3, show ¬ (1 : Int) = 0 by decide, show ¬ (2 : Int) = 0 by decide, show ¬ (2 : Int) = 1 by decide, if_false, if_true, gap_neg]
    generalize (bndV k ax 0 && (bndV k' ax' 0 && gapV x (halfV hi) x' (halfV hi'))) = p
    generalize (bndV k ax 1 && (bndV k' ax' 1 && gapV y (halfV hi) y' (halfV hi'))) = q
    generalize (bndV k ax 2 && (bndV k' ax' 2 && gapV z (halfV hi) z' (halfV hi'))) = r
    cases p <;> cases q <;> cases r <;> rfl
theorem sep_mir {k ax x y z lo hi k' ax' x' y' z' lo' hi' a : Int} (ha : 0 ≤ a ∧ a < 3) :
    apG (sepAt k ax (mir3 x y z a).1 (mir3 x y z a).2.1 (mir3 x y z a).2.2 hi k' ax' (mir3 x' y' z' a).1 (mir3 x' y' z' a).2.1 (mir3 x' y' z' a).2.2 hi') 0 3 = apG (sepAt k ax x y z hi k' ax' x' y' z' hi') 0 3 := by
  rw [ap3, ap3]
  simp only [sepAt_gap]
  have hc : a = 0 ∨ a = 1 ∨ a = 2 := by omega
  rcases hc with rfl | rfl | rfl <;> simp only [mir3, sel3, show ¬ (1 : Int) = 0 by decide, show ¬ (2 : Int) = 0 by decide, show ¬ (2 : Int) = 1 by decide, if_false, if_true, gap_neg]
theorem reach_turn {nm : ByteArray} {k ax x y z lo hi a : Int} (hc : chkF nm k ax x y z lo hi = 0) (ha : 0 ≤ a ∧ a < 3) :
    reachV nm k (turnAx k ax a) (turn3 x y z a).1 (turn3 x y z a).2.1 (turn3 x y z a).2.2 lo hi a = reachV nm k ax x y z lo hi a := by
  have h := (chkF_ok.1 hc).2
  have e1 : alongV nm k ax x y z lo hi a = 0 := alongV_ok.2 ⟨hc, ha⟩
  have e2 : alongV nm k (turnAx k ax a) (turn3 x y z a).1 (turn3 x y z a).2.1 (turn3 x y z a).2.2 lo hi a = 0 := alongV_ok.2 ⟨chkF_ok.2 ⟨(chkF_ok.1 hc).1, turn_Rgt h ha⟩, ha⟩
  have e3 : bndV k (turnAx k ax a) a = bndV k ax a := by
    have hcs : a = 0 ∨ a = 1 ∨ a = 2 := by omega
    rcases hcs with rfl | rfl | rfl
    · exact (bnd_turn0 ⟨h.a1, h.a2⟩).1
    · exact (bnd_turn1 ⟨h.a1, h.a2⟩).2.1
    · exact (bnd_turn2 ⟨h.a1, h.a2⟩).2.2
  have e4 : sel3 (turn3 x y z a).1 (turn3 x y z a).2.1 (turn3 x y z a).2.2 a = sel3 x y z a := by
    have hcs : a = 0 ∨ a = 1 ∨ a = 2 := by omega
    rcases hcs with rfl | rfl | rfl <;> rfl
  unfold reachV
  rw [e1, e2, e3, e4]
end Go.Proofs.Ytkgdlbepjmgaiaa.Fea
namespace Go.Proofs.Ytkgdlbepjmgaiaa.Fea
open Go.RowKit Go.Proofs.YtkgdlbepjmgaiaaW.PrintWords Go.Proofs.YtkgdlbepjmgaiaaW.PrintLast Go.Proofs.YtkgdlbepjmgaiaaW.PrintMore
attribute [local go_sem] max2_int min2_int max_two min_two max_three min_three max_four min_four
set_option linter.unusedVariables false
set_option linter.unusedSimpArgs false
def feature_inner.f (a0 : Int) : Option (Bool) := if a0 = 1 then (some true) else (some (a0 == 3))
set_option maxHeartbeats 8000000 in
set_option maxRecDepth 100000 in
theorem feature_inner.calls (a0 : Int) (r : Bool) (w : World) (h : feature_inner.f a0 = some r) :
    Calls Try.prog 76 #[.int .i64 a0] w fun e w' => e = .returned (.bool r) ∧ Drawn0 w w' := by
  have H : (if a0 = 1 then (some true) else (some (a0 == 3))) = some r := h
  clear h
  by_cases c2 : a0 = 1
  · rw [if_pos c2] at H
    have c2b0 : (a0 == 1) = true := beq_iff_eq.mpr c2
    have c2b1 : (a0 != 1) = false := bne_eq_false_iff_eq.mpr c2
    clear c2
    obtain rfl := Option.some.inj H
    go_enter Try.func76, Try.ntmps76
    go_wp2
    go_ret
    exact ⟨by first | rfl | (simp; done) | (simp [*]; done), by repeat (first | exact Drawn0.refl _ | apply Drawn0.step)⟩
  · rw [if_neg c2] at H
    have c2b0 : (a0 == 1) = false := beq_eq_false_iff_ne.mpr c2
    have c2b1 : (a0 != 1) = true := bne_iff_ne.mpr c2
    obtain rfl := Option.some.inj H
    go_enter Try.func76, Try.ntmps76
    go_wp2
    go_ret
    exact ⟨by first | rfl | (simp; done) | (simp [*]; done), by repeat (first | exact Drawn0.refl _ | apply Drawn0.step)⟩
end Go.Proofs.Ytkgdlbepjmgaiaa.Fea
namespace Go.Proofs.Ytkgdlbepjmgaiaa.Fea
open Go.RowKit Go.Proofs.YtkgdlbepjmgaiaaW.PrintWords Go.Proofs.YtkgdlbepjmgaiaaW.PrintLast Go.Proofs.YtkgdlbepjmgaiaaW.PrintMore
attribute [local go_sem] max2_int min2_int max_two min_two max_three min_three max_four min_four
set_option linter.unusedVariables false
set_option linter.unusedSimpArgs false
def feature_extreme.f (k : Nat) (a0_0 : ByteArray) (a0_1 : Int) (a0_2 : Int) (a0_3 : Int) (a0_4 : Int) (a0_5 : Int) (a0_6 : Int) (a0_7 : Int) (l0_8 : List (S104)) (a1 : Bool) : Option (Int × Int) := (feature_Check.f k a0_0 a0_1 a0_2 a0_3 a0_4 a0_5 a0_6 a0_7 l0_8).bind fun t145 => (if t145 = 0 then (if a0_1 = 0 then (some (0, 14)) else (if a1 = true then (some (a0_6, 0)) else (some (a0_7, 0)))) else (some (0, t145)))
theorem feature_extreme.mono : ∀ a0 a1 a2 a3 a4 a5 a6 a7 a8 a9 k, LeO (feature_extreme.f k a0 a1 a2 a3 a4 a5 a6 a7 a8 a9) (feature_extreme.f (k + 1) a0 a1 a2 a3 a4 a5 a6 a7 a8 a9) := by
 intro a0 a1 a2 a3 a4 a5 a6 a7 a8 a9 k
 unfold feature_extreme.f
 repeat' first
  | (with_reducible exact feature_Check.mono _ _ _ _ _ _ _ _ _ _)
  | (with_reducible exact LeO.refl _)
  | (with_reducible exact LeO.none _)
  | (with_reducible refine LeO.ite ?_ ?_)
  | (with_reducible refine LeO.bind ?_ (fun _ => ?_))
  | exact feature_Check.mono _ _ _ _ _ _ _ _ _ _
  | exact LeO.none _
  | refine LeO.ite ?_ ?_
  | refine LeO.bind ?_ (fun _ => ?_)
set_option maxHeartbeats 8000000 in
set_option maxRecDepth 100000 in
theorem feature_extreme.calls (k : Nat) (a0_0 : ByteArray) (a0_1 : Int) (a0_2 : Int) (a0_3 : Int) (a0_4 : Int) (a0_5 : Int) (a0_6 : Int) (a0_7 : Int) (A0_8 : Option Addr) (c0_8 : Nat) (l0_8 : List (S104)) (a1 : Bool) (r1 : Int) (r2 : Int) (w : World) (hr0_8 : Kd.C k104 w A0_8 l0_8.length l0_8) (hc0_8 : l0_8.length ≤ c0_8) (h : feature_extreme.f k a0_0 a0_1 a0_2 a0_3 a0_4 a0_5 a0_6 a0_7 l0_8 a1 = some (r1, r2)) :
 Calls Try.prog 78 #[.agg #[.string a0_0, .int .i64 a0_1, .int .i64 a0_2, .int .i64 a0_3, .int .i64 a0_4, .int .i64 a0_5, .int .i64 a0_6, .int .i64 a0_7, .slice A0_8 l0_8.length c0_8], .bool a1] w fun e w' => e = .returned (.tuple #[.int .i64 r1, .int .i64 r2]) ∧ Below w.heap.size w w' := by
 have hu28 := Try.underlying28
 have HR0_8 := zm hr0_8
 have HC0_8 := zm hc0_8
 clear hr0_8 hc0_8
 have HB := zm (Below.refl w.heap.size w)
 have H : ((feature_Check.f k a0_0 a0_1 a0_2 a0_3 a0_4 a0_5 a0_6 a0_7 l0_8).bind fun t145 => (if t145 = 0 then (if a0_1 = 0 then (some (0, 14)) else (if a1 = true then (some (a0_6, 0)) else (some (a0_7, 0)))) else (some (0, t145)))) = some (r1, r2) := h
 clear h
 replace H := Option.bind_eq_some_iff.mp H
 obtain ⟨t145, A30, H⟩ := H
 replace H : (if t145 = 0 then (if a0_1 = 0 then (some (0, 14)) else (if a1 = true then (some (a0_6, 0)) else (some (a0_7, 0)))) else (some (0, t145))) = some (r1, r2) := H
 have A3 := zm A30
 clear A30
 by_cases c4 : t145 = 0
 ·rw [if_pos c4] at H
  have c4b0 : (t145 == 0) = true := beq_iff_eq.mpr c4
  have c4b1 : (t145 != 0) = false := bne_eq_false_iff_eq.mpr c4
  clear c4
  by_cases c5 : a0_1 = 0
  ·rw [if_pos c5] at H
   have c5b0 : (a0_1 == 0) = true := beq_iff_eq.mpr c5
   have c5b1 : (a0_1 != 0) = false := bne_eq_false_iff_eq.mpr c5
   clear c5
   simp only [Option.some.injEq, Prod.mk.injEq] at H
   obtain ⟨rfl, rfl⟩ := H
   go_enter Try.func78, Try.ntmps78
   go_wp2_with (first | ((with_reducible refine gate_dst (N := 2) rfl ?_); refine box_event ?hg (N := 2) ?hd (cs := #[.string a0_0, .int .i64 a0_1, .int .i64 a0_2, .int .i64 a0_3, .int .i64 a0_4, .int .i64 a0_5, .int .i64 a0_6, .int .i64 a0_7, .slice A0_8 l0_8.length c0_8]) (t := 28) ?hr ?_; (case hd => rfl); (case hg => rfl); (case hr => first | (go_simp; done) | (go_simp; rfl)); intro gb144 hg w6 hbox hb; have n0_ := zm (below_step (by repeat (first | (with_reducible first | exact HB.out | apply zA | apply zD | apply zE) | exact HB.out)) hb); have n1_ := zm (hbox); have n2_ := zm ((by rw [hg]; exact (below_size (by repeat (first | (with_reducible first | exact HB.out | apply zA | apply zD | apply zE) | exact HB.out))) : w.heap.size ≤ gb144)); have n3_ := zm ((by rw [hg]; exact (below_size (by repeat (first | (with_reducible first | exact HB.out | apply zA | apply zD | apply zE) | exact HB.out))) : w.heap.size ≤ gb144)); clear HB; have HB := n0_; have BK144 := n1_; have GW144 := n2_; have GE144 := n3_; clear n0_ n1_ n2_ n3_; clear hb hbox hg; have hcz7_0 := zc BK144.out 0 (.string a0_0) rfl; have hcz7_1 := zc BK144.out 1 (.int .i64 a0_1) rfl; have hcz7_2 := zc BK144.out 2 (.int .i64 a0_2) rfl; have hcz7_3 := zc BK144.out 3 (.int .i64 a0_3) rfl; have hcz7_4 := zc BK144.out 4 (.int .i64 a0_4) rfl; have hcz7_5 := zc BK144.out 5 (.int .i64 a0_5) rfl; have hcz7_6 := zc BK144.out 6 (.int .i64 a0_6) rfl; have hcz7_7 := zc BK144.out 7 (.int .i64 a0_7) rfl; have hcz7_8 := zc BK144.out 8 (.slice A0_8 l0_8.length c0_8) rfl; have hfz7_0 := zf BK144.out 0; have hfz7_1 := zf BK144.out 1; have hfz7_2 := zf BK144.out 2; have hfz7_3 := zf BK144.out 3; have hfz7_4 := zf BK144.out 4; have hfz7_5 := zf BK144.out 5; have hfz7_6 := zf BK144.out 6; have hfz7_7 := zf BK144.out 7; have hfz7_8 := zf BK144.out 8) | ((with_reducible refine gate_callee (f := 29) rfl ?_); refine goesL_ (some 8) rfl rfl Try.func29 (by kernel_rfl) rfl #[.agg #[.string a0_0, .int .i64 a0_1, .int .i64 a0_2, .int .i64 a0_3, .int .i64 a0_4, .int .i64 a0_5, .int .i64 a0_6, .int .i64 a0_7, .slice A0_8 l0_8.length c0_8]] rfl (by (try simp only [List.map_toArray, List.map_cons, List.map_nil]); first | done | rfl | (simp only [List.length_drop, List.length_take]; rfl)) ?_; (with_reducible refine (feature_Check.calls k a0_0 a0_1 a0_2 a0_3 a0_4 a0_5 a0_6 a0_7 _ _ l0_8 t145 _ ?side1 ?side2 A3.out).mono ?_); (case side1 => repeat (first | exact (Kd.C_below HR0_8.out HB.out) | (with_reducible refine Kd.C_alloc ?_ _) | (with_reducible refine Kd.C_drewN ?_ _) | (with_reducible refine Kd.C_drew ?_))); (case side2 => exact HC0_8.out); rintro e w8 ⟨rfl, hb⟩; refine ⟨_, rfl, ?_⟩; have n0_ := zm (zb (g := gb144) (o := .cells #[.string a0_0, .int .i64 a0_1, .int .i64 a0_2, .int .i64 a0_3, .int .i64 a0_4, .int .i64 a0_5, .int .i64 a0_6, .int .i64 a0_7, .slice A0_8 l0_8.length c0_8] 28 (0, 0)) (by (with_reducible repeat first | apply zd | apply ze | apply za); exact BK144.out) hb); have n1_ := zm (below_step (by repeat (first | (with_reducible first | exact HB.out | apply zA | apply zD | apply zE | refine zS ?_ GE144.out) | exact HB.out)) hb); clear BK144 HB; have BK144 := n0_; have HB := n1_; clear n0_ n1_; (try clear hb); (try clear hb2); (try clear hk); (try clear hi); have hcz9_0 := zc BK144.out 0 (.string a0_0) rfl; have hcz9_1 := zc BK144.out 1 (.int .i64 a0_1) rfl; have hcz9_2 := zc BK144.out 2 (.int .i64 a0_2) rfl; have hcz9_3 := zc BK144.out 3 (.int .i64 a0_3) rfl; have hcz9_4 := zc BK144.out 4 (.int .i64 a0_4) rfl; have hcz9_5 := zc BK144.out 5 (.int .i64 a0_5) rfl; have hcz9_6 := zc BK144.out 6 (.int .i64 a0_6) rfl; have hcz9_7 := zc BK144.out 7 (.int .i64 a0_7) rfl; have hcz9_8 := zc BK144.out 8 (.slice A0_8 l0_8.length c0_8) rfl; have hfz9_0 := zf BK144.out 0; have hfz9_1 := zf BK144.out 1; have hfz9_2 := zf BK144.out 2; have hfz9_3 := zf BK144.out 3; have hfz9_4 := zf BK144.out 4; have hfz9_5 := zf BK144.out 5; have hfz9_6 := zf BK144.out 6; have hfz9_7 := zf BK144.out 7; have hfz9_8 := zf BK144.out 8))
   go_ret2
   exact ⟨by first | rfl | (simp [errW_none, errW_some] <;> rfl) | (simp [*, errW_none, errW_some] <;> rfl), by repeat (first | (with_reducible first | exact HB.out | apply zA | apply zD | apply zE | refine zS ?_ GE144.out) | exact HB.out)⟩
  ·rw [if_neg c5] at H
   have c5b0 : (a0_1 == 0) = false := beq_eq_false_iff_ne.mpr c5
   have c5b1 : (a0_1 != 0) = true := bne_iff_ne.mpr c5
   by_cases c10 : a1 = true
   ·subst c10
    have H1 : (some (a0_6, 0)) = some (r1, r2) := by rw [if_pos rfl] at H; exact H
    clear H
    have H := H1
    clear H1
    simp only [Option.some.injEq, Prod.mk.injEq] at H
    obtain ⟨rfl, rfl⟩ := H
    go_enter Try.func78, Try.ntmps78
    go_wp2_with (first | ((with_reducible refine gate_dst (N := 2) rfl ?_); refine box_event ?hg (N := 2) ?hd (cs := #[.string a0_0, .int .i64 a0_1, .int .i64 a0_2, .int .i64 a0_3, .int .i64 a0_4, .int .i64 a0_5, .int .i64 a0_6, .int .i64 a0_7, .slice A0_8 l0_8.length c0_8]) (t := 28) ?hr ?_; (case hd => rfl); (case hg => rfl); (case hr => first | (go_simp; done) | (go_simp; rfl)); intro gb144 hg w11 hbox hb; have n0_ := zm (below_step (by repeat (first | (with_reducible first | exact HB.out | apply zA | apply zD | apply zE) | exact HB.out)) hb); have n1_ := zm (hbox); have n2_ := zm ((by rw [hg]; exact (below_size (by repeat (first | (with_reducible first | exact HB.out | apply zA | apply zD | apply zE) | exact HB.out))) : w.heap.size ≤ gb144)); have n3_ := zm ((by rw [hg]; exact (below_size (by repeat (first | (with_reducible first | exact HB.out | apply zA | apply zD | apply zE) | exact HB.out))) : w.heap.size ≤ gb144)); clear HB; have HB := n0_; have BK144 := n1_; have GW144 := n2_; have GE144 := n3_; clear n0_ n1_ n2_ n3_; clear hb hbox hg; have hcz12_0 := zc BK144.out 0 (.string a0_0) rfl; have hcz12_1 := zc BK144.out 1 (.int .i64 a0_1) rfl; have hcz12_2 := zc BK144.out 2 (.int .i64 a0_2) rfl; have hcz12_3 := zc BK144.out 3 (.int .i64 a0_3) rfl; have hcz12_4 := zc BK144.out 4 (.int .i64 a0_4) rfl; have hcz12_5 := zc BK144.out 5 (.int .i64 a0_5) rfl; have hcz12_6 := zc BK144.out 6 (.int .i64 a0_6) rfl; have hcz12_7 := zc BK144.out 7 (.int .i64 a0_7) rfl; have hcz12_8 := zc BK144.out 8 (.slice A0_8 l0_8.length c0_8) rfl; have hfz12_0 := zf BK144.out 0; have hfz12_1 := zf BK144.out 1; have hfz12_2 := zf BK144.out 2; have hfz12_3 := zf BK144.out 3; have hfz12_4 := zf BK144.out 4; have hfz12_5 := zf BK144.out 5; have hfz12_6 := zf BK144.out 6; have hfz12_7 := zf BK144.out 7; have hfz12_8 := zf BK144.out 8) | ((with_reducible refine gate_callee (f := 29) rfl ?_); refine goesL_ (some 8) rfl rfl Try.func29 (by kernel_rfl) rfl #[.agg #[.string a0_0, .int .i64 a0_1, .int .i64 a0_2, .int .i64 a0_3, .int .i64 a0_4, .int .i64 a0_5, .int .i64 a0_6, .int .i64 a0_7, .slice A0_8 l0_8.length c0_8]] rfl (by (try simp only [List.map_toArray, List.map_cons, List.map_nil]); first | done | rfl | (simp only [List.length_drop, List.length_take]; rfl)) ?_; (with_reducible refine (feature_Check.calls k a0_0 a0_1 a0_2 a0_3 a0_4 a0_5 a0_6 a0_7 _ _ l0_8 t145 _ ?side1 ?side2 A3.out).mono ?_); (case side1 => repeat (first | exact (Kd.C_below HR0_8.out HB.out) | (with_reducible refine Kd.C_alloc ?_ _) | (with_reducible refine Kd.C_drewN ?_ _) | (with_reducible refine Kd.C_drew ?_))); (case side2 => exact HC0_8.out); rintro e w13 ⟨rfl, hb⟩; refine ⟨_, rfl, ?_⟩; have n0_ := zm (zb (g := gb144) (o := .cells #[.string a0_0, .int .i64 a0_1, .int .i64 a0_2, .int .i64 a0_3, .int .i64 a0_4, .int .i64 a0_5, .int .i64 a0_6, .int .i64 a0_7, .slice A0_8 l0_8.length c0_8] 28 (0, 0)) (by (with_reducible repeat first | apply zd | apply ze | apply za); exact BK144.out) hb); have n1_ := zm (below_step (by repeat (first | (with_reducible first | exact HB.out | apply zA | apply zD | apply zE | refine zS ?_ GE144.out) | exact HB.out)) hb); clear BK144 HB; have BK144 := n0_; have HB := n1_; clear n0_ n1_; (try clear hb); (try clear hb2); (try clear hk); (try clear hi); have hcz14_0 := zc BK144.out 0 (.string a0_0) rfl; have hcz14_1 := zc BK144.out 1 (.int .i64 a0_1) rfl; have hcz14_2 := zc BK144.out 2 (.int .i64 a0_2) rfl; have hcz14_3 := zc BK144.out 3 (.int .i64 a0_3) rfl; have hcz14_4 := zc BK144.out 4 (.int .i64 a0_4) rfl; have hcz14_5 := zc BK144.out 5 (.int .i64 a0_5) rfl; have hcz14_6 := zc BK144.out 6 (.int .i64 a0_6) rfl; have hcz14_7 := zc BK144.out 7 (.int .i64 a0_7) rfl; have hcz14_8 := zc BK144.out 8 (.slice A0_8 l0_8.length c0_8) rfl; have hfz14_0 := zf BK144.out 0; have hfz14_1 := zf BK144.out 1; have hfz14_2 := zf BK144.out 2; have hfz14_3 := zf BK144.out 3; have hfz14_4 := zf BK144.out 4; have hfz14_5 := zf BK144.out 5; have hfz14_6 := zf BK144.out 6; have hfz14_7 := zf BK144.out 7; have hfz14_8 := zf BK144.out 8))
    go_ret2
    exact ⟨by first | rfl | (simp [errW_none, errW_some] <;> rfl) | (simp [*, errW_none, errW_some] <;> rfl), by repeat (first | (with_reducible first | exact HB.out | apply zA | apply zD | apply zE | refine zS ?_ GE144.out) | exact HB.out)⟩
   ·replace c10 := Bool.eq_false_iff.mpr c10
    subst c10
    have H1 : (some (a0_7, 0)) = some (r1, r2) := by rw [if_neg (show ¬ (false = true) by decide)] at H; exact H
    clear H
    have H := H1
    clear H1
    simp only [Option.some.injEq, Prod.mk.injEq] at H
    obtain ⟨rfl, rfl⟩ := H
    go_enter Try.func78, Try.ntmps78
    go_wp2_with (first | ((with_reducible refine gate_dst (N := 2) rfl ?_); refine box_event ?hg (N := 2) ?hd (cs := #[.string a0_0, .int .i64 a0_1, .int .i64 a0_2, .int .i64 a0_3, .int .i64 a0_4, .int .i64 a0_5, .int .i64 a0_6, .int .i64 a0_7, .slice A0_8 l0_8.length c0_8]) (t := 28) ?hr ?_; (case hd => rfl); (case hg => rfl); (case hr => first | (go_simp; done) | (go_simp; rfl)); intro gb144 hg w15 hbox hb; have n0_ := zm (below_step (by repeat (first | (with_reducible first | exact HB.out | apply zA | apply zD | apply zE) | exact HB.out)) hb); have n1_ := zm (hbox); have n2_ := zm ((by rw [hg]; exact (below_size (by repeat (first | (with_reducible first | exact HB.out | apply zA | apply zD | apply zE) | exact HB.out))) : w.heap.size ≤ gb144)); have n3_ := zm ((by rw [hg]; exact (below_size (by repeat (first | (with_reducible first | exact HB.out | apply zA | apply zD | apply zE) | exact HB.out))) : w.heap.size ≤ gb144)); clear HB; have HB := n0_; have BK144 := n1_; have GW144 := n2_; have GE144 := n3_; clear n0_ n1_ n2_ n3_; clear hb hbox hg; have hcz16_0 := zc BK144.out 0 (.string a0_0) rfl; have hcz16_1 := zc BK144.out 1 (.int .i64 a0_1) rfl; have hcz16_2 := zc BK144.out 2 (.int .i64 a0_2) rfl; have hcz16_3 := zc BK144.out 3 (.int .i64 a0_3) rfl; have hcz16_4 := zc BK144.out 4 (.int .i64 a0_4) rfl; have hcz16_5 := zc BK144.out 5 (.int .i64 a0_5) rfl; have hcz16_6 := zc BK144.out 6 (.int .i64 a0_6) rfl; have hcz16_7 := zc BK144.out 7 (.int .i64 a0_7) rfl; have hcz16_8 := zc BK144.out 8 (.slice A0_8 l0_8.length c0_8) rfl; have hfz16_0 := zf BK144.out 0; have hfz16_1 := zf BK144.out 1; have hfz16_2 := zf BK144.out 2; have hfz16_3 := zf BK144.out 3; have hfz16_4 := zf BK144.out 4; have hfz16_5 := zf BK144.out 5; have hfz16_6 := zf BK144.out 6; have hfz16_7 := zf BK144.out 7; have hfz16_8 := zf BK144.out 8) | ((with_reducible refine gate_callee (f := 29) rfl ?_); refine goesL_ (some 8) rfl rfl Try.func29 (by kernel_rfl) rfl #[.agg #[.string a0_0, .int .i64 a0_1, .int .i64 a0_2, .int .i64 a0_3, .int .i64 a0_4, .int .i64 a0_5, .int .i64 a0_6, .int .i64 a0_7, .slice A0_8 l0_8.length c0_8]] rfl (by (try simp only [List.map_toArray, List.map_cons, List.map_nil]); first | done | rfl | (simp only [List.length_drop, List.length_take]; rfl)) ?_; (with_reducible refine (feature_Check.calls k a0_0 a0_1 a0_2 a0_3 a0_4 a0_5 a0_6 a0_7 _ _ l0_8 t145 _ ?side1 ?side2 A3.out).mono ?_); (case side1 => repeat (first | exact (Kd.C_below HR0_8.out HB.out) | (with_reducible refine Kd.C_alloc ?_ _) | (with_reducible refine Kd.C_drewN ?_ _) | (with_reducible refine Kd.C_drew ?_))); (case side2 => exact HC0_8.out); rintro e w17 ⟨rfl, hb⟩; refine ⟨_, rfl, ?_⟩; have n0_ := zm (zb (g := gb144) (o := .cells #[.string a0_0, .int .i64 a0_1, .int .i64 a0_2, .int .i64 a0_3, .int .i64 a0_4, .int .i64 a0_5, .int .i64 a0_6, .int .i64 a0_7, .slice A0_8 l0_8.length c0_8] 28 (0, 0)) (by (with_reducible repeat first | apply zd | apply ze | apply za); exact BK144.out) hb); have n1_ := zm (below_step (by repeat (first | (with_reducible first | exact HB.out | apply zA | apply zD | apply zE | refine zS ?_ GE144.out) | exact HB.out)) hb); clear BK144 HB; have BK144 := n0_; have HB := n1_; clear n0_ n1_; (try clear hb); (try clear hb2); (try clear hk); (try clear hi); have hcz18_0 := zc BK144.out 0 (.string a0_0) rfl; have hcz18_1 := zc BK144.out 1 (.int .i64 a0_1) rfl; have hcz18_2 := zc BK144.out 2 (.int .i64 a0_2) rfl; have hcz18_3 := zc BK144.out 3 (.int .i64 a0_3) rfl; have hcz18_4 := zc BK144.out 4 (.int .i64 a0_4) rfl; have hcz18_5 := zc BK144.out 5 (.int .i64 a0_5) rfl; have hcz18_6 := zc BK144.out 6 (.int .i64 a0_6) rfl; have hcz18_7 := zc BK144.out 7 (.int .i64 a0_7) rfl; have hcz18_8 := zc BK144.out 8 (.slice A0_8 l0_8.length c0_8) rfl; have hfz18_0 := zf BK144.out 0; have hfz18_1 := zf BK144.out 1; have hfz18_2 := zf BK144.out 2; have hfz18_3 := zf BK144.out 3; have hfz18_4 := zf BK144.out 4; have hfz18_5 := zf BK144.out 5; have hfz18_6 := zf BK144.out 6; have hfz18_7 := zf BK144.out 7; have hfz18_8 := zf BK144.out 8))
    go_ret2
    exact ⟨by first | rfl | (simp [errW_none, errW_some] <;> rfl) | (simp [*, errW_none, errW_some] <;> rfl), by repeat (first | (with_reducible first | exact HB.out | apply zA | apply zD | apply zE | refine zS ?_ GE144.out) | exact HB.out)⟩
 ·rw [if_neg c4] at H
  have c4b0 : (t145 == 0) = false := beq_eq_false_iff_ne.mpr c4
  have c4b1 : (t145 != 0) = true := bne_iff_ne.mpr c4
  simp only [Option.some.injEq, Prod.mk.injEq] at H
  obtain ⟨rfl, rfl⟩ := H
  go_enter Try.func78, Try.ntmps78
  go_wp2_with (first | ((with_reducible refine gate_dst (N := 2) rfl ?_); refine box_event ?hg (N := 2) ?hd (cs := #[.string a0_0, .int .i64 a0_1, .int .i64 a0_2, .int .i64 a0_3, .int .i64 a0_4, .int .i64 a0_5, .int .i64 a0_6, .int .i64 a0_7, .slice A0_8 l0_8.length c0_8]) (t := 28) ?hr ?_; (case hd => rfl); (case hg => rfl); (case hr => first | (go_simp; done) | (go_simp; rfl)); intro gb144 hg w19 hbox hb; have n0_ := zm (below_step (by repeat (first | (with_reducible first | exact HB.out | apply zA | apply zD | apply zE) | exact HB.out)) hb); have n1_ := zm (hbox); have n2_ := zm ((by rw [hg]; exact (below_size (by repeat (first | (with_reducible first | exact HB.out | apply zA | apply zD | apply zE) | exact HB.out))) : w.heap.size ≤ gb144)); have n3_ := zm ((by rw [hg]; exact (below_size (by repeat (first | (with_reducible first | exact HB.out | apply zA | apply zD | apply zE) | exact HB.out))) : w.heap.size ≤ gb144)); clear HB; have HB := n0_; have BK144 := n1_; have GW144 := n2_; have GE144 := n3_; clear n0_ n1_ n2_ n3_; clear hb hbox hg; have hcz20_0 := zc BK144.out 0 (.string a0_0) rfl; have hcz20_1 := zc BK144.out 1 (.int .i64 a0_1) rfl; have hcz20_2 := zc BK144.out 2 (.int .i64 a0_2) rfl; have hcz20_3 := zc BK144.out 3 (.int .i64 a0_3) rfl; have hcz20_4 := zc BK144.out 4 (.int .i64 a0_4) rfl; have hcz20_5 := zc BK144.out 5 (.int .i64 a0_5) rfl; have hcz20_6 := zc BK144.out 6 (.int .i64 a0_6) rfl; have hcz20_7 := zc BK144.out 7 (.int .i64 a0_7) rfl; have hcz20_8 := zc BK144.out 8 (.slice A0_8 l0_8.length c0_8) rfl; have hfz20_0 := zf BK144.out 0; have hfz20_1 := zf BK144.out 1; have hfz20_2 := zf BK144.out 2; have hfz20_3 := zf BK144.out 3; have hfz20_4 := zf BK144.out 4; have hfz20_5 := zf BK144.out 5; have hfz20_6 := zf BK144.out 6; have hfz20_7 := zf BK144.out 7; have hfz20_8 := zf BK144.out 8) | ((with_reducible refine gate_callee (f := 29) rfl ?_); refine goesL_ (some 8) rfl rfl Try.func29 (by kernel_rfl) rfl #[.agg #[.string a0_0, .int .i64 a0_1, .int .i64 a0_2, .int .i64 a0_3, .int .i64 a0_4, .int .i64 a0_5, .int .i64 a0_6, .int .i64 a0_7, .slice A0_8 l0_8.length c0_8]] rfl (by (try simp only [List.map_toArray, List.map_cons, List.map_nil]); first | done | rfl | (simp only [List.length_drop, List.length_take]; rfl)) ?_; (with_reducible refine (feature_Check.calls k a0_0 a0_1 a0_2 a0_3 a0_4 a0_5 a0_6 a0_7 _ _ l0_8 t145 _ ?side1 ?side2 A3.out).mono ?_); (case side1 => repeat (first | exact (Kd.C_below HR0_8.out HB.out) | (with_reducible refine Kd.C_alloc ?_ _) | (with_reducible refine Kd.C_drewN ?_ _) | (with_reducible refine Kd.C_drew ?_))); (case side2 => exact HC0_8.out); rintro e w21 ⟨rfl, hb⟩; refine ⟨_, rfl, ?_⟩; have n0_ := zm (zb (g := gb144) (o := .cells #[.string a0_0, .int .i64 a0_1, .int .i64 a0_2, .int .i64 a0_3, .int .i64 a0_4, .int .i64 a0_5, .int .i64 a0_6, .int .i64 a0_7, .slice A0_8 l0_8.length c0_8] 28 (0, 0)) (by (with_reducible repeat first | apply zd | apply ze | apply za); exact BK144.out) hb); have n1_ := zm (below_step (by repeat (first | (with_reducible first | exact HB.out | apply zA | apply zD | apply zE | refine zS ?_ GE144.out) | exact HB.out)) hb); clear BK144 HB; have BK144 := n0_; have HB := n1_; clear n0_ n1_; (try clear hb); (try clear hb2); (try clear hk); (try clear hi)))
  go_ret2
  exact ⟨by first | rfl | (simp [errW_none, errW_some] <;> rfl) | (simp [*, errW_none, errW_some] <;> rfl), by repeat (first | (with_reducible first | exact HB.out | apply zA | apply zD | apply zE | refine zS ?_ GE144.out) | exact HB.out)⟩
end Go.Proofs.Ytkgdlbepjmgaiaa.Fea
namespace Go.Proofs.Ytkgdlbepjmgaiaa.Fea
open Go.RowKit Go.Proofs.YtkgdlbepjmgaiaaW.PrintWords Go.Proofs.YtkgdlbepjmgaiaaW.PrintLast Go.Proofs.YtkgdlbepjmgaiaaW.PrintMore
attribute [local go_sem] max2_int min2_int max_two min_two max_three min_three max_four min_four
set_option linter.unusedVariables false
set_option linter.unusedSimpArgs false
def feature_Maximum.f (k : Nat) (a0_0 : ByteArray) (a0_1 : Int) (a0_2 : Int) (a0_3 : Int) (a0_4 : Int) (a0_5 : Int) (a0_6 : Int) (a0_7 : Int) (l0_8 : List (S104)) : Option (Int × Int) := (feature_inner.f a0_1).bind fun t147 => ((feature_extreme.f k a0_0 a0_1 a0_2 a0_3 a0_4 a0_5 a0_6 a0_7 l0_8 t147).bind fun bt148 => (some (bt148.1, bt148.2)))
theorem feature_Maximum.mono : ∀ a0 a1 a2 a3 a4 a5 a6 a7 a8 k, LeO (feature_Maximum.f k a0 a1 a2 a3 a4 a5 a6 a7 a8) (feature_Maximum.f (k + 1) a0 a1 a2 a3 a4 a5 a6 a7 a8) := by
 intro a0 a1 a2 a3 a4 a5 a6 a7 a8 k
 unfold feature_Maximum.f
 repeat' first
  | (with_reducible exact feature_extreme.mono _ _ _ _ _ _ _ _ _ _ _)
  | (with_reducible exact LeO.refl _)
  | (with_reducible exact LeO.none _)
  | (with_reducible refine LeO.ite ?_ ?_)
  | (with_reducible refine LeO.bind ?_ (fun _ => ?_))
  | exact feature_extreme.mono _ _ _ _ _ _ _ _ _ _ _
  | exact LeO.none _
  | refine LeO.ite ?_ ?_
  | refine LeO.bind ?_ (fun _ => ?_)
def feature_Maximum.T1 : Bool × List (List Nat × List Nat) := (true, [([], []), ([], []), ([1], [1]), ([2], [2]), ([0, 3, 3], [0, 3]), ([4], [4]), ([4], [4]), ([5, 4, 0, 1, 2, 3, 4, 5, 6], [5]), ([6, 7, 0, 1, 2, 3, 4, 5, 6, 7], [6])])
def feature_Maximum.B1 : List Nat := [0, 0, 2, 6, 15, 31, 31, 127, 255]
theorem feature_Maximum.tab1 : rtab .any (opsOf Try.f25 1) = feature_Maximum.T1 := by kernel_rfl
theorem feature_Maximum.bits1 : waitsOk feature_Maximum.T1.2 feature_Maximum.B1 = true := by kernel_rfl
set_option maxHeartbeats 8000000 in
set_option maxRecDepth 100000 in
theorem feature_Maximum.calls (k : Nat) (a0_0 : ByteArray) (a0_1 : Int) (a0_2 : Int) (a0_3 : Int) (a0_4 : Int) (a0_5 : Int) (a0_6 : Int) (a0_7 : Int) (A0_8 : Option Addr) (c0_8 : Nat) (l0_8 : List (S104)) (r1 : Int) (r2 : Int) (w : World) (hr0_8 : Kd.C k104 w A0_8 l0_8.length l0_8) (hc0_8 : l0_8.length ≤ c0_8) (h : feature_Maximum.f k a0_0 a0_1 a0_2 a0_3 a0_4 a0_5 a0_6 a0_7 l0_8 = some (r1, r2)) :
 Calls Try.prog 25 #[.agg #[.string a0_0, .int .i64 a0_1, .int .i64 a0_2, .int .i64 a0_3, .int .i64 a0_4, .int .i64 a0_5, .int .i64 a0_6, .int .i64 a0_7, .slice A0_8 l0_8.length c0_8]] w fun e w' => e = .returned (.tuple #[.int .i64 r1, .int .i64 r2]) ∧ Below w.heap.size w w' := by
 have hu28 := Try.underlying28
 have HR0_8 := zm hr0_8
 have HC0_8 := zm hc0_8
 clear hr0_8 hc0_8
 have HB := zm (Below.refl w.heap.size w)
 have H : ((feature_inner.f a0_1).bind fun t147 => ((feature_extreme.f k a0_0 a0_1 a0_2 a0_3 a0_4 a0_5 a0_6 a0_7 l0_8 t147).bind fun bt148 => (some (bt148.1, bt148.2)))) = some (r1, r2) := h
 clear h
 replace H := Option.bind_eq_some_iff.mp H
 obtain ⟨t147, A20, H⟩ := H
 replace H : ((feature_extreme.f k a0_0 a0_1 a0_2 a0_3 a0_4 a0_5 a0_6 a0_7 l0_8 t147).bind fun bt148 => (some (bt148.1, bt148.2))) = some (r1, r2) := H
 have A2 := zm A20
 clear A20
 replace H := Option.bind_eq_some_iff.mp H
 obtain ⟨⟨t148, t149⟩, A30, H⟩ := H
 replace H : (some (t148, t149)) = some (r1, r2) := H
 have A3 := zm A30
 clear A30
 simp only [Option.some.injEq, Prod.mk.injEq] at H
 obtain ⟨rfl, rfl⟩ := H
 go_enter Try.func25, Try.ntmps25
 try go_wp2_with (first | ((with_reducible refine gate_dst (N := 1) rfl ?_); refine box_event ?hg (N := 1) ?hd (cs := #[.string a0_0, .int .i64 a0_1, .int .i64 a0_2, .int .i64 a0_3, .int .i64 a0_4, .int .i64 a0_5, .int .i64 a0_6, .int .i64 a0_7, .slice A0_8 l0_8.length c0_8]) (t := 28) ?hr ?_; (case hd => rfl); (case hg => rfl); (case hr => first | (go_simp; done) | (go_simp; rfl)); intro gb146 hg w4 hbox hb; have n0_ := zm (below_step (by repeat (first | (with_reducible first | exact HB.out | apply zA | apply zD | apply zE) | exact HB.out)) hb); have n1_ := zm (hbox); have n2_ := zm ((by rw [hg]; exact (below_size (by repeat (first | (with_reducible first | exact HB.out | apply zA | apply zD | apply zE) | exact HB.out))) : w.heap.size ≤ gb146)); have n3_ := zm ((by rw [hg]; exact (below_size (by repeat (first | (with_reducible first | exact HB.out | apply zA | apply zD | apply zE) | exact HB.out))) : w.heap.size ≤ gb146)); clear HB; have HB := n0_; have BK146 := n1_; have GW146 := n2_; have GE146 := n3_; clear n0_ n1_ n2_ n3_; clear hb hbox hg))
 have n0_ := zm (ze BK146.out)
 have n1_ := zm (zE HB.out)
 clear BK146 HB
 have BK146 := n0_
 have HB := n1_
 clear n0_ n1_
 refine start_ (n := 9) (S := fun w' => w'.cell? ⟨gb146, 0, none⟩ = some (.string a0_0) ∧ w'.cell? ⟨gb146, 1, none⟩ = some (.int .i64 a0_1) ∧ w'.cell? ⟨gb146, 2, none⟩ = some (.int .i64 a0_2) ∧ w'.cell? ⟨gb146, 3, none⟩ = some (.int .i64 a0_3) ∧ w'.cell? ⟨gb146, 4, none⟩ = some (.int .i64 a0_4) ∧ w'.cell? ⟨gb146, 5, none⟩ = some (.int .i64 a0_5) ∧ w'.cell? ⟨gb146, 6, none⟩ = some (.int .i64 a0_6) ∧ w'.cell? ⟨gb146, 7, none⟩ = some (.int .i64 a0_7) ∧ w'.cell? ⟨gb146, 8, none⟩ = some (.slice A0_8 l0_8.length c0_8)) (ds := []) #[false, false, false, false, false, false, false, false, false] (by kernel_rfl) rfl rfl ⟨(blk_cell BK146.out 0).trans rfl, (blk_cell BK146.out 1).trans rfl, (blk_cell BK146.out 2).trans rfl, (blk_cell BK146.out 3).trans rfl, (blk_cell BK146.out 4).trans rfl, (blk_cell BK146.out 5).trans rfl, (blk_cell BK146.out 6).trans rfl, (blk_cell BK146.out 7).trans rfl, (blk_cell BK146.out 8).trans rfl⟩ (fun hHeld => ?_); refine with_tabW feature_Maximum.tab1 feature_Maximum.bits1 (fun HT_ HW_ => ?_)
 generalize w4.drew = w5 at BK146 HB hHeld ⊢
 refine pure_ (i := 1) (N := some 5) (v := ?_) (a' := ?_) #[false, true, false, false, false, false, false, false, false] rfl rfl (any_of HT_.out (by kernel_rfl)) (fun _ _ _ h => h) (Or.inl ⟨by rfl, ?_⟩) ?_ ?_
 rotate_left
 ·intro w'
  go_simp
  with_reducible rfl
 rotate_left
 ·simp only [Act.put, zx, zy, zz, i64_w, i32_w]
  rfl
 refine take_ (i := 0) (N := some 4) (v := ?_) (a' := ?_) #[true, true, false, false, false, false, false, false, false] rfl rfl (take_ofW HT_.out HW_.out (by kernel_rfl)) (fun _ _ _ h => h) (Or.inl ⟨by rfl, ?_⟩) hHeld ?_ ?_
 rotate_left
 ·rintro w' ⟨s0, s1, s2, s3, s4, s5, s6, s7, s8⟩
  go_simp
  with_reducible rfl
 rotate_left
 ·simp only [Act.put, zx, zy, zz, i64_w, i32_w]
  rfl
 refine take_ (i := 2) (N := some 6) (v := ?_) (a' := ?_) #[true, true, true, false, false, false, false, false, false] rfl rfl (take_ofW HT_.out HW_.out (by kernel_rfl)) (fun _ _ _ h => h) (Or.inl ⟨by rfl, ?_⟩) hHeld ?_ ?_
 rotate_left
 ·rintro w' ⟨s0, s1, s2, s3, s4, s5, s6, s7, s8⟩
  go_simp
  with_reducible rfl
 rotate_left
 ·simp only [Act.put, zx, zy, zz, i64_w, i32_w]
  rfl
 refine one_ (i := 3) (N := some 7) #[true, true, true, true, false, false, false, false, false] rfl rfl (one_of HT_.out (by kernel_rfl)) (by decide) (fun K hK => ?_)
 refine goes_ Try.func76 (by kernel_rfl) rfl #[.int .i64 a0_1] (by rfl) rfl rfl (by (try simp only [List.map_toArray, List.map_cons, List.map_nil]); first | done | rfl | (simp only [List.length_drop, List.length_take]; rfl)) ?_
 with_reducible refine (feature_inner.calls a0_1 t147 _ A2.out).mono ?_
 rintro e w' ⟨rfl, ⟨nd, rfl⟩⟩
 refine ⟨_, rfl, ?_⟩
 refine hK.out _ _ ⟨(blk_cell BK146.out 0).trans rfl, (blk_cell BK146.out 1).trans rfl, (blk_cell BK146.out 2).trans rfl, (blk_cell BK146.out 3).trans rfl, (blk_cell BK146.out 4).trans rfl, (blk_cell BK146.out 5).trans rfl, (blk_cell BK146.out 6).trans rfl, (blk_cell BK146.out 7).trans rfl, (blk_cell BK146.out 8).trans rfl⟩ (fun hHeld => ?_)
 clear hK K
 refine norm_ (a' := ?_) ?_ ?_
 rotate_left
 ·show Act.put _ (some 7) _ = _
  simp only [Act.put, zx, zy, zz, i64_w, i32_w]
  rfl
 refine one_ (i := 4) (N := some 8) #[true, true, true, true, true, false, false, false, false] rfl rfl (one_of HT_.out (by kernel_rfl)) (by decide) (fun K hK => ?_)
 refine goes_ Try.func78 (by kernel_rfl) rfl #[.agg #[.string a0_0, .int .i64 a0_1, .int .i64 a0_2, .int .i64 a0_3, .int .i64 a0_4, .int .i64 a0_5, .int .i64 a0_6, .int .i64 a0_7, .slice A0_8 l0_8.length c0_8], .bool t147] (by rfl) rfl rfl (by (try simp only [List.map_toArray, List.map_cons, List.map_nil]); first | done | rfl | (simp only [List.length_drop, List.length_take]; rfl)) ?_
 with_reducible refine (feature_extreme.calls k a0_0 a0_1 a0_2 a0_3 a0_4 a0_5 a0_6 a0_7 _ _ l0_8 t147 t148 t149 _ ?side1 ?side2 A3.out).mono ?_
 (case side1 => repeat (first | exact (Kd.C_below HR0_8.out (by repeat (first | (with_reducible first | exact HB.out | apply zA | apply zD | apply zE | refine zS ?_ GE146.out) | exact HB.out))) | (with_reducible refine Kd.C_alloc ?_ _) | (with_reducible refine Kd.C_drewN ?_ _) | (with_reducible refine Kd.C_drew ?_)))
 (case side2 => exact HC0_8.out)
 rintro e w6 ⟨rfl, hb⟩
 refine ⟨_, rfl, ?_⟩
 have n0_ := zm (zb (g := gb146) (by (with_reducible repeat first | apply zd | apply ze | apply za); exact BK146.out) hb)
 have n1_ := zm (below_step (by repeat (first | (with_reducible first | exact HB.out | apply zA | apply zD | apply zE | refine zS ?_ GE146.out) | exact HB.out)) hb)
 clear BK146 HB
 have BK146 := n0_
 have HB := n1_
 clear n0_ n1_
 (try clear hb)
 (try clear hb2)
 (try clear hk)
 (try clear hi)
 refine hK.out _ _ ⟨(blk_cell BK146.out 0).trans rfl, (blk_cell BK146.out 1).trans rfl, (blk_cell BK146.out 2).trans rfl, (blk_cell BK146.out 3).trans rfl, (blk_cell BK146.out 4).trans rfl, (blk_cell BK146.out 5).trans rfl, (blk_cell BK146.out 6).trans rfl, (blk_cell BK146.out 7).trans rfl, (blk_cell BK146.out 8).trans rfl⟩ (fun hHeld => ?_)
 clear hK K
 refine norm_ (a' := ?_) ?_ ?_
 rotate_left
 ·show Act.put _ (some 8) _ = _
  simp only [Act.put, zx, zy, zz, i64_w, i32_w]
  rfl
 refine pure_ (i := 5) (N := some 9) (v := ?_) (a' := ?_) #[true, true, true, true, true, true, false, false, false] rfl rfl (any_of HT_.out (by kernel_rfl)) (fun _ _ _ h => h) (Or.inl ⟨by rfl, ?_⟩) ?_ ?_
 rotate_left
 ·intro w'
  go_simp
  with_reducible rfl
 rotate_left
 ·simp only [Act.put, zx, zy, zz, i64_w, i32_w]
  rfl
 refine pure_ (i := 6) (N := some 10) (v := ?_) (a' := ?_) #[true, true, true, true, true, true, true, false, false] rfl rfl (any_of HT_.out (by kernel_rfl)) (fun _ _ _ h => h) (Or.inl ⟨by rfl, ?_⟩) ?_ ?_
 rotate_left
 ·intro w'
  go_simp
  with_reducible rfl
 rotate_left
 ·simp only [Act.put, zx, zy, zz, i64_w, i32_w]
  rfl
 refine pure_ (i := 7) (N := some 2) (v := ?_) (a' := ?_) #[true, true, true, true, true, true, true, true, false] rfl rfl (any_of HT_.out (by kernel_rfl)) (fun _ _ _ h => h) (Or.inl ⟨by rfl, ?_⟩) ?_ ?_
 rotate_left
 ·intro w'
  go_simp
  with_reducible rfl
 rotate_left
 ·simp only [Act.put, zx, zy, zz, i64_w, i32_w]
  rfl
 refine pure_ (i := 8) (N := some 3) (v := ?_) (a' := ?_) #[true, true, true, true, true, true, true, true, true] rfl rfl (any_of HT_.out (by kernel_rfl)) (fun _ _ _ h => h) (Or.inl ⟨by rfl, ?_⟩) ?_ ?_
 rotate_left
 ·intro w'
  go_simp
  with_reducible rfl
 rotate_left
 ·simp only [Act.put, zx, zy, zz, i64_w, i32_w]
  rfl
 refine done_ (done_of HT_.out (by kernel_rfl)) ?_
 try go_wp2
 go_ret2
 exact ⟨by first | rfl | (simp [errW_none, errW_some] <;> rfl) | (simp [*, errW_none, errW_some] <;> rfl), by repeat (first | (with_reducible first | exact HB.out | apply zA | apply zD | apply zE | refine zS ?_ GE146.out) | exact HB.out)⟩
end Go.Proofs.Ytkgdlbepjmgaiaa.Fea
namespace Go.Proofs.Ytkgdlbepjmgaiaa.Fea
open Go.RowKit Go.Proofs.YtkgdlbepjmgaiaaW.PrintWords Go.Proofs.YtkgdlbepjmgaiaaW.PrintLast Go.Proofs.YtkgdlbepjmgaiaaW.PrintMore
attribute [local go_sem] max2_int min2_int max_two min_two max_three min_three max_four min_four
set_option linter.unusedVariables false
set_option linter.unusedSimpArgs false
def metrolablaw18_Hole.f  : Option (ByteArray × Int × Int × Int × Int × Int × Int × Int × (List (S104))) := some ((⟨#[72]⟩ : ByteArray), 1, 2, 5000, 0, 0, 1000, 1011, ([] : List (S104)))
set_option maxHeartbeats 8000000 in
set_option maxRecDepth 100000 in
theorem metrolablaw18_Hole.calls  (r1 : ByteArray) (r2 : Int) (r3 : Int) (r4 : Int) (r5 : Int) (r6 : Int) (r7 : Int) (r8 : Int) (r9 : List (S104)) (w : World) (h : metrolablaw18_Hole.f  = some (r1, r2, r3, r4, r5, r6, r7, r8, r9)) :
    Calls Try.prog 67 #[] w fun e w' => ∃ v8_ : Value, e = .returned (.agg #[.string r1, .int .i64 r2, .int .i64 r3, .int .i64 r4, .int .i64 r5, .int .i64 r6, .int .i64 r7, .int .i64 r8, v8_]) ∧ Kd.S k104 104 w' w.heap.size (fun _ => True) v8_ r9 ∧ Below w.heap.size w w' := by
  have hu28 := Try.underlying28
  have hu23 := Try.underlying23
  have hu25 := Try.underlying25
  have HB := Aside0.mk (Below.refl w.heap.size w)
  have H : (some ((⟨#[72]⟩ : ByteArray), 1, 2, 5000, 0, 0, 1000, 1011, ([] : List (S104)))) = some (r1, r2, r3, r4, r5, r6, r7, r8, r9) := h
  clear h
  simp only [Option.some.injEq, Prod.mk.injEq] at H
  obtain ⟨rfl, rfl, rfl, rfl, rfl, rfl, rfl, rfl, rfl⟩ := H
  go_enter Try.func67, Try.ntmps67
  go_wp2_with (first | ((with_reducible refine gate_dst (N := 0) rfl ?_); refine box_event ?hg (N := 0) ?hd (cs := #[.string (⟨#[]⟩ : ByteArray), .int .i64 0, .int .i64 0, .int .i64 0, .int .i64 0, .int .i64 0, .int .i64 0, .int .i64 0, .slice none 0 0]) (t := 28) ?hr ?_; (case hd => rfl); (case hg => rfl); (case hr => first | (go_simp; done) | (go_simp; rfl)); intro gb150 hg w1 hbox hb; have n0_ := Aside0.mk (below_step (by repeat (first | (with_reducible first | exact HB.out | apply below_alloc | apply pw_below_drewN | apply below_drew1) | exact HB.out)) hb); have n1_ := Aside0.mk (hbox); have n2_ := Aside0.mk ((by rw [hg]; exact (below_size (by repeat (first | (with_reducible first | exact HB.out | apply below_alloc | apply pw_below_drewN | apply below_drew1) | exact HB.out))) : w.heap.size ≤ gb150)); have n3_ := Aside0.mk ((by rw [hg]; exact (below_size (by repeat (first | (with_reducible first | exact HB.out | apply below_alloc | apply pw_below_drewN | apply below_drew1) | exact HB.out))) : w.heap.size ≤ gb150)); clear HB; have HB := n0_; have BK150 := n1_; have GW150 := n2_; have GE150 := n3_; clear n0_ n1_ n2_ n3_; clear hb hbox hg; have hcz2_0 : w1.cell? ⟨gb150, 0, none⟩ = some (.string (⟨#[]⟩ : ByteArray)) := (blk_cell BK150.out 0).trans rfl; have hcz2_1 : w1.cell? ⟨gb150, 1, none⟩ = some (.int .i64 0) := (blk_cell BK150.out 1).trans rfl; have hcz2_2 : w1.cell? ⟨gb150, 2, none⟩ = some (.int .i64 0) := (blk_cell BK150.out 2).trans rfl; have hcz2_3 : w1.cell? ⟨gb150, 3, none⟩ = some (.int .i64 0) := (blk_cell BK150.out 3).trans rfl; have hcz2_4 : w1.cell? ⟨gb150, 4, none⟩ = some (.int .i64 0) := (blk_cell BK150.out 4).trans rfl; have hcz2_5 : w1.cell? ⟨gb150, 5, none⟩ = some (.int .i64 0) := (blk_cell BK150.out 5).trans rfl; have hcz2_6 : w1.cell? ⟨gb150, 6, none⟩ = some (.int .i64 0) := (blk_cell BK150.out 6).trans rfl; have hcz2_7 : w1.cell? ⟨gb150, 7, none⟩ = some (.int .i64 0) := (blk_cell BK150.out 7).trans rfl; have hcz2_8 : w1.cell? ⟨gb150, 8, none⟩ = some (.slice none 0 0) := (blk_cell BK150.out 8).trans rfl; have hfz2_0 := blk_frozen BK150.out 0; have hfz2_1 := blk_frozen BK150.out 1; have hfz2_2 := blk_frozen BK150.out 2; have hfz2_3 := blk_frozen BK150.out 3; have hfz2_4 := blk_frozen BK150.out 4; have hfz2_5 := blk_frozen BK150.out 5; have hfz2_6 := blk_frozen BK150.out 6; have hfz2_7 := blk_frozen BK150.out 7; have hfz2_8 := blk_frozen BK150.out 8))
  refine bodyPost_ret (results_cell_row rfl _ _ gb150 28 #[.string (⟨#[72]⟩ : ByteArray), .int .i64 1, .int .i64 2, .int .i64 5000, .int .i64 0, .int .i64 0, .int .i64 1000, .int .i64 1011, .slice none 0 0] (0, 0) _ rfl (by (with_reducible repeat (first | refine blk_drewN ?_ _ | refine blk_drew ?_ | refine blk_alloc ?_ _)); refine blk_put (cs := #[.string (⟨#[72]⟩ : ByteArray), .int .i64 1, .int .i64 2, .int .i64 5000, .int .i64 0, .int .i64 0, .int .i64 1000, .int .i64 1011, .slice none 0 0]) ?_ 8 _ rfl; (with_reducible repeat (first | refine blk_drewN ?_ _ | refine blk_drew ?_ | refine blk_alloc ?_ _)); refine blk_put (cs := #[.string (⟨#[72]⟩ : ByteArray), .int .i64 1, .int .i64 2, .int .i64 5000, .int .i64 0, .int .i64 0, .int .i64 1000, .int .i64 0, .slice none 0 0]) ?_ 7 _ rfl; (with_reducible repeat (first | refine blk_drewN ?_ _ | refine blk_drew ?_ | refine blk_alloc ?_ _)); refine blk_put (cs := #[.string (⟨#[72]⟩ : ByteArray), .int .i64 1, .int .i64 2, .int .i64 5000, .int .i64 0, .int .i64 0, .int .i64 0, .int .i64 0, .slice none 0 0]) ?_ 6 _ rfl; (with_reducible repeat (first | refine blk_drewN ?_ _ | refine blk_drew ?_ | refine blk_alloc ?_ _)); refine blk_put (cs := #[.string (⟨#[72]⟩ : ByteArray), .int .i64 1, .int .i64 2, .int .i64 5000, .int .i64 0, .int .i64 0, .int .i64 0, .int .i64 0, .slice none 0 0]) ?_ 5 _ rfl; (with_reducible repeat (first | refine blk_drewN ?_ _ | refine blk_drew ?_ | refine blk_alloc ?_ _)); refine blk_put (cs := #[.string (⟨#[72]⟩ : ByteArray), .int .i64 1, .int .i64 2, .int .i64 5000, .int .i64 0, .int .i64 0, .int .i64 0, .int .i64 0, .slice none 0 0]) ?_ 4 _ rfl; (with_reducible repeat (first | refine blk_drewN ?_ _ | refine blk_drew ?_ | refine blk_alloc ?_ _)); refine blk_put (cs := #[.string (⟨#[72]⟩ : ByteArray), .int .i64 1, .int .i64 2, .int .i64 0, .int .i64 0, .int .i64 0, .int .i64 0, .int .i64 0, .slice none 0 0]) ?_ 3 _ rfl; (with_reducible repeat (first | refine blk_drewN ?_ _ | refine blk_drew ?_ | refine blk_alloc ?_ _)); refine blk_put (cs := #[.string (⟨#[72]⟩ : ByteArray), .int .i64 1, .int .i64 0, .int .i64 0, .int .i64 0, .int .i64 0, .int .i64 0, .int .i64 0, .slice none 0 0]) ?_ 2 _ rfl; (with_reducible repeat (first | refine blk_drewN ?_ _ | refine blk_drew ?_ | refine blk_alloc ?_ _)); refine blk_put (cs := #[.string (⟨#[72]⟩ : ByteArray), .int .i64 0, .int .i64 0, .int .i64 0, .int .i64 0, .int .i64 0, .int .i64 0, .int .i64 0, .slice none 0 0]) ?_ 1 _ rfl; (with_reducible repeat (first | refine blk_drewN ?_ _ | refine blk_drew ?_ | refine blk_alloc ?_ _)); refine blk_put (cs := #[.string (⟨#[]⟩ : ByteArray), .int .i64 0, .int .i64 0, .int .i64 0, .int .i64 0, .int .i64 0, .int .i64 0, .int .i64 0, .slice none 0 0]) ?_ 0 _ rfl; (with_reducible repeat (first | refine blk_drewN ?_ _ | refine blk_drew ?_ | refine blk_alloc ?_ _)); exact BK150.out) Try.underlying28 rfl (by kernel_rfl)) rfl ?_
  exact ⟨_, by first | rfl | (simp [errW_none, errW_some] <;> rfl) | (simp [*, errW_none, errW_some] <;> rfl), by first | exact Kd.S_nil _ _ _ _ _ | exact Kd.N_nil _ _ _ _ _ | exact Kd.V_nil _ _ _ _ _ | exact Kd.Q_nil _ _ _ _ _ | exact Kd.R_nil _ _ _ _ _, by repeat (first | (with_reducible first | exact HB.out | apply below_alloc | apply pw_below_drewN | apply below_drew1 | refine below_set ?_ GE150.out) | exact HB.out)⟩
end Go.Proofs.Ytkgdlbepjmgaiaa.Fea
