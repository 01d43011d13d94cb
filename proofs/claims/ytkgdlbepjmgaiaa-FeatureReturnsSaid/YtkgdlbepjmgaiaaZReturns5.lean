/- Part 5 of the texts behind the last one of this claim. -/
import Derived.Lib.SliceRun
import Derived.Lib.Walk
import Derived.RegionTactic
import Derived.BigRegion
import Derived.Shelf.Abstract
import Derived.Test.YtkgdlbepjmgaiaaZReturns4
set_option linter.unusedVariables false
set_option linter.unusedSimpArgs false
namespace Go.Proofs.Ytkgdlbepjmgaiaa.Fea
open Go.RowKit Go.Proofs.YtkgdlbepjmgaiaaW.PrintWords Go.Proofs.YtkgdlbepjmgaiaaW.PrintLast Go.Proofs.YtkgdlbepjmgaiaaW.PrintMore
theorem Reps.imp' {α : Type} {R R' : α → List Value → Prop} {size : Nat} {ps : List α} {cs : List Value} (h : Reps R size ps cs) (hi : ∀ p c, R p c → R' p c) : Reps R' size ps cs :=
  ⟨h.1, fun j p hj => hi _ _ (h.2 j p hj)⟩
theorem F_of_own {α : Type} {d : Kd α} {W : World} {base e : Nat} {v : Value} {xs : List α} {cs : List Value} (hmax : xs.length ≤ 9223372036854775807) (h : W.ownsRow base e d.sz v xs.length cs) (hR : Reps (fun x c => Kd.FK d W (fun k => base ≤ k) x c) d.sz xs cs) :
    ∃ A c, v = .slice A xs.length c ∧ xs.length ≤ c ∧ Kd.F d W (fun k => base ≤ k) A xs.length xs := by
  rcases h.2 with ⟨rfl, hn⟩ | ⟨g, cap, cur, rfl, hg, hh, hc, hm, hs, ht⟩
  · refine ⟨none, 0, by rw [hn], by omega, fun W' _ => ⟨rfl, hmax, fun h0 => by omega⟩⟩
  · refine ⟨_, _, rfl, hc, fun W' hW => ?_⟩
    have hlt : g < W.heap.size := (Array.getElem?_eq_some_iff.1 hh).1
    have hh' : W'.heap[g]? = some (.cells cur e (0, 0)) := (hW g hg hlt).trans hh
    have ho : W'.ownsRow base e d.sz (.slice (some ⟨g, 0, none⟩) xs.length cap) xs.length cs := ⟨h.1, .inr ⟨g, cap, cur, rfl, hg, hh', hc, hm, hs, ht⟩⟩
    obtain ⟨A, c, e1, hr⟩ := own_reads_row ho (Reps.imp' hR (fun p c hk => hk W' hW)) rfl
    injection e1 with e1 _ _
    rw [← e1] at hr
    exact hr
theorem Reps.one' {α : Type} {R : α → List Value → Prop} {size : Nat} {ps : List α} {cs : List Value} (h : Reps R size ps cs) (hs : 0 < size) (hR : ∀ p c, R p c → ∀ u ∈ c, u.oneCell' = true) : ∀ u ∈ cs, u.oneCell' = true := by
  intro u hu
  obtain ⟨p, hp, rfl⟩ := List.mem_iff_getElem.1 hu
  have hl := h.1
  have hj : p / size < ps.length := by rw [Nat.div_lt_iff_lt_mul hs]; omega
  have hm : p % size < size := Nat.mod_lt _ hs
  have he : p / size * size + p % size = p := by rw [Nat.mul_comm]; exact Nat.div_add_mod _ _
  have hk := h.2 (p / size) _ (List.getElem?_eq_getElem hj)
  refine hR _ _ hk _ ?_
  refine List.mem_of_getElem? (i := p % size) ?_
  rw [List.getElem?_take_of_lt hm, List.getElem?_drop, he, List.getElem?_eq_getElem hp]
theorem cell_alloc {w : World} {a : Addr} {v : Value} (h : w.cell? a = some v) (o : Obj) : (w.alloc o).cell? a = some v := by
  rw [← h]
  exact World.cell?_of_block (Below.heap_alloc w o a.block (World.block_lt_of_cell? w a h))
set_option maxHeartbeats 4000000 in
set_option maxRecDepth 100000 in
theorem clone106_calls (A : Option Addr) (c : Nat) (xs : List S106) (w : World) (hr : Kd.C k106 w A xs.length xs) (hc : xs.length ≤ c) (hsm : xs.length ≤ 1000000) :
    Calls Try.prog 126 #[.slice A xs.length c] w fun e w' => ∃ A' c', e = .returned (.slice A' xs.length c') ∧ xs.length ≤ c' ∧ Kd.F k106 w' (fun k => w.heap.size ≤ k) A' xs.length xs ∧ Below w.heap.size w w' := by
  have hu102 := Try.underlying102
  have q102 : ∀ (w : World) (a : Option Addr) (n c n' c' : Nat), (binOp .eql 102 (.slice a n c) (.slice none n' c')).run Try.prog w = .ok (.bool a.isNone) w := fun w a n c n' c' => Lib.run_eql_slice_nil w _ _ a n c n' c' Try.underlying102
  cases A with
  | none =>
    have h0 : xs.length = 0 := by
      rcases Nat.eq_zero_or_pos xs.length with g | g
      · exact g
      · obtain ⟨ad, e, _⟩ := hr.2.2 g; cases e
    have HR := Aside0.mk hr
    clear hr
    go_enter Try.func126, Try.ntmps126
    go_wp2
    go_ret
    exact ⟨none, 0, by rw [h0]; rfl, by omega, fun W' _ => ⟨rfl, HR.out.2.1, fun h => by omega⟩, Below.refl _ _⟩
  | some ad =>
    obtain ⟨inner, hreps, hcell⟩ := ReadsRow.inner_ hr
    have hmax := hr.2.1
    have HC := Aside0.mk hcell
    have HP := Aside0.mk hreps
    have hlen := hreps.1
    clear hr hcell hreps
    obtain ⟨i0, hi, hz⟩ := Option.map_eq_some_iff.1 (show (Try.prog.info? 106).map (fun i => (i.zero, i.size, i.bytes)) = some (some (.agg #[(.string ⟨#[]⟩), (.int .i64 0)]), 2, 24) by kernel_rfl)
    simp only [Prod.mk.injEq] at hz
    obtain ⟨hz0, hz1, hz2⟩ := hz
    go_enter Try.func126, Try.ntmps126
    go_wp2_with (at_builtin; refine wpList_append_own _ rfl _ _ 102 rfl w.heap.size 106 i0 (.agg #[(.string ⟨#[]⟩), (.int .i64 0)]) 2 24 hu102 hi hz0 hz1 hz2 rfl (by decide) _ _ _ rfl (World.ownsRow_made w #[] 0 (Nat.le_refl _) (Nat.zero_le _) rfl) ad xs.length c inner rfl ?qc1 ?qc2 ?qc3 ?qc4 ?qc5 ?qc6 ?_)
    case qc1 => exact hlen
    case qc2 => exact fun j u hj => cell_alloc (HC.out j u hj) _
    case qc3 => exact Reps.one' HP.out (by decide) (fun _ _ hk => k106.K_one hk)
    case qc4 => unfold maxLen; omega
    case qc5 => omega
    case qc6 => simp
    intro v' w1 hown hgrow hnil
    have HO := Aside0.mk hown
    have HG := Aside0.mk hgrow
    clear hown hgrow hnil
    go_wp2
    go_ret
    have ho := HO.out
    obtain ⟨A', c', rfl, hc', hF⟩ := F_of_own (d := k106) hmax ho (Reps.imp' HP.out (fun p c hk => by rw [k106_open hk]; exact k106_mkF _ _ _))
    exact ⟨A', c', rfl, hc', hF, (bel1 w _).grown HG.out (by simp) (by intro k hk; simp [Value.ownBlock] at hk; omega)⟩
set_option maxHeartbeats 4000000 in
set_option maxRecDepth 100000 in
theorem clone104_calls (A : Option Addr) (c n : Nat) (inner : List Value) (w : World) (hlen : inner.length = n * 5) (h1 : ∀ u ∈ inner, u.oneCell' = true) (hcell : ∀ ad, A = some ad → ∀ j u, inner[j]? = some u → w.cell? (ad.add j) = some u) (h0 : A = none → n = 0) (hsm : n ≤ 1000000) :
    Calls Try.prog 125 #[.slice A n c] w fun e w' => ∃ v', e = .returned v' ∧ w'.ownsRow w.heap.size 104 5 v' n inner ∧ Below w.heap.size w w' := by
  have hu26 := Try.underlying26
  have q26 : ∀ (w : World) (a : Option Addr) (n c n' c' : Nat), (binOp .eql 26 (.slice a n c) (.slice none n' c')).run Try.prog w = .ok (.bool a.isNone) w := fun w a n c n' c' => Lib.run_eql_slice_nil w _ _ a n c n' c' Try.underlying26
  cases A with
  | none =>
    have e0 := h0 rfl
    clear hcell h0
    go_enter Try.func125, Try.ntmps125
    go_wp2
    go_ret
    subst e0
    exact ⟨.slice none 0 0, rfl, ⟨hlen, .inl ⟨rfl, rfl⟩⟩, Below.refl _ _⟩
  | some ad =>
    have HC := Aside0.mk (hcell ad rfl)
    have H1 := Aside0.mk h1
    clear hcell h0 h1
    obtain ⟨i0, hi, hz⟩ := Option.map_eq_some_iff.1 (show (Try.prog.info? 104).map (fun i => (i.zero, i.size, i.bytes)) = some (some (.agg #[(.int .i64 0), (.bool false), (.int .i64 0), (.int .i64 0), .slice none 0 0]), 5, 56) by kernel_rfl)
    simp only [Prod.mk.injEq] at hz
    obtain ⟨hz0, hz1, hz2⟩ := hz
    go_enter Try.func125, Try.ntmps125
    go_wp2_with (at_builtin; refine wpList_append_own _ rfl _ _ 26 rfl w.heap.size 104 i0 (.agg #[(.int .i64 0), (.bool false), (.int .i64 0), (.int .i64 0), .slice none 0 0]) 5 56 hu26 hi hz0 hz1 hz2 rfl (by decide) _ _ _ rfl (World.ownsRow_made w #[] 0 (Nat.le_refl _) (Nat.zero_le _) rfl) ad n c inner rfl ?qc1 ?qc2 ?qc3 ?qc4 ?qc5 ?qc6 ?_)
    case qc1 => exact hlen
    case qc2 => exact fun j u hj => cell_alloc (HC.out j u hj) _
    case qc3 => exact H1.out
    case qc4 => unfold maxLen; omega
    case qc5 => omega
    case qc6 => simp
    intro v' w1 hown hgrow hnil
    have HO := Aside0.mk hown
    have HG := Aside0.mk hgrow
    clear hown hgrow hnil
    go_wp2
    go_ret
    have hb : Below w.heap.size w w1 := (bel1 w _).grown HG.out (by simp) (by intro k hk; simp [Value.ownBlock] at hk; omega)
    exact ⟨v', rfl, by simpa using HO.out, hb⟩
end Go.Proofs.Ytkgdlbepjmgaiaa.Fea
set_option linter.unusedVariables false
set_option linter.unusedSimpArgs false
namespace Go.Proofs.Ytkgdlbepjmgaiaa.Fea
open Go.RowKit Go.Proofs.YtkgdlbepjmgaiaaW.PrintWords Go.Proofs.YtkgdlbepjmgaiaaW.PrintLast Go.Proofs.YtkgdlbepjmgaiaaW.PrintMore
abbrev ftU (nm : ByteArray) (k ax x y z lo hi : Int) (u : Value) : Array Value := #[.string nm, .int .i64 k, .int .i64 ax, .int .i64 x, .int .i64 y, .int .i64 z, .int .i64 lo, .int .i64 hi, u]
abbrev ft0 : Array Value := #[.string ⟨#[]⟩, .int .i64 0, .int .i64 0, .int .i64 0, .int .i64 0, .int .i64 0, .int .i64 0, .int .i64 0, .slice none 0 0]
def Mix (N g : Nat) (w W : World) (i : Nat) (l : List S104) (inner : List Value) : Prop :=
  inner.length = l.length * 5 ∧ ∀ j p, l[j]? = some p → (j < i → Kd.FK k104 W (fun k => N ≤ k ∧ k ≠ g) p ((inner.drop (j * 5)).take 5)) ∧ (i ≤ j → Kd.FK k104 w (fun k => k < w.heap.size) p ((inner.drop (j * 5)).take 5))
def small (l : List S104) : Bool := decide (l.length ≤ 1000000) && l.all fun p => decide (p.f4.length ≤ 1000000)
theorem own_at {w : World} {base g n cap : Nat} {e : TypeId} {size : Nat} {xs : List Value} (h : w.ownsRow base e size (.slice (some ⟨g, 0, none⟩) n cap) n xs) : base ≤ g ∧ n ≤ cap ∧ (∀ j u, xs[j]? = some u → w.cell? ⟨g, j, none⟩ = some u) ∧ (∀ j, w.frozen? ⟨g, j, none⟩ = false) := by
  rcases h.2 with ⟨e, _⟩ | ⟨g', cap', cur, e, hg, hh, hc, hm, hs, ht⟩
  · cases e
  · injection e with e1 _ e2
    injection e1 with e1
    injection e1 with e1 _ _
    subst e1 e2
    refine ⟨hg, hc, fun j u hj => ?_, fun j => blk_frozen hh j⟩
    rw [blk_cell hh]
    rw [← ht] at hj
    have hlt : j < (cur.toList.take (n * size)).length := (List.getElem?_eq_some_iff.1 hj).1
    rw [List.length_take] at hlt
    rw [List.getElem?_take_of_lt (by omega)] at hj
    rw [← Array.getElem?_toList]
    exact hj
theorem own_put {w : World} {base g n cap : Nat} {e : TypeId} {size : Nat} {xs : List Value} (h : w.ownsRow base e size (.slice (some ⟨g, 0, none⟩) n cap) n xs) (p : Nat) (u : Value) : (w.setCell ⟨g, p, none⟩ u).ownsRow base e size (.slice (some ⟨g, 0, none⟩) n cap) n (xs.set p u) := by
  rcases h.2 with ⟨e, _⟩ | ⟨g', cap', cur, e, hg, hh, hc, hm, hs, ht⟩
  · cases e
  · injection e with e1 _ e2
    injection e1 with e1
    injection e1 with e1 _ _
    subst e1 e2
    refine ⟨by rw [List.length_set]; exact h.1, .inr ⟨g, cap, cur.setIfInBounds p u, rfl, hg, blk_put hh p u rfl, hc, hm, by rw [Array.size_setIfInBounds]; exact hs, ?_⟩⟩
    rw [Array.toList_setIfInBounds, ← ht, List.take_set]
theorem row_new {w : World} {g : Nat} {t : TypeId} {old cs : Array Value} (h : w.heap[g]? = some (.cells old t (0, 0))) : (w.setRow g cs).heap[g]? = some (.cells cs t (0, 0)) := by
  simp [World.setRow, Array.getElem?_modify, h]
theorem row_far {w : World} {g k : Nat} {cs : Array Value} (h : k ≠ g) : (w.setRow g cs).heap[k]? = w.heap[k]? := by
  simp only [World.setRow, Array.getElem?_modify]
  rw [if_neg (by omega)]
theorem row_bel {w W : World} {g : Nat} {cs : Array Value} (h : Below w.heap.size w W) (hg : w.heap.size ≤ g) : Below w.heap.size w (W.setRow g cs) :=
  h.trans ⟨rfl, rfl, rfl, by rw [size_setRow]; exact Nat.le_refl _, fun k hk => row_far (by omega)⟩
theorem set_off {inn : List Value} {i j : Nat} {u : Value} (h : j ≠ i) : ((inn.set (i * 5 + 4) u).drop (j * 5)).take 5 = (inn.drop (j * 5)).take 5 := by
  apply List.ext_getElem?
  intro q
  rw [List.getElem?_take, List.getElem?_take]
  split
  · rw [List.getElem?_drop, List.getElem?_drop, List.getElem?_set_ne (by omega)]
  · rfl
theorem set_on {inn : List Value} {i : Nat} {u a b c d e : Value} (h : (inn.drop (i * 5)).take 5 = [a, b, c, d, e]) : ((inn.set (i * 5 + 4) u).drop (i * 5)).take 5 = [a, b, c, d, u] := by
  have h1 : ((inn.set (i * 5 + 4) u).drop (i * 5)).take 5 = ((inn.drop (i * 5)).take 5).set 4 u := by
    apply List.ext_getElem?
    intro q
    have hl := congrArg List.length h
    rw [List.length_take, List.length_drop] at hl
    simp only [List.length_cons, List.length_nil] at hl
    rw [List.getElem?_take]
    split
    · rename_i hq
      rw [List.getElem?_drop]
      by_cases e : q = 4
      · subst e
        rw [List.getElem?_set_self (by omega), List.getElem?_set_self (by rw [h]; simp)]
      · rw [List.getElem?_set_ne (by omega), List.getElem?_set_ne (by omega), List.getElem?_take, if_pos hq, List.getElem?_drop]
    · rename_i hq
      rw [List.getElem?_eq_none (by rw [List.length_set, h]; simp; omega)]
  rw [h1, h]
  rfl
theorem cell_far {W : World} {a i : Nat} {v : Value} (h : W.cell? ⟨a, i, none⟩ = some v) {g p : Nat} {u : Value} (hne : a ≠ g) : (W.setCell ⟨g, p, none⟩ u).cell? ⟨a, i, none⟩ = some v :=
  (World.cell?_of_block (Below.heap_setCell W ⟨g, p, none⟩ u a hne)).trans h
set_option maxHeartbeats 8000000 in
set_option maxRecDepth 100000 in
theorem placed_calls (g : Nat) (cb : Array Value) (eg : ∀ args w, (callFunc g args).run Try.prog w = .ok (.enter g args) w) (nm : ByteArray) (k ax x y z lo hi : Int) (A : Option Addr) (c : Nat) (l : List S104) (x' y' z' : Int) (w : World)
    (hr : Kd.C k104 w A l.length l) (hc : l.length ≤ c) (hsm : small l = true)
    (hf : ∀ W, Below w.heap.size w W → Calls Try.prog g (#[.agg (v3 x y z)] ++ cb) W fun e W' => e = .returned (.agg (v3 x' y' z')) ∧ Below W.heap.size W W') :
    Calls Try.prog 94 #[.agg (ftV nm k ax x y z lo hi A l.length c), .func (.func g) #[] cb] w fun e w' => ∃ A' c', e = .returned (.agg (ftV nm k ax x' y' z' lo hi A' l.length c')) ∧ l.length ≤ c' ∧ Kd.F k104 w' (fun k_ => w.heap.size ≤ k_) A' l.length l ∧ Below w.heap.size w w' := by
  have hu28 := Try.underlying28
  have hu23 := Try.underlying23
  have hu26 := Try.underlying26
  have HF := Aside0.mk hf
  have HR := Aside0.mk hr
  have hsm1 : l.length ≤ 1000000 := by
    simp only [small, Bool.and_eq_true, decide_eq_true_eq] at hsm; exact hsm.1
  have HS := Aside0.mk hsm
  clear hf hr hsm
  go_enter Try.func94, Try.ntmps94
  go_upto_region 1 with (fail)
  have hs1 := heap2o w (.cells (ftV nm k ax x y z lo hi A l.length c) 28) (.cells ft0 28)
  have hs2 := heap2 w (.cells (ftV nm k ax x y z lo hi A l.length c) 28) (.cells ft0 28)
  have hB := bel2 w (.cells (ftV nm k ax x y z lo hi A l.length c) 28) (.cells ft0 28)
  generalize (w.alloc (.cells (ftV nm k ax x y z lo hi A l.length c) 28)).alloc (.cells ft0 28) = W1 at *
  have c3 := (blk_cell hs1 3).trans (rfl : _ = some (Value.int .i64 x))
  have c4 := (blk_cell hs1 4).trans (rfl : _ = some (Value.int .i64 y))
  have c5 := (blk_cell hs1 5).trans (rfl : _ = some (Value.int .i64 z))
  go_wp2_with (go_at_call 103; refine (coord_calls _ _ _ _).mono ?_; rintro e w' ⟨rfl, hb⟩; have hs1' := blk_below hs1 hb; have hs2' := blk_below hs2 hb; have hB' := below_step hB hb; clear hb hs1 hs2 hB c3 c4 c5; have hcall := HF.out w' hB')
  refine hcall.mono ?_
  clear hcall
  rintro e w2 ⟨rfl, hb⟩
  have hs1 := blk_below hs1' hb
  have hs2 := blk_below hs2' hb
  have hB := below_step hB' hb
  clear hb hs1' hs2' hB'
  go_wp2_with (go_at_call 124; refine (spot_calls _ _ _ _).mono ?_; rintro e w3 ⟨rfl, hb⟩; have hs1' := blk_below hs1 hb; have hs2' := blk_below hs2 hb; have hB' := below_step hB hb; clear hb hs1 hs2 hB; have c3 := (blk_cell hs1' 3).trans (rfl : _ = some (Value.int .i64 x)); have c4 := (blk_cell hs1' 4).trans (rfl : _ = some (Value.int .i64 y)); have c5 := (blk_cell hs1' 5).trans (rfl : _ = some (Value.int .i64 z)); have f3 := blk_frozen hs1' 3; have f4 := blk_frozen hs1' 4; have f5 := blk_frozen hs1' 5; have c8 := (blk_cell hs1' 8).trans (rfl : _ = some (Value.slice A l.length c)))
  have hs3 := blk_put (blk_put (blk_put hs1' 3 (.int .i64 x') rfl) 4 (.int .i64 y') rfl) 5 (.int .i64 z') rfl
  have hs4 : (((w3.setCell ⟨w.heap.size, 3, none⟩ (.int .i64 x')).setCell ⟨w.heap.size, 4, none⟩ (.int .i64 y')).setCell ⟨w.heap.size, 5, none⟩ (.int .i64 z')).heap[w.heap.size + 1]? = some (.cells ft0 28 (0, 0)) :=
    (Below.heap_setCell _ _ _ _ (by show w.heap.size + 1 ≠ w.heap.size; omega)).trans ((Below.heap_setCell _ _ _ _ (by show w.heap.size + 1 ≠ w.heap.size; omega)).trans ((Below.heap_setCell _ _ _ _ (by show w.heap.size + 1 ≠ w.heap.size; omega)).trans hs2'))
  have hB4 := below_set (j := 5) (v := .int .i64 z') (below_set (j := 4) (v := .int .i64 y') (below_set (j := 3) (v := .int .i64 x') hB' (Nat.le_refl _)) (Nat.le_refl _)) (Nat.le_refl _)
  clear hs1' hs2' hB' c3 c4 c5 f3 f4 f5 c8
  generalize ((w3.setCell ⟨w.heap.size, 3, none⟩ (.int .i64 x')).setCell ⟨w.heap.size, 4, none⟩ (.int .i64 y')).setCell ⟨w.heap.size, 5, none⟩ (.int .i64 z') = W4 at *
  obtain ⟨inner, hreps, hcell, h0⟩ : ∃ inner, Reps (k104.K w) 5 l inner ∧ (∀ ad, A = some ad → ∀ j u, inner[j]? = some u → w.cell? (ad.add j) = some u) ∧ (A = none → l.length = 0) := by
    cases A with
    | none =>
      have h0 : l = [] := by
        rcases Nat.eq_zero_or_pos l.length with g | g
        · exact List.length_eq_zero_iff.1 g
        · obtain ⟨ad, e, _⟩ := HR.out.2.2 g; cases e
      subst h0
      exact ⟨[], Reps.none _ _, fun ad e => (by cases e), fun _ => rfl⟩
    | some ad =>
      obtain ⟨inner, h1, h2⟩ := ReadsRow.inner_ HR.out
      exact ⟨inner, h1, fun ad' e => by cases e; exact h2, fun e => by cases e⟩
  have hlt4 : w.heap.size + 2 ≤ W4.heap.size := (Array.getElem?_eq_some_iff.1 hs4).1
  have hmix : ∀ g, Mix (w.heap.size + 2) g w w 0 l inner := fun g => ⟨hreps.1, fun j p hj => ⟨fun h => absurd h (Nat.not_lt_zero _), fun _ W' hW => k104_heap.K (fun k hlt => hW k hlt hlt) (hreps.2 j p hj)⟩⟩
  refine (clone104_calls A c l.length inner W4 hreps.1 (Reps.one' hreps (by decide) (fun _ _ hk => k104.K_one hk)) (fun ad e j u hj => pw_cell_below hB4 (hcell ad e j u hj)) h0 hsm1).mono ?_
  clear hcell h0 hreps
  rintro e w5 ⟨v', rfl, ho, hb⟩
  have ho2 := own_weaken ho hlt4
  have hs5 := blk_below hs3 hb
  have hs6 := blk_below hs4 hb
  have hB5 := below_step hB4 hb
  clear ho hs3 hs4 hb hB4
  have c8 := (blk_cell hs5 8).trans (rfl : _ = some (Value.slice A l.length c))
  have f8 := blk_frozen hs5 8
  obtain ⟨A', c', rfl⟩ := own_slice ho2
  have HO := Aside0.mk ho2
  have HM := Aside0.mk hmix
  clear ho2 hmix
  go_upto_region 3 with (fail)
  have hs7 := blk_put hs5 8 (.slice A' l.length c') rfl
  have hs8 : (w5.setCell ⟨w.heap.size, 8, none⟩ (.slice A' l.length c')).heap[w.heap.size + 1]? = some (.cells ft0 28 (0, 0)) := (Below.heap_setCell _ _ _ _ (by show w.heap.size + 1 ≠ w.heap.size; omega)).trans hs6
  have hB6 := below_set (j := 8) (v := .slice A' l.length c') hB5 (Nat.le_refl _)
  have HO2 := Aside0.mk (own_move (w1 := w5.setCell ⟨w.heap.size, 8, none⟩ (.slice A' l.length c')) HO.out (fun k hk => Below.heap_setCell _ _ _ _ (by have := own_base HO.out k hk; show k ≠ w.heap.size; omega)))
  clear hs5 hs6 hB5 HO c8 f8
  generalize w5.setCell ⟨w.heap.size, 8, none⟩ (.slice A' l.length c') = W6 at *
  have c8 := (blk_cell hs7 8).trans (rfl : _ = some (Value.slice A' l.length c'))
  go_wp2
  obtain ⟨gg, hgg⟩ : ∃ gg, 0 < l.length → A' = some ⟨gg, 0, none⟩ := by
    rcases HO2.out.2 with ⟨e, h0⟩ | ⟨gg, cap, cur, e, _⟩
    · exact ⟨0, fun h => by omega⟩
    · injection e with e _ _
      exact ⟨gg, fun _ => e⟩
  have HG := Aside0.mk hgg
  clear hgg c8
  go_loopg [21] l.length (fun kx s21 wr => ∃ (i : Nat) (inn : List Value), i ≤ l.length ∧ s21 = .int .i64 i ∧ l.length - i ≤ kx ∧ wr.heap[w.heap.size]? = some (.cells (ftV nm k ax x' y' z' lo hi A' l.length c') 28 (0, 0)) ∧ wr.heap[w.heap.size + 1]? = some (.cells ft0 28 (0, 0)) ∧ Below w.heap.size w wr ∧ Aside0 (wr.ownsRow (w.heap.size + 2) 104 5 (.slice A' l.length c') l.length inn) ∧ Aside0 (Mix (w.heap.size + 2) gg w wr i l inn))
  case atStart => exact ⟨0, inner, Nat.zero_le _, rfl, by omega, hs7, hs8, hB6, HO2, ⟨(HM.out gg).1, fun j p hj => ⟨fun h => absurd h (Nat.not_lt_zero _), ((HM.out gg).2 j p hj).2⟩⟩⟩
  case round =>
    obtain ⟨i, inn, hin, rfl, hk, k1, k2, kB, HOi, HMi⟩ := hrel
    clear hs7 hs8 hB6 HO2 HM
    have c8 := (blk_cell k1 8).trans (rfl : _ = some (Value.slice A' l.length c'))
    by_cases hlt : i < l.length
    · obtain rfl := HG.out (by omega)
      obtain ⟨hge, hnc, hcl, hfr⟩ := own_at HOi.out
      obtain ⟨p, hp⟩ : ∃ p, l[i]? = some p := ⟨_, List.getElem?_eq_getElem hlt⟩
      have hK : k104.K wr p ((inn.drop (i * 5)).take 5) := ((HMi.out.2 i p hp).2 (Nat.le_refl _)) wr (fun k hk _ => kB.block k hk)
      obtain ⟨A4, c4, e5, l4, g4⟩ := k104_open hK
      have hq : ∀ q u, [Value.int .i64 p.f0, .bool p.f1, .int .i64 p.f2, .int .i64 p.f3, .slice A4 p.f4.length c4][q]? = some u → inn[i * 5 + q]? = some u := by
        intro q u hu
        rw [← e5, List.getElem?_take] at hu
        split at hu
        · rwa [List.getElem?_drop] at hu
        · cases hu
      have x0 : wr.cell? ⟨gg, i * 5, none⟩ = some (.int .i64 p.f0) := hcl _ _ (hq 0 _ rfl)
      have x1 := hcl _ _ (hq 1 _ rfl)
      have x2 := hcl _ _ (hq 2 _ rfl)
      have x3 := hcl _ _ (hq 3 _ rfl)
      have x4 := hcl _ _ (hq 4 _ rfl)
      have z4 := hfr (i * 5 + 4)
      have s4 : p.f4.length ≤ 1000000 := by
        have h := HS.out
        simp only [small, Bool.and_eq_true, List.all_eq_true, decide_eq_true_eq] at h
        exact h.2 p (List.mem_of_getElem? hp)
      have hq4 := hq 4 _ rfl
      clear hcl hfr hq hK
      have hii : (i : Int) < (l.length : Int) := by omega
      go_upto_region 6 with (fail)
      clear x0 x1 x2 x3 x4 z4 c8
      have hsr : w.heap.size + 2 ≤ wr.heap.size := (Array.getElem?_eq_some_iff.1 k2).1
      have hgr : gg < wr.heap.size := by
        rcases HOi.out.2 with ⟨e, _⟩ | ⟨g', cap', cur, e, hg, hh, _⟩
        · cases e
        · injection e with e1 _ _
          injection e1 with e1
          injection e1 with e1 _ _
          exact e1 ▸ (Array.getElem?_eq_some_iff.1 hh).1
      have hx := blk_new wr (.cells #[.int .i64 p.f0, .bool p.f1, .int .i64 p.f2, .int .i64 p.f3, .slice A4 p.f4.length c4] 104)
      have k1' := blk_alloc k1 (.cells #[.int .i64 p.f0, .bool p.f1, .int .i64 p.f2, .int .i64 p.f3, .slice A4 p.f4.length c4] 104)
      have k2' := blk_alloc k2 (.cells #[.int .i64 p.f0, .bool p.f1, .int .i64 p.f2, .int .i64 p.f3, .slice A4 p.f4.length c4] 104)
      have kW := bel1 wr (.cells #[.int .i64 p.f0, .bool p.f1, .int .i64 p.f2, .int .i64 p.f3, .slice A4 p.f4.length c4] 104)
      generalize wr.alloc (.cells #[.int .i64 p.f0, .bool p.f1, .int .i64 p.f2, .int .i64 p.f3, .slice A4 p.f4.length c4] 104) = Wx at *
      have G4 := Aside0.mk (Kd.C_below g4 kW)
      have HO' := Aside0.mk (pw_own_below HOi.out kW)
      clear g4
      have c8 := (blk_cell k1' 8).trans (rfl : _ = some (Value.slice (some ⟨gg, 0, none⟩) l.length c'))
      have y4 := (blk_cell hx 4).trans (rfl : _ = some (Value.slice A4 p.f4.length c4))
      go_region_held3 (fun w' => w'.cell? ⟨w.heap.size, 8, none⟩ = some (.slice (some ⟨gg, 0, none⟩) l.length c') ∧ w'.cell? ⟨wr.heap.size, 4, none⟩ = some (.slice A4 p.f4.length c4)) (first | exact ⟨c8, y4⟩ | exact ⟨cell_on hb c8, cell_on hb y4⟩ | exact ⟨cell_far (cell_on hb c8) (by omega), cell_far (cell_on hb y4) (by omega)⟩) (first | (go_at_call 126; refine (clone106_calls A4 c4 p.f4 _ (Kd.C_drew G4.out) l4 s4).mono ?_; rintro e w' ⟨A6, c6, rfl, l6, F6, hb⟩; have x4 := (own_at (pw_own_below (w := Wx.drew) HO'.out hb)).2.2.1 _ _ (hq4); have z4 := (own_at (pw_own_below (w := Wx.drew) HO'.out hb)).2.2.2 (i * 5 + 4)))
      go_wp2
      go_roundg (l.length - (i + 1))
      case measure => omega
      case rel =>
        have own' := pw_own_below (w := Wx.drew) HO'.out hb
        have hgx : gg < Wx.heap.size ∧ w.heap.size + 2 ≤ Wx.heap.size := ⟨Nat.lt_of_lt_of_le hgr kW.size, Nat.le_trans hsr kW.size⟩
        refine ⟨i + 1, inn.set (i * 5 + 4) (.slice A6 p.f4.length c6), by omega, rfl, Nat.le_refl _, ?_, ?_, ?_, ⟨own_put own' _ _⟩, ⟨by rw [List.length_set]; exact HMi.out.1, fun j p' hj => ⟨fun hjl => ?_, fun hjl => ?_⟩⟩⟩
        · exact (Below.heap_setCell _ _ _ _ (by show w.heap.size ≠ gg; omega)).trans (blk_below (w := Wx.drew) k1' hb)
        · exact (Below.heap_setCell _ _ _ _ (by show w.heap.size + 1 ≠ gg; omega)).trans (blk_below (w := Wx.drew) k2' hb)
        · exact below_set (below_step (w := w) (W := Wx.drew) (below_drew1 (below_step kB kW)) hb) (by omega)
        · rcases Nat.lt_or_ge j i with g | g
          · rw [set_off (by omega)]
            have h1 := (HMi.out.2 j p' hj).1 g
            have h2 : Kd.FK k104 w' (fun k => w.heap.size + 2 ≤ k ∧ k ≠ gg) p' ((inn.drop (j * 5)).take 5) := Kd.FK_below (Kd.FK_step (W1 := Wx.drew) h1 (fun k _ hlt => kW.block k hlt)) hb
            exact Kd.FK_step h2 (fun k hk _ => Below.heap_setCell _ _ _ _ hk.2)
          · obtain rfl : j = i := by omega
            rw [hp] at hj
            obtain rfl := Option.some.inj hj
            rw [set_on e5]
            exact k104_mkF _ _ _ l6 (Kd.F_far (Kd.F_mono F6 (fun k hk => ⟨Nat.le_trans hgx.2 hk, by have : Wx.heap.size ≤ k := hk; omega⟩)) (fun k hk => hk.2) _)
        · rw [set_off (by omega)]
          exact (HMi.out.2 j p' hj).2 (by omega)
    · obtain rfl : i = l.length := by omega
      go_wp2_with (first | ((with_reducible refine gate_dst (N := 35) rfl ?_); refine wpList_load_row rfl 28 (.tmp 2) rfl w.heap.size rfl 28 (ftV nm k ax x' y' z' lo hi A' l.length c') (0, 0) _ k1 Try.underlying28 rfl (by kernel_rfl) ?_) | ((with_reducible refine gate_store (t := 28) (p := 4) rfl ?_); refine wpList_store_row rfl 28 (.tmp 4) (.tmp 35) rfl (w.heap.size + 1) (ftV nm k ax x' y' z' lo hi A' l.length c') rfl rfl 28 ft0 k2 (by kernel_rfl) rfl (by simp [Value.oneCell']) ?_))
      refine bodyPost_ret (results_cell_row rfl _ _ (w.heap.size + 1) 28 (ftV nm k ax x' y' z' lo hi A' l.length c') (0, 0) _ rfl (row_new k2) Try.underlying28 rfl (by kernel_rfl)) rfl ?_
      obtain ⟨A8, c9, e8, h8, F8⟩ := F_of_own (d := k104) HR.out.2.1 HOi.out ⟨HMi.out.1, fun j p hj => Kd.FK_mono ((HMi.out.2 j p hj).1 (List.getElem?_eq_some_iff.1 hj).1) (fun k hk => hk.1)⟩
      injection e8 with e8 _ e9
      subst e8 e9
      refine ⟨A', c', rfl, h8, ?_, ?_⟩
      · refine Kd.F_mono (ok := fun k => w.heap.size + 2 ≤ k) ?_ (fun k hk => by omega)
        exact Kd.F_step F8 (fun k hk _ => row_far (by omega))
      · exact row_bel kB (by omega)
end Go.Proofs.Ytkgdlbepjmgaiaa.Fea
set_option linter.unusedVariables false
set_option linter.unusedSimpArgs false
namespace Go.Proofs.Ytkgdlbepjmgaiaa.Fea
open Go.RowKit Go.Proofs.YtkgdlbepjmgaiaaW.PrintWords Go.Proofs.YtkgdlbepjmgaiaaW.PrintLast Go.Proofs.YtkgdlbepjmgaiaaW.PrintMore
def turn3 (x y z a : Int) : Int × Int × Int := if a = 0 then (x, -z, y) else if a = 1 then (z, y, -x) else (-y, x, z)
def mir3 (x y z a : Int) : Int × Int × Int := if a = 0 then (-x, y, z) else if a = 1 then (x, -y, z) else (x, y, -z)
set_option maxHeartbeats 8000000 in
set_option maxRecDepth 100000 in
theorem turn1_0 (bl bn : Nat) (x y z : Int) (W : World) (hbl : W.cell? ⟨bl, 0, none⟩ = some (.int .i64 2)) (hbn : W.cell? ⟨bn, 0, none⟩ = some (.int .i64 1)) (rx : -100000 ≤ x ∧ x ≤ 100000) (ry : -100000 ≤ y ∧ y ≤ 100000) (rz : -100000 ≤ z ∧ z ≤ 100000) :
    Calls Try.prog 95 (#[.agg (v3 x y z)] ++ #[.pointer (some ⟨bl, 0, none⟩), .pointer (some ⟨bn, 0, none⟩)]) W fun e w' => e = .returned (.agg (v3 (x) (-z) (y))) ∧ Below W.heap.size W w' := by
  have hu128 := Try.underlying128
  have ez : IntKind.i64.wrap (-z) = -z := IntWalk.i64_in _ (by omega)
  have kbl : bl < W.heap.size := World.block_lt_of_cell? _ _ hbl
  have kbn : bn < W.heap.size := World.block_lt_of_cell? _ _ hbn
  clear rx ry rz
  go_enter Try.func95, Try.ntmps95
  go_upto_region 1 with (fail)
  have gbl := cell_alloc (cell_alloc hbl (.cells (v3 x y z) 128)) (.cells #[.int .i64 0, .int .i64 0, .int .i64 0] 128)
  have gbn := cell_alloc (cell_alloc hbn (.cells (v3 x y z) 128)) (.cells #[.int .i64 0, .int .i64 0, .int .i64 0] 128)
  have hc1 := heap2o W (.cells (v3 x y z) 128) (.cells #[.int .i64 0, .int .i64 0, .int .i64 0] 128)
  have hc2 := heap2 W (.cells (v3 x y z) 128) (.cells #[.int .i64 0, .int .i64 0, .int .i64 0] 128)
  have hB := bel2 W (.cells (v3 x y z) 128) (.cells #[.int .i64 0, .int .i64 0, .int .i64 0] 128)
  have nbl : bl ≠ W.heap.size := by omega
  have nbn : bn ≠ W.heap.size := by omega
  generalize (W.alloc (.cells (v3 x y z) 128)).alloc (.cells #[.int .i64 0, .int .i64 0, .int .i64 0] 128) = W1 at *
  have d0 := (blk_cell hc1 0).trans (rfl : _ = some (Value.int .i64 x))
  have z0 := blk_frozen hc1 0
  have d1 := (blk_cell hc1 1).trans (rfl : _ = some (Value.int .i64 y))
  have z1 := blk_frozen hc1 1
  have d2 := (blk_cell hc1 2).trans (rfl : _ = some (Value.int .i64 z))
  have z2 := blk_frozen hc1 2
  go_region
  have hc1' : ((W1.setCell ⟨W.heap.size, 1, none⟩ (.int .i64 (-z))).setCell ⟨W.heap.size, 2, none⟩ (.int .i64 (y))).drew.heap[W.heap.size]? = some (.cells (v3 (x) (-z) (y)) 128 (0, 0)) := (blk_put (blk_put hc1 1 _ rfl) 2 _ rfl)
  have hc2' : ((W1.setCell ⟨W.heap.size, 1, none⟩ (.int .i64 (-z))).setCell ⟨W.heap.size, 2, none⟩ (.int .i64 (y))).drew.heap[W.heap.size + 1]? = some (.cells #[.int .i64 0, .int .i64 0, .int .i64 0] 128 (0, 0)) := ((Below.heap_setCell _ _ _ _ (by show W.heap.size + 1 ≠ W.heap.size; omega)).trans ((Below.heap_setCell _ _ _ _ (by show W.heap.size + 1 ≠ W.heap.size; omega)).trans hc2))
  have hB' : Below W.heap.size W ((W1.setCell ⟨W.heap.size, 1, none⟩ (.int .i64 (-z))).setCell ⟨W.heap.size, 2, none⟩ (.int .i64 (y))).drew := below_drew1 (below_set (below_set hB (Nat.le_refl _)) (Nat.le_refl _))
  generalize ((W1.setCell ⟨W.heap.size, 1, none⟩ (.int .i64 (-z))).setCell ⟨W.heap.size, 2, none⟩ (.int .i64 (y))).drew = W2 at *
  have p0 := (blk_cell hc1' 0).trans (rfl : _ = some (Value.int .i64 (x)))
  have q0 := (blk_cell hc2' 0).trans (rfl : _ = some (Value.int .i64 0))
  have u0 := blk_frozen hc2' 0
  have p1 := (blk_cell hc1' 1).trans (rfl : _ = some (Value.int .i64 (-z)))
  have q1 := (blk_cell hc2' 1).trans (rfl : _ = some (Value.int .i64 0))
  have u1 := blk_frozen hc2' 1
  have p2 := (blk_cell hc1' 2).trans (rfl : _ = some (Value.int .i64 (y)))
  have q2 := (blk_cell hc2' 2).trans (rfl : _ = some (Value.int .i64 0))
  have u2 := blk_frozen hc2' 2
  clear gbl hbl gbn hbn d0 d1 d2 z0 z1 z2
  go_wp2
  refine bodyPost_ret (results_cell_row rfl _ _ (W.heap.size + 1) 128 (v3 (x) (-z) (y)) (0, 0) _ rfl (blk_put (blk_put (blk_put hc2' 0 _ rfl) 1 _ rfl) 2 _ rfl) Try.underlying128 rfl (by kernel_rfl)) rfl ?_
  exact ⟨rfl, below_set (below_set (below_set hB' (by omega)) (by omega)) (by omega)⟩
set_option maxHeartbeats 8000000 in
set_option maxRecDepth 100000 in
theorem turn1_1 (bl bn : Nat) (x y z : Int) (W : World) (hbl : W.cell? ⟨bl, 0, none⟩ = some (.int .i64 0)) (hbn : W.cell? ⟨bn, 0, none⟩ = some (.int .i64 2)) (rx : -100000 ≤ x ∧ x ≤ 100000) (ry : -100000 ≤ y ∧ y ≤ 100000) (rz : -100000 ≤ z ∧ z ≤ 100000) :
    Calls Try.prog 95 (#[.agg (v3 x y z)] ++ #[.pointer (some ⟨bl, 0, none⟩), .pointer (some ⟨bn, 0, none⟩)]) W fun e w' => e = .returned (.agg (v3 (z) (y) (-x))) ∧ Below W.heap.size W w' := by
  have hu128 := Try.underlying128
  have ex : IntKind.i64.wrap (-x) = -x := IntWalk.i64_in _ (by omega)
  have kbl : bl < W.heap.size := World.block_lt_of_cell? _ _ hbl
  have kbn : bn < W.heap.size := World.block_lt_of_cell? _ _ hbn
  clear rx ry rz
  go_enter Try.func95, Try.ntmps95
  go_upto_region 1 with (fail)
  have gbl := cell_alloc (cell_alloc hbl (.cells (v3 x y z) 128)) (.cells #[.int .i64 0, .int .i64 0, .int .i64 0] 128)
  have gbn := cell_alloc (cell_alloc hbn (.cells (v3 x y z) 128)) (.cells #[.int .i64 0, .int .i64 0, .int .i64 0] 128)
  have hc1 := heap2o W (.cells (v3 x y z) 128) (.cells #[.int .i64 0, .int .i64 0, .int .i64 0] 128)
  have hc2 := heap2 W (.cells (v3 x y z) 128) (.cells #[.int .i64 0, .int .i64 0, .int .i64 0] 128)
  have hB := bel2 W (.cells (v3 x y z) 128) (.cells #[.int .i64 0, .int .i64 0, .int .i64 0] 128)
  have nbl : bl ≠ W.heap.size := by omega
  have nbn : bn ≠ W.heap.size := by omega
  generalize (W.alloc (.cells (v3 x y z) 128)).alloc (.cells #[.int .i64 0, .int .i64 0, .int .i64 0] 128) = W1 at *
  have d0 := (blk_cell hc1 0).trans (rfl : _ = some (Value.int .i64 x))
  have z0 := blk_frozen hc1 0
  have d1 := (blk_cell hc1 1).trans (rfl : _ = some (Value.int .i64 y))
  have z1 := blk_frozen hc1 1
  have d2 := (blk_cell hc1 2).trans (rfl : _ = some (Value.int .i64 z))
  have z2 := blk_frozen hc1 2
  go_region
  have hc1' : ((W1.setCell ⟨W.heap.size, 2, none⟩ (.int .i64 (-x))).setCell ⟨W.heap.size, 0, none⟩ (.int .i64 (z))).drew.heap[W.heap.size]? = some (.cells (v3 (z) (y) (-x)) 128 (0, 0)) := (blk_put (blk_put hc1 2 _ rfl) 0 _ rfl)
  have hc2' : ((W1.setCell ⟨W.heap.size, 2, none⟩ (.int .i64 (-x))).setCell ⟨W.heap.size, 0, none⟩ (.int .i64 (z))).drew.heap[W.heap.size + 1]? = some (.cells #[.int .i64 0, .int .i64 0, .int .i64 0] 128 (0, 0)) := ((Below.heap_setCell _ _ _ _ (by show W.heap.size + 1 ≠ W.heap.size; omega)).trans ((Below.heap_setCell _ _ _ _ (by show W.heap.size + 1 ≠ W.heap.size; omega)).trans hc2))
  have hB' : Below W.heap.size W ((W1.setCell ⟨W.heap.size, 2, none⟩ (.int .i64 (-x))).setCell ⟨W.heap.size, 0, none⟩ (.int .i64 (z))).drew := below_drew1 (below_set (below_set hB (Nat.le_refl _)) (Nat.le_refl _))
  generalize ((W1.setCell ⟨W.heap.size, 2, none⟩ (.int .i64 (-x))).setCell ⟨W.heap.size, 0, none⟩ (.int .i64 (z))).drew = W2 at *
  have p0 := (blk_cell hc1' 0).trans (rfl : _ = some (Value.int .i64 (z)))
  have q0 := (blk_cell hc2' 0).trans (rfl : _ = some (Value.int .i64 0))
  have u0 := blk_frozen hc2' 0
  have p1 := (blk_cell hc1' 1).trans (rfl : _ = some (Value.int .i64 (y)))
  have q1 := (blk_cell hc2' 1).trans (rfl : _ = some (Value.int .i64 0))
  have u1 := blk_frozen hc2' 1
  have p2 := (blk_cell hc1' 2).trans (rfl : _ = some (Value.int .i64 (-x)))
  have q2 := (blk_cell hc2' 2).trans (rfl : _ = some (Value.int .i64 0))
  have u2 := blk_frozen hc2' 2
  clear gbl hbl gbn hbn d0 d1 d2 z0 z1 z2
  go_wp2
  refine bodyPost_ret (results_cell_row rfl _ _ (W.heap.size + 1) 128 (v3 (z) (y) (-x)) (0, 0) _ rfl (blk_put (blk_put (blk_put hc2' 0 _ rfl) 1 _ rfl) 2 _ rfl) Try.underlying128 rfl (by kernel_rfl)) rfl ?_
  exact ⟨rfl, below_set (below_set (below_set hB' (by omega)) (by omega)) (by omega)⟩
set_option maxHeartbeats 8000000 in
set_option maxRecDepth 100000 in
theorem turn1_2 (bl bn : Nat) (x y z : Int) (W : World) (hbl : W.cell? ⟨bl, 0, none⟩ = some (.int .i64 1)) (hbn : W.cell? ⟨bn, 0, none⟩ = some (.int .i64 0)) (rx : -100000 ≤ x ∧ x ≤ 100000) (ry : -100000 ≤ y ∧ y ≤ 100000) (rz : -100000 ≤ z ∧ z ≤ 100000) :
    Calls Try.prog 95 (#[.agg (v3 x y z)] ++ #[.pointer (some ⟨bl, 0, none⟩), .pointer (some ⟨bn, 0, none⟩)]) W fun e w' => e = .returned (.agg (v3 (-y) (x) (z))) ∧ Below W.heap.size W w' := by
  have hu128 := Try.underlying128
  have ey : IntKind.i64.wrap (-y) = -y := IntWalk.i64_in _ (by omega)
  have kbl : bl < W.heap.size := World.block_lt_of_cell? _ _ hbl
  have kbn : bn < W.heap.size := World.block_lt_of_cell? _ _ hbn
  clear rx ry rz
  go_enter Try.func95, Try.ntmps95
  go_upto_region 1 with (fail)
  have gbl := cell_alloc (cell_alloc hbl (.cells (v3 x y z) 128)) (.cells #[.int .i64 0, .int .i64 0, .int .i64 0] 128)
  have gbn := cell_alloc (cell_alloc hbn (.cells (v3 x y z) 128)) (.cells #[.int .i64 0, .int .i64 0, .int .i64 0] 128)
  have hc1 := heap2o W (.cells (v3 x y z) 128) (.cells #[.int .i64 0, .int .i64 0, .int .i64 0] 128)
  have hc2 := heap2 W (.cells (v3 x y z) 128) (.cells #[.int .i64 0, .int .i64 0, .int .i64 0] 128)
  have hB := bel2 W (.cells (v3 x y z) 128) (.cells #[.int .i64 0, .int .i64 0, .int .i64 0] 128)
  have nbl : bl ≠ W.heap.size := by omega
  have nbn : bn ≠ W.heap.size := by omega
  generalize (W.alloc (.cells (v3 x y z) 128)).alloc (.cells #[.int .i64 0, .int .i64 0, .int .i64 0] 128) = W1 at *
  have d0 := (blk_cell hc1 0).trans (rfl : _ = some (Value.int .i64 x))
  have z0 := blk_frozen hc1 0
  have d1 := (blk_cell hc1 1).trans (rfl : _ = some (Value.int .i64 y))
  have z1 := blk_frozen hc1 1
  have d2 := (blk_cell hc1 2).trans (rfl : _ = some (Value.int .i64 z))
  have z2 := blk_frozen hc1 2
  go_region
  have hc1' : ((W1.setCell ⟨W.heap.size, 0, none⟩ (.int .i64 (-y))).setCell ⟨W.heap.size, 1, none⟩ (.int .i64 (x))).drew.heap[W.heap.size]? = some (.cells (v3 (-y) (x) (z)) 128 (0, 0)) := (blk_put (blk_put hc1 0 _ rfl) 1 _ rfl)
  have hc2' : ((W1.setCell ⟨W.heap.size, 0, none⟩ (.int .i64 (-y))).setCell ⟨W.heap.size, 1, none⟩ (.int .i64 (x))).drew.heap[W.heap.size + 1]? = some (.cells #[.int .i64 0, .int .i64 0, .int .i64 0] 128 (0, 0)) := ((Below.heap_setCell _ _ _ _ (by show W.heap.size + 1 ≠ W.heap.size; omega)).trans ((Below.heap_setCell _ _ _ _ (by show W.heap.size + 1 ≠ W.heap.size; omega)).trans hc2))
  have hB' : Below W.heap.size W ((W1.setCell ⟨W.heap.size, 0, none⟩ (.int .i64 (-y))).setCell ⟨W.heap.size, 1, none⟩ (.int .i64 (x))).drew := below_drew1 (below_set (below_set hB (Nat.le_refl _)) (Nat.le_refl _))
  generalize ((W1.setCell ⟨W.heap.size, 0, none⟩ (.int .i64 (-y))).setCell ⟨W.heap.size, 1, none⟩ (.int .i64 (x))).drew = W2 at *
  have p0 := (blk_cell hc1' 0).trans (rfl : _ = some (Value.int .i64 (-y)))
  have q0 := (blk_cell hc2' 0).trans (rfl : _ = some (Value.int .i64 0))
  have u0 := blk_frozen hc2' 0
  have p1 := (blk_cell hc1' 1).trans (rfl : _ = some (Value.int .i64 (x)))
  have q1 := (blk_cell hc2' 1).trans (rfl : _ = some (Value.int .i64 0))
  have u1 := blk_frozen hc2' 1
  have p2 := (blk_cell hc1' 2).trans (rfl : _ = some (Value.int .i64 (z)))
  have q2 := (blk_cell hc2' 2).trans (rfl : _ = some (Value.int .i64 0))
  have u2 := blk_frozen hc2' 2
  clear gbl hbl gbn hbn d0 d1 d2 z0 z1 z2
  go_wp2
  refine bodyPost_ret (results_cell_row rfl _ _ (W.heap.size + 1) 128 (v3 (-y) (x) (z)) (0, 0) _ rfl (blk_put (blk_put (blk_put hc2' 0 _ rfl) 1 _ rfl) 2 _ rfl) Try.underlying128 rfl (by kernel_rfl)) rfl ?_
  exact ⟨rfl, below_set (below_set (below_set hB' (by omega)) (by omega)) (by omega)⟩
set_option maxHeartbeats 8000000 in
set_option maxRecDepth 100000 in
theorem mir1_0 (ba : Nat) (x y z : Int) (W : World) (hba : W.cell? ⟨ba, 0, none⟩ = some (.int .i64 0)) (rx : -100000 ≤ x ∧ x ≤ 100000) (ry : -100000 ≤ y ∧ y ≤ 100000) (rz : -100000 ≤ z ∧ z ≤ 100000) :
    Calls Try.prog 96 (#[.agg (v3 x y z)] ++ #[.pointer (some ⟨ba, 0, none⟩)]) W fun e w' => e = .returned (.agg (v3 (-x) (y) (z))) ∧ Below W.heap.size W w' := by
  have hu128 := Try.underlying128
  have ex : IntKind.i64.wrap (-x) = -x := IntWalk.i64_in _ (by omega)
  have kba : ba < W.heap.size := World.block_lt_of_cell? _ _ hba
  clear rx ry rz
  go_enter Try.func96, Try.ntmps96
  go_upto_region 1 with (fail)
  have gba := cell_alloc (cell_alloc hba (.cells (v3 x y z) 128)) (.cells #[.int .i64 0, .int .i64 0, .int .i64 0] 128)
  have hc1 := heap2o W (.cells (v3 x y z) 128) (.cells #[.int .i64 0, .int .i64 0, .int .i64 0] 128)
  have hc2 := heap2 W (.cells (v3 x y z) 128) (.cells #[.int .i64 0, .int .i64 0, .int .i64 0] 128)
  have hB := bel2 W (.cells (v3 x y z) 128) (.cells #[.int .i64 0, .int .i64 0, .int .i64 0] 128)
  have nba : ba ≠ W.heap.size := by omega
  generalize (W.alloc (.cells (v3 x y z) 128)).alloc (.cells #[.int .i64 0, .int .i64 0, .int .i64 0] 128) = W1 at *
  have d0 := (blk_cell hc1 0).trans (rfl : _ = some (Value.int .i64 x))
  have z0 := blk_frozen hc1 0
  have d1 := (blk_cell hc1 1).trans (rfl : _ = some (Value.int .i64 y))
  have z1 := blk_frozen hc1 1
  have d2 := (blk_cell hc1 2).trans (rfl : _ = some (Value.int .i64 z))
  have z2 := blk_frozen hc1 2
  go_region
  have hc1' : (W1.setCell ⟨W.heap.size, 0, none⟩ (.int .i64 (-x))).drew.heap[W.heap.size]? = some (.cells (v3 (-x) (y) (z)) 128 (0, 0)) := (blk_put hc1 0 _ rfl)
  have hc2' : (W1.setCell ⟨W.heap.size, 0, none⟩ (.int .i64 (-x))).drew.heap[W.heap.size + 1]? = some (.cells #[.int .i64 0, .int .i64 0, .int .i64 0] 128 (0, 0)) := ((Below.heap_setCell _ _ _ _ (by show W.heap.size + 1 ≠ W.heap.size; omega)).trans hc2)
  have hB' : Below W.heap.size W (W1.setCell ⟨W.heap.size, 0, none⟩ (.int .i64 (-x))).drew := below_drew1 (below_set hB (Nat.le_refl _))
  generalize (W1.setCell ⟨W.heap.size, 0, none⟩ (.int .i64 (-x))).drew = W2 at *
  have p0 := (blk_cell hc1' 0).trans (rfl : _ = some (Value.int .i64 (-x)))
  have q0 := (blk_cell hc2' 0).trans (rfl : _ = some (Value.int .i64 0))
  have u0 := blk_frozen hc2' 0
  have p1 := (blk_cell hc1' 1).trans (rfl : _ = some (Value.int .i64 (y)))
  have q1 := (blk_cell hc2' 1).trans (rfl : _ = some (Value.int .i64 0))
  have u1 := blk_frozen hc2' 1
  have p2 := (blk_cell hc1' 2).trans (rfl : _ = some (Value.int .i64 (z)))
  have q2 := (blk_cell hc2' 2).trans (rfl : _ = some (Value.int .i64 0))
  have u2 := blk_frozen hc2' 2
  clear gba hba d0 d1 d2 z0 z1 z2
  go_wp2
  refine bodyPost_ret (results_cell_row rfl _ _ (W.heap.size + 1) 128 (v3 (-x) (y) (z)) (0, 0) _ rfl (blk_put (blk_put (blk_put hc2' 0 _ rfl) 1 _ rfl) 2 _ rfl) Try.underlying128 rfl (by kernel_rfl)) rfl ?_
  exact ⟨rfl, below_set (below_set (below_set hB' (by omega)) (by omega)) (by omega)⟩
set_option maxHeartbeats 8000000 in
set_option maxRecDepth 100000 in
theorem mir1_1 (ba : Nat) (x y z : Int) (W : World) (hba : W.cell? ⟨ba, 0, none⟩ = some (.int .i64 1)) (rx : -100000 ≤ x ∧ x ≤ 100000) (ry : -100000 ≤ y ∧ y ≤ 100000) (rz : -100000 ≤ z ∧ z ≤ 100000) :
    Calls Try.prog 96 (#[.agg (v3 x y z)] ++ #[.pointer (some ⟨ba, 0, none⟩)]) W fun e w' => e = .returned (.agg (v3 (x) (-y) (z))) ∧ Below W.heap.size W w' := by
  have hu128 := Try.underlying128
  have ey : IntKind.i64.wrap (-y) = -y := IntWalk.i64_in _ (by omega)
  have kba : ba < W.heap.size := World.block_lt_of_cell? _ _ hba
  clear rx ry rz
  go_enter Try.func96, Try.ntmps96
  go_upto_region 1 with (fail)
  have gba := cell_alloc (cell_alloc hba (.cells (v3 x y z) 128)) (.cells #[.int .i64 0, .int .i64 0, .int .i64 0] 128)
  have hc1 := heap2o W (.cells (v3 x y z) 128) (.cells #[.int .i64 0, .int .i64 0, .int .i64 0] 128)
  have hc2 := heap2 W (.cells (v3 x y z) 128) (.cells #[.int .i64 0, .int .i64 0, .int .i64 0] 128)
  have hB := bel2 W (.cells (v3 x y z) 128) (.cells #[.int .i64 0, .int .i64 0, .int .i64 0] 128)
  have nba : ba ≠ W.heap.size := by omega
  generalize (W.alloc (.cells (v3 x y z) 128)).alloc (.cells #[.int .i64 0, .int .i64 0, .int .i64 0] 128) = W1 at *
  have d0 := (blk_cell hc1 0).trans (rfl : _ = some (Value.int .i64 x))
  have z0 := blk_frozen hc1 0
  have d1 := (blk_cell hc1 1).trans (rfl : _ = some (Value.int .i64 y))
  have z1 := blk_frozen hc1 1
  have d2 := (blk_cell hc1 2).trans (rfl : _ = some (Value.int .i64 z))
  have z2 := blk_frozen hc1 2
  go_region
  have hc1' : (W1.setCell ⟨W.heap.size, 1, none⟩ (.int .i64 (-y))).drew.heap[W.heap.size]? = some (.cells (v3 (x) (-y) (z)) 128 (0, 0)) := (blk_put hc1 1 _ rfl)
  have hc2' : (W1.setCell ⟨W.heap.size, 1, none⟩ (.int .i64 (-y))).drew.heap[W.heap.size + 1]? = some (.cells #[.int .i64 0, .int .i64 0, .int .i64 0] 128 (0, 0)) := ((Below.heap_setCell _ _ _ _ (by show W.heap.size + 1 ≠ W.heap.size; omega)).trans hc2)
  have hB' : Below W.heap.size W (W1.setCell ⟨W.heap.size, 1, none⟩ (.int .i64 (-y))).drew := below_drew1 (below_set hB (Nat.le_refl _))
  generalize (W1.setCell ⟨W.heap.size, 1, none⟩ (.int .i64 (-y))).drew = W2 at *
  have p0 := (blk_cell hc1' 0).trans (rfl : _ = some (Value.int .i64 (x)))
  have q0 := (blk_cell hc2' 0).trans (rfl : _ = some (Value.int .i64 0))
  have u0 := blk_frozen hc2' 0
  have p1 := (blk_cell hc1' 1).trans (rfl : _ = some (Value.int .i64 (-y)))
  have q1 := (blk_cell hc2' 1).trans (rfl : _ = some (Value.int .i64 0))
  have u1 := blk_frozen hc2' 1
  have p2 := (blk_cell hc1' 2).trans (rfl : _ = some (Value.int .i64 (z)))
  have q2 := (blk_cell hc2' 2).trans (rfl : _ = some (Value.int .i64 0))
  have u2 := blk_frozen hc2' 2
  clear gba hba d0 d1 d2 z0 z1 z2
  go_wp2
  refine bodyPost_ret (results_cell_row rfl _ _ (W.heap.size + 1) 128 (v3 (x) (-y) (z)) (0, 0) _ rfl (blk_put (blk_put (blk_put hc2' 0 _ rfl) 1 _ rfl) 2 _ rfl) Try.underlying128 rfl (by kernel_rfl)) rfl ?_
  exact ⟨rfl, below_set (below_set (below_set hB' (by omega)) (by omega)) (by omega)⟩
set_option maxHeartbeats 8000000 in
set_option maxRecDepth 100000 in
theorem mir1_2 (ba : Nat) (x y z : Int) (W : World) (hba : W.cell? ⟨ba, 0, none⟩ = some (.int .i64 2)) (rx : -100000 ≤ x ∧ x ≤ 100000) (ry : -100000 ≤ y ∧ y ≤ 100000) (rz : -100000 ≤ z ∧ z ≤ 100000) :
    Calls Try.prog 96 (#[.agg (v3 x y z)] ++ #[.pointer (some ⟨ba, 0, none⟩)]) W fun e w' => e = .returned (.agg (v3 (x) (y) (-z))) ∧ Below W.heap.size W w' := by
  have hu128 := Try.underlying128
  have ez : IntKind.i64.wrap (-z) = -z := IntWalk.i64_in _ (by omega)
  have kba : ba < W.heap.size := World.block_lt_of_cell? _ _ hba
  clear rx ry rz
  go_enter Try.func96, Try.ntmps96
  go_upto_region 1 with (fail)
  have gba := cell_alloc (cell_alloc hba (.cells (v3 x y z) 128)) (.cells #[.int .i64 0, .int .i64 0, .int .i64 0] 128)
  have hc1 := heap2o W (.cells (v3 x y z) 128) (.cells #[.int .i64 0, .int .i64 0, .int .i64 0] 128)
  have hc2 := heap2 W (.cells (v3 x y z) 128) (.cells #[.int .i64 0, .int .i64 0, .int .i64 0] 128)
  have hB := bel2 W (.cells (v3 x y z) 128) (.cells #[.int .i64 0, .int .i64 0, .int .i64 0] 128)
  have nba : ba ≠ W.heap.size := by omega
  generalize (W.alloc (.cells (v3 x y z) 128)).alloc (.cells #[.int .i64 0, .int .i64 0, .int .i64 0] 128) = W1 at *
  have d0 := (blk_cell hc1 0).trans (rfl : _ = some (Value.int .i64 x))
  have z0 := blk_frozen hc1 0
  have d1 := (blk_cell hc1 1).trans (rfl : _ = some (Value.int .i64 y))
  have z1 := blk_frozen hc1 1
  have d2 := (blk_cell hc1 2).trans (rfl : _ = some (Value.int .i64 z))
  have z2 := blk_frozen hc1 2
  go_region
  have hc1' : (W1.setCell ⟨W.heap.size, 2, none⟩ (.int .i64 (-z))).drew.heap[W.heap.size]? = some (.cells (v3 (x) (y) (-z)) 128 (0, 0)) := (blk_put hc1 2 _ rfl)
  have hc2' : (W1.setCell ⟨W.heap.size, 2, none⟩ (.int .i64 (-z))).drew.heap[W.heap.size + 1]? = some (.cells #[.int .i64 0, .int .i64 0, .int .i64 0] 128 (0, 0)) := ((Below.heap_setCell _ _ _ _ (by show W.heap.size + 1 ≠ W.heap.size; omega)).trans hc2)
  have hB' : Below W.heap.size W (W1.setCell ⟨W.heap.size, 2, none⟩ (.int .i64 (-z))).drew := below_drew1 (below_set hB (Nat.le_refl _))
  generalize (W1.setCell ⟨W.heap.size, 2, none⟩ (.int .i64 (-z))).drew = W2 at *
  have p0 := (blk_cell hc1' 0).trans (rfl : _ = some (Value.int .i64 (x)))
  have q0 := (blk_cell hc2' 0).trans (rfl : _ = some (Value.int .i64 0))
  have u0 := blk_frozen hc2' 0
  have p1 := (blk_cell hc1' 1).trans (rfl : _ = some (Value.int .i64 (y)))
  have q1 := (blk_cell hc2' 1).trans (rfl : _ = some (Value.int .i64 0))
  have u1 := blk_frozen hc2' 1
  have p2 := (blk_cell hc1' 2).trans (rfl : _ = some (Value.int .i64 (-z)))
  have q2 := (blk_cell hc2' 2).trans (rfl : _ = some (Value.int .i64 0))
  have u2 := blk_frozen hc2' 2
  clear gba hba d0 d1 d2 z0 z1 z2
  go_wp2
  refine bodyPost_ret (results_cell_row rfl _ _ (W.heap.size + 1) 128 (v3 (x) (y) (-z)) (0, 0) _ rfl (blk_put (blk_put (blk_put hc2' 0 _ rfl) 1 _ rfl) 2 _ rfl) Try.underlying128 rfl (by kernel_rfl)) rfl ?_
  exact ⟨rfl, below_set (below_set (below_set hB' (by omega)) (by omega)) (by omega)⟩
theorem turn1_calls (bl bn : Nat) (x y z a : Int) (W : World) (h3 : 0 ≤ a ∧ a < 3) (hl : W.cell? ⟨bl, 0, none⟩ = some (.int .i64 ((a + 2) % 3))) (hn : W.cell? ⟨bn, 0, none⟩ = some (.int .i64 ((a + 1) % 3))) (rx : -100000 ≤ x ∧ x ≤ 100000) (ry : -100000 ≤ y ∧ y ≤ 100000) (rz : -100000 ≤ z ∧ z ≤ 100000) :
    Calls Try.prog 95 (#[.agg (v3 x y z)] ++ #[.pointer (some ⟨bl, 0, none⟩), .pointer (some ⟨bn, 0, none⟩)]) W fun e w' => e = .returned (.agg (v3 (turn3 x y z a).1 (turn3 x y z a).2.1 (turn3 x y z a).2.2)) ∧ Below W.heap.size W w' := by
  have hk : a = 0 ∨ a = 1 ∨ a = 2 := by omega
  rcases hk with rfl | rfl | rfl
  · exact turn1_0 bl bn x y z W hl hn rx ry rz
  · exact turn1_1 bl bn x y z W hl hn rx ry rz
  · exact turn1_2 bl bn x y z W hl hn rx ry rz
theorem mir1_calls (ba : Nat) (x y z a : Int) (W : World) (h3 : 0 ≤ a ∧ a < 3) (ha : W.cell? ⟨ba, 0, none⟩ = some (.int .i64 a)) (rx : -100000 ≤ x ∧ x ≤ 100000) (ry : -100000 ≤ y ∧ y ≤ 100000) (rz : -100000 ≤ z ∧ z ≤ 100000) :
    Calls Try.prog 96 (#[.agg (v3 x y z)] ++ #[.pointer (some ⟨ba, 0, none⟩)]) W fun e w' => e = .returned (.agg (v3 (mir3 x y z a).1 (mir3 x y z a).2.1 (mir3 x y z a).2.2)) ∧ Below W.heap.size W w' := by
  have hk : a = 0 ∨ a = 1 ∨ a = 2 := by omega
  rcases hk with rfl | rfl | rfl
  · exact mir1_0 ba x y z W ha rx ry rz
  · exact mir1_1 ba x y z W ha rx ry rz
  · exact mir1_2 ba x y z W ha rx ry rz
end Go.Proofs.Ytkgdlbepjmgaiaa.Fea
set_option linter.unusedVariables false
set_option linter.unusedSimpArgs false
namespace Go.Proofs.Ytkgdlbepjmgaiaa.Fea
open Go.RowKit Go.Proofs.YtkgdlbepjmgaiaaW.PrintWords Go.Proofs.YtkgdlbepjmgaiaaW.PrintLast Go.Proofs.YtkgdlbepjmgaiaaW.PrintMore
set_option maxHeartbeats 16000000 in
set_option maxRecDepth 100000 in
theorem turn_bad (nm : ByteArray) (k ax x y z lo hi : Int) (A : Option Addr) (c : Nat) (l : List S104) (a : Int) (w : World) (hr : Kd.C k104 w A l.length l) (hc : l.length ≤ c) (hne : alongV nm k ax x y z lo hi a ≠ 0) :
    Calls Try.prog 46 #[.agg (ftV nm k ax x y z lo hi A l.length c), .int .i64 a] w fun e w' => ∃ v8_ : Value, e = .returned (.tuple #[.agg (ftU ⟨#[]⟩ 0 0 0 0 0 0 0 v8_), .int .i64 (alongV nm k ax x y z lo hi a)]) ∧ Kd.V k104 104 w' w.heap.size (fun k_ => w.heap.size ≤ k_) v8_ [] ∧ Below w.heap.size w w' := by
  have hu28 := Try.underlying28
  have hu23 := Try.underlying23
  obtain ⟨kk, hkk⟩ := (along_ev nm k ax x y z lo hi l a).rounds
  have HR := Aside0.mk hr
  clear hr
  have n0 : (alongV nm k ax x y z lo hi a == 0) = false := beq_eq_false_iff_ne.2 hne
  have n1 : (alongV nm k ax x y z lo hi a != 0) = true := bne_iff_ne.2 hne
  generalize alongV nm k ax x y z lo hi a = er at *
  clear hne
  go_enter Try.func46, Try.ntmps46
  go_upto_region 1 with (fail)
  have h0 := heap2o w (.cells (ftV nm k ax x y z lo hi A l.length c) 28) (.cells ft0 28)
  have h1 := heap2 w (.cells (ftV nm k ax x y z lo hi A l.length c) 28) (.cells ft0 28)
  have hB := bel2 w (.cells (ftV nm k ax x y z lo hi A l.length c) 28) (.cells ft0 28)
  generalize (w.alloc (.cells (ftV nm k ax x y z lo hi A l.length c) 28)).alloc (.cells ft0 28) = W1 at *
  have c0 := (blk_cell h0 0).trans (rfl : _ = some (Value.string nm))
  have c1 := (blk_cell h0 1).trans (rfl : _ = some (Value.int .i64 k))
  have c2 := (blk_cell h0 2).trans (rfl : _ = some (Value.int .i64 ax))
  have c3 := (blk_cell h0 3).trans (rfl : _ = some (Value.int .i64 x))
  have c4 := (blk_cell h0 4).trans (rfl : _ = some (Value.int .i64 y))
  have c5 := (blk_cell h0 5).trans (rfl : _ = some (Value.int .i64 z))
  have c6 := (blk_cell h0 6).trans (rfl : _ = some (Value.int .i64 lo))
  have c7 := (blk_cell h0 7).trans (rfl : _ = some (Value.int .i64 hi))
  have c8 := (blk_cell h0 8).trans (rfl : _ = some (Value.slice A l.length c))
  go_wp2_with (first | ((with_reducible refine gate_store (t := 28) (p := 4) rfl ?_); refine wpList_store_row rfl 28 (.tmp 4) (.tmp 15) rfl (w.heap.size + 1) ft0 rfl rfl 28 ft0 g1 (by kernel_rfl) rfl (by simp [Value.oneCell']) ?_) | (go_at_call 68; refine (feature_along.calls kk nm k ax x y z lo hi A c l a _ _ (Kd.C_below HR.out hB) hc hkk).mono ?_; rintro e w' ⟨rfl, hb⟩; have g0 := blk_below h0 hb; have g1 := blk_below h1 hb; have gB := below_step hB hb; clear hb c0 c1 c2 c3 c4 c5 c6 c7 c8; have HG := Aside0.mk g1))
  refine bodyPost_ret (results_ct rfl _ _ (w.heap.size + 1) 28 ft0 (0, 0) _ rfl (row_new g1) Try.underlying28 rfl (by kernel_rfl)) rfl ?_
  refine ⟨.slice none 0 0, rfl, Kd.V_nil _ _ _ _ _, row_bel gB (by omega)⟩
def turnAx (k ax a : Int) : Int := if k = 4 then ax else if ax = (a + 1) % 3 then (a + 2) % 3 else if ax = (a + 2) % 3 then (a + 1) % 3 else ax
theorem eg95 : ∀ args w, (callFunc 95 args).run Try.prog w = .ok (.enter 95 args) w := enters_of Try.func95 (by kernel_rfl) rfl
set_option maxHeartbeats 16000000 in
set_option maxRecDepth 100000 in
theorem turn_ok (nm : ByteArray) (k ax x y z lo hi : Int) (A : Option Addr) (c : Nat) (l : List S104) (a : Int) (w : World) (hr : Kd.C k104 w A l.length l) (hc : l.length ≤ c) (hsm : small l = true) (hok : alongV nm k ax x y z lo hi a = 0) :
    Calls Try.prog 46 #[.agg (ftV nm k ax x y z lo hi A l.length c), .int .i64 a] w fun e w' => ∃ v8_ : Value, e = .returned (.tuple #[.agg (ftU nm k (turnAx k ax a) (turn3 x y z a).1 (turn3 x y z a).2.1 (turn3 x y z a).2.2 lo hi v8_), .int .i64 0]) ∧ Kd.V k104 104 w' w.heap.size (fun k_ => w.heap.size ≤ k_) v8_ l ∧ Below w.heap.size w w' := by
  have hu28 := Try.underlying28
  have hu23 := Try.underlying23
  obtain ⟨kk, hkk⟩ := (along_ev nm k ax x y z lo hi l a).rounds
  have HR := Aside0.mk hr
  clear hr
  obtain ⟨hch, h3⟩ := alongV_ok.1 hok
  obtain ⟨_, hq⟩ := chkF_ok.1 hch
  rw [hok] at hkk
  have HQ := Aside0.mk hq
  have H3 := Aside0.mk h3
  have HS := Aside0.mk hsm
  have e1 : IntKind.i64.wrap (a + 1) = a + 1 := IntWalk.i64_in _ (by omega)
  have e2 : IntKind.i64.wrap (a + 2) = a + 2 := IntWalk.i64_in _ (by omega)
  have e3 : (a + 1).tmod 3 = (a + 1) % 3 := Int.tmod_eq_emod_of_nonneg (by omega)
  have e4 : (a + 2).tmod 3 = (a + 2) % 3 := Int.tmod_eq_emod_of_nonneg (by omega)
  clear hq h3 hok hch hsm
  generalize hT : turnAx k ax a = tx at *
  have HT := Aside0.mk hT
  clear hT
  unfold turnAx at HT
  generalize he : turn3 x y z a = p at *
  have HE := Aside0.mk he
  clear he
  have HN : Aside0 (∀ bl bn W, W.cell? ⟨bl, 0, none⟩ = some (.int .i64 ((a + 2) % 3)) → W.cell? ⟨bn, 0, none⟩ = some (.int .i64 ((a + 1) % 3)) → Calls Try.prog 95 (#[.agg (v3 x y z)] ++ #[.pointer (some ⟨bl, 0, none⟩), .pointer (some ⟨bn, 0, none⟩)]) W fun e w' => e = .returned (.agg (v3 p.1 p.2.1 p.2.2)) ∧ Below W.heap.size W w') := ⟨fun bl bn W h1 h2 => by have := turn1_calls bl bn x y z a W H3.out h1 h2 HQ.out.x1 HQ.out.y1 HQ.out.z1; rw [HE.out] at this; exact this⟩
  have hnl : (a + 1) % 3 ≠ (a + 2) % 3 := by omega
  generalize (a + 1) % 3 = nx at *
  generalize (a + 2) % 3 = la at *
  go_enter Try.func46, Try.ntmps46
  go_upto_region 1 with (fail)
  have h0 := heap2o w (.cells (ftV nm k ax x y z lo hi A l.length c) 28) (.cells ft0 28)
  have h1 := heap2 w (.cells (ftV nm k ax x y z lo hi A l.length c) 28) (.cells ft0 28)
  have hB := bel2 w (.cells (ftV nm k ax x y z lo hi A l.length c) 28) (.cells ft0 28)
  generalize (w.alloc (.cells (ftV nm k ax x y z lo hi A l.length c) 28)).alloc (.cells ft0 28) = W1 at *
  have c0 := (blk_cell h0 0).trans (rfl : _ = some (Value.string nm))
  have c1 := (blk_cell h0 1).trans (rfl : _ = some (Value.int .i64 k))
  have c2 := (blk_cell h0 2).trans (rfl : _ = some (Value.int .i64 ax))
  have c3 := (blk_cell h0 3).trans (rfl : _ = some (Value.int .i64 x))
  have c4 := (blk_cell h0 4).trans (rfl : _ = some (Value.int .i64 y))
  have c5 := (blk_cell h0 5).trans (rfl : _ = some (Value.int .i64 z))
  have c6 := (blk_cell h0 6).trans (rfl : _ = some (Value.int .i64 lo))
  have c7 := (blk_cell h0 7).trans (rfl : _ = some (Value.int .i64 hi))
  have c8 := (blk_cell h0 8).trans (rfl : _ = some (Value.slice A l.length c))
  go_upto_region 5 with (go_at_call 68; refine (feature_along.calls kk nm k ax x y z lo hi A c l a _ _ (Kd.C_below HR.out hB) hc hkk).mono ?_; rintro e w' ⟨rfl, hb⟩; have g0 := blk_below h0 hb; have g1 := blk_below h1 hb; have gB := below_step hB hb; clear hb h0 h1 hB c0 c1 c2 c3 c4 c5 c6 c7 c8)
  have n0 := heap2o w' (.cells #[.int .i64 nx] 3) (.cells #[.int .i64 la] 3)
  have n1 := heap2 w' (.cells #[.int .i64 nx] 3) (.cells #[.int .i64 la] 3)
  have nB := bel2 w' (.cells #[.int .i64 nx] 3) (.cells #[.int .i64 la] 3)
  have f0 := blk_below g0 nB
  have f1 := blk_below g1 nB
  have fB := below_step gB nB
  have hgs : w.heap.size + 2 ≤ w'.heap.size := (Array.getElem?_eq_some_iff.1 g1).1
  clear nB g0 g1 gB
  generalize (w'.alloc (.cells #[.int .i64 nx] 3)).alloc (.cells #[.int .i64 la] 3) = Wn at *
  have c0 := (blk_cell f0 0).trans (rfl : _ = some (Value.string nm))
  have c1 := (blk_cell f0 1).trans (rfl : _ = some (Value.int .i64 k))
  have c2 := (blk_cell f0 2).trans (rfl : _ = some (Value.int .i64 ax))
  have c3 := (blk_cell f0 3).trans (rfl : _ = some (Value.int .i64 x))
  have c4 := (blk_cell f0 4).trans (rfl : _ = some (Value.int .i64 y))
  have c5 := (blk_cell f0 5).trans (rfl : _ = some (Value.int .i64 z))
  have c6 := (blk_cell f0 6).trans (rfl : _ = some (Value.int .i64 lo))
  have c7 := (blk_cell f0 7).trans (rfl : _ = some (Value.int .i64 hi))
  have c8 := (blk_cell f0 8).trans (rfl : _ = some (Value.slice A l.length c))
  have hcall := placed_calls 95 #[.pointer (some ⟨w'.heap.size + 1, 0, none⟩), .pointer (some ⟨w'.heap.size, 0, none⟩)] eg95 nm k ax x y z lo hi A c l p.1 p.2.1 p.2.2 Wn (Kd.C_below HR.out fB) hc HS.out (fun W hW => HN.out _ _ W (cell_on hW ((blk_cell n1 0).trans (rfl : _ = some (Value.int .i64 la)))) (cell_on hW ((blk_cell n0 0).trans (rfl : _ = some (Value.int .i64 nx)))))
  go_wp2_with (fail)
  refine hcall.mono ?_
  clear hcall
  rintro e w2 ⟨A', c', rfl, hle, hF, hb⟩
  have hwn : w'.heap.size + 2 ≤ Wn.heap.size := (Array.getElem?_eq_some_iff.1 n1).1
  have m0 := blk_below n0 hb
  have m1 := blk_below n1 hb
  have k0 := blk_below f0 hb
  have k1 := blk_below f1 hb
  have kB := below_step fB hb
  have hsz := hb.size
  have HF := Aside0.mk hF
  clear hF hb n0 n1 f0 f1 fB c0 c1 c2 c3 c4 c5 c6 c7 c8
  go_upto_region 6 with (fail)
  have r9 := blk_new w2 (.cells (ftV nm k ax p.1 p.2.1 p.2.2 lo hi A' l.length c') 28)
  have j0 := blk_alloc k0 (.cells (ftV nm k ax p.1 p.2.1 p.2.2 lo hi A' l.length c') 28)
  have j1 := blk_alloc k1 (.cells (ftV nm k ax p.1 p.2.1 p.2.2 lo hi A' l.length c') 28)
  have j2 := blk_alloc m0 (.cells (ftV nm k ax p.1 p.2.1 p.2.2 lo hi A' l.length c') 28)
  have j3 := blk_alloc m1 (.cells (ftV nm k ax p.1 p.2.1 p.2.2 lo hi A' l.length c') 28)
  have jB := below_alloc kB (.cells (ftV nm k ax p.1 p.2.1 p.2.2 lo hi A' l.length c') 28)
  have HF2 := Aside0.mk (Kd.F_alloc (Kd.F_elderB HF.out w2.heap.size (Nat.le_refl _)) (.cells (ftV nm k ax p.1 p.2.1 p.2.2 lo hi A' l.length c') 28))
  clear k0 k1 m0 m1 kB HF
  generalize hz : w2.heap.size = z9 at *
  generalize w2.alloc (.cells (ftV nm k ax p.1 p.2.1 p.2.2 lo hi A' l.length c') 28) = W2 at *
  have d1 := (blk_cell j0 1).trans (rfl : _ = some (Value.int .i64 k))
  have d2 := (blk_cell j0 2).trans (rfl : _ = some (Value.int .i64 ax))
  have y0 := (blk_cell j2 0).trans (rfl : _ = some (Value.int .i64 nx))
  have y1 := (blk_cell j3 0).trans (rfl : _ = some (Value.int .i64 la))
  have v2 := (blk_cell r9 2).trans (rfl : _ = some (Value.int .i64 ax))
  have t2 := blk_frozen r9 2
  have HF3 : Aside0 (Kd.F k104 W2 (fun k => Wn.heap.size ≤ k ∧ k ≠ z9) A' l.length l) := HF2
  by_cases h4 : k = 4
  · have b1 : (k == 4) = true := beq_iff_eq.2 h4
    have ht : tx = ax := by rw [← HT.out, if_pos h4]
    subst ht
    clear h4
    go_wp2_with (first | ((with_reducible refine gate_dst (N := 44) rfl ?_); refine wpList_load_row rfl 28 (.tmp 9) rfl z9 rfl 28 (ftV nm k tx p.1 p.2.1 p.2.2 lo hi A' l.length c') (0, 0) _ r9 Try.underlying28 rfl (by kernel_rfl) ?_) | ((with_reducible refine gate_store (t := 28) (p := 4) rfl ?_); refine wpList_store_row rfl 28 (.tmp 4) (.tmp 44) rfl (w.heap.size + 1) (ftV nm k tx p.1 p.2.1 p.2.2 lo hi A' l.length c') rfl rfl 28 ft0 j1 (by kernel_rfl) rfl (by simp [Value.oneCell']) ?_))
    refine bodyPost_ret (results_ct rfl _ _ (w.heap.size + 1) 28 (ftV nm k tx p.1 p.2.1 p.2.2 lo hi A' l.length c') (0, 0) _ rfl (row_new j1) Try.underlying28 rfl (by kernel_rfl)) rfl ?_
    refine ⟨.slice A' l.length c', rfl, ⟨A', c', rfl, hle, ?_⟩, ?_⟩
    · refine Kd.F_mono (ok := fun k => Wn.heap.size ≤ k ∧ k ≠ z9) ?_ (fun k hk => by omega)
      refine Kd.F_step HF3.out (fun k hk _ => row_far (by omega))
    · exact row_bel jB (by omega)
  · have b1 : (k == 4) = false := beq_eq_false_iff_ne.2 h4
    by_cases h5 : ax = nx
    · have b2 : (ax == nx) = true := beq_iff_eq.2 h5
      have ht : tx = la := by rw [← HT.out, if_neg h4, if_pos h5]
      subst ht
      clear h4 h5
      have j1s : (W2.setCell ⟨z9, 2, none⟩ (.int .i64 tx)).heap[w.heap.size + 1]? = some (.cells ft0 28 (0, 0)) := (Below.heap_setCell _ _ _ _ (by show w.heap.size + 1 ≠ z9; omega)).trans j1
      go_wp2_with (first | ((with_reducible refine gate_dst (N := 44) rfl ?_); refine wpList_load_row rfl 28 (.tmp 9) rfl z9 rfl 28 (ftV nm k tx p.1 p.2.1 p.2.2 lo hi A' l.length c') (0, 0) _ (blk_put r9 2 _ rfl) Try.underlying28 rfl (by kernel_rfl) ?_) | ((with_reducible refine gate_store (t := 28) (p := 4) rfl ?_); refine wpList_store_row rfl 28 (.tmp 4) (.tmp 44) rfl (w.heap.size + 1) (ftV nm k tx p.1 p.2.1 p.2.2 lo hi A' l.length c') rfl rfl 28 ft0 j1s (by kernel_rfl) rfl (by simp [Value.oneCell']) ?_))
      refine bodyPost_ret (results_ct rfl _ _ (w.heap.size + 1) 28 (ftV nm k tx p.1 p.2.1 p.2.2 lo hi A' l.length c') (0, 0) _ rfl (row_new j1s) Try.underlying28 rfl (by kernel_rfl)) rfl ?_
      refine ⟨.slice A' l.length c', rfl, ⟨A', c', rfl, hle, ?_⟩, ?_⟩
      · refine Kd.F_mono (ok := fun k => Wn.heap.size ≤ k ∧ k ≠ z9) ?_ (fun k hk => by omega)
        refine Kd.F_step (Kd.F_far HF3.out (fun k hk => hk.2) _) (fun k hk _ => row_far (by omega))
      · exact row_bel (below_set jB (by omega)) (by omega)
    · have b2 : (ax == nx) = false := beq_eq_false_iff_ne.2 h5
      by_cases h6 : ax = la
      · have b3 : (ax == la) = true := beq_iff_eq.2 h6
        have ht : tx = nx := by rw [← HT.out, if_neg h4, if_neg h5, if_pos h6]
        subst ht
        clear h4 h5 h6
        have j1s : (W2.setCell ⟨z9, 2, none⟩ (.int .i64 tx)).heap[w.heap.size + 1]? = some (.cells ft0 28 (0, 0)) := (Below.heap_setCell _ _ _ _ (by show w.heap.size + 1 ≠ z9; omega)).trans j1
        go_wp2_with (first | ((with_reducible refine gate_dst (N := 44) rfl ?_); refine wpList_load_row rfl 28 (.tmp 9) rfl z9 rfl 28 (ftV nm k tx p.1 p.2.1 p.2.2 lo hi A' l.length c') (0, 0) _ (blk_put r9 2 _ rfl) Try.underlying28 rfl (by kernel_rfl) ?_) | ((with_reducible refine gate_store (t := 28) (p := 4) rfl ?_); refine wpList_store_row rfl 28 (.tmp 4) (.tmp 44) rfl (w.heap.size + 1) (ftV nm k tx p.1 p.2.1 p.2.2 lo hi A' l.length c') rfl rfl 28 ft0 j1s (by kernel_rfl) rfl (by simp [Value.oneCell']) ?_))
        refine bodyPost_ret (results_ct rfl _ _ (w.heap.size + 1) 28 (ftV nm k tx p.1 p.2.1 p.2.2 lo hi A' l.length c') (0, 0) _ rfl (row_new j1s) Try.underlying28 rfl (by kernel_rfl)) rfl ?_
        refine ⟨.slice A' l.length c', rfl, ⟨A', c', rfl, hle, ?_⟩, ?_⟩
        · refine Kd.F_mono (ok := fun k => Wn.heap.size ≤ k ∧ k ≠ z9) ?_ (fun k hk => by omega)
          refine Kd.F_step (Kd.F_far HF3.out (fun k hk => hk.2) _) (fun k hk _ => row_far (by omega))
        · exact row_bel (below_set jB (by omega)) (by omega)
      · have b3 : (ax == la) = false := beq_eq_false_iff_ne.2 h6
        have ht : tx = ax := by rw [← HT.out, if_neg h4, if_neg h5, if_neg h6]
        subst ht
        clear h4 h5 h6
        go_wp2_with (first | ((with_reducible refine gate_dst (N := 44) rfl ?_); refine wpList_load_row rfl 28 (.tmp 9) rfl z9 rfl 28 (ftV nm k tx p.1 p.2.1 p.2.2 lo hi A' l.length c') (0, 0) _ r9 Try.underlying28 rfl (by kernel_rfl) ?_) | ((with_reducible refine gate_store (t := 28) (p := 4) rfl ?_); refine wpList_store_row rfl 28 (.tmp 4) (.tmp 44) rfl (w.heap.size + 1) (ftV nm k tx p.1 p.2.1 p.2.2 lo hi A' l.length c') rfl rfl 28 ft0 j1 (by kernel_rfl) rfl (by simp [Value.oneCell']) ?_))
        refine bodyPost_ret (results_ct rfl _ _ (w.heap.size + 1) 28 (ftV nm k tx p.1 p.2.1 p.2.2 lo hi A' l.length c') (0, 0) _ rfl (row_new j1) Try.underlying28 rfl (by kernel_rfl)) rfl ?_
        refine ⟨.slice A' l.length c', rfl, ⟨A', c', rfl, hle, ?_⟩, ?_⟩
        · refine Kd.F_mono (ok := fun k => Wn.heap.size ≤ k ∧ k ≠ z9) ?_ (fun k hk => by omega)
          refine Kd.F_step HF3.out (fun k hk _ => row_far (by omega))
        · exact row_bel jB (by omega)
end Go.Proofs.Ytkgdlbepjmgaiaa.Fea
namespace Go.Proofs.Ytkgdlbepjmgaiaa.Fea
open Go.RowKit Go.Proofs.YtkgdlbepjmgaiaaW.PrintWords Go.Proofs.YtkgdlbepjmgaiaaW.PrintLast Go.Proofs.YtkgdlbepjmgaiaaW.PrintMore
attribute [local go_sem] max2_int min2_int max_two min_two max_three min_three max_four min_four
set_option linter.unusedVariables false
set_option linter.unusedSimpArgs false
def feature_Turn.f (a0_0 : ByteArray) (a0_1 : Int) (a0_2 : Int) (a0_3 : Int) (a0_4 : Int) (a0_5 : Int) (a0_6 : Int) (a0_7 : Int) (l0_8 : List (S104)) (a1 : Int) : Option (ByteArray × Int × Int × Int × Int × Int × Int × Int × (List (S104)) × Int) := if small l0_8 = true then some (if alongV a0_0 a0_1 a0_2 a0_3 a0_4 a0_5 a0_6 a0_7 a1 = 0 then (a0_0, a0_1, turnAx a0_1 a0_2 a1, (turn3 a0_3 a0_4 a0_5 a1).1, (turn3 a0_3 a0_4 a0_5 a1).2.1, (turn3 a0_3 a0_4 a0_5 a1).2.2, a0_6, a0_7, l0_8, (0 : Int)) else ((⟨#[]⟩ : ByteArray), (0 : Int), (0 : Int), (0 : Int), (0 : Int), (0 : Int), (0 : Int), (0 : Int), ([] : List (S104)), alongV a0_0 a0_1 a0_2 a0_3 a0_4 a0_5 a0_6 a0_7 a1)) else none
theorem feature_Turn.calls (a0_0 : ByteArray) (a0_1 : Int) (a0_2 : Int) (a0_3 : Int) (a0_4 : Int) (a0_5 : Int) (a0_6 : Int) (a0_7 : Int) (A0_8 : Option Addr) (c0_8 : Nat) (l0_8 : List (S104)) (a1 : Int) (r1 : ByteArray) (r2 : Int) (r3 : Int) (r4 : Int) (r5 : Int) (r6 : Int) (r7 : Int) (r8 : Int) (r9 : List (S104)) (r10 : Int) (w : World) (hr0_8 : Kd.C k104 w A0_8 l0_8.length l0_8) (hc0_8 : l0_8.length ≤ c0_8) (h : feature_Turn.f a0_0 a0_1 a0_2 a0_3 a0_4 a0_5 a0_6 a0_7 l0_8 a1 = some (r1, r2, r3, r4, r5, r6, r7, r8, r9, r10)) :
    Calls Try.prog 46 #[.agg #[.string a0_0, .int .i64 a0_1, .int .i64 a0_2, .int .i64 a0_3, .int .i64 a0_4, .int .i64 a0_5, .int .i64 a0_6, .int .i64 a0_7, .slice A0_8 l0_8.length c0_8], .int .i64 a1] w fun e w' => ∃ v8_ : Value, e = .returned (.tuple #[.agg #[.string r1, .int .i64 r2, .int .i64 r3, .int .i64 r4, .int .i64 r5, .int .i64 r6, .int .i64 r7, .int .i64 r8, v8_], .int .i64 r10]) ∧ Kd.V k104 104 w' w.heap.size (fun k_ => w.heap.size ≤ k_) v8_ r9 ∧ Below w.heap.size w w' := by
  unfold feature_Turn.f at h
  split at h
  case isFalse => cases h
  rename_i hsm
  replace h := Option.some.inj h
  split at h
  · rename_i g
    simp only [Prod.mk.injEq] at h
    obtain ⟨rfl, rfl, rfl, rfl, rfl, rfl, rfl, rfl, rfl, rfl⟩ := h
    exact turn_ok a0_0 a0_1 a0_2 a0_3 a0_4 a0_5 a0_6 a0_7 A0_8 c0_8 l0_8 a1 w hr0_8 hc0_8 hsm g
  · rename_i g
    simp only [Prod.mk.injEq] at h
    obtain ⟨rfl, rfl, rfl, rfl, rfl, rfl, rfl, rfl, rfl, rfl⟩ := h
    exact turn_bad a0_0 a0_1 a0_2 a0_3 a0_4 a0_5 a0_6 a0_7 A0_8 c0_8 l0_8 a1 w hr0_8 hc0_8 g
end Go.Proofs.Ytkgdlbepjmgaiaa.Fea
set_option linter.unusedVariables false
set_option linter.unusedSimpArgs false
namespace Go.Proofs.Ytkgdlbepjmgaiaa.Fea
open Go.RowKit Go.Proofs.YtkgdlbepjmgaiaaW.PrintWords Go.Proofs.YtkgdlbepjmgaiaaW.PrintLast Go.Proofs.YtkgdlbepjmgaiaaW.PrintMore
theorem heap3Mira (w : World) (o o' o2 : Obj) : (((w.alloc o).alloc o').alloc o2).heap[w.heap.size]? = some o := blk_alloc (heap2o w o o') o2
theorem heap3Mirb (w : World) (o o' o2 : Obj) : (((w.alloc o).alloc o').alloc o2).heap[w.heap.size + 1]? = some o' := blk_alloc (heap2 w o o') o2
theorem heap3Mirc (w : World) (o o' o2 : Obj) : (((w.alloc o).alloc o').alloc o2).heap[w.heap.size + 2]? = some o2 := by
  have h := blk_new ((w.alloc o).alloc o') o2
  have e : ((w.alloc o).alloc o').heap.size = w.heap.size + 2 := by
    show ((w.heap.push o).push o').size = _
    rw [Array.size_push, Array.size_push]
  rwa [e] at h
theorem bel3Mir (w : World) (o o' o2 : Obj) : Below w.heap.size w (((w.alloc o).alloc o').alloc o2) := below_alloc (bel2 w o o') _
set_option maxHeartbeats 16000000 in
set_option maxRecDepth 100000 in
theorem mirror_bad (nm : ByteArray) (k ax x y z lo hi : Int) (A : Option Addr) (c : Nat) (l : List S104) (a : Int) (w : World) (hr : Kd.C k104 w A l.length l) (hc : l.length ≤ c) (hne : alongV nm k ax x y z lo hi a ≠ 0) :
    Calls Try.prog 47 #[.agg (ftV nm k ax x y z lo hi A l.length c), .int .i64 a] w fun e w' => ∃ v8_ : Value, e = .returned (.tuple #[.agg (ftU ⟨#[]⟩ 0 0 0 0 0 0 0 v8_), .int .i64 (alongV nm k ax x y z lo hi a)]) ∧ Kd.V k104 104 w' w.heap.size (fun k_ => w.heap.size ≤ k_) v8_ [] ∧ Below w.heap.size w w' := by
  have hu28 := Try.underlying28
  have hu23 := Try.underlying23
  obtain ⟨kk, hkk⟩ := (along_ev nm k ax x y z lo hi l a).rounds
  have HR := Aside0.mk hr
  clear hr
  have n0 : (alongV nm k ax x y z lo hi a == 0) = false := beq_eq_false_iff_ne.2 hne
  have n1 : (alongV nm k ax x y z lo hi a != 0) = true := bne_iff_ne.2 hne
  generalize alongV nm k ax x y z lo hi a = er at *
  clear hne
  go_enter Try.func47, Try.ntmps47
  go_upto_region 1 with (fail)
  have h0 := heap3Mira w (.cells (ftV nm k ax x y z lo hi A l.length c) 28) (.cells #[.int .i64 a] 3) (.cells ft0 28)
  have h1 := heap3Mirb w (.cells (ftV nm k ax x y z lo hi A l.length c) 28) (.cells #[.int .i64 a] 3) (.cells ft0 28)
  have h2 := heap3Mirc w (.cells (ftV nm k ax x y z lo hi A l.length c) 28) (.cells #[.int .i64 a] 3) (.cells ft0 28)
  have hB := bel3Mir w (.cells (ftV nm k ax x y z lo hi A l.length c) 28) (.cells #[.int .i64 a] 3) (.cells ft0 28)
  generalize ((w.alloc (.cells (ftV nm k ax x y z lo hi A l.length c) 28)).alloc (.cells #[.int .i64 a] 3)).alloc (.cells ft0 28) = W1 at *
  have c0 := (blk_cell h0 0).trans (rfl : _ = some (Value.string nm))
  have c1 := (blk_cell h0 1).trans (rfl : _ = some (Value.int .i64 k))
  have c2 := (blk_cell h0 2).trans (rfl : _ = some (Value.int .i64 ax))
  have c3 := (blk_cell h0 3).trans (rfl : _ = some (Value.int .i64 x))
  have c4 := (blk_cell h0 4).trans (rfl : _ = some (Value.int .i64 y))
  have c5 := (blk_cell h0 5).trans (rfl : _ = some (Value.int .i64 z))
  have c6 := (blk_cell h0 6).trans (rfl : _ = some (Value.int .i64 lo))
  have c7 := (blk_cell h0 7).trans (rfl : _ = some (Value.int .i64 hi))
  have c8 := (blk_cell h0 8).trans (rfl : _ = some (Value.slice A l.length c))
  have b0 := (blk_cell h1 0).trans (rfl : _ = some (Value.int .i64 a))
  go_wp2_with (first | ((with_reducible refine gate_store (t := 28) (p := 4) rfl ?_); refine wpList_store_row rfl 28 (.tmp 4) (.tmp 12) rfl (w.heap.size + 2) ft0 rfl rfl 28 ft0 g2 (by kernel_rfl) rfl (by simp [Value.oneCell']) ?_) | (go_at_call 68; refine (feature_along.calls kk nm k ax x y z lo hi A c l a _ _ (Kd.C_below HR.out (by first | exact hB | exact hB)) hc hkk).mono ?_; rintro e w' ⟨rfl, hb⟩; have g0 := blk_below h0 hb; have g1 := blk_below h1 hb; have g2 := blk_below h2 hb; have gB := below_step hB hb; clear hb c0 c1 c2 c3 c4 c5 c6 c7 c8 b0; have HG := Aside0.mk g2))
  refine bodyPost_ret (results_ct rfl _ _ (w.heap.size + 2) 28 ft0 (0, 0) _ rfl (row_new g2) Try.underlying28 rfl (by kernel_rfl)) rfl ?_
  refine ⟨.slice none 0 0, rfl, Kd.V_nil _ _ _ _ _, row_bel gB (by omega)⟩
theorem eg96 : ∀ args w, (callFunc 96 args).run Try.prog w = .ok (.enter 96 args) w := enters_of Try.func96 (by kernel_rfl) rfl
set_option maxHeartbeats 16000000 in
set_option maxRecDepth 100000 in
theorem mirror_ok (nm : ByteArray) (k ax x y z lo hi : Int) (A : Option Addr) (c : Nat) (l : List S104) (a : Int) (w : World) (hr : Kd.C k104 w A l.length l) (hc : l.length ≤ c) (hsm : small l = true) (hok : alongV nm k ax x y z lo hi a = 0) :
    Calls Try.prog 47 #[.agg (ftV nm k ax x y z lo hi A l.length c), .int .i64 a] w fun e w' => ∃ v8_ : Value, e = .returned (.tuple #[.agg (ftU nm k ax (mir3 x y z a).1 (mir3 x y z a).2.1 (mir3 x y z a).2.2 lo hi v8_), .int .i64 0]) ∧ Kd.V k104 104 w' w.heap.size (fun k_ => w.heap.size ≤ k_) v8_ l ∧ Below w.heap.size w w' := by
  have hu28 := Try.underlying28
  have hu23 := Try.underlying23
  obtain ⟨kk, hkk⟩ := (along_ev nm k ax x y z lo hi l a).rounds
  have HR := Aside0.mk hr
  clear hr
  obtain ⟨hch, h3⟩ := alongV_ok.1 hok
  obtain ⟨_, hq⟩ := chkF_ok.1 hch
  rw [hok] at hkk
  have HQ := Aside0.mk hq
  have H3 := Aside0.mk h3
  have HS := Aside0.mk hsm
  clear hq h3 hok hch hsm
  generalize he : mir3 x y z a = p at *
  have HE := Aside0.mk he
  clear he
  go_enter Try.func47, Try.ntmps47
  go_upto_region 1 with (fail)
  have h0 := heap3Mira w (.cells (ftV nm k ax x y z lo hi A l.length c) 28) (.cells #[.int .i64 a] 3) (.cells ft0 28)
  have h1 := heap3Mirb w (.cells (ftV nm k ax x y z lo hi A l.length c) 28) (.cells #[.int .i64 a] 3) (.cells ft0 28)
  have h2 := heap3Mirc w (.cells (ftV nm k ax x y z lo hi A l.length c) 28) (.cells #[.int .i64 a] 3) (.cells ft0 28)
  have hB := bel3Mir w (.cells (ftV nm k ax x y z lo hi A l.length c) 28) (.cells #[.int .i64 a] 3) (.cells ft0 28)
  generalize ((w.alloc (.cells (ftV nm k ax x y z lo hi A l.length c) 28)).alloc (.cells #[.int .i64 a] 3)).alloc (.cells ft0 28) = W1 at *
  have c0 := (blk_cell h0 0).trans (rfl : _ = some (Value.string nm))
  have c1 := (blk_cell h0 1).trans (rfl : _ = some (Value.int .i64 k))
  have c2 := (blk_cell h0 2).trans (rfl : _ = some (Value.int .i64 ax))
  have c3 := (blk_cell h0 3).trans (rfl : _ = some (Value.int .i64 x))
  have c4 := (blk_cell h0 4).trans (rfl : _ = some (Value.int .i64 y))
  have c5 := (blk_cell h0 5).trans (rfl : _ = some (Value.int .i64 z))
  have c6 := (blk_cell h0 6).trans (rfl : _ = some (Value.int .i64 lo))
  have c7 := (blk_cell h0 7).trans (rfl : _ = some (Value.int .i64 hi))
  have c8 := (blk_cell h0 8).trans (rfl : _ = some (Value.slice A l.length c))
  have b0 := (blk_cell h1 0).trans (rfl : _ = some (Value.int .i64 a))
  go_wp2_with (first | (go_at_call 68; refine (feature_along.calls kk nm k ax x y z lo hi A c l a _ _ (Kd.C_below HR.out (by first | exact hB | exact hB)) hc hkk).mono ?_; rintro e w' ⟨rfl, hb⟩; have g0 := blk_below h0 hb; have g1 := blk_below h1 hb; have g2 := blk_below h2 hb; have gB := below_step hB hb; clear hb h0 h1 h2 hB c0 c1 c2 c3 c4 c5 c6 c7 c8 b0; have c0 := (blk_cell g0 0).trans (rfl : _ = some (Value.string nm)); have c1 := (blk_cell g0 1).trans (rfl : _ = some (Value.int .i64 k)); have c2 := (blk_cell g0 2).trans (rfl : _ = some (Value.int .i64 ax)); have c3 := (blk_cell g0 3).trans (rfl : _ = some (Value.int .i64 x)); have c4 := (blk_cell g0 4).trans (rfl : _ = some (Value.int .i64 y)); have c5 := (blk_cell g0 5).trans (rfl : _ = some (Value.int .i64 z)); have c6 := (blk_cell g0 6).trans (rfl : _ = some (Value.int .i64 lo)); have c7 := (blk_cell g0 7).trans (rfl : _ = some (Value.int .i64 hi)); have c8 := (blk_cell g0 8).trans (rfl : _ = some (Value.slice A l.length c)); have HW := Aside0.mk gB; have hcall := placed_calls 96 #[.pointer (some ⟨w.heap.size + 1, 0, none⟩)] eg96 nm k ax x y z lo hi A c l p.1 p.2.1 p.2.2 w' (Kd.C_below HR.out gB) hc HS.out (fun W hW => by have := mir1_calls (w.heap.size + 1) x y z a W H3.out (cell_on hW ((blk_cell g1 0).trans (rfl : _ = some (Value.int .i64 a)))) HQ.out.x1 HQ.out.y1 HQ.out.z1; rw [HE.out] at this; exact this)))
  refine hcall.mono ?_
  clear hcall
  rintro e w2 ⟨A', c', rfl, hle, hF, hb⟩
  have e2 := blk_below g2 hb
  have eB := below_step gB hb
  have hgs : w.heap.size + 3 ≤ w'.heap.size := (Array.getElem?_eq_some_iff.1 g2).1
  have HF := Aside0.mk hF
  clear hF hb g0 g1 g2 c0 c1 c2 c3 c4 c5 c6 c7 c8
  go_wp2_with ((with_reducible refine gate_store (t := 28) (p := 4) rfl ?_); refine wpList_store_row rfl 28 (.tmp 4) (.tmp 16) rfl (w.heap.size + 2) (ftV nm k ax p.1 p.2.1 p.2.2 lo hi A' l.length c') rfl rfl 28 ft0 e2 (by kernel_rfl) rfl (by simp [Value.oneCell']) ?_)
  refine bodyPost_ret (results_ct rfl _ _ (w.heap.size + 2) 28 (ftV nm k ax p.1 p.2.1 p.2.2 lo hi A' l.length c') (0, 0) _ rfl (row_new e2) Try.underlying28 rfl (by kernel_rfl)) rfl ?_
  refine ⟨.slice A' l.length c', rfl, ⟨A', c', rfl, hle, ?_⟩, row_bel eB (by omega)⟩
  refine Kd.F_mono (ok := fun k => w'.heap.size ≤ k) ?_ (fun k hk => by omega)
  exact Kd.F_step HF.out (fun k hk _ => row_far (by omega))
end Go.Proofs.Ytkgdlbepjmgaiaa.Fea
namespace Go.Proofs.Ytkgdlbepjmgaiaa.Fea
open Go.RowKit Go.Proofs.YtkgdlbepjmgaiaaW.PrintWords Go.Proofs.YtkgdlbepjmgaiaaW.PrintLast Go.Proofs.YtkgdlbepjmgaiaaW.PrintMore
attribute [local go_sem] max2_int min2_int max_two min_two max_three min_three max_four min_four
set_option linter.unusedVariables false
set_option linter.unusedSimpArgs false
def feature_Mirror.f (a0_0 : ByteArray) (a0_1 : Int) (a0_2 : Int) (a0_3 : Int) (a0_4 : Int) (a0_5 : Int) (a0_6 : Int) (a0_7 : Int) (l0_8 : List (S104)) (a1 : Int) : Option (ByteArray × Int × Int × Int × Int × Int × Int × Int × (List (S104)) × Int) := if small l0_8 = true then some (if alongV a0_0 a0_1 a0_2 a0_3 a0_4 a0_5 a0_6 a0_7 a1 = 0 then (a0_0, a0_1, a0_2, (mir3 a0_3 a0_4 a0_5 a1).1, (mir3 a0_3 a0_4 a0_5 a1).2.1, (mir3 a0_3 a0_4 a0_5 a1).2.2, a0_6, a0_7, l0_8, (0 : Int)) else ((⟨#[]⟩ : ByteArray), (0 : Int), (0 : Int), (0 : Int), (0 : Int), (0 : Int), (0 : Int), (0 : Int), ([] : List (S104)), alongV a0_0 a0_1 a0_2 a0_3 a0_4 a0_5 a0_6 a0_7 a1)) else none
theorem feature_Mirror.calls (a0_0 : ByteArray) (a0_1 : Int) (a0_2 : Int) (a0_3 : Int) (a0_4 : Int) (a0_5 : Int) (a0_6 : Int) (a0_7 : Int) (A0_8 : Option Addr) (c0_8 : Nat) (l0_8 : List (S104)) (a1 : Int) (r1 : ByteArray) (r2 : Int) (r3 : Int) (r4 : Int) (r5 : Int) (r6 : Int) (r7 : Int) (r8 : Int) (r9 : List (S104)) (r10 : Int) (w : World) (hr0_8 : Kd.C k104 w A0_8 l0_8.length l0_8) (hc0_8 : l0_8.length ≤ c0_8) (h : feature_Mirror.f a0_0 a0_1 a0_2 a0_3 a0_4 a0_5 a0_6 a0_7 l0_8 a1 = some (r1, r2, r3, r4, r5, r6, r7, r8, r9, r10)) :
    Calls Try.prog 47 #[.agg #[.string a0_0, .int .i64 a0_1, .int .i64 a0_2, .int .i64 a0_3, .int .i64 a0_4, .int .i64 a0_5, .int .i64 a0_6, .int .i64 a0_7, .slice A0_8 l0_8.length c0_8], .int .i64 a1] w fun e w' => ∃ v8_ : Value, e = .returned (.tuple #[.agg #[.string r1, .int .i64 r2, .int .i64 r3, .int .i64 r4, .int .i64 r5, .int .i64 r6, .int .i64 r7, .int .i64 r8, v8_], .int .i64 r10]) ∧ Kd.V k104 104 w' w.heap.size (fun k_ => w.heap.size ≤ k_) v8_ r9 ∧ Below w.heap.size w w' := by
  unfold feature_Mirror.f at h
  split at h
  case isFalse => cases h
  rename_i hsm
  replace h := Option.some.inj h
  split at h
  · rename_i g
    simp only [Prod.mk.injEq] at h
    obtain ⟨rfl, rfl, rfl, rfl, rfl, rfl, rfl, rfl, rfl, rfl⟩ := h
    exact mirror_ok a0_0 a0_1 a0_2 a0_3 a0_4 a0_5 a0_6 a0_7 A0_8 c0_8 l0_8 a1 w hr0_8 hc0_8 hsm g
  · rename_i g
    simp only [Prod.mk.injEq] at h
    obtain ⟨rfl, rfl, rfl, rfl, rfl, rfl, rfl, rfl, rfl, rfl⟩ := h
    exact mirror_bad a0_0 a0_1 a0_2 a0_3 a0_4 a0_5 a0_6 a0_7 A0_8 c0_8 l0_8 a1 w hr0_8 hc0_8 g
end Go.Proofs.Ytkgdlbepjmgaiaa.Fea
set_option linter.unusedVariables false
set_option linter.unusedSimpArgs false
namespace Go.Proofs.Ytkgdlbepjmgaiaa.Fea
open Go.RowKit Go.Proofs.YtkgdlbepjmgaiaaW.PrintWords Go.Proofs.YtkgdlbepjmgaiaaW.PrintLast Go.Proofs.YtkgdlbepjmgaiaaW.PrintMore
def rightV (nm : ByteArray) (k ax x y z lo hi : Int) (l : List S104) : Bool := fewV nm l && (chkF nm k ax x y z lo hi == 0)
theorem right_ev (nm : ByteArray) (k ax x y z lo hi : Int) (l : List S104) : Ev (fun n => metrolablaw18_right.f n nm k ax x y z lo hi l) (rightV nm k ax x y z lo hi l) := by
  unfold metrolablaw18_right.f rightV
  refine Ev.bind (Few_ev nm k ax x y z lo hi l) ?_
  cases fewV nm l
  · exact Ev.e (by decide) (Ev.now _)
  · exact Ev.t rfl (Ev.bind (RCheck_ev nm k ax x y z lo hi l) (Ev.now _))
theorem small_few {nm : ByteArray} {l : List S104} (h : fewV nm l = true) : small l = true := by
  obtain ⟨h1, h2⟩ := fewV_small h
  simp only [small, Bool.and_eq_true, decide_eq_true_eq, List.all_eq_true]
  exact ⟨by omega, fun p hp => by have := h2 p hp; omega⟩
theorem turnAx_rng {k ax a : Int} (hx : 0 ≤ ax ∧ ax < 3) (ha : 0 ≤ a ∧ a < 3) : 0 ≤ turnAx k ax a ∧ turnAx k ax a < 3 := by
  unfold turnAx
  split
  · exact hx
  · split
    · omega
    · split <;> omega
theorem turn_Rgt {k ax x y z lo hi a : Int} (h : Rgt k ax x y z lo hi) (ha : 0 ≤ a ∧ a < 3) : Rgt k (turnAx k ax a) (turn3 x y z a).1 (turn3 x y z a).2.1 (turn3 x y z a).2.2 lo hi := by
  have hr := turnAx_rng (k := k) ⟨h.a1, h.a2⟩ ha
  have hx := h.x1; have hy := h.y1; have hz := h.z1
  refine ⟨h.k1, h.k2, hr.1, hr.2, fun h4 => ?_, ?_, ?_, ?_, h.plane, h.size⟩
  · unfold turnAx; rw [if_pos h4]; exact h.ball h4
  all_goals
    unfold turn3
    split
    · dsimp only; omega
    · split
      · dsimp only; omega
      · dsimp only; omega
theorem mir_Rgt {k ax x y z lo hi a : Int} (h : Rgt k ax x y z lo hi) : Rgt k ax (mir3 x y z a).1 (mir3 x y z a).2.1 (mir3 x y z a).2.2 lo hi := by
  have hx := h.x1; have hy := h.y1; have hz := h.z1
  refine ⟨h.k1, h.k2, h.a1, h.a2, h.ball, ?_, ?_, ?_, h.plane, h.size⟩
  all_goals
    unfold mir3
    split
    · dsimp only; omega
    · split
      · dsimp only; omega
      · dsimp only; omega
theorem Turn_eq {nm : ByteArray} {k ax x y z lo hi : Int} {l : List S104} {a : Int} (hs : small l = true) (hc : chkF nm k ax x y z lo hi = 0) (ha : 0 ≤ a ∧ a < 3) :
    feature_Turn.f nm k ax x y z lo hi l a = some (nm, k, turnAx k ax a, (turn3 x y z a).1, (turn3 x y z a).2.1, (turn3 x y z a).2.2, lo, hi, l, 0) := by
  unfold feature_Turn.f
  rw [if_pos hs, if_pos (alongV_ok.2 ⟨hc, ha⟩)]
theorem Mirror_eq {nm : ByteArray} {k ax x y z lo hi : Int} {l : List S104} {a : Int} (hs : small l = true) (hc : chkF nm k ax x y z lo hi = 0) (ha : 0 ≤ a ∧ a < 3) :
    feature_Mirror.f nm k ax x y z lo hi l a = some (nm, k, ax, (mir3 x y z a).1, (mir3 x y z a).2.1, (mir3 x y z a).2.2, lo, hi, l, 0) := by
  unfold feature_Mirror.f
  rw [if_pos hs, if_pos (alongV_ok.2 ⟨hc, ha⟩)]
theorem ap3 (f : Int → Bool) : apG f 0 3 = (f 0 || (f 1 || f 2)) := by
  show (if f 0 = true then true else if f 1 = true then true else if f 2 = true then true else false) = _
  cases f 0 <;> cases f 1 <;> cases f 2 <;> rfl
def gapV (x h y h' : Int) : Bool := decide (x + h < y - h') || decide (y + h' < x - h)
theorem gap_neg (x h y h' : Int) : gapV (-x) h (-y) h' = gapV x h y h' := by
  unfold gapV
  rw [Bool.eq_iff_iff]
  simp only [Bool.or_eq_true, decide_eq_true_eq]
  omega
theorem sepAt_gap (k ax x y z hi k' ax' x' y' z' hi' i : Int) : sepAt k ax x y z hi k' ax' x' y' z' hi' i = (bndV k ax i && (bndV k' ax' i && gapV (sel3 x y z i) (halfV hi) (sel3 x' y' z' i) (halfV hi'))) := rfl
theorem bnd_turn0 {k ax : Int} (hx : 0 ≤ ax ∧ ax < 3) : bndV k (turnAx k ax 0) 0 = bndV k ax 0 ∧ bndV k (turnAx k ax 0) 1 = bndV k ax 2 ∧ bndV k (turnAx k ax 0) 2 = bndV k ax 1 := by
  have h : ax = 0 ∨ ax = 1 ∨ ax = 2 := by omega
  unfold bndV turnAx
  by_cases h4 : k = 4
  · simp [h4]
  · by_cases h1 : k = 1 ∨ k = 2 <;> rcases h with rfl | rfl | rfl <;> simp [h4, h1]
theorem bnd_turn1 {k ax : Int} (hx : 0 ≤ ax ∧ ax < 3) : bndV k (turnAx k ax 1) 0 = bndV k ax 2 ∧ bndV k (turnAx k ax 1) 1 = bndV k ax 1 ∧ bndV k (turnAx k ax 1) 2 = bndV k ax 0 := by
  have h : ax = 0 ∨ ax = 1 ∨ ax = 2 := by omega
  unfold bndV turnAx
  by_cases h4 : k = 4
  · simp [h4]
  · by_cases h1 : k = 1 ∨ k = 2 <;> rcases h with rfl | rfl | rfl <;> simp [h4, h1]
theorem bnd_turn2 {k ax : Int} (hx : 0 ≤ ax ∧ ax < 3) : bndV k (turnAx k ax 2) 0 = bndV k ax 1 ∧ bndV k (turnAx k ax 2) 1 = bndV k ax 0 ∧ bndV k (turnAx k ax 2) 2 = bndV k ax 2 := by
  have h : ax = 0 ∨ ax = 1 ∨ ax = 2 := by omega
  unfold bndV turnAx
  by_cases h4 : k = 4
  · simp [h4]
  · by_cases h1 : k = 1 ∨ k = 2 <;> rcases h with rfl | rfl | rfl <;> simp [h4, h1]
theorem sep_turn {k ax x y z lo hi k' ax' x' y' z' lo' hi' a : Int} (h : Rgt k ax x y z lo hi) (h' : Rgt k' ax' x' y' z' lo' hi') (ha : 0 ≤ a ∧ a < 3) :
    apG (sepAt k (turnAx k ax a) (turn3 x y z a).1 (turn3 x y z a).2.1 (turn3 x y z a).2.2 hi k' (turnAx k' ax' a) (turn3 x' y' z' a).1 (turn3 x' y' z' a).2.1 (turn3 x' y' z' a).2.2 hi') 0 3 = apG (sepAt k ax x y z hi k' ax' x' y' z' hi') 0 3 := by
  rw [ap3, ap3]
  simp only [sepAt_gap]
  have hc : a = 0 ∨ a = 1 ∨ a = 2 := by omega
  rcases hc with rfl | rfl | rfl
  · obtain ⟨b0, b1, b2⟩ := bnd_turn0 (k := k) ⟨h.a1, h.a2⟩
    obtain ⟨c0, c1, c2⟩ := bnd_turn0 (k := k') ⟨h'.a1, h'.a2⟩
    rw [b0, b1, b2, c0, c1, c2]
    simp only [turn3, sel3, if_true, gap_neg]
    simp only [show ¬ (1 : Int) = 0 by decide, show ¬ (2 : Int) = 0 by decide, show ¬ (2 : Int) = 1 by decide, if_false, if_true, gap_neg]
    generalize (bndV k ax 0 && (bndV k' ax' 0 && gapV x (halfV hi) x' (halfV hi'))) = p
    generalize (bndV k ax 1 && (bndV k' ax' 1 && gapV y (halfV hi) y' (halfV hi'))) = q
    generalize (bndV k ax 2 && (bndV k' ax' 2 && gapV z (halfV hi) z' (halfV hi'))) = r
    cases p <;> cases q <;> cases r <;> rfl
  · obtain ⟨b0, b1, b2⟩ := bnd_turn1 (k := k) ⟨h.a1, h.a2⟩
    obtain ⟨c0, c1, c2⟩ := bnd_turn1 (k := k') ⟨h'.a1, h'.a2⟩
    rw [b0, b1, b2, c0, c1, c2]
    simp only [turn3, sel3, show ¬ (1 : Int) = 0 by decide, show ¬ (2 : Int) = 0 by decide, show ¬ (2 : Int) = 1 by decide, if_false, if_true, gap_neg]
    generalize (bndV k ax 0 && (bndV k' ax' 0 && gapV x (halfV hi) x' (halfV hi'))) = p
    generalize (bndV k ax 1 && (bndV k' ax' 1 && gapV y (halfV hi) y' (halfV hi'))) = q
    generalize (bndV k ax 2 && (bndV k' ax' 2 && gapV z (halfV hi) z' (halfV hi'))) = r
    cases p <;> cases q <;> cases r <;> rfl
  · obtain ⟨b0, b1, b2⟩ := bnd_turn2 (k := k) ⟨h.a1, h.a2⟩
    obtain ⟨c0, c1, c2⟩ := bnd_turn2 (k := k') ⟨h'.a1, h'.a2⟩
    rw [b0, b1, b2, c0, c1, c2]
    simp only [turn3, sel3, show ¬ (1 : Int) = 0 by decide, show ¬ (2 : Int) = 0 by decide, show ¬ (2 : Int) = 1 by decide, if_false, if_true, gap_neg]
    generalize (bndV k ax 0 && (bndV k' ax' 0 && gapV x (halfV hi) x' (halfV hi'))) = p
    generalize (bndV k ax 1 && (bndV k' ax' 1 && gapV y (halfV hi) y' (halfV hi'))) = q
    generalize (bndV k ax 2 && (bndV k' ax' 2 && gapV z (halfV hi) z' (halfV hi'))) = r
    cases p <;> cases q <;> cases r <;> rfl
theorem sep_mir {k ax x y z lo hi k' ax' x' y' z' lo' hi' a : Int} (ha : 0 ≤ a ∧ a < 3) :
    apG (sepAt k ax (mir3 x y z a).1 (mir3 x y z a).2.1 (mir3 x y z a).2.2 hi k' ax' (mir3 x' y' z' a).1 (mir3 x' y' z' a).2.1 (mir3 x' y' z' a).2.2 hi') 0 3 = apG (sepAt k ax x y z hi k' ax' x' y' z' hi') 0 3 := by
  rw [ap3, ap3]
  simp only [sepAt_gap]
  have hc : a = 0 ∨ a = 1 ∨ a = 2 := by omega
  rcases hc with rfl | rfl | rfl <;> simp only [mir3, sel3, show ¬ (1 : Int) = 0 by decide, show ¬ (2 : Int) = 0 by decide, show ¬ (2 : Int) = 1 by decide, if_false, if_true, gap_neg]
theorem reach_turn {nm : ByteArray} {k ax x y z lo hi a : Int} (hc : chkF nm k ax x y z lo hi = 0) (ha : 0 ≤ a ∧ a < 3) :
    reachV nm k (turnAx k ax a) (turn3 x y z a).1 (turn3 x y z a).2.1 (turn3 x y z a).2.2 lo hi a = reachV nm k ax x y z lo hi a := by
  have h := (chkF_ok.1 hc).2
  have e1 : alongV nm k ax x y z lo hi a = 0 := alongV_ok.2 ⟨hc, ha⟩
  have e2 : alongV nm k (turnAx k ax a) (turn3 x y z a).1 (turn3 x y z a).2.1 (turn3 x y z a).2.2 lo hi a = 0 := alongV_ok.2 ⟨chkF_ok.2 ⟨(chkF_ok.1 hc).1, turn_Rgt h ha⟩, ha⟩
  have e3 : bndV k (turnAx k ax a) a = bndV k ax a := by
    have hcs : a = 0 ∨ a = 1 ∨ a = 2 := by omega
    rcases hcs with rfl | rfl | rfl
    · exact (bnd_turn0 ⟨h.a1, h.a2⟩).1
    · exact (bnd_turn1 ⟨h.a1, h.a2⟩).2.1
    · exact (bnd_turn2 ⟨h.a1, h.a2⟩).2.2
  have e4 : sel3 (turn3 x y z a).1 (turn3 x y z a).2.1 (turn3 x y z a).2.2 a = sel3 x y z a := by
    have hcs : a = 0 ∨ a = 1 ∨ a = 2 := by omega
    rcases hcs with rfl | rfl | rfl <;> rfl
  unfold reachV
  rw [e1, e2, e3, e4]
end Go.Proofs.Ytkgdlbepjmgaiaa.Fea
namespace Go.Proofs.Ytkgdlbepjmgaiaa.Fea
open Go.RowKit Go.Proofs.YtkgdlbepjmgaiaaW.PrintWords Go.Proofs.YtkgdlbepjmgaiaaW.PrintLast Go.Proofs.YtkgdlbepjmgaiaaW.PrintMore
attribute [local go_sem] max2_int min2_int max_two min_two max_three min_three max_four min_four
set_option linter.unusedVariables false
set_option linter.unusedSimpArgs false
theorem eqA23 (d : Nat) (w : World) (x0 y0 : Int) (x1 y1 : Int) (x2 y2 : Int) :
    (Op.equalIn (d + 2) 23 (.agg #[.int .i64 x0, .int .i64 x1, .int .i64 x2]) (.agg #[.int .i64 y0, .int .i64 y1, .int .i64 y2])).run Try.prog w = .ok (x0 == y0 && (x1 == y1 && (x2 == y2))) w := by
  refine eqA_of Try.underlying23 (by kernel_rfl) ?_
  refine eqf_cons (by rfl) (by go_simp; rfl) (by go_simp; rfl) (by go_simp) ?_
  refine eqf_cons (by rfl) (by go_simp; rfl) (by go_simp; rfl) (by go_simp) ?_
  exact eqf_last (by rfl) (by go_simp; rfl) (by go_simp; rfl) (by go_simp)
end Go.Proofs.Ytkgdlbepjmgaiaa.Fea
namespace Go.Proofs.Ytkgdlbepjmgaiaa.Fea
open Go.RowKit Go.Proofs.YtkgdlbepjmgaiaaW.PrintWords Go.Proofs.YtkgdlbepjmgaiaaW.PrintLast Go.Proofs.YtkgdlbepjmgaiaaW.PrintMore
attribute [local go_sem] max2_int min2_int max_two min_two max_three min_three max_four min_four
set_option linter.unusedVariables false
set_option linter.unusedSimpArgs false
theorem eqA106 (d : Nat) (w : World) (x0 y0 : ByteArray) (x1 y1 : Int) :
    (Op.equalIn (d + 2) 106 (.agg #[.string x0, .int .i64 x1]) (.agg #[.string y0, .int .i64 y1])).run Try.prog w = .ok (x0.toList == y0.toList && (x1 == y1)) w := by
  refine eqA_of Try.underlying106 (by kernel_rfl) ?_
  refine eqf_cons (by rfl) (by go_simp; rfl) (by go_simp; rfl) (by go_simp) ?_
  exact eqf_last (by rfl) (by go_simp; rfl) (by go_simp; rfl) (by go_simp)
end Go.Proofs.Ytkgdlbepjmgaiaa.Fea
namespace Go.Proofs.Ytkgdlbepjmgaiaa.Fea
open Go.RowKit Go.Proofs.YtkgdlbepjmgaiaaW.PrintWords Go.Proofs.YtkgdlbepjmgaiaaW.PrintLast Go.Proofs.YtkgdlbepjmgaiaaW.PrintMore
attribute [local go_sem] max2_int min2_int max_two min_two max_three min_three max_four min_four
set_option linter.unusedVariables false
set_option linter.unusedSimpArgs false
attribute [local go_sem high] eqA106
mutual
def metrolabref18_SameFrames.l0 : Nat → List (S104) → List (S104) → Int → Option (Bool)
  | 0, _, _, _ => none
  | k + 1, x0, x1, x5 => if x5 < (x0.length : Int) then (if 0 ≤ x5 then (if x5 < (x1.length : Int) then (if ((rd_T104 x0 x5).f0) = ((rd_T104 x1 x5).f0) then (if (((rd_T104 x0 x5).f1) != ((rd_T104 x1 x5).f1)) = true then (metrolabref18_SameFrames.j1 k x0 x1 x5 true ((rd_T104 x0 x5).f0) ((rd_T104 x0 x5).f1) ((rd_T104 x0 x5).f2) ((rd_T104 x0 x5).f3) ((rd_T104 x0 x5).f4) ((rd_T104 x1 x5).f0) ((rd_T104 x1 x5).f1) ((rd_T104 x1 x5).f2) ((rd_T104 x1 x5).f3) ((rd_T104 x1 x5).f4)) else (if ((rd_T104 x0 x5).f2) = ((rd_T104 x1 x5).f2) then (if ((rd_T104 x0 x5).f3) = ((rd_T104 x1 x5).f3) then (metrolabref18_SameFrames.j1 k x0 x1 x5 ((((rd_T104 x0 x5).f4).length : Int) != (((rd_T104 x1 x5).f4).length : Int)) ((rd_T104 x0 x5).f0) ((rd_T104 x0 x5).f1) ((rd_T104 x0 x5).f2) ((rd_T104 x0 x5).f3) ((rd_T104 x0 x5).f4) ((rd_T104 x1 x5).f0) ((rd_T104 x1 x5).f1) ((rd_T104 x1 x5).f2) ((rd_T104 x1 x5).f3) ((rd_T104 x1 x5).f4)) else (metrolabref18_SameFrames.j1 k x0 x1 x5 true ((rd_T104 x0 x5).f0) ((rd_T104 x0 x5).f1) ((rd_T104 x0 x5).f2) ((rd_T104 x0 x5).f3) ((rd_T104 x0 x5).f4) ((rd_T104 x1 x5).f0) ((rd_T104 x1 x5).f1) ((rd_T104 x1 x5).f2) ((rd_T104 x1 x5).f3) ((rd_T104 x1 x5).f4))) else (metrolabref18_SameFrames.j1 k x0 x1 x5 true ((rd_T104 x0 x5).f0) ((rd_T104 x0 x5).f1) ((rd_T104 x0 x5).f2) ((rd_T104 x0 x5).f3) ((rd_T104 x0 x5).f4) ((rd_T104 x1 x5).f0) ((rd_T104 x1 x5).f1) ((rd_T104 x1 x5).f2) ((rd_T104 x1 x5).f3) ((rd_T104 x1 x5).f4)))) else (metrolabref18_SameFrames.j1 k x0 x1 x5 true ((rd_T104 x0 x5).f0) ((rd_T104 x0 x5).f1) ((rd_T104 x0 x5).f2) ((rd_T104 x0 x5).f3) ((rd_T104 x0 x5).f4) ((rd_T104 x1 x5).f0) ((rd_T104 x1 x5).f1) ((rd_T104 x1 x5).f2) ((rd_T104 x1 x5).f3) ((rd_T104 x1 x5).f4))) else (none)) else (none)) else (some true)
def metrolabref18_SameFrames.j1 : Nat → List (S104) → List (S104) → Int → Bool → Int → Bool → Int → Int → List (S106) → Int → Bool → Int → Int → List (S106) → Option (Bool)
  | 0, _, _, _, _, _, _, _, _, _, _, _, _, _, _ => none
  | k + 1, x0, x1, x5, x62, x357000, x357001, x357002, x357003, x357004, x358000, x358001, x358002, x358003, x358004 => if x62 = true then (some false) else (metrolabref18_SameFrames.l1 k x0 x1 x5 0 x357000 x357001 x357002 x357003 x357004 x358000 x358001 x358002 x358003 x358004)
def metrolabref18_SameFrames.l1 : Nat → List (S104) → List (S104) → Int → Int → Int → Bool → Int → Int → List (S106) → Int → Bool → Int → Int → List (S106) → Option (Bool)
  | 0, _, _, _, _, _, _, _, _, _, _, _, _, _, _ => none
  | k + 1, x0, x1, x5, x8, x357000, x357001, x357002, x357003, x357004, x358000, x358001, x358002, x358003, x358004 => if x8 < (x357004.length : Int) then (if 0 ≤ x8 then (if x8 < (x358004.length : Int) then (if (!((((rd_T106 x357004 x8).f0).toList) == (((rd_T106 x358004 x8).f0).toList)) || (!(((rd_T106 x357004 x8).f1) == ((rd_T106 x358004 x8).f1)))) = true then (some false) else (metrolabref18_SameFrames.l1 k x0 x1 x5 (wrap64 (x8 + 1)) x357000 x357001 x357002 x357003 x357004 x358000 x358001 x358002 x358003 x358004)) else (none)) else (none)) else (metrolabref18_SameFrames.l0 k x0 x1 (wrap64 (x5 + 1)))
end
def metrolabref18_SameFrames.f (k : Nat) (l0 : List (S104)) (l1 : List (S104)) : Option (Bool) := if (l0.length : Int) = (l1.length : Int) then (metrolabref18_SameFrames.l0 k l0 l1 0) else (some false)
theorem metrolabref18_SameFrames.mono_l : ∀ k, (∀ y0 y1 y2, LeO (metrolabref18_SameFrames.l0 k y0 y1 y2) (metrolabref18_SameFrames.l0 (k + 1) y0 y1 y2)) ∧ (∀ y0 y1 y2 y3 y4 y5 y6 y7 y8 y9 y10 y11 y12 y13, LeO (metrolabref18_SameFrames.j1 k y0 y1 y2 y3 y4 y5 y6 y7 y8 y9 y10 y11 y12 y13) (metrolabref18_SameFrames.j1 (k + 1) y0 y1 y2 y3 y4 y5 y6 y7 y8 y9 y10 y11 y12 y13)) ∧ (∀ y0 y1 y2 y3 y4 y5 y6 y7 y8 y9 y10 y11 y12 y13, LeO (metrolabref18_SameFrames.l1 k y0 y1 y2 y3 y4 y5 y6 y7 y8 y9 y10 y11 y12 y13) (metrolabref18_SameFrames.l1 (k + 1) y0 y1 y2 y3 y4 y5 y6 y7 y8 y9 y10 y11 y12 y13))
 | 0 => ⟨fun _ _ _ r h => by simp [metrolabref18_SameFrames.l0] at h, fun _ _ _ _ _ _ _ _ _ _ _ _ _ _ r h => by simp [metrolabref18_SameFrames.j1] at h, fun _ _ _ _ _ _ _ _ _ _ _ _ _ _ r h => by simp [metrolabref18_SameFrames.l1] at h⟩
 | k + 1 => by
  obtain ⟨ih0,ih1,ih2⟩:=metrolabref18_SameFrames.mono_l k
  refine ⟨?_,?_,?_⟩
  ·intro y0 y1 y2
   unfold metrolabref18_SameFrames.l0
   repeat' first
   | (with_reducible exact ih0 _ _ _)
   | (with_reducible exact ih1 _ _ _ _ _ _ _ _ _ _ _ _ _ _)
   | (with_reducible exact ih2 _ _ _ _ _ _ _ _ _ _ _ _ _ _)
   | (with_reducible exact LeO.refl _)
   | (with_reducible exact LeO.none _)
   | (with_reducible refine LeO.ite ?_ ?_)
   | (with_reducible refine LeO.bind ?_ (fun _ => ?_))
   | exact ih0 _ _ _
   | exact ih1 _ _ _ _ _ _ _ _ _ _ _ _ _ _
   | exact ih2 _ _ _ _ _ _ _ _ _ _ _ _ _ _
   | exact LeO.none _
   | refine LeO.ite ?_ ?_
   | refine LeO.bind ?_ (fun _ => ?_)
  ·intro y0 y1 y2 y3 y4 y5 y6 y7 y8 y9 y10 y11 y12 y13
   unfold metrolabref18_SameFrames.j1
   repeat' first
   | (with_reducible exact ih0 _ _ _)
   | (with_reducible exact ih1 _ _ _ _ _ _ _ _ _ _ _ _ _ _)
   | (with_reducible exact ih2 _ _ _ _ _ _ _ _ _ _ _ _ _ _)
   | (with_reducible exact LeO.refl _)
   | (with_reducible exact LeO.none _)
   | (with_reducible refine LeO.ite ?_ ?_)
   | (with_reducible refine LeO.bind ?_ (fun _ => ?_))
   | exact ih0 _ _ _
   | exact ih1 _ _ _ _ _ _ _ _ _ _ _ _ _ _
   | exact ih2 _ _ _ _ _ _ _ _ _ _ _ _ _ _
   | exact LeO.none _
   | refine LeO.ite ?_ ?_
   | refine LeO.bind ?_ (fun _ => ?_)
  ·intro y0 y1 y2 y3 y4 y5 y6 y7 y8 y9 y10 y11 y12 y13
   unfold metrolabref18_SameFrames.l1
   repeat' first
   | (with_reducible exact ih0 _ _ _)
   | (with_reducible exact ih1 _ _ _ _ _ _ _ _ _ _ _ _ _ _)
   | (with_reducible exact ih2 _ _ _ _ _ _ _ _ _ _ _ _ _ _)
   | (with_reducible exact LeO.refl _)
   | (with_reducible exact LeO.none _)
   | (with_reducible refine LeO.ite ?_ ?_)
   | (with_reducible refine LeO.bind ?_ (fun _ => ?_))
   | exact ih0 _ _ _
   | exact ih1 _ _ _ _ _ _ _ _ _ _ _ _ _ _
   | exact ih2 _ _ _ _ _ _ _ _ _ _ _ _ _ _
   | exact LeO.none _
   | refine LeO.ite ?_ ?_
   | refine LeO.bind ?_ (fun _ => ?_)
theorem metrolabref18_SameFrames.mono : ∀ a0 a1 k, LeO (metrolabref18_SameFrames.f k a0 a1) (metrolabref18_SameFrames.f (k + 1) a0 a1) := by
 intro a0 a1 k
 obtain ⟨ih0,ih1,ih2⟩:=metrolabref18_SameFrames.mono_l k
 unfold metrolabref18_SameFrames.f
 repeat' first
  | (with_reducible exact ih0 _ _ _)
  | (with_reducible exact ih1 _ _ _ _ _ _ _ _ _ _ _ _ _ _)
  | (with_reducible exact ih2 _ _ _ _ _ _ _ _ _ _ _ _ _ _)
  | (with_reducible exact LeO.refl _)
  | (with_reducible exact LeO.none _)
  | (with_reducible refine LeO.ite ?_ ?_)
  | (with_reducible refine LeO.bind ?_ (fun _ => ?_))
  | exact ih0 _ _ _
  | exact ih1 _ _ _ _ _ _ _ _ _ _ _ _ _ _
  | exact ih2 _ _ _ _ _ _ _ _ _ _ _ _ _ _
  | exact LeO.none _
  | refine LeO.ite ?_ ?_
  | refine LeO.bind ?_ (fun _ => ?_)
def metrolabref18_SameFrames.T6 : Bool × List (List Nat × List Nat) := (true, [([], []), ([], []), ([0, 1], [0, 1]), ([2], [2]), ([], []), ([], []), ([4, 5], [4, 5]), ([6], [6]), ([], []), ([], []), ([8, 3, 0, 1, 2, 3, 8, 9], [3, 8]), ([9, 7, 10, 0, 1, 2, 3, 4, 5, 6, 7, 8, 9, 10], [7, 9])])
def metrolabref18_SameFrames.B6 : List Nat := [0, 0, 3, 7, 0, 0, 48, 112, 0, 0, 783, 2047]
theorem metrolabref18_SameFrames.tab6 : rtab .any (opsOf Try.f101 6) = metrolabref18_SameFrames.T6 := by kernel_rfl
theorem metrolabref18_SameFrames.bits6 : waitsOk metrolabref18_SameFrames.T6.2 metrolabref18_SameFrames.B6 = true := by kernel_rfl
def metrolabref18_SameFrames.T12 : Bool × List (List Nat × List Nat) := (true, [([], []), ([0], [0]), ([], []), ([1, 2], [1, 2]), ([3], [3]), ([], []), ([5], [5]), ([], []), ([6, 7], [6, 7]), ([8], [8]), ([4, 9], [4, 9])])
def metrolabref18_SameFrames.B12 : List Nat := [0, 1, 0, 7, 15, 0, 32, 0, 224, 480, 1023]
theorem metrolabref18_SameFrames.tab12 : rtab .any (opsOf Try.f101 12) = metrolabref18_SameFrames.T12 := by kernel_rfl
theorem metrolabref18_SameFrames.bits12 : waitsOk metrolabref18_SameFrames.T12.2 metrolabref18_SameFrames.B12 = true := by kernel_rfl
set_option maxHeartbeats 8000000 in
set_option maxRecDepth 100000 in
theorem metrolabref18_SameFrames.calls (k : Nat) (A0 : Option Addr) (c0 : Nat) (l0 : List (S104)) (A1 : Option Addr) (c1 : Nat) (l1 : List (S104)) (r : Bool) (w : World) (hr0 : Kd.C k104 w A0 l0.length l0) (hc0 : l0.length ≤ c0) (hr1 : Kd.C k104 w A1 l1.length l1) (hc1 : l1.length ≤ c1) (h : metrolabref18_SameFrames.f k l0 l1 = some r) :
 Calls Try.prog 101 #[.slice A0 l0.length c0,.slice A1 l1.length c1] w fun e w'=>e = .returned (.bool r) ∧ Below w.heap.size w w':=by
 have hu104:=Try.underlying104
 have hu106:=Try.underlying106
 have HR0:=zm hr0
 have HC0:=zm hc0
 clear hr0 hc0
 have HR1:=zm hr1
 have HC1:=zm hc1
 clear hr1 hc1
 have HB:=zm (Below.refl w.heap.size w)
 have H : (if (l0.length : Int) = (l1.length : Int) then (metrolabref18_SameFrames.l0 k l0 l1 0) else (some false)) = some r:=h
 clear h
 by_cases c3 : (l0.length : Int) = (l1.length : Int)
 ·rw [if_pos c3] at H
  have c3b0 : ((l0.length : Int) == (l1.length : Int)) = true:=beq_iff_eq.mpr c3
  have c3b1 : ((l0.length : Int) != (l1.length : Int)) = false:=bne_eq_false_iff_eq.mpr c3
  have c3b2 : (l0.length == l1.length) = true:=by first|simpa using c3|(simp at c3 ⊢;omega)
  clear c3
  have H':=zm H
  clear H
  go_enter Try.func101,Try.ntmps101
  go_wp2
  go_loopg [5] k (fun kq v5 w'=>∃ (x5_1 : Int),v5 = .int .i64 x5_1 ∧ Aside0 (metrolabref18_SameFrames.l0 kq l0 l1 x5_1 = some r) ∧ Aside0 (kq ≤ k) ∧ Aside0 (Below w.heap.size w w'))
  case atStart=>exact ⟨(0),(by first|rfl|(simp;done)|(simp [*];done)),H',⟨Nat.le_refl _⟩,⟨by repeat (first|(with_reducible first|exact HB.out|apply zA|apply zD|apply zE)|exact HB.out)⟩⟩
  case round =>
   clear H'
   try clear c1
   try clear p2
   try clear c3
   try clear c3b0
   try clear c3b1
   try clear c3b2
   obtain ⟨x5_1,rfl,HA,HK1,HB⟩:=hrel
   cases gk with
   | zero => exact absurd HA.out (by simp [metrolabref18_SameFrames.l0])
   | succ k1 =>
    have H:=HA.out
    clear HA
    simp only [metrolabref18_SameFrames.l0] at H
    by_cases c4 : x5_1 < (l0.length : Int)
    ·rw [if_pos c4] at H
     have c4b0 : decide (x5_1 < (l0.length : Int)) = true:=decide_eq_true c4
     clear c4
     by_cases c5 : 0 ≤ x5_1
     ·rw [if_pos c5] at H
      have c5b0 : decide (0 ≤ x5_1) = true:=decide_eq_true c5
      clear c5
      by_cases c6 : x5_1 < (l1.length : Int)
      ·rw [if_pos c6] at H
       have c6b0 : decide (x5_1 < (l1.length : Int)) = true:=decide_eq_true c6
       clear c6
       have HC7:=zm H
       clear H
       try go_wp2
       have n0_:=zm (zE HB.out)
       clear HB
       have HB:=n0_
       clear n0_
       have p354 : 0 ≤ (x5_1 : Int):=of_decide_eq_true (by first|(with_reducible assumption)|assumption)
       have q354 : x5_1 < (l0.length : Int):=of_decide_eq_true (by first|(with_reducible assumption)|assumption)
       obtain ⟨ad354,A354_4,c354_4,e354,hx354_0,hx354_1,hx354_2,hx354_3,hx354_4,hl354_4,hi354_4⟩:=at_T104 HR0.out x5_1 p354 q354
       have hw354_4:=hx354_4
       have hw354_3:=hx354_3
       have hw354_2:=hx354_2
       have hw354_1:=hx354_1
       have hw354_0:=hx354_0
       cases e354
       replace hx354_0:=(HB.out.cell (World.block_lt_of_cell? w _ hx354_0)).trans hx354_0
       replace hx354_1:=(HB.out.cell (World.block_lt_of_cell? w _ hx354_1)).trans hx354_1
       replace hx354_2:=(HB.out.cell (World.block_lt_of_cell? w _ hx354_2)).trans hx354_2
       replace hx354_3:=(HB.out.cell (World.block_lt_of_cell? w _ hx354_3)).trans hx354_3
       replace hx354_4:=(HB.out.cell (World.block_lt_of_cell? w _ hx354_4)).trans hx354_4
       have HR354_4:=zm hi354_4
       have HC354_4:=zm hl354_4
       clear hi354_4 hl354_4
       replace p354:=eq_true p354
       replace q354:=eq_true q354
       have p355 : 0 ≤ (x5_1 : Int):=of_decide_eq_true (by first|(with_reducible assumption)|assumption)
       have q355 : x5_1 < (l1.length : Int):=of_decide_eq_true (by first|(with_reducible assumption)|assumption)
       obtain ⟨ad355,A355_4,c355_4,e355,hx355_0,hx355_1,hx355_2,hx355_3,hx355_4,hl355_4,hi355_4⟩:=at_T104 HR1.out x5_1 p355 q355
       have hw355_4:=hx355_4
       have hw355_3:=hx355_3
       have hw355_2:=hx355_2
       have hw355_1:=hx355_1
       have hw355_0:=hx355_0
       cases e355
       replace hx355_0:=(HB.out.cell (World.block_lt_of_cell? w _ hx355_0)).trans hx355_0
       replace hx355_1:=(HB.out.cell (World.block_lt_of_cell? w _ hx355_1)).trans hx355_1
       replace hx355_2:=(HB.out.cell (World.block_lt_of_cell? w _ hx355_2)).trans hx355_2
       replace hx355_3:=(HB.out.cell (World.block_lt_of_cell? w _ hx355_3)).trans hx355_3
       replace hx355_4:=(HB.out.cell (World.block_lt_of_cell? w _ hx355_4)).trans hx355_4
       have HR355_4:=zm hi355_4
       have HC355_4:=zm hl355_4
       clear hi355_4 hl355_4
       replace p355:=eq_true p355
       replace q355:=eq_true q355
       refine start_ (n:=12) (S:=fun w'=>w'.cell? (ad354.add ((x5_1).toNat * 5)) = some (.int .i64 ((rd_T104 l0 x5_1).f0)) ∧ w'.cell? ⟨(ad354.add ((x5_1).toNat * 5)).block,(ad354.add ((x5_1).toNat * 5)).off + 1,none⟩ = some (.bool ((rd_T104 l0 x5_1).f1)) ∧ w'.cell? ⟨(ad354.add ((x5_1).toNat * 5)).block,(ad354.add ((x5_1).toNat * 5)).off + 2,none⟩ = some (.int .i64 ((rd_T104 l0 x5_1).f2)) ∧ w'.cell? ⟨(ad354.add ((x5_1).toNat * 5)).block,(ad354.add ((x5_1).toNat * 5)).off + 3,none⟩ = some (.int .i64 ((rd_T104 l0 x5_1).f3)) ∧ w'.cell? ⟨(ad354.add ((x5_1).toNat * 5)).block,(ad354.add ((x5_1).toNat * 5)).off + 4,none⟩ = some (.slice A354_4 ((rd_T104 l0 x5_1).f4).length c354_4) ∧ w'.cell? (ad355.add ((x5_1).toNat * 5)) = some (.int .i64 ((rd_T104 l1 x5_1).f0)) ∧ w'.cell? ⟨(ad355.add ((x5_1).toNat * 5)).block,(ad355.add ((x5_1).toNat * 5)).off + 1,none⟩ = some (.bool ((rd_T104 l1 x5_1).f1)) ∧ w'.cell? ⟨(ad355.add ((x5_1).toNat * 5)).block,(ad355.add ((x5_1).toNat * 5)).off + 2,none⟩ = some (.int .i64 ((rd_T104 l1 x5_1).f2)) ∧ w'.cell? ⟨(ad355.add ((x5_1).toNat * 5)).block,(ad355.add ((x5_1).toNat * 5)).off + 3,none⟩ = some (.int .i64 ((rd_T104 l1 x5_1).f3)) ∧ w'.cell? ⟨(ad355.add ((x5_1).toNat * 5)).block,(ad355.add ((x5_1).toNat * 5)).off + 4,none⟩ = some (.slice A355_4 ((rd_T104 l1 x5_1).f4).length c355_4)) (ds:=[]) #[false,false,false,false,false,false,false,false,false,false,false,false] (by kernel_rfl) rfl rfl ⟨((HB.out.cell (World.block_lt_of_cell? w _ hw354_0)).trans hw354_0),((HB.out.cell (World.block_lt_of_cell? w _ hw354_1)).trans hw354_1),((HB.out.cell (World.block_lt_of_cell? w _ hw354_2)).trans hw354_2),((HB.out.cell (World.block_lt_of_cell? w _ hw354_3)).trans hw354_3),((HB.out.cell (World.block_lt_of_cell? w _ hw354_4)).trans hw354_4),((HB.out.cell (World.block_lt_of_cell? w _ hw355_0)).trans hw355_0),((HB.out.cell (World.block_lt_of_cell? w _ hw355_1)).trans hw355_1),((HB.out.cell (World.block_lt_of_cell? w _ hw355_2)).trans hw355_2),((HB.out.cell (World.block_lt_of_cell? w _ hw355_3)).trans hw355_3),((HB.out.cell (World.block_lt_of_cell? w _ hw355_4)).trans hw355_4)⟩ (fun hHeld=>?_);refine with_tabW metrolabref18_SameFrames.tab6 metrolabref18_SameFrames.bits6 (fun HT_ HW_=>?_)
       generalize wr.drew = w8 at HB HR354_4 HR355_4 hx354_0 hx354_1 hx354_2 hx354_3 hx354_4 hx355_0 hx355_1 hx355_2 hx355_3 hx355_4 hHeld ⊢
       refine pure_ (i:=0) (N:=some 20) (v:=?_) (a':=?_) #[true,false,false,false,false,false,false,false,false,false,false,false] rfl rfl (any_of HT_.out (by kernel_rfl)) (fun _ _ _ h=>h) (Or.inl ⟨by rfl,?_⟩) ?_ ?_
       rotate_left
       ·intro w'
        go_simp
        with_reducible rfl
       rotate_left
       ·simp only [Act.put,zx,zy,zz,i64_w,i32_w]
        rfl
       refine pure_ (i:=1) (N:=some 21) (v:=?_) (a':=?_) #[true,true,false,false,false,false,false,false,false,false,false,false] rfl rfl (any_of HT_.out (by kernel_rfl)) (fun _ _ _ h=>h) (Or.inl ⟨by rfl,?_⟩) ?_ ?_
       rotate_left
       ·intro w'
        go_simp
        with_reducible rfl
       rotate_left
       ·simp only [Act.put,zx,zy,zz,i64_w,i32_w]
        rfl
       refine pure_ (i:=2) (N:=some 22) (v:=?_) (a':=?_) #[true,true,true,false,false,false,false,false,false,false,false,false] rfl rfl (any_of HT_.out (by kernel_rfl)) (fun _ _ _ h=>h) (Or.inl ⟨by rfl,?_⟩) ?_ ?_
       rotate_left
       ·intro w'
        go_simp
        with_reducible rfl
       rotate_left
       ·simp only [Act.put,zx,zy,zz,i64_w,i32_w]
        rfl
       refine pure_ (i:=4) (N:=some 24) (v:=?_) (a':=?_) #[true,true,true,false,true,false,false,false,false,false,false,false] rfl rfl (any_of HT_.out (by kernel_rfl)) (fun _ _ _ h=>h) (Or.inl ⟨by rfl,?_⟩) ?_ ?_
       rotate_left
       ·intro w'
        go_simp
        with_reducible rfl
       rotate_left
       ·simp only [Act.put,zx,zy,zz,i64_w,i32_w]
        rfl
       refine pure_ (i:=5) (N:=some 25) (v:=?_) (a':=?_) #[true,true,true,false,true,true,false,false,false,false,false,false] rfl rfl (any_of HT_.out (by kernel_rfl)) (fun _ _ _ h=>h) (Or.inl ⟨by rfl,?_⟩) ?_ ?_
       rotate_left
       ·intro w'
        go_simp
        with_reducible rfl
       rotate_left
       ·simp only [Act.put,zx,zy,zz,i64_w,i32_w]
        rfl
       refine pure_ (i:=6) (N:=some 26) (v:=?_) (a':=?_) #[true,true,true,false,true,true,true,false,false,false,false,false] rfl rfl (any_of HT_.out (by kernel_rfl)) (fun _ _ _ h=>h) (Or.inl ⟨by rfl,?_⟩) ?_ ?_
       rotate_left
       ·intro w'
        go_simp
        with_reducible rfl
       rotate_left
       ·simp only [Act.put,zx,zy,zz,i64_w,i32_w]
        rfl
       refine take_ (i:=3) (N:=some 23) (v:=?_) (a':=?_) #[true,true,true,true,true,true,true,false,false,false,false,false] rfl rfl (take_ofW HT_.out HW_.out (by kernel_rfl)) (fun _ _ _ h=>h) (Or.inl ⟨by rfl,?_⟩) hHeld ?_ ?_
       rotate_left
       ·rintro w' ⟨s0,s1,s2,s3,s4,s5,s6,s7,s8,s9⟩
        go_simp
        with_reducible rfl
       rotate_left
       ·simp only [Act.put,zx,zy,zz,i64_w,i32_w]
        rfl
       refine take_ (i:=7) (N:=some 27) (v:=?_) (a':=?_) #[true,true,true,true,true,true,true,true,false,false,false,false] rfl rfl (take_ofW HT_.out HW_.out (by kernel_rfl)) (fun _ _ _ h=>h) (Or.inl ⟨by rfl,?_⟩) hHeld ?_ ?_
       rotate_left
       ·rintro w' ⟨s0,s1,s2,s3,s4,s5,s6,s7,s8,s9⟩
        go_simp
        with_reducible rfl
       rotate_left
       ·simp only [Act.put,zx,zy,zz,i64_w,i32_w]
        rfl
       refine join_ (σ:=Nat × Nat) 2 #[true,true,true,true,true,true,true,true,true,true,false,false] (fun s_=>[(6,.pointer (some ⟨s_.1,0,none⟩)),(7,.pointer (some ⟨s_.2,0,none⟩))]) (fun s_ w'=>(w'.cell? (ad354.add ((x5_1).toNat * 5)) = some (.int .i64 ((rd_T104 l0 x5_1).f0)) ∧ w'.cell? ⟨(ad354.add ((x5_1).toNat * 5)).block,(ad354.add ((x5_1).toNat * 5)).off + 1,none⟩ = some (.bool ((rd_T104 l0 x5_1).f1)) ∧ w'.cell? ⟨(ad354.add ((x5_1).toNat * 5)).block,(ad354.add ((x5_1).toNat * 5)).off + 2,none⟩ = some (.int .i64 ((rd_T104 l0 x5_1).f2)) ∧ w'.cell? ⟨(ad354.add ((x5_1).toNat * 5)).block,(ad354.add ((x5_1).toNat * 5)).off + 3,none⟩ = some (.int .i64 ((rd_T104 l0 x5_1).f3)) ∧ w'.cell? ⟨(ad354.add ((x5_1).toNat * 5)).block,(ad354.add ((x5_1).toNat * 5)).off + 4,none⟩ = some (.slice A354_4 ((rd_T104 l0 x5_1).f4).length c354_4) ∧ w'.cell? (ad355.add ((x5_1).toNat * 5)) = some (.int .i64 ((rd_T104 l1 x5_1).f0)) ∧ w'.cell? ⟨(ad355.add ((x5_1).toNat * 5)).block,(ad355.add ((x5_1).toNat * 5)).off + 1,none⟩ = some (.bool ((rd_T104 l1 x5_1).f1)) ∧ w'.cell? ⟨(ad355.add ((x5_1).toNat * 5)).block,(ad355.add ((x5_1).toNat * 5)).off + 2,none⟩ = some (.int .i64 ((rd_T104 l1 x5_1).f2)) ∧ w'.cell? ⟨(ad355.add ((x5_1).toNat * 5)).block,(ad355.add ((x5_1).toNat * 5)).off + 3,none⟩ = some (.int .i64 ((rd_T104 l1 x5_1).f3)) ∧ w'.cell? ⟨(ad355.add ((x5_1).toNat * 5)).block,(ad355.add ((x5_1).toNat * 5)).off + 4,none⟩ = some (.slice A355_4 ((rd_T104 l1 x5_1).f4).length c355_4)) ∧ (w'.heap[s_.1]? = some (.cells #[.int .i64 0,.bool false,.int .i64 0,.int .i64 0,.slice none 0 0] 104 (0,0))) ∧ (w'.heap[s_.2]? = some (.cells #[.int .i64 0,.bool false,.int .i64 0,.int .i64 0,.slice none 0 0] 104 (0,0))) ∧ (w.heap.size ≤ s_.1) ∧ (w.heap.size ≤ s_.1) ∧ (s_.2 ≠ s_.1) ∧ (s_.1 ≠ s_.2) ∧ (w.heap.size ≤ s_.2) ∧ (w.heap.size ≤ s_.2) ∧ (Below w.heap.size w w')) ?_ ?_
       rotate_left
       ·intro hCont
        refine two_ (i:=8) (j:=9) (Ni:=some 6) (Nj:=some 7) #[true,true,true,true,true,true,true,true,true,false,false,false] #[true,true,true,true,true,true,true,true,false,true,false,false] rfl rfl rfl rfl (two_of HT_.out (by kernel_rfl)) (by decide) (by decide) (fun K hK=>?_) (fun K hK=>?_)
        ·skip
         refine box_step ?hg (N:=6) ?hd (cs:=#[.int .i64 0,.bool false,.int .i64 0,.int .i64 0,.slice none 0 0]) (t:=104) ?hr ?_;(case hd=>rfl);(case hg=>rfl);(case hr=>first|(go_simp;done)|(go_simp;rfl))
         intro gb356 hg w9 hbox hb
         have n0_:=zm (below_step (by repeat (first|(with_reducible first|exact HB.out|apply zA|apply zD|apply zE)|exact HB.out)) hb)
         have n1_:=zm (hbox)
         have n2_:=zm ((by rw [hg];exact (below_size (by repeat (first|(with_reducible first|exact HB.out|apply zA|apply zD|apply zE)|exact HB.out))) : w.heap.size ≤ gb356))
         have n3_:=zm ((by rw [hg];exact (below_size (by repeat (first|(with_reducible first|exact HB.out|apply zA|apply zD|apply zE)|exact HB.out))) : w.heap.size ≤ gb356))
         clear HB
         have HB:=n0_
         have BK356:=n1_
         have GW356:=n2_
         have GE356:=n3_
         clear n0_ n1_ n2_ n3_ hb hbox hg
         refine hK.out _ _ ⟨((HB.out.cell (World.block_lt_of_cell? w _ hw354_0)).trans hw354_0),((HB.out.cell (World.block_lt_of_cell? w _ hw354_1)).trans hw354_1),((HB.out.cell (World.block_lt_of_cell? w _ hw354_2)).trans hw354_2),((HB.out.cell (World.block_lt_of_cell? w _ hw354_3)).trans hw354_3),((HB.out.cell (World.block_lt_of_cell? w _ hw354_4)).trans hw354_4),((HB.out.cell (World.block_lt_of_cell? w _ hw355_0)).trans hw355_0),((HB.out.cell (World.block_lt_of_cell? w _ hw355_1)).trans hw355_1),((HB.out.cell (World.block_lt_of_cell? w _ hw355_2)).trans hw355_2),((HB.out.cell (World.block_lt_of_cell? w _ hw355_3)).trans hw355_3),((HB.out.cell (World.block_lt_of_cell? w _ hw355_4)).trans hw355_4)⟩ (fun hHeld=>?_)
         clear hK K
         refine norm_ (a':=?_) ?_ ?_
         rotate_left
         ·show Act.put _ (some 6) _ = _
          simp only [Act.put,zx,zy,zz,i64_w,i32_w]
          rfl
         refine one_ (i:=9) (N:=some 7) #[true,true,true,true,true,true,true,true,true,true,false,false] rfl rfl (one_of HT_.out (by kernel_rfl)) (by decide) (fun K hK=>?_)
         refine box_step ?hg (N:=7) ?hd (cs:=#[.int .i64 0,.bool false,.int .i64 0,.int .i64 0,.slice none 0 0]) (t:=104) ?hr ?_;(case hd=>rfl);(case hg=>rfl);(case hr=>first|(go_simp;done)|(go_simp;rfl))
         intro gb357 hg w10 hbox hb
         have n0_:=zm (zb (g:=gb356) (by (with_reducible repeat first|apply zd|apply ze|apply za);exact BK356.out) hb)
         have n1_:=zm (below_step (by repeat (first|(with_reducible first|exact HB.out|apply zA|apply zD|apply zE|refine zS ?_ GE356.out)|exact HB.out)) hb)
         have n2_:=zm (hbox)
         have n3_:=zm ((by rw [hg];exact (below_size (by repeat (first|(with_reducible first|exact HB.out|apply zA|apply zD|apply zE|refine zS ?_ GE356.out)|exact HB.out))) : w.heap.size ≤ gb357))
         have n4_:=zm ((by rw [hg];exact (below_size (by repeat (first|(with_reducible first|exact HB.out|apply zA|apply zD|apply zE|refine zS ?_ GE356.out)|exact HB.out))) : w.heap.size ≤ gb357))
         have n5_:=zm ((by rw [hg];exact Nat.ne_of_lt (blk_lt (g:=gb356) (by (with_reducible repeat first|apply zd|apply ze|apply za);exact BK356.out)) : gb356 ≠ gb357))
         have n6_:=zm ((by rw [hg];exact Nat.ne_of_gt (blk_lt (g:=gb356) (by (with_reducible repeat first|apply zd|apply ze|apply za);exact BK356.out)) : gb357 ≠ gb356))
         clear BK356 HB
         have BK356:=n0_
         have HB:=n1_
         have BK357:=n2_
         have GW357:=n3_
         have GE357:=n4_
         have NB356_357:=n5_
         have NB357_356:=n6_
         clear n0_ n1_ n2_ n3_ n4_ n5_ n6_ hb hbox hg
         refine hK.out _ _ ⟨((HB.out.cell (World.block_lt_of_cell? w _ hw354_0)).trans hw354_0),((HB.out.cell (World.block_lt_of_cell? w _ hw354_1)).trans hw354_1),((HB.out.cell (World.block_lt_of_cell? w _ hw354_2)).trans hw354_2),((HB.out.cell (World.block_lt_of_cell? w _ hw354_3)).trans hw354_3),((HB.out.cell (World.block_lt_of_cell? w _ hw354_4)).trans hw354_4),((HB.out.cell (World.block_lt_of_cell? w _ hw355_0)).trans hw355_0),((HB.out.cell (World.block_lt_of_cell? w _ hw355_1)).trans hw355_1),((HB.out.cell (World.block_lt_of_cell? w _ hw355_2)).trans hw355_2),((HB.out.cell (World.block_lt_of_cell? w _ hw355_3)).trans hw355_3),((HB.out.cell (World.block_lt_of_cell? w _ hw355_4)).trans hw355_4)⟩ (fun hHeld=>?_)
         clear hK K
         refine norm_ (a':=?_) ?_ ?_
         rotate_left
         ·show Act.put _ (some 7) _ = _
          simp only [Act.put,zx,zy,zz,i64_w,i32_w]
          rfl
         exact norm_ (by simp only [putAll,Act.put,zx,zy,zz]) (hCont (gb356,gb357) _ ⟨hHeld,(by (with_reducible repeat first|apply zd|apply ze|apply za);exact BK356.out),(by (with_reducible repeat first|apply zd|apply ze|apply za);exact BK357.out),GW356.out,GE356.out,NB357_356.out,NB356_357.out,GW357.out,GE357.out,(by repeat (first|(with_reducible first|exact HB.out|apply zA|apply zD|apply zE|refine zS ?_ GE356.out|refine zS ?_ GE357.out)|exact HB.out))⟩)
        ·skip
         refine box_step ?hg (N:=7) ?hd (cs:=#[.int .i64 0,.bool false,.int .i64 0,.int .i64 0,.slice none 0 0]) (t:=104) ?hr ?_;(case hd=>rfl);(case hg=>rfl);(case hr=>first|(go_simp;done)|(go_simp;rfl))
         intro gb357 hg w9 hbox hb
         have n0_:=zm (below_step (by repeat (first|(with_reducible first|exact HB.out|apply zA|apply zD|apply zE)|exact HB.out)) hb)
         have n1_:=zm (hbox)
         have n2_:=zm ((by rw [hg];exact (below_size (by repeat (first|(with_reducible first|exact HB.out|apply zA|apply zD|apply zE)|exact HB.out))) : w.heap.size ≤ gb357))
         have n3_:=zm ((by rw [hg];exact (below_size (by repeat (first|(with_reducible first|exact HB.out|apply zA|apply zD|apply zE)|exact HB.out))) : w.heap.size ≤ gb357))
         clear HB
         have HB:=n0_
         have BK357:=n1_
         have GW357:=n2_
         have GE357:=n3_
         clear n0_ n1_ n2_ n3_ hb hbox hg
         refine hK.out _ _ ⟨((HB.out.cell (World.block_lt_of_cell? w _ hw354_0)).trans hw354_0),((HB.out.cell (World.block_lt_of_cell? w _ hw354_1)).trans hw354_1),((HB.out.cell (World.block_lt_of_cell? w _ hw354_2)).trans hw354_2),((HB.out.cell (World.block_lt_of_cell? w _ hw354_3)).trans hw354_3),((HB.out.cell (World.block_lt_of_cell? w _ hw354_4)).trans hw354_4),((HB.out.cell (World.block_lt_of_cell? w _ hw355_0)).trans hw355_0),((HB.out.cell (World.block_lt_of_cell? w _ hw355_1)).trans hw355_1),((HB.out.cell (World.block_lt_of_cell? w _ hw355_2)).trans hw355_2),((HB.out.cell (World.block_lt_of_cell? w _ hw355_3)).trans hw355_3),((HB.out.cell (World.block_lt_of_cell? w _ hw355_4)).trans hw355_4)⟩ (fun hHeld=>?_)
         clear hK K
         refine norm_ (a':=?_) ?_ ?_
         rotate_left
         ·show Act.put _ (some 7) _ = _
          simp only [Act.put,zx,zy,zz,i64_w,i32_w]
          rfl
         refine one_ (i:=8) (N:=some 6) #[true,true,true,true,true,true,true,true,true,true,false,false] rfl rfl (one_of HT_.out (by kernel_rfl)) (by decide) (fun K hK=>?_)
         refine box_step ?hg (N:=6) ?hd (cs:=#[.int .i64 0,.bool false,.int .i64 0,.int .i64 0,.slice none 0 0]) (t:=104) ?hr ?_;(case hd=>rfl);(case hg=>rfl);(case hr=>first|(go_simp;done)|(go_simp;rfl))
         intro gb356 hg w10 hbox hb
         have n0_:=zm (zb (g:=gb357) (by (with_reducible repeat first|apply zd|apply ze|apply za);exact BK357.out) hb)
         have n1_:=zm (below_step (by repeat (first|(with_reducible first|exact HB.out|apply zA|apply zD|apply zE|refine zS ?_ GE357.out)|exact HB.out)) hb)
         have n2_:=zm (hbox)
         have n3_:=zm ((by rw [hg];exact (below_size (by repeat (first|(with_reducible first|exact HB.out|apply zA|apply zD|apply zE|refine zS ?_ GE357.out)|exact HB.out))) : w.heap.size ≤ gb356))
         have n4_:=zm ((by rw [hg];exact (below_size (by repeat (first|(with_reducible first|exact HB.out|apply zA|apply zD|apply zE|refine zS ?_ GE357.out)|exact HB.out))) : w.heap.size ≤ gb356))
         have n5_:=zm ((by rw [hg];exact Nat.ne_of_lt (blk_lt (g:=gb357) (by (with_reducible repeat first|apply zd|apply ze|apply za);exact BK357.out)) : gb357 ≠ gb356))
         have n6_:=zm ((by rw [hg];exact Nat.ne_of_gt (blk_lt (g:=gb357) (by (with_reducible repeat first|apply zd|apply ze|apply za);exact BK357.out)) : gb356 ≠ gb357))
         clear BK357 HB
         have BK357:=n0_
         have HB:=n1_
         have BK356:=n2_
         have GW356:=n3_
         have GE356:=n4_
         have NB357_356:=n5_
         have NB356_357:=n6_
         clear n0_ n1_ n2_ n3_ n4_ n5_ n6_ hb hbox hg
         refine hK.out _ _ ⟨((HB.out.cell (World.block_lt_of_cell? w _ hw354_0)).trans hw354_0),((HB.out.cell (World.block_lt_of_cell? w _ hw354_1)).trans hw354_1),((HB.out.cell (World.block_lt_of_cell? w _ hw354_2)).trans hw354_2),((HB.out.cell (World.block_lt_of_cell? w _ hw354_3)).trans hw354_3),((HB.out.cell (World.block_lt_of_cell? w _ hw354_4)).trans hw354_4),((HB.out.cell (World.block_lt_of_cell? w _ hw355_0)).trans hw355_0),((HB.out.cell (World.block_lt_of_cell? w _ hw355_1)).trans hw355_1),((HB.out.cell (World.block_lt_of_cell? w _ hw355_2)).trans hw355_2),((HB.out.cell (World.block_lt_of_cell? w _ hw355_3)).trans hw355_3),((HB.out.cell (World.block_lt_of_cell? w _ hw355_4)).trans hw355_4)⟩ (fun hHeld=>?_)
         clear hK K
         refine norm_ (a':=?_) ?_ ?_
         rotate_left
         ·show Act.put _ (some 6) _ = _
          simp only [Act.put,zx,zy,zz,i64_w,i32_w]
          rfl
         exact norm_ (by simp only [putAll,Act.put,zx,zy,zz]) (hCont (gb356,gb357) _ ⟨hHeld,(by (with_reducible repeat first|apply zd|apply ze|apply za);exact BK356.out),(by (with_reducible repeat first|apply zd|apply ze|apply za);exact BK357.out),GW356.out,GE356.out,NB357_356.out,NB356_357.out,GW357.out,GE357.out,(by repeat (first|(with_reducible first|exact HB.out|apply zA|apply zD|apply zE|refine zS ?_ GE357.out|refine zS ?_ GE356.out)|exact HB.out))⟩)
       rintro ⟨gb356,gb357⟩ w11 ⟨hS_,h0_,h1_,h2_,h3_,h4_,h5_,h6_,h7_,h8_⟩
       have n0_ : Aside0 (w11.heap[gb356]? = some (.cells #[.int .i64 0,.bool false,.int .i64 0,.int .i64 0,.slice none 0 0] 104 (0,0))):=⟨h0_⟩
       have n1_ : Aside0 (w11.heap[gb357]? = some (.cells #[.int .i64 0,.bool false,.int .i64 0,.int .i64 0,.slice none 0 0] 104 (0,0))):=⟨h1_⟩
       have n2_ : Aside0 (w.heap.size ≤ gb356):=⟨h2_⟩
       have n3_ : Aside0 (w.heap.size ≤ gb356):=⟨h3_⟩
       have n4_ : Aside0 (gb357 ≠ gb356):=⟨h4_⟩
       have n5_ : Aside0 (gb356 ≠ gb357):=⟨h5_⟩
       have n6_ : Aside0 (w.heap.size ≤ gb357):=⟨h6_⟩
       have n7_ : Aside0 (w.heap.size ≤ gb357):=⟨h7_⟩
       have n8_ : Aside0 (Below w.heap.size w w11):=⟨h8_⟩
       clear HB h0_ h1_ h2_ h3_ h4_ h5_ h6_ h7_ h8_
       have BK356:=n0_
       have BK357:=n1_
       have GW356:=n2_
       have GE356:=n3_
       have NB357_356:=n4_
       have NB356_357:=n5_
       have GW357:=n6_
       have GE357:=n7_
       have HB:=n8_
       clear n0_ n1_ n2_ n3_ n4_ n5_ n6_ n7_ n8_
       have hHeld : w11.cell? (ad354.add ((x5_1).toNat * 5)) = some (.int .i64 ((rd_T104 l0 x5_1).f0)) ∧ w11.cell? ⟨(ad354.add ((x5_1).toNat * 5)).block,(ad354.add ((x5_1).toNat * 5)).off + 1,none⟩ = some (.bool ((rd_T104 l0 x5_1).f1)) ∧ w11.cell? ⟨(ad354.add ((x5_1).toNat * 5)).block,(ad354.add ((x5_1).toNat * 5)).off + 2,none⟩ = some (.int .i64 ((rd_T104 l0 x5_1).f2)) ∧ w11.cell? ⟨(ad354.add ((x5_1).toNat * 5)).block,(ad354.add ((x5_1).toNat * 5)).off + 3,none⟩ = some (.int .i64 ((rd_T104 l0 x5_1).f3)) ∧ w11.cell? ⟨(ad354.add ((x5_1).toNat * 5)).block,(ad354.add ((x5_1).toNat * 5)).off + 4,none⟩ = some (.slice A354_4 ((rd_T104 l0 x5_1).f4).length c354_4) ∧ w11.cell? (ad355.add ((x5_1).toNat * 5)) = some (.int .i64 ((rd_T104 l1 x5_1).f0)) ∧ w11.cell? ⟨(ad355.add ((x5_1).toNat * 5)).block,(ad355.add ((x5_1).toNat * 5)).off + 1,none⟩ = some (.bool ((rd_T104 l1 x5_1).f1)) ∧ w11.cell? ⟨(ad355.add ((x5_1).toNat * 5)).block,(ad355.add ((x5_1).toNat * 5)).off + 2,none⟩ = some (.int .i64 ((rd_T104 l1 x5_1).f2)) ∧ w11.cell? ⟨(ad355.add ((x5_1).toNat * 5)).block,(ad355.add ((x5_1).toNat * 5)).off + 3,none⟩ = some (.int .i64 ((rd_T104 l1 x5_1).f3)) ∧ w11.cell? ⟨(ad355.add ((x5_1).toNat * 5)).block,(ad355.add ((x5_1).toNat * 5)).off + 4,none⟩ = some (.slice A355_4 ((rd_T104 l1 x5_1).f4).length c355_4):=hS_
       refine norm_ (a':=?_) ?_ ?_
       rotate_left
       ·simp only [putAll,Act.put,zx,zy,zz]
        rfl
       refine one_ (i:=10) (N:=none) #[true,true,true,true,true,true,true,true,true,true,true,false] rfl rfl (one_of HT_.out (by kernel_rfl)) (by decide) (fun K hK=>?_)
       have hs12:=zc BK356.out 0 (.int .i64 0) rfl
       have hfs12:=zf BK356.out 0
       have hns12_1:=NB357_356.out
       have hms12_1:=NB356_357.out
       have hs13:=zc BK356.out 1 (.bool false) rfl
       have hfs13:=zf BK356.out 1
       have hns13_1:=NB357_356.out
       have hms13_1:=NB356_357.out
       have hs14:=zc BK356.out 2 (.int .i64 0) rfl
       have hfs14:=zf BK356.out 2
       have hns14_1:=NB357_356.out
       have hms14_1:=NB356_357.out
       have hs15:=zc BK356.out 3 (.int .i64 0) rfl
       have hfs15:=zf BK356.out 3
       have hns15_1:=NB357_356.out
       have hms15_1:=NB356_357.out
       have hs16:=zc BK356.out 4 (.slice none 0 0) rfl
       have hfs16:=zf BK356.out 4
       have hns16_1:=NB357_356.out
       have hms16_1:=NB356_357.out
       refine skip_ (w1:=?_) (by rfl) rfl ?_ ?_
       rotate_left
       ·go_simp
        rfl
       refine hK.out _ _ ⟨((cell_far (p:=⟨gb356,_,none⟩) (zl hw354_0 GW356.out) _).trans (((cell_far (p:=⟨gb356,_,none⟩) (zl hw354_0 GW356.out) _).trans (((cell_far (p:=⟨gb356,_,none⟩) (zl hw354_0 GW356.out) _).trans (((cell_far (p:=⟨gb356,_,none⟩) (zl hw354_0 GW356.out) _).trans (((cell_far (p:=⟨gb356,_,none⟩) (zl hw354_0 GW356.out) _).trans (hHeld.1)))))))))),((cell_far (p:=⟨gb356,_,none⟩) (zl hw354_1 GW356.out) _).trans (((cell_far (p:=⟨gb356,_,none⟩) (zl hw354_1 GW356.out) _).trans (((cell_far (p:=⟨gb356,_,none⟩) (zl hw354_1 GW356.out) _).trans (((cell_far (p:=⟨gb356,_,none⟩) (zl hw354_1 GW356.out) _).trans (((cell_far (p:=⟨gb356,_,none⟩) (zl hw354_1 GW356.out) _).trans (hHeld.2.1)))))))))),((cell_far (p:=⟨gb356,_,none⟩) (zl hw354_2 GW356.out) _).trans (((cell_far (p:=⟨gb356,_,none⟩) (zl hw354_2 GW356.out) _).trans (((cell_far (p:=⟨gb356,_,none⟩) (zl hw354_2 GW356.out) _).trans (((cell_far (p:=⟨gb356,_,none⟩) (zl hw354_2 GW356.out) _).trans (((cell_far (p:=⟨gb356,_,none⟩) (zl hw354_2 GW356.out) _).trans (hHeld.2.2.1)))))))))),((cell_far (p:=⟨gb356,_,none⟩) (zl hw354_3 GW356.out) _).trans (((cell_far (p:=⟨gb356,_,none⟩) (zl hw354_3 GW356.out) _).trans (((cell_far (p:=⟨gb356,_,none⟩) (zl hw354_3 GW356.out) _).trans (((cell_far (p:=⟨gb356,_,none⟩) (zl hw354_3 GW356.out) _).trans (((cell_far (p:=⟨gb356,_,none⟩) (zl hw354_3 GW356.out) _).trans (hHeld.2.2.2.1)))))))))),((cell_far (p:=⟨gb356,_,none⟩) (zl hw354_4 GW356.out) _).trans (((cell_far (p:=⟨gb356,_,none⟩) (zl hw354_4 GW356.out) _).trans (((cell_far (p:=⟨gb356,_,none⟩) (zl hw354_4 GW356.out) _).trans (((cell_far (p:=⟨gb356,_,none⟩) (zl hw354_4 GW356.out) _).trans (((cell_far (p:=⟨gb356,_,none⟩) (zl hw354_4 GW356.out) _).trans (hHeld.2.2.2.2.1)))))))))),((cell_far (p:=⟨gb356,_,none⟩) (zl hw355_0 GW356.out) _).trans (((cell_far (p:=⟨gb356,_,none⟩) (zl hw355_0 GW356.out) _).trans (((cell_far (p:=⟨gb356,_,none⟩) (zl hw355_0 GW356.out) _).trans (((cell_far (p:=⟨gb356,_,none⟩) (zl hw355_0 GW356.out) _).trans (((cell_far (p:=⟨gb356,_,none⟩) (zl hw355_0 GW356.out) _).trans (hHeld.2.2.2.2.2.1)))))))))),((cell_far (p:=⟨gb356,_,none⟩) (zl hw355_1 GW356.out) _).trans (((cell_far (p:=⟨gb356,_,none⟩) (zl hw355_1 GW356.out) _).trans (((cell_far (p:=⟨gb356,_,none⟩) (zl hw355_1 GW356.out) _).trans (((cell_far (p:=⟨gb356,_,none⟩) (zl hw355_1 GW356.out) _).trans (((cell_far (p:=⟨gb356,_,none⟩) (zl hw355_1 GW356.out) _).trans (hHeld.2.2.2.2.2.2.1)))))))))),((cell_far (p:=⟨gb356,_,none⟩) (zl hw355_2 GW356.out) _).trans (((cell_far (p:=⟨gb356,_,none⟩) (zl hw355_2 GW356.out) _).trans (((cell_far (p:=⟨gb356,_,none⟩) (zl hw355_2 GW356.out) _).trans (((cell_far (p:=⟨gb356,_,none⟩) (zl hw355_2 GW356.out) _).trans (((cell_far (p:=⟨gb356,_,none⟩) (zl hw355_2 GW356.out) _).trans (hHeld.2.2.2.2.2.2.2.1)))))))))),((cell_far (p:=⟨gb356,_,none⟩) (zl hw355_3 GW356.out) _).trans (((cell_far (p:=⟨gb356,_,none⟩) (zl hw355_3 GW356.out) _).trans (((cell_far (p:=⟨gb356,_,none⟩) (zl hw355_3 GW356.out) _).trans (((cell_far (p:=⟨gb356,_,none⟩) (zl hw355_3 GW356.out) _).trans (((cell_far (p:=⟨gb356,_,none⟩) (zl hw355_3 GW356.out) _).trans (hHeld.2.2.2.2.2.2.2.2.1)))))))))),((cell_far (p:=⟨gb356,_,none⟩) (zl hw355_4 GW356.out) _).trans (((cell_far (p:=⟨gb356,_,none⟩) (zl hw355_4 GW356.out) _).trans (((cell_far (p:=⟨gb356,_,none⟩) (zl hw355_4 GW356.out) _).trans (((cell_far (p:=⟨gb356,_,none⟩) (zl hw355_4 GW356.out) _).trans (((cell_far (p:=⟨gb356,_,none⟩) (zl hw355_4 GW356.out) _).trans (hHeld.2.2.2.2.2.2.2.2.2))))))))))⟩ (fun hHeld=>?_)
       clear hK K
       refine one_ (i:=11) (N:=none) #[true,true,true,true,true,true,true,true,true,true,true,true] rfl rfl (one_of HT_.out (by kernel_rfl)) (by decide) (fun K hK=>?_)
       have hs17:=zc BK357.out 0 (.int .i64 0) rfl
       have hfs17:=zf BK357.out 0
       have hns17_0:=NB356_357.out
       have hms17_0:=NB357_356.out
       have hs18:=zc BK357.out 1 (.bool false) rfl
       have hfs18:=zf BK357.out 1
       have hns18_0:=NB356_357.out
       have hms18_0:=NB357_356.out
       have hs19:=zc BK357.out 2 (.int .i64 0) rfl
       have hfs19:=zf BK357.out 2
       have hns19_0:=NB356_357.out
       have hms19_0:=NB357_356.out
       have hs20:=zc BK357.out 3 (.int .i64 0) rfl
       have hfs20:=zf BK357.out 3
       have hns20_0:=NB356_357.out
       have hms20_0:=NB357_356.out
       have hs21:=zc BK357.out 4 (.slice none 0 0) rfl
       have hfs21:=zf BK357.out 4
       have hns21_0:=NB356_357.out
       have hms21_0:=NB357_356.out
       refine skip_ (w1:=?_) (by rfl) rfl ?_ ?_
       rotate_left
       ·go_simp
        rfl
       refine hK.out _ _ ⟨((cell_far (p:=⟨gb357,_,none⟩) (zl hw354_0 GW357.out) _).trans (((cell_far (p:=⟨gb357,_,none⟩) (zl hw354_0 GW357.out) _).trans (((cell_far (p:=⟨gb357,_,none⟩) (zl hw354_0 GW357.out) _).trans (((cell_far (p:=⟨gb357,_,none⟩) (zl hw354_0 GW357.out) _).trans (((cell_far (p:=⟨gb357,_,none⟩) (zl hw354_0 GW357.out) _).trans (hHeld.1)))))))))),((cell_far (p:=⟨gb357,_,none⟩) (zl hw354_1 GW357.out) _).trans (((cell_far (p:=⟨gb357,_,none⟩) (zl hw354_1 GW357.out) _).trans (((cell_far (p:=⟨gb357,_,none⟩) (zl hw354_1 GW357.out) _).trans (((cell_far (p:=⟨gb357,_,none⟩) (zl hw354_1 GW357.out) _).trans (((cell_far (p:=⟨gb357,_,none⟩) (zl hw354_1 GW357.out) _).trans (hHeld.2.1)))))))))),((cell_far (p:=⟨gb357,_,none⟩) (zl hw354_2 GW357.out) _).trans (((cell_far (p:=⟨gb357,_,none⟩) (zl hw354_2 GW357.out) _).trans (((cell_far (p:=⟨gb357,_,none⟩) (zl hw354_2 GW357.out) _).trans (((cell_far (p:=⟨gb357,_,none⟩) (zl hw354_2 GW357.out) _).trans (((cell_far (p:=⟨gb357,_,none⟩) (zl hw354_2 GW357.out) _).trans (hHeld.2.2.1)))))))))),((cell_far (p:=⟨gb357,_,none⟩) (zl hw354_3 GW357.out) _).trans (((cell_far (p:=⟨gb357,_,none⟩) (zl hw354_3 GW357.out) _).trans (((cell_far (p:=⟨gb357,_,none⟩) (zl hw354_3 GW357.out) _).trans (((cell_far (p:=⟨gb357,_,none⟩) (zl hw354_3 GW357.out) _).trans (((cell_far (p:=⟨gb357,_,none⟩) (zl hw354_3 GW357.out) _).trans (hHeld.2.2.2.1)))))))))),((cell_far (p:=⟨gb357,_,none⟩) (zl hw354_4 GW357.out) _).trans (((cell_far (p:=⟨gb357,_,none⟩) (zl hw354_4 GW357.out) _).trans (((cell_far (p:=⟨gb357,_,none⟩) (zl hw354_4 GW357.out) _).trans (((cell_far (p:=⟨gb357,_,none⟩) (zl hw354_4 GW357.out) _).trans (((cell_far (p:=⟨gb357,_,none⟩) (zl hw354_4 GW357.out) _).trans (hHeld.2.2.2.2.1)))))))))),((cell_far (p:=⟨gb357,_,none⟩) (zl hw355_0 GW357.out) _).trans (((cell_far (p:=⟨gb357,_,none⟩) (zl hw355_0 GW357.out) _).trans (((cell_far (p:=⟨gb357,_,none⟩) (zl hw355_0 GW357.out) _).trans (((cell_far (p:=⟨gb357,_,none⟩) (zl hw355_0 GW357.out) _).trans (((cell_far (p:=⟨gb357,_,none⟩) (zl hw355_0 GW357.out) _).trans (hHeld.2.2.2.2.2.1)))))))))),((cell_far (p:=⟨gb357,_,none⟩) (zl hw355_1 GW357.out) _).trans (((cell_far (p:=⟨gb357,_,none⟩) (zl hw355_1 GW357.out) _).trans (((cell_far (p:=⟨gb357,_,none⟩) (zl hw355_1 GW357.out) _).trans (((cell_far (p:=⟨gb357,_,none⟩) (zl hw355_1 GW357.out) _).trans (((cell_far (p:=⟨gb357,_,none⟩) (zl hw355_1 GW357.out) _).trans (hHeld.2.2.2.2.2.2.1)))))))))),((cell_far (p:=⟨gb357,_,none⟩) (zl hw355_2 GW357.out) _).trans (((cell_far (p:=⟨gb357,_,none⟩) (zl hw355_2 GW357.out) _).trans (((cell_far (p:=⟨gb357,_,none⟩) (zl hw355_2 GW357.out) _).trans (((cell_far (p:=⟨gb357,_,none⟩) (zl hw355_2 GW357.out) _).trans (((cell_far (p:=⟨gb357,_,none⟩) (zl hw355_2 GW357.out) _).trans (hHeld.2.2.2.2.2.2.2.1)))))))))),((cell_far (p:=⟨gb357,_,none⟩) (zl hw355_3 GW357.out) _).trans (((cell_far (p:=⟨gb357,_,none⟩) (zl hw355_3 GW357.out) _).trans (((cell_far (p:=⟨gb357,_,none⟩) (zl hw355_3 GW357.out) _).trans (((cell_far (p:=⟨gb357,_,none⟩) (zl hw355_3 GW357.out) _).trans (((cell_far (p:=⟨gb357,_,none⟩) (zl hw355_3 GW357.out) _).trans (hHeld.2.2.2.2.2.2.2.2.1)))))))))),((cell_far (p:=⟨gb357,_,none⟩) (zl hw355_4 GW357.out) _).trans (((cell_far (p:=⟨gb357,_,none⟩) (zl hw355_4 GW357.out) _).trans (((cell_far (p:=⟨gb357,_,none⟩) (zl hw355_4 GW357.out) _).trans (((cell_far (p:=⟨gb357,_,none⟩) (zl hw355_4 GW357.out) _).trans (((cell_far (p:=⟨gb357,_,none⟩) (zl hw355_4 GW357.out) _).trans (hHeld.2.2.2.2.2.2.2.2.2))))))))))⟩ (fun hHeld=>?_)
       clear hK K
       refine done_ (done_of HT_.out (by kernel_rfl)) ?_
       go_upto_region 7 with (fail)
       go_cut [62] (fun v62 wc=>∃ (kq : Nat) (x62_6 : Bool),v62 = .bool x62_6 ∧ Aside0 (metrolabref18_SameFrames.j1 kq l0 l1 x5_1 x62_6 ((rd_T104 l0 x5_1).f0) ((rd_T104 l0 x5_1).f1) ((rd_T104 l0 x5_1).f2) ((rd_T104 l0 x5_1).f3) ((rd_T104 l0 x5_1).f4) ((rd_T104 l1 x5_1).f0) ((rd_T104 l1 x5_1).f1) ((rd_T104 l1 x5_1).f2) ((rd_T104 l1 x5_1).f3) ((rd_T104 l1 x5_1).f4) = some r) ∧ Aside0 (kq ≤ k1) ∧ Aside0 (wc.heap[gb356]? = some (.cells #[.int .i64 ((rd_T104 l0 x5_1).f0),.bool ((rd_T104 l0 x5_1).f1),.int .i64 ((rd_T104 l0 x5_1).f2),.int .i64 ((rd_T104 l0 x5_1).f3),(.slice A354_4 ((rd_T104 l0 x5_1).f4).length c354_4)] 104 (0,0))) ∧ Aside0 (wc.heap[gb357]? = some (.cells #[.int .i64 ((rd_T104 l1 x5_1).f0),.bool ((rd_T104 l1 x5_1).f1),.int .i64 ((rd_T104 l1 x5_1).f2),.int .i64 ((rd_T104 l1 x5_1).f3),(.slice A355_4 ((rd_T104 l1 x5_1).f4).length c355_4)] 104 (0,0))) ∧ Aside0 (Below w.heap.size w wc))
       case first =>
        have H:=HC7.out
        clear HC7
        by_cases c22 : ((rd_T104 l0 x5_1).f0) = ((rd_T104 l1 x5_1).f0)
        ·rw [if_pos c22] at H
         have c22b0 : (((rd_T104 l0 x5_1).f0) == ((rd_T104 l1 x5_1).f0)) = true:=beq_iff_eq.mpr c22
         have c22b1 : (((rd_T104 l0 x5_1).f0) != ((rd_T104 l1 x5_1).f0)) = false:=bne_eq_false_iff_eq.mpr c22
         clear c22
         (first|rw [c22b0]|(simp only [i64_w,i32_w];rw [c22b0])|(rw [c22b2];try simp only [Bool.not_true,Bool.not_false])|skip)
         by_cases c23 : (((rd_T104 l0 x5_1).f1) != ((rd_T104 l1 x5_1).f1)) = true
         ·rw [if_pos c23] at H
          have c23b0 : (((rd_T104 l0 x5_1).f1) != ((rd_T104 l1 x5_1).f1)) = true:=c23
          (try (have c23b1 : decide (((rd_T104 l0 x5_1).f1) = ((rd_T104 l1 x5_1).f1)) = false:=by simpa using c23))
          (try (have c23b2 : (((rd_T104 l0 x5_1).f1) == ((rd_T104 l1 x5_1).f1)) = false:=by simpa using c23))
          (try (have c23b3 : ¬ (((rd_T104 l0 x5_1).f1) = ((rd_T104 l1 x5_1).f1)):=by simpa using c23))
          clear c23
          have H':=zm H
          clear H
          have hnb24:=NB356_357.out
          have hnc24:=NB357_356.out
          have hcz25_0:=zc BK356.out 0 (.int .i64 0) rfl
          have hcz25_1:=zc BK356.out 1 (.bool false) rfl
          have hcz25_2:=zc BK356.out 2 (.int .i64 0) rfl
          have hcz25_3:=zc BK356.out 3 (.int .i64 0) rfl
          have hcz25_4:=zc BK356.out 4 (.slice none 0 0) rfl
          have hfz25_0:=zf BK356.out 0
          have hfz25_1:=zf BK356.out 1
          have hfz25_2:=zf BK356.out 2
          have hfz25_3:=zf BK356.out 3
          have hfz25_4:=zf BK356.out 4
          have hcz26_0:=zc BK357.out 0 (.int .i64 0) rfl
          have hcz26_1:=zc BK357.out 1 (.bool false) rfl
          have hcz26_2:=zc BK357.out 2 (.int .i64 0) rfl
          have hcz26_3:=zc BK357.out 3 (.int .i64 0) rfl
          have hcz26_4:=zc BK357.out 4 (.slice none 0 0) rfl
          have hfz26_0:=zf BK357.out 0
          have hfz26_1:=zf BK357.out 1
          have hfz26_2:=zf BK357.out 2
          have hfz26_3:=zf BK357.out 3
          have hfz26_4:=zf BK357.out 4
          go_wp2
          go_meet
          case rel=>exact ⟨_,(true),(by first|rfl|(simp;done)|(simp [*];done)),H',⟨by have:=HK1.out;first|omega|exact Nat.le_refl _⟩,⟨by (with_reducible repeat first|apply zd|apply ze|apply za);refine blk_far ?_ NB356_357.out _;(with_reducible repeat first|apply zd|apply ze|apply za);refine blk_far ?_ NB356_357.out _;(with_reducible repeat first|apply zd|apply ze|apply za);refine blk_far ?_ NB356_357.out _;(with_reducible repeat first|apply zd|apply ze|apply za);refine blk_far ?_ NB356_357.out _;(with_reducible repeat first|apply zd|apply ze|apply za);refine blk_far ?_ NB356_357.out _;(with_reducible repeat first|apply zd|apply ze|apply za);refine blk_put (cs:=#[.int .i64 ((rd_T104 l0 x5_1).f0),.bool ((rd_T104 l0 x5_1).f1),.int .i64 ((rd_T104 l0 x5_1).f2),.int .i64 ((rd_T104 l0 x5_1).f3),.slice none 0 0]) ?_ 4 _ rfl;(with_reducible repeat first|apply zd|apply ze|apply za);refine blk_put (cs:=#[.int .i64 ((rd_T104 l0 x5_1).f0),.bool ((rd_T104 l0 x5_1).f1),.int .i64 ((rd_T104 l0 x5_1).f2),.int .i64 0,.slice none 0 0]) ?_ 3 _ rfl;(with_reducible repeat first|apply zd|apply ze|apply za);refine blk_put (cs:=#[.int .i64 ((rd_T104 l0 x5_1).f0),.bool ((rd_T104 l0 x5_1).f1),.int .i64 0,.int .i64 0,.slice none 0 0]) ?_ 2 _ rfl;(with_reducible repeat first|apply zd|apply ze|apply za);refine blk_put (cs:=#[.int .i64 ((rd_T104 l0 x5_1).f0),.bool false,.int .i64 0,.int .i64 0,.slice none 0 0]) ?_ 1 _ rfl;(with_reducible repeat first|apply zd|apply ze|apply za);refine blk_put (cs:=#[.int .i64 0,.bool false,.int .i64 0,.int .i64 0,.slice none 0 0]) ?_ 0 _ rfl;(with_reducible repeat first|apply zd|apply ze|apply za);exact BK356.out⟩,⟨by (with_reducible repeat first|apply zd|apply ze|apply za);refine blk_put (cs:=#[.int .i64 ((rd_T104 l1 x5_1).f0),.bool ((rd_T104 l1 x5_1).f1),.int .i64 ((rd_T104 l1 x5_1).f2),.int .i64 ((rd_T104 l1 x5_1).f3),.slice none 0 0]) ?_ 4 _ rfl;(with_reducible repeat first|apply zd|apply ze|apply za);refine blk_put (cs:=#[.int .i64 ((rd_T104 l1 x5_1).f0),.bool ((rd_T104 l1 x5_1).f1),.int .i64 ((rd_T104 l1 x5_1).f2),.int .i64 0,.slice none 0 0]) ?_ 3 _ rfl;(with_reducible repeat first|apply zd|apply ze|apply za);refine blk_put (cs:=#[.int .i64 ((rd_T104 l1 x5_1).f0),.bool ((rd_T104 l1 x5_1).f1),.int .i64 0,.int .i64 0,.slice none 0 0]) ?_ 2 _ rfl;(with_reducible repeat first|apply zd|apply ze|apply za);refine blk_put (cs:=#[.int .i64 ((rd_T104 l1 x5_1).f0),.bool false,.int .i64 0,.int .i64 0,.slice none 0 0]) ?_ 1 _ rfl;(with_reducible repeat first|apply zd|apply ze|apply za);refine blk_put (cs:=#[.int .i64 0,.bool false,.int .i64 0,.int .i64 0,.slice none 0 0]) ?_ 0 _ rfl;(with_reducible repeat first|apply zd|apply ze|apply za);refine blk_far ?_ NB357_356.out _;(with_reducible repeat first|apply zd|apply ze|apply za);refine blk_far ?_ NB357_356.out _;(with_reducible repeat first|apply zd|apply ze|apply za);refine blk_far ?_ NB357_356.out _;(with_reducible repeat first|apply zd|apply ze|apply za);refine blk_far ?_ NB357_356.out _;(with_reducible repeat first|apply zd|apply ze|apply za);refine blk_far ?_ NB357_356.out _;(with_reducible repeat first|apply zd|apply ze|apply za);exact BK357.out⟩,⟨by repeat (first|(with_reducible first|exact HB.out|apply zA|apply zD|apply zE|refine zS ?_ GE356.out|refine zS ?_ GE357.out)|exact HB.out)⟩⟩
         ·rw [if_neg c23] at H
          have c23b0 : (((rd_T104 l0 x5_1).f1) != ((rd_T104 l1 x5_1).f1)) = false:=by simpa using c23
          (try (have c23b1 : decide (((rd_T104 l0 x5_1).f1) = ((rd_T104 l1 x5_1).f1)) = true:=by simpa using c23))
          (try (have c23b2 : (((rd_T104 l0 x5_1).f1) == ((rd_T104 l1 x5_1).f1)) = true:=by simpa using c23))
          clear c23
          by_cases c27 : ((rd_T104 l0 x5_1).f2) = ((rd_T104 l1 x5_1).f2)
          ·rw [if_pos c27] at H
           have c27b0 : (((rd_T104 l0 x5_1).f2) == ((rd_T104 l1 x5_1).f2)) = true:=beq_iff_eq.mpr c27
           have c27b1 : (((rd_T104 l0 x5_1).f2) != ((rd_T104 l1 x5_1).f2)) = false:=bne_eq_false_iff_eq.mpr c27
           clear c27
           by_cases c28 : ((rd_T104 l0 x5_1).f3) = ((rd_T104 l1 x5_1).f3)
           ·rw [if_pos c28] at H
            have c28b0 : (((rd_T104 l0 x5_1).f3) == ((rd_T104 l1 x5_1).f3)) = true:=beq_iff_eq.mpr c28
            have c28b1 : (((rd_T104 l0 x5_1).f3) != ((rd_T104 l1 x5_1).f3)) = false:=bne_eq_false_iff_eq.mpr c28
            clear c28
            have H':=zm H
            clear H
            have hnb29:=NB356_357.out
            have hnc29:=NB357_356.out
            have hcz30_0:=zc BK356.out 0 (.int .i64 0) rfl
            have hcz30_1:=zc BK356.out 1 (.bool false) rfl
            have hcz30_2:=zc BK356.out 2 (.int .i64 0) rfl
            have hcz30_3:=zc BK356.out 3 (.int .i64 0) rfl
            have hcz30_4:=zc BK356.out 4 (.slice none 0 0) rfl
            have hfz30_0:=zf BK356.out 0
            have hfz30_1:=zf BK356.out 1
            have hfz30_2:=zf BK356.out 2
            have hfz30_3:=zf BK356.out 3
            have hfz30_4:=zf BK356.out 4
            have hcz31_0:=zc BK357.out 0 (.int .i64 0) rfl
            have hcz31_1:=zc BK357.out 1 (.bool false) rfl
            have hcz31_2:=zc BK357.out 2 (.int .i64 0) rfl
            have hcz31_3:=zc BK357.out 3 (.int .i64 0) rfl
            have hcz31_4:=zc BK357.out 4 (.slice none 0 0) rfl
            have hfz31_0:=zf BK357.out 0
            have hfz31_1:=zf BK357.out 1
            have hfz31_2:=zf BK357.out 2
            have hfz31_3:=zf BK357.out 3
            have hfz31_4:=zf BK357.out 4
            go_wp2
            go_meet
            case rel=>exact ⟨_,(((((rd_T104 l0 x5_1).f4).length : Int) != (((rd_T104 l1 x5_1).f4).length : Int))),(by first|rfl|(simp;done)|(simp [*];done)),H',⟨by have:=HK1.out;first|omega|exact Nat.le_refl _⟩,⟨by (with_reducible repeat first|apply zd|apply ze|apply za);refine blk_far ?_ NB356_357.out _;(with_reducible repeat first|apply zd|apply ze|apply za);refine blk_far ?_ NB356_357.out _;(with_reducible repeat first|apply zd|apply ze|apply za);refine blk_far ?_ NB356_357.out _;(with_reducible repeat first|apply zd|apply ze|apply za);refine blk_far ?_ NB356_357.out _;(with_reducible repeat first|apply zd|apply ze|apply za);refine blk_far ?_ NB356_357.out _;(with_reducible repeat first|apply zd|apply ze|apply za);refine blk_put (cs:=#[.int .i64 ((rd_T104 l0 x5_1).f0),.bool ((rd_T104 l0 x5_1).f1),.int .i64 ((rd_T104 l0 x5_1).f2),.int .i64 ((rd_T104 l0 x5_1).f3),.slice none 0 0]) ?_ 4 _ rfl;(with_reducible repeat first|apply zd|apply ze|apply za);refine blk_put (cs:=#[.int .i64 ((rd_T104 l0 x5_1).f0),.bool ((rd_T104 l0 x5_1).f1),.int .i64 ((rd_T104 l0 x5_1).f2),.int .i64 0,.slice none 0 0]) ?_ 3 _ rfl;(with_reducible repeat first|apply zd|apply ze|apply za);refine blk_put (cs:=#[.int .i64 ((rd_T104 l0 x5_1).f0),.bool ((rd_T104 l0 x5_1).f1),.int .i64 0,.int .i64 0,.slice none 0 0]) ?_ 2 _ rfl;(with_reducible repeat first|apply zd|apply ze|apply za);refine blk_put (cs:=#[.int .i64 ((rd_T104 l0 x5_1).f0),.bool false,.int .i64 0,.int .i64 0,.slice none 0 0]) ?_ 1 _ rfl;(with_reducible repeat first|apply zd|apply ze|apply za);refine blk_put (cs:=#[.int .i64 0,.bool false,.int .i64 0,.int .i64 0,.slice none 0 0]) ?_ 0 _ rfl;(with_reducible repeat first|apply zd|apply ze|apply za);exact BK356.out⟩,⟨by (with_reducible repeat first|apply zd|apply ze|apply za);refine blk_put (cs:=#[.int .i64 ((rd_T104 l1 x5_1).f0),.bool ((rd_T104 l1 x5_1).f1),.int .i64 ((rd_T104 l1 x5_1).f2),.int .i64 ((rd_T104 l1 x5_1).f3),.slice none 0 0]) ?_ 4 _ rfl;(with_reducible repeat first|apply zd|apply ze|apply za);refine blk_put (cs:=#[.int .i64 ((rd_T104 l1 x5_1).f0),.bool ((rd_T104 l1 x5_1).f1),.int .i64 ((rd_T104 l1 x5_1).f2),.int .i64 0,.slice none 0 0]) ?_ 3 _ rfl;(with_reducible repeat first|apply zd|apply ze|apply za);refine blk_put (cs:=#[.int .i64 ((rd_T104 l1 x5_1).f0),.bool ((rd_T104 l1 x5_1).f1),.int .i64 0,.int .i64 0,.slice none 0 0]) ?_ 2 _ rfl;(with_reducible repeat first|apply zd|apply ze|apply za);refine blk_put (cs:=#[.int .i64 ((rd_T104 l1 x5_1).f0),.bool false,.int .i64 0,.int .i64 0,.slice none 0 0]) ?_ 1 _ rfl;(with_reducible repeat first|apply zd|apply ze|apply za);refine blk_put (cs:=#[.int .i64 0,.bool false,.int .i64 0,.int .i64 0,.slice none 0 0]) ?_ 0 _ rfl;(with_reducible repeat first|apply zd|apply ze|apply za);refine blk_far ?_ NB357_356.out _;(with_reducible repeat first|apply zd|apply ze|apply za);refine blk_far ?_ NB357_356.out _;(with_reducible repeat first|apply zd|apply ze|apply za);refine blk_far ?_ NB357_356.out _;(with_reducible repeat first|apply zd|apply ze|apply za);refine blk_far ?_ NB357_356.out _;(with_reducible repeat first|apply zd|apply ze|apply za);refine blk_far ?_ NB357_356.out _;(with_reducible repeat first|apply zd|apply ze|apply za);exact BK357.out⟩,⟨by repeat (first|(with_reducible first|exact HB.out|apply zA|apply zD|apply zE|refine zS ?_ GE356.out|refine zS ?_ GE357.out)|exact HB.out)⟩⟩
           ·rw [if_neg c28] at H
            have c28b0 : (((rd_T104 l0 x5_1).f3) == ((rd_T104 l1 x5_1).f3)) = false:=beq_eq_false_iff_ne.mpr c28
            have c28b1 : (((rd_T104 l0 x5_1).f3) != ((rd_T104 l1 x5_1).f3)) = true:=bne_iff_ne.mpr c28
            have H':=zm H
            clear H
            have hnb32:=NB356_357.out
            have hnc32:=NB357_356.out
            have hcz33_0:=zc BK356.out 0 (.int .i64 0) rfl
            have hcz33_1:=zc BK356.out 1 (.bool false) rfl
            have hcz33_2:=zc BK356.out 2 (.int .i64 0) rfl
            have hcz33_3:=zc BK356.out 3 (.int .i64 0) rfl
            have hcz33_4:=zc BK356.out 4 (.slice none 0 0) rfl
            have hfz33_0:=zf BK356.out 0
            have hfz33_1:=zf BK356.out 1
            have hfz33_2:=zf BK356.out 2
            have hfz33_3:=zf BK356.out 3
            have hfz33_4:=zf BK356.out 4
            have hcz34_0:=zc BK357.out 0 (.int .i64 0) rfl
            have hcz34_1:=zc BK357.out 1 (.bool false) rfl
            have hcz34_2:=zc BK357.out 2 (.int .i64 0) rfl
            have hcz34_3:=zc BK357.out 3 (.int .i64 0) rfl
            have hcz34_4:=zc BK357.out 4 (.slice none 0 0) rfl
            have hfz34_0:=zf BK357.out 0
            have hfz34_1:=zf BK357.out 1
            have hfz34_2:=zf BK357.out 2
            have hfz34_3:=zf BK357.out 3
            have hfz34_4:=zf BK357.out 4
            go_wp2
            go_meet
            case rel=>exact ⟨_,(true),(by first|rfl|(simp;done)|(simp [*];done)),H',⟨by have:=HK1.out;first|omega|exact Nat.le_refl _⟩,⟨by (with_reducible repeat first|apply zd|apply ze|apply za);refine blk_far ?_ NB356_357.out _;(with_reducible repeat first|apply zd|apply ze|apply za);refine blk_far ?_ NB356_357.out _;(with_reducible repeat first|apply zd|apply ze|apply za);refine blk_far ?_ NB356_357.out _;(with_reducible repeat first|apply zd|apply ze|apply za);refine blk_far ?_ NB356_357.out _;(with_reducible repeat first|apply zd|apply ze|apply za);refine blk_far ?_ NB356_357.out _;(with_reducible repeat first|apply zd|apply ze|apply za);refine blk_put (cs:=#[.int .i64 ((rd_T104 l0 x5_1).f0),.bool ((rd_T104 l0 x5_1).f1),.int .i64 ((rd_T104 l0 x5_1).f2),.int .i64 ((rd_T104 l0 x5_1).f3),.slice none 0 0]) ?_ 4 _ rfl;(with_reducible repeat first|apply zd|apply ze|apply za);refine blk_put (cs:=#[.int .i64 ((rd_T104 l0 x5_1).f0),.bool ((rd_T104 l0 x5_1).f1),.int .i64 ((rd_T104 l0 x5_1).f2),.int .i64 0,.slice none 0 0]) ?_ 3 _ rfl;(with_reducible repeat first|apply zd|apply ze|apply za);refine blk_put (cs:=#[.int .i64 ((rd_T104 l0 x5_1).f0),.bool ((rd_T104 l0 x5_1).f1),.int .i64 0,.int .i64 0,.slice none 0 0]) ?_ 2 _ rfl;(with_reducible repeat first|apply zd|apply ze|apply za);refine blk_put (cs:=#[.int .i64 ((rd_T104 l0 x5_1).f0),.bool false,.int .i64 0,.int .i64 0,.slice none 0 0]) ?_ 1 _ rfl;(with_reducible repeat first|apply zd|apply ze|apply za);refine blk_put (cs:=#[.int .i64 0,.bool false,.int .i64 0,.int .i64 0,.slice none 0 0]) ?_ 0 _ rfl;(with_reducible repeat first|apply zd|apply ze|apply za);exact BK356.out⟩,⟨by (with_reducible repeat first|apply zd|apply ze|apply za);refine blk_put (cs:=#[.int .i64 ((rd_T104 l1 x5_1).f0),.bool ((rd_T104 l1 x5_1).f1),.int .i64 ((rd_T104 l1 x5_1).f2),.int .i64 ((rd_T104 l1 x5_1).f3),.slice none 0 0]) ?_ 4 _ rfl;(with_reducible repeat first|apply zd|apply ze|apply za);refine blk_put (cs:=#[.int .i64 ((rd_T104 l1 x5_1).f0),.bool ((rd_T104 l1 x5_1).f1),.int .i64 ((rd_T104 l1 x5_1).f2),.int .i64 0,.slice none 0 0]) ?_ 3 _ rfl;(with_reducible repeat first|apply zd|apply ze|apply za);refine blk_put (cs:=#[.int .i64 ((rd_T104 l1 x5_1).f0),.bool ((rd_T104 l1 x5_1).f1),.int .i64 0,.int .i64 0,.slice none 0 0]) ?_ 2 _ rfl;(with_reducible repeat first|apply zd|apply ze|apply za);refine blk_put (cs:=#[.int .i64 ((rd_T104 l1 x5_1).f0),.bool false,.int .i64 0,.int .i64 0,.slice none 0 0]) ?_ 1 _ rfl;(with_reducible repeat first|apply zd|apply ze|apply za);refine blk_put (cs:=#[.int .i64 0,.bool false,.int .i64 0,.int .i64 0,.slice none 0 0]) ?_ 0 _ rfl;(with_reducible repeat first|apply zd|apply ze|apply za);refine blk_far ?_ NB357_356.out _;(with_reducible repeat first|apply zd|apply ze|apply za);refine blk_far ?_ NB357_356.out _;(with_reducible repeat first|apply zd|apply ze|apply za);refine blk_far ?_ NB357_356.out _;(with_reducible repeat first|apply zd|apply ze|apply za);refine blk_far ?_ NB357_356.out _;(with_reducible repeat first|apply zd|apply ze|apply za);refine blk_far ?_ NB357_356.out _;(with_reducible repeat first|apply zd|apply ze|apply za);exact BK357.out⟩,⟨by repeat (first|(with_reducible first|exact HB.out|apply zA|apply zD|apply zE|refine zS ?_ GE356.out|refine zS ?_ GE357.out)|exact HB.out)⟩⟩
          ·rw [if_neg c27] at H
           have c27b0 : (((rd_T104 l0 x5_1).f2) == ((rd_T104 l1 x5_1).f2)) = false:=beq_eq_false_iff_ne.mpr c27
           have c27b1 : (((rd_T104 l0 x5_1).f2) != ((rd_T104 l1 x5_1).f2)) = true:=bne_iff_ne.mpr c27
           have H':=zm H
           clear H
           have hnb35:=NB356_357.out
           have hnc35:=NB357_356.out
           have hcz36_0:=zc BK356.out 0 (.int .i64 0) rfl
           have hcz36_1:=zc BK356.out 1 (.bool false) rfl
           have hcz36_2:=zc BK356.out 2 (.int .i64 0) rfl
           have hcz36_3:=zc BK356.out 3 (.int .i64 0) rfl
           have hcz36_4:=zc BK356.out 4 (.slice none 0 0) rfl
           have hfz36_0:=zf BK356.out 0
           have hfz36_1:=zf BK356.out 1
           have hfz36_2:=zf BK356.out 2
           have hfz36_3:=zf BK356.out 3
           have hfz36_4:=zf BK356.out 4
           have hcz37_0:=zc BK357.out 0 (.int .i64 0) rfl
           have hcz37_1:=zc BK357.out 1 (.bool false) rfl
           have hcz37_2:=zc BK357.out 2 (.int .i64 0) rfl
           have hcz37_3:=zc BK357.out 3 (.int .i64 0) rfl
           have hcz37_4:=zc BK357.out 4 (.slice none 0 0) rfl
           have hfz37_0:=zf BK357.out 0
           have hfz37_1:=zf BK357.out 1
           have hfz37_2:=zf BK357.out 2
           have hfz37_3:=zf BK357.out 3
           have hfz37_4:=zf BK357.out 4
           go_wp2
           go_meet
           case rel=>exact ⟨_,(true),(by first|rfl|(simp;done)|(simp [*];done)),H',⟨by have:=HK1.out;first|omega|exact Nat.le_refl _⟩,⟨by (with_reducible repeat first|apply zd|apply ze|apply za);refine blk_far ?_ NB356_357.out _;(with_reducible repeat first|apply zd|apply ze|apply za);refine blk_far ?_ NB356_357.out _;(with_reducible repeat first|apply zd|apply ze|apply za);refine blk_far ?_ NB356_357.out _;(with_reducible repeat first|apply zd|apply ze|apply za);refine blk_far ?_ NB356_357.out _;(with_reducible repeat first|apply zd|apply ze|apply za);refine blk_far ?_ NB356_357.out _;(with_reducible repeat first|apply zd|apply ze|apply za);refine blk_put (cs:=#[.int .i64 ((rd_T104 l0 x5_1).f0),.bool ((rd_T104 l0 x5_1).f1),.int .i64 ((rd_T104 l0 x5_1).f2),.int .i64 ((rd_T104 l0 x5_1).f3),.slice none 0 0]) ?_ 4 _ rfl;(with_reducible repeat first|apply zd|apply ze|apply za);refine blk_put (cs:=#[.int .i64 ((rd_T104 l0 x5_1).f0),.bool ((rd_T104 l0 x5_1).f1),.int .i64 ((rd_T104 l0 x5_1).f2),.int .i64 0,.slice none 0 0]) ?_ 3 _ rfl;(with_reducible repeat first|apply zd|apply ze|apply za);refine blk_put (cs:=#[.int .i64 ((rd_T104 l0 x5_1).f0),.bool ((rd_T104 l0 x5_1).f1),.int .i64 0,.int .i64 0,.slice none 0 0]) ?_ 2 _ rfl;(with_reducible repeat first|apply zd|apply ze|apply za);refine blk_put (cs:=#[.int .i64 ((rd_T104 l0 x5_1).f0),.bool false,.int .i64 0,.int .i64 0,.slice none 0 0]) ?_ 1 _ rfl;(with_reducible repeat first|apply zd|apply ze|apply za);refine blk_put (cs:=#[.int .i64 0,.bool false,.int .i64 0,.int .i64 0,.slice none 0 0]) ?_ 0 _ rfl;(with_reducible repeat first|apply zd|apply ze|apply za);exact BK356.out⟩,⟨by (with_reducible repeat first|apply zd|apply ze|apply za);refine blk_put (cs:=#[.int .i64 ((rd_T104 l1 x5_1).f0),.bool ((rd_T104 l1 x5_1).f1),.int .i64 ((rd_T104 l1 x5_1).f2),.int .i64 ((rd_T104 l1 x5_1).f3),.slice none 0 0]) ?_ 4 _ rfl;(with_reducible repeat first|apply zd|apply ze|apply za);refine blk_put (cs:=#[.int .i64 ((rd_T104 l1 x5_1).f0),.bool ((rd_T104 l1 x5_1).f1),.int .i64 ((rd_T104 l1 x5_1).f2),.int .i64 0,.slice none 0 0]) ?_ 3 _ rfl;(with_reducible repeat first|apply zd|apply ze|apply za);refine blk_put (cs:=#[.int .i64 ((rd_T104 l1 x5_1).f0),.bool ((rd_T104 l1 x5_1).f1),.int .i64 0,.int .i64 0,.slice none 0 0]) ?_ 2 _ rfl;(with_reducible repeat first|apply zd|apply ze|apply za);refine blk_put (cs:=#[.int .i64 ((rd_T104 l1 x5_1).f0),.bool false,.int .i64 0,.int .i64 0,.slice none 0 0]) ?_ 1 _ rfl;(with_reducible repeat first|apply zd|apply ze|apply za);refine blk_put (cs:=#[.int .i64 0,.bool false,.int .i64 0,.int .i64 0,.slice none 0 0]) ?_ 0 _ rfl;(with_reducible repeat first|apply zd|apply ze|apply za);refine blk_far ?_ NB357_356.out _;(with_reducible repeat first|apply zd|apply ze|apply za);refine blk_far ?_ NB357_356.out _;(with_reducible repeat first|apply zd|apply ze|apply za);refine blk_far ?_ NB357_356.out _;(with_reducible repeat first|apply zd|apply ze|apply za);refine blk_far ?_ NB357_356.out _;(with_reducible repeat first|apply zd|apply ze|apply za);refine blk_far ?_ NB357_356.out _;(with_reducible repeat first|apply zd|apply ze|apply za);exact BK357.out⟩,⟨by repeat (first|(with_reducible first|exact HB.out|apply zA|apply zD|apply zE|refine zS ?_ GE356.out|refine zS ?_ GE357.out)|exact HB.out)⟩⟩
        ·rw [if_neg c22] at H
         have c22b0 : (((rd_T104 l0 x5_1).f0) == ((rd_T104 l1 x5_1).f0)) = false:=beq_eq_false_iff_ne.mpr c22
         have c22b1 : (((rd_T104 l0 x5_1).f0) != ((rd_T104 l1 x5_1).f0)) = true:=bne_iff_ne.mpr c22
         (first|rw [c22b0]|(simp only [i64_w,i32_w];rw [c22b0])|(rw [c22b2];try simp only [Bool.not_true,Bool.not_false])|skip)
         have H':=zm H
         clear H
         have hnb38:=NB356_357.out
         have hnc38:=NB357_356.out
         have hcz39_0:=zc BK356.out 0 (.int .i64 0) rfl
         have hcz39_1:=zc BK356.out 1 (.bool false) rfl
         have hcz39_2:=zc BK356.out 2 (.int .i64 0) rfl
         have hcz39_3:=zc BK356.out 3 (.int .i64 0) rfl
         have hcz39_4:=zc BK356.out 4 (.slice none 0 0) rfl
         have hfz39_0:=zf BK356.out 0
         have hfz39_1:=zf BK356.out 1
         have hfz39_2:=zf BK356.out 2
         have hfz39_3:=zf BK356.out 3
         have hfz39_4:=zf BK356.out 4
         have hcz40_0:=zc BK357.out 0 (.int .i64 0) rfl
         have hcz40_1:=zc BK357.out 1 (.bool false) rfl
         have hcz40_2:=zc BK357.out 2 (.int .i64 0) rfl
         have hcz40_3:=zc BK357.out 3 (.int .i64 0) rfl
         have hcz40_4:=zc BK357.out 4 (.slice none 0 0) rfl
         have hfz40_0:=zf BK357.out 0
         have hfz40_1:=zf BK357.out 1
         have hfz40_2:=zf BK357.out 2
         have hfz40_3:=zf BK357.out 3
         have hfz40_4:=zf BK357.out 4
         go_wp2
         go_meet
         case rel=>exact ⟨_,(true),(by first|rfl|(simp;done)|(simp [*];done)),H',⟨by have:=HK1.out;first|omega|exact Nat.le_refl _⟩,⟨by (with_reducible repeat first|apply zd|apply ze|apply za);refine blk_far ?_ NB356_357.out _;(with_reducible repeat first|apply zd|apply ze|apply za);refine blk_far ?_ NB356_357.out _;(with_reducible repeat first|apply zd|apply ze|apply za);refine blk_far ?_ NB356_357.out _;(with_reducible repeat first|apply zd|apply ze|apply za);refine blk_far ?_ NB356_357.out _;(with_reducible repeat first|apply zd|apply ze|apply za);refine blk_far ?_ NB356_357.out _;(with_reducible repeat first|apply zd|apply ze|apply za);refine blk_put (cs:=#[.int .i64 ((rd_T104 l0 x5_1).f0),.bool ((rd_T104 l0 x5_1).f1),.int .i64 ((rd_T104 l0 x5_1).f2),.int .i64 ((rd_T104 l0 x5_1).f3),.slice none 0 0]) ?_ 4 _ rfl;(with_reducible repeat first|apply zd|apply ze|apply za);refine blk_put (cs:=#[.int .i64 ((rd_T104 l0 x5_1).f0),.bool ((rd_T104 l0 x5_1).f1),.int .i64 ((rd_T104 l0 x5_1).f2),.int .i64 0,.slice none 0 0]) ?_ 3 _ rfl;(with_reducible repeat first|apply zd|apply ze|apply za);refine blk_put (cs:=#[.int .i64 ((rd_T104 l0 x5_1).f0),.bool ((rd_T104 l0 x5_1).f1),.int .i64 0,.int .i64 0,.slice none 0 0]) ?_ 2 _ rfl;(with_reducible repeat first|apply zd|apply ze|apply za);refine blk_put (cs:=#[.int .i64 ((rd_T104 l0 x5_1).f0),.bool false,.int .i64 0,.int .i64 0,.slice none 0 0]) ?_ 1 _ rfl;(with_reducible repeat first|apply zd|apply ze|apply za);refine blk_put (cs:=#[.int .i64 0,.bool false,.int .i64 0,.int .i64 0,.slice none 0 0]) ?_ 0 _ rfl;(with_reducible repeat first|apply zd|apply ze|apply za);exact BK356.out⟩,⟨by (with_reducible repeat first|apply zd|apply ze|apply za);refine blk_put (cs:=#[.int .i64 ((rd_T104 l1 x5_1).f0),.bool ((rd_T104 l1 x5_1).f1),.int .i64 ((rd_T104 l1 x5_1).f2),.int .i64 ((rd_T104 l1 x5_1).f3),.slice none 0 0]) ?_ 4 _ rfl;(with_reducible repeat first|apply zd|apply ze|apply za);refine blk_put (cs:=#[.int .i64 ((rd_T104 l1 x5_1).f0),.bool ((rd_T104 l1 x5_1).f1),.int .i64 ((rd_T104 l1 x5_1).f2),.int .i64 0,.slice none 0 0]) ?_ 3 _ rfl;(with_reducible repeat first|apply zd|apply ze|apply za);refine blk_put (cs:=#[.int .i64 ((rd_T104 l1 x5_1).f0),.bool ((rd_T104 l1 x5_1).f1),.int .i64 0,.int .i64 0,.slice none 0 0]) ?_ 2 _ rfl;(with_reducible repeat first|apply zd|apply ze|apply za);refine blk_put (cs:=#[.int .i64 ((rd_T104 l1 x5_1).f0),.bool false,.int .i64 0,.int .i64 0,.slice none 0 0]) ?_ 1 _ rfl;(with_reducible repeat first|apply zd|apply ze|apply za);refine blk_put (cs:=#[.int .i64 0,.bool false,.int .i64 0,.int .i64 0,.slice none 0 0]) ?_ 0 _ rfl;(with_reducible repeat first|apply zd|apply ze|apply za);refine blk_far ?_ NB357_356.out _;(with_reducible repeat first|apply zd|apply ze|apply za);refine blk_far ?_ NB357_356.out _;(with_reducible repeat first|apply zd|apply ze|apply za);refine blk_far ?_ NB357_356.out _;(with_reducible repeat first|apply zd|apply ze|apply za);refine blk_far ?_ NB357_356.out _;(with_reducible repeat first|apply zd|apply ze|apply za);refine blk_far ?_ NB357_356.out _;(with_reducible repeat first|apply zd|apply ze|apply za);exact BK357.out⟩,⟨by repeat (first|(with_reducible first|exact HB.out|apply zA|apply zD|apply zE|refine zS ?_ GE356.out|refine zS ?_ GE357.out)|exact HB.out)⟩⟩
       case rest =>
        clear HC7
        try clear c1
        try clear c2
        try clear p2
        try clear c3
        try clear c3b0
        try clear c3b1
        try clear c3b2
        try clear p3
        try clear q3
        try clear hx3
        try clear c4
        try clear c4b0
        try clear c5
        try clear c5b0
        try clear c6
        try clear c6b0
        try clear c10
        try clear c22
        try clear c22b0
        try clear c22b1
        try clear c22b2
        try clear c23
        try clear c23b0
        try clear c23b1
        try clear c23b2
        try clear c24
        try clear c27
        try clear c27b0
        try clear c27b1
        try clear c28
        try clear c28b0
        try clear c28b1
        try clear c29
        try clear c32
        try clear c35
        try clear p35
        try clear q35
        try clear hx35
        try clear c38
        try clear hcz25_0
        try clear hcz25_1
        try clear hcz25_2
        try clear hcz25_3
        try clear hcz25_4
        try clear hcz26_0
        try clear hcz26_1
        try clear hcz26_2
        try clear hcz26_3
        try clear hcz26_4
        try clear hcz30_0
        try clear hcz30_1
        try clear hcz30_2
        try clear hcz30_3
        try clear hcz30_4
        try clear hcz31_0
        try clear hcz31_1
        try clear hcz31_2
        try clear hcz31_3
        try clear hcz31_4
        try clear hcz33_0
        try clear hcz33_1
        try clear hcz33_2
        try clear hcz33_3
        try clear hcz33_4
        try clear hcz34_0
        try clear hcz34_1
        try clear hcz34_2
        try clear hcz34_3
        try clear hcz34_4
        try clear hcz36_0
        try clear hcz36_1
        try clear hcz36_2
        try clear hcz36_3
        try clear hcz36_4
        try clear hcz37_0
        try clear hcz37_1
        try clear hcz37_2
        try clear hcz37_3
        try clear hcz37_4
        try clear hcz39_0
        try clear hcz39_1
        try clear hcz39_2
        try clear hcz39_3
        try clear hcz39_4
        try clear hcz40_0
        try clear hcz40_1
        try clear hcz40_2
        try clear hcz40_3
        try clear hcz40_4
        try clear hfz25_0
        try clear hfz25_1
        try clear hfz25_2
        try clear hfz25_3
        try clear hfz25_4
        try clear hfz26_0
        try clear hfz26_1
        try clear hfz26_2
        try clear hfz26_3
        try clear hfz26_4
        try clear hfz30_0
        try clear hfz30_1
        try clear hfz30_2
        try clear hfz30_3
        try clear hfz30_4
        try clear hfz31_0
        try clear hfz31_1
        try clear hfz31_2
        try clear hfz31_3
        try clear hfz31_4
        try clear hfz33_0
        try clear hfz33_1
        try clear hfz33_2
        try clear hfz33_3
        try clear hfz33_4
        try clear hfz34_0
        try clear hfz34_1
        try clear hfz34_2
        try clear hfz34_3
        try clear hfz34_4
        try clear hfz36_0
        try clear hfz36_1
        try clear hfz36_2
        try clear hfz36_3
        try clear hfz36_4
        try clear hfz37_0
        try clear hfz37_1
        try clear hfz37_2
        try clear hfz37_3
        try clear hfz37_4
        try clear hfz39_0
        try clear hfz39_1
        try clear hfz39_2
        try clear hfz39_3
        try clear hfz39_4
        try clear hfz40_0
        try clear hfz40_1
        try clear hfz40_2
        try clear hfz40_3
        try clear hfz40_4
        try clear hx354_0
        try clear hx354_1
        try clear hx354_2
        try clear hx354_3
        try clear hx354_4
        try clear hx355_0
        try clear hx355_1
        try clear hx355_2
        try clear hx355_3
        try clear hx355_4
        try clear p2
        try clear p354
        try clear p355
        try clear q354
        try clear q355
        obtain ⟨kq,x62_6,rfl,HA,HJ6,BK356,BK357,HB⟩:=hcut
        cases kq with
        | zero => exact absurd HA.out (by simp [metrolabref18_SameFrames.j1])
        | succ kj6 =>
         have H:=HA.out
         clear HA
         simp only [metrolabref18_SameFrames.j1] at H
         by_cases c41 : x62_6 = true
         ·subst c41
          have H1 : (some false) = some r:=by rw [if_pos rfl] at H;exact H
          clear H
          have H:=H1
          clear H1
          obtain rfl:=Option.some.inj H
          go_wp2
          go_ret
          exact ⟨by first|rfl|(simp [errW_none,errW_some] <;> rfl)|(simp [*,errW_none,errW_some] <;> rfl),by repeat (first|(with_reducible first|exact HB.out|apply zA|apply zD|apply zE|refine zS ?_ GE356.out|refine zS ?_ GE357.out)|exact HB.out)⟩
         ·replace c41:=Bool.eq_false_iff.mpr c41
          subst c41
          have H1 : (metrolabref18_SameFrames.l1 kj6 l0 l1 x5_1 0 ((rd_T104 l0 x5_1).f0) ((rd_T104 l0 x5_1).f1) ((rd_T104 l0 x5_1).f2) ((rd_T104 l0 x5_1).f3) ((rd_T104 l0 x5_1).f4) ((rd_T104 l1 x5_1).f0) ((rd_T104 l1 x5_1).f1) ((rd_T104 l1 x5_1).f2) ((rd_T104 l1 x5_1).f3) ((rd_T104 l1 x5_1).f4)) = some r:=by rw [if_neg (show ¬ (false = true) by decide)] at H;exact H
          clear H
          have H:=H1
          clear H1
          have H':=zm H
          clear H
          go_wp2
          go_loopg [8] kj6 (fun kq v8 w'=>∃ (x8_3 : Int),v8 = .int .i64 x8_3 ∧ Aside0 (metrolabref18_SameFrames.l1 kq l0 l1 x5_1 x8_3 ((rd_T104 l0 x5_1).f0) ((rd_T104 l0 x5_1).f1) ((rd_T104 l0 x5_1).f2) ((rd_T104 l0 x5_1).f3) ((rd_T104 l0 x5_1).f4) ((rd_T104 l1 x5_1).f0) ((rd_T104 l1 x5_1).f1) ((rd_T104 l1 x5_1).f2) ((rd_T104 l1 x5_1).f3) ((rd_T104 l1 x5_1).f4) = some r) ∧ Aside0 (kq ≤ kj6) ∧ Aside0 (w'.heap[gb356]? = some (.cells #[.int .i64 ((rd_T104 l0 x5_1).f0),.bool ((rd_T104 l0 x5_1).f1),.int .i64 ((rd_T104 l0 x5_1).f2),.int .i64 ((rd_T104 l0 x5_1).f3),(.slice A354_4 ((rd_T104 l0 x5_1).f4).length c354_4)] 104 (0,0))) ∧ Aside0 (w'.heap[gb357]? = some (.cells #[.int .i64 ((rd_T104 l1 x5_1).f0),.bool ((rd_T104 l1 x5_1).f1),.int .i64 ((rd_T104 l1 x5_1).f2),.int .i64 ((rd_T104 l1 x5_1).f3),(.slice A355_4 ((rd_T104 l1 x5_1).f4).length c355_4)] 104 (0,0))) ∧ Aside0 (Below w.heap.size w w'))
          case atStart=>exact ⟨(0),(by first|rfl|(simp;done)|(simp [*];done)),H',⟨Nat.le_refl _⟩,⟨by (with_reducible repeat first|apply zd|apply ze|apply za);exact BK356.out⟩,⟨by (with_reducible repeat first|apply zd|apply ze|apply za);exact BK357.out⟩,⟨by repeat (first|(with_reducible first|exact HB.out|apply zA|apply zD|apply zE|refine zS ?_ GE356.out|refine zS ?_ GE357.out)|exact HB.out)⟩⟩
          case round =>
           clear H'
           try clear c1
           try clear c2
           try clear p2
           try clear c3
           try clear c3b0
           try clear c3b1
           try clear c3b2
           try clear p3
           try clear q3
           try clear hx3
           try clear c4
           try clear c4b0
           try clear c5
           try clear c5b0
           try clear c6
           try clear c6b0
           try clear c10
           try clear c22
           try clear c22b0
           try clear c22b1
           try clear c22b2
           try clear c23
           try clear c23b0
           try clear c23b1
           try clear c23b2
           try clear c24
           try clear c27
           try clear c27b0
           try clear c27b1
           try clear c28
           try clear c28b0
           try clear c28b1
           try clear c29
           try clear c32
           try clear c35
           try clear p35
           try clear q35
           try clear hx35
           try clear c38
           try clear c41
           try clear hcz25_0
           try clear hcz25_1
           try clear hcz25_2
           try clear hcz25_3
           try clear hcz25_4
           try clear hcz26_0
           try clear hcz26_1
           try clear hcz26_2
           try clear hcz26_3
           try clear hcz26_4
           try clear hcz30_0
           try clear hcz30_1
           try clear hcz30_2
           try clear hcz30_3
           try clear hcz30_4
           try clear hcz31_0
           try clear hcz31_1
           try clear hcz31_2
           try clear hcz31_3
           try clear hcz31_4
           try clear hcz33_0
           try clear hcz33_1
           try clear hcz33_2
           try clear hcz33_3
           try clear hcz33_4
           try clear hcz34_0
           try clear hcz34_1
           try clear hcz34_2
           try clear hcz34_3
           try clear hcz34_4
           try clear hcz36_0
           try clear hcz36_1
           try clear hcz36_2
           try clear hcz36_3
           try clear hcz36_4
           try clear hcz37_0
           try clear hcz37_1
           try clear hcz37_2
           try clear hcz37_3
           try clear hcz37_4
           try clear hcz39_0
           try clear hcz39_1
           try clear hcz39_2
           try clear hcz39_3
           try clear hcz39_4
           try clear hcz40_0
           try clear hcz40_1
           try clear hcz40_2
           try clear hcz40_3
           try clear hcz40_4
           try clear hfz25_0
           try clear hfz25_1
           try clear hfz25_2
           try clear hfz25_3
           try clear hfz25_4
           try clear hfz26_0
           try clear hfz26_1
           try clear hfz26_2
           try clear hfz26_3
           try clear hfz26_4
           try clear hfz30_0
           try clear hfz30_1
           try clear hfz30_2
           try clear hfz30_3
           try clear hfz30_4
           try clear hfz31_0
           try clear hfz31_1
           try clear hfz31_2
           try clear hfz31_3
           try clear hfz31_4
           try clear hfz33_0
           try clear hfz33_1
           try clear hfz33_2
           try clear hfz33_3
           try clear hfz33_4
           try clear hfz34_0
           try clear hfz34_1
           try clear hfz34_2
           try clear hfz34_3
           try clear hfz34_4
           try clear hfz36_0
           try clear hfz36_1
           try clear hfz36_2
           try clear hfz36_3
           try clear hfz36_4
           try clear hfz37_0
           try clear hfz37_1
           try clear hfz37_2
           try clear hfz37_3
           try clear hfz37_4
           try clear hfz39_0
           try clear hfz39_1
           try clear hfz39_2
           try clear hfz39_3
           try clear hfz39_4
           try clear hfz40_0
           try clear hfz40_1
           try clear hfz40_2
           try clear hfz40_3
           try clear hfz40_4
           try clear hx354_0
           try clear hx354_1
           try clear hx354_2
           try clear hx354_3
           try clear hx354_4
           try clear hx355_0
           try clear hx355_1
           try clear hx355_2
           try clear hx355_3
           try clear hx355_4
           try clear p2
           try clear p3
           try clear p35
           try clear p354
           try clear p355
           try clear q3
           try clear q35
           try clear q354
           try clear q355
           obtain ⟨x8_3,rfl,HA,HK3,BK356,BK357,HB⟩:=hrel
           cases gk with
           | zero => exact absurd HA.out (by simp [metrolabref18_SameFrames.l1])
           | succ k3 =>
            have H:=HA.out
            clear HA
            simp only [metrolabref18_SameFrames.l1] at H
            by_cases c42 : x8_3 < (((rd_T104 l0 x5_1).f4).length : Int)
            ·rw [if_pos c42] at H
             have c42b0 : decide (x8_3 < (((rd_T104 l0 x5_1).f4).length : Int)) = true:=decide_eq_true c42
             clear c42
             by_cases c43 : 0 ≤ x8_3
             ·rw [if_pos c43] at H
              have c43b0 : decide (0 ≤ x8_3) = true:=decide_eq_true c43
              clear c43
              by_cases c44 : x8_3 < (((rd_T104 l1 x5_1).f4).length : Int)
              ·rw [if_pos c44] at H
               have c44b0 : decide (x8_3 < (((rd_T104 l1 x5_1).f4).length : Int)) = true:=decide_eq_true c44
               clear c44
               by_cases c45 : (!((((rd_T106 ((rd_T104 l0 x5_1).f4) x8_3).f0).toList) == (((rd_T106 ((rd_T104 l1 x5_1).f4) x8_3).f0).toList)) || (!(((rd_T106 ((rd_T104 l0 x5_1).f4) x8_3).f1) == ((rd_T106 ((rd_T104 l1 x5_1).f4) x8_3).f1)))) = true
               ·rw [if_pos c45] at H
                have c45b0 : (!((((rd_T106 ((rd_T104 l0 x5_1).f4) x8_3).f0).toList) == (((rd_T106 ((rd_T104 l1 x5_1).f4) x8_3).f0).toList)) || (!(((rd_T106 ((rd_T104 l0 x5_1).f4) x8_3).f1) == ((rd_T106 ((rd_T104 l1 x5_1).f4) x8_3).f1)))) = true:=c45
                clear c45
                obtain rfl:=Option.some.inj H
                have hnb46:=NB356_357.out
                have hnc46:=NB357_356.out
                have hcz47_0:=zc BK356.out 0 (.int .i64 ((rd_T104 l0 x5_1).f0)) rfl
                have hcz47_1:=zc BK356.out 1 (.bool ((rd_T104 l0 x5_1).f1)) rfl
                have hcz47_2:=zc BK356.out 2 (.int .i64 ((rd_T104 l0 x5_1).f2)) rfl
                have hcz47_3:=zc BK356.out 3 (.int .i64 ((rd_T104 l0 x5_1).f3)) rfl
                have hcz47_4:=zc BK356.out 4 (.slice A354_4 ((rd_T104 l0 x5_1).f4).length c354_4) rfl
                have hfz47_0:=zf BK356.out 0
                have hfz47_1:=zf BK356.out 1
                have hfz47_2:=zf BK356.out 2
                have hfz47_3:=zf BK356.out 3
                have hfz47_4:=zf BK356.out 4
                try go_wp2
                have n0_:=zm (ze BK356.out)
                have n1_:=zm (ze BK357.out)
                have n2_:=zm (zE HB.out)
                clear BK356 BK357 HB
                have BK356:=n0_
                have BK357:=n1_
                have HB:=n2_
                clear n0_ n1_ n2_
                have p358 : 0 ≤ (x8_3 : Int):=of_decide_eq_true (by first|(with_reducible assumption)|assumption)
                have q358 : x8_3 < (((rd_T104 l0 x5_1).f4).length : Int):=of_decide_eq_true (by first|(with_reducible assumption)|assumption)
                obtain ⟨ad358,e358,hx358_0,hx358_1⟩:=at_T106 HR354_4.out x8_3 p358 q358
                have hw358_1:=hx358_1
                have hw358_0:=hx358_0
                cases e358
                replace hx358_0:=(HB.out.cell (World.block_lt_of_cell? w _ hx358_0)).trans hx358_0
                replace hx358_1:=(HB.out.cell (World.block_lt_of_cell? w _ hx358_1)).trans hx358_1
                replace p358:=eq_true p358
                replace q358:=eq_true q358
                have p359 : 0 ≤ (x8_3 : Int):=of_decide_eq_true (by first|(with_reducible assumption)|assumption)
                have q359 : x8_3 < (((rd_T104 l1 x5_1).f4).length : Int):=of_decide_eq_true (by first|(with_reducible assumption)|assumption)
                obtain ⟨ad359,e359,hx359_0,hx359_1⟩:=at_T106 HR355_4.out x8_3 p359 q359
                have hw359_1:=hx359_1
                have hw359_0:=hx359_0
                cases e359
                replace hx359_0:=(HB.out.cell (World.block_lt_of_cell? w _ hx359_0)).trans hx359_0
                replace hx359_1:=(HB.out.cell (World.block_lt_of_cell? w _ hx359_1)).trans hx359_1
                replace p359:=eq_true p359
                replace q359:=eq_true q359
                refine start_ (n:=11) (S:=fun w'=>w'.cell? ⟨gb356,0,none⟩ = some (.int .i64 ((rd_T104 l0 x5_1).f0)) ∧ w'.cell? ⟨gb356,1,none⟩ = some (.bool ((rd_T104 l0 x5_1).f1)) ∧ w'.cell? ⟨gb356,2,none⟩ = some (.int .i64 ((rd_T104 l0 x5_1).f2)) ∧ w'.cell? ⟨gb356,3,none⟩ = some (.int .i64 ((rd_T104 l0 x5_1).f3)) ∧ w'.cell? ⟨gb356,4,none⟩ = some (.slice (some ad358) ((rd_T104 l0 x5_1).f4).length c354_4) ∧ w'.cell? ⟨gb357,0,none⟩ = some (.int .i64 ((rd_T104 l1 x5_1).f0)) ∧ w'.cell? ⟨gb357,1,none⟩ = some (.bool ((rd_T104 l1 x5_1).f1)) ∧ w'.cell? ⟨gb357,2,none⟩ = some (.int .i64 ((rd_T104 l1 x5_1).f2)) ∧ w'.cell? ⟨gb357,3,none⟩ = some (.int .i64 ((rd_T104 l1 x5_1).f3)) ∧ w'.cell? ⟨gb357,4,none⟩ = some (.slice (some ad359) ((rd_T104 l1 x5_1).f4).length c355_4) ∧ w'.cell? (ad358.add ((x8_3).toNat * 2)) = some (.string ((rd_T106 ((rd_T104 l0 x5_1).f4) x8_3).f0)) ∧ w'.cell? ⟨(ad358.add ((x8_3).toNat * 2)).block,(ad358.add ((x8_3).toNat * 2)).off + 1,none⟩ = some (.int .i64 ((rd_T106 ((rd_T104 l0 x5_1).f4) x8_3).f1)) ∧ w'.cell? (ad359.add ((x8_3).toNat * 2)) = some (.string ((rd_T106 ((rd_T104 l1 x5_1).f4) x8_3).f0)) ∧ w'.cell? ⟨(ad359.add ((x8_3).toNat * 2)).block,(ad359.add ((x8_3).toNat * 2)).off + 1,none⟩ = some (.int .i64 ((rd_T106 ((rd_T104 l1 x5_1).f4) x8_3).f1))) (ds:=[]) #[false,false,false,false,false,false,false,false,false,false,false] (by kernel_rfl) rfl rfl ⟨(blk_cell BK356.out 0).trans rfl,(blk_cell BK356.out 1).trans rfl,(blk_cell BK356.out 2).trans rfl,(blk_cell BK356.out 3).trans rfl,(blk_cell BK356.out 4).trans rfl,(blk_cell BK357.out 0).trans rfl,(blk_cell BK357.out 1).trans rfl,(blk_cell BK357.out 2).trans rfl,(blk_cell BK357.out 3).trans rfl,(blk_cell BK357.out 4).trans rfl,((HB.out.cell (World.block_lt_of_cell? w _ hw358_0)).trans hw358_0),((HB.out.cell (World.block_lt_of_cell? w _ hw358_1)).trans hw358_1),((HB.out.cell (World.block_lt_of_cell? w _ hw359_0)).trans hw359_0),((HB.out.cell (World.block_lt_of_cell? w _ hw359_1)).trans hw359_1)⟩ (fun hHeld=>?_);refine with_tabW metrolabref18_SameFrames.tab12 metrolabref18_SameFrames.bits12 (fun HT_ HW_=>?_)
                generalize wr.drew = w48 at BK356 BK357 HB hx358_0 hx358_1 hx359_0 hx359_1 hHeld ⊢
                refine pure_ (i:=0) (N:=some 70) (v:=?_) (a':=?_) #[true,false,false,false,false,false,false,false,false,false,false] rfl rfl (any_of HT_.out (by kernel_rfl)) (fun _ _ _ h=>h) (Or.inl ⟨by rfl,?_⟩) ?_ ?_
                rotate_left
                ·intro w'
                 go_simp
                 with_reducible rfl
                rotate_left
                ·simp only [Act.put,zx,zy,zz,i64_w,i32_w]
                 rfl
                refine pure_ (i:=2) (N:=some 72) (v:=?_) (a':=?_) #[true,false,true,false,false,false,false,false,false,false,false] rfl rfl (any_of HT_.out (by kernel_rfl)) (fun _ _ _ h=>h) (Or.inl ⟨by rfl,?_⟩) ?_ ?_
                rotate_left
                ·intro w'
                 go_simp
                 with_reducible rfl
                rotate_left
                ·simp only [Act.put,zx,zy,zz,i64_w,i32_w]
                 rfl
                refine pure_ (i:=5) (N:=some 75) (v:=?_) (a':=?_) #[true,false,true,false,false,true,false,false,false,false,false] rfl rfl (any_of HT_.out (by kernel_rfl)) (fun _ _ _ h=>h) (Or.inl ⟨by rfl,?_⟩) ?_ ?_
                rotate_left
                ·intro w'
                 go_simp
                 with_reducible rfl
                rotate_left
                ·simp only [Act.put,zx,zy,zz,i64_w,i32_w]
                 rfl
                refine pure_ (i:=7) (N:=some 77) (v:=?_) (a':=?_) #[true,false,true,false,false,true,false,true,false,false,false] rfl rfl (any_of HT_.out (by kernel_rfl)) (fun _ _ _ h=>h) (Or.inl ⟨by rfl,?_⟩) ?_ ?_
                rotate_left
                ·intro w'
                 go_simp
                 with_reducible rfl
                rotate_left
                ·simp only [Act.put,zx,zy,zz,i64_w,i32_w]
                 rfl
                refine take_ (i:=1) (N:=some 71) (v:=?_) (a':=?_) #[true,true,true,false,false,true,false,true,false,false,false] rfl rfl (take_ofW HT_.out HW_.out (by kernel_rfl)) (fun _ _ _ h=>h) (Or.inl ⟨by rfl,?_⟩) hHeld ?_ ?_
                rotate_left
                ·rintro w' ⟨s0,s1,s2,s3,s4,s5,s6,s7,s8,s9,s10,s11,s12,s13⟩
                 go_simp
                 with_reducible rfl
                rotate_left
                ·simp only [Act.put,zx,zy,zz,i64_w,i32_w]
                 rfl
                refine pure_ (i:=3) (N:=some 73) (v:=?_) (a':=?_) #[true,true,true,true,false,true,false,true,false,false,false] rfl rfl (any_of HT_.out (by kernel_rfl)) (fun _ _ _ h=>h) (Or.inl ⟨by rfl,?_⟩) ?_ ?_
                rotate_left
                ·intro w'
                 go_simp
                 with_reducible rfl
                rotate_left
                ·simp only [Act.put,zx,zy,zz,i64_w,i32_w]
                 rfl
                refine take_ (i:=4) (N:=some 74) (v:=?_) (a':=?_) #[true,true,true,true,true,true,false,true,false,false,false] rfl rfl (take_ofW HT_.out HW_.out (by kernel_rfl)) (fun _ _ _ h=>h) (Or.inl ⟨by rfl,?_⟩) hHeld ?_ ?_
                rotate_left
                ·rintro w' ⟨s0,s1,s2,s3,s4,s5,s6,s7,s8,s9,s10,s11,s12,s13⟩
                 go_simp
                 with_reducible rfl
                rotate_left
                ·simp only [Act.put,zx,zy,zz,i64_w,i32_w]
                 rfl
                refine take_ (i:=6) (N:=some 76) (v:=?_) (a':=?_) #[true,true,true,true,true,true,true,true,false,false,false] rfl rfl (take_ofW HT_.out HW_.out (by kernel_rfl)) (fun _ _ _ h=>h) (Or.inl ⟨by rfl,?_⟩) hHeld ?_ ?_
                rotate_left
                ·rintro w' ⟨s0,s1,s2,s3,s4,s5,s6,s7,s8,s9,s10,s11,s12,s13⟩
                 go_simp
                 with_reducible rfl
                rotate_left
                ·simp only [Act.put,zx,zy,zz,i64_w,i32_w]
                 rfl
                refine pure_ (i:=8) (N:=some 78) (v:=?_) (a':=?_) #[true,true,true,true,true,true,true,true,true,false,false] rfl rfl (any_of HT_.out (by kernel_rfl)) (fun _ _ _ h=>h) (Or.inl ⟨by rfl,?_⟩) ?_ ?_
                rotate_left
                ·intro w'
                 go_simp
                 with_reducible rfl
                rotate_left
                ·simp only [Act.put,zx,zy,zz,i64_w,i32_w]
                 rfl
                refine take_ (i:=9) (N:=some 79) (v:=?_) (a':=?_) #[true,true,true,true,true,true,true,true,true,true,false] rfl rfl (take_ofW HT_.out HW_.out (by kernel_rfl)) (fun _ _ _ h=>h) (Or.inl ⟨by rfl,?_⟩) hHeld ?_ ?_
                rotate_left
                ·rintro w' ⟨s0,s1,s2,s3,s4,s5,s6,s7,s8,s9,s10,s11,s12,s13⟩
                 go_simp
                 with_reducible rfl
                rotate_left
                ·simp only [Act.put,zx,zy,zz,i64_w,i32_w]
                 rfl
                refine pure_ (i:=10) (N:=some 80) (v:=?_) (a':=?_) #[true,true,true,true,true,true,true,true,true,true,true] rfl rfl (any_of HT_.out (by kernel_rfl)) (fun _ _ _ h=>h) (Or.inl ⟨by rfl,?_⟩) ?_ ?_
                rotate_left
                ·intro w'
                 go_simp
                 with_reducible rfl
                rotate_left
                ·simp only [Act.put,zx,zy,zz,i64_w,i32_w]
                 rfl
                refine done_ (done_of HT_.out (by kernel_rfl)) ?_
                try go_wp2
                go_ret
                exact ⟨by first|rfl|(simp [errW_none,errW_some] <;> rfl)|(simp [*,errW_none,errW_some] <;> rfl),by repeat (first|(with_reducible first|exact HB.out|apply zA|apply zD|apply zE|refine zS ?_ GE356.out|refine zS ?_ GE357.out)|exact HB.out)⟩
               ·rw [if_neg c45] at H
                have c45b0 : (!((((rd_T106 ((rd_T104 l0 x5_1).f4) x8_3).f0).toList) == (((rd_T106 ((rd_T104 l1 x5_1).f4) x8_3).f0).toList)) || (!(((rd_T106 ((rd_T104 l0 x5_1).f4) x8_3).f1) == ((rd_T106 ((rd_T104 l1 x5_1).f4) x8_3).f1)))) = false:=by simpa using c45
                clear c45
                have H':=zm H
                clear H
                have hnb49:=NB356_357.out
                have hnc49:=NB357_356.out
                have hcz50_0:=zc BK356.out 0 (.int .i64 ((rd_T104 l0 x5_1).f0)) rfl
                have hcz50_1:=zc BK356.out 1 (.bool ((rd_T104 l0 x5_1).f1)) rfl
                have hcz50_2:=zc BK356.out 2 (.int .i64 ((rd_T104 l0 x5_1).f2)) rfl
                have hcz50_3:=zc BK356.out 3 (.int .i64 ((rd_T104 l0 x5_1).f3)) rfl
                have hcz50_4:=zc BK356.out 4 (.slice A354_4 ((rd_T104 l0 x5_1).f4).length c354_4) rfl
                have hfz50_0:=zf BK356.out 0
                have hfz50_1:=zf BK356.out 1
                have hfz50_2:=zf BK356.out 2
                have hfz50_3:=zf BK356.out 3
                have hfz50_4:=zf BK356.out 4
                try go_wp2
                have n0_:=zm (ze BK356.out)
                have n1_:=zm (ze BK357.out)
                have n2_:=zm (zE HB.out)
                clear BK356 BK357 HB
                have BK356:=n0_
                have BK357:=n1_
                have HB:=n2_
                clear n0_ n1_ n2_
                have p358 : 0 ≤ (x8_3 : Int):=of_decide_eq_true (by first|(with_reducible assumption)|assumption)
                have q358 : x8_3 < (((rd_T104 l0 x5_1).f4).length : Int):=of_decide_eq_true (by first|(with_reducible assumption)|assumption)
                obtain ⟨ad358,e358,hx358_0,hx358_1⟩:=at_T106 HR354_4.out x8_3 p358 q358
                have hw358_1:=hx358_1
                have hw358_0:=hx358_0
                cases e358
                replace hx358_0:=(HB.out.cell (World.block_lt_of_cell? w _ hx358_0)).trans hx358_0
                replace hx358_1:=(HB.out.cell (World.block_lt_of_cell? w _ hx358_1)).trans hx358_1
                replace p358:=eq_true p358
                replace q358:=eq_true q358
                have p359 : 0 ≤ (x8_3 : Int):=of_decide_eq_true (by first|(with_reducible assumption)|assumption)
                have q359 : x8_3 < (((rd_T104 l1 x5_1).f4).length : Int):=of_decide_eq_true (by first|(with_reducible assumption)|assumption)
                obtain ⟨ad359,e359,hx359_0,hx359_1⟩:=at_T106 HR355_4.out x8_3 p359 q359
                have hw359_1:=hx359_1
                have hw359_0:=hx359_0
                cases e359
                replace hx359_0:=(HB.out.cell (World.block_lt_of_cell? w _ hx359_0)).trans hx359_0
                replace hx359_1:=(HB.out.cell (World.block_lt_of_cell? w _ hx359_1)).trans hx359_1
                replace p359:=eq_true p359
                replace q359:=eq_true q359
                refine start_ (n:=11) (S:=fun w'=>w'.cell? ⟨gb356,0,none⟩ = some (.int .i64 ((rd_T104 l0 x5_1).f0)) ∧ w'.cell? ⟨gb356,1,none⟩ = some (.bool ((rd_T104 l0 x5_1).f1)) ∧ w'.cell? ⟨gb356,2,none⟩ = some (.int .i64 ((rd_T104 l0 x5_1).f2)) ∧ w'.cell? ⟨gb356,3,none⟩ = some (.int .i64 ((rd_T104 l0 x5_1).f3)) ∧ w'.cell? ⟨gb356,4,none⟩ = some (.slice (some ad358) ((rd_T104 l0 x5_1).f4).length c354_4) ∧ w'.cell? ⟨gb357,0,none⟩ = some (.int .i64 ((rd_T104 l1 x5_1).f0)) ∧ w'.cell? ⟨gb357,1,none⟩ = some (.bool ((rd_T104 l1 x5_1).f1)) ∧ w'.cell? ⟨gb357,2,none⟩ = some (.int .i64 ((rd_T104 l1 x5_1).f2)) ∧ w'.cell? ⟨gb357,3,none⟩ = some (.int .i64 ((rd_T104 l1 x5_1).f3)) ∧ w'.cell? ⟨gb357,4,none⟩ = some (.slice (some ad359) ((rd_T104 l1 x5_1).f4).length c355_4) ∧ w'.cell? (ad358.add ((x8_3).toNat * 2)) = some (.string ((rd_T106 ((rd_T104 l0 x5_1).f4) x8_3).f0)) ∧ w'.cell? ⟨(ad358.add ((x8_3).toNat * 2)).block,(ad358.add ((x8_3).toNat * 2)).off + 1,none⟩ = some (.int .i64 ((rd_T106 ((rd_T104 l0 x5_1).f4) x8_3).f1)) ∧ w'.cell? (ad359.add ((x8_3).toNat * 2)) = some (.string ((rd_T106 ((rd_T104 l1 x5_1).f4) x8_3).f0)) ∧ w'.cell? ⟨(ad359.add ((x8_3).toNat * 2)).block,(ad359.add ((x8_3).toNat * 2)).off + 1,none⟩ = some (.int .i64 ((rd_T106 ((rd_T104 l1 x5_1).f4) x8_3).f1))) (ds:=[]) #[false,false,false,false,false,false,false,false,false,false,false] (by kernel_rfl) rfl rfl ⟨(blk_cell BK356.out 0).trans rfl,(blk_cell BK356.out 1).trans rfl,(blk_cell BK356.out 2).trans rfl,(blk_cell BK356.out 3).trans rfl,(blk_cell BK356.out 4).trans rfl,(blk_cell BK357.out 0).trans rfl,(blk_cell BK357.out 1).trans rfl,(blk_cell BK357.out 2).trans rfl,(blk_cell BK357.out 3).trans rfl,(blk_cell BK357.out 4).trans rfl,((HB.out.cell (World.block_lt_of_cell? w _ hw358_0)).trans hw358_0),((HB.out.cell (World.block_lt_of_cell? w _ hw358_1)).trans hw358_1),((HB.out.cell (World.block_lt_of_cell? w _ hw359_0)).trans hw359_0),((HB.out.cell (World.block_lt_of_cell? w _ hw359_1)).trans hw359_1)⟩ (fun hHeld=>?_);refine with_tabW metrolabref18_SameFrames.tab12 metrolabref18_SameFrames.bits12 (fun HT_ HW_=>?_)
                generalize wr.drew = w51 at BK356 BK357 HB hx358_0 hx358_1 hx359_0 hx359_1 hHeld ⊢
                refine pure_ (i:=0) (N:=some 70) (v:=?_) (a':=?_) #[true,false,false,false,false,false,false,false,false,false,false] rfl rfl (any_of HT_.out (by kernel_rfl)) (fun _ _ _ h=>h) (Or.inl ⟨by rfl,?_⟩) ?_ ?_
                rotate_left
                ·intro w'
                 go_simp
                 with_reducible rfl
                rotate_left
                ·simp only [Act.put,zx,zy,zz,i64_w,i32_w]
                 rfl
                refine pure_ (i:=2) (N:=some 72) (v:=?_) (a':=?_) #[true,false,true,false,false,false,false,false,false,false,false] rfl rfl (any_of HT_.out (by kernel_rfl)) (fun _ _ _ h=>h) (Or.inl ⟨by rfl,?_⟩) ?_ ?_
                rotate_left
                ·intro w'
                 go_simp
                 with_reducible rfl
                rotate_left
                ·simp only [Act.put,zx,zy,zz,i64_w,i32_w]
                 rfl
                refine pure_ (i:=5) (N:=some 75) (v:=?_) (a':=?_) #[true,false,true,false,false,true,false,false,false,false,false] rfl rfl (any_of HT_.out (by kernel_rfl)) (fun _ _ _ h=>h) (Or.inl ⟨by rfl,?_⟩) ?_ ?_
                rotate_left
                ·intro w'
                 go_simp
                 with_reducible rfl
                rotate_left
                ·simp only [Act.put,zx,zy,zz,i64_w,i32_w]
                 rfl
                refine pure_ (i:=7) (N:=some 77) (v:=?_) (a':=?_) #[true,false,true,false,false,true,false,true,false,false,false] rfl rfl (any_of HT_.out (by kernel_rfl)) (fun _ _ _ h=>h) (Or.inl ⟨by rfl,?_⟩) ?_ ?_
                rotate_left
                ·intro w'
                 go_simp
                 with_reducible rfl
                rotate_left
                ·simp only [Act.put,zx,zy,zz,i64_w,i32_w]
                 rfl
                refine take_ (i:=1) (N:=some 71) (v:=?_) (a':=?_) #[true,true,true,false,false,true,false,true,false,false,false] rfl rfl (take_ofW HT_.out HW_.out (by kernel_rfl)) (fun _ _ _ h=>h) (Or.inl ⟨by rfl,?_⟩) hHeld ?_ ?_
                rotate_left
                ·rintro w' ⟨s0,s1,s2,s3,s4,s5,s6,s7,s8,s9,s10,s11,s12,s13⟩
                 go_simp
                 with_reducible rfl
                rotate_left
                ·simp only [Act.put,zx,zy,zz,i64_w,i32_w]
                 rfl
                refine pure_ (i:=3) (N:=some 73) (v:=?_) (a':=?_) #[true,true,true,true,false,true,false,true,false,false,false] rfl rfl (any_of HT_.out (by kernel_rfl)) (fun _ _ _ h=>h) (Or.inl ⟨by rfl,?_⟩) ?_ ?_
                rotate_left
                ·intro w'
                 go_simp
                 with_reducible rfl
                rotate_left
                ·simp only [Act.put,zx,zy,zz,i64_w,i32_w]
                 rfl
                refine take_ (i:=4) (N:=some 74) (v:=?_) (a':=?_) #[true,true,true,true,true,true,false,true,false,false,false] rfl rfl (take_ofW HT_.out HW_.out (by kernel_rfl)) (fun _ _ _ h=>h) (Or.inl ⟨by rfl,?_⟩) hHeld ?_ ?_
                rotate_left
                ·rintro w' ⟨s0,s1,s2,s3,s4,s5,s6,s7,s8,s9,s10,s11,s12,s13⟩
                 go_simp
                 with_reducible rfl
                rotate_left
                ·simp only [Act.put,zx,zy,zz,i64_w,i32_w]
                 rfl
                refine take_ (i:=6) (N:=some 76) (v:=?_) (a':=?_) #[true,true,true,true,true,true,true,true,false,false,false] rfl rfl (take_ofW HT_.out HW_.out (by kernel_rfl)) (fun _ _ _ h=>h) (Or.inl ⟨by rfl,?_⟩) hHeld ?_ ?_
                rotate_left
                ·rintro w' ⟨s0,s1,s2,s3,s4,s5,s6,s7,s8,s9,s10,s11,s12,s13⟩
                 go_simp
                 with_reducible rfl
                rotate_left
                ·simp only [Act.put,zx,zy,zz,i64_w,i32_w]
                 rfl
                refine pure_ (i:=8) (N:=some 78) (v:=?_) (a':=?_) #[true,true,true,true,true,true,true,true,true,false,false] rfl rfl (any_of HT_.out (by kernel_rfl)) (fun _ _ _ h=>h) (Or.inl ⟨by rfl,?_⟩) ?_ ?_
                rotate_left
                ·intro w'
                 go_simp
                 with_reducible rfl
                rotate_left
                ·simp only [Act.put,zx,zy,zz,i64_w,i32_w]
                 rfl
                refine take_ (i:=9) (N:=some 79) (v:=?_) (a':=?_) #[true,true,true,true,true,true,true,true,true,true,false] rfl rfl (take_ofW HT_.out HW_.out (by kernel_rfl)) (fun _ _ _ h=>h) (Or.inl ⟨by rfl,?_⟩) hHeld ?_ ?_
                rotate_left
                ·rintro w' ⟨s0,s1,s2,s3,s4,s5,s6,s7,s8,s9,s10,s11,s12,s13⟩
                 go_simp
                 with_reducible rfl
                rotate_left
                ·simp only [Act.put,zx,zy,zz,i64_w,i32_w]
                 rfl
                refine pure_ (i:=10) (N:=some 80) (v:=?_) (a':=?_) #[true,true,true,true,true,true,true,true,true,true,true] rfl rfl (any_of HT_.out (by kernel_rfl)) (fun _ _ _ h=>h) (Or.inl ⟨by rfl,?_⟩) ?_ ?_
                rotate_left
                ·intro w'
                 go_simp
                 with_reducible rfl
                rotate_left
                ·simp only [Act.put,zx,zy,zz,i64_w,i32_w]
                 rfl
                refine done_ (done_of HT_.out (by kernel_rfl)) ?_
                try go_wp2
                go_roundg k3
                case measure=>have:=HK1.out;have:=HJ6.out;have:=HK3.out;omega
                case rel=>exact ⟨(wrap64 (x8_3 + 1)),(by first|rfl|(simp;done)|(simp [*];done)),H',⟨by have:=HK1.out;have:=HJ6.out;have:=HK3.out;omega⟩,⟨by (with_reducible repeat first|apply zd|apply ze|apply za);exact BK356.out⟩,⟨by (with_reducible repeat first|apply zd|apply ze|apply za);exact BK357.out⟩,⟨by repeat (first|(with_reducible first|exact HB.out|apply zA|apply zD|apply zE|refine zS ?_ GE356.out|refine zS ?_ GE357.out)|exact HB.out)⟩⟩
              ·rw [if_neg c44] at H
               exact absurd H (by simp)
             ·rw [if_neg c43] at H
              exact absurd H (by simp)
            ·rw [if_neg c42] at H
             have c42b0 : decide (x8_3 < (((rd_T104 l0 x5_1).f4).length : Int)) = false:=decide_eq_false c42
             clear c42
             have H':=zm H
             clear H
             have hnb52:=NB356_357.out
             have hnc52:=NB357_356.out
             have hcz53_0:=zc BK356.out 0 (.int .i64 ((rd_T104 l0 x5_1).f0)) rfl
             have hcz53_1:=zc BK356.out 1 (.bool ((rd_T104 l0 x5_1).f1)) rfl
             have hcz53_2:=zc BK356.out 2 (.int .i64 ((rd_T104 l0 x5_1).f2)) rfl
             have hcz53_3:=zc BK356.out 3 (.int .i64 ((rd_T104 l0 x5_1).f3)) rfl
             have hcz53_4:=zc BK356.out 4 (.slice A354_4 ((rd_T104 l0 x5_1).f4).length c354_4) rfl
             have hfz53_0:=zf BK356.out 0
             have hfz53_1:=zf BK356.out 1
             have hfz53_2:=zf BK356.out 2
             have hfz53_3:=zf BK356.out 3
             have hfz53_4:=zf BK356.out 4
             go_wp2
             go_roundg k3
             case measure=>have:=HK1.out;have:=HJ6.out;have:=HK3.out;omega
             case rel=>exact ⟨(wrap64 (x5_1 + 1)),(by first|rfl|(simp;done)|(simp [*];done)),H',⟨by have:=HK1.out;have:=HJ6.out;have:=HK3.out;omega⟩,⟨by repeat (first|(with_reducible first|exact HB.out|apply zA|apply zD|apply zE|refine zS ?_ GE356.out|refine zS ?_ GE357.out)|exact HB.out)⟩⟩
      ·rw [if_neg c6] at H
       exact absurd H (by simp)
     ·rw [if_neg c5] at H
      exact absurd H (by simp)
    ·rw [if_neg c4] at H
     have c4b0 : decide (x5_1 < (l0.length : Int)) = false:=decide_eq_false c4
     clear c4
     obtain rfl:=Option.some.inj H
     go_wp2
     go_ret
     exact ⟨by first|rfl|(simp [errW_none,errW_some] <;> rfl)|(simp [*,errW_none,errW_some] <;> rfl),by repeat (first|(with_reducible first|exact HB.out|apply zA|apply zD|apply zE)|exact HB.out)⟩
 ·rw [if_neg c3] at H
  have c3b0 : ((l0.length : Int) == (l1.length : Int)) = false:=beq_eq_false_iff_ne.mpr c3
  have c3b1 : ((l0.length : Int) != (l1.length : Int)) = true:=bne_iff_ne.mpr c3
  have c3b2 : (l0.length == l1.length) = false:=by first|simpa using c3|(simp at c3 ⊢;omega)
  obtain rfl:=Option.some.inj H
  go_enter Try.func101,Try.ntmps101
  go_wp2
  go_ret
  exact ⟨by first|rfl|(simp [errW_none,errW_some] <;> rfl)|(simp [*,errW_none,errW_some] <;> rfl),by repeat (first|(with_reducible first|exact HB.out|apply zA|apply zD|apply zE)|exact HB.out)⟩
end Go.Proofs.Ytkgdlbepjmgaiaa.Fea
namespace Go.Proofs.Ytkgdlbepjmgaiaa.Fea
open Go.RowKit Go.Proofs.YtkgdlbepjmgaiaaW.PrintWords Go.Proofs.YtkgdlbepjmgaiaaW.PrintLast Go.Proofs.YtkgdlbepjmgaiaaW.PrintMore
attribute [local go_sem] max2_int min2_int max_two min_two max_three min_three max_four min_four
set_option linter.unusedVariables false
set_option linter.unusedSimpArgs false
attribute [local go_sem high] eqA23 eqA25
def metrolabref18_Same.f (k : Nat) (a0_0 : ByteArray) (a0_1 : Int) (a0_2 : Int) (a0_3 : Int) (a0_4 : Int) (a0_5 : Int) (a0_6 : Int) (a0_7 : Int) (l0_8 : List (S104)) (a1_0 : ByteArray) (a1_1 : Int) (a1_2 : Int) (a1_3 : Int) (a1_4 : Int) (a1_5 : Int) (a1_6 : Int) (a1_7 : Int) (l1_8 : List (S104)) : Option (Bool) := if a0_0.toList = a1_0.toList then (if a0_1 = a1_1 then (if a0_2 = a1_2 then (if (a0_3 == a1_3 && (a0_4 == a1_4 && (a0_5 == a1_5))) = true then (if (a0_6 == a1_6 && (a0_7 == a1_7)) = true then ((metrolabref18_SameFrames.f k l0_8 l1_8).bind fun t362 => (some t362)) else (some false)) else (some false)) else (some false)) else (some false)) else (some false)
theorem metrolabref18_Same.mono : ∀ a0 a1 a2 a3 a4 a5 a6 a7 a8 a9 a10 a11 a12 a13 a14 a15 a16 a17 k, LeO (metrolabref18_Same.f k a0 a1 a2 a3 a4 a5 a6 a7 a8 a9 a10 a11 a12 a13 a14 a15 a16 a17) (metrolabref18_Same.f (k + 1) a0 a1 a2 a3 a4 a5 a6 a7 a8 a9 a10 a11 a12 a13 a14 a15 a16 a17) := by
 intro a0 a1 a2 a3 a4 a5 a6 a7 a8 a9 a10 a11 a12 a13 a14 a15 a16 a17 k
 unfold metrolabref18_Same.f
 repeat' first
  | (with_reducible exact metrolabref18_SameFrames.mono _ _ _)
  | (with_reducible exact LeO.refl _)
  | (with_reducible exact LeO.none _)
  | (with_reducible refine LeO.ite ?_ ?_)
  | (with_reducible refine LeO.bind ?_ (fun _ => ?_))
  | exact metrolabref18_SameFrames.mono _ _ _
  | exact LeO.none _
  | refine LeO.ite ?_ ?_
  | refine LeO.bind ?_ (fun _ => ?_)
set_option maxHeartbeats 8000000 in
set_option maxRecDepth 100000 in
theorem metrolabref18_Same.calls (k : Nat) (a0_0 : ByteArray) (a0_1 : Int) (a0_2 : Int) (a0_3 : Int) (a0_4 : Int) (a0_5 : Int) (a0_6 : Int) (a0_7 : Int) (A0_8 : Option Addr) (c0_8 : Nat) (l0_8 : List (S104)) (a1_0 : ByteArray) (a1_1 : Int) (a1_2 : Int) (a1_3 : Int) (a1_4 : Int) (a1_5 : Int) (a1_6 : Int) (a1_7 : Int) (A1_8 : Option Addr) (c1_8 : Nat) (l1_8 : List (S104)) (r : Bool) (w : World) (hr0_8 : Kd.C k104 w A0_8 l0_8.length l0_8) (hc0_8 : l0_8.length ≤ c0_8) (hr1_8 : Kd.C k104 w A1_8 l1_8.length l1_8) (hc1_8 : l1_8.length ≤ c1_8) (h : metrolabref18_Same.f k a0_0 a0_1 a0_2 a0_3 a0_4 a0_5 a0_6 a0_7 l0_8 a1_0 a1_1 a1_2 a1_3 a1_4 a1_5 a1_6 a1_7 l1_8 = some r) :
 Calls Try.prog 49 #[.agg #[.string a0_0,.int .i64 a0_1,.int .i64 a0_2,.int .i64 a0_3,.int .i64 a0_4,.int .i64 a0_5,.int .i64 a0_6,.int .i64 a0_7,.slice A0_8 l0_8.length c0_8],.agg #[.string a1_0,.int .i64 a1_1,.int .i64 a1_2,.int .i64 a1_3,.int .i64 a1_4,.int .i64 a1_5,.int .i64 a1_6,.int .i64 a1_7,.slice A1_8 l1_8.length c1_8]] w fun e w'=>e = .returned (.bool r) ∧ Below w.heap.size w w':=by
 have hu28:=Try.underlying28
 have hu23:=Try.underlying23
 have hu25:=Try.underlying25
 have HR0_8:=zm hr0_8
 have HC0_8:=zm hc0_8
 clear hr0_8 hc0_8
 have HR1_8:=zm hr1_8
 have HC1_8:=zm hc1_8
 clear hr1_8 hc1_8
 have HB:=zm (Below.refl w.heap.size w)
 have H : (if a0_0.toList = a1_0.toList then (if a0_1 = a1_1 then (if a0_2 = a1_2 then (if (a0_3 == a1_3 && (a0_4 == a1_4 && (a0_5 == a1_5))) = true then (if (a0_6 == a1_6 && (a0_7 == a1_7)) = true then ((metrolabref18_SameFrames.f k l0_8 l1_8).bind fun t362=>(some t362)) else (some false)) else (some false)) else (some false)) else (some false)) else (some false)) = some r:=h
 clear h
 by_cases c3 : a0_0.toList = a1_0.toList
 ·rw [if_pos c3] at H
  have c3b0 : (a0_0.toList == a1_0.toList) = true:=beq_iff_eq.mpr c3
  have c3b1 : (a0_0.toList != a1_0.toList) = false:=bne_eq_false_iff_eq.mpr c3
  clear c3
  by_cases c4 : a0_1 = a1_1
  ·rw [if_pos c4] at H
   have c4b0 : (a0_1 == a1_1) = true:=beq_iff_eq.mpr c4
   have c4b1 : (a0_1 != a1_1) = false:=bne_eq_false_iff_eq.mpr c4
   clear c4
   by_cases c5 : a0_2 = a1_2
   ·rw [if_pos c5] at H
    have c5b0 : (a0_2 == a1_2) = true:=beq_iff_eq.mpr c5
    have c5b1 : (a0_2 != a1_2) = false:=bne_eq_false_iff_eq.mpr c5
    clear c5
    by_cases c6 : (a0_3 == a1_3 && (a0_4 == a1_4 && (a0_5 == a1_5))) = true
    ·rw [if_pos c6] at H
     have c6b0 : (a0_3 == a1_3 && (a0_4 == a1_4 && (a0_5 == a1_5))) = true:=c6
     (try (have c6b1 : decide (a0_3 = a1_3 && (a0_4 == a1_4 && (a0_5 == a1_5))) = true:=by simpa using c6))
     (try (have c6b2 : (a0_3 == a1_3 && (a0_4 == a1_4 && (a0_5 == a1_5))) = true:=by simpa using c6))
     clear c6
     by_cases c7 : (a0_6 == a1_6 && (a0_7 == a1_7)) = true
     ·rw [if_pos c7] at H
      have c7b0 : (a0_6 == a1_6 && (a0_7 == a1_7)) = true:=c7
      (try (have c7b1 : decide (a0_6 = a1_6 && (a0_7 == a1_7)) = true:=by simpa using c7))
      (try (have c7b2 : (a0_6 == a1_6 && (a0_7 == a1_7)) = true:=by simpa using c7))
      clear c7
      replace H:=Option.bind_eq_some_iff.mp H
      obtain ⟨t362,A80,H⟩:=H
      replace H : (some t362) = some r:=H
      have A8:=zm A80
      clear A80
      obtain rfl:=Option.some.inj H
      go_enter Try.func49,Try.ntmps49
      go_wp2_with (first|((with_reducible refine gate_dst (N:=2) rfl ?_);refine box_event ?hg (N:=2) ?hd (cs:=#[.string a0_0,.int .i64 a0_1,.int .i64 a0_2,.int .i64 a0_3,.int .i64 a0_4,.int .i64 a0_5,.int .i64 a0_6,.int .i64 a0_7,.slice A0_8 l0_8.length c0_8]) (t:=28) ?hr ?_;(case hd=>rfl);(case hg=>rfl);(case hr=>first|(go_simp;done)|(go_simp;rfl));intro gb360 hg w9 hbox hb;have n0_:=zm (below_step (by repeat (first|(with_reducible first|exact HB.out|apply zA|apply zD|apply zE)|exact HB.out)) hb);have n1_:=zm (hbox);have n2_:=zm ((by rw [hg];exact (below_size (by repeat (first|(with_reducible first|exact HB.out|apply zA|apply zD|apply zE)|exact HB.out))) : w.heap.size ≤ gb360));have n3_:=zm ((by rw [hg];exact (below_size (by repeat (first|(with_reducible first|exact HB.out|apply zA|apply zD|apply zE)|exact HB.out))) : w.heap.size ≤ gb360));clear HB;have HB:=n0_;have BK360:=n1_;have GW360:=n2_;have GE360:=n3_;clear n0_ n1_ n2_ n3_;clear hb hbox hg)|((with_reducible refine gate_dst (N:=3) rfl ?_);refine box_event ?hg (N:=3) ?hd (cs:=#[.string a1_0,.int .i64 a1_1,.int .i64 a1_2,.int .i64 a1_3,.int .i64 a1_4,.int .i64 a1_5,.int .i64 a1_6,.int .i64 a1_7,.slice A1_8 l1_8.length c1_8]) (t:=28) ?hr ?_;(case hd=>rfl);(case hg=>rfl);(case hr=>first|(go_simp;done)|(go_simp;rfl));intro gb361 hg w10 hbox hb;have n0_:=zm (zb (g:=gb360) (o:=.cells #[.string a0_0,.int .i64 a0_1,.int .i64 a0_2,.int .i64 a0_3,.int .i64 a0_4,.int .i64 a0_5,.int .i64 a0_6,.int .i64 a0_7,.slice A0_8 l0_8.length c0_8] 28 (0,0)) (by (with_reducible repeat first|apply zd|apply ze|apply za);exact BK360.out) hb);have n1_:=zm (below_step (by repeat (first|(with_reducible first|exact HB.out|apply zA|apply zD|apply zE|refine zS ?_ GE360.out)|exact HB.out)) hb);have n2_:=zm (hbox);have n3_:=zm ((by rw [hg];exact (below_size (by repeat (first|(with_reducible first|exact HB.out|apply zA|apply zD|apply zE|refine zS ?_ GE360.out)|exact HB.out))) : w.heap.size ≤ gb361));have n4_:=zm ((by rw [hg];exact (below_size (by repeat (first|(with_reducible first|exact HB.out|apply zA|apply zD|apply zE|refine zS ?_ GE360.out)|exact HB.out))) : w.heap.size ≤ gb361));have n5_:=zm ((by rw [hg];exact Nat.ne_of_lt (blk_lt (g:=gb360) (o:=.cells #[.string a0_0,.int .i64 a0_1,.int .i64 a0_2,.int .i64 a0_3,.int .i64 a0_4,.int .i64 a0_5,.int .i64 a0_6,.int .i64 a0_7,.slice A0_8 l0_8.length c0_8] 28 (0,0)) (by (with_reducible repeat first|apply zd|apply ze|apply za);exact BK360.out)) : gb360 ≠ gb361));have n6_:=zm ((by rw [hg];exact Nat.ne_of_gt (blk_lt (g:=gb360) (o:=.cells #[.string a0_0,.int .i64 a0_1,.int .i64 a0_2,.int .i64 a0_3,.int .i64 a0_4,.int .i64 a0_5,.int .i64 a0_6,.int .i64 a0_7,.slice A0_8 l0_8.length c0_8] 28 (0,0)) (by (with_reducible repeat first|apply zd|apply ze|apply za);exact BK360.out)) : gb361 ≠ gb360));clear BK360 HB;have BK360:=n0_;have HB:=n1_;have BK361:=n2_;have GW361:=n3_;have GE361:=n4_;have NB360_361:=n5_;have NB361_360:=n6_;clear n0_ n1_ n2_ n3_ n4_ n5_ n6_;clear hb hbox hg;have hnb11:=NB360_361.out;have hnc11:=NB361_360.out;have hcz12_0:=zc BK360.out 0 (.string a0_0) rfl;have hcz12_1:=zc BK360.out 1 (.int .i64 a0_1) rfl;have hcz12_2:=zc BK360.out 2 (.int .i64 a0_2) rfl;have hcz12_3:=zc BK360.out 3 (.int .i64 a0_3) rfl;have hcz12_4:=zc BK360.out 4 (.int .i64 a0_4) rfl;have hcz12_5:=zc BK360.out 5 (.int .i64 a0_5) rfl;have hcz12_6:=zc BK360.out 6 (.int .i64 a0_6) rfl;have hcz12_7:=zc BK360.out 7 (.int .i64 a0_7) rfl;have hcz12_8:=zc BK360.out 8 (.slice A0_8 l0_8.length c0_8) rfl;have hfz12_0:=zf BK360.out 0;have hfz12_1:=zf BK360.out 1;have hfz12_2:=zf BK360.out 2;have hfz12_3:=zf BK360.out 3;have hfz12_4:=zf BK360.out 4;have hfz12_5:=zf BK360.out 5;have hfz12_6:=zf BK360.out 6;have hfz12_7:=zf BK360.out 7;have hfz12_8:=zf BK360.out 8;have hcz13_0:=zc BK361.out 0 (.string a1_0) rfl;have hcz13_1:=zc BK361.out 1 (.int .i64 a1_1) rfl;have hcz13_2:=zc BK361.out 2 (.int .i64 a1_2) rfl;have hcz13_3:=zc BK361.out 3 (.int .i64 a1_3) rfl;have hcz13_4:=zc BK361.out 4 (.int .i64 a1_4) rfl;have hcz13_5:=zc BK361.out 5 (.int .i64 a1_5) rfl;have hcz13_6:=zc BK361.out 6 (.int .i64 a1_6) rfl;have hcz13_7:=zc BK361.out 7 (.int .i64 a1_7) rfl;have hcz13_8:=zc BK361.out 8 (.slice A1_8 l1_8.length c1_8) rfl;have hfz13_0:=zf BK361.out 0;have hfz13_1:=zf BK361.out 1;have hfz13_2:=zf BK361.out 2;have hfz13_3:=zf BK361.out 3;have hfz13_4:=zf BK361.out 4;have hfz13_5:=zf BK361.out 5;have hfz13_6:=zf BK361.out 6;have hfz13_7:=zf BK361.out 7;have hfz13_8:=zf BK361.out 8)|(go_at_call 101;(with_reducible refine (metrolabref18_SameFrames.calls k _ _ l0_8 _ _ l1_8 t362 _ ?side1 ?side2 ?side3 ?side4 A8.out).mono ?_);(case side1=>repeat (first|exact (Kd.C_below HR0_8.out HB.out)|(with_reducible refine Kd.C_alloc ?_ _)|(with_reducible refine Kd.C_drewN ?_ _)|(with_reducible refine Kd.C_drew ?_)));(case side2=>exact HC0_8.out);(case side3=>repeat (first|exact (Kd.C_below HR1_8.out HB.out)|(with_reducible refine Kd.C_alloc ?_ _)|(with_reducible refine Kd.C_drewN ?_ _)|(with_reducible refine Kd.C_drew ?_)));(case side4=>exact HC1_8.out);rintro e w14 ⟨rfl,hb⟩;have n0_:=zm (zb (g:=gb360) (o:=.cells #[.string a0_0,.int .i64 a0_1,.int .i64 a0_2,.int .i64 a0_3,.int .i64 a0_4,.int .i64 a0_5,.int .i64 a0_6,.int .i64 a0_7,.slice A0_8 l0_8.length c0_8] 28 (0,0)) (by (with_reducible repeat first|apply zd|apply ze|apply za);exact BK360.out) hb);have n1_:=zm (zb (g:=gb361) (o:=.cells #[.string a1_0,.int .i64 a1_1,.int .i64 a1_2,.int .i64 a1_3,.int .i64 a1_4,.int .i64 a1_5,.int .i64 a1_6,.int .i64 a1_7,.slice A1_8 l1_8.length c1_8] 28 (0,0)) (by (with_reducible repeat first|apply zd|apply ze|apply za);exact BK361.out) hb);have n2_:=zm (below_step (by repeat (first|(with_reducible first|exact HB.out|apply zA|apply zD|apply zE|refine zS ?_ GE360.out|refine zS ?_ GE361.out)|exact HB.out)) hb);clear BK360 BK361 HB;have BK360:=n0_;have BK361:=n1_;have HB:=n2_;clear n0_ n1_ n2_;(try clear hb);(try clear hb2);(try clear hk);(try clear hi)))
      go_ret
      exact ⟨by first|rfl|(simp [errW_none,errW_some] <;> rfl)|(simp [*,errW_none,errW_some] <;> rfl),by repeat (first|(with_reducible first|exact HB.out|apply zA|apply zD|apply zE|refine zS ?_ GE360.out|refine zS ?_ GE361.out)|exact HB.out)⟩
     ·rw [if_neg c7] at H
      have c7b0 : (a0_6 == a1_6 && (a0_7 == a1_7)) = false:=by simpa using c7
      (try (have c7b1 : decide (a0_6 = a1_6 && (a0_7 == a1_7)) = false:=by simpa using c7))
      (try (have c7b2 : (a0_6 == a1_6 && (a0_7 == a1_7)) = false:=by simpa using c7))
      (try (have c7b3 : ¬ (a0_6 = a1_6 && (a0_7 == a1_7)):=by simpa using c7))
      clear c7
      obtain rfl:=Option.some.inj H
      go_enter Try.func49,Try.ntmps49
      go_wp2_with (first|((with_reducible refine gate_dst (N:=2) rfl ?_);refine box_event ?hg (N:=2) ?hd (cs:=#[.string a0_0,.int .i64 a0_1,.int .i64 a0_2,.int .i64 a0_3,.int .i64 a0_4,.int .i64 a0_5,.int .i64 a0_6,.int .i64 a0_7,.slice A0_8 l0_8.length c0_8]) (t:=28) ?hr ?_;(case hd=>rfl);(case hg=>rfl);(case hr=>first|(go_simp;done)|(go_simp;rfl));intro gb360 hg w15 hbox hb;have n0_:=zm (below_step (by repeat (first|(with_reducible first|exact HB.out|apply zA|apply zD|apply zE)|exact HB.out)) hb);have n1_:=zm (hbox);have n2_:=zm ((by rw [hg];exact (below_size (by repeat (first|(with_reducible first|exact HB.out|apply zA|apply zD|apply zE)|exact HB.out))) : w.heap.size ≤ gb360));have n3_:=zm ((by rw [hg];exact (below_size (by repeat (first|(with_reducible first|exact HB.out|apply zA|apply zD|apply zE)|exact HB.out))) : w.heap.size ≤ gb360));clear HB;have HB:=n0_;have BK360:=n1_;have GW360:=n2_;have GE360:=n3_;clear n0_ n1_ n2_ n3_;clear hb hbox hg)|((with_reducible refine gate_dst (N:=3) rfl ?_);refine box_event ?hg (N:=3) ?hd (cs:=#[.string a1_0,.int .i64 a1_1,.int .i64 a1_2,.int .i64 a1_3,.int .i64 a1_4,.int .i64 a1_5,.int .i64 a1_6,.int .i64 a1_7,.slice A1_8 l1_8.length c1_8]) (t:=28) ?hr ?_;(case hd=>rfl);(case hg=>rfl);(case hr=>first|(go_simp;done)|(go_simp;rfl));intro gb361 hg w16 hbox hb;have n0_:=zm (zb (g:=gb360) (o:=.cells #[.string a0_0,.int .i64 a0_1,.int .i64 a0_2,.int .i64 a0_3,.int .i64 a0_4,.int .i64 a0_5,.int .i64 a0_6,.int .i64 a0_7,.slice A0_8 l0_8.length c0_8] 28 (0,0)) (by (with_reducible repeat first|apply zd|apply ze|apply za);exact BK360.out) hb);have n1_:=zm (below_step (by repeat (first|(with_reducible first|exact HB.out|apply zA|apply zD|apply zE|refine zS ?_ GE360.out)|exact HB.out)) hb);have n2_:=zm (hbox);have n3_:=zm ((by rw [hg];exact (below_size (by repeat (first|(with_reducible first|exact HB.out|apply zA|apply zD|apply zE|refine zS ?_ GE360.out)|exact HB.out))) : w.heap.size ≤ gb361));have n4_:=zm ((by rw [hg];exact (below_size (by repeat (first|(with_reducible first|exact HB.out|apply zA|apply zD|apply zE|refine zS ?_ GE360.out)|exact HB.out))) : w.heap.size ≤ gb361));have n5_:=zm ((by rw [hg];exact Nat.ne_of_lt (blk_lt (g:=gb360) (o:=.cells #[.string a0_0,.int .i64 a0_1,.int .i64 a0_2,.int .i64 a0_3,.int .i64 a0_4,.int .i64 a0_5,.int .i64 a0_6,.int .i64 a0_7,.slice A0_8 l0_8.length c0_8] 28 (0,0)) (by (with_reducible repeat first|apply zd|apply ze|apply za);exact BK360.out)) : gb360 ≠ gb361));have n6_:=zm ((by rw [hg];exact Nat.ne_of_gt (blk_lt (g:=gb360) (o:=.cells #[.string a0_0,.int .i64 a0_1,.int .i64 a0_2,.int .i64 a0_3,.int .i64 a0_4,.int .i64 a0_5,.int .i64 a0_6,.int .i64 a0_7,.slice A0_8 l0_8.length c0_8] 28 (0,0)) (by (with_reducible repeat first|apply zd|apply ze|apply za);exact BK360.out)) : gb361 ≠ gb360));clear BK360 HB;have BK360:=n0_;have HB:=n1_;have BK361:=n2_;have GW361:=n3_;have GE361:=n4_;have NB360_361:=n5_;have NB361_360:=n6_;clear n0_ n1_ n2_ n3_ n4_ n5_ n6_;clear hb hbox hg;have hnb17:=NB360_361.out;have hnc17:=NB361_360.out;have hcz18_0:=zc BK360.out 0 (.string a0_0) rfl;have hcz18_1:=zc BK360.out 1 (.int .i64 a0_1) rfl;have hcz18_2:=zc BK360.out 2 (.int .i64 a0_2) rfl;have hcz18_3:=zc BK360.out 3 (.int .i64 a0_3) rfl;have hcz18_4:=zc BK360.out 4 (.int .i64 a0_4) rfl;have hcz18_5:=zc BK360.out 5 (.int .i64 a0_5) rfl;have hcz18_6:=zc BK360.out 6 (.int .i64 a0_6) rfl;have hcz18_7:=zc BK360.out 7 (.int .i64 a0_7) rfl;have hcz18_8:=zc BK360.out 8 (.slice A0_8 l0_8.length c0_8) rfl;have hfz18_0:=zf BK360.out 0;have hfz18_1:=zf BK360.out 1;have hfz18_2:=zf BK360.out 2;have hfz18_3:=zf BK360.out 3;have hfz18_4:=zf BK360.out 4;have hfz18_5:=zf BK360.out 5;have hfz18_6:=zf BK360.out 6;have hfz18_7:=zf BK360.out 7;have hfz18_8:=zf BK360.out 8;have hcz19_0:=zc BK361.out 0 (.string a1_0) rfl;have hcz19_1:=zc BK361.out 1 (.int .i64 a1_1) rfl;have hcz19_2:=zc BK361.out 2 (.int .i64 a1_2) rfl;have hcz19_3:=zc BK361.out 3 (.int .i64 a1_3) rfl;have hcz19_4:=zc BK361.out 4 (.int .i64 a1_4) rfl;have hcz19_5:=zc BK361.out 5 (.int .i64 a1_5) rfl;have hcz19_6:=zc BK361.out 6 (.int .i64 a1_6) rfl;have hcz19_7:=zc BK361.out 7 (.int .i64 a1_7) rfl;have hcz19_8:=zc BK361.out 8 (.slice A1_8 l1_8.length c1_8) rfl;have hfz19_0:=zf BK361.out 0;have hfz19_1:=zf BK361.out 1;have hfz19_2:=zf BK361.out 2;have hfz19_3:=zf BK361.out 3;have hfz19_4:=zf BK361.out 4;have hfz19_5:=zf BK361.out 5;have hfz19_6:=zf BK361.out 6;have hfz19_7:=zf BK361.out 7;have hfz19_8:=zf BK361.out 8))
      go_ret
      exact ⟨by first|rfl|(simp [errW_none,errW_some] <;> rfl)|(simp [*,errW_none,errW_some] <;> rfl),by repeat (first|(with_reducible first|exact HB.out|apply zA|apply zD|apply zE|refine zS ?_ GE360.out|refine zS ?_ GE361.out)|exact HB.out)⟩
    ·rw [if_neg c6] at H
     have c6b0 : (a0_3 == a1_3 && (a0_4 == a1_4 && (a0_5 == a1_5))) = false:=by simpa using c6
     (try (have c6b1 : decide (a0_3 = a1_3 && (a0_4 == a1_4 && (a0_5 == a1_5))) = false:=by simpa using c6))
     (try (have c6b2 : (a0_3 == a1_3 && (a0_4 == a1_4 && (a0_5 == a1_5))) = false:=by simpa using c6))
     (try (have c6b3 : ¬ (a0_3 = a1_3 && (a0_4 == a1_4 && (a0_5 == a1_5))):=by simpa using c6))
     clear c6
     obtain rfl:=Option.some.inj H
     go_enter Try.func49,Try.ntmps49
     go_wp2_with (first|((with_reducible refine gate_dst (N:=2) rfl ?_);refine box_event ?hg (N:=2) ?hd (cs:=#[.string a0_0,.int .i64 a0_1,.int .i64 a0_2,.int .i64 a0_3,.int .i64 a0_4,.int .i64 a0_5,.int .i64 a0_6,.int .i64 a0_7,.slice A0_8 l0_8.length c0_8]) (t:=28) ?hr ?_;(case hd=>rfl);(case hg=>rfl);(case hr=>first|(go_simp;done)|(go_simp;rfl));intro gb360 hg w20 hbox hb;have n0_:=zm (below_step (by repeat (first|(with_reducible first|exact HB.out|apply zA|apply zD|apply zE)|exact HB.out)) hb);have n1_:=zm (hbox);have n2_:=zm ((by rw [hg];exact (below_size (by repeat (first|(with_reducible first|exact HB.out|apply zA|apply zD|apply zE)|exact HB.out))) : w.heap.size ≤ gb360));have n3_:=zm ((by rw [hg];exact (below_size (by repeat (first|(with_reducible first|exact HB.out|apply zA|apply zD|apply zE)|exact HB.out))) : w.heap.size ≤ gb360));clear HB;have HB:=n0_;have BK360:=n1_;have GW360:=n2_;have GE360:=n3_;clear n0_ n1_ n2_ n3_;clear hb hbox hg)|((with_reducible refine gate_dst (N:=3) rfl ?_);refine box_event ?hg (N:=3) ?hd (cs:=#[.string a1_0,.int .i64 a1_1,.int .i64 a1_2,.int .i64 a1_3,.int .i64 a1_4,.int .i64 a1_5,.int .i64 a1_6,.int .i64 a1_7,.slice A1_8 l1_8.length c1_8]) (t:=28) ?hr ?_;(case hd=>rfl);(case hg=>rfl);(case hr=>first|(go_simp;done)|(go_simp;rfl));intro gb361 hg w21 hbox hb;have n0_:=zm (zb (g:=gb360) (o:=.cells #[.string a0_0,.int .i64 a0_1,.int .i64 a0_2,.int .i64 a0_3,.int .i64 a0_4,.int .i64 a0_5,.int .i64 a0_6,.int .i64 a0_7,.slice A0_8 l0_8.length c0_8] 28 (0,0)) (by (with_reducible repeat first|apply zd|apply ze|apply za);exact BK360.out) hb);have n1_:=zm (below_step (by repeat (first|(with_reducible first|exact HB.out|apply zA|apply zD|apply zE|refine zS ?_ GE360.out)|exact HB.out)) hb);have n2_:=zm (hbox);have n3_:=zm ((by rw [hg];exact (below_size (by repeat (first|(with_reducible first|exact HB.out|apply zA|apply zD|apply zE|refine zS ?_ GE360.out)|exact HB.out))) : w.heap.size ≤ gb361));have n4_:=zm ((by rw [hg];exact (below_size (by repeat (first|(with_reducible first|exact HB.out|apply zA|apply zD|apply zE|refine zS ?_ GE360.out)|exact HB.out))) : w.heap.size ≤ gb361));have n5_:=zm ((by rw [hg];exact Nat.ne_of_lt (blk_lt (g:=gb360) (o:=.cells #[.string a0_0,.int .i64 a0_1,.int .i64 a0_2,.int .i64 a0_3,.int .i64 a0_4,.int .i64 a0_5,.int .i64 a0_6,.int .i64 a0_7,.slice A0_8 l0_8.length c0_8] 28 (0,0)) (by (with_reducible repeat first|apply zd|apply ze|apply za);exact BK360.out)) : gb360 ≠ gb361));have n6_:=zm ((by rw [hg];exact Nat.ne_of_gt (blk_lt (g:=gb360) (o:=.cells #[.string a0_0,.int .i64 a0_1,.int .i64 a0_2,.int .i64 a0_3,.int .i64 a0_4,.int .i64 a0_5,.int .i64 a0_6,.int .i64 a0_7,.slice A0_8 l0_8.length c0_8] 28 (0,0)) (by (with_reducible repeat first|apply zd|apply ze|apply za);exact BK360.out)) : gb361 ≠ gb360));clear BK360 HB;have BK360:=n0_;have HB:=n1_;have BK361:=n2_;have GW361:=n3_;have GE361:=n4_;have NB360_361:=n5_;have NB361_360:=n6_;clear n0_ n1_ n2_ n3_ n4_ n5_ n6_;clear hb hbox hg;have hnb22:=NB360_361.out;have hnc22:=NB361_360.out;have hcz23_0:=zc BK360.out 0 (.string a0_0) rfl;have hcz23_1:=zc BK360.out 1 (.int .i64 a0_1) rfl;have hcz23_2:=zc BK360.out 2 (.int .i64 a0_2) rfl;have hcz23_3:=zc BK360.out 3 (.int .i64 a0_3) rfl;have hcz23_4:=zc BK360.out 4 (.int .i64 a0_4) rfl;have hcz23_5:=zc BK360.out 5 (.int .i64 a0_5) rfl;have hcz23_6:=zc BK360.out 6 (.int .i64 a0_6) rfl;have hcz23_7:=zc BK360.out 7 (.int .i64 a0_7) rfl;have hcz23_8:=zc BK360.out 8 (.slice A0_8 l0_8.length c0_8) rfl;have hfz23_0:=zf BK360.out 0;have hfz23_1:=zf BK360.out 1;have hfz23_2:=zf BK360.out 2;have hfz23_3:=zf BK360.out 3;have hfz23_4:=zf BK360.out 4;have hfz23_5:=zf BK360.out 5;have hfz23_6:=zf BK360.out 6;have hfz23_7:=zf BK360.out 7;have hfz23_8:=zf BK360.out 8;have hcz24_0:=zc BK361.out 0 (.string a1_0) rfl;have hcz24_1:=zc BK361.out 1 (.int .i64 a1_1) rfl;have hcz24_2:=zc BK361.out 2 (.int .i64 a1_2) rfl;have hcz24_3:=zc BK361.out 3 (.int .i64 a1_3) rfl;have hcz24_4:=zc BK361.out 4 (.int .i64 a1_4) rfl;have hcz24_5:=zc BK361.out 5 (.int .i64 a1_5) rfl;have hcz24_6:=zc BK361.out 6 (.int .i64 a1_6) rfl;have hcz24_7:=zc BK361.out 7 (.int .i64 a1_7) rfl;have hcz24_8:=zc BK361.out 8 (.slice A1_8 l1_8.length c1_8) rfl;have hfz24_0:=zf BK361.out 0;have hfz24_1:=zf BK361.out 1;have hfz24_2:=zf BK361.out 2;have hfz24_3:=zf BK361.out 3;have hfz24_4:=zf BK361.out 4;have hfz24_5:=zf BK361.out 5;have hfz24_6:=zf BK361.out 6;have hfz24_7:=zf BK361.out 7;have hfz24_8:=zf BK361.out 8))
     go_ret
     exact ⟨by first|rfl|(simp [errW_none,errW_some] <;> rfl)|(simp [*,errW_none,errW_some] <;> rfl),by repeat (first|(with_reducible first|exact HB.out|apply zA|apply zD|apply zE|refine zS ?_ GE360.out|refine zS ?_ GE361.out)|exact HB.out)⟩
   ·rw [if_neg c5] at H
    have c5b0 : (a0_2 == a1_2) = false:=beq_eq_false_iff_ne.mpr c5
    have c5b1 : (a0_2 != a1_2) = true:=bne_iff_ne.mpr c5
    obtain rfl:=Option.some.inj H
    go_enter Try.func49,Try.ntmps49
    go_wp2_with (first|((with_reducible refine gate_dst (N:=2) rfl ?_);refine box_event ?hg (N:=2) ?hd (cs:=#[.string a0_0,.int .i64 a0_1,.int .i64 a0_2,.int .i64 a0_3,.int .i64 a0_4,.int .i64 a0_5,.int .i64 a0_6,.int .i64 a0_7,.slice A0_8 l0_8.length c0_8]) (t:=28) ?hr ?_;(case hd=>rfl);(case hg=>rfl);(case hr=>first|(go_simp;done)|(go_simp;rfl));intro gb360 hg w25 hbox hb;have n0_:=zm (below_step (by repeat (first|(with_reducible first|exact HB.out|apply zA|apply zD|apply zE)|exact HB.out)) hb);have n1_:=zm (hbox);have n2_:=zm ((by rw [hg];exact (below_size (by repeat (first|(with_reducible first|exact HB.out|apply zA|apply zD|apply zE)|exact HB.out))) : w.heap.size ≤ gb360));have n3_:=zm ((by rw [hg];exact (below_size (by repeat (first|(with_reducible first|exact HB.out|apply zA|apply zD|apply zE)|exact HB.out))) : w.heap.size ≤ gb360));clear HB;have HB:=n0_;have BK360:=n1_;have GW360:=n2_;have GE360:=n3_;clear n0_ n1_ n2_ n3_;clear hb hbox hg)|((with_reducible refine gate_dst (N:=3) rfl ?_);refine box_event ?hg (N:=3) ?hd (cs:=#[.string a1_0,.int .i64 a1_1,.int .i64 a1_2,.int .i64 a1_3,.int .i64 a1_4,.int .i64 a1_5,.int .i64 a1_6,.int .i64 a1_7,.slice A1_8 l1_8.length c1_8]) (t:=28) ?hr ?_;(case hd=>rfl);(case hg=>rfl);(case hr=>first|(go_simp;done)|(go_simp;rfl));intro gb361 hg w26 hbox hb;have n0_:=zm (zb (g:=gb360) (o:=.cells #[.string a0_0,.int .i64 a0_1,.int .i64 a0_2,.int .i64 a0_3,.int .i64 a0_4,.int .i64 a0_5,.int .i64 a0_6,.int .i64 a0_7,.slice A0_8 l0_8.length c0_8] 28 (0,0)) (by (with_reducible repeat first|apply zd|apply ze|apply za);exact BK360.out) hb);have n1_:=zm (below_step (by repeat (first|(with_reducible first|exact HB.out|apply zA|apply zD|apply zE|refine zS ?_ GE360.out)|exact HB.out)) hb);have n2_:=zm (hbox);have n3_:=zm ((by rw [hg];exact (below_size (by repeat (first|(with_reducible first|exact HB.out|apply zA|apply zD|apply zE|refine zS ?_ GE360.out)|exact HB.out))) : w.heap.size ≤ gb361));have n4_:=zm ((by rw [hg];exact (below_size (by repeat (first|(with_reducible first|exact HB.out|apply zA|apply zD|apply zE|refine zS ?_ GE360.out)|exact HB.out))) : w.heap.size ≤ gb361));have n5_:=zm ((by rw [hg];exact Nat.ne_of_lt (blk_lt (g:=gb360) (o:=.cells #[.string a0_0,.int .i64 a0_1,.int .i64 a0_2,.int .i64 a0_3,.int .i64 a0_4,.int .i64 a0_5,.int .i64 a0_6,.int .i64 a0_7,.slice A0_8 l0_8.length c0_8] 28 (0,0)) (by (with_reducible repeat first|apply zd|apply ze|apply za);exact BK360.out)) : gb360 ≠ gb361));have n6_:=zm ((by rw [hg];exact Nat.ne_of_gt (blk_lt (g:=gb360) (o:=.cells #[.string a0_0,.int .i64 a0_1,.int .i64 a0_2,.int .i64 a0_3,.int .i64 a0_4,.int .i64 a0_5,.int .i64 a0_6,.int .i64 a0_7,.slice A0_8 l0_8.length c0_8] 28 (0,0)) (by (with_reducible repeat first|apply zd|apply ze|apply za);exact BK360.out)) : gb361 ≠ gb360));clear BK360 HB;have BK360:=n0_;have HB:=n1_;have BK361:=n2_;have GW361:=n3_;have GE361:=n4_;have NB360_361:=n5_;have NB361_360:=n6_;clear n0_ n1_ n2_ n3_ n4_ n5_ n6_;clear hb hbox hg;have hnb27:=NB360_361.out;have hnc27:=NB361_360.out;have hcz28_0:=zc BK360.out 0 (.string a0_0) rfl;have hcz28_1:=zc BK360.out 1 (.int .i64 a0_1) rfl;have hcz28_2:=zc BK360.out 2 (.int .i64 a0_2) rfl;have hcz28_3:=zc BK360.out 3 (.int .i64 a0_3) rfl;have hcz28_4:=zc BK360.out 4 (.int .i64 a0_4) rfl;have hcz28_5:=zc BK360.out 5 (.int .i64 a0_5) rfl;have hcz28_6:=zc BK360.out 6 (.int .i64 a0_6) rfl;have hcz28_7:=zc BK360.out 7 (.int .i64 a0_7) rfl;have hcz28_8:=zc BK360.out 8 (.slice A0_8 l0_8.length c0_8) rfl;have hfz28_0:=zf BK360.out 0;have hfz28_1:=zf BK360.out 1;have hfz28_2:=zf BK360.out 2;have hfz28_3:=zf BK360.out 3;have hfz28_4:=zf BK360.out 4;have hfz28_5:=zf BK360.out 5;have hfz28_6:=zf BK360.out 6;have hfz28_7:=zf BK360.out 7;have hfz28_8:=zf BK360.out 8;have hcz29_0:=zc BK361.out 0 (.string a1_0) rfl;have hcz29_1:=zc BK361.out 1 (.int .i64 a1_1) rfl;have hcz29_2:=zc BK361.out 2 (.int .i64 a1_2) rfl;have hcz29_3:=zc BK361.out 3 (.int .i64 a1_3) rfl;have hcz29_4:=zc BK361.out 4 (.int .i64 a1_4) rfl;have hcz29_5:=zc BK361.out 5 (.int .i64 a1_5) rfl;have hcz29_6:=zc BK361.out 6 (.int .i64 a1_6) rfl;have hcz29_7:=zc BK361.out 7 (.int .i64 a1_7) rfl;have hcz29_8:=zc BK361.out 8 (.slice A1_8 l1_8.length c1_8) rfl;have hfz29_0:=zf BK361.out 0;have hfz29_1:=zf BK361.out 1;have hfz29_2:=zf BK361.out 2;have hfz29_3:=zf BK361.out 3;have hfz29_4:=zf BK361.out 4;have hfz29_5:=zf BK361.out 5;have hfz29_6:=zf BK361.out 6;have hfz29_7:=zf BK361.out 7;have hfz29_8:=zf BK361.out 8))
    go_ret
    exact ⟨by first|rfl|(simp [errW_none,errW_some] <;> rfl)|(simp [*,errW_none,errW_some] <;> rfl),by repeat (first|(with_reducible first|exact HB.out|apply zA|apply zD|apply zE|refine zS ?_ GE360.out|refine zS ?_ GE361.out)|exact HB.out)⟩
  ·rw [if_neg c4] at H
   have c4b0 : (a0_1 == a1_1) = false:=beq_eq_false_iff_ne.mpr c4
   have c4b1 : (a0_1 != a1_1) = true:=bne_iff_ne.mpr c4
   obtain rfl:=Option.some.inj H
   go_enter Try.func49,Try.ntmps49
   go_wp2_with (first|((with_reducible refine gate_dst (N:=2) rfl ?_);refine box_event ?hg (N:=2) ?hd (cs:=#[.string a0_0,.int .i64 a0_1,.int .i64 a0_2,.int .i64 a0_3,.int .i64 a0_4,.int .i64 a0_5,.int .i64 a0_6,.int .i64 a0_7,.slice A0_8 l0_8.length c0_8]) (t:=28) ?hr ?_;(case hd=>rfl);(case hg=>rfl);(case hr=>first|(go_simp;done)|(go_simp;rfl));intro gb360 hg w30 hbox hb;have n0_:=zm (below_step (by repeat (first|(with_reducible first|exact HB.out|apply zA|apply zD|apply zE)|exact HB.out)) hb);have n1_:=zm (hbox);have n2_:=zm ((by rw [hg];exact (below_size (by repeat (first|(with_reducible first|exact HB.out|apply zA|apply zD|apply zE)|exact HB.out))) : w.heap.size ≤ gb360));have n3_:=zm ((by rw [hg];exact (below_size (by repeat (first|(with_reducible first|exact HB.out|apply zA|apply zD|apply zE)|exact HB.out))) : w.heap.size ≤ gb360));clear HB;have HB:=n0_;have BK360:=n1_;have GW360:=n2_;have GE360:=n3_;clear n0_ n1_ n2_ n3_;clear hb hbox hg)|((with_reducible refine gate_dst (N:=3) rfl ?_);refine box_event ?hg (N:=3) ?hd (cs:=#[.string a1_0,.int .i64 a1_1,.int .i64 a1_2,.int .i64 a1_3,.int .i64 a1_4,.int .i64 a1_5,.int .i64 a1_6,.int .i64 a1_7,.slice A1_8 l1_8.length c1_8]) (t:=28) ?hr ?_;(case hd=>rfl);(case hg=>rfl);(case hr=>first|(go_simp;done)|(go_simp;rfl));intro gb361 hg w31 hbox hb;have n0_:=zm (zb (g:=gb360) (o:=.cells #[.string a0_0,.int .i64 a0_1,.int .i64 a0_2,.int .i64 a0_3,.int .i64 a0_4,.int .i64 a0_5,.int .i64 a0_6,.int .i64 a0_7,.slice A0_8 l0_8.length c0_8] 28 (0,0)) (by (with_reducible repeat first|apply zd|apply ze|apply za);exact BK360.out) hb);have n1_:=zm (below_step (by repeat (first|(with_reducible first|exact HB.out|apply zA|apply zD|apply zE|refine zS ?_ GE360.out)|exact HB.out)) hb);have n2_:=zm (hbox);have n3_:=zm ((by rw [hg];exact (below_size (by repeat (first|(with_reducible first|exact HB.out|apply zA|apply zD|apply zE|refine zS ?_ GE360.out)|exact HB.out))) : w.heap.size ≤ gb361));have n4_:=zm ((by rw [hg];exact (below_size (by repeat (first|(with_reducible first|exact HB.out|apply zA|apply zD|apply zE|refine zS ?_ GE360.out)|exact HB.out))) : w.heap.size ≤ gb361));have n5_:=zm ((by rw [hg];exact Nat.ne_of_lt (blk_lt (g:=gb360) (o:=.cells #[.string a0_0,.int .i64 a0_1,.int .i64 a0_2,.int .i64 a0_3,.int .i64 a0_4,.int .i64 a0_5,.int .i64 a0_6,.int .i64 a0_7,.slice A0_8 l0_8.length c0_8] 28 (0,0)) (by (with_reducible repeat first|apply zd|apply ze|apply za);exact BK360.out)) : gb360 ≠ gb361));have n6_:=zm ((by rw [hg];exact Nat.ne_of_gt (blk_lt (g:=gb360) (o:=.cells #[.string a0_0,.int .i64 a0_1,.int .i64 a0_2,.int .i64 a0_3,.int .i64 a0_4,.int .i64 a0_5,.int .i64 a0_6,.int .i64 a0_7,.slice A0_8 l0_8.length c0_8] 28 (0,0)) (by (with_reducible repeat first|apply zd|apply ze|apply za);exact BK360.out)) : gb361 ≠ gb360));clear BK360 HB;have BK360:=n0_;have HB:=n1_;have BK361:=n2_;have GW361:=n3_;have GE361:=n4_;have NB360_361:=n5_;have NB361_360:=n6_;clear n0_ n1_ n2_ n3_ n4_ n5_ n6_;clear hb hbox hg;have hnb32:=NB360_361.out;have hnc32:=NB361_360.out;have hcz33_0:=zc BK360.out 0 (.string a0_0) rfl;have hcz33_1:=zc BK360.out 1 (.int .i64 a0_1) rfl;have hcz33_2:=zc BK360.out 2 (.int .i64 a0_2) rfl;have hcz33_3:=zc BK360.out 3 (.int .i64 a0_3) rfl;have hcz33_4:=zc BK360.out 4 (.int .i64 a0_4) rfl;have hcz33_5:=zc BK360.out 5 (.int .i64 a0_5) rfl;have hcz33_6:=zc BK360.out 6 (.int .i64 a0_6) rfl;have hcz33_7:=zc BK360.out 7 (.int .i64 a0_7) rfl;have hcz33_8:=zc BK360.out 8 (.slice A0_8 l0_8.length c0_8) rfl;have hfz33_0:=zf BK360.out 0;have hfz33_1:=zf BK360.out 1;have hfz33_2:=zf BK360.out 2;have hfz33_3:=zf BK360.out 3;have hfz33_4:=zf BK360.out 4;have hfz33_5:=zf BK360.out 5;have hfz33_6:=zf BK360.out 6;have hfz33_7:=zf BK360.out 7;have hfz33_8:=zf BK360.out 8;have hcz34_0:=zc BK361.out 0 (.string a1_0) rfl;have hcz34_1:=zc BK361.out 1 (.int .i64 a1_1) rfl;have hcz34_2:=zc BK361.out 2 (.int .i64 a1_2) rfl;have hcz34_3:=zc BK361.out 3 (.int .i64 a1_3) rfl;have hcz34_4:=zc BK361.out 4 (.int .i64 a1_4) rfl;have hcz34_5:=zc BK361.out 5 (.int .i64 a1_5) rfl;have hcz34_6:=zc BK361.out 6 (.int .i64 a1_6) rfl;have hcz34_7:=zc BK361.out 7 (.int .i64 a1_7) rfl;have hcz34_8:=zc BK361.out 8 (.slice A1_8 l1_8.length c1_8) rfl;have hfz34_0:=zf BK361.out 0;have hfz34_1:=zf BK361.out 1;have hfz34_2:=zf BK361.out 2;have hfz34_3:=zf BK361.out 3;have hfz34_4:=zf BK361.out 4;have hfz34_5:=zf BK361.out 5;have hfz34_6:=zf BK361.out 6;have hfz34_7:=zf BK361.out 7;have hfz34_8:=zf BK361.out 8))
   go_ret
   exact ⟨by first|rfl|(simp [errW_none,errW_some] <;> rfl)|(simp [*,errW_none,errW_some] <;> rfl),by repeat (first|(with_reducible first|exact HB.out|apply zA|apply zD|apply zE|refine zS ?_ GE360.out|refine zS ?_ GE361.out)|exact HB.out)⟩
 ·rw [if_neg c3] at H
  have c3b0 : (a0_0.toList == a1_0.toList) = false:=beq_eq_false_iff_ne.mpr c3
  have c3b1 : (a0_0.toList != a1_0.toList) = true:=bne_iff_ne.mpr c3
  obtain rfl:=Option.some.inj H
  go_enter Try.func49,Try.ntmps49
  go_wp2_with (first|((with_reducible refine gate_dst (N:=2) rfl ?_);refine box_event ?hg (N:=2) ?hd (cs:=#[.string a0_0,.int .i64 a0_1,.int .i64 a0_2,.int .i64 a0_3,.int .i64 a0_4,.int .i64 a0_5,.int .i64 a0_6,.int .i64 a0_7,.slice A0_8 l0_8.length c0_8]) (t:=28) ?hr ?_;(case hd=>rfl);(case hg=>rfl);(case hr=>first|(go_simp;done)|(go_simp;rfl));intro gb360 hg w35 hbox hb;have n0_:=zm (below_step (by repeat (first|(with_reducible first|exact HB.out|apply zA|apply zD|apply zE)|exact HB.out)) hb);have n1_:=zm (hbox);have n2_:=zm ((by rw [hg];exact (below_size (by repeat (first|(with_reducible first|exact HB.out|apply zA|apply zD|apply zE)|exact HB.out))) : w.heap.size ≤ gb360));have n3_:=zm ((by rw [hg];exact (below_size (by repeat (first|(with_reducible first|exact HB.out|apply zA|apply zD|apply zE)|exact HB.out))) : w.heap.size ≤ gb360));clear HB;have HB:=n0_;have BK360:=n1_;have GW360:=n2_;have GE360:=n3_;clear n0_ n1_ n2_ n3_;clear hb hbox hg)|((with_reducible refine gate_dst (N:=3) rfl ?_);refine box_event ?hg (N:=3) ?hd (cs:=#[.string a1_0,.int .i64 a1_1,.int .i64 a1_2,.int .i64 a1_3,.int .i64 a1_4,.int .i64 a1_5,.int .i64 a1_6,.int .i64 a1_7,.slice A1_8 l1_8.length c1_8]) (t:=28) ?hr ?_;(case hd=>rfl);(case hg=>rfl);(case hr=>first|(go_simp;done)|(go_simp;rfl));intro gb361 hg w36 hbox hb;have n0_:=zm (zb (g:=gb360) (o:=.cells #[.string a0_0,.int .i64 a0_1,.int .i64 a0_2,.int .i64 a0_3,.int .i64 a0_4,.int .i64 a0_5,.int .i64 a0_6,.int .i64 a0_7,.slice A0_8 l0_8.length c0_8] 28 (0,0)) (by (with_reducible repeat first|apply zd|apply ze|apply za);exact BK360.out) hb);have n1_:=zm (below_step (by repeat (first|(with_reducible first|exact HB.out|apply zA|apply zD|apply zE|refine zS ?_ GE360.out)|exact HB.out)) hb);have n2_:=zm (hbox);have n3_:=zm ((by rw [hg];exact (below_size (by repeat (first|(with_reducible first|exact HB.out|apply zA|apply zD|apply zE|refine zS ?_ GE360.out)|exact HB.out))) : w.heap.size ≤ gb361));have n4_:=zm ((by rw [hg];exact (below_size (by repeat (first|(with_reducible first|exact HB.out|apply zA|apply zD|apply zE|refine zS ?_ GE360.out)|exact HB.out))) : w.heap.size ≤ gb361));have n5_:=zm ((by rw [hg];exact Nat.ne_of_lt (blk_lt (g:=gb360) (o:=.cells #[.string a0_0,.int .i64 a0_1,.int .i64 a0_2,.int .i64 a0_3,.int .i64 a0_4,.int .i64 a0_5,.int .i64 a0_6,.int .i64 a0_7,.slice A0_8 l0_8.length c0_8] 28 (0,0)) (by (with_reducible repeat first|apply zd|apply ze|apply za);exact BK360.out)) : gb360 ≠ gb361));have n6_:=zm ((by rw [hg];exact Nat.ne_of_gt (blk_lt (g:=gb360) (o:=.cells #[.string a0_0,.int .i64 a0_1,.int .i64 a0_2,.int .i64 a0_3,.int .i64 a0_4,.int .i64 a0_5,.int .i64 a0_6,.int .i64 a0_7,.slice A0_8 l0_8.length c0_8] 28 (0,0)) (by (with_reducible repeat first|apply zd|apply ze|apply za);exact BK360.out)) : gb361 ≠ gb360));clear BK360 HB;have BK360:=n0_;have HB:=n1_;have BK361:=n2_;have GW361:=n3_;have GE361:=n4_;have NB360_361:=n5_;have NB361_360:=n6_;clear n0_ n1_ n2_ n3_ n4_ n5_ n6_;clear hb hbox hg;have hnb37:=NB360_361.out;have hnc37:=NB361_360.out;have hcz38_0:=zc BK360.out 0 (.string a0_0) rfl;have hcz38_1:=zc BK360.out 1 (.int .i64 a0_1) rfl;have hcz38_2:=zc BK360.out 2 (.int .i64 a0_2) rfl;have hcz38_3:=zc BK360.out 3 (.int .i64 a0_3) rfl;have hcz38_4:=zc BK360.out 4 (.int .i64 a0_4) rfl;have hcz38_5:=zc BK360.out 5 (.int .i64 a0_5) rfl;have hcz38_6:=zc BK360.out 6 (.int .i64 a0_6) rfl;have hcz38_7:=zc BK360.out 7 (.int .i64 a0_7) rfl;have hcz38_8:=zc BK360.out 8 (.slice A0_8 l0_8.length c0_8) rfl;have hfz38_0:=zf BK360.out 0;have hfz38_1:=zf BK360.out 1;have hfz38_2:=zf BK360.out 2;have hfz38_3:=zf BK360.out 3;have hfz38_4:=zf BK360.out 4;have hfz38_5:=zf BK360.out 5;have hfz38_6:=zf BK360.out 6;have hfz38_7:=zf BK360.out 7;have hfz38_8:=zf BK360.out 8;have hcz39_0:=zc BK361.out 0 (.string a1_0) rfl;have hcz39_1:=zc BK361.out 1 (.int .i64 a1_1) rfl;have hcz39_2:=zc BK361.out 2 (.int .i64 a1_2) rfl;have hcz39_3:=zc BK361.out 3 (.int .i64 a1_3) rfl;have hcz39_4:=zc BK361.out 4 (.int .i64 a1_4) rfl;have hcz39_5:=zc BK361.out 5 (.int .i64 a1_5) rfl;have hcz39_6:=zc BK361.out 6 (.int .i64 a1_6) rfl;have hcz39_7:=zc BK361.out 7 (.int .i64 a1_7) rfl;have hcz39_8:=zc BK361.out 8 (.slice A1_8 l1_8.length c1_8) rfl;have hfz39_0:=zf BK361.out 0;have hfz39_1:=zf BK361.out 1;have hfz39_2:=zf BK361.out 2;have hfz39_3:=zf BK361.out 3;have hfz39_4:=zf BK361.out 4;have hfz39_5:=zf BK361.out 5;have hfz39_6:=zf BK361.out 6;have hfz39_7:=zf BK361.out 7;have hfz39_8:=zf BK361.out 8))
  go_ret
  exact ⟨by first|rfl|(simp [errW_none,errW_some] <;> rfl)|(simp [*,errW_none,errW_some] <;> rfl),by repeat (first|(with_reducible first|exact HB.out|apply zA|apply zD|apply zE|refine zS ?_ GE360.out|refine zS ?_ GE361.out)|exact HB.out)⟩
end Go.Proofs.Ytkgdlbepjmgaiaa.Fea
set_option linter.unusedVariables false
set_option linter.unusedSimpArgs false
namespace Go.Proofs.Ytkgdlbepjmgaiaa.Fea
open Go.RowKit Go.Proofs.YtkgdlbepjmgaiaaW.PrintWords Go.Proofs.YtkgdlbepjmgaiaaW.PrintLast Go.Proofs.YtkgdlbepjmgaiaaW.PrintMore
def eqD (x y : S106) : Bool := x.f0.toList == y.f0.toList && (x.f1 == y.f1)
def eqLD : List S106 → List S106 → Bool
  | [], [] => true
  | x :: xs, y :: ys => if eqD x y = true then eqLD xs ys else false
  | _, _ => false
def eqF (x y : S104) : Bool := if x.f0 = y.f0 then (if (x.f1 == y.f1) = true then (if x.f2 = y.f2 then (if x.f3 = y.f3 then eqLD x.f4 y.f4 else false) else false) else false) else false
def eqLF : List S104 → List S104 → Bool
  | [], [] => true
  | x :: xs, y :: ys => if eqF x y = true then eqLF xs ys else false
  | _, _ => false
theorem eqLD_len : ∀ {a b : List S106}, a.length ≠ b.length → eqLD a b = false
  | [], [], h => absurd rfl h
  | [], _ :: _, _ => rfl
  | _ :: _, [], _ => rfl
  | x :: xs, y :: ys, h => by
    rw [eqLD, eqLD_len (a := xs) (b := ys) (fun e => h (by simp [e]))]
    split <;> rfl
theorem eqLF_len : ∀ {a b : List S104}, a.length ≠ b.length → eqLF a b = false
  | [], [], h => absurd rfl h
  | [], _ :: _, _ => rfl
  | _ :: _, [], _ => rfl
  | x :: xs, y :: ys, h => by
    rw [eqLF, eqLF_len (a := xs) (b := ys) (fun e => h (by simp [e]))]
    split <;> rfl
theorem eqLD_refl : ∀ a : List S106, eqLD a a = true
  | [] => rfl
  | x :: xs => by
    rw [eqLD, if_pos (by simp [eqD])]
    exact eqLD_refl xs
theorem eqF_refl (x : S104) : eqF x x = true := by simp [eqF, eqLD_refl]
theorem eqLF_refl : ∀ a : List S104, eqLF a a = true
  | [] => rfl
  | x :: xs => by
    rw [eqLF, if_pos (eqF_refl x)]
    exact eqLF_refl xs
def tinyL (l : List S104) : Prop := l.length ≤ 12 ∧ ∀ p ∈ l, p.f4.length ≤ 6
theorem RFrames_ev (a b : List S104) (ha : tinyL a) : Ev (fun n => metrolabref18_SameFrames.f n a b) (eqLF a b) := by
  unfold metrolabref18_SameFrames.f
  by_cases hl : a.length = b.length
  case neg =>
    rw [eqLF_len hl]
    exact Ev.e (by omega) (Ev.now _)
  refine Ev.t (by omega) ?_
  have key : ∀ m i : Nat, i + m = a.length → Ev (fun n => metrolabref18_SameFrames.l0 n a b (i : Int)) (eqLF (a.drop i) (b.drop i)) := by
    intro m
    induction m with
    | zero =>
      intro i hi
      refine Ev.step (fun n => by rw [metrolabref18_SameFrames.l0]) ?_
      rw [List.drop_eq_nil_of_le (by omega), List.drop_eq_nil_of_le (by omega)]
      exact Ev.e (by omega) (Ev.now _)
    | succ m ih =>
      intro i hi
      have h1 : i < a.length := by omega
      have h2 : i < b.length := by omega
      have h6 : (a[i]).f4.length ≤ 6 := ha.2 _ (List.getElem_mem h1)
      have bad : ∀ p0 p1 p2 p3 p4 q0 q1 q2 q3 q4, Ev (fun n => metrolabref18_SameFrames.j1 n a b (i : Int) true p0 p1 p2 p3 p4 q0 q1 q2 q3 q4) false := fun _ _ _ _ _ _ _ _ _ _ => by
        refine Ev.step (fun n => by rw [metrolabref18_SameFrames.j1]) ?_
        exact Ev.t rfl (Ev.now _)
      have l1 : ∀ (p0 : Int) (p1 : Bool) (p2 p3 : Int) (d : List S106) (q0 : Int) (q1 : Bool) (q2 q3 : Int) (e : List S106), d.length = e.length → d.length ≤ 6 → ∀ mm j : Nat, j + mm = d.length →
          Ev (fun n => metrolabref18_SameFrames.l1 n a b (i : Int) (j : Int) p0 p1 p2 p3 d q0 q1 q2 q3 e) (if eqLD (d.drop j) (e.drop j) = true then eqLF (a.drop (i + 1)) (b.drop (i + 1)) else false) := by
        intro p0 p1 p2 p3 d q0 q1 q2 q3 e hde hd6 mm
        induction mm with
        | zero =>
          intro j hj
          refine Ev.step (fun n => by rw [metrolabref18_SameFrames.l1]) ?_
          rw [List.drop_eq_nil_of_le (show d.length ≤ j by omega), List.drop_eq_nil_of_le (show e.length ≤ j by omega)]
          refine Ev.e (by omega) ?_
          rw [w64s (n := i) (by have := ha.1; omega)]
          exact ih (i + 1) (by omega)
        | succ mm ih2 =>
          intro j hj
          refine Ev.step (fun n => by rw [metrolabref18_SameFrames.l1]) ?_
          rw [rd106 d j (by omega), rd106 e j (by omega), w64s (n := j) (by omega), List.drop_eq_getElem_cons (show j < d.length by omega), List.drop_eq_getElem_cons (show j < e.length by omega), eqLD]
          refine Ev.t (by omega) (Ev.t (by omega) (Ev.t (by omega) ?_))
          cases hq : eqD d[j] e[j]
          · refine Ev.t ?_ (Ev.now _)
            revert hq
            unfold eqD
            cases (d[j].f0.toList == e[j].f0.toList) <;> cases (d[j].f1 == e[j].f1) <;> simp
          · refine Ev.e ?_ (ih2 (j + 1) (by omega))
            revert hq
            unfold eqD
            cases (d[j].f0.toList == e[j].f0.toList) <;> cases (d[j].f1 == e[j].f1) <;> simp
      refine Ev.step (fun n => by rw [metrolabref18_SameFrames.l0]) ?_
      rw [rd104 a i h1, rd104 b i h2, List.drop_eq_getElem_cons h1, List.drop_eq_getElem_cons h2, eqLF]
      refine Ev.t (by omega) (Ev.t (by omega) (Ev.t (by omega) ?_))
      unfold eqF
      by_cases g0 : a[i].f0 = b[i].f0
      case neg => rw [if_neg g0]; exact Ev.e g0 (bad _ _ _ _ _ _ _ _ _ _)
      refine Ev.t g0 ?_
      rw [if_pos g0]
      cases g1 : (a[i].f1 == b[i].f1)
      · exact Ev.t (by rw [bne, g1]; rfl) (bad _ _ _ _ _ _ _ _ _ _)
      refine Ev.e (by rw [bne, g1]; decide) ?_
      by_cases g2 : a[i].f2 = b[i].f2
      case neg => rw [if_pos rfl, if_neg g2]; exact Ev.e g2 (bad _ _ _ _ _ _ _ _ _ _)
      refine Ev.t g2 ?_
      by_cases g3 : a[i].f3 = b[i].f3
      case neg => rw [if_pos rfl, if_pos g2, if_neg g3]; exact Ev.e g3 (bad _ _ _ _ _ _ _ _ _ _)
      refine Ev.t g3 ?_
      rw [if_pos rfl, if_pos g2, if_pos g3]
      by_cases g4 : a[i].f4.length = b[i].f4.length
      case neg =>
        rw [eqLD_len g4, show ((a[i].f4.length : Int) != (b[i].f4.length : Int)) = true by rw [bne_iff_ne]; omega]
        exact bad _ _ _ _ _ _ _ _ _ _
      rw [show ((a[i].f4.length : Int) != (b[i].f4.length : Int)) = false by rw [bne_eq_false_iff_eq]; omega]
      refine Ev.step (fun n => by rw [metrolabref18_SameFrames.j1]) ?_
      refine Ev.e (by decide) ?_
      exact l1 _ _ _ _ _ _ _ _ _ _ g4 h6 a[i].f4.length 0 (by omega)
  exact key a.length 0 (by omega)
def sameV (nm : ByteArray) (k ax x y z lo hi : Int) (l : List S104) (nm' : ByteArray) (k' ax' x' y' z' lo' hi' : Int) (l' : List S104) : Bool :=
  if nm.toList = nm'.toList then (if k = k' then (if ax = ax' then (if (x == x' && (y == y' && (z == z'))) = true then (if (lo == lo' && (hi == hi')) = true then eqLF l l' else false) else false) else false) else false) else false
theorem sameV_refl (nm : ByteArray) (k ax x y z lo hi : Int) (l : List S104) : sameV nm k ax x y z lo hi l nm k ax x y z lo hi l = true := by
  simp [sameV, eqLF_refl]
theorem RSame_ev (nm : ByteArray) (k ax x y z lo hi : Int) (l : List S104) (nm' : ByteArray) (k' ax' x' y' z' lo' hi' : Int) (l' : List S104) (hl : tinyL l) :
    Ev (fun n => metrolabref18_Same.f n nm k ax x y z lo hi l nm' k' ax' x' y' z' lo' hi' l') (sameV nm k ax x y z lo hi l nm' k' ax' x' y' z' lo' hi' l') := by
  unfold metrolabref18_Same.f sameV
  exact Ev.ite2 (Ev.ite2 (Ev.ite2 (Ev.ite2 (Ev.ite2 (Ev.bind (RFrames_ev l l' hl) (Ev.now _)) (Ev.now _)) (Ev.now _)) (Ev.now _)) (Ev.now _)) (Ev.now _)
theorem tiny_few {nm : ByteArray} {l : List S104} (h : fewV nm l = true) : tinyL l := fewV_small h
end Go.Proofs.Ytkgdlbepjmgaiaa.Fea
namespace Go.Proofs.Ytkgdlbepjmgaiaa.Fea
open Go.RowKit Go.Proofs.YtkgdlbepjmgaiaaW.PrintWords Go.Proofs.YtkgdlbepjmgaiaaW.PrintLast Go.Proofs.YtkgdlbepjmgaiaaW.PrintMore
attribute [local go_sem] max2_int min2_int max_two min_two max_three min_three max_four min_four
set_option linter.unusedVariables false
set_option linter.unusedSimpArgs false
def feature_inner.f (a0 : Int) : Option (Bool) := if a0 = 1 then (some true) else (some (a0 == 3))
set_option maxHeartbeats 8000000 in
set_option maxRecDepth 100000 in
theorem feature_inner.calls (a0 : Int) (r : Bool) (w : World) (h : feature_inner.f a0 = some r) :
    Calls Try.prog 76 #[.int .i64 a0] w fun e w' => e = .returned (.bool r) ∧ Drawn0 w w' := by
  have H : (if a0 = 1 then (some true) else (some (a0 == 3))) = some r := h
  clear h
  by_cases c2 : a0 = 1
  · rw [if_pos c2] at H
    have c2b0 : (a0 == 1) = true := beq_iff_eq.mpr c2
    have c2b1 : (a0 != 1) = false := bne_eq_false_iff_eq.mpr c2
    clear c2
    obtain rfl := Option.some.inj H
    go_enter Try.func76, Try.ntmps76
    go_wp2
    go_ret
    exact ⟨by first | rfl | (simp; done) | (simp [*]; done), by repeat (first | exact Drawn0.refl _ | apply Drawn0.step)⟩
  · rw [if_neg c2] at H
    have c2b0 : (a0 == 1) = false := beq_eq_false_iff_ne.mpr c2
    have c2b1 : (a0 != 1) = true := bne_iff_ne.mpr c2
    obtain rfl := Option.some.inj H
    go_enter Try.func76, Try.ntmps76
    go_wp2
    go_ret
    exact ⟨by first | rfl | (simp; done) | (simp [*]; done), by repeat (first | exact Drawn0.refl _ | apply Drawn0.step)⟩
end Go.Proofs.Ytkgdlbepjmgaiaa.Fea
namespace Go.Proofs.Ytkgdlbepjmgaiaa.Fea
open Go.RowKit Go.Proofs.YtkgdlbepjmgaiaaW.PrintWords Go.Proofs.YtkgdlbepjmgaiaaW.PrintLast Go.Proofs.YtkgdlbepjmgaiaaW.PrintMore
attribute [local go_sem] max2_int min2_int max_two min_two max_three min_three max_four min_four
set_option linter.unusedVariables false
set_option linter.unusedSimpArgs false
def feature_extreme.f (k : Nat) (a0_0 : ByteArray) (a0_1 : Int) (a0_2 : Int) (a0_3 : Int) (a0_4 : Int) (a0_5 : Int) (a0_6 : Int) (a0_7 : Int) (l0_8 : List (S104)) (a1 : Bool) : Option (Int × Int) := (feature_Check.f k a0_0 a0_1 a0_2 a0_3 a0_4 a0_5 a0_6 a0_7 l0_8).bind fun t145 => (if t145 = 0 then (if a0_1 = 0 then (some (0, 14)) else (if a1 = true then (some (a0_6, 0)) else (some (a0_7, 0)))) else (some (0, t145)))
theorem feature_extreme.mono : ∀ a0 a1 a2 a3 a4 a5 a6 a7 a8 a9 k, LeO (feature_extreme.f k a0 a1 a2 a3 a4 a5 a6 a7 a8 a9) (feature_extreme.f (k + 1) a0 a1 a2 a3 a4 a5 a6 a7 a8 a9) := by
 intro a0 a1 a2 a3 a4 a5 a6 a7 a8 a9 k
 unfold feature_extreme.f
 repeat' first
  | (with_reducible exact feature_Check.mono _ _ _ _ _ _ _ _ _ _)
  | (with_reducible exact LeO.refl _)
  | (with_reducible exact LeO.none _)
  | (with_reducible refine LeO.ite ?_ ?_)
  | (with_reducible refine LeO.bind ?_ (fun _ => ?_))
  | exact feature_Check.mono _ _ _ _ _ _ _ _ _ _
  | exact LeO.none _
  | refine LeO.ite ?_ ?_
  | refine LeO.bind ?_ (fun _ => ?_)
set_option maxHeartbeats 8000000 in
set_option maxRecDepth 100000 in
theorem feature_extreme.calls (k : Nat) (a0_0 : ByteArray) (a0_1 : Int) (a0_2 : Int) (a0_3 : Int) (a0_4 : Int) (a0_5 : Int) (a0_6 : Int) (a0_7 : Int) (A0_8 : Option Addr) (c0_8 : Nat) (l0_8 : List (S104)) (a1 : Bool) (r1 : Int) (r2 : Int) (w : World) (hr0_8 : Kd.C k104 w A0_8 l0_8.length l0_8) (hc0_8 : l0_8.length ≤ c0_8) (h : feature_extreme.f k a0_0 a0_1 a0_2 a0_3 a0_4 a0_5 a0_6 a0_7 l0_8 a1 = some (r1, r2)) :
 Calls Try.prog 78 #[.agg #[.string a0_0, .int .i64 a0_1, .int .i64 a0_2, .int .i64 a0_3, .int .i64 a0_4, .int .i64 a0_5, .int .i64 a0_6, .int .i64 a0_7, .slice A0_8 l0_8.length c0_8], .bool a1] w fun e w' => e = .returned (.tuple #[.int .i64 r1, .int .i64 r2]) ∧ Below w.heap.size w w' := by
 have hu28 := Try.underlying28
 have HR0_8 := zm hr0_8
 have HC0_8 := zm hc0_8
 clear hr0_8 hc0_8
 have HB := zm (Below.refl w.heap.size w)
 have H : ((feature_Check.f k a0_0 a0_1 a0_2 a0_3 a0_4 a0_5 a0_6 a0_7 l0_8).bind fun t145 => (if t145 = 0 then (if a0_1 = 0 then (some (0, 14)) else (if a1 = true then (some (a0_6, 0)) else (some (a0_7, 0)))) else (some (0, t145)))) = some (r1, r2) := h
 clear h
 replace H := Option.bind_eq_some_iff.mp H
 obtain ⟨t145, A30, H⟩ := H
 replace H : (if t145 = 0 then (if a0_1 = 0 then (some (0, 14)) else (if a1 = true then (some (a0_6, 0)) else (some (a0_7, 0)))) else (some (0, t145))) = some (r1, r2) := H
 have A3 := zm A30
 clear A30
 by_cases c4 : t145 = 0
 ·rw [if_pos c4] at H
  have c4b0 : (t145 == 0) = true := beq_iff_eq.mpr c4
  have c4b1 : (t145 != 0) = false := bne_eq_false_iff_eq.mpr c4
  clear c4
  by_cases c5 : a0_1 = 0
  ·rw [if_pos c5] at H
   have c5b0 : (a0_1 == 0) = true := beq_iff_eq.mpr c5
   have c5b1 : (a0_1 != 0) = false := bne_eq_false_iff_eq.mpr c5
   clear c5
   simp only [Option.some.injEq, Prod.mk.injEq] at H
   obtain ⟨rfl, rfl⟩ := H
   go_enter Try.func78, Try.ntmps78
   go_wp2_with (first | ((with_reducible refine gate_dst (N := 2) rfl ?_); refine box_event ?hg (N := 2) ?hd (cs := #[.string a0_0, .int .i64 a0_1, .int .i64 a0_2, .int .i64 a0_3, .int .i64 a0_4, .int .i64 a0_5, .int .i64 a0_6, .int .i64 a0_7, .slice A0_8 l0_8.length c0_8]) (t := 28) ?hr ?_; (case hd => rfl); (case hg => rfl); (case hr => first | (go_simp; done) | (go_simp; rfl)); intro gb144 hg w6 hbox hb; have n0_ := zm (below_step (by repeat (first | (with_reducible first | exact HB.out | apply zA | apply zD | apply zE) | exact HB.out)) hb); have n1_ := zm (hbox); have n2_ := zm ((by rw [hg]; exact (below_size (by repeat (first | (with_reducible first | exact HB.out | apply zA | apply zD | apply zE) | exact HB.out))) : w.heap.size ≤ gb144)); have n3_ := zm ((by rw [hg]; exact (below_size (by repeat (first | (with_reducible first | exact HB.out | apply zA | apply zD | apply zE) | exact HB.out))) : w.heap.size ≤ gb144)); clear HB; have HB := n0_; have BK144 := n1_; have GW144 := n2_; have GE144 := n3_; clear n0_ n1_ n2_ n3_; clear hb hbox hg; have hcz7_0 := zc BK144.out 0 (.string a0_0) rfl; have hcz7_1 := zc BK144.out 1 (.int .i64 a0_1) rfl; have hcz7_2 := zc BK144.out 2 (.int .i64 a0_2) rfl; have hcz7_3 := zc BK144.out 3 (.int .i64 a0_3) rfl; have hcz7_4 := zc BK144.out 4 (.int .i64 a0_4) rfl; have hcz7_5 := zc BK144.out 5 (.int .i64 a0_5) rfl; have hcz7_6 := zc BK144.out 6 (.int .i64 a0_6) rfl; have hcz7_7 := zc BK144.out 7 (.int .i64 a0_7) rfl; have hcz7_8 := zc BK144.out 8 (.slice A0_8 l0_8.length c0_8) rfl; have hfz7_0 := zf BK144.out 0; have hfz7_1 := zf BK144.out 1; have hfz7_2 := zf BK144.out 2; have hfz7_3 := zf BK144.out 3; have hfz7_4 := zf BK144.out 4; have hfz7_5 := zf BK144.out 5; have hfz7_6 := zf BK144.out 6; have hfz7_7 := zf BK144.out 7; have hfz7_8 := zf BK144.out 8) | ((with_reducible refine gate_callee (f := 29) rfl ?_); refine goesL_ (some 8) rfl rfl Try.func29 (by kernel_rfl) rfl #[.agg #[.string a0_0, .int .i64 a0_1, .int .i64 a0_2, .int .i64 a0_3, .int .i64 a0_4, .int .i64 a0_5, .int .i64 a0_6, .int .i64 a0_7, .slice A0_8 l0_8.length c0_8]] rfl (by (try simp only [List.map_toArray, List.map_cons, List.map_nil]); first | done | rfl | (simp only [List.length_drop, List.length_take]; rfl)) ?_; (with_reducible refine (feature_Check.calls k a0_0 a0_1 a0_2 a0_3 a0_4 a0_5 a0_6 a0_7 _ _ l0_8 t145 _ ?side1 ?side2 A3.out).mono ?_); (case side1 => repeat (first | exact (Kd.C_below HR0_8.out HB.out) | (with_reducible refine Kd.C_alloc ?_ _) | (with_reducible refine Kd.C_drewN ?_ _) | (with_reducible refine Kd.C_drew ?_))); (case side2 => exact HC0_8.out); rintro e w8 ⟨rfl, hb⟩; refine ⟨_, rfl, ?_⟩; have n0_ := zm (zb (g := gb144) (o := .cells #[.string a0_0, .int .i64 a0_1, .int .i64 a0_2, .int .i64 a0_3, .int .i64 a0_4, .int .i64 a0_5, .int .i64 a0_6, .int .i64 a0_7, .slice A0_8 l0_8.length c0_8] 28 (0, 0)) (by (with_reducible repeat first | apply zd | apply ze | apply za); exact BK144.out) hb); have n1_ := zm (below_step (by repeat (first | (with_reducible first | exact HB.out | apply zA | apply zD | apply zE | refine zS ?_ GE144.out) | exact HB.out)) hb); clear BK144 HB; have BK144 := n0_; have HB := n1_; clear n0_ n1_; (try clear hb); (try clear hb2); (try clear hk); (try clear hi); have hcz9_0 := zc BK144.out 0 (.string a0_0) rfl; have hcz9_1 := zc BK144.out 1 (.int .i64 a0_1) rfl; have hcz9_2 := zc BK144.out 2 (.int .i64 a0_2) rfl; have hcz9_3 := zc BK144.out 3 (.int .i64 a0_3) rfl; have hcz9_4 := zc BK144.out 4 (.int .i64 a0_4) rfl; have hcz9_5 := zc BK144.out 5 (.int .i64 a0_5) rfl; have hcz9_6 := zc BK144.out 6 (.int .i64 a0_6) rfl; have hcz9_7 := zc BK144.out 7 (.int .i64 a0_7) rfl; have hcz9_8 := zc BK144.out 8 (.slice A0_8 l0_8.length c0_8) rfl; have hfz9_0 := zf BK144.out 0; have hfz9_1 := zf BK144.out 1; have hfz9_2 := zf BK144.out 2; have hfz9_3 := zf BK144.out 3; have hfz9_4 := zf BK144.out 4; have hfz9_5 := zf BK144.out 5; have hfz9_6 := zf BK144.out 6; have hfz9_7 := zf BK144.out 7; have hfz9_8 := zf BK144.out 8))
   go_ret2
   exact ⟨by first | rfl | (simp [errW_none, errW_some] <;> rfl) | (simp [*, errW_none, errW_some] <;> rfl), by repeat (first | (with_reducible first | exact HB.out | apply zA | apply zD | apply zE | refine zS ?_ GE144.out) | exact HB.out)⟩
  ·rw [if_neg c5] at H
   have c5b0 : (a0_1 == 0) = false := beq_eq_false_iff_ne.mpr c5
   have c5b1 : (a0_1 != 0) = true := bne_iff_ne.mpr c5
   by_cases c10 : a1 = true
   ·subst c10
    have H1 : (some (a0_6, 0)) = some (r1, r2) := by rw [if_pos rfl] at H; exact H
    clear H
    have H := H1
    clear H1
    simp only [Option.some.injEq, Prod.mk.injEq] at H
    obtain ⟨rfl, rfl⟩ := H
    go_enter Try.func78, Try.ntmps78
    go_wp2_with (first | ((with_reducible refine gate_dst (N := 2) rfl ?_); refine box_event ?hg (N := 2) ?hd (cs := #[.string a0_0, .int .i64 a0_1, .int .i64 a0_2, .int .i64 a0_3, .int .i64 a0_4, .int .i64 a0_5, .int .i64 a0_6, .int .i64 a0_7, .slice A0_8 l0_8.length c0_8]) (t := 28) ?hr ?_; (case hd => rfl); (case hg => rfl); (case hr => first | (go_simp; done) | (go_simp; rfl)); intro gb144 hg w11 hbox hb; have n0_ := zm (below_step (by repeat (first | (with_reducible first | exact HB.out | apply zA | apply zD | apply zE) | exact HB.out)) hb); have n1_ := zm (hbox); have n2_ := zm ((by rw [hg]; exact (below_size (by repeat (first | (with_reducible first | exact HB.out | apply zA | apply zD | apply zE) | exact HB.out))) : w.heap.size ≤ gb144)); have n3_ := zm ((by rw [hg]; exact (below_size (by repeat (first | (with_reducible first | exact HB.out | apply zA | apply zD | apply zE) | exact HB.out))) : w.heap.size ≤ gb144)); clear HB; have HB := n0_; have BK144 := n1_; have GW144 := n2_; have GE144 := n3_; clear n0_ n1_ n2_ n3_; clear hb hbox hg; have hcz12_0 := zc BK144.out 0 (.string a0_0) rfl; have hcz12_1 := zc BK144.out 1 (.int .i64 a0_1) rfl; have hcz12_2 := zc BK144.out 2 (.int .i64 a0_2) rfl; have hcz12_3 := zc BK144.out 3 (.int .i64 a0_3) rfl; have hcz12_4 := zc BK144.out 4 (.int .i64 a0_4) rfl; have hcz12_5 := zc BK144.out 5 (.int .i64 a0_5) rfl; have hcz12_6 := zc BK144.out 6 (.int .i64 a0_6) rfl; have hcz12_7 := zc BK144.out 7 (.int .i64 a0_7) rfl; have hcz12_8 := zc BK144.out 8 (.slice A0_8 l0_8.length c0_8) rfl; have hfz12_0 := zf BK144.out 0; have hfz12_1 := zf BK144.out 1; have hfz12_2 := zf BK144.out 2; have hfz12_3 := zf BK144.out 3; have hfz12_4 := zf BK144.out 4; have hfz12_5 := zf BK144.out 5; have hfz12_6 := zf BK144.out 6; have hfz12_7 := zf BK144.out 7; have hfz12_8 := zf BK144.out 8) | ((with_reducible refine gate_callee (f := 29) rfl ?_); refine goesL_ (some 8) rfl rfl Try.func29 (by kernel_rfl) rfl #[.agg #[.string a0_0, .int .i64 a0_1, .int .i64 a0_2, .int .i64 a0_3, .int .i64 a0_4, .int .i64 a0_5, .int .i64 a0_6, .int .i64 a0_7, .slice A0_8 l0_8.length c0_8]] rfl (by (try simp only [List.map_toArray, List.map_cons, List.map_nil]); first | done | rfl | (simp only [List.length_drop, List.length_take]; rfl)) ?_; (with_reducible refine (feature_Check.calls k a0_0 a0_1 a0_2 a0_3 a0_4 a0_5 a0_6 a0_7 _ _ l0_8 t145 _ ?side1 ?side2 A3.out).mono ?_); (case side1 => repeat (first | exact (Kd.C_below HR0_8.out HB.out) | (with_reducible refine Kd.C_alloc ?_ _) | (with_reducible refine Kd.C_drewN ?_ _) | (with_reducible refine Kd.C_drew ?_))); (case side2 => exact HC0_8.out); rintro e w13 ⟨rfl, hb⟩; refine ⟨_, rfl, ?_⟩; have n0_ := zm (zb (g := gb144) (o := .cells #[.string a0_0, .int .i64 a0_1, .int .i64 a0_2, .int .i64 a0_3, .int .i64 a0_4, .int .i64 a0_5, .int .i64 a0_6, .int .i64 a0_7, .slice A0_8 l0_8.length c0_8] 28 (0, 0)) (by (with_reducible repeat first | apply zd | apply ze | apply za); exact BK144.out) hb); have n1_ := zm (below_step (by repeat (first | (with_reducible first | exact HB.out | apply zA | apply zD | apply zE | refine zS ?_ GE144.out) | exact HB.out)) hb); clear BK144 HB; have BK144 := n0_; have HB := n1_; clear n0_ n1_; (try clear hb); (try clear hb2); (try clear hk); (try clear hi); have hcz14_0 := zc BK144.out 0 (.string a0_0) rfl; have hcz14_1 := zc BK144.out 1 (.int .i64 a0_1) rfl; have hcz14_2 := zc BK144.out 2 (.int .i64 a0_2) rfl; have hcz14_3 := zc BK144.out 3 (.int .i64 a0_3) rfl; have hcz14_4 := zc BK144.out 4 (.int .i64 a0_4) rfl; have hcz14_5 := zc BK144.out 5 (.int .i64 a0_5) rfl; have hcz14_6 := zc BK144.out 6 (.int .i64 a0_6) rfl; have hcz14_7 := zc BK144.out 7 (.int .i64 a0_7) rfl; have hcz14_8 := zc BK144.out 8 (.slice A0_8 l0_8.length c0_8) rfl; have hfz14_0 := zf BK144.out 0; have hfz14_1 := zf BK144.out 1; have hfz14_2 := zf BK144.out 2; have hfz14_3 := zf BK144.out 3; have hfz14_4 := zf BK144.out 4; have hfz14_5 := zf BK144.out 5; have hfz14_6 := zf BK144.out 6; have hfz14_7 := zf BK144.out 7; have hfz14_8 := zf BK144.out 8))
    go_ret2
    exact ⟨by first | rfl | (simp [errW_none, errW_some] <;> rfl) | (simp [*, errW_none, errW_some] <;> rfl), by repeat (first | (with_reducible first | exact HB.out | apply zA | apply zD | apply zE | refine zS ?_ GE144.out) | exact HB.out)⟩
   ·replace c10 := Bool.eq_false_iff.mpr c10
    subst c10
    have H1 : (some (a0_7, 0)) = some (r1, r2) := by rw [if_neg (show ¬ (false = true) by decide)] at H; exact H
    clear H
    have H := H1
    clear H1
    simp only [Option.some.injEq, Prod.mk.injEq] at H
    obtain ⟨rfl, rfl⟩ := H
    go_enter Try.func78, Try.ntmps78
    go_wp2_with (first | ((with_reducible refine gate_dst (N := 2) rfl ?_); refine box_event ?hg (N := 2) ?hd (cs := #[.string a0_0, .int .i64 a0_1, .int .i64 a0_2, .int .i64 a0_3, .int .i64 a0_4, .int .i64 a0_5, .int .i64 a0_6, .int .i64 a0_7, .slice A0_8 l0_8.length c0_8]) (t := 28) ?hr ?_; (case hd => rfl); (case hg => rfl); (case hr => first | (go_simp; done) | (go_simp; rfl)); intro gb144 hg w15 hbox hb; have n0_ := zm (below_step (by repeat (first | (with_reducible first | exact HB.out | apply zA | apply zD | apply zE) | exact HB.out)) hb); have n1_ := zm (hbox); have n2_ := zm ((by rw [hg]; exact (below_size (by repeat (first | (with_reducible first | exact HB.out | apply zA | apply zD | apply zE) | exact HB.out))) : w.heap.size ≤ gb144)); have n3_ := zm ((by rw [hg]; exact (below_size (by repeat (first | (with_reducible first | exact HB.out | apply zA | apply zD | apply zE) | exact HB.out))) : w.heap.size ≤ gb144)); clear HB; have HB := n0_; have BK144 := n1_; have GW144 := n2_; have GE144 := n3_; clear n0_ n1_ n2_ n3_; clear hb hbox hg; have hcz16_0 := zc BK144.out 0 (.string a0_0) rfl; have hcz16_1 := zc BK144.out 1 (.int .i64 a0_1) rfl; have hcz16_2 := zc BK144.out 2 (.int .i64 a0_2) rfl; have hcz16_3 := zc BK144.out 3 (.int .i64 a0_3) rfl; have hcz16_4 := zc BK144.out 4 (.int .i64 a0_4) rfl; have hcz16_5 := zc BK144.out 5 (.int .i64 a0_5) rfl; have hcz16_6 := zc BK144.out 6 (.int .i64 a0_6) rfl; have hcz16_7 := zc BK144.out 7 (.int .i64 a0_7) rfl; have hcz16_8 := zc BK144.out 8 (.slice A0_8 l0_8.length c0_8) rfl; have hfz16_0 := zf BK144.out 0; have hfz16_1 := zf BK144.out 1; have hfz16_2 := zf BK144.out 2; have hfz16_3 := zf BK144.out 3; have hfz16_4 := zf BK144.out 4; have hfz16_5 := zf BK144.out 5; have hfz16_6 := zf BK144.out 6; have hfz16_7 := zf BK144.out 7; have hfz16_8 := zf BK144.out 8) | ((with_reducible refine gate_callee (f := 29) rfl ?_); refine goesL_ (some 8) rfl rfl Try.func29 (by kernel_rfl) rfl #[.agg #[.string a0_0, .int .i64 a0_1, .int .i64 a0_2, .int .i64 a0_3, .int .i64 a0_4, .int .i64 a0_5, .int .i64 a0_6, .int .i64 a0_7, .slice A0_8 l0_8.length c0_8]] rfl (by (try simp only [List.map_toArray, List.map_cons, List.map_nil]); first | done | rfl | (simp only [List.length_drop, List.length_take]; rfl)) ?_; (with_reducible refine (feature_Check.calls k a0_0 a0_1 a0_2 a0_3 a0_4 a0_5 a0_6 a0_7 _ _ l0_8 t145 _ ?side1 ?side2 A3.out).mono ?_); (case side1 => repeat (first | exact (Kd.C_below HR0_8.out HB.out) | (with_reducible refine Kd.C_alloc ?_ _) | (with_reducible refine Kd.C_drewN ?_ _) | (with_reducible refine Kd.C_drew ?_))); (case side2 => exact HC0_8.out); rintro e w17 ⟨rfl, hb⟩; refine ⟨_, rfl, ?_⟩; have n0_ := zm (zb (g := gb144) (o := .cells #[.string a0_0, .int .i64 a0_1, .int .i64 a0_2, .int .i64 a0_3, .int .i64 a0_4, .int .i64 a0_5, .int .i64 a0_6, .int .i64 a0_7, .slice A0_8 l0_8.length c0_8] 28 (0, 0)) (by (with_reducible repeat first | apply zd | apply ze | apply za); exact BK144.out) hb); have n1_ := zm (below_step (by repeat (first | (with_reducible first | exact HB.out | apply zA | apply zD | apply zE | refine zS ?_ GE144.out) | exact HB.out)) hb); clear BK144 HB; have BK144 := n0_; have HB := n1_; clear n0_ n1_; (try clear hb); (try clear hb2); (try clear hk); (try clear hi); have hcz18_0 := zc BK144.out 0 (.string a0_0) rfl; have hcz18_1 := zc BK144.out 1 (.int .i64 a0_1) rfl; have hcz18_2 := zc BK144.out 2 (.int .i64 a0_2) rfl; have hcz18_3 := zc BK144.out 3 (.int .i64 a0_3) rfl; have hcz18_4 := zc BK144.out 4 (.int .i64 a0_4) rfl; have hcz18_5 := zc BK144.out 5 (.int .i64 a0_5) rfl; have hcz18_6 := zc BK144.out 6 (.int .i64 a0_6) rfl; have hcz18_7 := zc BK144.out 7 (.int .i64 a0_7) rfl; have hcz18_8 := zc BK144.out 8 (.slice A0_8 l0_8.length c0_8) rfl; have hfz18_0 := zf BK144.out 0; have hfz18_1 := zf BK144.out 1; have hfz18_2 := zf BK144.out 2; have hfz18_3 := zf BK144.out 3; have hfz18_4 := zf BK144.out 4; have hfz18_5 := zf BK144.out 5; have hfz18_6 := zf BK144.out 6; have hfz18_7 := zf BK144.out 7; have hfz18_8 := zf BK144.out 8))
    go_ret2
    exact ⟨by first | rfl | (simp [errW_none, errW_some] <;> rfl) | (simp [*, errW_none, errW_some] <;> rfl), by repeat (first | (with_reducible first | exact HB.out | apply zA | apply zD | apply zE | refine zS ?_ GE144.out) | exact HB.out)⟩
 ·rw [if_neg c4] at H
  have c4b0 : (t145 == 0) = false := beq_eq_false_iff_ne.mpr c4
  have c4b1 : (t145 != 0) = true := bne_iff_ne.mpr c4
  simp only [Option.some.injEq, Prod.mk.injEq] at H
  obtain ⟨rfl, rfl⟩ := H
  go_enter Try.func78, Try.ntmps78
  go_wp2_with (first | ((with_reducible refine gate_dst (N := 2) rfl ?_); refine box_event ?hg (N := 2) ?hd (cs := #[.string a0_0, .int .i64 a0_1, .int .i64 a0_2, .int .i64 a0_3, .int .i64 a0_4, .int .i64 a0_5, .int .i64 a0_6, .int .i64 a0_7, .slice A0_8 l0_8.length c0_8]) (t := 28) ?hr ?_; (case hd => rfl); (case hg => rfl); (case hr => first | (go_simp; done) | (go_simp; rfl)); intro gb144 hg w19 hbox hb; have n0_ := zm (below_step (by repeat (first | (with_reducible first | exact HB.out | apply zA | apply zD | apply zE) | exact HB.out)) hb); have n1_ := zm (hbox); have n2_ := zm ((by rw [hg]; exact (below_size (by repeat (first | (with_reducible first | exact HB.out | apply zA | apply zD | apply zE) | exact HB.out))) : w.heap.size ≤ gb144)); have n3_ := zm ((by rw [hg]; exact (below_size (by repeat (first | (with_reducible first | exact HB.out | apply zA | apply zD | apply zE) | exact HB.out))) : w.heap.size ≤ gb144)); clear HB; have HB := n0_; have BK144 := n1_; have GW144 := n2_; have GE144 := n3_; clear n0_ n1_ n2_ n3_; clear hb hbox hg; have hcz20_0 := zc BK144.out 0 (.string a0_0) rfl; have hcz20_1 := zc BK144.out 1 (.int .i64 a0_1) rfl; have hcz20_2 := zc BK144.out 2 (.int .i64 a0_2) rfl; have hcz20_3 := zc BK144.out 3 (.int .i64 a0_3) rfl; have hcz20_4 := zc BK144.out 4 (.int .i64 a0_4) rfl; have hcz20_5 := zc BK144.out 5 (.int .i64 a0_5) rfl; have hcz20_6 := zc BK144.out 6 (.int .i64 a0_6) rfl; have hcz20_7 := zc BK144.out 7 (.int .i64 a0_7) rfl; have hcz20_8 := zc BK144.out 8 (.slice A0_8 l0_8.length c0_8) rfl; have hfz20_0 := zf BK144.out 0; have hfz20_1 := zf BK144.out 1; have hfz20_2 := zf BK144.out 2; have hfz20_3 := zf BK144.out 3; have hfz20_4 := zf BK144.out 4; have hfz20_5 := zf BK144.out 5; have hfz20_6 := zf BK144.out 6; have hfz20_7 := zf BK144.out 7; have hfz20_8 := zf BK144.out 8) | ((with_reducible refine gate_callee (f := 29) rfl ?_); refine goesL_ (some 8) rfl rfl Try.func29 (by kernel_rfl) rfl #[.agg #[.string a0_0, .int .i64 a0_1, .int .i64 a0_2, .int .i64 a0_3, .int .i64 a0_4, .int .i64 a0_5, .int .i64 a0_6, .int .i64 a0_7, .slice A0_8 l0_8.length c0_8]] rfl (by (try simp only [List.map_toArray, List.map_cons, List.map_nil]); first | done | rfl | (simp only [List.length_drop, List.length_take]; rfl)) ?_; (with_reducible refine (feature_Check.calls k a0_0 a0_1 a0_2 a0_3 a0_4 a0_5 a0_6 a0_7 _ _ l0_8 t145 _ ?side1 ?side2 A3.out).mono ?_); (case side1 => repeat (first | exact (Kd.C_below HR0_8.out HB.out) | (with_reducible refine Kd.C_alloc ?_ _) | (with_reducible refine Kd.C_drewN ?_ _) | (with_reducible refine Kd.C_drew ?_))); (case side2 => exact HC0_8.out); rintro e w21 ⟨rfl, hb⟩; refine ⟨_, rfl, ?_⟩; have n0_ := zm (zb (g := gb144) (o := .cells #[.string a0_0, .int .i64 a0_1, .int .i64 a0_2, .int .i64 a0_3, .int .i64 a0_4, .int .i64 a0_5, .int .i64 a0_6, .int .i64 a0_7, .slice A0_8 l0_8.length c0_8] 28 (0, 0)) (by (with_reducible repeat first | apply zd | apply ze | apply za); exact BK144.out) hb); have n1_ := zm (below_step (by repeat (first | (with_reducible first | exact HB.out | apply zA | apply zD | apply zE | refine zS ?_ GE144.out) | exact HB.out)) hb); clear BK144 HB; have BK144 := n0_; have HB := n1_; clear n0_ n1_; (try clear hb); (try clear hb2); (try clear hk); (try clear hi)))
  go_ret2
  exact ⟨by first | rfl | (simp [errW_none, errW_some] <;> rfl) | (simp [*, errW_none, errW_some] <;> rfl), by repeat (first | (with_reducible first | exact HB.out | apply zA | apply zD | apply zE | refine zS ?_ GE144.out) | exact HB.out)⟩
end Go.Proofs.Ytkgdlbepjmgaiaa.Fea
namespace Go.Proofs.Ytkgdlbepjmgaiaa.Fea
open Go.RowKit Go.Proofs.YtkgdlbepjmgaiaaW.PrintWords Go.Proofs.YtkgdlbepjmgaiaaW.PrintLast Go.Proofs.YtkgdlbepjmgaiaaW.PrintMore
attribute [local go_sem] max2_int min2_int max_two min_two max_three min_three max_four min_four
set_option linter.unusedVariables false
set_option linter.unusedSimpArgs false
def feature_Maximum.f (k : Nat) (a0_0 : ByteArray) (a0_1 : Int) (a0_2 : Int) (a0_3 : Int) (a0_4 : Int) (a0_5 : Int) (a0_6 : Int) (a0_7 : Int) (l0_8 : List (S104)) : Option (Int × Int) := (feature_inner.f a0_1).bind fun t147 => ((feature_extreme.f k a0_0 a0_1 a0_2 a0_3 a0_4 a0_5 a0_6 a0_7 l0_8 t147).bind fun bt148 => (some (bt148.1, bt148.2)))
theorem feature_Maximum.mono : ∀ a0 a1 a2 a3 a4 a5 a6 a7 a8 k, LeO (feature_Maximum.f k a0 a1 a2 a3 a4 a5 a6 a7 a8) (feature_Maximum.f (k + 1) a0 a1 a2 a3 a4 a5 a6 a7 a8) := by
 intro a0 a1 a2 a3 a4 a5 a6 a7 a8 k
 unfold feature_Maximum.f
 repeat' first
  | (with_reducible exact feature_extreme.mono _ _ _ _ _ _ _ _ _ _ _)
  | (with_reducible exact LeO.refl _)
  | (with_reducible exact LeO.none _)
  | (with_reducible refine LeO.ite ?_ ?_)
  | (with_reducible refine LeO.bind ?_ (fun _ => ?_))
  | exact feature_extreme.mono _ _ _ _ _ _ _ _ _ _ _
  | exact LeO.none _
  | refine LeO.ite ?_ ?_
  | refine LeO.bind ?_ (fun _ => ?_)
def feature_Maximum.T1 : Bool × List (List Nat × List Nat) := (true, [([], []), ([], []), ([1], [1]), ([2], [2]), ([0, 3, 3], [0, 3]), ([4], [4]), ([4], [4]), ([5, 4, 0, 1, 2, 3, 4, 5, 6], [5]), ([6, 7, 0, 1, 2, 3, 4, 5, 6, 7], [6])])
def feature_Maximum.B1 : List Nat := [0, 0, 2, 6, 15, 31, 31, 127, 255]
theorem feature_Maximum.tab1 : rtab .any (opsOf Try.f25 1) = feature_Maximum.T1 := by kernel_rfl
theorem feature_Maximum.bits1 : waitsOk feature_Maximum.T1.2 feature_Maximum.B1 = true := by kernel_rfl
set_option maxHeartbeats 8000000 in
set_option maxRecDepth 100000 in
theorem feature_Maximum.calls (k : Nat) (a0_0 : ByteArray) (a0_1 : Int) (a0_2 : Int) (a0_3 : Int) (a0_4 : Int) (a0_5 : Int) (a0_6 : Int) (a0_7 : Int) (A0_8 : Option Addr) (c0_8 : Nat) (l0_8 : List (S104)) (r1 : Int) (r2 : Int) (w : World) (hr0_8 : Kd.C k104 w A0_8 l0_8.length l0_8) (hc0_8 : l0_8.length ≤ c0_8) (h : feature_Maximum.f k a0_0 a0_1 a0_2 a0_3 a0_4 a0_5 a0_6 a0_7 l0_8 = some (r1, r2)) :
 Calls Try.prog 25 #[.agg #[.string a0_0, .int .i64 a0_1, .int .i64 a0_2, .int .i64 a0_3, .int .i64 a0_4, .int .i64 a0_5, .int .i64 a0_6, .int .i64 a0_7, .slice A0_8 l0_8.length c0_8]] w fun e w' => e = .returned (.tuple #[.int .i64 r1, .int .i64 r2]) ∧ Below w.heap.size w w' := by
 have hu28 := Try.underlying28
 have HR0_8 := zm hr0_8
 have HC0_8 := zm hc0_8
 clear hr0_8 hc0_8
 have HB := zm (Below.refl w.heap.size w)
 have H : ((feature_inner.f a0_1).bind fun t147 => ((feature_extreme.f k a0_0 a0_1 a0_2 a0_3 a0_4 a0_5 a0_6 a0_7 l0_8 t147).bind fun bt148 => (some (bt148.1, bt148.2)))) = some (r1, r2) := h
 clear h
 replace H := Option.bind_eq_some_iff.mp H
 obtain ⟨t147, A20, H⟩ := H
 replace H : ((feature_extreme.f k a0_0 a0_1 a0_2 a0_3 a0_4 a0_5 a0_6 a0_7 l0_8 t147).bind fun bt148 => (some (bt148.1, bt148.2))) = some (r1, r2) := H
 have A2 := zm A20
 clear A20
 replace H := Option.bind_eq_some_iff.mp H
 obtain ⟨⟨t148, t149⟩, A30, H⟩ := H
 replace H : (some (t148, t149)) = some (r1, r2) := H
 have A3 := zm A30
 clear A30
 simp only [Option.some.injEq, Prod.mk.injEq] at H
 obtain ⟨rfl, rfl⟩ := H
 go_enter Try.func25, Try.ntmps25
 try go_wp2_with (first | ((with_reducible refine gate_dst (N := 1) rfl ?_); refine box_event ?hg (N := 1) ?hd (cs := #[.string a0_0, .int .i64 a0_1, .int .i64 a0_2, .int .i64 a0_3, .int .i64 a0_4, .int .i64 a0_5, .int .i64 a0_6, .int .i64 a0_7, .slice A0_8 l0_8.length c0_8]) (t := 28) ?hr ?_; (case hd => rfl); (case hg => rfl); (case hr => first | (go_simp; done) | (go_simp; rfl)); intro gb146 hg w4 hbox hb; have n0_ := zm (below_step (by repeat (first | (with_reducible first | exact HB.out | apply zA | apply zD | apply zE) | exact HB.out)) hb); have n1_ := zm (hbox); have n2_ := zm ((by rw [hg]; exact (below_size (by repeat (first | (with_reducible first | exact HB.out | apply zA | apply zD | apply zE) | exact HB.out))) : w.heap.size ≤ gb146)); have n3_ := zm ((by rw [hg]; exact (below_size (by repeat (first | (with_reducible first | exact HB.out | apply zA | apply zD | apply zE) | exact HB.out))) : w.heap.size ≤ gb146)); clear HB; have HB := n0_; have BK146 := n1_; have GW146 := n2_; have GE146 := n3_; clear n0_ n1_ n2_ n3_; clear hb hbox hg))
 have n0_ := zm (ze BK146.out)
 have n1_ := zm (zE HB.out)
 clear BK146 HB
 have BK146 := n0_
 have HB := n1_
 clear n0_ n1_
 refine start_ (n := 9) (S := fun w' => w'.cell? ⟨gb146, 0, none⟩ = some (.string a0_0) ∧ w'.cell? ⟨gb146, 1, none⟩ = some (.int .i64 a0_1) ∧ w'.cell? ⟨gb146, 2, none⟩ = some (.int .i64 a0_2) ∧ w'.cell? ⟨gb146, 3, none⟩ = some (.int .i64 a0_3) ∧ w'.cell? ⟨gb146, 4, none⟩ = some (.int .i64 a0_4) ∧ w'.cell? ⟨gb146, 5, none⟩ = some (.int .i64 a0_5) ∧ w'.cell? ⟨gb146, 6, none⟩ = some (.int .i64 a0_6) ∧ w'.cell? ⟨gb146, 7, none⟩ = some (.int .i64 a0_7) ∧ w'.cell? ⟨gb146, 8, none⟩ = some (.slice A0_8 l0_8.length c0_8)) (ds := []) #[false, false, false, false, false, false, false, false, false] (by kernel_rfl) rfl rfl ⟨(blk_cell BK146.out 0).trans rfl, (blk_cell BK146.out 1).trans rfl, (blk_cell BK146.out 2).trans rfl, (blk_cell BK146.out 3).trans rfl, (blk_cell BK146.out 4).trans rfl, (blk_cell BK146.out 5).trans rfl, (blk_cell BK146.out 6).trans rfl, (blk_cell BK146.out 7).trans rfl, (blk_cell BK146.out 8).trans rfl⟩ (fun hHeld => ?_); refine with_tabW feature_Maximum.tab1 feature_Maximum.bits1 (fun HT_ HW_ => ?_)
 generalize w4.drew = w5 at BK146 HB hHeld ⊢
 refine pure_ (i := 1) (N := some 5) (v := ?_) (a' := ?_) #[false, true, false, false, false, false, false, false, false] rfl rfl (any_of HT_.out (by kernel_rfl)) (fun _ _ _ h => h) (Or.inl ⟨by rfl, ?_⟩) ?_ ?_
 rotate_left
 ·intro w'
  go_simp
  with_reducible rfl
 rotate_left
 ·simp only [Act.put, zx, zy, zz, i64_w, i32_w]
  rfl
 refine take_ (i := 0) (N := some 4) (v := ?_) (a' := ?_) #[true, true, false, false, false, false, false, false, false] rfl rfl (take_ofW HT_.out HW_.out (by kernel_rfl)) (fun _ _ _ h => h) (Or.inl ⟨by rfl, ?_⟩) hHeld ?_ ?_
 rotate_left
 ·rintro w' ⟨s0, s1, s2, s3, s4, s5, s6, s7, s8⟩
  go_simp
  with_reducible rfl
 rotate_left
 ·simp only [Act.put, zx, zy, zz, i64_w, i32_w]
  rfl
 refine take_ (i := 2) (N := some 6) (v := ?_) (a' := ?_) #[true, true, true, false, false, false, false, false, false] rfl rfl (take_ofW HT_.out HW_.out (by kernel_rfl)) (fun _ _ _ h => h) (Or.inl ⟨by rfl, ?_⟩) hHeld ?_ ?_
 rotate_left
 ·rintro w' ⟨s0, s1, s2, s3, s4, s5, s6, s7, s8⟩
  go_simp
  with_reducible rfl
 rotate_left
 ·simp only [Act.put, zx, zy, zz, i64_w, i32_w]
  rfl
 refine one_ (i := 3) (N := some 7) #[true, true, true, true, false, false, false, false, false] rfl rfl (one_of HT_.out (by kernel_rfl)) (by decide) (fun K hK => ?_)
 refine goes_ Try.func76 (by kernel_rfl) rfl #[.int .i64 a0_1] (by rfl) rfl rfl (by (try simp only [List.map_toArray, List.map_cons, List.map_nil]); first | done | rfl | (simp only [List.length_drop, List.length_take]; rfl)) ?_
 with_reducible refine (feature_inner.calls a0_1 t147 _ A2.out).mono ?_
 rintro e w' ⟨rfl, ⟨nd, rfl⟩⟩
 refine ⟨_, rfl, ?_⟩
 refine hK.out _ _ ⟨(blk_cell BK146.out 0).trans rfl, (blk_cell BK146.out 1).trans rfl, (blk_cell BK146.out 2).trans rfl, (blk_cell BK146.out 3).trans rfl, (blk_cell BK146.out 4).trans rfl, (blk_cell BK146.out 5).trans rfl, (blk_cell BK146.out 6).trans rfl, (blk_cell BK146.out 7).trans rfl, (blk_cell BK146.out 8).trans rfl⟩ (fun hHeld => ?_)
 clear hK K
 refine norm_ (a' := ?_) ?_ ?_
 rotate_left
 ·show Act.put _ (some 7) _ = _
  simp only [Act.put, zx, zy, zz, i64_w, i32_w]
  rfl
 refine one_ (i := 4) (N := some 8) #[true, true, true, true, true, false, false, false, false] rfl rfl (one_of HT_.out (by kernel_rfl)) (by decide) (fun K hK => ?_)
 refine goes_ Try.func78 (by kernel_rfl) rfl #[.agg #[.string a0_0, .int .i64 a0_1, .int .i64 a0_2, .int .i64 a0_3, .int .i64 a0_4, .int .i64 a0_5, .int .i64 a0_6, .int .i64 a0_7, .slice A0_8 l0_8.length c0_8], .bool t147] (by rfl) rfl rfl (by (try simp only [List.map_toArray, List.map_cons, List.map_nil]); first | done | rfl | (simp only [List.length_drop, List.length_take]; rfl)) ?_
 with_reducible refine (feature_extreme.calls k a0_0 a0_1 a0_2 a0_3 a0_4 a0_5 a0_6 a0_7 _ _ l0_8 t147 t148 t149 _ ?side1 ?side2 A3.out).mono ?_
 (case side1 => repeat (first | exact (Kd.C_below HR0_8.out (by repeat (first | (with_reducible first | exact HB.out | apply zA | apply zD | apply zE | refine zS ?_ GE146.out) | exact HB.out))) | (with_reducible refine Kd.C_alloc ?_ _) | (with_reducible refine Kd.C_drewN ?_ _) | (with_reducible refine Kd.C_drew ?_)))
 (case side2 => exact HC0_8.out)
 rintro e w6 ⟨rfl, hb⟩
 refine ⟨_, rfl, ?_⟩
 have n0_ := zm (zb (g := gb146) (by (with_reducible repeat first | apply zd | apply ze | apply za); exact BK146.out) hb)
 have n1_ := zm (below_step (by repeat (first | (with_reducible first | exact HB.out | apply zA | apply zD | apply zE | refine zS ?_ GE146.out) | exact HB.out)) hb)
 clear BK146 HB
 have BK146 := n0_
 have HB := n1_
 clear n0_ n1_
 (try clear hb)
 (try clear hb2)
 (try clear hk)
 (try clear hi)
 refine hK.out _ _ ⟨(blk_cell BK146.out 0).trans rfl, (blk_cell BK146.out 1).trans rfl, (blk_cell BK146.out 2).trans rfl, (blk_cell BK146.out 3).trans rfl, (blk_cell BK146.out 4).trans rfl, (blk_cell BK146.out 5).trans rfl, (blk_cell BK146.out 6).trans rfl, (blk_cell BK146.out 7).trans rfl, (blk_cell BK146.out 8).trans rfl⟩ (fun hHeld => ?_)
 clear hK K
 refine norm_ (a' := ?_) ?_ ?_
 rotate_left
 ·show Act.put _ (some 8) _ = _
  simp only [Act.put, zx, zy, zz, i64_w, i32_w]
  rfl
 refine pure_ (i := 5) (N := some 9) (v := ?_) (a' := ?_) #[true, true, true, true, true, true, false, false, false] rfl rfl (any_of HT_.out (by kernel_rfl)) (fun _ _ _ h => h) (Or.inl ⟨by rfl, ?_⟩) ?_ ?_
 rotate_left
 ·intro w'
  go_simp
  with_reducible rfl
 rotate_left
 ·simp only [Act.put, zx, zy, zz, i64_w, i32_w]
  rfl
 refine pure_ (i := 6) (N := some 10) (v := ?_) (a' := ?_) #[true, true, true, true, true, true, true, false, false] rfl rfl (any_of HT_.out (by kernel_rfl)) (fun _ _ _ h => h) (Or.inl ⟨by rfl, ?_⟩) ?_ ?_
 rotate_left
 ·intro w'
  go_simp
  with_reducible rfl
 rotate_left
 ·simp only [Act.put, zx, zy, zz, i64_w, i32_w]
  rfl
 refine pure_ (i := 7) (N := some 2) (v := ?_) (a' := ?_) #[true, true, true, true, true, true, true, true, false] rfl rfl (any_of HT_.out (by kernel_rfl)) (fun _ _ _ h => h) (Or.inl ⟨by rfl, ?_⟩) ?_ ?_
 rotate_left
 ·intro w'
  go_simp
  with_reducible rfl
 rotate_left
 ·simp only [Act.put, zx, zy, zz, i64_w, i32_w]
  rfl
 refine pure_ (i := 8) (N := some 3) (v := ?_) (a' := ?_) #[true, true, true, true, true, true, true, true, true] rfl rfl (any_of HT_.out (by kernel_rfl)) (fun _ _ _ h => h) (Or.inl ⟨by rfl, ?_⟩) ?_ ?_
 rotate_left
 ·intro w'
  go_simp
  with_reducible rfl
 rotate_left
 ·simp only [Act.put, zx, zy, zz, i64_w, i32_w]
  rfl
 refine done_ (done_of HT_.out (by kernel_rfl)) ?_
 try go_wp2
 go_ret2
 exact ⟨by first | rfl | (simp [errW_none, errW_some] <;> rfl) | (simp [*, errW_none, errW_some] <;> rfl), by repeat (first | (with_reducible first | exact HB.out | apply zA | apply zD | apply zE | refine zS ?_ GE146.out) | exact HB.out)⟩
end Go.Proofs.Ytkgdlbepjmgaiaa.Fea
namespace Go.Proofs.Ytkgdlbepjmgaiaa.Fea
open Go.RowKit Go.Proofs.YtkgdlbepjmgaiaaW.PrintWords Go.Proofs.YtkgdlbepjmgaiaaW.PrintLast Go.Proofs.YtkgdlbepjmgaiaaW.PrintMore
attribute [local go_sem] max2_int min2_int max_two min_two max_three min_three max_four min_four
set_option linter.unusedVariables false
set_option linter.unusedSimpArgs false
def metrolablaw18_Hole.f  : Option (ByteArray × Int × Int × Int × Int × Int × Int × Int × (List (S104))) := some ((⟨#[72]⟩ : ByteArray), 1, 2, 5000, 0, 0, 1000, 1011, ([] : List (S104)))
set_option maxHeartbeats 8000000 in
set_option maxRecDepth 100000 in
theorem metrolablaw18_Hole.calls  (r1 : ByteArray) (r2 : Int) (r3 : Int) (r4 : Int) (r5 : Int) (r6 : Int) (r7 : Int) (r8 : Int) (r9 : List (S104)) (w : World) (h : metrolablaw18_Hole.f  = some (r1, r2, r3, r4, r5, r6, r7, r8, r9)) :
    Calls Try.prog 67 #[] w fun e w' => ∃ v8_ : Value, e = .returned (.agg #[.string r1, .int .i64 r2, .int .i64 r3, .int .i64 r4, .int .i64 r5, .int .i64 r6, .int .i64 r7, .int .i64 r8, v8_]) ∧ Kd.S k104 104 w' w.heap.size (fun _ => True) v8_ r9 ∧ Below w.heap.size w w' := by
  have hu28 := Try.underlying28
  have hu23 := Try.underlying23
  have hu25 := Try.underlying25
  have HB := Aside0.mk (Below.refl w.heap.size w)
  have H : (some ((⟨#[72]⟩ : ByteArray), 1, 2, 5000, 0, 0, 1000, 1011, ([] : List (S104)))) = some (r1, r2, r3, r4, r5, r6, r7, r8, r9) := h
  clear h
  simp only [Option.some.injEq, Prod.mk.injEq] at H
  obtain ⟨rfl, rfl, rfl, rfl, rfl, rfl, rfl, rfl, rfl⟩ := H
  go_enter Try.func67, Try.ntmps67
  go_wp2_with (first | ((with_reducible refine gate_dst (N := 0) rfl ?_); refine box_event ?hg (N := 0) ?hd (cs := #[.string (⟨#[]⟩ : ByteArray), .int .i64 0, .int .i64 0, .int .i64 0, .int .i64 0, .int .i64 0, .int .i64 0, .int .i64 0, .slice none 0 0]) (t := 28) ?hr ?_; (case hd => rfl); (case hg => rfl); (case hr => first | (go_simp; done) | (go_simp; rfl)); intro gb150 hg w1 hbox hb; have n0_ := Aside0.mk (below_step (by repeat (first | (with_reducible first | exact HB.out | apply below_alloc | apply pw_below_drewN | apply below_drew1) | exact HB.out)) hb); have n1_ := Aside0.mk (hbox); have n2_ := Aside0.mk ((by rw [hg]; exact (below_size (by repeat (first | (with_reducible first | exact HB.out | apply below_alloc | apply pw_below_drewN | apply below_drew1) | exact HB.out))) : w.heap.size ≤ gb150)); have n3_ := Aside0.mk ((by rw [hg]; exact (below_size (by repeat (first | (with_reducible first | exact HB.out | apply below_alloc | apply pw_below_drewN | apply below_drew1) | exact HB.out))) : w.heap.size ≤ gb150)); clear HB; have HB := n0_; have BK150 := n1_; have GW150 := n2_; have GE150 := n3_; clear n0_ n1_ n2_ n3_; clear hb hbox hg; have hcz2_0 : w1.cell? ⟨gb150, 0, none⟩ = some (.string (⟨#[]⟩ : ByteArray)) := (blk_cell BK150.out 0).trans rfl; have hcz2_1 : w1.cell? ⟨gb150, 1, none⟩ = some (.int .i64 0) := (blk_cell BK150.out 1).trans rfl; have hcz2_2 : w1.cell? ⟨gb150, 2, none⟩ = some (.int .i64 0) := (blk_cell BK150.out 2).trans rfl; have hcz2_3 : w1.cell? ⟨gb150, 3, none⟩ = some (.int .i64 0) := (blk_cell BK150.out 3).trans rfl; have hcz2_4 : w1.cell? ⟨gb150, 4, none⟩ = some (.int .i64 0) := (blk_cell BK150.out 4).trans rfl; have hcz2_5 : w1.cell? ⟨gb150, 5, none⟩ = some (.int .i64 0) := (blk_cell BK150.out 5).trans rfl; have hcz2_6 : w1.cell? ⟨gb150, 6, none⟩ = some (.int .i64 0) := (blk_cell BK150.out 6).trans rfl; have hcz2_7 : w1.cell? ⟨gb150, 7, none⟩ = some (.int .i64 0) := (blk_cell BK150.out 7).trans rfl; have hcz2_8 : w1.cell? ⟨gb150, 8, none⟩ = some (.slice none 0 0) := (blk_cell BK150.out 8).trans rfl; have hfz2_0 := blk_frozen BK150.out 0; have hfz2_1 := blk_frozen BK150.out 1; have hfz2_2 := blk_frozen BK150.out 2; have hfz2_3 := blk_frozen BK150.out 3; have hfz2_4 := blk_frozen BK150.out 4; have hfz2_5 := blk_frozen BK150.out 5; have hfz2_6 := blk_frozen BK150.out 6; have hfz2_7 := blk_frozen BK150.out 7; have hfz2_8 := blk_frozen BK150.out 8))
  refine bodyPost_ret (results_cell_row rfl _ _ gb150 28 #[.string (⟨#[72]⟩ : ByteArray), .int .i64 1, .int .i64 2, .int .i64 5000, .int .i64 0, .int .i64 0, .int .i64 1000, .int .i64 1011, .slice none 0 0] (0, 0) _ rfl (by (with_reducible repeat (first | refine blk_drewN ?_ _ | refine blk_drew ?_ | refine blk_alloc ?_ _)); refine blk_put (cs := #[.string (⟨#[72]⟩ : ByteArray), .int .i64 1, .int .i64 2, .int .i64 5000, .int .i64 0, .int .i64 0, .int .i64 1000, .int .i64 1011, .slice none 0 0]) ?_ 8 _ rfl; (with_reducible repeat (first | refine blk_drewN ?_ _ | refine blk_drew ?_ | refine blk_alloc ?_ _)); refine blk_put (cs := #[.string (⟨#[72]⟩ : ByteArray), .int .i64 1, .int .i64 2, .int .i64 5000, .int .i64 0, .int .i64 0, .int .i64 1000, .int .i64 0, .slice none 0 0]) ?_ 7 _ rfl; (with_reducible repeat (first | refine blk_drewN ?_ _ | refine blk_drew ?_ | refine blk_alloc ?_ _)); refine blk_put (cs := #[.string (⟨#[72]⟩ : ByteArray), .int .i64 1, .int .i64 2, .int .i64 5000, .int .i64 0, .int .i64 0, .int .i64 0, .int .i64 0, .slice none 0 0]) ?_ 6 _ rfl; (with_reducible repeat (first | refine blk_drewN ?_ _ | refine blk_drew ?_ | refine blk_alloc ?_ _)); refine blk_put (cs := #[.string (⟨#[72]⟩ : ByteArray), .int .i64 1, .int .i64 2, .int .i64 5000, .int .i64 0, .int .i64 0, .int .i64 0, .int .i64 0, .slice none 0 0]) ?_ 5 _ rfl; (with_reducible repeat (first | refine blk_drewN ?_ _ | refine blk_drew ?_ | refine blk_alloc ?_ _)); refine blk_put (cs := #[.string (⟨#[72]⟩ : ByteArray), .int .i64 1, .int .i64 2, .int .i64 5000, .int .i64 0, .int .i64 0, .int .i64 0, .int .i64 0, .slice none 0 0]) ?_ 4 _ rfl; (with_reducible repeat (first | refine blk_drewN ?_ _ | refine blk_drew ?_ | refine blk_alloc ?_ _)); refine blk_put (cs := #[.string (⟨#[72]⟩ : ByteArray), .int .i64 1, .int .i64 2, .int .i64 0, .int .i64 0, .int .i64 0, .int .i64 0, .int .i64 0, .slice none 0 0]) ?_ 3 _ rfl; (with_reducible repeat (first | refine blk_drewN ?_ _ | refine blk_drew ?_ | refine blk_alloc ?_ _)); refine blk_put (cs := #[.string (⟨#[72]⟩ : ByteArray), .int .i64 1, .int .i64 0, .int .i64 0, .int .i64 0, .int .i64 0, .int .i64 0, .int .i64 0, .slice none 0 0]) ?_ 2 _ rfl; (with_reducible repeat (first | refine blk_drewN ?_ _ | refine blk_drew ?_ | refine blk_alloc ?_ _)); refine blk_put (cs := #[.string (⟨#[72]⟩ : ByteArray), .int .i64 0, .int .i64 0, .int .i64 0, .int .i64 0, .int .i64 0, .int .i64 0, .int .i64 0, .slice none 0 0]) ?_ 1 _ rfl; (with_reducible repeat (first | refine blk_drewN ?_ _ | refine blk_drew ?_ | refine blk_alloc ?_ _)); refine blk_put (cs := #[.string (⟨#[]⟩ : ByteArray), .int .i64 0, .int .i64 0, .int .i64 0, .int .i64 0, .int .i64 0, .int .i64 0, .int .i64 0, .slice none 0 0]) ?_ 0 _ rfl; (with_reducible repeat (first | refine blk_drewN ?_ _ | refine blk_drew ?_ | refine blk_alloc ?_ _)); exact BK150.out) Try.underlying28 rfl (by kernel_rfl)) rfl ?_
  exact ⟨_, by first | rfl | (simp [errW_none, errW_some] <;> rfl) | (simp [*, errW_none, errW_some] <;> rfl), by first | exact Kd.S_nil _ _ _ _ _ | exact Kd.N_nil _ _ _ _ _ | exact Kd.V_nil _ _ _ _ _ | exact Kd.Q_nil _ _ _ _ _ | exact Kd.R_nil _ _ _ _ _, by repeat (first | (with_reducible first | exact HB.out | apply below_alloc | apply pw_below_drewN | apply below_drew1 | refine below_set ?_ GE150.out) | exact HB.out)⟩
end Go.Proofs.Ytkgdlbepjmgaiaa.Fea
