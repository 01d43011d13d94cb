/- Part 4 of the texts behind the last one of this claim. -/
import Derived.Test.YtkgdlbepjmgaiaaZJudges3
set_option linter.unusedVariables false
set_option linter.unusedSimpArgs false
namespace Go.Proofs.Ytkgdlbepjmgaiaa.Cal
open Go.RowKit Go.Proofs.YtkgdlbepjmgaiaaW.PrintWords Go.Proofs.YtkgdlbepjmgaiaaW.PrintLast Go.Proofs.YtkgdlbepjmgaiaaW.PrintMore
def folV (l : List S68) : Nat → ByteArray → Int → List Int → List Int × Int
  | 0, _, _, _ => ([], 16)
  | k + 1, nm, on, pre =>
    if (placeV l nm on).2 = 0 then
      (if (placeV l nm on).1 ∈ pre then ([], 16) else if tl (rd_T68 l (placeV l nm on).1).f1 = [] then (pre ++ [(placeV l nm on).1], 0)
       else folV l k (rd_T68 l (placeV l nm on).1).f1 (rd_T68 l (placeV l nm on).1).f4 (pre ++ [(placeV l nm on).1]))
    else ([], (placeV l nm on).2)
def folOf (l : List S68) (nm : ByteArray) (on : Int) : List Int × Int := folV l (l.length + 2) nm on []
theorem nodup_len : ∀ (n : Nat) (l : List Int), l.Nodup → (∀ x ∈ l, 0 ≤ x ∧ x < (n : Int)) → l.length ≤ n := by
  intro n
  induction n with
  | zero =>
    intro l _ h
    cases l with
    | nil => exact Nat.le_refl _
    | cons x t => have := h x (List.mem_cons_self ..); omega
  | succ n ih =>
    intro l hn h
    by_cases hm : (n : Int) ∈ l
    · have := ih (l.erase (n : Int)) (hn.erase _) (fun x hx => by
        rw [hn.mem_erase_iff] at hx
        have := h x hx.2
        have := hx.1
        omega)
      rw [List.length_erase_of_mem hm] at this
      omega
    · have := ih l hn (fun x hx => by
        have := h x hx
        have : x ≠ (n : Int) := fun e => hm (e ▸ hx)
        omega)
      omega
def Pre (l : List S68) (pre : List Int) : Prop := pre.Nodup ∧ ∀ x ∈ pre, 0 ≤ x ∧ x < (l.length : Int)
theorem Pre.len {l : List S68} {pre : List Int} (h : Pre l pre) : pre.length ≤ l.length := nodup_len _ _ h.1 h.2
theorem Pre.snoc {l : List S68} {pre : List Int} (h : Pre l pre) {i : Int} (hi : 0 ≤ i ∧ i < (l.length : Int)) (hn : i ∉ pre) : Pre l (pre ++ [i]) := by
  refine ⟨List.nodup_append.2 ⟨h.1, List.nodup_cons.2 ⟨List.not_mem_nil, List.nodup_nil⟩, ?_⟩, fun x hx => ?_⟩
  · intro a ha b hb
    rw [List.mem_singleton] at hb
    rintro rfl
    exact hn (hb ▸ ha)
  · rcases List.mem_append.1 hx with g | g
    · exact h.2 x g
    · rw [List.mem_singleton] at g
      exact g ▸ hi
theorem place_in {l : List S68} {nm : ByteArray} {on : Int} (h : (placeV l nm on).2 = 0) : 0 ≤ (placeV l nm on).1 ∧ (placeV l nm on).1 < (l.length : Int) := by
  rcases placeV_ok (l := l) (nm := nm) (on := on) rfl with ⟨j, hj, h1, _⟩ | ⟨_, h2, _⟩
  · rw [h1]; exact ⟨by show (0 : Int) ≤ (j : Int); omega, by show (j : Int) < _; omega⟩
  · rw [h] at h2; omega
theorem chainGo_eq {l : List S68} (ho : Ord l) (hl : l.length ≤ 256) : ∀ (k : Nat) (nm : ByteArray) (on : Int) (met : List Bool) (pre : List Int), met.length = l.length → (∀ t : Nat, t < l.length → (met.getD t false = true ↔ (t : Int) ∈ pre)) → Pre l pre → l.length + 2 ≤ k + pre.length → chainGo l k nm on met pre = some (folV l k nm on pre) := by
  intro k
  induction k with
  | zero =>
    intro nm on met pre _ _ hp hk
    have := hp.len
    omega
  | succ k ih =>
    intro nm on met pre hm hmet hp hk
    rw [chainGo, folV, validF_place ho hl, Option.bind_some]
    by_cases h0 : (placeV l nm on).2 = 0
    · rw [if_pos h0, if_pos h0]
      have hr := place_in h0
      have ht := hmet (placeV l nm on).1.toNat (by omega)
      rw [show (((placeV l nm on).1.toNat : Nat) : Int) = (placeV l nm on).1 by omega] at ht
      by_cases h1 : (placeV l nm on).1 ∈ pre
      · rw [if_pos (ht.2 h1), if_pos h1]
      · rw [if_neg (fun h => h1 (ht.1 h)), if_neg h1]
        simp only [ByteArray.toList_eq]
        by_cases h2 : tl (rd_T68 l (placeV l nm on).1).f1 = []
        · rw [if_pos h2, if_pos h2]
        · rw [if_neg h2, if_neg h2]
          refine ih _ _ _ _ (by simpa using hm) (fun t ht' => ?_) (hp.snoc hr h1) (by simp; omega)
          rw [List.mem_append, List.mem_singleton, ← hmet t ht']
          by_cases e : t = (placeV l nm on).1.toNat
          · subst e
            rw [List.getD_eq_getElem?_getD, List.getElem?_set_self (by omega)]
            simp; omega
          · rw [List.getD_eq_getElem?_getD, List.getElem?_set_ne (fun h => e h.symm), ← List.getD_eq_getElem?_getD]
            constructor
            · exact Or.inl
            · rintro (h | h)
              · exact h
              · omega
    · rw [if_neg h0, if_neg h0]
theorem collF_eq {l : List S68} (ho : Ord l) (hl : l.length ≤ 256) (nm : ByteArray) (on : Int) : collF l nm on = some (folOf l nm on) := by
  unfold collF
  rw [if_pos (by omega)]
  refine chainGo_eq ho hl _ _ _ _ _ (by simp) (fun t ht => ?_) ⟨List.nodup_nil, fun x hx => by cases hx⟩ (by simp)
  simp [List.getD_eq_getElem?_getD, ht]
def Walk (l : List S68) : ByteArray → Int → List Int → Prop
  | _, _, [] => False
  | nm, on, i :: t => ∃ j : Nat, i = (j : Int) ∧ j < l.length ∧ Fits (rd_T68 l j) nm on ∧ ((tl (rd_T68 l j).f1 = [] ∧ t = []) ∨ (tl (rd_T68 l j).f1 ≠ [] ∧ Walk l (rd_T68 l j).f1 (rd_T68 l j).f4 t))
theorem Walk.ne {l : List S68} {nm : ByteArray} {on : Int} {t : List Int} (h : Walk l nm on t) : t ≠ [] := by
  rintro rfl; exact h
theorem Walk.range {l : List S68} : ∀ {t : List Int} {nm : ByteArray} {on : Int}, Walk l nm on t → ∀ x ∈ t, 0 ≤ x ∧ x < (l.length : Int)
  | [], _, _, h, _, _ => h.elim
  | i :: t, nm, on, ⟨j, e, hj, _, h⟩, x, hx => by
    rcases List.mem_cons.1 hx with rfl | g
    · omega
    · rcases h with ⟨_, rfl⟩ | ⟨_, h⟩
      · cases g
      · exact Walk.range h x g
theorem folV_ok {l : List S68} : ∀ (k : Nat) (nm : ByteArray) (on : Int) (pre r : List Int), folV l k nm on pre = (r, 0) → pre.Nodup → ∃ t, r = pre ++ t ∧ Walk l nm on t ∧ r.Nodup := by
  intro k
  induction k with
  | zero => intro nm on pre r h; simp [folV] at h
  | succ k ih =>
    intro nm on pre r h hn
    rw [folV] at h
    split at h
    case isFalse h0 => exact absurd (Prod.mk.inj h).2 h0
    rename_i h0
    split at h
    · have := (Prod.mk.inj h).2; omega
    rename_i h1
    rcases placeV_ok (l := l) (nm := nm) (on := on) rfl with ⟨j, hj, hp, hf⟩ | ⟨_, h2, _⟩
    · rw [hp] at h h1
      have hn' : (pre ++ [(j : Int)]).Nodup := List.nodup_append.2 ⟨hn, List.nodup_cons.2 ⟨List.not_mem_nil, List.nodup_nil⟩, by
        intro a ha b hb
        rw [List.mem_singleton] at hb
        rintro rfl
        exact h1 (hb ▸ ha)⟩
      split at h
      · rename_i h2
        have e := (Prod.mk.inj h).1
        exact ⟨[(j : Int)], e.symm, ⟨j, rfl, hj, hf, .inl ⟨h2, rfl⟩⟩, e ▸ hn'⟩
      · rename_i h2
        obtain ⟨t, e, hw, hd⟩ := ih _ _ _ _ h hn'
        exact ⟨(j : Int) :: t, by rw [e]; simp, ⟨j, rfl, hj, hf, .inr ⟨h2, hw⟩⟩, hd⟩
    · omega
theorem folV_fail {l : List S68} : ∀ (k : Nat) (nm : ByteArray) (on : Int) (pre : List Int), (folV l k nm on pre).2 ≠ 0 → (folV l k nm on pre).1 = [] := by
  intro k
  induction k with
  | zero => intro nm on pre _; rfl
  | succ k ih =>
    intro nm on pre h
    rw [folV] at h ⊢
    split
    · rename_i h0
      rw [if_pos h0] at h
      split
      · rfl
      · rename_i h1
        rw [if_neg h1] at h
        split
        · rename_i h2
          rw [if_pos h2] at h
          exact absurd rfl h
        · rename_i h2
          rw [if_neg h2] at h
          exact ih _ _ _ h
    · rfl
theorem folV_of {l : List S68} (ho : Ord l) : ∀ (t : List Int) (k : Nat) (nm : ByteArray) (on : Int) (pre : List Int), Walk l nm on t → (pre ++ t).Nodup → t.length ≤ k → folV l k nm on pre = (pre ++ t, 0) := by
  intro t
  induction t with
  | nil => intro k nm on pre h; exact h.elim
  | cons i t ih =>
    intro k nm on pre h hn hk
    obtain ⟨j, rfl, hj, hf, h⟩ := h
    obtain ⟨k, rfl⟩ : ∃ m, k = m + 1 := ⟨k - 1, by simp at hk; omega⟩
    have hni : (j : Int) ∉ pre := by
      intro hm
      have := (List.nodup_append.1 hn).2.2 _ hm _ (List.mem_cons_self ..)
      exact this rfl
    rw [folV, placeV_fits ho hj hf, if_pos rfl, if_neg hni]
    rcases h with ⟨h, rfl⟩ | ⟨h, hw⟩
    · rw [if_pos h]
    · rw [if_neg h]
      have := ih k _ _ (pre ++ [(j : Int)]) hw (by simpa using hn) (by simp at hk; omega)
      rw [this]
      simp
theorem folOf_ok {l : List S68} {nm : ByteArray} {on : Int} {r : List Int} (h : folOf l nm on = (r, 0)) : Walk l nm on r ∧ r.Nodup := by
  obtain ⟨t, e, hw, hn⟩ := folV_ok _ _ _ _ _ h List.nodup_nil
  rw [List.nil_append] at e
  exact ⟨e ▸ hw, hn⟩
theorem folOf_of {l : List S68} (ho : Ord l) {nm : ByteArray} {on : Int} {r : List Int} (h : Walk l nm on r) (hn : r.Nodup) : folOf l nm on = (r, 0) := by
  have := nodup_len _ _ hn h.range
  exact folV_of ho r _ nm on [] h hn (by omega)
def valVV (l : List S68) (nm : ByteArray) (on : Int) : Int × Int := if chkV l = 0 then (if dayV on = 0 then placeV l nm on else (0, dayV on)) else (0, chkV l)
def chV (l : List S68) (nm : ByteArray) (on : Int) : List Int × Int := if (valVV l nm on).2 = 0 then folOf l nm on else ([], (valVV l nm on).2)
theorem Valid_ev (l : List S68) (hl : l.length < 2199023255552) (nm : ByteArray) (on : Int) : Ev (fun k => calibrate_Valid.f k l nm on) (valVV l nm on) := by
  unfold calibrate_Valid.f valVV
  simp only [day_eq, Option.bind_some]
  refine Ev.bind (Check_ev l hl) ?_
  by_cases h : chkV l = 0
  · obtain ⟨h1, h2, _⟩ := chkV_ok h
    simp only [if_pos h]
    refine Ev.ite2 ?_ (Ev.now _)
    unfold calibrate_valid.f
    simp only [validF_place h2 h1, Option.bind_some]
    exact Ev.now _
  · simp only [if_neg h]
    exact Ev.now _
theorem valVV_ok {l : List S68} {nm : ByteArray} {on : Int} (h : (valVV l nm on).2 = 0) : chkV l = 0 ∧ dayV on = 0 ∧ valVV l nm on = placeV l nm on := by
  unfold valVV at *
  by_cases h1 : chkV l = 0
  · rw [if_pos h1] at h ⊢
    by_cases h2 : dayV on = 0
    · rw [if_pos h2]
      exact ⟨h1, h2, rfl⟩
    · rw [if_neg h2] at h
      exact absurd h h2
  · rw [if_neg h1] at h
    exact absurd h h1
theorem Chain_ev (l : List S68) (hl : l.length < 2199023255552) (nm : ByteArray) (on : Int) : Ev (fun k => calibrate_Chain.f k l nm on) (chV l nm on) := by
  unfold calibrate_Chain.f chV
  refine Ev.bind (Valid_ev l hl nm on) ?_
  by_cases h : (valVV l nm on).2 = 0
  · obtain ⟨h1, _, _⟩ := valVV_ok h
    obtain ⟨h1, h2, _⟩ := chkV_ok h1
    simp only [if_pos h]
    unfold calibrate_collected.f
    simp only [collF_eq h2 h1, Option.bind_some]
    exact Ev.now _
  · simp only [if_neg h]
    exact Ev.now _
theorem chV_ok {l : List S68} {nm : ByteArray} {on : Int} (h : (chV l nm on).2 = 0) : chkV l = 0 ∧ dayV on = 0 ∧ chV l nm on = folOf l nm on := by
  unfold chV at *
  by_cases h1 : (valVV l nm on).2 = 0
  · rw [if_pos h1]
    obtain ⟨a, b, _⟩ := valVV_ok h1
    exact ⟨a, b, rfl⟩
  · rw [if_neg h1] at h
    exact absurd h h1
def loS (l : List S68) : List Int → Int
  | [] => 0
  | i :: t => ((rd_T68 l i).f2 - (rd_T68 l i).f3) + loS l t
def hiS (l : List S68) : List Int → Int
  | [] => 0
  | i :: t => ((rd_T68 l i).f2 + (rd_T68 l i).f3) + hiS l t
def errV (l : List S68) (nm : ByteArray) (on : Int) : Int × Int × Int := if (chV l nm on).2 = 0 then (loS l (chV l nm on).1, hiS l (chV l nm on).1, 0) else (0, 0, (chV l nm on).2)
theorem rec_at {l : List S68} (h : ∀ i : Nat, i < l.length → Rec (rd_T68 l i)) {i : Int} (hi : 0 ≤ i ∧ i < (l.length : Int)) : Rec (rd_T68 l i) := by
  have := h i.toNat (by omega)
  rwa [show ((i.toNat : Nat) : Int) = i by omega] at this
theorem loS_bound {l : List S68} (h : ∀ i : Nat, i < l.length → Rec (rd_T68 l i)) : ∀ c : List Int, (∀ x ∈ c, 0 ≤ x ∧ x < (l.length : Int)) → -(200000 * (c.length : Int)) ≤ loS l c ∧ loS l c ≤ hiS l c ∧ hiS l c ≤ 200000 * (c.length : Int)
  | [], _ => ⟨by simp [loS], by simp [loS, hiS], by simp [hiS]⟩
  | i :: t, hc => by
    obtain ⟨h1, h2, h3⟩ := loS_bound h t (fun x hx => hc x (List.mem_cons_of_mem _ hx))
    obtain ⟨o1, o2, s1, s2, _, _, _, _⟩ := rec_at h (hc i (List.mem_cons_self ..))
    simp only [loS, hiS, List.length_cons]
    omega
theorem rd_get {c : List Int} {i : Nat} (h : i < c.length) : rd c (i : Int) = c[i] := by simp [rd, List.getD_eq_getElem?_getD, h]
theorem Error_ev (l : List S68) (hl : l.length < 2199023255552) (nm : ByteArray) (on : Int) : Ev (fun k => calibrate_Error.f k l nm on) (errV l nm on) := by
  unfold calibrate_Error.f errV
  refine Ev.bind (Chain_ev l hl nm on) ?_
  by_cases h : (chV l nm on).2 = 0
  · obtain ⟨h1, _, he⟩ := chV_ok h
    obtain ⟨hlen, ho, hrec⟩ := chkV_ok h1
    simp only [if_pos h]
    rw [he] at h
    obtain ⟨hw, hn⟩ := folOf_ok (r := Prod.fst (folOf l nm on)) (Prod.ext rfl h)
    rw [he]
    obtain ⟨c, hc⟩ : ∃ c, (folOf l nm on).1 = c := ⟨_, rfl⟩
    rw [hc] at hw hn ⊢
    have hclen := nodup_len _ _ hn hw.range
    have hr := hw.range
    have key : ∀ (n i : Nat) (a b : Int), i + n = c.length → -(200000 * (i : Int)) ≤ a ∧ a ≤ 200000 * (i : Int) → -(200000 * (i : Int)) ≤ b ∧ b ≤ 200000 * (i : Int) → Ev (fun k => calibrate_Error.l0 k l c (c.length : Int) (i : Int) a b) (a + loS l (c.drop i), b + hiS l (c.drop i), 0) := by
      intro n
      induction n with
      | zero =>
        intro i a b hi _ _
        refine Ev.step (fun k => by rw [calibrate_Error.l0]) ?_
        refine Ev.e (by omega) (Ev.some_eq ?_)
        rw [List.drop_of_length_le (by omega)]
        simp [loS, hiS]
      | succ n ih =>
        intro i a b hi ha hb
        have hlt : i < c.length := by omega
        have hx := hr c[i] (List.getElem_mem hlt)
        obtain ⟨o1, o2, s1, s2, _, _, _, _⟩ := rec_at hrec hx
        refine Ev.step (fun k => by rw [calibrate_Error.l0]) ?_
        rw [rd_get hlt]
        refine Ev.t (by omega) (Ev.t (by omega) (Ev.t (by omega) (Ev.t (by omega) (Ev.t (by omega) ?_))))
        rw [w64s (by omega), w64 (n := (rd_T68 l c[i]).f2 - (rd_T68 l c[i]).f3) (by omega), w64 (n := (rd_T68 l c[i]).f2 + (rd_T68 l c[i]).f3) (by omega), w64 (by omega), w64 (by omega)]
        have := ih (i + 1) (a + ((rd_T68 l c[i]).f2 - (rd_T68 l c[i]).f3)) (b + ((rd_T68 l c[i]).f2 + (rd_T68 l c[i]).f3)) (by omega) (by omega) (by omega)
        rw [List.drop_eq_getElem_cons hlt]
        simp only [loS, hiS]
        rw [Int.add_assoc, Int.add_assoc] at this
        exact this
    have := key c.length 0 0 0 (by omega) (by omega) (by omega)
    simpa using this
  · simp only [if_neg h]
    exact Ev.now _
def valV (l : List S68) (nm : ByteArray) (on sh : Int) : Int × Int × Int :=
  if (errV l nm on).2.2 = 0 then (if inV sh (-100000) 100000 = true then (wrap64 (sh - (errV l nm on).2.1), wrap64 (sh - (errV l nm on).1), 0) else (0, 0, 2)) else (0, 0, (errV l nm on).2.2)
theorem Value_ev (l : List S68) (hl : l.length < 2199023255552) (nm : ByteArray) (on sh : Int) : Ev (fun k => calibrate_Value.f k l nm on sh) (valV l nm on sh) := by
  unfold calibrate_Value.f valV
  simp only [ranged_eq, Option.bind_some]
  exact Ev.bind (Error_ev l hl nm on) (Ev.ite2 (Ev.ite2 (Ev.now _) (Ev.now _)) (Ev.now _))
def limV (a b : Int) : Int := if (inV a (-100000) 100000 && inV b (-100000) 100000) = true then (if a > b then 9 else 0) else 2
theorem dranged_eq (n : Int) : dimension_ranged.f n = some (inV n (-100000) 100000) := by
  unfold dimension_ranged.f inV
  by_cases h : n ≥ (-100000)
  · rw [if_pos h, decide_eq_true (show (-100000) ≤ n from h)]; rfl
  · rw [if_neg h, decide_eq_false (show ¬ (-100000) ≤ n from h)]; rfl
theorem limits_ev (a b : Int) : Ev (fun k => dimension_Check.f k a b) (limV a b) := by
  have j : ∀ c, Ev (fun k => dimension_Check.j0 k c a b) (if c = true then 2 else if a > b then 9 else 0) := fun c => by
    refine Ev.step (fun k => by rw [dimension_Check.j0]) ?_
    exact Ev.ite2 (Ev.now _) (Ev.ite2 (Ev.now _) (Ev.now _))
  unfold dimension_Check.f limV
  simp only [dranged_eq, Option.bind_some]
  cases inV a (-100000) 100000
  · exact Ev.e (by decide) (j true)
  · refine Ev.t rfl ?_
    cases inV b (-100000) 100000
    · exact j true
    · exact j false
def judC (v1 v2 a b : Int) : Int := if v1 ≥ a ∧ v2 ≤ b then 2 else if v2 < a then 0 else if v1 > b then 0 else 1
def judV (l : List S68) (nm : ByteArray) (on sh a b : Int) : Int × Int :=
  if (valV l nm on sh).2.2 = 0 then (if limV a b = 0 then (judC (valV l nm on sh).1 (valV l nm on sh).2.1 a b, 0) else (0, limV a b)) else (0, (valV l nm on sh).2.2)
theorem Judge_ev (l : List S68) (hl : l.length < 2199023255552) (nm : ByteArray) (on sh a b : Int) : Ev (fun k => calibrate_Judge.f k l nm on sh a b) (judV l nm on sh a b) := by
  have j : ∀ c v1 v2, Ev (fun k => calibrate_Judge.j0 k c a b v1 v2) (if c = true then (2, 0) else if v2 < a then (0, 0) else if v1 > b then (0, 0) else (1, 0)) := fun c v1 v2 => by
    refine Ev.step (fun k => by rw [calibrate_Judge.j0]) ?_
    exact Ev.ite2 (Ev.now _) (Ev.ite2 (Ev.now _) (Ev.ite2 (Ev.now _) (Ev.now _)))
  unfold calibrate_Judge.f judV
  refine Ev.bind (Value_ev l hl nm on sh) (Ev.ite2 (Ev.bind (limits_ev a b) (Ev.ite2 ?_ (Ev.now _))) (Ev.now _))
  generalize (valV l nm on sh).1 = v1
  generalize (valV l nm on sh).2.1 = v2
  unfold judC
  by_cases h1 : v1 ≥ a
  · refine Ev.t h1 ?_
    by_cases h2 : v2 ≤ b
    · rw [if_pos ⟨h1, h2⟩, decide_eq_true h2]; exact j true v1 v2
    · rw [if_neg (fun h => h2 h.2), decide_eq_false h2]
      have := j false v1 v2
      simp only [Bool.false_eq_true, if_false] at this
      split
      · rename_i h; rw [if_pos h] at this; exact this
      · rename_i h; rw [if_neg h] at this; split <;> rename_i h' <;> simp only [h', if_true, if_false] at this <;> exact this
  · refine Ev.e h1 ?_
    rw [if_neg (fun h => h1 h.1)]
    have := j false v1 v2
    simp only [Bool.false_eq_true, if_false] at this
    split
    · rename_i h; rw [if_pos h] at this; exact this
    · rename_i h; rw [if_neg h] at this; split <;> rename_i h' <;> simp only [h', if_true, if_false] at this <;> exact this
def dueN (l : List S68) (on : Int) (m : List S68) : List ByteArray := (m.filter fun x => (placeV l x.f0 on).2 != 0).map S68.f0
def dueV (l : List S68) (on : Int) : List ByteArray × Int := if chkV l = 0 then (if dayV on = 0 then (Hand.cpF (dueN l on l), 0) else ([], dayV on)) else ([], chkV l)
theorem Due_ev (l : List S68) (hl : l.length < 2199023255552) (on : Int) : Ev (fun k => calibrate_Due.f k l on) (dueV l on) := by
  unfold calibrate_Due.f dueV
  simp only [day_eq, Option.bind_some]
  refine Ev.bind (Check_ev l hl) ?_
  by_cases h : chkV l = 0
  · obtain ⟨h1, h2, _⟩ := chkV_ok h
    simp only [if_pos h]
    refine Ev.ite2 ?_ (Ev.now _)
    have key : ∀ n i : Nat, i + n = l.length → Ev (fun k => calibrate_Due.l0 k l on (dueN l on (l.take i)) l (l.length : Int) (i : Int)) (Hand.cpF (dueN l on l), 0) := by
      intro n
      induction n with
      | zero =>
        intro i hi
        refine Ev.step (fun k => by rw [calibrate_Due.l0]) ?_
        refine Ev.e (by omega) ?_
        rw [List.take_of_length_le (by omega)]
        exact Ev.now _
      | succ n ih =>
        intro i hi
        have hlt : i < l.length := by omega
        have hr := ih (i + 1) (by omega)
        refine Ev.step (fun k => by rw [calibrate_Due.l0]) ?_
        unfold calibrate_valid.f
        simp only [validF_place h2 h1, Option.bind_some]
        refine Ev.t (by omega) (Ev.t (by omega) (Ev.t (by omega) ?_))
        rw [w64s (by omega)]
        rw [List.take_succ_eq_append_getElem hlt] at hr
        have hlen : (dueN l on (l.take i)).length ≤ i := by
          unfold dueN
          rw [List.length_map]
          exact Nat.le_trans (List.length_filter_le _ _) (by simp; omega)
        by_cases hp : (placeV l (rd_T68 l i).f0 on).2 = 0
        · refine Ev.t hp ?_
          have e : dueN l on (l.take i ++ [l[i]]) = dueN l on (l.take i) := by
            rw [← rd_at hlt]; unfold dueN; rw [List.filter_append]; simp [hp]
          rw [e] at hr
          exact hr
        · refine Ev.e hp (Ev.t (by omega) ?_)
          have e : dueN l on (l.take i ++ [l[i]]) = dueN l on (l.take i) ++ [(rd_T68 l i).f0] := by
            rw [← rd_at hlt]; unfold dueN; rw [List.filter_append]; simp [hp]
          rw [e] at hr
          exact hr
    have := key l.length 0 (by omega)
    simpa [dueN] using this
  · simp only [if_neg h]
    exact Ev.now _
def bkG (l : List S68) : Nat → Nat → List Int
  | _, 0 => []
  | i, n + 1 => if (folOf l (rd_T68 l i).f0 (rd_T68 l i).f4).2 = 0 then bkG l (i + 1) n else (i : Int) :: bkG l (i + 1) n
def brkV (l : List S68) : List Int × Int := if chkV l = 0 then (bkG l 0 l.length, 0) else ([], chkV l)
theorem bkG_mem {l : List S68} : ∀ (n i : Nat) (x : Int), x ∈ bkG l i n ↔ ∃ t : Nat, x = (t : Int) ∧ i ≤ t ∧ t < i + n ∧ (folOf l (rd_T68 l t).f0 (rd_T68 l t).f4).2 ≠ 0 := by
  intro n
  induction n with
  | zero => intro i x; simp only [bkG]; constructor
            · intro h; cases h
            · rintro ⟨t, _, h1, h2, _⟩; omega
  | succ n ih =>
    intro i x
    rw [bkG]
    split
    · rename_i h
      rw [ih]
      constructor
      · rintro ⟨t, e, h1, h2, h3⟩; exact ⟨t, e, by omega, by omega, h3⟩
      · rintro ⟨t, e, h1, h2, h3⟩
        refine ⟨t, e, ?_, by omega, h3⟩
        rcases Nat.lt_or_ge i t with g | g
        · exact g
        · obtain rfl : t = i := by omega
          exact absurd h h3
    · rename_i h
      rw [List.mem_cons, ih]
      constructor
      · rintro (e | ⟨t, e, h1, h2, h3⟩)
        · exact ⟨i, e, Nat.le_refl _, by omega, h⟩
        · exact ⟨t, e, by omega, by omega, h3⟩
      · rintro ⟨t, e, h1, h2, h3⟩
        rcases Nat.lt_or_ge i t with g | g
        · exact .inr ⟨t, e, g, by omega, h3⟩
        · obtain rfl : t = i := by omega
          exact .inl e
theorem bkG_len {l : List S68} : ∀ n i : Nat, (bkG l i n).length ≤ n := by
  intro n
  induction n with
  | zero => intro i; simp [bkG]
  | succ n ih =>
    intro i
    have := ih (i + 1)
    rw [bkG]
    split <;> simp <;> omega
theorem Broken_ev (l : List S68) (hl : l.length < 2199023255552) : Ev (fun k => calibrate_Broken.f k l) (brkV l) := by
  unfold calibrate_Broken.f brkV
  refine Ev.bind (Check_ev l hl) ?_
  by_cases h : chkV l = 0
  · obtain ⟨h1, h2, _⟩ := chkV_ok h
    simp only [if_pos h]
    have key : ∀ (n i : Nat) (acc : List Int), i + n = l.length → acc.length ≤ i → Ev (fun k => calibrate_Broken.l0 k l acc l (l.length : Int) (i : Int)) (acc ++ bkG l i n, 0) := by
      intro n
      induction n with
      | zero =>
        intro i acc hi ha
        refine Ev.step (fun k => by rw [calibrate_Broken.l0]) ?_
        exact Ev.e (by omega) (Ev.some_eq (by simp [bkG]))
      | succ n ih =>
        intro i acc hi ha
        refine Ev.step (fun k => by rw [calibrate_Broken.l0]) ?_
        unfold calibrate_collected.f
        simp only [collF_eq h2 h1, Option.bind_some]
        refine Ev.t (by omega) (Ev.t (by omega) (Ev.t (by omega) ?_))
        rw [w64s (by omega), bkG]
        by_cases hp : (folOf l (rd_T68 l i).f0 (rd_T68 l i).f4).2 = 0
        · rw [if_pos hp]
          exact Ev.t hp (ih (i + 1) acc (by omega) (by omega))
        · rw [if_neg hp]
          have := ih (i + 1) (acc ++ [(i : Int)]) (by omega) (by simp; omega)
          rw [List.append_assoc] at this
          exact Ev.e hp (Ev.t (by omega) this)
    have := key l.length 0 [] (by omega) (by simp)
    simpa using this
  · simp only [if_neg h]
    exact Ev.now _
end Go.Proofs.Ytkgdlbepjmgaiaa.Cal
namespace Go.Proofs.Ytkgdlbepjmgaiaa.Cal
open Go.RowKit Go.Proofs.YtkgdlbepjmgaiaaW.PrintWords Go.Proofs.YtkgdlbepjmgaiaaW.PrintLast Go.Proofs.YtkgdlbepjmgaiaaW.PrintMore
attribute [local go_sem] max2_int min2_int max_two min_two max_three min_three max_four min_four
set_option linter.unusedVariables false
set_option linter.unusedSimpArgs false
theorem eqA25 (d : Nat) (w : World) (x0 y0 : Int) (x1 y1 : Int) :
    (Op.equalIn (d + 2) 25 (.agg #[.int .i64 x0, .int .i64 x1]) (.agg #[.int .i64 y0, .int .i64 y1])).run Try.prog w = .ok (x0 == y0 && (x1 == y1)) w := by
  refine eqA_of Try.underlying25 (by kernel_rfl) ?_
  refine eqf_cons (by rfl) (by go_simp; rfl) (by go_simp; rfl) (by go_simp) ?_
  exact eqf_last (by rfl) (by go_simp; rfl) (by go_simp; rfl) (by go_simp)
end Go.Proofs.Ytkgdlbepjmgaiaa.Cal
namespace Go.Proofs.Ytkgdlbepjmgaiaa.Cal
open Go.RowKit Go.Proofs.YtkgdlbepjmgaiaaW.PrintWords Go.Proofs.YtkgdlbepjmgaiaaW.PrintLast Go.Proofs.YtkgdlbepjmgaiaaW.PrintMore
attribute [local go_sem] max2_int min2_int max_two min_two max_three min_three max_four min_four
set_option linter.unusedVariables false
set_option linter.unusedSimpArgs false
def slices_Equal_int_int.l0 : Nat → List Int → List Int → Int → Int → Option (Bool)
  | 0, _, _, _, _ => none
  | k + 1, x0, x1, x12, x13 => if x13 < x12 then (if 0 ≤ x13 then (if x13 < (x0.length : Int) then (if x13 < (x1.length : Int) then (if (rd x0 x13) = (rd x1 x13) then (slices_Equal_int_int.l0 k x0 x1 x12 (wrap64 (x13 + 1))) else (some false)) else (none)) else (none)) else (none)) else (some true)
def slices_Equal_int_int.f (k : Nat) (l0 : List Int) (l1 : List Int) : Option (Bool) := if (l0.length : Int) = (l1.length : Int) then (slices_Equal_int_int.l0 k l0 l1 (l0.length : Int) 0) else (some false)
theorem slices_Equal_int_int.mono_l : ∀ k, (∀ y0 y1 y2 y3, LeO (slices_Equal_int_int.l0 k y0 y1 y2 y3) (slices_Equal_int_int.l0 (k + 1) y0 y1 y2 y3))
  | 0 => fun _ _ _ _ r h => by simp [slices_Equal_int_int.l0] at h
  | k + 1 => by
    have ih0 := slices_Equal_int_int.mono_l k
    · intro y0 y1 y2 y3
      unfold slices_Equal_int_int.l0
      repeat' first
      | (with_reducible exact ih0 _ _ _ _)
      | (with_reducible exact LeO.refl _)
      | (with_reducible exact LeO.none _)
      | (with_reducible refine LeO.ite ?_ ?_)
      | (with_reducible refine LeO.bind ?_ (fun _ => ?_))
      | exact ih0 _ _ _ _
      | exact LeO.none _
      | refine LeO.ite ?_ ?_
      | refine LeO.bind ?_ (fun _ => ?_)
theorem slices_Equal_int_int.mono : ∀ a0 a1 k, LeO (slices_Equal_int_int.f k a0 a1) (slices_Equal_int_int.f (k + 1) a0 a1) := by
  intro a0 a1 k
  have ih0 := slices_Equal_int_int.mono_l k
  unfold slices_Equal_int_int.f
  repeat' first
      | (with_reducible exact ih0 _ _ _ _)
      | (with_reducible exact LeO.refl _)
      | (with_reducible exact LeO.none _)
      | (with_reducible refine LeO.ite ?_ ?_)
      | (with_reducible refine LeO.bind ?_ (fun _ => ?_))
      | exact ih0 _ _ _ _
      | exact LeO.none _
      | refine LeO.ite ?_ ?_
      | refine LeO.bind ?_ (fun _ => ?_)
set_option maxHeartbeats 8000000 in
set_option maxRecDepth 100000 in
theorem slices_Equal_int_int.calls (k : Nat) (A0 : Option Addr) (c0 : Nat) (l0 : List Int) (A1 : Option Addr) (c1 : Nat) (l1 : List Int) (r : Bool) (w : World) (hr0 : Kd.C (Kd.int .i64) w A0 l0.length l0) (hc0 : l0.length ≤ c0) (hr1 : Kd.C (Kd.int .i64) w A1 l1.length l1) (hc1 : l1.length ≤ c1) (h : slices_Equal_int_int.f k l0 l1 = some r) :
    Calls Try.prog 57 #[.slice A0 l0.length c0, .slice A1 l1.length c1] w fun e w' => e = .returned (.bool r) ∧ Drawn0 w w' := by
  have HR0 := Aside0.mk hr0
  have HC0 := Aside0.mk hc0
  clear hr0 hc0
  have HR1 := Aside0.mk hr1
  have HC1 := Aside0.mk hc1
  clear hr1 hc1
  have H : (if (l0.length : Int) = (l1.length : Int) then (slices_Equal_int_int.l0 k l0 l1 (l0.length : Int) 0) else (some false)) = some r := h
  clear h
  by_cases c3 : (l0.length : Int) = (l1.length : Int)
  · rw [if_pos c3] at H
    have c3b0 : ((l0.length : Int) == (l1.length : Int)) = true := beq_iff_eq.mpr c3
    have c3b1 : ((l0.length : Int) != (l1.length : Int)) = false := bne_eq_false_iff_eq.mpr c3
    have c3b2 : (l0.length == l1.length) = true := by first | simpa using c3 | (simp at c3 ⊢; omega)
    clear c3
    have H' := Aside0.mk H
    clear H
    go_enter Try.func57, Try.ntmps57
    go_wp2
    repeat (go_quiet (fail); try go_wp2)
    go_loopg [13] k (fun kq v13 w' => ∃ (x13_1 : Int), v13 = .int .i64 x13_1 ∧ Aside0 (slices_Equal_int_int.l0 kq l0 l1 (l0.length : Int) x13_1 = some r) ∧ Aside0 (kq ≤ k) ∧ Drawn0 w w')
    case atStart => exact ⟨(0), (by first | rfl | (simp; done) | (simp [*]; done)), H', ⟨Nat.le_refl _⟩, by repeat (first | exact Drawn0.refl _ | apply Drawn0.step)⟩
    case round =>
      clear H'
      try clear c1
      try clear p2
      try clear c3
      try clear c3b0
      try clear c3b1
      try clear c3b2
      obtain ⟨x13_1, rfl, HA, HK1, ⟨m1, rfl⟩⟩ := hrel
      cases gk with
      | zero => exact absurd HA.out (by simp [slices_Equal_int_int.l0])
      | succ k1 =>
        have H := HA.out
        clear HA
        simp only [slices_Equal_int_int.l0] at H
        by_cases c4 : x13_1 < (l0.length : Int)
        · rw [if_pos c4] at H
          have c4b0 : decide (x13_1 < (l0.length : Int)) = true := decide_eq_true c4
          clear c4
          by_cases c5 : 0 ≤ x13_1
          · rw [if_pos c5] at H
            have c5b0 : decide (0 ≤ x13_1) = true := decide_eq_true c5
            clear c5
            by_cases c6 : x13_1 < (l0.length : Int)
            · rw [if_pos c6] at H
              have c6b0 : decide (x13_1 < (l0.length : Int)) = true := decide_eq_true c6
              clear c6
              by_cases c7 : x13_1 < (l1.length : Int)
              · rw [if_pos c7] at H
                have c7b0 : decide (x13_1 < (l1.length : Int)) = true := decide_eq_true c7
                clear c7
                by_cases c8 : (rd l0 x13_1) = (rd l1 x13_1)
                · rw [if_pos c8] at H
                  have c8b0 : ((rd l0 x13_1) == (rd l1 x13_1)) = true := beq_iff_eq.mpr c8
                  have c8b1 : ((rd l0 x13_1) != (rd l1 x13_1)) = false := bne_eq_false_iff_eq.mpr c8
                  clear c8
                  have H' := Aside0.mk H
                  clear H
                  have p188 : 0 ≤ (x13_1 : Int) := of_decide_eq_true (by first | (with_reducible assumption) | assumption)
                  have q188 : x13_1 < (l0.length : Int) := of_decide_eq_true (by first | (with_reducible assumption) | assumption)
                  obtain ⟨ad188, e188, hx188_0⟩ := Kd.at_int HR0.out x13_1 p188 q188
                  cases e188
                  replace p188 := eq_true p188
                  replace q188 := eq_true q188
                  have p189 : 0 ≤ (x13_1 : Int) := of_decide_eq_true (by first | (with_reducible assumption) | assumption)
                  have q189 : x13_1 < (l1.length : Int) := of_decide_eq_true (by first | (with_reducible assumption) | assumption)
                  obtain ⟨ad189, e189, hx189_0⟩ := Kd.at_int HR1.out x13_1 p189 q189
                  cases e189
                  replace p189 := eq_true p189
                  replace q189 := eq_true q189
                  go_wp2
                  repeat (go_quiet (fail); try go_wp2)
                  go_roundg k1
                  case measure => have := HK1.out; omega
                  case rel => exact ⟨(wrap64 (x13_1 + 1)), (by first | rfl | (simp; done) | (simp [*]; done)), H', ⟨by have := HK1.out; omega⟩, by repeat (first | exact Drawn0.refl _ | apply Drawn0.step)⟩
                · rw [if_neg c8] at H
                  have c8b0 : ((rd l0 x13_1) == (rd l1 x13_1)) = false := beq_eq_false_iff_ne.mpr c8
                  have c8b1 : ((rd l0 x13_1) != (rd l1 x13_1)) = true := bne_iff_ne.mpr c8
                  obtain rfl := Option.some.inj H
                  have p188 : 0 ≤ (x13_1 : Int) := of_decide_eq_true (by first | (with_reducible assumption) | assumption)
                  have q188 : x13_1 < (l0.length : Int) := of_decide_eq_true (by first | (with_reducible assumption) | assumption)
                  obtain ⟨ad188, e188, hx188_0⟩ := Kd.at_int HR0.out x13_1 p188 q188
                  cases e188
                  replace p188 := eq_true p188
                  replace q188 := eq_true q188
                  have p189 : 0 ≤ (x13_1 : Int) := of_decide_eq_true (by first | (with_reducible assumption) | assumption)
                  have q189 : x13_1 < (l1.length : Int) := of_decide_eq_true (by first | (with_reducible assumption) | assumption)
                  obtain ⟨ad189, e189, hx189_0⟩ := Kd.at_int HR1.out x13_1 p189 q189
                  cases e189
                  replace p189 := eq_true p189
                  replace q189 := eq_true q189
                  go_wp2
                  repeat (go_quiet (fail); try go_wp2)
                  go_ret
                  exact ⟨by first | rfl | (simp; done) | (simp [*]; done), by repeat (first | exact Drawn0.refl _ | apply Drawn0.step)⟩
              · rw [if_neg c7] at H
                exact absurd H (by simp)
            · rw [if_neg c6] at H
              exact absurd H (by simp)
          · rw [if_neg c5] at H
            exact absurd H (by simp)
        · rw [if_neg c4] at H
          have c4b0 : decide (x13_1 < (l0.length : Int)) = false := decide_eq_false c4
          clear c4
          obtain rfl := Option.some.inj H
          go_wp2
          repeat (go_quiet (fail); try go_wp2)
          go_ret
          exact ⟨by first | rfl | (simp; done) | (simp [*]; done), by repeat (first | exact Drawn0.refl _ | apply Drawn0.step)⟩
  · rw [if_neg c3] at H
    have c3b0 : ((l0.length : Int) == (l1.length : Int)) = false := beq_eq_false_iff_ne.mpr c3
    have c3b1 : ((l0.length : Int) != (l1.length : Int)) = true := bne_iff_ne.mpr c3
    have c3b2 : (l0.length == l1.length) = false := by first | simpa using c3 | (simp at c3 ⊢; omega)
    obtain rfl := Option.some.inj H
    go_enter Try.func57, Try.ntmps57
    go_wp2
    repeat (go_quiet (fail); try go_wp2)
    go_ret
    exact ⟨by first | rfl | (simp; done) | (simp [*]; done), by repeat (first | exact Drawn0.refl _ | apply Drawn0.step)⟩
end Go.Proofs.Ytkgdlbepjmgaiaa.Cal
namespace Go.Proofs.Ytkgdlbepjmgaiaa.Cal
open Go.RowKit Go.Proofs.YtkgdlbepjmgaiaaW.PrintWords Go.Proofs.YtkgdlbepjmgaiaaW.PrintLast Go.Proofs.YtkgdlbepjmgaiaaW.PrintMore
attribute [local go_sem] max2_int min2_int max_two min_two max_three min_three max_four min_four
set_option linter.unusedVariables false
set_option linter.unusedSimpArgs false
def slices_Equal_string_string.l0 : Nat → List ByteArray → List ByteArray → Int → Int → Option (Bool)
  | 0, _, _, _, _ => none
  | k + 1, x0, x1, x12, x13 => if x13 < x12 then (if 0 ≤ x13 then (if x13 < (x0.length : Int) then (if x13 < (x1.length : Int) then (if (rdOf ByteArray.empty x0 x13).toList = (rdOf ByteArray.empty x1 x13).toList then (slices_Equal_string_string.l0 k x0 x1 x12 (wrap64 (x13 + 1))) else (some false)) else (none)) else (none)) else (none)) else (some true)
def slices_Equal_string_string.f (k : Nat) (l0 : List ByteArray) (l1 : List ByteArray) : Option (Bool) := if (l0.length : Int) = (l1.length : Int) then (slices_Equal_string_string.l0 k l0 l1 (l0.length : Int) 0) else (some false)
theorem slices_Equal_string_string.mono_l : ∀ k, (∀ y0 y1 y2 y3, LeO (slices_Equal_string_string.l0 k y0 y1 y2 y3) (slices_Equal_string_string.l0 (k + 1) y0 y1 y2 y3))
  | 0 => fun _ _ _ _ r h => by simp [slices_Equal_string_string.l0] at h
  | k + 1 => by
    have ih0 := slices_Equal_string_string.mono_l k
    · intro y0 y1 y2 y3
      unfold slices_Equal_string_string.l0
      repeat' first
      | (with_reducible exact ih0 _ _ _ _)
      | (with_reducible exact LeO.refl _)
      | (with_reducible exact LeO.none _)
      | (with_reducible refine LeO.ite ?_ ?_)
      | (with_reducible refine LeO.bind ?_ (fun _ => ?_))
      | exact ih0 _ _ _ _
      | exact LeO.none _
      | refine LeO.ite ?_ ?_
      | refine LeO.bind ?_ (fun _ => ?_)
theorem slices_Equal_string_string.mono : ∀ a0 a1 k, LeO (slices_Equal_string_string.f k a0 a1) (slices_Equal_string_string.f (k + 1) a0 a1) := by
  intro a0 a1 k
  have ih0 := slices_Equal_string_string.mono_l k
  unfold slices_Equal_string_string.f
  repeat' first
      | (with_reducible exact ih0 _ _ _ _)
      | (with_reducible exact LeO.refl _)
      | (with_reducible exact LeO.none _)
      | (with_reducible refine LeO.ite ?_ ?_)
      | (with_reducible refine LeO.bind ?_ (fun _ => ?_))
      | exact ih0 _ _ _ _
      | exact LeO.none _
      | refine LeO.ite ?_ ?_
      | refine LeO.bind ?_ (fun _ => ?_)
set_option maxHeartbeats 8000000 in
set_option maxRecDepth 100000 in
theorem slices_Equal_string_string.calls (k : Nat) (A0 : Option Addr) (c0 : Nat) (l0 : List ByteArray) (A1 : Option Addr) (c1 : Nat) (l1 : List ByteArray) (r : Bool) (w : World) (hr0 : Kd.C Kd.string w A0 l0.length l0) (hc0 : l0.length ≤ c0) (hr1 : Kd.C Kd.string w A1 l1.length l1) (hc1 : l1.length ≤ c1) (h : slices_Equal_string_string.f k l0 l1 = some r) :
    Calls Try.prog 60 #[.slice A0 l0.length c0, .slice A1 l1.length c1] w fun e w' => e = .returned (.bool r) ∧ Drawn0 w w' := by
  have HR0 := Aside0.mk hr0
  have HC0 := Aside0.mk hc0
  clear hr0 hc0
  have HR1 := Aside0.mk hr1
  have HC1 := Aside0.mk hc1
  clear hr1 hc1
  have H : (if (l0.length : Int) = (l1.length : Int) then (slices_Equal_string_string.l0 k l0 l1 (l0.length : Int) 0) else (some false)) = some r := h
  clear h
  by_cases c3 : (l0.length : Int) = (l1.length : Int)
  · rw [if_pos c3] at H
    have c3b0 : ((l0.length : Int) == (l1.length : Int)) = true := beq_iff_eq.mpr c3
    have c3b1 : ((l0.length : Int) != (l1.length : Int)) = false := bne_eq_false_iff_eq.mpr c3
    have c3b2 : (l0.length == l1.length) = true := by first | simpa using c3 | (simp at c3 ⊢; omega)
    clear c3
    have H' := Aside0.mk H
    clear H
    go_enter Try.func60, Try.ntmps60
    go_wp2
    repeat (go_quiet (fail); try go_wp2)
    go_loopg [13] k (fun kq v13 w' => ∃ (x13_1 : Int), v13 = .int .i64 x13_1 ∧ Aside0 (slices_Equal_string_string.l0 kq l0 l1 (l0.length : Int) x13_1 = some r) ∧ Aside0 (kq ≤ k) ∧ Drawn0 w w')
    case atStart => exact ⟨(0), (by first | rfl | (simp; done) | (simp [*]; done)), H', ⟨Nat.le_refl _⟩, by repeat (first | exact Drawn0.refl _ | apply Drawn0.step)⟩
    case round =>
      clear H'
      try clear c1
      try clear p2
      try clear c3
      try clear c3b0
      try clear c3b1
      try clear c3b2
      obtain ⟨x13_1, rfl, HA, HK1, ⟨m1, rfl⟩⟩ := hrel
      cases gk with
      | zero => exact absurd HA.out (by simp [slices_Equal_string_string.l0])
      | succ k1 =>
        have H := HA.out
        clear HA
        simp only [slices_Equal_string_string.l0] at H
        by_cases c4 : x13_1 < (l0.length : Int)
        · rw [if_pos c4] at H
          have c4b0 : decide (x13_1 < (l0.length : Int)) = true := decide_eq_true c4
          clear c4
          by_cases c5 : 0 ≤ x13_1
          · rw [if_pos c5] at H
            have c5b0 : decide (0 ≤ x13_1) = true := decide_eq_true c5
            clear c5
            by_cases c6 : x13_1 < (l0.length : Int)
            · rw [if_pos c6] at H
              have c6b0 : decide (x13_1 < (l0.length : Int)) = true := decide_eq_true c6
              clear c6
              by_cases c7 : x13_1 < (l1.length : Int)
              · rw [if_pos c7] at H
                have c7b0 : decide (x13_1 < (l1.length : Int)) = true := decide_eq_true c7
                clear c7
                by_cases c8 : (rdOf ByteArray.empty l0 x13_1).toList = (rdOf ByteArray.empty l1 x13_1).toList
                · rw [if_pos c8] at H
                  have c8b0 : ((rdOf ByteArray.empty l0 x13_1).toList == (rdOf ByteArray.empty l1 x13_1).toList) = true := beq_iff_eq.mpr c8
                  have c8b1 : ((rdOf ByteArray.empty l0 x13_1).toList != (rdOf ByteArray.empty l1 x13_1).toList) = false := bne_eq_false_iff_eq.mpr c8
                  clear c8
                  have H' := Aside0.mk H
                  clear H
                  have p190 : 0 ≤ (x13_1 : Int) := of_decide_eq_true (by first | (with_reducible assumption) | assumption)
                  have q190 : x13_1 < (l0.length : Int) := of_decide_eq_true (by first | (with_reducible assumption) | assumption)
                  obtain ⟨ad190, e190, hx190_0⟩ := Kd.at_string HR0.out x13_1 p190 q190
                  cases e190
                  replace p190 := eq_true p190
                  replace q190 := eq_true q190
                  have p191 : 0 ≤ (x13_1 : Int) := of_decide_eq_true (by first | (with_reducible assumption) | assumption)
                  have q191 : x13_1 < (l1.length : Int) := of_decide_eq_true (by first | (with_reducible assumption) | assumption)
                  obtain ⟨ad191, e191, hx191_0⟩ := Kd.at_string HR1.out x13_1 p191 q191
                  cases e191
                  replace p191 := eq_true p191
                  replace q191 := eq_true q191
                  go_wp2
                  repeat (go_quiet (fail); try go_wp2)
                  go_roundg k1
                  case measure => have := HK1.out; omega
                  case rel => exact ⟨(wrap64 (x13_1 + 1)), (by first | rfl | (simp; done) | (simp [*]; done)), H', ⟨by have := HK1.out; omega⟩, by repeat (first | exact Drawn0.refl _ | apply Drawn0.step)⟩
                · rw [if_neg c8] at H
                  have c8b0 : ((rdOf ByteArray.empty l0 x13_1).toList == (rdOf ByteArray.empty l1 x13_1).toList) = false := beq_eq_false_iff_ne.mpr c8
                  have c8b1 : ((rdOf ByteArray.empty l0 x13_1).toList != (rdOf ByteArray.empty l1 x13_1).toList) = true := bne_iff_ne.mpr c8
                  obtain rfl := Option.some.inj H
                  have p190 : 0 ≤ (x13_1 : Int) := of_decide_eq_true (by first | (with_reducible assumption) | assumption)
                  have q190 : x13_1 < (l0.length : Int) := of_decide_eq_true (by first | (with_reducible assumption) | assumption)
                  obtain ⟨ad190, e190, hx190_0⟩ := Kd.at_string HR0.out x13_1 p190 q190
                  cases e190
                  replace p190 := eq_true p190
                  replace q190 := eq_true q190
                  have p191 : 0 ≤ (x13_1 : Int) := of_decide_eq_true (by first | (with_reducible assumption) | assumption)
                  have q191 : x13_1 < (l1.length : Int) := of_decide_eq_true (by first | (with_reducible assumption) | assumption)
                  obtain ⟨ad191, e191, hx191_0⟩ := Kd.at_string HR1.out x13_1 p191 q191
                  cases e191
                  replace p191 := eq_true p191
                  replace q191 := eq_true q191
                  go_wp2
                  repeat (go_quiet (fail); try go_wp2)
                  go_ret
                  exact ⟨by first | rfl | (simp; done) | (simp [*]; done), by repeat (first | exact Drawn0.refl _ | apply Drawn0.step)⟩
              · rw [if_neg c7] at H
                exact absurd H (by simp)
            · rw [if_neg c6] at H
              exact absurd H (by simp)
          · rw [if_neg c5] at H
            exact absurd H (by simp)
        · rw [if_neg c4] at H
          have c4b0 : decide (x13_1 < (l0.length : Int)) = false := decide_eq_false c4
          clear c4
          obtain rfl := Option.some.inj H
          go_wp2
          repeat (go_quiet (fail); try go_wp2)
          go_ret
          exact ⟨by first | rfl | (simp; done) | (simp [*]; done), by repeat (first | exact Drawn0.refl _ | apply Drawn0.step)⟩
  · rw [if_neg c3] at H
    have c3b0 : ((l0.length : Int) == (l1.length : Int)) = false := beq_eq_false_iff_ne.mpr c3
    have c3b1 : ((l0.length : Int) != (l1.length : Int)) = true := bne_iff_ne.mpr c3
    have c3b2 : (l0.length == l1.length) = false := by first | simpa using c3 | (simp at c3 ⊢; omega)
    obtain rfl := Option.some.inj H
    go_enter Try.func60, Try.ntmps60
    go_wp2
    repeat (go_quiet (fail); try go_wp2)
    go_ret
    exact ⟨by first | rfl | (simp; done) | (simp [*]; done), by repeat (first | exact Drawn0.refl _ | apply Drawn0.step)⟩
end Go.Proofs.Ytkgdlbepjmgaiaa.Cal
namespace Go.Proofs.Ytkgdlbepjmgaiaa.Cal
open Go.RowKit Go.Proofs.YtkgdlbepjmgaiaaW.PrintWords Go.Proofs.YtkgdlbepjmgaiaaW.PrintLast Go.Proofs.YtkgdlbepjmgaiaaW.PrintMore
attribute [local go_sem] max2_int min2_int max_two min_two max_three min_three max_four min_four
set_option linter.unusedVariables false
set_option linter.unusedSimpArgs false
def metrolablaw52_Three.f (a0 : Int) : Option ((List (S68))) := some (([(⟨(⟨#[98, 108, 111, 99, 107]⟩ : ByteArray), (⟨#[]⟩ : ByteArray), 1, 1, 0, a0⟩ : S68), (⟨(⟨#[99, 97, 108, 105, 112, 101, 114]⟩ : ByteArray), (⟨#[98, 108, 111, 99, 107]⟩ : ByteArray), 3, 2, 10, 20⟩ : S68), (⟨(⟨#[103, 97, 117, 103, 101]⟩ : ByteArray), (⟨#[99, 97, 108, 105, 112, 101, 114]⟩ : ByteArray), (-5), 4, 15, 40⟩ : S68)] : List (S68)))
set_option maxHeartbeats 8000000 in
set_option maxRecDepth 100000 in
theorem metrolablaw52_Three.calls (a0 : Int) (r : List (S68)) (w : World) (h : metrolablaw52_Three.f a0 = some r) :
    Calls Try.prog 85 #[.int .i64 a0] w fun e w' => ∃ v0_ : Value, e = .returned (v0_) ∧ Kd.R k68 68 w' w.heap.size (fun _ => True) v0_ r ∧ Below w.heap.size w w' := by
  have hu68 := Try.underlying68
  have HB := Aside0.mk (Below.refl w.heap.size w)
  have H : (some (([(⟨(⟨#[98, 108, 111, 99, 107]⟩ : ByteArray), (⟨#[]⟩ : ByteArray), 1, 1, 0, a0⟩ : S68), (⟨(⟨#[99, 97, 108, 105, 112, 101, 114]⟩ : ByteArray), (⟨#[98, 108, 111, 99, 107]⟩ : ByteArray), 3, 2, 10, 20⟩ : S68), (⟨(⟨#[103, 97, 117, 103, 101]⟩ : ByteArray), (⟨#[99, 97, 108, 105, 112, 101, 114]⟩ : ByteArray), (-5), 4, 15, 40⟩ : S68)] : List (S68)))) = some r := h
  clear h
  obtain ⟨y192, hy192⟩ : ∃ y_ : List (S68), y_ = (([(⟨(⟨#[98, 108, 111, 99, 107]⟩ : ByteArray), (⟨#[]⟩ : ByteArray), 1, 1, 0, a0⟩ : S68), (⟨(⟨#[99, 97, 108, 105, 112, 101, 114]⟩ : ByteArray), (⟨#[98, 108, 111, 99, 107]⟩ : ByteArray), 3, 2, 10, 20⟩ : S68), (⟨(⟨#[103, 97, 117, 103, 101]⟩ : ByteArray), (⟨#[99, 97, 108, 105, 112, 101, 114]⟩ : ByteArray), (-5), 4, 15, 40⟩ : S68)] : List (S68))) := ⟨_, rfl⟩
  replace H : (some y192) = some r := by first | (rw [hy192]; with_reducible exact H) | (have H2_ := (Option.bind_some _ _).symm.trans H; rw [hy192]; with_reducible exact H2_) | (have H2_ := (Option.bind_some _ _).symm.trans H; with_reducible exact H2_) | with_reducible exact H | (rw [hy192]; exact H) | exact H
  have Ny192 := Aside0.mk hy192
  clear hy192
  obtain rfl := Option.some.inj H
  go_enter Try.func85, Try.ntmps85
  go_wp2_with (first | ((with_reducible refine gate_dst (N := 7) rfl ?_); refine Kd.R_lit k68 _ 68 ?hg (N := 7) ?hd (xs := ([(⟨(⟨#[98, 108, 111, 99, 107]⟩ : ByteArray), (⟨#[]⟩ : ByteArray), 1, 1, 0, a0⟩ : S68), (⟨(⟨#[99, 97, 108, 105, 112, 101, 114]⟩ : ByteArray), (⟨#[98, 108, 111, 99, 107]⟩ : ByteArray), 3, 2, 10, 20⟩ : S68), (⟨(⟨#[103, 97, 117, 103, 101]⟩ : ByteArray), (⟨#[99, 97, 108, 105, 112, 101, 114]⟩ : ByteArray), (-5), 4, 15, 40⟩ : S68)] : List (S68))) (inner := [.string (⟨#[98, 108, 111, 99, 107]⟩ : ByteArray), .string (⟨#[]⟩ : ByteArray), .int .i64 1, .int .i64 1, .int .i64 0, .int .i64 a0, .string (⟨#[99, 97, 108, 105, 112, 101, 114]⟩ : ByteArray), .string (⟨#[98, 108, 111, 99, 107]⟩ : ByteArray), .int .i64 3, .int .i64 2, .int .i64 10, .int .i64 20, .string (⟨#[103, 97, 117, 103, 101]⟩ : ByteArray), .string (⟨#[99, 97, 108, 105, 112, 101, 114]⟩ : ByteArray), .int .i64 (-5), .int .i64 4, .int .i64 15, .int .i64 40]) (ok := fun _ => True) (okp := fun _ => True) ?hr ?hp (fun _ hk => hk) trivial (Below.refl _ _) (Nat.le_refl _) (by simp) ?_; (case hd => rfl); (case hg => rfl); (case hr => first | (go_simp; done) | (go_simp; rfl)); (case hp => exact (Reps.c6 (show Kd.M k68 _ _ _ (⟨(⟨#[98, 108, 111, 99, 107]⟩ : ByteArray), (⟨#[]⟩ : ByteArray), 1, 1, 0, a0⟩ : S68) [.string (⟨#[98, 108, 111, 99, 107]⟩ : ByteArray), .string (⟨#[]⟩ : ByteArray), .int .i64 1, .int .i64 1, .int .i64 0, .int .i64 a0] from (k68_mkM _ _ _ (⟨(⟨#[98, 108, 111, 99, 107]⟩ : ByteArray), (⟨#[]⟩ : ByteArray), 1, 1, 0, a0⟩ : S68) )) (Reps.c6 (show Kd.M k68 _ _ _ (⟨(⟨#[99, 97, 108, 105, 112, 101, 114]⟩ : ByteArray), (⟨#[98, 108, 111, 99, 107]⟩ : ByteArray), 3, 2, 10, 20⟩ : S68) [.string (⟨#[99, 97, 108, 105, 112, 101, 114]⟩ : ByteArray), .string (⟨#[98, 108, 111, 99, 107]⟩ : ByteArray), .int .i64 3, .int .i64 2, .int .i64 10, .int .i64 20] from (k68_mkM _ _ _ (⟨(⟨#[99, 97, 108, 105, 112, 101, 114]⟩ : ByteArray), (⟨#[98, 108, 111, 99, 107]⟩ : ByteArray), 3, 2, 10, 20⟩ : S68) )) (Reps.c6 (show Kd.M k68 _ _ _ (⟨(⟨#[103, 97, 117, 103, 101]⟩ : ByteArray), (⟨#[99, 97, 108, 105, 112, 101, 114]⟩ : ByteArray), (-5), 4, 15, 40⟩ : S68) [.string (⟨#[103, 97, 117, 103, 101]⟩ : ByteArray), .string (⟨#[99, 97, 108, 105, 112, 101, 114]⟩ : ByteArray), .int .i64 (-5), .int .i64 4, .int .i64 15, .int .i64 40] from (k68_mkM _ _ _ (⟨(⟨#[103, 97, 117, 103, 101]⟩ : ByteArray), (⟨#[99, 97, 108, 105, 112, 101, 114]⟩ : ByteArray), (-5), 4, 15, 40⟩ : S68) )) (Reps.none _ _))))); intro v193 w2 ho3 hb hg_ hnew_; clear hg_ hnew_; (first | rw [← Ny192.out] at ho3 | (simp only [Int.reduceToNat] at ho3; rw [← Ny192.out] at ho3)); have n0_ := Aside0.mk (Kd.R_lower ho3 (below_size (by repeat (first | (with_reducible first | exact HB.out | apply below_alloc | apply pw_below_drewN | apply below_drew1) | exact HB.out)))); have n1_ := Aside0.mk (below_step (by repeat (first | (with_reducible first | exact HB.out | apply below_alloc | apply pw_below_drewN | apply below_drew1) | exact HB.out)) hb); clear HB; have HO194 := n0_; have HB := n1_; clear n0_ n1_; clear hb ho3))
  go_ret
  exact ⟨_, by first | rfl | (simp [errW_none, errW_some] <;> rfl) | (simp [*, errW_none, errW_some] <;> rfl), by (with_reducible repeat (first | apply Kd.R_alloc | apply Kd.R_drewN | apply Kd.R_drew)); exact HO194.out, by repeat (first | (with_reducible first | exact HB.out | apply below_alloc | apply pw_below_drewN | apply below_drew1) | exact HB.out)⟩
end Go.Proofs.Ytkgdlbepjmgaiaa.Cal
namespace Go.Proofs.Ytkgdlbepjmgaiaa.Cal
open Go.RowKit Go.Proofs.YtkgdlbepjmgaiaaW.PrintWords Go.Proofs.YtkgdlbepjmgaiaaW.PrintLast Go.Proofs.YtkgdlbepjmgaiaaW.PrintMore
attribute [local go_sem] max2_int min2_int max_two min_two max_three min_three max_four min_four
set_option linter.unusedVariables false
set_option linter.unusedSimpArgs false
attribute [local go_sem high] eqA25
def metrolablaw52_awake.j0 : Nat → List Int → List ByteArray → List Int → Bool → Int → Int → Int → Int → Option (Bool)
  | 0, _, _, _, _, _, _, _, _ => none
  | k + 1, x2, x17, x19, x108, x206000, x206001, x211000, x211001 => if x108 = true then (some false) else ((slices_Equal_int_int.f k x2 (([2, 1, 0] : List Int))).bind fun t233 => (if t233 = true then (if (x206000 == (-8) && (x206001 == 6)) = true then (if (x211000 == 94 && (x211001 == 108)) = true then ((slices_Equal_string_string.f k x17 (([(⟨#[98, 108, 111, 99, 107]⟩ : ByteArray), (⟨#[99, 97, 108, 105, 112, 101, 114]⟩ : ByteArray), (⟨#[103, 97, 117, 103, 101]⟩ : ByteArray)] : List ByteArray))).bind fun t237 => (if t237 = true then ((slices_Equal_int_int.f k x19 (([1, 2] : List Int))).bind fun t241 => (some t241)) else (some false))) else (some false)) else (some false)) else (some false)))
def metrolablaw52_awake.f (k : Nat)  : Option (Bool) := (metrolablaw52_Three.f 12).bind fun t195 => ((calibrate_Chain.f k t195 (⟨#[103, 97, 117, 103, 101]⟩ : ByteArray) 30).bind fun bt198 => ((calibrate_Error.f k t195 (⟨#[103, 97, 117, 103, 101]⟩ : ByteArray) 30).bind fun bt202 => ((calibrate_Value.f k t195 (⟨#[103, 97, 117, 103, 101]⟩ : ByteArray) 30 100).bind fun bt207 => ((calibrate_Judge.f k t195 (⟨#[103, 97, 117, 103, 101]⟩ : ByteArray) 30 100 90 110).bind fun bt211 => ((calibrate_Judge.f k t195 (⟨#[103, 97, 117, 103, 101]⟩ : ByteArray) 30 100 100 110).bind fun bt213 => ((calibrate_Judge.f k t195 (⟨#[103, 97, 117, 103, 101]⟩ : ByteArray) 30 100 0 93).bind fun bt215 => ((calibrate_Valid.f k t195 (⟨#[103, 97, 117, 103, 101]⟩ : ByteArray) 50).bind fun bt217 => ((calibrate_Due.f k t195 50).bind fun bt219 => ((metrolablaw52_Three.f 9).bind fun t223 => ((calibrate_Broken.f k t223).bind fun bt226 => (if (wrap64 ((wrap64 ((wrap64 ((wrap64 ((wrap64 ((wrap64 ((wrap64 (bt198.2 + bt202.2.2)) + bt207.2.2)) + bt211.2)) + bt213.2)) + bt215.2)) + bt219.2)) + bt226.2)) = 0 then (if bt217.2 = 14 then (if bt211.1 = 2 then (if bt213.1 = 1 then (if bt215.1 = 0 then (metrolablaw52_awake.j0 k bt198.1 bt219.1 bt226.1 false bt202.1 bt202.2.1 bt207.1 bt207.2.1) else (metrolablaw52_awake.j0 k bt198.1 bt219.1 bt226.1 true bt202.1 bt202.2.1 bt207.1 bt207.2.1)) else (metrolablaw52_awake.j0 k bt198.1 bt219.1 bt226.1 true bt202.1 bt202.2.1 bt207.1 bt207.2.1)) else (metrolablaw52_awake.j0 k bt198.1 bt219.1 bt226.1 true bt202.1 bt202.2.1 bt207.1 bt207.2.1)) else (metrolablaw52_awake.j0 k bt198.1 bt219.1 bt226.1 true bt202.1 bt202.2.1 bt207.1 bt207.2.1)) else (metrolablaw52_awake.j0 k bt198.1 bt219.1 bt226.1 true bt202.1 bt202.2.1 bt207.1 bt207.2.1))))))))))))
theorem metrolablaw52_awake.mono_l : ∀ k, (∀ y0 y1 y2 y3 y4 y5 y6 y7, LeO (metrolablaw52_awake.j0 k y0 y1 y2 y3 y4 y5 y6 y7) (metrolablaw52_awake.j0 (k + 1) y0 y1 y2 y3 y4 y5 y6 y7))
  | 0 => fun _ _ _ _ _ _ _ _ r h => by simp [metrolablaw52_awake.j0] at h
  | k + 1 => by
    have ih0 := metrolablaw52_awake.mono_l k
    · intro y0 y1 y2 y3 y4 y5 y6 y7
      unfold metrolablaw52_awake.j0
      repeat' first
      | (with_reducible exact ih0 _ _ _ _ _ _ _ _)
      | (with_reducible exact calibrate_Broken.mono _ _)
      | (with_reducible exact calibrate_Chain.mono _ _ _ _)
      | (with_reducible exact calibrate_Due.mono _ _ _)
      | (with_reducible exact calibrate_Error.mono _ _ _ _)
      | (with_reducible exact calibrate_Judge.mono _ _ _ _ _ _ _)
      | (with_reducible exact calibrate_Valid.mono _ _ _ _)
      | (with_reducible exact calibrate_Value.mono _ _ _ _ _)
      | (with_reducible exact slices_Equal_int_int.mono _ _ _)
      | (with_reducible exact slices_Equal_string_string.mono _ _ _)
      | (with_reducible exact LeO.refl _)
      | (with_reducible exact LeO.none _)
      | (with_reducible refine LeO.ite ?_ ?_)
      | (with_reducible refine LeO.bind ?_ (fun _ => ?_))
      | exact ih0 _ _ _ _ _ _ _ _
      | exact calibrate_Broken.mono _ _
      | exact calibrate_Chain.mono _ _ _ _
      | exact calibrate_Due.mono _ _ _
      | exact calibrate_Error.mono _ _ _ _
      | exact calibrate_Judge.mono _ _ _ _ _ _ _
      | exact calibrate_Valid.mono _ _ _ _
      | exact calibrate_Value.mono _ _ _ _ _
      | exact slices_Equal_int_int.mono _ _ _
      | exact slices_Equal_string_string.mono _ _ _
      | exact LeO.none _
      | refine LeO.ite ?_ ?_
      | refine LeO.bind ?_ (fun _ => ?_)
theorem metrolablaw52_awake.mono : ∀ k, LeO (metrolablaw52_awake.f k ) (metrolablaw52_awake.f (k + 1) ) := by
  intro  k
  have ih0 := metrolablaw52_awake.mono_l k
  unfold metrolablaw52_awake.f
  repeat' first
      | (with_reducible exact ih0 _ _ _ _ _ _ _ _)
      | (with_reducible exact calibrate_Broken.mono _ _)
      | (with_reducible exact calibrate_Chain.mono _ _ _ _)
      | (with_reducible exact calibrate_Due.mono _ _ _)
      | (with_reducible exact calibrate_Error.mono _ _ _ _)
      | (with_reducible exact calibrate_Judge.mono _ _ _ _ _ _ _)
      | (with_reducible exact calibrate_Valid.mono _ _ _ _)
      | (with_reducible exact calibrate_Value.mono _ _ _ _ _)
      | (with_reducible exact slices_Equal_int_int.mono _ _ _)
      | (with_reducible exact slices_Equal_string_string.mono _ _ _)
      | (with_reducible exact LeO.refl _)
      | (with_reducible exact LeO.none _)
      | (with_reducible refine LeO.ite ?_ ?_)
      | (with_reducible refine LeO.bind ?_ (fun _ => ?_))
      | exact ih0 _ _ _ _ _ _ _ _
      | exact calibrate_Broken.mono _ _
      | exact calibrate_Chain.mono _ _ _ _
      | exact calibrate_Due.mono _ _ _
      | exact calibrate_Error.mono _ _ _ _
      | exact calibrate_Judge.mono _ _ _ _ _ _ _
      | exact calibrate_Valid.mono _ _ _ _
      | exact calibrate_Value.mono _ _ _ _ _
      | exact slices_Equal_int_int.mono _ _ _
      | exact slices_Equal_string_string.mono _ _ _
      | exact LeO.none _
      | refine LeO.ite ?_ ?_
      | refine LeO.bind ?_ (fun _ => ?_)
set_option maxHeartbeats 8000000 in
set_option maxRecDepth 100000 in
theorem metrolablaw52_awake.calls (k : Nat)  (r : Bool) (w : World) (h : metrolablaw52_awake.f k  = some r) :
    Calls Try.prog 34 #[] w fun e w' => e = .returned (.bool r) ∧ Below w.heap.size w w' := by
  have hu25 := Try.underlying25
  have hu51 := Try.underlying51
  have HB := Aside0.mk (Below.refl w.heap.size w)
  have H : ((metrolablaw52_Three.f 12).bind fun t195 => ((calibrate_Chain.f k t195 (⟨#[103, 97, 117, 103, 101]⟩ : ByteArray) 30).bind fun bt198 => ((calibrate_Error.f k t195 (⟨#[103, 97, 117, 103, 101]⟩ : ByteArray) 30).bind fun bt202 => ((calibrate_Value.f k t195 (⟨#[103, 97, 117, 103, 101]⟩ : ByteArray) 30 100).bind fun bt207 => ((calibrate_Judge.f k t195 (⟨#[103, 97, 117, 103, 101]⟩ : ByteArray) 30 100 90 110).bind fun bt211 => ((calibrate_Judge.f k t195 (⟨#[103, 97, 117, 103, 101]⟩ : ByteArray) 30 100 100 110).bind fun bt213 => ((calibrate_Judge.f k t195 (⟨#[103, 97, 117, 103, 101]⟩ : ByteArray) 30 100 0 93).bind fun bt215 => ((calibrate_Valid.f k t195 (⟨#[103, 97, 117, 103, 101]⟩ : ByteArray) 50).bind fun bt217 => ((calibrate_Due.f k t195 50).bind fun bt219 => ((metrolablaw52_Three.f 9).bind fun t223 => ((calibrate_Broken.f k t223).bind fun bt226 => (if (wrap64 ((wrap64 ((wrap64 ((wrap64 ((wrap64 ((wrap64 ((wrap64 (bt198.2 + bt202.2.2)) + bt207.2.2)) + bt211.2)) + bt213.2)) + bt215.2)) + bt219.2)) + bt226.2)) = 0 then (if bt217.2 = 14 then (if bt211.1 = 2 then (if bt213.1 = 1 then (if bt215.1 = 0 then (metrolablaw52_awake.j0 k bt198.1 bt219.1 bt226.1 false bt202.1 bt202.2.1 bt207.1 bt207.2.1) else (metrolablaw52_awake.j0 k bt198.1 bt219.1 bt226.1 true bt202.1 bt202.2.1 bt207.1 bt207.2.1)) else (metrolablaw52_awake.j0 k bt198.1 bt219.1 bt226.1 true bt202.1 bt202.2.1 bt207.1 bt207.2.1)) else (metrolablaw52_awake.j0 k bt198.1 bt219.1 bt226.1 true bt202.1 bt202.2.1 bt207.1 bt207.2.1)) else (metrolablaw52_awake.j0 k bt198.1 bt219.1 bt226.1 true bt202.1 bt202.2.1 bt207.1 bt207.2.1)) else (metrolablaw52_awake.j0 k bt198.1 bt219.1 bt226.1 true bt202.1 bt202.2.1 bt207.1 bt207.2.1))))))))))))) = some r := h
  clear h
  replace H := Option.bind_eq_some_iff.mp H
  obtain ⟨t195, A10, H⟩ := H
  replace H : ((calibrate_Chain.f k t195 (⟨#[103, 97, 117, 103, 101]⟩ : ByteArray) 30).bind fun bt198 => ((calibrate_Error.f k t195 (⟨#[103, 97, 117, 103, 101]⟩ : ByteArray) 30).bind fun bt202 => ((calibrate_Value.f k t195 (⟨#[103, 97, 117, 103, 101]⟩ : ByteArray) 30 100).bind fun bt207 => ((calibrate_Judge.f k t195 (⟨#[103, 97, 117, 103, 101]⟩ : ByteArray) 30 100 90 110).bind fun bt211 => ((calibrate_Judge.f k t195 (⟨#[103, 97, 117, 103, 101]⟩ : ByteArray) 30 100 100 110).bind fun bt213 => ((calibrate_Judge.f k t195 (⟨#[103, 97, 117, 103, 101]⟩ : ByteArray) 30 100 0 93).bind fun bt215 => ((calibrate_Valid.f k t195 (⟨#[103, 97, 117, 103, 101]⟩ : ByteArray) 50).bind fun bt217 => ((calibrate_Due.f k t195 50).bind fun bt219 => ((metrolablaw52_Three.f 9).bind fun t223 => ((calibrate_Broken.f k t223).bind fun bt226 => (if (wrap64 ((wrap64 ((wrap64 ((wrap64 ((wrap64 ((wrap64 ((wrap64 (bt198.2 + bt202.2.2)) + bt207.2.2)) + bt211.2)) + bt213.2)) + bt215.2)) + bt219.2)) + bt226.2)) = 0 then (if bt217.2 = 14 then (if bt211.1 = 2 then (if bt213.1 = 1 then (if bt215.1 = 0 then (metrolablaw52_awake.j0 k bt198.1 bt219.1 bt226.1 false bt202.1 bt202.2.1 bt207.1 bt207.2.1) else (metrolablaw52_awake.j0 k bt198.1 bt219.1 bt226.1 true bt202.1 bt202.2.1 bt207.1 bt207.2.1)) else (metrolablaw52_awake.j0 k bt198.1 bt219.1 bt226.1 true bt202.1 bt202.2.1 bt207.1 bt207.2.1)) else (metrolablaw52_awake.j0 k bt198.1 bt219.1 bt226.1 true bt202.1 bt202.2.1 bt207.1 bt207.2.1)) else (metrolablaw52_awake.j0 k bt198.1 bt219.1 bt226.1 true bt202.1 bt202.2.1 bt207.1 bt207.2.1)) else (metrolablaw52_awake.j0 k bt198.1 bt219.1 bt226.1 true bt202.1 bt202.2.1 bt207.1 bt207.2.1)))))))))))) = some r := H
  have A1 := Aside0.mk A10
  clear A10
  replace H := Option.bind_eq_some_iff.mp H
  obtain ⟨⟨t198, t199⟩, A20, H⟩ := H
  replace H : ((calibrate_Error.f k t195 (⟨#[103, 97, 117, 103, 101]⟩ : ByteArray) 30).bind fun bt202 => ((calibrate_Value.f k t195 (⟨#[103, 97, 117, 103, 101]⟩ : ByteArray) 30 100).bind fun bt207 => ((calibrate_Judge.f k t195 (⟨#[103, 97, 117, 103, 101]⟩ : ByteArray) 30 100 90 110).bind fun bt211 => ((calibrate_Judge.f k t195 (⟨#[103, 97, 117, 103, 101]⟩ : ByteArray) 30 100 100 110).bind fun bt213 => ((calibrate_Judge.f k t195 (⟨#[103, 97, 117, 103, 101]⟩ : ByteArray) 30 100 0 93).bind fun bt215 => ((calibrate_Valid.f k t195 (⟨#[103, 97, 117, 103, 101]⟩ : ByteArray) 50).bind fun bt217 => ((calibrate_Due.f k t195 50).bind fun bt219 => ((metrolablaw52_Three.f 9).bind fun t223 => ((calibrate_Broken.f k t223).bind fun bt226 => (if (wrap64 ((wrap64 ((wrap64 ((wrap64 ((wrap64 ((wrap64 ((wrap64 (t199 + bt202.2.2)) + bt207.2.2)) + bt211.2)) + bt213.2)) + bt215.2)) + bt219.2)) + bt226.2)) = 0 then (if bt217.2 = 14 then (if bt211.1 = 2 then (if bt213.1 = 1 then (if bt215.1 = 0 then (metrolablaw52_awake.j0 k t198 bt219.1 bt226.1 false bt202.1 bt202.2.1 bt207.1 bt207.2.1) else (metrolablaw52_awake.j0 k t198 bt219.1 bt226.1 true bt202.1 bt202.2.1 bt207.1 bt207.2.1)) else (metrolablaw52_awake.j0 k t198 bt219.1 bt226.1 true bt202.1 bt202.2.1 bt207.1 bt207.2.1)) else (metrolablaw52_awake.j0 k t198 bt219.1 bt226.1 true bt202.1 bt202.2.1 bt207.1 bt207.2.1)) else (metrolablaw52_awake.j0 k t198 bt219.1 bt226.1 true bt202.1 bt202.2.1 bt207.1 bt207.2.1)) else (metrolablaw52_awake.j0 k t198 bt219.1 bt226.1 true bt202.1 bt202.2.1 bt207.1 bt207.2.1))))))))))) = some r := H
  have A2 := Aside0.mk A20
  clear A20
  replace H := Option.bind_eq_some_iff.mp H
  obtain ⟨⟨t202, t203, t204⟩, A30, H⟩ := H
  replace H : ((calibrate_Value.f k t195 (⟨#[103, 97, 117, 103, 101]⟩ : ByteArray) 30 100).bind fun bt207 => ((calibrate_Judge.f k t195 (⟨#[103, 97, 117, 103, 101]⟩ : ByteArray) 30 100 90 110).bind fun bt211 => ((calibrate_Judge.f k t195 (⟨#[103, 97, 117, 103, 101]⟩ : ByteArray) 30 100 100 110).bind fun bt213 => ((calibrate_Judge.f k t195 (⟨#[103, 97, 117, 103, 101]⟩ : ByteArray) 30 100 0 93).bind fun bt215 => ((calibrate_Valid.f k t195 (⟨#[103, 97, 117, 103, 101]⟩ : ByteArray) 50).bind fun bt217 => ((calibrate_Due.f k t195 50).bind fun bt219 => ((metrolablaw52_Three.f 9).bind fun t223 => ((calibrate_Broken.f k t223).bind fun bt226 => (if (wrap64 ((wrap64 ((wrap64 ((wrap64 ((wrap64 ((wrap64 ((wrap64 (t199 + t204)) + bt207.2.2)) + bt211.2)) + bt213.2)) + bt215.2)) + bt219.2)) + bt226.2)) = 0 then (if bt217.2 = 14 then (if bt211.1 = 2 then (if bt213.1 = 1 then (if bt215.1 = 0 then (metrolablaw52_awake.j0 k t198 bt219.1 bt226.1 false t202 t203 bt207.1 bt207.2.1) else (metrolablaw52_awake.j0 k t198 bt219.1 bt226.1 true t202 t203 bt207.1 bt207.2.1)) else (metrolablaw52_awake.j0 k t198 bt219.1 bt226.1 true t202 t203 bt207.1 bt207.2.1)) else (metrolablaw52_awake.j0 k t198 bt219.1 bt226.1 true t202 t203 bt207.1 bt207.2.1)) else (metrolablaw52_awake.j0 k t198 bt219.1 bt226.1 true t202 t203 bt207.1 bt207.2.1)) else (metrolablaw52_awake.j0 k t198 bt219.1 bt226.1 true t202 t203 bt207.1 bt207.2.1)))))))))) = some r := H
  have A3 := Aside0.mk A30
  clear A30
  replace H := Option.bind_eq_some_iff.mp H
  obtain ⟨⟨t207, t208, t209⟩, A40, H⟩ := H
  replace H : ((calibrate_Judge.f k t195 (⟨#[103, 97, 117, 103, 101]⟩ : ByteArray) 30 100 90 110).bind fun bt211 => ((calibrate_Judge.f k t195 (⟨#[103, 97, 117, 103, 101]⟩ : ByteArray) 30 100 100 110).bind fun bt213 => ((calibrate_Judge.f k t195 (⟨#[103, 97, 117, 103, 101]⟩ : ByteArray) 30 100 0 93).bind fun bt215 => ((calibrate_Valid.f k t195 (⟨#[103, 97, 117, 103, 101]⟩ : ByteArray) 50).bind fun bt217 => ((calibrate_Due.f k t195 50).bind fun bt219 => ((metrolablaw52_Three.f 9).bind fun t223 => ((calibrate_Broken.f k t223).bind fun bt226 => (if (wrap64 ((wrap64 ((wrap64 ((wrap64 ((wrap64 ((wrap64 ((wrap64 (t199 + t204)) + t209)) + bt211.2)) + bt213.2)) + bt215.2)) + bt219.2)) + bt226.2)) = 0 then (if bt217.2 = 14 then (if bt211.1 = 2 then (if bt213.1 = 1 then (if bt215.1 = 0 then (metrolablaw52_awake.j0 k t198 bt219.1 bt226.1 false t202 t203 t207 t208) else (metrolablaw52_awake.j0 k t198 bt219.1 bt226.1 true t202 t203 t207 t208)) else (metrolablaw52_awake.j0 k t198 bt219.1 bt226.1 true t202 t203 t207 t208)) else (metrolablaw52_awake.j0 k t198 bt219.1 bt226.1 true t202 t203 t207 t208)) else (metrolablaw52_awake.j0 k t198 bt219.1 bt226.1 true t202 t203 t207 t208)) else (metrolablaw52_awake.j0 k t198 bt219.1 bt226.1 true t202 t203 t207 t208))))))))) = some r := H
  have A4 := Aside0.mk A40
  clear A40
  replace H := Option.bind_eq_some_iff.mp H
  obtain ⟨⟨t211, t212⟩, A50, H⟩ := H
  replace H : ((calibrate_Judge.f k t195 (⟨#[103, 97, 117, 103, 101]⟩ : ByteArray) 30 100 100 110).bind fun bt213 => ((calibrate_Judge.f k t195 (⟨#[103, 97, 117, 103, 101]⟩ : ByteArray) 30 100 0 93).bind fun bt215 => ((calibrate_Valid.f k t195 (⟨#[103, 97, 117, 103, 101]⟩ : ByteArray) 50).bind fun bt217 => ((calibrate_Due.f k t195 50).bind fun bt219 => ((metrolablaw52_Three.f 9).bind fun t223 => ((calibrate_Broken.f k t223).bind fun bt226 => (if (wrap64 ((wrap64 ((wrap64 ((wrap64 ((wrap64 ((wrap64 ((wrap64 (t199 + t204)) + t209)) + t212)) + bt213.2)) + bt215.2)) + bt219.2)) + bt226.2)) = 0 then (if bt217.2 = 14 then (if t211 = 2 then (if bt213.1 = 1 then (if bt215.1 = 0 then (metrolablaw52_awake.j0 k t198 bt219.1 bt226.1 false t202 t203 t207 t208) else (metrolablaw52_awake.j0 k t198 bt219.1 bt226.1 true t202 t203 t207 t208)) else (metrolablaw52_awake.j0 k t198 bt219.1 bt226.1 true t202 t203 t207 t208)) else (metrolablaw52_awake.j0 k t198 bt219.1 bt226.1 true t202 t203 t207 t208)) else (metrolablaw52_awake.j0 k t198 bt219.1 bt226.1 true t202 t203 t207 t208)) else (metrolablaw52_awake.j0 k t198 bt219.1 bt226.1 true t202 t203 t207 t208)))))))) = some r := H
  have A5 := Aside0.mk A50
  clear A50
  replace H := Option.bind_eq_some_iff.mp H
  obtain ⟨⟨t213, t214⟩, A60, H⟩ := H
  replace H : ((calibrate_Judge.f k t195 (⟨#[103, 97, 117, 103, 101]⟩ : ByteArray) 30 100 0 93).bind fun bt215 => ((calibrate_Valid.f k t195 (⟨#[103, 97, 117, 103, 101]⟩ : ByteArray) 50).bind fun bt217 => ((calibrate_Due.f k t195 50).bind fun bt219 => ((metrolablaw52_Three.f 9).bind fun t223 => ((calibrate_Broken.f k t223).bind fun bt226 => (if (wrap64 ((wrap64 ((wrap64 ((wrap64 ((wrap64 ((wrap64 ((wrap64 (t199 + t204)) + t209)) + t212)) + t214)) + bt215.2)) + bt219.2)) + bt226.2)) = 0 then (if bt217.2 = 14 then (if t211 = 2 then (if t213 = 1 then (if bt215.1 = 0 then (metrolablaw52_awake.j0 k t198 bt219.1 bt226.1 false t202 t203 t207 t208) else (metrolablaw52_awake.j0 k t198 bt219.1 bt226.1 true t202 t203 t207 t208)) else (metrolablaw52_awake.j0 k t198 bt219.1 bt226.1 true t202 t203 t207 t208)) else (metrolablaw52_awake.j0 k t198 bt219.1 bt226.1 true t202 t203 t207 t208)) else (metrolablaw52_awake.j0 k t198 bt219.1 bt226.1 true t202 t203 t207 t208)) else (metrolablaw52_awake.j0 k t198 bt219.1 bt226.1 true t202 t203 t207 t208))))))) = some r := H
  have A6 := Aside0.mk A60
  clear A60
  replace H := Option.bind_eq_some_iff.mp H
  obtain ⟨⟨t215, t216⟩, A70, H⟩ := H
  replace H : ((calibrate_Valid.f k t195 (⟨#[103, 97, 117, 103, 101]⟩ : ByteArray) 50).bind fun bt217 => ((calibrate_Due.f k t195 50).bind fun bt219 => ((metrolablaw52_Three.f 9).bind fun t223 => ((calibrate_Broken.f k t223).bind fun bt226 => (if (wrap64 ((wrap64 ((wrap64 ((wrap64 ((wrap64 ((wrap64 ((wrap64 (t199 + t204)) + t209)) + t212)) + t214)) + t216)) + bt219.2)) + bt226.2)) = 0 then (if bt217.2 = 14 then (if t211 = 2 then (if t213 = 1 then (if t215 = 0 then (metrolablaw52_awake.j0 k t198 bt219.1 bt226.1 false t202 t203 t207 t208) else (metrolablaw52_awake.j0 k t198 bt219.1 bt226.1 true t202 t203 t207 t208)) else (metrolablaw52_awake.j0 k t198 bt219.1 bt226.1 true t202 t203 t207 t208)) else (metrolablaw52_awake.j0 k t198 bt219.1 bt226.1 true t202 t203 t207 t208)) else (metrolablaw52_awake.j0 k t198 bt219.1 bt226.1 true t202 t203 t207 t208)) else (metrolablaw52_awake.j0 k t198 bt219.1 bt226.1 true t202 t203 t207 t208)))))) = some r := H
  have A7 := Aside0.mk A70
  clear A70
  replace H := Option.bind_eq_some_iff.mp H
  obtain ⟨⟨t217, t218⟩, A80, H⟩ := H
  replace H : ((calibrate_Due.f k t195 50).bind fun bt219 => ((metrolablaw52_Three.f 9).bind fun t223 => ((calibrate_Broken.f k t223).bind fun bt226 => (if (wrap64 ((wrap64 ((wrap64 ((wrap64 ((wrap64 ((wrap64 ((wrap64 (t199 + t204)) + t209)) + t212)) + t214)) + t216)) + bt219.2)) + bt226.2)) = 0 then (if t218 = 14 then (if t211 = 2 then (if t213 = 1 then (if t215 = 0 then (metrolablaw52_awake.j0 k t198 bt219.1 bt226.1 false t202 t203 t207 t208) else (metrolablaw52_awake.j0 k t198 bt219.1 bt226.1 true t202 t203 t207 t208)) else (metrolablaw52_awake.j0 k t198 bt219.1 bt226.1 true t202 t203 t207 t208)) else (metrolablaw52_awake.j0 k t198 bt219.1 bt226.1 true t202 t203 t207 t208)) else (metrolablaw52_awake.j0 k t198 bt219.1 bt226.1 true t202 t203 t207 t208)) else (metrolablaw52_awake.j0 k t198 bt219.1 bt226.1 true t202 t203 t207 t208))))) = some r := H
  have A8 := Aside0.mk A80
  clear A80
  replace H := Option.bind_eq_some_iff.mp H
  obtain ⟨⟨t219, t220⟩, A90, H⟩ := H
  replace H : ((metrolablaw52_Three.f 9).bind fun t223 => ((calibrate_Broken.f k t223).bind fun bt226 => (if (wrap64 ((wrap64 ((wrap64 ((wrap64 ((wrap64 ((wrap64 ((wrap64 (t199 + t204)) + t209)) + t212)) + t214)) + t216)) + t220)) + bt226.2)) = 0 then (if t218 = 14 then (if t211 = 2 then (if t213 = 1 then (if t215 = 0 then (metrolablaw52_awake.j0 k t198 t219 bt226.1 false t202 t203 t207 t208) else (metrolablaw52_awake.j0 k t198 t219 bt226.1 true t202 t203 t207 t208)) else (metrolablaw52_awake.j0 k t198 t219 bt226.1 true t202 t203 t207 t208)) else (metrolablaw52_awake.j0 k t198 t219 bt226.1 true t202 t203 t207 t208)) else (metrolablaw52_awake.j0 k t198 t219 bt226.1 true t202 t203 t207 t208)) else (metrolablaw52_awake.j0 k t198 t219 bt226.1 true t202 t203 t207 t208)))) = some r := H
  have A9 := Aside0.mk A90
  clear A90
  replace H := Option.bind_eq_some_iff.mp H
  obtain ⟨t223, A100, H⟩ := H
  replace H : ((calibrate_Broken.f k t223).bind fun bt226 => (if (wrap64 ((wrap64 ((wrap64 ((wrap64 ((wrap64 ((wrap64 ((wrap64 (t199 + t204)) + t209)) + t212)) + t214)) + t216)) + t220)) + bt226.2)) = 0 then (if t218 = 14 then (if t211 = 2 then (if t213 = 1 then (if t215 = 0 then (metrolablaw52_awake.j0 k t198 t219 bt226.1 false t202 t203 t207 t208) else (metrolablaw52_awake.j0 k t198 t219 bt226.1 true t202 t203 t207 t208)) else (metrolablaw52_awake.j0 k t198 t219 bt226.1 true t202 t203 t207 t208)) else (metrolablaw52_awake.j0 k t198 t219 bt226.1 true t202 t203 t207 t208)) else (metrolablaw52_awake.j0 k t198 t219 bt226.1 true t202 t203 t207 t208)) else (metrolablaw52_awake.j0 k t198 t219 bt226.1 true t202 t203 t207 t208))) = some r := H
  have A10 := Aside0.mk A100
  clear A100
  replace H := Option.bind_eq_some_iff.mp H
  obtain ⟨⟨t226, t227⟩, A110, H⟩ := H
  replace H : (if (wrap64 ((wrap64 ((wrap64 ((wrap64 ((wrap64 ((wrap64 ((wrap64 (t199 + t204)) + t209)) + t212)) + t214)) + t216)) + t220)) + t227)) = 0 then (if t218 = 14 then (if t211 = 2 then (if t213 = 1 then (if t215 = 0 then (metrolablaw52_awake.j0 k t198 t219 t226 false t202 t203 t207 t208) else (metrolablaw52_awake.j0 k t198 t219 t226 true t202 t203 t207 t208)) else (metrolablaw52_awake.j0 k t198 t219 t226 true t202 t203 t207 t208)) else (metrolablaw52_awake.j0 k t198 t219 t226 true t202 t203 t207 t208)) else (metrolablaw52_awake.j0 k t198 t219 t226 true t202 t203 t207 t208)) else (metrolablaw52_awake.j0 k t198 t219 t226 true t202 t203 t207 t208)) = some r := H
  have A11 := Aside0.mk A110
  clear A110
  have HC12 := Aside0.mk H
  clear H
  go_enter Try.func34, Try.ntmps34
  go_upto_region 12 with (first | ((with_reducible refine gate_callee (f := 85) rfl ?_); refine goesL_ (some 21) rfl rfl Try.func85 (by kernel_rfl) rfl #[.int .i64 12] rfl (by (try simp only [List.map_toArray, List.map_cons, List.map_nil]); first | done | rfl | (simp only [List.length_drop, List.length_take]; rfl)) ?_; (with_reducible refine (metrolablaw52_Three.calls 12 t195 _ A1.out).mono ?_); rintro e w13 ⟨v196, rfl, ho0, hb⟩; refine ⟨_, rfl, ?_⟩; have n0_ := Aside0.mk (Kd.R_lower ho0 (below_size (by repeat (first | (with_reducible first | exact HB.out | apply below_alloc | apply pw_below_drewN | apply below_drew1) | exact HB.out)))); have n1_ := Aside0.mk (below_step (by repeat (first | (with_reducible first | exact HB.out | apply below_alloc | apply pw_below_drewN | apply below_drew1) | exact HB.out)) hb); clear HB; have HO197 := n0_; have HB := n1_; clear n0_ n1_; (try clear hb); (try clear hb2); (try clear hk); (try clear hi); (try clear ho0); obtain ⟨Ao14, co14, eo14⟩ := Kd.R_slice HO197.out; subst eo14) | ((with_reducible refine gate_callee (f := 44) rfl ?_); refine goesL_ (some 24) rfl rfl Try.func44 (by kernel_rfl) rfl #[.slice Ao14 t195.length co14, .string (⟨#[103, 97, 117, 103, 101]⟩ : ByteArray), .int .i64 30] rfl (by (try simp only [List.map_toArray, List.map_cons, List.map_nil]); first | done | rfl | (simp only [List.length_drop, List.length_take]; rfl)) ?_; (with_reducible refine (calibrate_Chain.calls k _ _ t195 (⟨#[103, 97, 117, 103, 101]⟩ : ByteArray) 30 t198 t199 _ ?side1 ?side2 A2.out).mono ?_); (case side1 => repeat (first | exact (Kd.R_reads' HO197.out).2.2 | (with_reducible refine Kd.C_alloc ?_ _) | (with_reducible refine Kd.C_drewN ?_ _) | (with_reducible refine Kd.C_drew ?_))); (case side2 => exact (Kd.R_reads' HO197.out).2.1); rintro e w15 ⟨v200, rfl, ho0, hb⟩; refine ⟨_, rfl, ?_⟩; have n0_ := Aside0.mk (Kd.R_below (by (with_reducible repeat (first | apply Kd.R_alloc | apply Kd.R_drewN | apply Kd.R_drew)); exact HO197.out) hb); have n1_ := Aside0.mk (Kd.R_lower ho0 (below_size (by repeat (first | (with_reducible first | exact HB.out | apply below_alloc | apply pw_below_drewN | apply below_drew1) | exact HB.out)))); have n2_ := Aside0.mk (below_step (by repeat (first | (with_reducible first | exact HB.out | apply below_alloc | apply pw_below_drewN | apply below_drew1) | exact HB.out)) hb); clear HO197; clear HB; have HO197 := n0_; have HO201 := n1_; have HB := n2_; clear n0_ n1_ n2_; (try clear hb); (try clear hb2); (try clear hk); (try clear hi); (try clear ho0)) | ((with_reducible refine gate_callee (f := 61) rfl ?_); refine goesL_ (some 29) rfl rfl Try.func61 (by kernel_rfl) rfl #[.slice Ao14 t195.length co14, .string (⟨#[103, 97, 117, 103, 101]⟩ : ByteArray), .int .i64 30] rfl (by (try simp only [List.map_toArray, List.map_cons, List.map_nil]); first | done | rfl | (simp only [List.length_drop, List.length_take]; rfl)) ?_; (with_reducible refine (calibrate_Error.calls k _ _ t195 (⟨#[103, 97, 117, 103, 101]⟩ : ByteArray) 30 t202 t203 t204 _ ?side1 ?side2 A3.out).mono ?_); (case side1 => repeat (first | exact (Kd.R_reads' HO197.out).2.2 | (with_reducible refine Kd.C_alloc ?_ _) | (with_reducible refine Kd.C_drewN ?_ _) | (with_reducible refine Kd.C_drew ?_))); (case side2 => exact (Kd.R_reads' HO197.out).2.1); rintro e w16 ⟨rfl, hb⟩; refine ⟨_, rfl, ?_⟩; have n0_ := Aside0.mk (Kd.R_below (by (with_reducible repeat (first | apply Kd.R_alloc | apply Kd.R_drewN | apply Kd.R_drew)); exact HO197.out) hb); have n1_ := Aside0.mk (Kd.R_below (by (with_reducible repeat (first | apply Kd.R_alloc | apply Kd.R_drewN | apply Kd.R_drew)); exact HO201.out) hb); have n2_ := Aside0.mk (below_step (by repeat (first | (with_reducible first | exact HB.out | apply below_alloc | apply pw_below_drewN | apply below_drew1) | exact HB.out)) hb); clear HO197; clear HO201; clear HB; have HO197 := n0_; have HO201 := n1_; have HB := n2_; clear n0_ n1_ n2_; (try clear hb); (try clear hb2); (try clear hk); (try clear hi)) | ((with_reducible refine gate_dst (N := 4) rfl ?_); (try (refine gate_guard (by rfl) ?_; dsimp only)); refine box_event ?hg (N := 4) ?hd (cs := #[.int .i64 0, .int .i64 0]) (t := 25) ?hr ?_; (case hd => rfl); (case hg => rfl); (case hr => first | (go_simp; done) | (go_simp; rfl)); intro gb205 hg w17 hbox hb; have n0_ := Aside0.mk (Kd.R_below (by (with_reducible repeat (first | apply Kd.R_alloc | apply Kd.R_drewN | apply Kd.R_drew)); exact HO197.out) hb); have n1_ := Aside0.mk (Kd.R_below (by (with_reducible repeat (first | apply Kd.R_alloc | apply Kd.R_drewN | apply Kd.R_drew)); exact HO201.out) hb); have n2_ := Aside0.mk (below_step (by repeat (first | (with_reducible first | exact HB.out | apply below_alloc | apply pw_below_drewN | apply below_drew1) | exact HB.out)) hb); have n3_ := Aside0.mk (hbox); have n4_ := Aside0.mk ((by rw [hg]; exact (below_size (by repeat (first | (with_reducible first | exact HB.out | apply below_alloc | apply pw_below_drewN | apply below_drew1) | exact HB.out))) : w.heap.size ≤ gb205)); have n5_ := Aside0.mk ((by rw [hg]; exact (below_size (by repeat (first | (with_reducible first | exact HB.out | apply below_alloc | apply pw_below_drewN | apply below_drew1) | exact HB.out))) : w.heap.size ≤ gb205)); clear HO197; clear HO201; clear HB; have HO197 := n0_; have HO201 := n1_; have HB := n2_; have BK205 := n3_; have GW205 := n4_; have GE205 := n5_; clear n0_ n1_ n2_ n3_ n4_ n5_; clear hb hbox hg; have hcz18_0 : w17.cell? ⟨gb205, 0, none⟩ = some (.int .i64 0) := (blk_cell BK205.out 0).trans rfl; have hcz18_1 : w17.cell? ⟨gb205, 1, none⟩ = some (.int .i64 0) := (blk_cell BK205.out 1).trans rfl; have hfz18_0 := blk_frozen BK205.out 0; have hfz18_1 := blk_frozen BK205.out 1) | ((with_reducible refine gate_dst (N := 6) rfl ?_); (try (refine gate_guard (by rfl) ?_; dsimp only)); refine box_event ?hg (N := 6) ?hd (cs := #[.string (⟨#[]⟩ : ByteArray), .int .i64 0, .int .i64 0]) (t := 51) ?hr ?_; (case hd => rfl); (case hg => rfl); (case hr => first | (go_simp; done) | (go_simp; rfl)); intro gb206 hg w19 hbox hb; have n0_ := Aside0.mk (Kd.R_below (by (with_reducible repeat (first | apply Kd.R_alloc | apply Kd.R_drewN | apply Kd.R_drew)); exact (Kd.R_mono (Kd.R_far (p := ⟨gb205, 1, none⟩) (Kd.R_far (p := ⟨gb205, 0, none⟩) (Kd.R_types HO197.out BK205.out (by decide)) (fun _ hk => hk.2) (.int .i64 t202)) (fun _ hk => hk.2) (.int .i64 t203)) (fun _ h_ => h_.1))) hb); have n1_ := Aside0.mk (Kd.R_below (by (with_reducible repeat (first | apply Kd.R_alloc | apply Kd.R_drewN | apply Kd.R_drew)); exact (Kd.R_mono (Kd.R_far (p := ⟨gb205, 1, none⟩) (Kd.R_far (p := ⟨gb205, 0, none⟩) (Kd.R_types HO201.out BK205.out (by decide)) (fun _ hk => hk.2) (.int .i64 t202)) (fun _ hk => hk.2) (.int .i64 t203)) (fun _ h_ => h_.1))) hb); have n2_ := Aside0.mk (blk_below (g := gb205) (o := .cells #[.int .i64 t202, .int .i64 t203] 25 (0, 0)) (by (with_reducible repeat (first | refine blk_drewN ?_ _ | refine blk_drew ?_ | refine blk_alloc ?_ _)); refine blk_put (cs := #[.int .i64 t202, .int .i64 0]) ?_ 1 _ rfl; (with_reducible repeat (first | refine blk_drewN ?_ _ | refine blk_drew ?_ | refine blk_alloc ?_ _)); refine blk_put (cs := #[.int .i64 0, .int .i64 0]) ?_ 0 _ rfl; (with_reducible repeat (first | refine blk_drewN ?_ _ | refine blk_drew ?_ | refine blk_alloc ?_ _)); exact BK205.out) hb); have n3_ := Aside0.mk (below_step (by repeat (first | (with_reducible first | exact HB.out | apply below_alloc | apply pw_below_drewN | apply below_drew1 | refine below_set ?_ GE205.out) | exact HB.out)) hb); have n4_ := Aside0.mk (hbox); have n5_ := Aside0.mk ((by rw [hg]; exact (below_size (by repeat (first | (with_reducible first | exact HB.out | apply below_alloc | apply pw_below_drewN | apply below_drew1 | refine below_set ?_ GE205.out) | exact HB.out))) : w.heap.size ≤ gb206)); have n6_ := Aside0.mk ((by rw [hg]; exact (below_size (by repeat (first | (with_reducible first | exact HB.out | apply below_alloc | apply pw_below_drewN | apply below_drew1 | refine below_set ?_ GE205.out) | exact HB.out))) : w.heap.size ≤ gb206)); have n7_ := Aside0.mk ((by rw [hg]; exact Nat.ne_of_lt (blk_lt (g := gb205) (o := .cells #[.int .i64 t202, .int .i64 t203] 25 (0, 0)) (by (with_reducible repeat (first | refine blk_drewN ?_ _ | refine blk_drew ?_ | refine blk_alloc ?_ _)); refine blk_put (cs := #[.int .i64 t202, .int .i64 0]) ?_ 1 _ rfl; (with_reducible repeat (first | refine blk_drewN ?_ _ | refine blk_drew ?_ | refine blk_alloc ?_ _)); refine blk_put (cs := #[.int .i64 0, .int .i64 0]) ?_ 0 _ rfl; (with_reducible repeat (first | refine blk_drewN ?_ _ | refine blk_drew ?_ | refine blk_alloc ?_ _)); exact BK205.out)) : gb205 ≠ gb206)); have n8_ := Aside0.mk ((by rw [hg]; exact Nat.ne_of_gt (blk_lt (g := gb205) (o := .cells #[.int .i64 t202, .int .i64 t203] 25 (0, 0)) (by (with_reducible repeat (first | refine blk_drewN ?_ _ | refine blk_drew ?_ | refine blk_alloc ?_ _)); refine blk_put (cs := #[.int .i64 t202, .int .i64 0]) ?_ 1 _ rfl; (with_reducible repeat (first | refine blk_drewN ?_ _ | refine blk_drew ?_ | refine blk_alloc ?_ _)); refine blk_put (cs := #[.int .i64 0, .int .i64 0]) ?_ 0 _ rfl; (with_reducible repeat (first | refine blk_drewN ?_ _ | refine blk_drew ?_ | refine blk_alloc ?_ _)); exact BK205.out)) : gb206 ≠ gb205)); clear HO197; clear HO201; clear BK205; clear HB; have HO197 := n0_; have HO201 := n1_; have BK205 := n2_; have HB := n3_; have BK206 := n4_; have GW206 := n5_; have GE206 := n6_; have NB205_206 := n7_; have NB206_205 := n8_; clear n0_ n1_ n2_ n3_ n4_ n5_ n6_ n7_ n8_; clear hb hbox hg; have hnb20 := NB206_205.out; have hnc20 := NB205_206.out; have hcz21_0 : w19.cell? ⟨gb206, 0, none⟩ = some (.string (⟨#[]⟩ : ByteArray)) := (blk_cell BK206.out 0).trans rfl; have hcz21_1 : w19.cell? ⟨gb206, 1, none⟩ = some (.int .i64 0) := (blk_cell BK206.out 1).trans rfl; have hcz21_2 : w19.cell? ⟨gb206, 2, none⟩ = some (.int .i64 0) := (blk_cell BK206.out 2).trans rfl; have hfz21_0 := blk_frozen BK206.out 0; have hfz21_1 := blk_frozen BK206.out 1; have hfz21_2 := blk_frozen BK206.out 2) | ((with_reducible refine gate_callee (f := 63) rfl ?_); refine goesL_ (some 36) rfl rfl Try.func63 (by kernel_rfl) rfl #[.slice Ao14 t195.length co14, .agg #[.string (⟨#[103, 97, 117, 103, 101]⟩ : ByteArray), .int .i64 30, .int .i64 100]] rfl (by (try simp only [List.map_toArray, List.map_cons, List.map_nil]); first | done | rfl | (simp only [List.length_drop, List.length_take]; rfl)) ?_; (with_reducible refine (calibrate_Value.calls k _ _ t195 (⟨#[103, 97, 117, 103, 101]⟩ : ByteArray) 30 100 t207 t208 t209 _ ?side1 ?side2 A4.out).mono ?_); (case side1 => refine (Kd.R_reads' (e := 68) (base := w.heap.size) (ok := fun k_ => True) (n := t195.length) (c := co14) ?_).2.2; exact (by (with_reducible repeat (first | apply Kd.R_alloc | apply Kd.R_drewN | apply Kd.R_drew)); exact (Kd.R_mono (Kd.R_far (p := ⟨gb206, 2, none⟩) (Kd.R_far (p := ⟨gb206, 1, none⟩) (Kd.R_far (p := ⟨gb206, 0, none⟩) (Kd.R_types HO197.out BK206.out (by decide)) (fun _ hk => hk.2) (.string (⟨#[103, 97, 117, 103, 101]⟩ : ByteArray))) (fun _ hk => hk.2) (.int .i64 30)) (fun _ hk => hk.2) (.int .i64 100)) (fun _ h_ => h_.1)))); (case side2 => exact (Kd.R_reads' HO197.out).2.1); rintro e w22 ⟨rfl, hb⟩; refine ⟨_, rfl, ?_⟩; have n0_ := Aside0.mk (Kd.R_below (by (with_reducible repeat (first | apply Kd.R_alloc | apply Kd.R_drewN | apply Kd.R_drew)); exact (Kd.R_mono (Kd.R_far (p := ⟨gb206, 2, none⟩) (Kd.R_far (p := ⟨gb206, 1, none⟩) (Kd.R_far (p := ⟨gb206, 0, none⟩) (Kd.R_types HO197.out BK206.out (by decide)) (fun _ hk => hk.2) (.string (⟨#[103, 97, 117, 103, 101]⟩ : ByteArray))) (fun _ hk => hk.2) (.int .i64 30)) (fun _ hk => hk.2) (.int .i64 100)) (fun _ h_ => h_.1))) hb); have n1_ := Aside0.mk (Kd.R_below (by (with_reducible repeat (first | apply Kd.R_alloc | apply Kd.R_drewN | apply Kd.R_drew)); exact (Kd.R_mono (Kd.R_far (p := ⟨gb206, 2, none⟩) (Kd.R_far (p := ⟨gb206, 1, none⟩) (Kd.R_far (p := ⟨gb206, 0, none⟩) (Kd.R_types HO201.out BK206.out (by decide)) (fun _ hk => hk.2) (.string (⟨#[103, 97, 117, 103, 101]⟩ : ByteArray))) (fun _ hk => hk.2) (.int .i64 30)) (fun _ hk => hk.2) (.int .i64 100)) (fun _ h_ => h_.1))) hb); have n2_ := Aside0.mk (blk_below (g := gb205) (o := .cells #[.int .i64 t202, .int .i64 t203] 25 (0, 0)) (by (with_reducible repeat (first | refine blk_drewN ?_ _ | refine blk_drew ?_ | refine blk_alloc ?_ _)); refine blk_far ?_ NB205_206.out _; (with_reducible repeat (first | refine blk_drewN ?_ _ | refine blk_drew ?_ | refine blk_alloc ?_ _)); refine blk_far ?_ NB205_206.out _; (with_reducible repeat (first | refine blk_drewN ?_ _ | refine blk_drew ?_ | refine blk_alloc ?_ _)); refine blk_far ?_ NB205_206.out _; (with_reducible repeat (first | refine blk_drewN ?_ _ | refine blk_drew ?_ | refine blk_alloc ?_ _)); exact BK205.out) hb); have n3_ := Aside0.mk (blk_below (g := gb206) (o := .cells #[.string (⟨#[103, 97, 117, 103, 101]⟩ : ByteArray), .int .i64 30, .int .i64 100] 51 (0, 0)) (by (with_reducible repeat (first | refine blk_drewN ?_ _ | refine blk_drew ?_ | refine blk_alloc ?_ _)); refine blk_put (cs := #[.string (⟨#[103, 97, 117, 103, 101]⟩ : ByteArray), .int .i64 30, .int .i64 0]) ?_ 2 _ rfl; (with_reducible repeat (first | refine blk_drewN ?_ _ | refine blk_drew ?_ | refine blk_alloc ?_ _)); refine blk_put (cs := #[.string (⟨#[103, 97, 117, 103, 101]⟩ : ByteArray), .int .i64 0, .int .i64 0]) ?_ 1 _ rfl; (with_reducible repeat (first | refine blk_drewN ?_ _ | refine blk_drew ?_ | refine blk_alloc ?_ _)); refine blk_put (cs := #[.string (⟨#[]⟩ : ByteArray), .int .i64 0, .int .i64 0]) ?_ 0 _ rfl; (with_reducible repeat (first | refine blk_drewN ?_ _ | refine blk_drew ?_ | refine blk_alloc ?_ _)); exact BK206.out) hb); have n4_ := Aside0.mk (below_step (by repeat (first | (with_reducible first | exact HB.out | apply below_alloc | apply pw_below_drewN | apply below_drew1 | refine below_set ?_ GE205.out | refine below_set ?_ GE206.out) | exact HB.out)) hb); clear HO197; clear HO201; clear BK205; clear BK206; clear HB; have HO197 := n0_; have HO201 := n1_; have BK205 := n2_; have BK206 := n3_; have HB := n4_; clear n0_ n1_ n2_ n3_ n4_; (try clear hb); (try clear hb2); (try clear hk); (try clear hi)) | ((with_reducible refine gate_dst (N := 7) rfl ?_); (try (refine gate_guard (by rfl) ?_; dsimp only)); refine box_event ?hg (N := 7) ?hd (cs := #[.int .i64 0, .int .i64 0]) (t := 25) ?hr ?_; (case hd => rfl); (case hg => rfl); (case hr => first | (go_simp; done) | (go_simp; rfl)); intro gb210 hg w23 hbox hb; have n0_ := Aside0.mk (Kd.R_below (by (with_reducible repeat (first | apply Kd.R_alloc | apply Kd.R_drewN | apply Kd.R_drew)); exact HO197.out) hb); have n1_ := Aside0.mk (Kd.R_below (by (with_reducible repeat (first | apply Kd.R_alloc | apply Kd.R_drewN | apply Kd.R_drew)); exact HO201.out) hb); have n2_ := Aside0.mk (blk_below (g := gb205) (o := .cells #[.int .i64 t202, .int .i64 t203] 25 (0, 0)) (by (with_reducible repeat (first | refine blk_drewN ?_ _ | refine blk_drew ?_ | refine blk_alloc ?_ _)); exact BK205.out) hb); have n3_ := Aside0.mk (blk_below (g := gb206) (o := .cells #[.string (⟨#[103, 97, 117, 103, 101]⟩ : ByteArray), .int .i64 30, .int .i64 100] 51 (0, 0)) (by (with_reducible repeat (first | refine blk_drewN ?_ _ | refine blk_drew ?_ | refine blk_alloc ?_ _)); exact BK206.out) hb); have n4_ := Aside0.mk (below_step (by repeat (first | (with_reducible first | exact HB.out | apply below_alloc | apply pw_below_drewN | apply below_drew1 | refine below_set ?_ GE205.out | refine below_set ?_ GE206.out) | exact HB.out)) hb); have n5_ := Aside0.mk (hbox); have n6_ := Aside0.mk ((by rw [hg]; exact (below_size (by repeat (first | (with_reducible first | exact HB.out | apply below_alloc | apply pw_below_drewN | apply below_drew1 | refine below_set ?_ GE205.out | refine below_set ?_ GE206.out) | exact HB.out))) : w.heap.size ≤ gb210)); have n7_ := Aside0.mk ((by rw [hg]; exact (below_size (by repeat (first | (with_reducible first | exact HB.out | apply below_alloc | apply pw_below_drewN | apply below_drew1 | refine below_set ?_ GE205.out | refine below_set ?_ GE206.out) | exact HB.out))) : w.heap.size ≤ gb210)); have n8_ := Aside0.mk ((by rw [hg]; exact Nat.ne_of_lt (blk_lt (g := gb205) (o := .cells #[.int .i64 t202, .int .i64 t203] 25 (0, 0)) (by (with_reducible repeat (first | refine blk_drewN ?_ _ | refine blk_drew ?_ | refine blk_alloc ?_ _)); exact BK205.out)) : gb205 ≠ gb210)); have n9_ := Aside0.mk ((by rw [hg]; exact Nat.ne_of_gt (blk_lt (g := gb205) (o := .cells #[.int .i64 t202, .int .i64 t203] 25 (0, 0)) (by (with_reducible repeat (first | refine blk_drewN ?_ _ | refine blk_drew ?_ | refine blk_alloc ?_ _)); exact BK205.out)) : gb210 ≠ gb205)); have n10_ := Aside0.mk ((by rw [hg]; exact Nat.ne_of_lt (blk_lt (g := gb206) (o := .cells #[.string (⟨#[103, 97, 117, 103, 101]⟩ : ByteArray), .int .i64 30, .int .i64 100] 51 (0, 0)) (by (with_reducible repeat (first | refine blk_drewN ?_ _ | refine blk_drew ?_ | refine blk_alloc ?_ _)); exact BK206.out)) : gb206 ≠ gb210)); have n11_ := Aside0.mk ((by rw [hg]; exact Nat.ne_of_gt (blk_lt (g := gb206) (o := .cells #[.string (⟨#[103, 97, 117, 103, 101]⟩ : ByteArray), .int .i64 30, .int .i64 100] 51 (0, 0)) (by (with_reducible repeat (first | refine blk_drewN ?_ _ | refine blk_drew ?_ | refine blk_alloc ?_ _)); exact BK206.out)) : gb210 ≠ gb206)); clear HO197; clear HO201; clear BK205; clear BK206; clear HB; have HO197 := n0_; have HO201 := n1_; have BK205 := n2_; have BK206 := n3_; have HB := n4_; have BK210 := n5_; have GW210 := n6_; have GE210 := n7_; have NB205_210 := n8_; have NB210_205 := n9_; have NB206_210 := n10_; have NB210_206 := n11_; clear n0_ n1_ n2_ n3_ n4_ n5_ n6_ n7_ n8_ n9_ n10_ n11_; clear hb hbox hg; have hnb24 := NB210_205.out; have hnc24 := NB205_210.out; have hnb25 := NB210_206.out; have hnc25 := NB206_210.out; have hcz26_0 : w23.cell? ⟨gb210, 0, none⟩ = some (.int .i64 0) := (blk_cell BK210.out 0).trans rfl; have hcz26_1 : w23.cell? ⟨gb210, 1, none⟩ = some (.int .i64 0) := (blk_cell BK210.out 1).trans rfl; have hfz26_0 := blk_frozen BK210.out 0; have hfz26_1 := blk_frozen BK210.out 1; have hcz27_0 : w23.cell? ⟨gb206, 0, none⟩ = some (.string (⟨#[103, 97, 117, 103, 101]⟩ : ByteArray)) := (blk_cell BK206.out 0).trans rfl; have hcz27_1 : w23.cell? ⟨gb206, 1, none⟩ = some (.int .i64 30) := (blk_cell BK206.out 1).trans rfl; have hcz27_2 : w23.cell? ⟨gb206, 2, none⟩ = some (.int .i64 100) := (blk_cell BK206.out 2).trans rfl; have hfz27_0 := blk_frozen BK206.out 0; have hfz27_1 := blk_frozen BK206.out 1; have hfz27_2 := blk_frozen BK206.out 2) | ((with_reducible refine gate_callee (f := 35) rfl ?_); refine goesL_ (some 43) rfl rfl Try.func35 (by kernel_rfl) rfl #[.slice Ao14 t195.length co14, .agg #[.string (⟨#[103, 97, 117, 103, 101]⟩ : ByteArray), .int .i64 30, .int .i64 100], .agg #[.int .i64 90, .int .i64 110]] rfl (by (try simp only [List.map_toArray, List.map_cons, List.map_nil]); first | done | rfl | (simp only [List.length_drop, List.length_take]; rfl)) ?_; (with_reducible refine (calibrate_Judge.calls k _ _ t195 (⟨#[103, 97, 117, 103, 101]⟩ : ByteArray) 30 100 90 110 t211 t212 _ ?side1 ?side2 A5.out).mono ?_); (case side1 => refine (Kd.R_reads' (e := 68) (base := w.heap.size) (ok := fun k_ => True) (n := t195.length) (c := co14) ?_).2.2; exact (by (with_reducible repeat (first | apply Kd.R_alloc | apply Kd.R_drewN | apply Kd.R_drew)); exact (Kd.R_mono (Kd.R_far (p := ⟨gb210, 1, none⟩) (Kd.R_far (p := ⟨gb210, 0, none⟩) (Kd.R_types HO197.out BK210.out (by decide)) (fun _ hk => hk.2) (.int .i64 t207)) (fun _ hk => hk.2) (.int .i64 t208)) (fun _ h_ => h_.1)))); (case side2 => exact (Kd.R_reads' HO197.out).2.1); rintro e w28 ⟨rfl, hb⟩; refine ⟨_, rfl, ?_⟩; have n0_ := Aside0.mk (Kd.R_below (by (with_reducible repeat (first | apply Kd.R_alloc | apply Kd.R_drewN | apply Kd.R_drew)); exact (Kd.R_mono (Kd.R_far (p := ⟨gb210, 1, none⟩) (Kd.R_far (p := ⟨gb210, 0, none⟩) (Kd.R_types HO197.out BK210.out (by decide)) (fun _ hk => hk.2) (.int .i64 t207)) (fun _ hk => hk.2) (.int .i64 t208)) (fun _ h_ => h_.1))) hb); have n1_ := Aside0.mk (Kd.R_below (by (with_reducible repeat (first | apply Kd.R_alloc | apply Kd.R_drewN | apply Kd.R_drew)); exact (Kd.R_mono (Kd.R_far (p := ⟨gb210, 1, none⟩) (Kd.R_far (p := ⟨gb210, 0, none⟩) (Kd.R_types HO201.out BK210.out (by decide)) (fun _ hk => hk.2) (.int .i64 t207)) (fun _ hk => hk.2) (.int .i64 t208)) (fun _ h_ => h_.1))) hb); have n2_ := Aside0.mk (blk_below (g := gb205) (o := .cells #[.int .i64 t202, .int .i64 t203] 25 (0, 0)) (by (with_reducible repeat (first | refine blk_drewN ?_ _ | refine blk_drew ?_ | refine blk_alloc ?_ _)); refine blk_far ?_ NB205_210.out _; (with_reducible repeat (first | refine blk_drewN ?_ _ | refine blk_drew ?_ | refine blk_alloc ?_ _)); refine blk_far ?_ NB205_210.out _; (with_reducible repeat (first | refine blk_drewN ?_ _ | refine blk_drew ?_ | refine blk_alloc ?_ _)); exact BK205.out) hb); have n3_ := Aside0.mk (blk_below (g := gb206) (o := .cells #[.string (⟨#[103, 97, 117, 103, 101]⟩ : ByteArray), .int .i64 30, .int .i64 100] 51 (0, 0)) (by (with_reducible repeat (first | refine blk_drewN ?_ _ | refine blk_drew ?_ | refine blk_alloc ?_ _)); refine blk_far ?_ NB206_210.out _; (with_reducible repeat (first | refine blk_drewN ?_ _ | refine blk_drew ?_ | refine blk_alloc ?_ _)); refine blk_far ?_ NB206_210.out _; (with_reducible repeat (first | refine blk_drewN ?_ _ | refine blk_drew ?_ | refine blk_alloc ?_ _)); exact BK206.out) hb); have n4_ := Aside0.mk (blk_below (g := gb210) (o := .cells #[.int .i64 t207, .int .i64 t208] 25 (0, 0)) (by (with_reducible repeat (first | refine blk_drewN ?_ _ | refine blk_drew ?_ | refine blk_alloc ?_ _)); refine blk_put (cs := #[.int .i64 t207, .int .i64 0]) ?_ 1 _ rfl; (with_reducible repeat (first | refine blk_drewN ?_ _ | refine blk_drew ?_ | refine blk_alloc ?_ _)); refine blk_put (cs := #[.int .i64 0, .int .i64 0]) ?_ 0 _ rfl; (with_reducible repeat (first | refine blk_drewN ?_ _ | refine blk_drew ?_ | refine blk_alloc ?_ _)); exact BK210.out) hb); have n5_ := Aside0.mk (below_step (by repeat (first | (with_reducible first | exact HB.out | apply below_alloc | apply pw_below_drewN | apply below_drew1 | refine below_set ?_ GE205.out | refine below_set ?_ GE206.out | refine below_set ?_ GE210.out) | exact HB.out)) hb); clear HO197; clear HO201; clear BK205; clear BK206; clear BK210; clear HB; have HO197 := n0_; have HO201 := n1_; have BK205 := n2_; have BK206 := n3_; have BK210 := n4_; have HB := n5_; clear n0_ n1_ n2_ n3_ n4_ n5_; (try clear hb); (try clear hb2); (try clear hk); (try clear hi); have hcz29_0 : w28.cell? ⟨gb206, 0, none⟩ = some (.string (⟨#[103, 97, 117, 103, 101]⟩ : ByteArray)) := (blk_cell BK206.out 0).trans rfl; have hcz29_1 : w28.cell? ⟨gb206, 1, none⟩ = some (.int .i64 30) := (blk_cell BK206.out 1).trans rfl; have hcz29_2 : w28.cell? ⟨gb206, 2, none⟩ = some (.int .i64 100) := (blk_cell BK206.out 2).trans rfl; have hfz29_0 := blk_frozen BK206.out 0; have hfz29_1 := blk_frozen BK206.out 1; have hfz29_2 := blk_frozen BK206.out 2) | ((with_reducible refine gate_callee (f := 35) rfl ?_); refine goesL_ (some 50) rfl rfl Try.func35 (by kernel_rfl) rfl #[.slice Ao14 t195.length co14, .agg #[.string (⟨#[103, 97, 117, 103, 101]⟩ : ByteArray), .int .i64 30, .int .i64 100], .agg #[.int .i64 100, .int .i64 110]] rfl (by (try simp only [List.map_toArray, List.map_cons, List.map_nil]); first | done | rfl | (simp only [List.length_drop, List.length_take]; rfl)) ?_; (with_reducible refine (calibrate_Judge.calls k _ _ t195 (⟨#[103, 97, 117, 103, 101]⟩ : ByteArray) 30 100 100 110 t213 t214 _ ?side1 ?side2 A6.out).mono ?_); (case side1 => repeat (first | exact (Kd.R_reads' HO197.out).2.2 | (with_reducible refine Kd.C_alloc ?_ _) | (with_reducible refine Kd.C_drewN ?_ _) | (with_reducible refine Kd.C_drew ?_))); (case side2 => exact (Kd.R_reads' HO197.out).2.1); rintro e w30 ⟨rfl, hb⟩; refine ⟨_, rfl, ?_⟩; have n0_ := Aside0.mk (Kd.R_below (by (with_reducible repeat (first | apply Kd.R_alloc | apply Kd.R_drewN | apply Kd.R_drew)); exact HO197.out) hb); have n1_ := Aside0.mk (Kd.R_below (by (with_reducible repeat (first | apply Kd.R_alloc | apply Kd.R_drewN | apply Kd.R_drew)); exact HO201.out) hb); have n2_ := Aside0.mk (blk_below (g := gb205) (o := .cells #[.int .i64 t202, .int .i64 t203] 25 (0, 0)) (by (with_reducible repeat (first | refine blk_drewN ?_ _ | refine blk_drew ?_ | refine blk_alloc ?_ _)); exact BK205.out) hb); have n3_ := Aside0.mk (blk_below (g := gb206) (o := .cells #[.string (⟨#[103, 97, 117, 103, 101]⟩ : ByteArray), .int .i64 30, .int .i64 100] 51 (0, 0)) (by (with_reducible repeat (first | refine blk_drewN ?_ _ | refine blk_drew ?_ | refine blk_alloc ?_ _)); exact BK206.out) hb); have n4_ := Aside0.mk (blk_below (g := gb210) (o := .cells #[.int .i64 t207, .int .i64 t208] 25 (0, 0)) (by (with_reducible repeat (first | refine blk_drewN ?_ _ | refine blk_drew ?_ | refine blk_alloc ?_ _)); exact BK210.out) hb); have n5_ := Aside0.mk (below_step (by repeat (first | (with_reducible first | exact HB.out | apply below_alloc | apply pw_below_drewN | apply below_drew1 | refine below_set ?_ GE205.out | refine below_set ?_ GE206.out | refine below_set ?_ GE210.out) | exact HB.out)) hb); clear HO197; clear HO201; clear BK205; clear BK206; clear BK210; clear HB; have HO197 := n0_; have HO201 := n1_; have BK205 := n2_; have BK206 := n3_; have BK210 := n4_; have HB := n5_; clear n0_ n1_ n2_ n3_ n4_ n5_; (try clear hb); (try clear hb2); (try clear hk); (try clear hi); have hcz31_0 : w30.cell? ⟨gb206, 0, none⟩ = some (.string (⟨#[103, 97, 117, 103, 101]⟩ : ByteArray)) := (blk_cell BK206.out 0).trans rfl; have hcz31_1 : w30.cell? ⟨gb206, 1, none⟩ = some (.int .i64 30) := (blk_cell BK206.out 1).trans rfl; have hcz31_2 : w30.cell? ⟨gb206, 2, none⟩ = some (.int .i64 100) := (blk_cell BK206.out 2).trans rfl; have hfz31_0 := blk_frozen BK206.out 0; have hfz31_1 := blk_frozen BK206.out 1; have hfz31_2 := blk_frozen BK206.out 2) | ((with_reducible refine gate_callee (f := 35) rfl ?_); refine goesL_ (some 57) rfl rfl Try.func35 (by kernel_rfl) rfl #[.slice Ao14 t195.length co14, .agg #[.string (⟨#[103, 97, 117, 103, 101]⟩ : ByteArray), .int .i64 30, .int .i64 100], .agg #[.int .i64 0, .int .i64 93]] rfl (by (try simp only [List.map_toArray, List.map_cons, List.map_nil]); first | done | rfl | (simp only [List.length_drop, List.length_take]; rfl)) ?_; (with_reducible refine (calibrate_Judge.calls k _ _ t195 (⟨#[103, 97, 117, 103, 101]⟩ : ByteArray) 30 100 0 93 t215 t216 _ ?side1 ?side2 A7.out).mono ?_); (case side1 => repeat (first | exact (Kd.R_reads' HO197.out).2.2 | (with_reducible refine Kd.C_alloc ?_ _) | (with_reducible refine Kd.C_drewN ?_ _) | (with_reducible refine Kd.C_drew ?_))); (case side2 => exact (Kd.R_reads' HO197.out).2.1); rintro e w32 ⟨rfl, hb⟩; refine ⟨_, rfl, ?_⟩; have n0_ := Aside0.mk (Kd.R_below (by (with_reducible repeat (first | apply Kd.R_alloc | apply Kd.R_drewN | apply Kd.R_drew)); exact HO197.out) hb); have n1_ := Aside0.mk (Kd.R_below (by (with_reducible repeat (first | apply Kd.R_alloc | apply Kd.R_drewN | apply Kd.R_drew)); exact HO201.out) hb); have n2_ := Aside0.mk (blk_below (g := gb205) (o := .cells #[.int .i64 t202, .int .i64 t203] 25 (0, 0)) (by (with_reducible repeat (first | refine blk_drewN ?_ _ | refine blk_drew ?_ | refine blk_alloc ?_ _)); exact BK205.out) hb); have n3_ := Aside0.mk (blk_below (g := gb206) (o := .cells #[.string (⟨#[103, 97, 117, 103, 101]⟩ : ByteArray), .int .i64 30, .int .i64 100] 51 (0, 0)) (by (with_reducible repeat (first | refine blk_drewN ?_ _ | refine blk_drew ?_ | refine blk_alloc ?_ _)); exact BK206.out) hb); have n4_ := Aside0.mk (blk_below (g := gb210) (o := .cells #[.int .i64 t207, .int .i64 t208] 25 (0, 0)) (by (with_reducible repeat (first | refine blk_drewN ?_ _ | refine blk_drew ?_ | refine blk_alloc ?_ _)); exact BK210.out) hb); have n5_ := Aside0.mk (below_step (by repeat (first | (with_reducible first | exact HB.out | apply below_alloc | apply pw_below_drewN | apply below_drew1 | refine below_set ?_ GE205.out | refine below_set ?_ GE206.out | refine below_set ?_ GE210.out) | exact HB.out)) hb); clear HO197; clear HO201; clear BK205; clear BK206; clear BK210; clear HB; have HO197 := n0_; have HO201 := n1_; have BK205 := n2_; have BK206 := n3_; have BK210 := n4_; have HB := n5_; clear n0_ n1_ n2_ n3_ n4_ n5_; (try clear hb); (try clear hb2); (try clear hk); (try clear hi)) | ((with_reducible refine gate_callee (f := 42) rfl ?_); refine goesL_ (some 62) rfl rfl Try.func42 (by kernel_rfl) rfl #[.slice Ao14 t195.length co14, .string (⟨#[103, 97, 117, 103, 101]⟩ : ByteArray), .int .i64 50] rfl (by (try simp only [List.map_toArray, List.map_cons, List.map_nil]); first | done | rfl | (simp only [List.length_drop, List.length_take]; rfl)) ?_; (with_reducible refine (calibrate_Valid.calls k _ _ t195 (⟨#[103, 97, 117, 103, 101]⟩ : ByteArray) 50 t217 t218 _ ?side1 ?side2 A8.out).mono ?_); (case side1 => repeat (first | exact (Kd.R_reads' HO197.out).2.2 | (with_reducible refine Kd.C_alloc ?_ _) | (with_reducible refine Kd.C_drewN ?_ _) | (with_reducible refine Kd.C_drew ?_))); (case side2 => exact (Kd.R_reads' HO197.out).2.1); rintro e w33 ⟨rfl, hb⟩; refine ⟨_, rfl, ?_⟩; have n0_ := Aside0.mk (Kd.R_below (by (with_reducible repeat (first | apply Kd.R_alloc | apply Kd.R_drewN | apply Kd.R_drew)); exact HO197.out) hb); have n1_ := Aside0.mk (Kd.R_below (by (with_reducible repeat (first | apply Kd.R_alloc | apply Kd.R_drewN | apply Kd.R_drew)); exact HO201.out) hb); have n2_ := Aside0.mk (blk_below (g := gb205) (o := .cells #[.int .i64 t202, .int .i64 t203] 25 (0, 0)) (by (with_reducible repeat (first | refine blk_drewN ?_ _ | refine blk_drew ?_ | refine blk_alloc ?_ _)); exact BK205.out) hb); have n3_ := Aside0.mk (blk_below (g := gb206) (o := .cells #[.string (⟨#[103, 97, 117, 103, 101]⟩ : ByteArray), .int .i64 30, .int .i64 100] 51 (0, 0)) (by (with_reducible repeat (first | refine blk_drewN ?_ _ | refine blk_drew ?_ | refine blk_alloc ?_ _)); exact BK206.out) hb); have n4_ := Aside0.mk (blk_below (g := gb210) (o := .cells #[.int .i64 t207, .int .i64 t208] 25 (0, 0)) (by (with_reducible repeat (first | refine blk_drewN ?_ _ | refine blk_drew ?_ | refine blk_alloc ?_ _)); exact BK210.out) hb); have n5_ := Aside0.mk (below_step (by repeat (first | (with_reducible first | exact HB.out | apply below_alloc | apply pw_below_drewN | apply below_drew1 | refine below_set ?_ GE205.out | refine below_set ?_ GE206.out | refine below_set ?_ GE210.out) | exact HB.out)) hb); clear HO197; clear HO201; clear BK205; clear BK206; clear BK210; clear HB; have HO197 := n0_; have HO201 := n1_; have BK205 := n2_; have BK206 := n3_; have BK210 := n4_; have HB := n5_; clear n0_ n1_ n2_ n3_ n4_ n5_; (try clear hb); (try clear hb2); (try clear hk); (try clear hi)) | ((with_reducible refine gate_callee (f := 39) rfl ?_); refine goesL_ (some 67) rfl rfl Try.func39 (by kernel_rfl) rfl #[.slice Ao14 t195.length co14, .int .i64 50] rfl (by (try simp only [List.map_toArray, List.map_cons, List.map_nil]); first | done | rfl | (simp only [List.length_drop, List.length_take]; rfl)) ?_; (with_reducible refine (calibrate_Due.calls k _ _ t195 50 t219 t220 _ ?side1 ?side2 A9.out).mono ?_); (case side1 => repeat (first | exact (Kd.R_reads' HO197.out).2.2 | (with_reducible refine Kd.C_alloc ?_ _) | (with_reducible refine Kd.C_drewN ?_ _) | (with_reducible refine Kd.C_drew ?_))); (case side2 => exact (Kd.R_reads' HO197.out).2.1); rintro e w34 ⟨v221, rfl, ho0, hb⟩; refine ⟨_, rfl, ?_⟩; have n0_ := Aside0.mk (Kd.R_below (by (with_reducible repeat (first | apply Kd.R_alloc | apply Kd.R_drewN | apply Kd.R_drew)); exact HO197.out) hb); have n1_ := Aside0.mk (Kd.R_below (by (with_reducible repeat (first | apply Kd.R_alloc | apply Kd.R_drewN | apply Kd.R_drew)); exact HO201.out) hb); have n2_ := Aside0.mk (Kd.R_lower ho0 (below_size (by repeat (first | (with_reducible first | exact HB.out | apply below_alloc | apply pw_below_drewN | apply below_drew1 | refine below_set ?_ GE205.out | refine below_set ?_ GE206.out | refine below_set ?_ GE210.out) | exact HB.out)))); have n3_ := Aside0.mk (blk_below (g := gb205) (o := .cells #[.int .i64 t202, .int .i64 t203] 25 (0, 0)) (by (with_reducible repeat (first | refine blk_drewN ?_ _ | refine blk_drew ?_ | refine blk_alloc ?_ _)); exact BK205.out) hb); have n4_ := Aside0.mk (blk_below (g := gb206) (o := .cells #[.string (⟨#[103, 97, 117, 103, 101]⟩ : ByteArray), .int .i64 30, .int .i64 100] 51 (0, 0)) (by (with_reducible repeat (first | refine blk_drewN ?_ _ | refine blk_drew ?_ | refine blk_alloc ?_ _)); exact BK206.out) hb); have n5_ := Aside0.mk (blk_below (g := gb210) (o := .cells #[.int .i64 t207, .int .i64 t208] 25 (0, 0)) (by (with_reducible repeat (first | refine blk_drewN ?_ _ | refine blk_drew ?_ | refine blk_alloc ?_ _)); exact BK210.out) hb); have n6_ := Aside0.mk (below_step (by repeat (first | (with_reducible first | exact HB.out | apply below_alloc | apply pw_below_drewN | apply below_drew1 | refine below_set ?_ GE205.out | refine below_set ?_ GE206.out | refine below_set ?_ GE210.out) | exact HB.out)) hb); clear HO197; clear HO201; clear BK205; clear BK206; clear BK210; clear HB; have HO197 := n0_; have HO201 := n1_; have HO222 := n2_; have BK205 := n3_; have BK206 := n4_; have BK210 := n5_; have HB := n6_; clear n0_ n1_ n2_ n3_ n4_ n5_ n6_; (try clear hb); (try clear hb2); (try clear hk); (try clear hi); (try clear ho0)) | ((with_reducible refine gate_callee (f := 85) rfl ?_); refine goesL_ (some 71) rfl rfl Try.func85 (by kernel_rfl) rfl #[.int .i64 9] rfl (by (try simp only [List.map_toArray, List.map_cons, List.map_nil]); first | done | rfl | (simp only [List.length_drop, List.length_take]; rfl)) ?_; (with_reducible refine (metrolablaw52_Three.calls 9 t223 _ A10.out).mono ?_); rintro e w35 ⟨v224, rfl, ho0, hb⟩; refine ⟨_, rfl, ?_⟩; have n0_ := Aside0.mk (Kd.R_elder' (by (with_reducible repeat (first | apply Kd.R_alloc | apply Kd.R_drewN | apply Kd.R_drew)); exact HO197.out) (Kd.R_base ho0) hb); have n1_ := Aside0.mk (Kd.R_below (by (with_reducible repeat (first | apply Kd.R_alloc | apply Kd.R_drewN | apply Kd.R_drew)); exact HO201.out) hb); have n2_ := Aside0.mk (Kd.R_below (by (with_reducible repeat (first | apply Kd.R_alloc | apply Kd.R_drewN | apply Kd.R_drew)); exact HO222.out) hb); have n3_ := Aside0.mk (Kd.R_lower (Kd.R_new' ho0 (Kd.R_lt (by (with_reducible repeat (first | apply Kd.R_alloc | apply Kd.R_drewN | apply Kd.R_drew)); exact HO197.out))) (below_size (by repeat (first | (with_reducible first | exact HB.out | apply below_alloc | apply pw_below_drewN | apply below_drew1 | refine below_set ?_ GE205.out | refine below_set ?_ GE206.out | refine below_set ?_ GE210.out) | exact HB.out)))); have n4_ := Aside0.mk (blk_below (g := gb205) (o := .cells #[.int .i64 t202, .int .i64 t203] 25 (0, 0)) (by (with_reducible repeat (first | refine blk_drewN ?_ _ | refine blk_drew ?_ | refine blk_alloc ?_ _)); exact BK205.out) hb); have n5_ := Aside0.mk (blk_below (g := gb206) (o := .cells #[.string (⟨#[103, 97, 117, 103, 101]⟩ : ByteArray), .int .i64 30, .int .i64 100] 51 (0, 0)) (by (with_reducible repeat (first | refine blk_drewN ?_ _ | refine blk_drew ?_ | refine blk_alloc ?_ _)); exact BK206.out) hb); have n6_ := Aside0.mk (blk_below (g := gb210) (o := .cells #[.int .i64 t207, .int .i64 t208] 25 (0, 0)) (by (with_reducible repeat (first | refine blk_drewN ?_ _ | refine blk_drew ?_ | refine blk_alloc ?_ _)); exact BK210.out) hb); have n7_ := Aside0.mk (below_step (by repeat (first | (with_reducible first | exact HB.out | apply below_alloc | apply pw_below_drewN | apply below_drew1 | refine below_set ?_ GE205.out | refine below_set ?_ GE206.out | refine below_set ?_ GE210.out) | exact HB.out)) hb); clear HO197; clear HO201; clear HO222; clear BK205; clear BK206; clear BK210; clear HB; have HO197 := n0_; have HO201 := n1_; have HO222 := n2_; have HO225 := n3_; have BK205 := n4_; have BK206 := n5_; have BK210 := n6_; have HB := n7_; clear n0_ n1_ n2_ n3_ n4_ n5_ n6_ n7_; (try clear hb); (try clear hb2); (try clear hk); (try clear hi); (try clear ho0); obtain ⟨Ao36, co36, eo36⟩ := Kd.R_slice HO225.out; subst eo36) | ((with_reducible refine gate_callee (f := 40) rfl ?_); refine goesL_ (some 72) rfl rfl Try.func40 (by kernel_rfl) rfl #[.slice Ao36 t223.length co36] rfl (by (try simp only [List.map_toArray, List.map_cons, List.map_nil]); first | done | rfl | (simp only [List.length_drop, List.length_take]; rfl)) ?_; (with_reducible refine (calibrate_Broken.calls k _ _ t223 t226 t227 _ ?side1 ?side2 A11.out).mono ?_); (case side1 => repeat (first | exact (Kd.R_reads' HO225.out).2.2 | (with_reducible refine Kd.C_alloc ?_ _) | (with_reducible refine Kd.C_drewN ?_ _) | (with_reducible refine Kd.C_drew ?_))); (case side2 => exact (Kd.R_reads' HO225.out).2.1); rintro e w37 ⟨v228, rfl, ho0, hb⟩; refine ⟨_, rfl, ?_⟩; have n0_ := Aside0.mk (Kd.R_below (by (with_reducible repeat (first | apply Kd.R_alloc | apply Kd.R_drewN | apply Kd.R_drew)); exact HO197.out) hb); have n1_ := Aside0.mk (Kd.R_elder' (by (with_reducible repeat (first | apply Kd.R_alloc | apply Kd.R_drewN | apply Kd.R_drew)); exact HO201.out) (Kd.R_base ho0) hb); have n2_ := Aside0.mk (Kd.R_below (by (with_reducible repeat (first | apply Kd.R_alloc | apply Kd.R_drewN | apply Kd.R_drew)); exact HO222.out) hb); have n3_ := Aside0.mk (Kd.R_below (by (with_reducible repeat (first | apply Kd.R_alloc | apply Kd.R_drewN | apply Kd.R_drew)); exact HO225.out) hb); have n4_ := Aside0.mk (Kd.R_lower (Kd.R_new' ho0 (Kd.R_lt (by (with_reducible repeat (first | apply Kd.R_alloc | apply Kd.R_drewN | apply Kd.R_drew)); exact HO201.out))) (below_size (by repeat (first | (with_reducible first | exact HB.out | apply below_alloc | apply pw_below_drewN | apply below_drew1 | refine below_set ?_ GE205.out | refine below_set ?_ GE206.out | refine below_set ?_ GE210.out) | exact HB.out)))); have n5_ := Aside0.mk (blk_below (g := gb205) (o := .cells #[.int .i64 t202, .int .i64 t203] 25 (0, 0)) (by (with_reducible repeat (first | refine blk_drewN ?_ _ | refine blk_drew ?_ | refine blk_alloc ?_ _)); exact BK205.out) hb); have n6_ := Aside0.mk (blk_below (g := gb206) (o := .cells #[.string (⟨#[103, 97, 117, 103, 101]⟩ : ByteArray), .int .i64 30, .int .i64 100] 51 (0, 0)) (by (with_reducible repeat (first | refine blk_drewN ?_ _ | refine blk_drew ?_ | refine blk_alloc ?_ _)); exact BK206.out) hb); have n7_ := Aside0.mk (blk_below (g := gb210) (o := .cells #[.int .i64 t207, .int .i64 t208] 25 (0, 0)) (by (with_reducible repeat (first | refine blk_drewN ?_ _ | refine blk_drew ?_ | refine blk_alloc ?_ _)); exact BK210.out) hb); have n8_ := Aside0.mk (below_step (by repeat (first | (with_reducible first | exact HB.out | apply below_alloc | apply pw_below_drewN | apply below_drew1 | refine below_set ?_ GE205.out | refine below_set ?_ GE206.out | refine below_set ?_ GE210.out) | exact HB.out)) hb); clear HO197; clear HO201; clear HO222; clear HO225; clear BK205; clear BK206; clear BK210; clear HB; have HO197 := n0_; have HO201 := n1_; have HO222 := n2_; have HO225 := n3_; have HO229 := n4_; have BK205 := n5_; have BK206 := n6_; have BK210 := n7_; have HB := n8_; clear n0_ n1_ n2_ n3_ n4_ n5_ n6_ n7_ n8_; (try clear hb); (try clear hb2); (try clear hk); (try clear hi); (try clear ho0)))
  (try simp only [Act.put, List.setIfInBounds_toArray, List.set_cons_zero, List.set_cons_succ])
  go_cut [108] (fun v108 wc => ∃ (kq : Nat) (x108_11 : Bool), v108 = .bool x108_11 ∧ Aside0 (metrolablaw52_awake.j0 kq t198 t219 t226 x108_11 t202 t203 t207 t208 = some r) ∧ Aside0 (kq ≤ k) ∧ Aside0 (Kd.R (Kd.int .i64) 3 wc w.heap.size (fun k_ => some k_ ≠ (v228 : Value).ownBlock) v200 t198) ∧ Aside0 (Kd.R Kd.string 9 wc w.heap.size (fun _ => True) v221 t219) ∧ Aside0 (Kd.R (Kd.int .i64) 3 wc w.heap.size (fun k_ => some k_ ≠ (v200 : Value).ownBlock) v228 t226) ∧ Aside0 (wc.heap[gb205]? = some (.cells #[.int .i64 t202, .int .i64 t203] 25 (0, 0))) ∧ Aside0 (wc.heap[gb206]? = some (.cells #[.string (⟨#[103, 97, 117, 103, 101]⟩ : ByteArray), .int .i64 30, .int .i64 100] 51 (0, 0))) ∧ Aside0 (wc.heap[gb210]? = some (.cells #[.int .i64 t207, .int .i64 t208] 25 (0, 0))) ∧ Aside0 (Below w.heap.size w wc))
  case first =>
    have H := HC12.out
    clear HC12
    by_cases c38 : (wrap64 ((wrap64 ((wrap64 ((wrap64 ((wrap64 ((wrap64 ((wrap64 (t199 + t204)) + t209)) + t212)) + t214)) + t216)) + t220)) + t227)) = 0
    · rw [if_pos c38] at H
      have c38b0 : ((wrap64 ((wrap64 ((wrap64 ((wrap64 ((wrap64 ((wrap64 ((wrap64 (t199 + t204)) + t209)) + t212)) + t214)) + t216)) + t220)) + t227)) == 0) = true := beq_iff_eq.mpr c38
      have c38b1 : ((wrap64 ((wrap64 ((wrap64 ((wrap64 ((wrap64 ((wrap64 ((wrap64 (t199 + t204)) + t209)) + t212)) + t214)) + t216)) + t220)) + t227)) != 0) = false := bne_eq_false_iff_eq.mpr c38
      clear c38
      (first | rw [c38b0] | (simp only [i64_w, i32_w]; rw [c38b0]) | (rw [c38b2]; try simp only [Bool.not_true, Bool.not_false]) | skip)
      by_cases c39 : t218 = 14
      · rw [if_pos c39] at H
        have c39b0 : (t218 == 14) = true := beq_iff_eq.mpr c39
        have c39b1 : (t218 != 14) = false := bne_eq_false_iff_eq.mpr c39
        clear c39
        by_cases c40 : t211 = 2
        · rw [if_pos c40] at H
          have c40b0 : (t211 == 2) = true := beq_iff_eq.mpr c40
          have c40b1 : (t211 != 2) = false := bne_eq_false_iff_eq.mpr c40
          clear c40
          by_cases c41 : t213 = 1
          · rw [if_pos c41] at H
            have c41b0 : (t213 == 1) = true := beq_iff_eq.mpr c41
            have c41b1 : (t213 != 1) = false := bne_eq_false_iff_eq.mpr c41
            clear c41
            by_cases c42 : t215 = 0
            · rw [if_pos c42] at H
              have c42b0 : (t215 == 0) = true := beq_iff_eq.mpr c42
              have c42b1 : (t215 != 0) = false := bne_eq_false_iff_eq.mpr c42
              clear c42
              have H' := Aside0.mk H
              clear H
              go_wp2
              go_meet
              case rel => exact ⟨_, (false), (by first | rfl | (simp; done) | (simp [*]; done)), H', ⟨by first | omega | exact Nat.le_refl _⟩, ⟨by (with_reducible repeat (first | apply Kd.R_alloc | apply Kd.R_drewN | apply Kd.R_drew)); exact Kd.R_mono HO201.out (fun _ hk => hk.2)⟩, ⟨by (with_reducible repeat (first | apply Kd.R_alloc | apply Kd.R_drewN | apply Kd.R_drew)); exact HO222.out⟩, ⟨by (with_reducible repeat (first | apply Kd.R_alloc | apply Kd.R_drewN | apply Kd.R_drew)); exact Kd.R_mono HO229.out (fun _ hk => hk.2)⟩, ⟨by (with_reducible repeat (first | refine blk_drewN ?_ _ | refine blk_drew ?_ | refine blk_alloc ?_ _)); exact BK205.out⟩, ⟨by (with_reducible repeat (first | refine blk_drewN ?_ _ | refine blk_drew ?_ | refine blk_alloc ?_ _)); exact BK206.out⟩, ⟨by (with_reducible repeat (first | refine blk_drewN ?_ _ | refine blk_drew ?_ | refine blk_alloc ?_ _)); exact BK210.out⟩, ⟨by repeat (first | (with_reducible first | exact HB.out | apply below_alloc | apply pw_below_drewN | apply below_drew1 | refine below_set ?_ GE205.out | refine below_set ?_ GE206.out | refine below_set ?_ GE210.out) | exact HB.out)⟩⟩
            · rw [if_neg c42] at H
              have c42b0 : (t215 == 0) = false := beq_eq_false_iff_ne.mpr c42
              have c42b1 : (t215 != 0) = true := bne_iff_ne.mpr c42
              have H' := Aside0.mk H
              clear H
              go_wp2
              go_meet
              case rel => exact ⟨_, (true), (by first | rfl | (simp; done) | (simp [*]; done)), H', ⟨by first | omega | exact Nat.le_refl _⟩, ⟨by (with_reducible repeat (first | apply Kd.R_alloc | apply Kd.R_drewN | apply Kd.R_drew)); exact Kd.R_mono HO201.out (fun _ hk => hk.2)⟩, ⟨by (with_reducible repeat (first | apply Kd.R_alloc | apply Kd.R_drewN | apply Kd.R_drew)); exact HO222.out⟩, ⟨by (with_reducible repeat (first | apply Kd.R_alloc | apply Kd.R_drewN | apply Kd.R_drew)); exact Kd.R_mono HO229.out (fun _ hk => hk.2)⟩, ⟨by (with_reducible repeat (first | refine blk_drewN ?_ _ | refine blk_drew ?_ | refine blk_alloc ?_ _)); exact BK205.out⟩, ⟨by (with_reducible repeat (first | refine blk_drewN ?_ _ | refine blk_drew ?_ | refine blk_alloc ?_ _)); exact BK206.out⟩, ⟨by (with_reducible repeat (first | refine blk_drewN ?_ _ | refine blk_drew ?_ | refine blk_alloc ?_ _)); exact BK210.out⟩, ⟨by repeat (first | (with_reducible first | exact HB.out | apply below_alloc | apply pw_below_drewN | apply below_drew1 | refine below_set ?_ GE205.out | refine below_set ?_ GE206.out | refine below_set ?_ GE210.out) | exact HB.out)⟩⟩
          · rw [if_neg c41] at H
            have c41b0 : (t213 == 1) = false := beq_eq_false_iff_ne.mpr c41
            have c41b1 : (t213 != 1) = true := bne_iff_ne.mpr c41
            have H' := Aside0.mk H
            clear H
            go_wp2
            go_meet
            case rel => exact ⟨_, (true), (by first | rfl | (simp; done) | (simp [*]; done)), H', ⟨by first | omega | exact Nat.le_refl _⟩, ⟨by (with_reducible repeat (first | apply Kd.R_alloc | apply Kd.R_drewN | apply Kd.R_drew)); exact Kd.R_mono HO201.out (fun _ hk => hk.2)⟩, ⟨by (with_reducible repeat (first | apply Kd.R_alloc | apply Kd.R_drewN | apply Kd.R_drew)); exact HO222.out⟩, ⟨by (with_reducible repeat (first | apply Kd.R_alloc | apply Kd.R_drewN | apply Kd.R_drew)); exact Kd.R_mono HO229.out (fun _ hk => hk.2)⟩, ⟨by (with_reducible repeat (first | refine blk_drewN ?_ _ | refine blk_drew ?_ | refine blk_alloc ?_ _)); exact BK205.out⟩, ⟨by (with_reducible repeat (first | refine blk_drewN ?_ _ | refine blk_drew ?_ | refine blk_alloc ?_ _)); exact BK206.out⟩, ⟨by (with_reducible repeat (first | refine blk_drewN ?_ _ | refine blk_drew ?_ | refine blk_alloc ?_ _)); exact BK210.out⟩, ⟨by repeat (first | (with_reducible first | exact HB.out | apply below_alloc | apply pw_below_drewN | apply below_drew1 | refine below_set ?_ GE205.out | refine below_set ?_ GE206.out | refine below_set ?_ GE210.out) | exact HB.out)⟩⟩
        · rw [if_neg c40] at H
          have c40b0 : (t211 == 2) = false := beq_eq_false_iff_ne.mpr c40
          have c40b1 : (t211 != 2) = true := bne_iff_ne.mpr c40
          have H' := Aside0.mk H
          clear H
          go_wp2
          go_meet
          case rel => exact ⟨_, (true), (by first | rfl | (simp; done) | (simp [*]; done)), H', ⟨by first | omega | exact Nat.le_refl _⟩, ⟨by (with_reducible repeat (first | apply Kd.R_alloc | apply Kd.R_drewN | apply Kd.R_drew)); exact Kd.R_mono HO201.out (fun _ hk => hk.2)⟩, ⟨by (with_reducible repeat (first | apply Kd.R_alloc | apply Kd.R_drewN | apply Kd.R_drew)); exact HO222.out⟩, ⟨by (with_reducible repeat (first | apply Kd.R_alloc | apply Kd.R_drewN | apply Kd.R_drew)); exact Kd.R_mono HO229.out (fun _ hk => hk.2)⟩, ⟨by (with_reducible repeat (first | refine blk_drewN ?_ _ | refine blk_drew ?_ | refine blk_alloc ?_ _)); exact BK205.out⟩, ⟨by (with_reducible repeat (first | refine blk_drewN ?_ _ | refine blk_drew ?_ | refine blk_alloc ?_ _)); exact BK206.out⟩, ⟨by (with_reducible repeat (first | refine blk_drewN ?_ _ | refine blk_drew ?_ | refine blk_alloc ?_ _)); exact BK210.out⟩, ⟨by repeat (first | (with_reducible first | exact HB.out | apply below_alloc | apply pw_below_drewN | apply below_drew1 | refine below_set ?_ GE205.out | refine below_set ?_ GE206.out | refine below_set ?_ GE210.out) | exact HB.out)⟩⟩
      · rw [if_neg c39] at H
        have c39b0 : (t218 == 14) = false := beq_eq_false_iff_ne.mpr c39
        have c39b1 : (t218 != 14) = true := bne_iff_ne.mpr c39
        have H' := Aside0.mk H
        clear H
        go_wp2
        go_meet
        case rel => exact ⟨_, (true), (by first | rfl | (simp; done) | (simp [*]; done)), H', ⟨by first | omega | exact Nat.le_refl _⟩, ⟨by (with_reducible repeat (first | apply Kd.R_alloc | apply Kd.R_drewN | apply Kd.R_drew)); exact Kd.R_mono HO201.out (fun _ hk => hk.2)⟩, ⟨by (with_reducible repeat (first | apply Kd.R_alloc | apply Kd.R_drewN | apply Kd.R_drew)); exact HO222.out⟩, ⟨by (with_reducible repeat (first | apply Kd.R_alloc | apply Kd.R_drewN | apply Kd.R_drew)); exact Kd.R_mono HO229.out (fun _ hk => hk.2)⟩, ⟨by (with_reducible repeat (first | refine blk_drewN ?_ _ | refine blk_drew ?_ | refine blk_alloc ?_ _)); exact BK205.out⟩, ⟨by (with_reducible repeat (first | refine blk_drewN ?_ _ | refine blk_drew ?_ | refine blk_alloc ?_ _)); exact BK206.out⟩, ⟨by (with_reducible repeat (first | refine blk_drewN ?_ _ | refine blk_drew ?_ | refine blk_alloc ?_ _)); exact BK210.out⟩, ⟨by repeat (first | (with_reducible first | exact HB.out | apply below_alloc | apply pw_below_drewN | apply below_drew1 | refine below_set ?_ GE205.out | refine below_set ?_ GE206.out | refine below_set ?_ GE210.out) | exact HB.out)⟩⟩
    · rw [if_neg c38] at H
      have c38b0 : ((wrap64 ((wrap64 ((wrap64 ((wrap64 ((wrap64 ((wrap64 ((wrap64 (t199 + t204)) + t209)) + t212)) + t214)) + t216)) + t220)) + t227)) == 0) = false := beq_eq_false_iff_ne.mpr c38
      have c38b1 : ((wrap64 ((wrap64 ((wrap64 ((wrap64 ((wrap64 ((wrap64 ((wrap64 (t199 + t204)) + t209)) + t212)) + t214)) + t216)) + t220)) + t227)) != 0) = true := bne_iff_ne.mpr c38
      (first | rw [c38b0] | (simp only [i64_w, i32_w]; rw [c38b0]) | (rw [c38b2]; try simp only [Bool.not_true, Bool.not_false]) | skip)
      have H' := Aside0.mk H
      clear H
      go_wp2
      go_meet
      case rel => exact ⟨_, (true), (by first | rfl | (simp; done) | (simp [*]; done)), H', ⟨by first | omega | exact Nat.le_refl _⟩, ⟨by (with_reducible repeat (first | apply Kd.R_alloc | apply Kd.R_drewN | apply Kd.R_drew)); exact Kd.R_mono HO201.out (fun _ hk => hk.2)⟩, ⟨by (with_reducible repeat (first | apply Kd.R_alloc | apply Kd.R_drewN | apply Kd.R_drew)); exact HO222.out⟩, ⟨by (with_reducible repeat (first | apply Kd.R_alloc | apply Kd.R_drewN | apply Kd.R_drew)); exact Kd.R_mono HO229.out (fun _ hk => hk.2)⟩, ⟨by (with_reducible repeat (first | refine blk_drewN ?_ _ | refine blk_drew ?_ | refine blk_alloc ?_ _)); exact BK205.out⟩, ⟨by (with_reducible repeat (first | refine blk_drewN ?_ _ | refine blk_drew ?_ | refine blk_alloc ?_ _)); exact BK206.out⟩, ⟨by (with_reducible repeat (first | refine blk_drewN ?_ _ | refine blk_drew ?_ | refine blk_alloc ?_ _)); exact BK210.out⟩, ⟨by repeat (first | (with_reducible first | exact HB.out | apply below_alloc | apply pw_below_drewN | apply below_drew1 | refine below_set ?_ GE205.out | refine below_set ?_ GE206.out | refine below_set ?_ GE210.out) | exact HB.out)⟩⟩
  case rest =>
    clear HC12
    try clear c2
    try clear p2
    try clear c3
    try clear c4
    try clear c6
    try clear p6
    try clear c8
    try clear c20
    try clear c24
    try clear c25
    try clear c34
    try clear c35
    try clear c38
    try clear c38b0
    try clear c38b1
    try clear c38b2
    try clear c39
    try clear c39b0
    try clear c39b1
    try clear c40
    try clear c40b0
    try clear c40b1
    try clear c41
    try clear c41b0
    try clear c41b1
    try clear c42
    try clear c42b0
    try clear c42b1
    try clear hcz18_0
    try clear hcz18_1
    try clear hcz21_0
    try clear hcz21_1
    try clear hcz21_2
    try clear hcz26_0
    try clear hcz26_1
    try clear hcz27_0
    try clear hcz27_1
    try clear hcz27_2
    try clear hcz29_0
    try clear hcz29_1
    try clear hcz29_2
    try clear hcz31_0
    try clear hcz31_1
    try clear hcz31_2
    try clear hfz18_0
    try clear hfz18_1
    try clear hfz21_0
    try clear hfz21_1
    try clear hfz21_2
    try clear hfz26_0
    try clear hfz26_1
    try clear hfz27_0
    try clear hfz27_1
    try clear hfz27_2
    try clear hfz29_0
    try clear hfz29_1
    try clear hfz29_2
    try clear hfz31_0
    try clear hfz31_1
    try clear hfz31_2
    obtain ⟨kq, x108_11, rfl, HA, HJ11, HO_2, HO_17, HO_19, BK205, BK206, BK210, HB⟩ := hcut
    cases kq with
    | zero => exact absurd HA.out (by simp [metrolablaw52_awake.j0])
    | succ kj11 =>
      have H := HA.out
      clear HA
      simp only [metrolablaw52_awake.j0] at H
      by_cases c43 : x108_11 = true
      · subst c43
        have H1 : (some false) = some r := by rw [if_pos rfl] at H; exact H
        clear H
        have H := H1
        clear H1
        obtain rfl := Option.some.inj H
        go_wp2
        go_ret
        exact ⟨by first | rfl | (simp [errW_none, errW_some] <;> rfl) | (simp [*, errW_none, errW_some] <;> rfl), by repeat (first | (with_reducible first | exact HB.out | apply below_alloc | apply pw_below_drewN | apply below_drew1 | refine below_set ?_ GE205.out | refine below_set ?_ GE206.out | refine below_set ?_ GE210.out) | exact HB.out)⟩
      · replace c43 := Bool.eq_false_iff.mpr c43
        subst c43
        have H1 : ((slices_Equal_int_int.f kj11 t198 (([2, 1, 0] : List Int))).bind fun t233 => (if t233 = true then (if (t202 == (-8) && (t203 == 6)) = true then (if (t207 == 94 && (t208 == 108)) = true then ((slices_Equal_string_string.f kj11 t219 (([(⟨#[98, 108, 111, 99, 107]⟩ : ByteArray), (⟨#[99, 97, 108, 105, 112, 101, 114]⟩ : ByteArray), (⟨#[103, 97, 117, 103, 101]⟩ : ByteArray)] : List ByteArray))).bind fun t237 => (if t237 = true then ((slices_Equal_int_int.f kj11 t226 (([1, 2] : List Int))).bind fun t241 => (some t241)) else (some false))) else (some false)) else (some false)) else (some false))) = some r := by rw [if_neg (show ¬ (false = true) by decide)] at H; exact H
        clear H
        have H := H1
        clear H1
        obtain ⟨y230, hy230⟩ : ∃ y_ : List Int, y_ = (([2, 1, 0] : List Int)) := ⟨_, rfl⟩
        replace H : ((slices_Equal_int_int.f kj11 t198 y230).bind fun t233 => (if t233 = true then (if (t202 == (-8) && (t203 == 6)) = true then (if (t207 == 94 && (t208 == 108)) = true then ((slices_Equal_string_string.f kj11 t219 (([(⟨#[98, 108, 111, 99, 107]⟩ : ByteArray), (⟨#[99, 97, 108, 105, 112, 101, 114]⟩ : ByteArray), (⟨#[103, 97, 117, 103, 101]⟩ : ByteArray)] : List ByteArray))).bind fun t237 => (if t237 = true then ((slices_Equal_int_int.f kj11 t226 (([1, 2] : List Int))).bind fun t241 => (some t241)) else (some false))) else (some false)) else (some false)) else (some false))) = some r := by first | (rw [hy230]; with_reducible exact H) | (have H2_ := (Option.bind_some _ _).symm.trans H; rw [hy230]; with_reducible exact H2_) | (have H2_ := (Option.bind_some _ _).symm.trans H; with_reducible exact H2_) | with_reducible exact H | (rw [hy230]; exact H) | exact H
        have Ny230 := Aside0.mk hy230
        clear hy230
        replace H := Option.bind_eq_some_iff.mp H
        obtain ⟨t233, A440, H⟩ := H
        replace H : (if t233 = true then (if (t202 == (-8) && (t203 == 6)) = true then (if (t207 == 94 && (t208 == 108)) = true then ((slices_Equal_string_string.f kj11 t219 (([(⟨#[98, 108, 111, 99, 107]⟩ : ByteArray), (⟨#[99, 97, 108, 105, 112, 101, 114]⟩ : ByteArray), (⟨#[103, 97, 117, 103, 101]⟩ : ByteArray)] : List ByteArray))).bind fun t237 => (if t237 = true then ((slices_Equal_int_int.f kj11 t226 (([1, 2] : List Int))).bind fun t241 => (some t241)) else (some false))) else (some false)) else (some false)) else (some false)) = some r := H
        have A44 := Aside0.mk A440
        clear A440
        by_cases c45 : t233 = true
        · subst c45
          have H1 : (if (t202 == (-8) && (t203 == 6)) = true then (if (t207 == 94 && (t208 == 108)) = true then ((slices_Equal_string_string.f kj11 t219 (([(⟨#[98, 108, 111, 99, 107]⟩ : ByteArray), (⟨#[99, 97, 108, 105, 112, 101, 114]⟩ : ByteArray), (⟨#[103, 97, 117, 103, 101]⟩ : ByteArray)] : List ByteArray))).bind fun t237 => (if t237 = true then ((slices_Equal_int_int.f kj11 t226 (([1, 2] : List Int))).bind fun t241 => (some t241)) else (some false))) else (some false)) else (some false)) = some r := by rw [if_pos rfl] at H; exact H
          clear H
          have H := H1
          clear H1
          by_cases c46 : (t202 == (-8) && (t203 == 6)) = true
          · rw [if_pos c46] at H
            have c46b0 : (t202 == (-8) && (t203 == 6)) = true := c46
            (try (have c46b1 : decide (t202 = (-8) && (t203 == 6)) = true := by simpa using c46))
            (try (have c46b2 : (t202 == (-8) && (t203 == 6)) = true := by simpa using c46))
            clear c46
            by_cases c47 : (t207 == 94 && (t208 == 108)) = true
            · rw [if_pos c47] at H
              have c47b0 : (t207 == 94 && (t208 == 108)) = true := c47
              (try (have c47b1 : decide (t207 = 94 && (t208 == 108)) = true := by simpa using c47))
              (try (have c47b2 : (t207 == 94 && (t208 == 108)) = true := by simpa using c47))
              clear c47
              obtain ⟨y234, hy234⟩ : ∃ y_ : List ByteArray, y_ = (([(⟨#[98, 108, 111, 99, 107]⟩ : ByteArray), (⟨#[99, 97, 108, 105, 112, 101, 114]⟩ : ByteArray), (⟨#[103, 97, 117, 103, 101]⟩ : ByteArray)] : List ByteArray)) := ⟨_, rfl⟩
              replace H : ((slices_Equal_string_string.f kj11 t219 y234).bind fun t237 => (if t237 = true then ((slices_Equal_int_int.f kj11 t226 (([1, 2] : List Int))).bind fun t241 => (some t241)) else (some false))) = some r := by first | (rw [hy234]; with_reducible exact H) | (have H2_ := (Option.bind_some _ _).symm.trans H; rw [hy234]; with_reducible exact H2_) | (have H2_ := (Option.bind_some _ _).symm.trans H; with_reducible exact H2_) | with_reducible exact H | (rw [hy234]; exact H) | exact H
              have Ny234 := Aside0.mk hy234
              clear hy234
              replace H := Option.bind_eq_some_iff.mp H
              obtain ⟨t237, A480, H⟩ := H
              replace H : (if t237 = true then ((slices_Equal_int_int.f kj11 t226 (([1, 2] : List Int))).bind fun t241 => (some t241)) else (some false)) = some r := H
              have A48 := Aside0.mk A480
              clear A480
              by_cases c49 : t237 = true
              · subst c49
                have H1 : ((slices_Equal_int_int.f kj11 t226 (([1, 2] : List Int))).bind fun t241 => (some t241)) = some r := by rw [if_pos rfl] at H; exact H
                clear H
                have H := H1
                clear H1
                obtain ⟨y238, hy238⟩ : ∃ y_ : List Int, y_ = (([1, 2] : List Int)) := ⟨_, rfl⟩
                replace H : ((slices_Equal_int_int.f kj11 t226 y238).bind fun t241 => (some t241)) = some r := by first | (rw [hy238]; with_reducible exact H) | (have H2_ := (Option.bind_some _ _).symm.trans H; rw [hy238]; with_reducible exact H2_) | (have H2_ := (Option.bind_some _ _).symm.trans H; with_reducible exact H2_) | with_reducible exact H | (rw [hy238]; exact H) | exact H
                have Ny238 := Aside0.mk hy238
                clear hy238
                replace H := Option.bind_eq_some_iff.mp H
                obtain ⟨t241, A500, H⟩ := H
                replace H : (some t241) = some r := H
                have A50 := Aside0.mk A500
                clear A500
                obtain rfl := Option.some.inj H
                go_wp2_with (first | ((with_reducible refine gate_dst (N := 110) rfl ?_); (try (refine gate_guard (by rfl) ?_; dsimp only)); refine Kd.R_lit (Kd.int .i64) _ 3 ?hg (N := 110) ?hd (xs := ([2, 1, 0] : List Int)) (inner := [.int .i64 2, .int .i64 1, .int .i64 0]) (ok := fun _ => True) (okp := fun _ => True) ?hr ?hp (fun _ hk => hk) trivial (Below.refl _ _) (Nat.le_refl _) (by simp) ?_; (case hd => rfl); (case hg => rfl); (case hr => first | (go_simp; done) | (go_simp; rfl)); (case hp => exact (Reps.one (show Kd.M (Kd.int .i64) _ _ _ 2 [.int .i64 2] from rfl) (Reps.one (show Kd.M (Kd.int .i64) _ _ _ 1 [.int .i64 1] from rfl) (Reps.one (show Kd.M (Kd.int .i64) _ _ _ 0 [.int .i64 0] from rfl) (Reps.none _ _))))); intro v231 w51 ho52 hb hg_ hnew_; clear hg_ hnew_; (first | rw [← Ny230.out] at ho52 | (simp only [Int.reduceToNat] at ho52; rw [← Ny230.out] at ho52)); have n0_ := Aside0.mk (Kd.R_elder' (by (with_reducible repeat (first | apply Kd.R_alloc | apply Kd.R_drewN | apply Kd.R_drew)); exact HO_2.out) (Kd.R_base ho52) hb); have n1_ := Aside0.mk (Kd.R_below (by (with_reducible repeat (first | apply Kd.R_alloc | apply Kd.R_drewN | apply Kd.R_drew)); exact HO_17.out) hb); have n2_ := Aside0.mk (Kd.R_elder' (by (with_reducible repeat (first | apply Kd.R_alloc | apply Kd.R_drewN | apply Kd.R_drew)); exact HO_19.out) (Kd.R_base ho52) hb); have n3_ := Aside0.mk (Kd.R_lower (Kd.R_new' (Kd.R_new' ho52 (Kd.R_lt (by (with_reducible repeat (first | apply Kd.R_alloc | apply Kd.R_drewN | apply Kd.R_drew)); exact HO_2.out))) (Kd.R_lt (by (with_reducible repeat (first | apply Kd.R_alloc | apply Kd.R_drewN | apply Kd.R_drew)); exact HO_19.out))) (below_size (by repeat (first | (with_reducible first | exact HB.out | apply below_alloc | apply pw_below_drewN | apply below_drew1 | refine below_set ?_ GE205.out | refine below_set ?_ GE206.out | refine below_set ?_ GE210.out) | exact HB.out)))); have n4_ := Aside0.mk (blk_below (g := gb205) (o := .cells #[.int .i64 t202, .int .i64 t203] 25 (0, 0)) (by (with_reducible repeat (first | refine blk_drewN ?_ _ | refine blk_drew ?_ | refine blk_alloc ?_ _)); exact BK205.out) hb); have n5_ := Aside0.mk (blk_below (g := gb206) (o := .cells #[.string (⟨#[103, 97, 117, 103, 101]⟩ : ByteArray), .int .i64 30, .int .i64 100] 51 (0, 0)) (by (with_reducible repeat (first | refine blk_drewN ?_ _ | refine blk_drew ?_ | refine blk_alloc ?_ _)); exact BK206.out) hb); have n6_ := Aside0.mk (blk_below (g := gb210) (o := .cells #[.int .i64 t207, .int .i64 t208] 25 (0, 0)) (by (with_reducible repeat (first | refine blk_drewN ?_ _ | refine blk_drew ?_ | refine blk_alloc ?_ _)); exact BK210.out) hb); have n7_ := Aside0.mk (below_step (by repeat (first | (with_reducible first | exact HB.out | apply below_alloc | apply pw_below_drewN | apply below_drew1 | refine below_set ?_ GE205.out | refine below_set ?_ GE206.out | refine below_set ?_ GE210.out) | exact HB.out)) hb); clear HO_2; clear HO_17; clear HO_19; clear BK205; clear BK206; clear BK210; clear HB; have HO_2 := n0_; have HO_17 := n1_; have HO_19 := n2_; have HO232 := n3_; have BK205 := n4_; have BK206 := n5_; have BK210 := n6_; have HB := n7_; clear n0_ n1_ n2_ n3_ n4_ n5_ n6_ n7_; clear hb ho52; obtain ⟨Ao53, co53, eo53⟩ := Kd.R_slice HO_2.out; subst eo53; obtain ⟨Ao54, co54, eo54⟩ := Kd.R_slice HO232.out; subst eo54) | ((with_reducible refine gate_callee (f := 57) rfl ?_); refine goesL_ (some 111) rfl rfl Try.func57 (by kernel_rfl) rfl #[.slice Ao53 t198.length co53, .slice Ao54 y230.length co54] rfl (by (try simp only [List.map_toArray, List.map_cons, List.map_nil]); first | done | rfl | (simp only [List.length_drop, List.length_take]; rfl)) ?_; (with_reducible refine (slices_Equal_int_int.calls kj11 _ _ t198 _ _ y230 true _ ?side1 ?side2 ?side3 ?side4 A44.out).mono ?_); (case side1 => repeat (first | exact (Kd.R_reads' HO_2.out).2.2 | (with_reducible refine Kd.C_alloc ?_ _) | (with_reducible refine Kd.C_drewN ?_ _) | (with_reducible refine Kd.C_drew ?_))); (case side2 => exact (Kd.R_reads' HO_2.out).2.1); (case side3 => repeat (first | exact (Kd.R_reads' HO232.out).2.2 | (with_reducible refine Kd.C_alloc ?_ _) | (with_reducible refine Kd.C_drewN ?_ _) | (with_reducible refine Kd.C_drew ?_))); (case side4 => exact (Kd.R_reads' HO232.out).2.1); rintro e w' ⟨rfl, ⟨nd, rfl⟩⟩; refine ⟨_, rfl, ?_⟩; have hnb55 := NB205_206.out; have hnc55 := NB206_205.out; have hnb56 := NB205_210.out; have hnc56 := NB210_205.out; have hcz57_0 : w51.cell? ⟨gb205, 0, none⟩ = some (.int .i64 t202) := (blk_cell BK205.out 0).trans rfl; have hcz57_1 : w51.cell? ⟨gb205, 1, none⟩ = some (.int .i64 t203) := (blk_cell BK205.out 1).trans rfl; have hfz57_0 := blk_frozen BK205.out 0; have hfz57_1 := blk_frozen BK205.out 1; have hnb58 := NB210_206.out; have hnc58 := NB206_210.out; have hcz59_0 : w51.cell? ⟨gb210, 0, none⟩ = some (.int .i64 t207) := (blk_cell BK210.out 0).trans rfl; have hcz59_1 : w51.cell? ⟨gb210, 1, none⟩ = some (.int .i64 t208) := (blk_cell BK210.out 1).trans rfl; have hfz59_0 := blk_frozen BK210.out 0; have hfz59_1 := blk_frozen BK210.out 1) | ((with_reducible refine gate_dst (N := 124) rfl ?_); (try (refine gate_guard (by rfl) ?_; dsimp only)); refine Kd.R_lit Kd.string _ 9 ?hg (N := 124) ?hd (xs := ([(⟨#[98, 108, 111, 99, 107]⟩ : ByteArray), (⟨#[99, 97, 108, 105, 112, 101, 114]⟩ : ByteArray), (⟨#[103, 97, 117, 103, 101]⟩ : ByteArray)] : List ByteArray)) (inner := [.string (⟨#[98, 108, 111, 99, 107]⟩ : ByteArray), .string (⟨#[99, 97, 108, 105, 112, 101, 114]⟩ : ByteArray), .string (⟨#[103, 97, 117, 103, 101]⟩ : ByteArray)]) (ok := fun _ => True) (okp := fun _ => True) ?hr ?hp (fun _ hk => hk) trivial (Below.refl _ _) (Nat.le_refl _) (by simp) ?_; (case hd => rfl); (case hg => rfl); (case hr => first | (go_simp; done) | (go_simp; rfl)); (case hp => exact (Reps.one (show Kd.M Kd.string _ _ _ (⟨#[98, 108, 111, 99, 107]⟩ : ByteArray) [.string (⟨#[98, 108, 111, 99, 107]⟩ : ByteArray)] from rfl) (Reps.one (show Kd.M Kd.string _ _ _ (⟨#[99, 97, 108, 105, 112, 101, 114]⟩ : ByteArray) [.string (⟨#[99, 97, 108, 105, 112, 101, 114]⟩ : ByteArray)] from rfl) (Reps.one (show Kd.M Kd.string _ _ _ (⟨#[103, 97, 117, 103, 101]⟩ : ByteArray) [.string (⟨#[103, 97, 117, 103, 101]⟩ : ByteArray)] from rfl) (Reps.none _ _))))); intro v235 w60 ho61 hb hg_ hnew_; clear hg_ hnew_; (first | rw [← Ny234.out] at ho61 | (simp only [Int.reduceToNat] at ho61; rw [← Ny234.out] at ho61)); have n0_ := Aside0.mk (Kd.R_below (by (with_reducible repeat (first | apply Kd.R_alloc | apply Kd.R_drewN | apply Kd.R_drew)); exact HO_2.out) hb); have n1_ := Aside0.mk (Kd.R_elder' (by (with_reducible repeat (first | apply Kd.R_alloc | apply Kd.R_drewN | apply Kd.R_drew)); exact HO_17.out) (Kd.R_base ho61) hb); have n2_ := Aside0.mk (Kd.R_below (by (with_reducible repeat (first | apply Kd.R_alloc | apply Kd.R_drewN | apply Kd.R_drew)); exact HO_19.out) hb); have n3_ := Aside0.mk (Kd.R_below (by (with_reducible repeat (first | apply Kd.R_alloc | apply Kd.R_drewN | apply Kd.R_drew)); exact HO232.out) hb); have n4_ := Aside0.mk (Kd.R_lower (Kd.R_new' ho61 (Kd.R_lt (by (with_reducible repeat (first | apply Kd.R_alloc | apply Kd.R_drewN | apply Kd.R_drew)); exact HO_17.out))) (below_size (by repeat (first | (with_reducible first | exact HB.out | apply below_alloc | apply pw_below_drewN | apply below_drew1 | refine below_set ?_ GE205.out | refine below_set ?_ GE206.out | refine below_set ?_ GE210.out) | exact HB.out)))); have n5_ := Aside0.mk (blk_below (g := gb205) (o := .cells #[.int .i64 t202, .int .i64 t203] 25 (0, 0)) (by (with_reducible repeat (first | refine blk_drewN ?_ _ | refine blk_drew ?_ | refine blk_alloc ?_ _)); exact BK205.out) hb); have n6_ := Aside0.mk (blk_below (g := gb206) (o := .cells #[.string (⟨#[103, 97, 117, 103, 101]⟩ : ByteArray), .int .i64 30, .int .i64 100] 51 (0, 0)) (by (with_reducible repeat (first | refine blk_drewN ?_ _ | refine blk_drew ?_ | refine blk_alloc ?_ _)); exact BK206.out) hb); have n7_ := Aside0.mk (blk_below (g := gb210) (o := .cells #[.int .i64 t207, .int .i64 t208] 25 (0, 0)) (by (with_reducible repeat (first | refine blk_drewN ?_ _ | refine blk_drew ?_ | refine blk_alloc ?_ _)); exact BK210.out) hb); have n8_ := Aside0.mk (below_step (by repeat (first | (with_reducible first | exact HB.out | apply below_alloc | apply pw_below_drewN | apply below_drew1 | refine below_set ?_ GE205.out | refine below_set ?_ GE206.out | refine below_set ?_ GE210.out) | exact HB.out)) hb); clear HO_2; clear HO_17; clear HO_19; clear HO232; clear BK205; clear BK206; clear BK210; clear HB; have HO_2 := n0_; have HO_17 := n1_; have HO_19 := n2_; have HO232 := n3_; have HO236 := n4_; have BK205 := n5_; have BK206 := n6_; have BK210 := n7_; have HB := n8_; clear n0_ n1_ n2_ n3_ n4_ n5_ n6_ n7_ n8_; clear hb ho61; obtain ⟨Ao62, co62, eo62⟩ := Kd.R_slice HO_17.out; subst eo62; obtain ⟨Ao63, co63, eo63⟩ := Kd.R_slice HO236.out; subst eo63) | (go_at_call 60; (with_reducible refine (slices_Equal_string_string.calls kj11 _ _ t219 _ _ y234 true _ ?side1 ?side2 ?side3 ?side4 A48.out).mono ?_); (case side1 => repeat (first | exact (Kd.R_reads' HO_17.out).2.2 | (with_reducible refine Kd.C_alloc ?_ _) | (with_reducible refine Kd.C_drewN ?_ _) | (with_reducible refine Kd.C_drew ?_))); (case side2 => exact (Kd.R_reads' HO_17.out).2.1); (case side3 => repeat (first | exact (Kd.R_reads' HO236.out).2.2 | (with_reducible refine Kd.C_alloc ?_ _) | (with_reducible refine Kd.C_drewN ?_ _) | (with_reducible refine Kd.C_drew ?_))); (case side4 => exact (Kd.R_reads' HO236.out).2.1); rintro e w' ⟨rfl, ⟨nd, rfl⟩⟩) | ((with_reducible refine gate_dst (N := 129) rfl ?_); (try (refine gate_guard (by rfl) ?_; dsimp only)); refine Kd.R_lit (Kd.int .i64) _ 3 ?hg (N := 129) ?hd (xs := ([1, 2] : List Int)) (inner := [.int .i64 1, .int .i64 2]) (ok := fun _ => True) (okp := fun _ => True) ?hr ?hp (fun _ hk => hk) trivial (Below.refl _ _) (Nat.le_refl _) (by simp) ?_; (case hd => rfl); (case hg => rfl); (case hr => first | (go_simp; done) | (go_simp; rfl)); (case hp => exact (Reps.one (show Kd.M (Kd.int .i64) _ _ _ 1 [.int .i64 1] from rfl) (Reps.one (show Kd.M (Kd.int .i64) _ _ _ 2 [.int .i64 2] from rfl) (Reps.none _ _)))); intro v239 w64 ho65 hb hg_ hnew_; clear hg_ hnew_; (first | rw [← Ny238.out] at ho65 | (simp only [Int.reduceToNat] at ho65; rw [← Ny238.out] at ho65)); have n0_ := Aside0.mk (Kd.R_elder' (by (with_reducible repeat (first | apply Kd.R_alloc | apply Kd.R_drewN | apply Kd.R_drew)); exact HO_2.out) (Kd.R_base ho65) hb); have n1_ := Aside0.mk (Kd.R_below (by (with_reducible repeat (first | apply Kd.R_alloc | apply Kd.R_drewN | apply Kd.R_drew)); exact HO_17.out) hb); have n2_ := Aside0.mk (Kd.R_elder' (by (with_reducible repeat (first | apply Kd.R_alloc | apply Kd.R_drewN | apply Kd.R_drew)); exact HO_19.out) (Kd.R_base ho65) hb); have n3_ := Aside0.mk (Kd.R_elder' (by (with_reducible repeat (first | apply Kd.R_alloc | apply Kd.R_drewN | apply Kd.R_drew)); exact HO232.out) (Kd.R_base ho65) hb); have n4_ := Aside0.mk (Kd.R_below (by (with_reducible repeat (first | apply Kd.R_alloc | apply Kd.R_drewN | apply Kd.R_drew)); exact HO236.out) hb); have n5_ := Aside0.mk (Kd.R_lower (Kd.R_new' (Kd.R_new' (Kd.R_new' ho65 (Kd.R_lt (by (with_reducible repeat (first | apply Kd.R_alloc | apply Kd.R_drewN | apply Kd.R_drew)); exact HO_2.out))) (Kd.R_lt (by (with_reducible repeat (first | apply Kd.R_alloc | apply Kd.R_drewN | apply Kd.R_drew)); exact HO_19.out))) (Kd.R_lt (by (with_reducible repeat (first | apply Kd.R_alloc | apply Kd.R_drewN | apply Kd.R_drew)); exact HO232.out))) (below_size (by repeat (first | (with_reducible first | exact HB.out | apply below_alloc | apply pw_below_drewN | apply below_drew1 | refine below_set ?_ GE205.out | refine below_set ?_ GE206.out | refine below_set ?_ GE210.out) | exact HB.out)))); have n6_ := Aside0.mk (blk_below (g := gb205) (o := .cells #[.int .i64 t202, .int .i64 t203] 25 (0, 0)) (by (with_reducible repeat (first | refine blk_drewN ?_ _ | refine blk_drew ?_ | refine blk_alloc ?_ _)); exact BK205.out) hb); have n7_ := Aside0.mk (blk_below (g := gb206) (o := .cells #[.string (⟨#[103, 97, 117, 103, 101]⟩ : ByteArray), .int .i64 30, .int .i64 100] 51 (0, 0)) (by (with_reducible repeat (first | refine blk_drewN ?_ _ | refine blk_drew ?_ | refine blk_alloc ?_ _)); exact BK206.out) hb); have n8_ := Aside0.mk (blk_below (g := gb210) (o := .cells #[.int .i64 t207, .int .i64 t208] 25 (0, 0)) (by (with_reducible repeat (first | refine blk_drewN ?_ _ | refine blk_drew ?_ | refine blk_alloc ?_ _)); exact BK210.out) hb); have n9_ := Aside0.mk (below_step (by repeat (first | (with_reducible first | exact HB.out | apply below_alloc | apply pw_below_drewN | apply below_drew1 | refine below_set ?_ GE205.out | refine below_set ?_ GE206.out | refine below_set ?_ GE210.out) | exact HB.out)) hb); clear HO_2; clear HO_17; clear HO_19; clear HO232; clear HO236; clear BK205; clear BK206; clear BK210; clear HB; have HO_2 := n0_; have HO_17 := n1_; have HO_19 := n2_; have HO232 := n3_; have HO236 := n4_; have HO240 := n5_; have BK205 := n6_; have BK206 := n7_; have BK210 := n8_; have HB := n9_; clear n0_ n1_ n2_ n3_ n4_ n5_ n6_ n7_ n8_ n9_; clear hb ho65; obtain ⟨Ao66, co66, eo66⟩ := Kd.R_slice HO_19.out; subst eo66; obtain ⟨Ao67, co67, eo67⟩ := Kd.R_slice HO240.out; subst eo67) | (go_at_call 57; (with_reducible refine (slices_Equal_int_int.calls kj11 _ _ t226 _ _ y238 t241 _ ?side1 ?side2 ?side3 ?side4 A50.out).mono ?_); (case side1 => repeat (first | exact (Kd.R_reads' HO_19.out).2.2 | (with_reducible refine Kd.C_alloc ?_ _) | (with_reducible refine Kd.C_drewN ?_ _) | (with_reducible refine Kd.C_drew ?_))); (case side2 => exact (Kd.R_reads' HO_19.out).2.1); (case side3 => repeat (first | exact (Kd.R_reads' HO240.out).2.2 | (with_reducible refine Kd.C_alloc ?_ _) | (with_reducible refine Kd.C_drewN ?_ _) | (with_reducible refine Kd.C_drew ?_))); (case side4 => exact (Kd.R_reads' HO240.out).2.1); rintro e w' ⟨rfl, ⟨nd, rfl⟩⟩))
                go_ret
                exact ⟨by first | rfl | (simp [errW_none, errW_some] <;> rfl) | (simp [*, errW_none, errW_some] <;> rfl), by repeat (first | (with_reducible first | exact HB.out | apply below_alloc | apply pw_below_drewN | apply below_drew1 | refine below_set ?_ GE205.out | refine below_set ?_ GE206.out | refine below_set ?_ GE210.out) | exact HB.out)⟩
              · replace c49 := Bool.eq_false_iff.mpr c49
                subst c49
                have H1 : (some false) = some r := by rw [if_neg (show ¬ (false = true) by decide)] at H; exact H
                clear H
                have H := H1
                clear H1
                obtain rfl := Option.some.inj H
                go_wp2_with (first | ((with_reducible refine gate_dst (N := 110) rfl ?_); (try (refine gate_guard (by rfl) ?_; dsimp only)); refine Kd.R_lit (Kd.int .i64) _ 3 ?hg (N := 110) ?hd (xs := ([2, 1, 0] : List Int)) (inner := [.int .i64 2, .int .i64 1, .int .i64 0]) (ok := fun _ => True) (okp := fun _ => True) ?hr ?hp (fun _ hk => hk) trivial (Below.refl _ _) (Nat.le_refl _) (by simp) ?_; (case hd => rfl); (case hg => rfl); (case hr => first | (go_simp; done) | (go_simp; rfl)); (case hp => exact (Reps.one (show Kd.M (Kd.int .i64) _ _ _ 2 [.int .i64 2] from rfl) (Reps.one (show Kd.M (Kd.int .i64) _ _ _ 1 [.int .i64 1] from rfl) (Reps.one (show Kd.M (Kd.int .i64) _ _ _ 0 [.int .i64 0] from rfl) (Reps.none _ _))))); intro v231 w68 ho69 hb hg_ hnew_; clear hg_ hnew_; (first | rw [← Ny230.out] at ho69 | (simp only [Int.reduceToNat] at ho69; rw [← Ny230.out] at ho69)); have n0_ := Aside0.mk (Kd.R_elder' (by (with_reducible repeat (first | apply Kd.R_alloc | apply Kd.R_drewN | apply Kd.R_drew)); exact HO_2.out) (Kd.R_base ho69) hb); have n1_ := Aside0.mk (Kd.R_below (by (with_reducible repeat (first | apply Kd.R_alloc | apply Kd.R_drewN | apply Kd.R_drew)); exact HO_17.out) hb); have n2_ := Aside0.mk (Kd.R_elder' (by (with_reducible repeat (first | apply Kd.R_alloc | apply Kd.R_drewN | apply Kd.R_drew)); exact HO_19.out) (Kd.R_base ho69) hb); have n3_ := Aside0.mk (Kd.R_lower (Kd.R_new' (Kd.R_new' ho69 (Kd.R_lt (by (with_reducible repeat (first | apply Kd.R_alloc | apply Kd.R_drewN | apply Kd.R_drew)); exact HO_2.out))) (Kd.R_lt (by (with_reducible repeat (first | apply Kd.R_alloc | apply Kd.R_drewN | apply Kd.R_drew)); exact HO_19.out))) (below_size (by repeat (first | (with_reducible first | exact HB.out | apply below_alloc | apply pw_below_drewN | apply below_drew1 | refine below_set ?_ GE205.out | refine below_set ?_ GE206.out | refine below_set ?_ GE210.out) | exact HB.out)))); have n4_ := Aside0.mk (blk_below (g := gb205) (o := .cells #[.int .i64 t202, .int .i64 t203] 25 (0, 0)) (by (with_reducible repeat (first | refine blk_drewN ?_ _ | refine blk_drew ?_ | refine blk_alloc ?_ _)); exact BK205.out) hb); have n5_ := Aside0.mk (blk_below (g := gb206) (o := .cells #[.string (⟨#[103, 97, 117, 103, 101]⟩ : ByteArray), .int .i64 30, .int .i64 100] 51 (0, 0)) (by (with_reducible repeat (first | refine blk_drewN ?_ _ | refine blk_drew ?_ | refine blk_alloc ?_ _)); exact BK206.out) hb); have n6_ := Aside0.mk (blk_below (g := gb210) (o := .cells #[.int .i64 t207, .int .i64 t208] 25 (0, 0)) (by (with_reducible repeat (first | refine blk_drewN ?_ _ | refine blk_drew ?_ | refine blk_alloc ?_ _)); exact BK210.out) hb); have n7_ := Aside0.mk (below_step (by repeat (first | (with_reducible first | exact HB.out | apply below_alloc | apply pw_below_drewN | apply below_drew1 | refine below_set ?_ GE205.out | refine below_set ?_ GE206.out | refine below_set ?_ GE210.out) | exact HB.out)) hb); clear HO_2; clear HO_17; clear HO_19; clear BK205; clear BK206; clear BK210; clear HB; have HO_2 := n0_; have HO_17 := n1_; have HO_19 := n2_; have HO232 := n3_; have BK205 := n4_; have BK206 := n5_; have BK210 := n6_; have HB := n7_; clear n0_ n1_ n2_ n3_ n4_ n5_ n6_ n7_; clear hb ho69; obtain ⟨Ao70, co70, eo70⟩ := Kd.R_slice HO_2.out; subst eo70; obtain ⟨Ao71, co71, eo71⟩ := Kd.R_slice HO232.out; subst eo71) | ((with_reducible refine gate_callee (f := 57) rfl ?_); refine goesL_ (some 111) rfl rfl Try.func57 (by kernel_rfl) rfl #[.slice Ao70 t198.length co70, .slice Ao71 y230.length co71] rfl (by (try simp only [List.map_toArray, List.map_cons, List.map_nil]); first | done | rfl | (simp only [List.length_drop, List.length_take]; rfl)) ?_; (with_reducible refine (slices_Equal_int_int.calls kj11 _ _ t198 _ _ y230 true _ ?side1 ?side2 ?side3 ?side4 A44.out).mono ?_); (case side1 => repeat (first | exact (Kd.R_reads' HO_2.out).2.2 | (with_reducible refine Kd.C_alloc ?_ _) | (with_reducible refine Kd.C_drewN ?_ _) | (with_reducible refine Kd.C_drew ?_))); (case side2 => exact (Kd.R_reads' HO_2.out).2.1); (case side3 => repeat (first | exact (Kd.R_reads' HO232.out).2.2 | (with_reducible refine Kd.C_alloc ?_ _) | (with_reducible refine Kd.C_drewN ?_ _) | (with_reducible refine Kd.C_drew ?_))); (case side4 => exact (Kd.R_reads' HO232.out).2.1); rintro e w' ⟨rfl, ⟨nd, rfl⟩⟩; refine ⟨_, rfl, ?_⟩; have hnb72 := NB205_206.out; have hnc72 := NB206_205.out; have hnb73 := NB205_210.out; have hnc73 := NB210_205.out; have hcz74_0 : w68.cell? ⟨gb205, 0, none⟩ = some (.int .i64 t202) := (blk_cell BK205.out 0).trans rfl; have hcz74_1 : w68.cell? ⟨gb205, 1, none⟩ = some (.int .i64 t203) := (blk_cell BK205.out 1).trans rfl; have hfz74_0 := blk_frozen BK205.out 0; have hfz74_1 := blk_frozen BK205.out 1; have hnb75 := NB210_206.out; have hnc75 := NB206_210.out; have hcz76_0 : w68.cell? ⟨gb210, 0, none⟩ = some (.int .i64 t207) := (blk_cell BK210.out 0).trans rfl; have hcz76_1 : w68.cell? ⟨gb210, 1, none⟩ = some (.int .i64 t208) := (blk_cell BK210.out 1).trans rfl; have hfz76_0 := blk_frozen BK210.out 0; have hfz76_1 := blk_frozen BK210.out 1) | ((with_reducible refine gate_dst (N := 124) rfl ?_); (try (refine gate_guard (by rfl) ?_; dsimp only)); refine Kd.R_lit Kd.string _ 9 ?hg (N := 124) ?hd (xs := ([(⟨#[98, 108, 111, 99, 107]⟩ : ByteArray), (⟨#[99, 97, 108, 105, 112, 101, 114]⟩ : ByteArray), (⟨#[103, 97, 117, 103, 101]⟩ : ByteArray)] : List ByteArray)) (inner := [.string (⟨#[98, 108, 111, 99, 107]⟩ : ByteArray), .string (⟨#[99, 97, 108, 105, 112, 101, 114]⟩ : ByteArray), .string (⟨#[103, 97, 117, 103, 101]⟩ : ByteArray)]) (ok := fun _ => True) (okp := fun _ => True) ?hr ?hp (fun _ hk => hk) trivial (Below.refl _ _) (Nat.le_refl _) (by simp) ?_; (case hd => rfl); (case hg => rfl); (case hr => first | (go_simp; done) | (go_simp; rfl)); (case hp => exact (Reps.one (show Kd.M Kd.string _ _ _ (⟨#[98, 108, 111, 99, 107]⟩ : ByteArray) [.string (⟨#[98, 108, 111, 99, 107]⟩ : ByteArray)] from rfl) (Reps.one (show Kd.M Kd.string _ _ _ (⟨#[99, 97, 108, 105, 112, 101, 114]⟩ : ByteArray) [.string (⟨#[99, 97, 108, 105, 112, 101, 114]⟩ : ByteArray)] from rfl) (Reps.one (show Kd.M Kd.string _ _ _ (⟨#[103, 97, 117, 103, 101]⟩ : ByteArray) [.string (⟨#[103, 97, 117, 103, 101]⟩ : ByteArray)] from rfl) (Reps.none _ _))))); intro v235 w77 ho78 hb hg_ hnew_; clear hg_ hnew_; (first | rw [← Ny234.out] at ho78 | (simp only [Int.reduceToNat] at ho78; rw [← Ny234.out] at ho78)); have n0_ := Aside0.mk (Kd.R_below (by (with_reducible repeat (first | apply Kd.R_alloc | apply Kd.R_drewN | apply Kd.R_drew)); exact HO_2.out) hb); have n1_ := Aside0.mk (Kd.R_elder' (by (with_reducible repeat (first | apply Kd.R_alloc | apply Kd.R_drewN | apply Kd.R_drew)); exact HO_17.out) (Kd.R_base ho78) hb); have n2_ := Aside0.mk (Kd.R_below (by (with_reducible repeat (first | apply Kd.R_alloc | apply Kd.R_drewN | apply Kd.R_drew)); exact HO_19.out) hb); have n3_ := Aside0.mk (Kd.R_below (by (with_reducible repeat (first | apply Kd.R_alloc | apply Kd.R_drewN | apply Kd.R_drew)); exact HO232.out) hb); have n4_ := Aside0.mk (Kd.R_lower (Kd.R_new' ho78 (Kd.R_lt (by (with_reducible repeat (first | apply Kd.R_alloc | apply Kd.R_drewN | apply Kd.R_drew)); exact HO_17.out))) (below_size (by repeat (first | (with_reducible first | exact HB.out | apply below_alloc | apply pw_below_drewN | apply below_drew1 | refine below_set ?_ GE205.out | refine below_set ?_ GE206.out | refine below_set ?_ GE210.out) | exact HB.out)))); have n5_ := Aside0.mk (blk_below (g := gb205) (o := .cells #[.int .i64 t202, .int .i64 t203] 25 (0, 0)) (by (with_reducible repeat (first | refine blk_drewN ?_ _ | refine blk_drew ?_ | refine blk_alloc ?_ _)); exact BK205.out) hb); have n6_ := Aside0.mk (blk_below (g := gb206) (o := .cells #[.string (⟨#[103, 97, 117, 103, 101]⟩ : ByteArray), .int .i64 30, .int .i64 100] 51 (0, 0)) (by (with_reducible repeat (first | refine blk_drewN ?_ _ | refine blk_drew ?_ | refine blk_alloc ?_ _)); exact BK206.out) hb); have n7_ := Aside0.mk (blk_below (g := gb210) (o := .cells #[.int .i64 t207, .int .i64 t208] 25 (0, 0)) (by (with_reducible repeat (first | refine blk_drewN ?_ _ | refine blk_drew ?_ | refine blk_alloc ?_ _)); exact BK210.out) hb); have n8_ := Aside0.mk (below_step (by repeat (first | (with_reducible first | exact HB.out | apply below_alloc | apply pw_below_drewN | apply below_drew1 | refine below_set ?_ GE205.out | refine below_set ?_ GE206.out | refine below_set ?_ GE210.out) | exact HB.out)) hb); clear HO_2; clear HO_17; clear HO_19; clear HO232; clear BK205; clear BK206; clear BK210; clear HB; have HO_2 := n0_; have HO_17 := n1_; have HO_19 := n2_; have HO232 := n3_; have HO236 := n4_; have BK205 := n5_; have BK206 := n6_; have BK210 := n7_; have HB := n8_; clear n0_ n1_ n2_ n3_ n4_ n5_ n6_ n7_ n8_; clear hb ho78; obtain ⟨Ao79, co79, eo79⟩ := Kd.R_slice HO_17.out; subst eo79; obtain ⟨Ao80, co80, eo80⟩ := Kd.R_slice HO236.out; subst eo80) | (go_at_call 60; (with_reducible refine (slices_Equal_string_string.calls kj11 _ _ t219 _ _ y234 false _ ?side1 ?side2 ?side3 ?side4 A48.out).mono ?_); (case side1 => repeat (first | exact (Kd.R_reads' HO_17.out).2.2 | (with_reducible refine Kd.C_alloc ?_ _) | (with_reducible refine Kd.C_drewN ?_ _) | (with_reducible refine Kd.C_drew ?_))); (case side2 => exact (Kd.R_reads' HO_17.out).2.1); (case side3 => repeat (first | exact (Kd.R_reads' HO236.out).2.2 | (with_reducible refine Kd.C_alloc ?_ _) | (with_reducible refine Kd.C_drewN ?_ _) | (with_reducible refine Kd.C_drew ?_))); (case side4 => exact (Kd.R_reads' HO236.out).2.1); rintro e w' ⟨rfl, ⟨nd, rfl⟩⟩))
                go_ret
                exact ⟨by first | rfl | (simp [errW_none, errW_some] <;> rfl) | (simp [*, errW_none, errW_some] <;> rfl), by repeat (first | (with_reducible first | exact HB.out | apply below_alloc | apply pw_below_drewN | apply below_drew1 | refine below_set ?_ GE205.out | refine below_set ?_ GE206.out | refine below_set ?_ GE210.out) | exact HB.out)⟩
            · rw [if_neg c47] at H
              have c47b0 : (t207 == 94 && (t208 == 108)) = false := by simpa using c47
              (try (have c47b1 : decide (t207 = 94 && (t208 == 108)) = false := by simpa using c47))
              (try (have c47b2 : (t207 == 94 && (t208 == 108)) = false := by simpa using c47))
              (try (have c47b3 : ¬ (t207 = 94 && (t208 == 108)) := by simpa using c47))
              clear c47
              obtain rfl := Option.some.inj H
              go_wp2_with (first | ((with_reducible refine gate_dst (N := 110) rfl ?_); (try (refine gate_guard (by rfl) ?_; dsimp only)); refine Kd.R_lit (Kd.int .i64) _ 3 ?hg (N := 110) ?hd (xs := ([2, 1, 0] : List Int)) (inner := [.int .i64 2, .int .i64 1, .int .i64 0]) (ok := fun _ => True) (okp := fun _ => True) ?hr ?hp (fun _ hk => hk) trivial (Below.refl _ _) (Nat.le_refl _) (by simp) ?_; (case hd => rfl); (case hg => rfl); (case hr => first | (go_simp; done) | (go_simp; rfl)); (case hp => exact (Reps.one (show Kd.M (Kd.int .i64) _ _ _ 2 [.int .i64 2] from rfl) (Reps.one (show Kd.M (Kd.int .i64) _ _ _ 1 [.int .i64 1] from rfl) (Reps.one (show Kd.M (Kd.int .i64) _ _ _ 0 [.int .i64 0] from rfl) (Reps.none _ _))))); intro v231 w81 ho82 hb hg_ hnew_; clear hg_ hnew_; (first | rw [← Ny230.out] at ho82 | (simp only [Int.reduceToNat] at ho82; rw [← Ny230.out] at ho82)); have n0_ := Aside0.mk (Kd.R_elder' (by (with_reducible repeat (first | apply Kd.R_alloc | apply Kd.R_drewN | apply Kd.R_drew)); exact HO_2.out) (Kd.R_base ho82) hb); have n1_ := Aside0.mk (Kd.R_below (by (with_reducible repeat (first | apply Kd.R_alloc | apply Kd.R_drewN | apply Kd.R_drew)); exact HO_17.out) hb); have n2_ := Aside0.mk (Kd.R_elder' (by (with_reducible repeat (first | apply Kd.R_alloc | apply Kd.R_drewN | apply Kd.R_drew)); exact HO_19.out) (Kd.R_base ho82) hb); have n3_ := Aside0.mk (Kd.R_lower (Kd.R_new' (Kd.R_new' ho82 (Kd.R_lt (by (with_reducible repeat (first | apply Kd.R_alloc | apply Kd.R_drewN | apply Kd.R_drew)); exact HO_2.out))) (Kd.R_lt (by (with_reducible repeat (first | apply Kd.R_alloc | apply Kd.R_drewN | apply Kd.R_drew)); exact HO_19.out))) (below_size (by repeat (first | (with_reducible first | exact HB.out | apply below_alloc | apply pw_below_drewN | apply below_drew1 | refine below_set ?_ GE205.out | refine below_set ?_ GE206.out | refine below_set ?_ GE210.out) | exact HB.out)))); have n4_ := Aside0.mk (blk_below (g := gb205) (o := .cells #[.int .i64 t202, .int .i64 t203] 25 (0, 0)) (by (with_reducible repeat (first | refine blk_drewN ?_ _ | refine blk_drew ?_ | refine blk_alloc ?_ _)); exact BK205.out) hb); have n5_ := Aside0.mk (blk_below (g := gb206) (o := .cells #[.string (⟨#[103, 97, 117, 103, 101]⟩ : ByteArray), .int .i64 30, .int .i64 100] 51 (0, 0)) (by (with_reducible repeat (first | refine blk_drewN ?_ _ | refine blk_drew ?_ | refine blk_alloc ?_ _)); exact BK206.out) hb); have n6_ := Aside0.mk (blk_below (g := gb210) (o := .cells #[.int .i64 t207, .int .i64 t208] 25 (0, 0)) (by (with_reducible repeat (first | refine blk_drewN ?_ _ | refine blk_drew ?_ | refine blk_alloc ?_ _)); exact BK210.out) hb); have n7_ := Aside0.mk (below_step (by repeat (first | (with_reducible first | exact HB.out | apply below_alloc | apply pw_below_drewN | apply below_drew1 | refine below_set ?_ GE205.out | refine below_set ?_ GE206.out | refine below_set ?_ GE210.out) | exact HB.out)) hb); clear HO_2; clear HO_17; clear HO_19; clear BK205; clear BK206; clear BK210; clear HB; have HO_2 := n0_; have HO_17 := n1_; have HO_19 := n2_; have HO232 := n3_; have BK205 := n4_; have BK206 := n5_; have BK210 := n6_; have HB := n7_; clear n0_ n1_ n2_ n3_ n4_ n5_ n6_ n7_; clear hb ho82; obtain ⟨Ao83, co83, eo83⟩ := Kd.R_slice HO_2.out; subst eo83; obtain ⟨Ao84, co84, eo84⟩ := Kd.R_slice HO232.out; subst eo84) | ((with_reducible refine gate_callee (f := 57) rfl ?_); refine goesL_ (some 111) rfl rfl Try.func57 (by kernel_rfl) rfl #[.slice Ao83 t198.length co83, .slice Ao84 y230.length co84] rfl (by (try simp only [List.map_toArray, List.map_cons, List.map_nil]); first | done | rfl | (simp only [List.length_drop, List.length_take]; rfl)) ?_; (with_reducible refine (slices_Equal_int_int.calls kj11 _ _ t198 _ _ y230 true _ ?side1 ?side2 ?side3 ?side4 A44.out).mono ?_); (case side1 => repeat (first | exact (Kd.R_reads' HO_2.out).2.2 | (with_reducible refine Kd.C_alloc ?_ _) | (with_reducible refine Kd.C_drewN ?_ _) | (with_reducible refine Kd.C_drew ?_))); (case side2 => exact (Kd.R_reads' HO_2.out).2.1); (case side3 => repeat (first | exact (Kd.R_reads' HO232.out).2.2 | (with_reducible refine Kd.C_alloc ?_ _) | (with_reducible refine Kd.C_drewN ?_ _) | (with_reducible refine Kd.C_drew ?_))); (case side4 => exact (Kd.R_reads' HO232.out).2.1); rintro e w' ⟨rfl, ⟨nd, rfl⟩⟩; refine ⟨_, rfl, ?_⟩; have hnb85 := NB205_206.out; have hnc85 := NB206_205.out; have hnb86 := NB205_210.out; have hnc86 := NB210_205.out; have hcz87_0 : w81.cell? ⟨gb205, 0, none⟩ = some (.int .i64 t202) := (blk_cell BK205.out 0).trans rfl; have hcz87_1 : w81.cell? ⟨gb205, 1, none⟩ = some (.int .i64 t203) := (blk_cell BK205.out 1).trans rfl; have hfz87_0 := blk_frozen BK205.out 0; have hfz87_1 := blk_frozen BK205.out 1; have hnb88 := NB210_206.out; have hnc88 := NB206_210.out; have hcz89_0 : w81.cell? ⟨gb210, 0, none⟩ = some (.int .i64 t207) := (blk_cell BK210.out 0).trans rfl; have hcz89_1 : w81.cell? ⟨gb210, 1, none⟩ = some (.int .i64 t208) := (blk_cell BK210.out 1).trans rfl; have hfz89_0 := blk_frozen BK210.out 0; have hfz89_1 := blk_frozen BK210.out 1))
              go_ret
              exact ⟨by first | rfl | (simp [errW_none, errW_some] <;> rfl) | (simp [*, errW_none, errW_some] <;> rfl), by repeat (first | (with_reducible first | exact HB.out | apply below_alloc | apply pw_below_drewN | apply below_drew1 | refine below_set ?_ GE205.out | refine below_set ?_ GE206.out | refine below_set ?_ GE210.out) | exact HB.out)⟩
          · rw [if_neg c46] at H
            have c46b0 : (t202 == (-8) && (t203 == 6)) = false := by simpa using c46
            (try (have c46b1 : decide (t202 = (-8) && (t203 == 6)) = false := by simpa using c46))
            (try (have c46b2 : (t202 == (-8) && (t203 == 6)) = false := by simpa using c46))
            (try (have c46b3 : ¬ (t202 = (-8) && (t203 == 6)) := by simpa using c46))
            clear c46
            obtain rfl := Option.some.inj H
            go_wp2_with (first | ((with_reducible refine gate_dst (N := 110) rfl ?_); (try (refine gate_guard (by rfl) ?_; dsimp only)); refine Kd.R_lit (Kd.int .i64) _ 3 ?hg (N := 110) ?hd (xs := ([2, 1, 0] : List Int)) (inner := [.int .i64 2, .int .i64 1, .int .i64 0]) (ok := fun _ => True) (okp := fun _ => True) ?hr ?hp (fun _ hk => hk) trivial (Below.refl _ _) (Nat.le_refl _) (by simp) ?_; (case hd => rfl); (case hg => rfl); (case hr => first | (go_simp; done) | (go_simp; rfl)); (case hp => exact (Reps.one (show Kd.M (Kd.int .i64) _ _ _ 2 [.int .i64 2] from rfl) (Reps.one (show Kd.M (Kd.int .i64) _ _ _ 1 [.int .i64 1] from rfl) (Reps.one (show Kd.M (Kd.int .i64) _ _ _ 0 [.int .i64 0] from rfl) (Reps.none _ _))))); intro v231 w90 ho91 hb hg_ hnew_; clear hg_ hnew_; (first | rw [← Ny230.out] at ho91 | (simp only [Int.reduceToNat] at ho91; rw [← Ny230.out] at ho91)); have n0_ := Aside0.mk (Kd.R_elder' (by (with_reducible repeat (first | apply Kd.R_alloc | apply Kd.R_drewN | apply Kd.R_drew)); exact HO_2.out) (Kd.R_base ho91) hb); have n1_ := Aside0.mk (Kd.R_below (by (with_reducible repeat (first | apply Kd.R_alloc | apply Kd.R_drewN | apply Kd.R_drew)); exact HO_17.out) hb); have n2_ := Aside0.mk (Kd.R_elder' (by (with_reducible repeat (first | apply Kd.R_alloc | apply Kd.R_drewN | apply Kd.R_drew)); exact HO_19.out) (Kd.R_base ho91) hb); have n3_ := Aside0.mk (Kd.R_lower (Kd.R_new' (Kd.R_new' ho91 (Kd.R_lt (by (with_reducible repeat (first | apply Kd.R_alloc | apply Kd.R_drewN | apply Kd.R_drew)); exact HO_2.out))) (Kd.R_lt (by (with_reducible repeat (first | apply Kd.R_alloc | apply Kd.R_drewN | apply Kd.R_drew)); exact HO_19.out))) (below_size (by repeat (first | (with_reducible first | exact HB.out | apply below_alloc | apply pw_below_drewN | apply below_drew1 | refine below_set ?_ GE205.out | refine below_set ?_ GE206.out | refine below_set ?_ GE210.out) | exact HB.out)))); have n4_ := Aside0.mk (blk_below (g := gb205) (o := .cells #[.int .i64 t202, .int .i64 t203] 25 (0, 0)) (by (with_reducible repeat (first | refine blk_drewN ?_ _ | refine blk_drew ?_ | refine blk_alloc ?_ _)); exact BK205.out) hb); have n5_ := Aside0.mk (blk_below (g := gb206) (o := .cells #[.string (⟨#[103, 97, 117, 103, 101]⟩ : ByteArray), .int .i64 30, .int .i64 100] 51 (0, 0)) (by (with_reducible repeat (first | refine blk_drewN ?_ _ | refine blk_drew ?_ | refine blk_alloc ?_ _)); exact BK206.out) hb); have n6_ := Aside0.mk (blk_below (g := gb210) (o := .cells #[.int .i64 t207, .int .i64 t208] 25 (0, 0)) (by (with_reducible repeat (first | refine blk_drewN ?_ _ | refine blk_drew ?_ | refine blk_alloc ?_ _)); exact BK210.out) hb); have n7_ := Aside0.mk (below_step (by repeat (first | (with_reducible first | exact HB.out | apply below_alloc | apply pw_below_drewN | apply below_drew1 | refine below_set ?_ GE205.out | refine below_set ?_ GE206.out | refine below_set ?_ GE210.out) | exact HB.out)) hb); clear HO_2; clear HO_17; clear HO_19; clear BK205; clear BK206; clear BK210; clear HB; have HO_2 := n0_; have HO_17 := n1_; have HO_19 := n2_; have HO232 := n3_; have BK205 := n4_; have BK206 := n5_; have BK210 := n6_; have HB := n7_; clear n0_ n1_ n2_ n3_ n4_ n5_ n6_ n7_; clear hb ho91; obtain ⟨Ao92, co92, eo92⟩ := Kd.R_slice HO_2.out; subst eo92; obtain ⟨Ao93, co93, eo93⟩ := Kd.R_slice HO232.out; subst eo93) | ((with_reducible refine gate_callee (f := 57) rfl ?_); refine goesL_ (some 111) rfl rfl Try.func57 (by kernel_rfl) rfl #[.slice Ao92 t198.length co92, .slice Ao93 y230.length co93] rfl (by (try simp only [List.map_toArray, List.map_cons, List.map_nil]); first | done | rfl | (simp only [List.length_drop, List.length_take]; rfl)) ?_; (with_reducible refine (slices_Equal_int_int.calls kj11 _ _ t198 _ _ y230 true _ ?side1 ?side2 ?side3 ?side4 A44.out).mono ?_); (case side1 => repeat (first | exact (Kd.R_reads' HO_2.out).2.2 | (with_reducible refine Kd.C_alloc ?_ _) | (with_reducible refine Kd.C_drewN ?_ _) | (with_reducible refine Kd.C_drew ?_))); (case side2 => exact (Kd.R_reads' HO_2.out).2.1); (case side3 => repeat (first | exact (Kd.R_reads' HO232.out).2.2 | (with_reducible refine Kd.C_alloc ?_ _) | (with_reducible refine Kd.C_drewN ?_ _) | (with_reducible refine Kd.C_drew ?_))); (case side4 => exact (Kd.R_reads' HO232.out).2.1); rintro e w' ⟨rfl, ⟨nd, rfl⟩⟩; refine ⟨_, rfl, ?_⟩; have hnb94 := NB205_206.out; have hnc94 := NB206_205.out; have hnb95 := NB205_210.out; have hnc95 := NB210_205.out; have hcz96_0 : w90.cell? ⟨gb205, 0, none⟩ = some (.int .i64 t202) := (blk_cell BK205.out 0).trans rfl; have hcz96_1 : w90.cell? ⟨gb205, 1, none⟩ = some (.int .i64 t203) := (blk_cell BK205.out 1).trans rfl; have hfz96_0 := blk_frozen BK205.out 0; have hfz96_1 := blk_frozen BK205.out 1))
            go_ret
            exact ⟨by first | rfl | (simp [errW_none, errW_some] <;> rfl) | (simp [*, errW_none, errW_some] <;> rfl), by repeat (first | (with_reducible first | exact HB.out | apply below_alloc | apply pw_below_drewN | apply below_drew1 | refine below_set ?_ GE205.out | refine below_set ?_ GE206.out | refine below_set ?_ GE210.out) | exact HB.out)⟩
        · replace c45 := Bool.eq_false_iff.mpr c45
          subst c45
          have H1 : (some false) = some r := by rw [if_neg (show ¬ (false = true) by decide)] at H; exact H
          clear H
          have H := H1
          clear H1
          obtain rfl := Option.some.inj H
          go_wp2_with (first | ((with_reducible refine gate_dst (N := 110) rfl ?_); (try (refine gate_guard (by rfl) ?_; dsimp only)); refine Kd.R_lit (Kd.int .i64) _ 3 ?hg (N := 110) ?hd (xs := ([2, 1, 0] : List Int)) (inner := [.int .i64 2, .int .i64 1, .int .i64 0]) (ok := fun _ => True) (okp := fun _ => True) ?hr ?hp (fun _ hk => hk) trivial (Below.refl _ _) (Nat.le_refl _) (by simp) ?_; (case hd => rfl); (case hg => rfl); (case hr => first | (go_simp; done) | (go_simp; rfl)); (case hp => exact (Reps.one (show Kd.M (Kd.int .i64) _ _ _ 2 [.int .i64 2] from rfl) (Reps.one (show Kd.M (Kd.int .i64) _ _ _ 1 [.int .i64 1] from rfl) (Reps.one (show Kd.M (Kd.int .i64) _ _ _ 0 [.int .i64 0] from rfl) (Reps.none _ _))))); intro v231 w97 ho98 hb hg_ hnew_; clear hg_ hnew_; (first | rw [← Ny230.out] at ho98 | (simp only [Int.reduceToNat] at ho98; rw [← Ny230.out] at ho98)); have n0_ := Aside0.mk (Kd.R_elder' (by (with_reducible repeat (first | apply Kd.R_alloc | apply Kd.R_drewN | apply Kd.R_drew)); exact HO_2.out) (Kd.R_base ho98) hb); have n1_ := Aside0.mk (Kd.R_below (by (with_reducible repeat (first | apply Kd.R_alloc | apply Kd.R_drewN | apply Kd.R_drew)); exact HO_17.out) hb); have n2_ := Aside0.mk (Kd.R_elder' (by (with_reducible repeat (first | apply Kd.R_alloc | apply Kd.R_drewN | apply Kd.R_drew)); exact HO_19.out) (Kd.R_base ho98) hb); have n3_ := Aside0.mk (Kd.R_lower (Kd.R_new' (Kd.R_new' ho98 (Kd.R_lt (by (with_reducible repeat (first | apply Kd.R_alloc | apply Kd.R_drewN | apply Kd.R_drew)); exact HO_2.out))) (Kd.R_lt (by (with_reducible repeat (first | apply Kd.R_alloc | apply Kd.R_drewN | apply Kd.R_drew)); exact HO_19.out))) (below_size (by repeat (first | (with_reducible first | exact HB.out | apply below_alloc | apply pw_below_drewN | apply below_drew1 | refine below_set ?_ GE205.out | refine below_set ?_ GE206.out | refine below_set ?_ GE210.out) | exact HB.out)))); have n4_ := Aside0.mk (blk_below (g := gb205) (o := .cells #[.int .i64 t202, .int .i64 t203] 25 (0, 0)) (by (with_reducible repeat (first | refine blk_drewN ?_ _ | refine blk_drew ?_ | refine blk_alloc ?_ _)); exact BK205.out) hb); have n5_ := Aside0.mk (blk_below (g := gb206) (o := .cells #[.string (⟨#[103, 97, 117, 103, 101]⟩ : ByteArray), .int .i64 30, .int .i64 100] 51 (0, 0)) (by (with_reducible repeat (first | refine blk_drewN ?_ _ | refine blk_drew ?_ | refine blk_alloc ?_ _)); exact BK206.out) hb); have n6_ := Aside0.mk (blk_below (g := gb210) (o := .cells #[.int .i64 t207, .int .i64 t208] 25 (0, 0)) (by (with_reducible repeat (first | refine blk_drewN ?_ _ | refine blk_drew ?_ | refine blk_alloc ?_ _)); exact BK210.out) hb); have n7_ := Aside0.mk (below_step (by repeat (first | (with_reducible first | exact HB.out | apply below_alloc | apply pw_below_drewN | apply below_drew1 | refine below_set ?_ GE205.out | refine below_set ?_ GE206.out | refine below_set ?_ GE210.out) | exact HB.out)) hb); clear HO_2; clear HO_17; clear HO_19; clear BK205; clear BK206; clear BK210; clear HB; have HO_2 := n0_; have HO_17 := n1_; have HO_19 := n2_; have HO232 := n3_; have BK205 := n4_; have BK206 := n5_; have BK210 := n6_; have HB := n7_; clear n0_ n1_ n2_ n3_ n4_ n5_ n6_ n7_; clear hb ho98; obtain ⟨Ao99, co99, eo99⟩ := Kd.R_slice HO_2.out; subst eo99; obtain ⟨Ao100, co100, eo100⟩ := Kd.R_slice HO232.out; subst eo100) | ((with_reducible refine gate_callee (f := 57) rfl ?_); refine goesL_ (some 111) rfl rfl Try.func57 (by kernel_rfl) rfl #[.slice Ao99 t198.length co99, .slice Ao100 y230.length co100] rfl (by (try simp only [List.map_toArray, List.map_cons, List.map_nil]); first | done | rfl | (simp only [List.length_drop, List.length_take]; rfl)) ?_; (with_reducible refine (slices_Equal_int_int.calls kj11 _ _ t198 _ _ y230 false _ ?side1 ?side2 ?side3 ?side4 A44.out).mono ?_); (case side1 => repeat (first | exact (Kd.R_reads' HO_2.out).2.2 | (with_reducible refine Kd.C_alloc ?_ _) | (with_reducible refine Kd.C_drewN ?_ _) | (with_reducible refine Kd.C_drew ?_))); (case side2 => exact (Kd.R_reads' HO_2.out).2.1); (case side3 => repeat (first | exact (Kd.R_reads' HO232.out).2.2 | (with_reducible refine Kd.C_alloc ?_ _) | (with_reducible refine Kd.C_drewN ?_ _) | (with_reducible refine Kd.C_drew ?_))); (case side4 => exact (Kd.R_reads' HO232.out).2.1); rintro e w' ⟨rfl, ⟨nd, rfl⟩⟩; refine ⟨_, rfl, ?_⟩))
          go_ret
          exact ⟨by first | rfl | (simp [errW_none, errW_some] <;> rfl) | (simp [*, errW_none, errW_some] <;> rfl), by repeat (first | (with_reducible first | exact HB.out | apply below_alloc | apply pw_below_drewN | apply below_drew1 | refine below_set ?_ GE205.out | refine below_set ?_ GE206.out | refine below_set ?_ GE210.out) | exact HB.out)⟩
end Go.Proofs.Ytkgdlbepjmgaiaa.Cal
set_option linter.unusedVariables false
set_option linter.unusedSimpArgs false
namespace Go.Proofs.Ytkgdlbepjmgaiaa.Cal
open Go.RowKit Go.Proofs.YtkgdlbepjmgaiaaW.PrintWords Go.Proofs.YtkgdlbepjmgaiaaW.PrintLast Go.Proofs.YtkgdlbepjmgaiaaW.PrintMore
theorem EqualI_ev (a b : List Int) (h : a = b) (hl : a.length < 2199023255552) : Ev (fun k => slices_Equal_int_int.f k a b) true := by
  subst h
  have key : ∀ n i : Nat, i + n = a.length → Ev (fun k => slices_Equal_int_int.l0 k a a (a.length : Int) (i : Int)) true := by
    intro n
    induction n with
    | zero =>
      intro i hi
      refine Ev.step (fun k => by rw [slices_Equal_int_int.l0]) ?_
      exact Ev.e (by omega) (Ev.now _)
    | succ n ih =>
      intro i hi
      refine Ev.step (fun k => by rw [slices_Equal_int_int.l0]) ?_
      rw [w64s (by omega)]
      exact Ev.t (by omega) (Ev.t (by omega) (Ev.t (by omega) (Ev.t (by omega) (Ev.t rfl (ih (i + 1) (by omega))))))
  unfold slices_Equal_int_int.f
  exact Ev.t rfl (key a.length 0 (by omega))
theorem EqualS_ev (a b : List ByteArray) (h : a = b) (hl : a.length < 2199023255552) : Ev (fun k => slices_Equal_string_string.f k a b) true := by
  subst h
  have key : ∀ n i : Nat, i + n = a.length → Ev (fun k => slices_Equal_string_string.l0 k a a (a.length : Int) (i : Int)) true := by
    intro n
    induction n with
    | zero =>
      intro i hi
      refine Ev.step (fun k => by rw [slices_Equal_string_string.l0]) ?_
      exact Ev.e (by omega) (Ev.now _)
    | succ n ih =>
      intro i hi
      refine Ev.step (fun k => by rw [slices_Equal_string_string.l0]) ?_
      rw [w64s (by omega)]
      exact Ev.t (by omega) (Ev.t (by omega) (Ev.t (by omega) (Ev.t (by omega) (Ev.t rfl (ih (i + 1) (by omega))))))
  unfold slices_Equal_string_string.f
  exact Ev.t rfl (key a.length 0 (by omega))
def three (n : Int) : List S68 := [⟨⟨#[98, 108, 111, 99, 107]⟩, ⟨#[]⟩, 1, 1, 0, n⟩, ⟨⟨#[99, 97, 108, 105, 112, 101, 114]⟩, ⟨#[98, 108, 111, 99, 107]⟩, 3, 2, 10, 20⟩, ⟨⟨#[103, 97, 117, 103, 101]⟩, ⟨#[99, 97, 108, 105, 112, 101, 114]⟩, (-5), 4, 15, 40⟩]
theorem three_eq (n : Int) : metrolablaw52_Three.f n = some (three n) := rfl
abbrev gau : ByteArray := ⟨#[103, 97, 117, 103, 101]⟩
theorem tc1 : chV (three 12) gau 30 = ([2, 1, 0], 0) := by decide +kernel
theorem te1 : errV (three 12) gau 30 = (-8, 6, 0) := by decide +kernel
theorem tv1 : valV (three 12) gau 30 100 = (94, 108, 0) := by decide +kernel
theorem tj1 : judV (three 12) gau 30 100 90 110 = (2, 0) := by decide +kernel
theorem tj2 : judV (three 12) gau 30 100 100 110 = (1, 0) := by decide +kernel
theorem tj3 : judV (three 12) gau 30 100 0 93 = (0, 0) := by decide +kernel
theorem tw1 : valVV (three 12) gau 50 = (0, 14) := by decide +kernel
theorem td1 : dueV (three 12) 50 = ([⟨#[98, 108, 111, 99, 107]⟩, ⟨#[99, 97, 108, 105, 112, 101, 114]⟩, gau], 0) := by decide +kernel
theorem tb1 : brkV (three 9) = ([1, 2], 0) := by decide +kernel
theorem awake_ev : Ev (fun k => metrolablaw52_awake.f k) true := by
  unfold metrolablaw52_awake.f
  simp only [three_eq, Option.bind_some]
  have hl : (three 12).length < 2199023255552 := by decide
  refine Ev.bind (Chain_ev _ hl _ _) ?_
  rw [tc1]
  refine Ev.bind (Error_ev _ hl _ _) ?_
  rw [te1]
  refine Ev.bind (Value_ev _ hl _ _ _) ?_
  rw [tv1]
  refine Ev.bind (Judge_ev _ hl _ _ _ _ _) ?_
  rw [tj1]
  refine Ev.bind (Judge_ev _ hl _ _ _ _ _) ?_
  rw [tj2]
  refine Ev.bind (Judge_ev _ hl _ _ _ _ _) ?_
  rw [tj3]
  refine Ev.bind (Valid_ev _ hl _ _) ?_
  rw [tw1]
  refine Ev.bind (Due_ev _ hl _) ?_
  rw [td1]
  refine Ev.bind (Broken_ev (three 9) (by decide)) ?_
  rw [tb1]
  refine Ev.t (by decide +kernel) (Ev.t rfl (Ev.t rfl (Ev.t rfl (Ev.t rfl ?_))))
  refine Ev.step (fun k => by rw [metrolablaw52_awake.j0]) ?_
  refine Ev.e (by decide) (Ev.bind (EqualI_ev _ _ rfl (by decide)) (Ev.t rfl (Ev.t (by decide) (Ev.t (by decide) (Ev.bind (EqualS_ev _ _ rfl (by decide)) (Ev.t rfl (Ev.bind (EqualI_ev _ _ rfl (by decide)) (Ev.now _))))))))
end Go.Proofs.Ytkgdlbepjmgaiaa.Cal
namespace Go.Proofs.Ytkgdlbepjmgaiaa.Cal
open Go.RowKit Go.Proofs.YtkgdlbepjmgaiaaW.PrintWords Go.Proofs.YtkgdlbepjmgaiaaW.PrintLast Go.Proofs.YtkgdlbepjmgaiaaW.PrintMore
attribute [local go_sem] max2_int min2_int max_two min_two max_three min_three max_four min_four
set_option linter.unusedVariables false
set_option linter.unusedSimpArgs false
def metrolabref17_In.f (a0 : Int) : Option (Bool) := if a0 ≥ (-100000) then (some (decide (a0 ≤ 100000))) else (some false)
set_option maxHeartbeats 8000000 in
set_option maxRecDepth 100000 in
theorem metrolabref17_In.calls (a0 : Int) (r : Bool) (w : World) (h : metrolabref17_In.f a0 = some r) :
    Calls Try.prog 66 #[.int .i64 a0] w fun e w' => e = .returned (.bool r) ∧ Drawn0 w w' := by
  have H : (if a0 ≥ (-100000) then (some (decide (a0 ≤ 100000))) else (some false)) = some r := h
  clear h
  by_cases c2 : a0 ≥ (-100000)
  · rw [if_pos c2] at H
    have c2b0 : decide ((-100000) ≤ a0) = true := decide_eq_true c2
    clear c2
    obtain rfl := Option.some.inj H
    go_enter Try.func66, Try.ntmps66
    go_wp2
    go_ret
    exact ⟨by first | rfl | (simp; done) | (simp [*]; done), by repeat (first | exact Drawn0.refl _ | apply Drawn0.step)⟩
  · rw [if_neg c2] at H
    have c2b0 : decide ((-100000) ≤ a0) = false := decide_eq_false c2
    clear c2
    obtain rfl := Option.some.inj H
    go_enter Try.func66, Try.ntmps66
    go_wp2
    go_ret
    exact ⟨by first | rfl | (simp; done) | (simp [*]; done), by repeat (first | exact Drawn0.refl _ | apply Drawn0.step)⟩
end Go.Proofs.Ytkgdlbepjmgaiaa.Cal
namespace Go.Proofs.Ytkgdlbepjmgaiaa.Cal
open Go.RowKit Go.Proofs.YtkgdlbepjmgaiaaW.PrintWords Go.Proofs.YtkgdlbepjmgaiaaW.PrintLast Go.Proofs.YtkgdlbepjmgaiaaW.PrintMore
attribute [local go_sem] max2_int min2_int max_two min_two max_three min_three max_four min_four
set_option linter.unusedVariables false
set_option linter.unusedSimpArgs false
def metrolabref52_Day.f (a0 : Int) : Option (Int) := if a0 < 0 then (some 2) else (if a0 > 1048576 then (some 2) else (some 0))
set_option maxHeartbeats 8000000 in
set_option maxRecDepth 100000 in
theorem metrolabref52_Day.calls (a0 : Int) (r : Int) (w : World) (h : metrolabref52_Day.f a0 = some r) :
    Calls Try.prog 38 #[.int .i64 a0] w fun e w' => e = .returned (.int .i64 r) ∧ Drawn0 w w' := by
  have H : (if a0 < 0 then (some 2) else (if a0 > 1048576 then (some 2) else (some 0))) = some r := h
  clear h
  by_cases c2 : a0 < 0
  · rw [if_pos c2] at H
    have c2b0 : decide (a0 < 0) = true := decide_eq_true c2
    clear c2
    obtain rfl := Option.some.inj H
    go_enter Try.func38, Try.ntmps38
    go_wp2
    go_ret
    exact ⟨by first | rfl | (simp; done) | (simp [*]; done), by repeat (first | exact Drawn0.refl _ | apply Drawn0.step)⟩
  · rw [if_neg c2] at H
    have c2b0 : decide (a0 < 0) = false := decide_eq_false c2
    clear c2
    by_cases c3 : a0 > 1048576
    · rw [if_pos c3] at H
      have c3b0 : decide (1048576 < a0) = true := decide_eq_true c3
      clear c3
      obtain rfl := Option.some.inj H
      go_enter Try.func38, Try.ntmps38
      go_wp2
      go_ret
      exact ⟨by first | rfl | (simp; done) | (simp [*]; done), by repeat (first | exact Drawn0.refl _ | apply Drawn0.step)⟩
    · rw [if_neg c3] at H
      have c3b0 : decide (1048576 < a0) = false := decide_eq_false c3
      clear c3
      obtain rfl := Option.some.inj H
      go_enter Try.func38, Try.ntmps38
      go_wp2
      go_ret
      exact ⟨by first | rfl | (simp; done) | (simp [*]; done), by repeat (first | exact Drawn0.refl _ | apply Drawn0.step)⟩
end Go.Proofs.Ytkgdlbepjmgaiaa.Cal
namespace Go.Proofs.Ytkgdlbepjmgaiaa.Cal
open Go.RowKit Go.Proofs.YtkgdlbepjmgaiaaW.PrintWords Go.Proofs.YtkgdlbepjmgaiaaW.PrintLast Go.Proofs.YtkgdlbepjmgaiaaW.PrintMore
attribute [local go_sem] max2_int min2_int max_two min_two max_three min_three max_four min_four
set_option linter.unusedVariables false
set_option linter.unusedSimpArgs false
def metrolabref17_letter.f (a0 : Int) : Option (Bool) := if a0 ≥ 97 then (if a0 ≤ 122 then (some true) else (if a0 ≥ 65 then (some (decide (a0 ≤ 90))) else (some false))) else (if a0 ≥ 65 then (some (decide (a0 ≤ 90))) else (some false))
set_option maxHeartbeats 8000000 in
set_option maxRecDepth 100000 in
theorem metrolabref17_letter.calls (a0 : Int) (r : Bool) (w : World) (h : metrolabref17_letter.f a0 = some r) :
    Calls Try.prog 118 #[.int .u8 a0] w fun e w' => e = .returned (.bool r) ∧ Drawn0 w w' := by
  have H : (if a0 ≥ 97 then (if a0 ≤ 122 then (some true) else (if a0 ≥ 65 then (some (decide (a0 ≤ 90))) else (some false))) else (if a0 ≥ 65 then (some (decide (a0 ≤ 90))) else (some false))) = some r := h
  clear h
  by_cases c2 : a0 ≥ 97
  · rw [if_pos c2] at H
    have c2b0 : decide (97 ≤ a0) = true := decide_eq_true c2
    clear c2
    by_cases c3 : a0 ≤ 122
    · rw [if_pos c3] at H
      have c3b0 : decide (a0 ≤ 122) = true := decide_eq_true c3
      clear c3
      obtain rfl := Option.some.inj H
      go_enter Try.func118, Try.ntmps118
      go_wp2
      go_ret
      exact ⟨by first | rfl | (simp; done) | (simp [*]; done), by repeat (first | exact Drawn0.refl _ | apply Drawn0.step)⟩
    · rw [if_neg c3] at H
      have c3b0 : decide (a0 ≤ 122) = false := decide_eq_false c3
      clear c3
      by_cases c4 : a0 ≥ 65
      · rw [if_pos c4] at H
        have c4b0 : decide (65 ≤ a0) = true := decide_eq_true c4
        clear c4
        obtain rfl := Option.some.inj H
        go_enter Try.func118, Try.ntmps118
        go_wp2
        go_ret
        exact ⟨by first | rfl | (simp; done) | (simp [*]; done), by repeat (first | exact Drawn0.refl _ | apply Drawn0.step)⟩
      · rw [if_neg c4] at H
        have c4b0 : decide (65 ≤ a0) = false := decide_eq_false c4
        clear c4
        obtain rfl := Option.some.inj H
        go_enter Try.func118, Try.ntmps118
        go_wp2
        go_ret
        exact ⟨by first | rfl | (simp; done) | (simp [*]; done), by repeat (first | exact Drawn0.refl _ | apply Drawn0.step)⟩
  · rw [if_neg c2] at H
    have c2b0 : decide (97 ≤ a0) = false := decide_eq_false c2
    clear c2
    by_cases c5 : a0 ≥ 65
    · rw [if_pos c5] at H
      have c5b0 : decide (65 ≤ a0) = true := decide_eq_true c5
      clear c5
      obtain rfl := Option.some.inj H
      go_enter Try.func118, Try.ntmps118
      go_wp2
      go_ret
      exact ⟨by first | rfl | (simp; done) | (simp [*]; done), by repeat (first | exact Drawn0.refl _ | apply Drawn0.step)⟩
    · rw [if_neg c5] at H
      have c5b0 : decide (65 ≤ a0) = false := decide_eq_false c5
      clear c5
      obtain rfl := Option.some.inj H
      go_enter Try.func118, Try.ntmps118
      go_wp2
      go_ret
      exact ⟨by first | rfl | (simp; done) | (simp [*]; done), by repeat (first | exact Drawn0.refl _ | apply Drawn0.step)⟩
end Go.Proofs.Ytkgdlbepjmgaiaa.Cal
namespace Go.Proofs.Ytkgdlbepjmgaiaa.Cal
open Go.RowKit Go.Proofs.YtkgdlbepjmgaiaaW.PrintWords Go.Proofs.YtkgdlbepjmgaiaaW.PrintLast Go.Proofs.YtkgdlbepjmgaiaaW.PrintMore
attribute [local go_sem] max2_int min2_int max_two min_two max_three min_three max_four min_four
set_option linter.unusedVariables false
set_option linter.unusedSimpArgs false
mutual
def metrolabref17_Name.j0 : Nat → ByteArray → Bool → Option (Int)
  | 0, _, _ => none
  | k + 1, x0, x15 => if x15 = true then (some 3) else (metrolabref17_Name.l0 k x0 0)
def metrolabref17_Name.l0 : Nat → ByteArray → Int → Option (Int)
  | 0, _, _ => none
  | k + 1, x0, x3 => if x3 < (x0.size : Int) then (if 0 ≤ x3 then ((metrolabref17_letter.f (bt x0 x3)).bind fun t259 => (if t259 = true then (metrolabref17_Name.l0 k x0 (wrap64 (x3 + 1))) else (if (bt x0 x3) < 48 then (some 3) else (if (bt x0 x3) > 57 then (some 3) else (metrolabref17_Name.l0 k x0 (wrap64 (x3 + 1))))))) else (none)) else (some 0)
end
def metrolabref17_Name.f (k : Nat) (a0 : ByteArray) : Option (Int) := if (a0.size : Int) > 24 then (some 17) else (if (a0.size : Int) = 0 then (metrolabref17_Name.j0 k a0 true) else (if 0 < (a0.size : Int) then ((metrolabref17_letter.f (bt a0 0)).bind fun t258 => (metrolabref17_Name.j0 k a0 (!t258))) else (none)))
theorem metrolabref17_Name.mono_l : ∀ k, (∀ y0 y1, LeO (metrolabref17_Name.j0 k y0 y1) (metrolabref17_Name.j0 (k + 1) y0 y1)) ∧ (∀ y0 y1, LeO (metrolabref17_Name.l0 k y0 y1) (metrolabref17_Name.l0 (k + 1) y0 y1))
  | 0 => ⟨fun _ _ r h => by simp [metrolabref17_Name.j0] at h, fun _ _ r h => by simp [metrolabref17_Name.l0] at h⟩
  | k + 1 => by
    obtain ⟨ih0, ih1⟩ := metrolabref17_Name.mono_l k
    refine ⟨?_, ?_⟩
    · intro y0 y1
      unfold metrolabref17_Name.j0
      repeat' first
      | (with_reducible exact ih0 _ _)
      | (with_reducible exact ih1 _ _)
      | (with_reducible exact LeO.refl _)
      | (with_reducible exact LeO.none _)
      | (with_reducible refine LeO.ite ?_ ?_)
      | (with_reducible refine LeO.bind ?_ (fun _ => ?_))
      | exact ih0 _ _
      | exact ih1 _ _
      | exact LeO.none _
      | refine LeO.ite ?_ ?_
      | refine LeO.bind ?_ (fun _ => ?_)
    · intro y0 y1
      unfold metrolabref17_Name.l0
      repeat' first
      | (with_reducible exact ih0 _ _)
      | (with_reducible exact ih1 _ _)
      | (with_reducible exact LeO.refl _)
      | (with_reducible exact LeO.none _)
      | (with_reducible refine LeO.ite ?_ ?_)
      | (with_reducible refine LeO.bind ?_ (fun _ => ?_))
      | exact ih0 _ _
      | exact ih1 _ _
      | exact LeO.none _
      | refine LeO.ite ?_ ?_
      | refine LeO.bind ?_ (fun _ => ?_)
theorem metrolabref17_Name.mono : ∀ a0 k, LeO (metrolabref17_Name.f k a0) (metrolabref17_Name.f (k + 1) a0) := by
  intro a0 k
  obtain ⟨ih0, ih1⟩ := metrolabref17_Name.mono_l k
  unfold metrolabref17_Name.f
  repeat' first
      | (with_reducible exact ih0 _ _)
      | (with_reducible exact ih1 _ _)
      | (with_reducible exact LeO.refl _)
      | (with_reducible exact LeO.none _)
      | (with_reducible refine LeO.ite ?_ ?_)
      | (with_reducible refine LeO.bind ?_ (fun _ => ?_))
      | exact ih0 _ _
      | exact ih1 _ _
      | exact LeO.none _
      | refine LeO.ite ?_ ?_
      | refine LeO.bind ?_ (fun _ => ?_)
set_option maxHeartbeats 8000000 in
set_option maxRecDepth 100000 in
theorem metrolabref17_Name.calls (k : Nat) (a0 : ByteArray) (r : Int) (w : World) (h : metrolabref17_Name.f k a0 = some r) :
    Calls Try.prog 83 #[.string a0] w fun e w' => e = .returned (.int .i64 r) ∧ Drawn0 w w' := by
  have H : (if (a0.size : Int) > 24 then (some 17) else (if (a0.size : Int) = 0 then (metrolabref17_Name.j0 k a0 true) else (if 0 < (a0.size : Int) then ((metrolabref17_letter.f (bt a0 0)).bind fun t258 => (metrolabref17_Name.j0 k a0 (!t258))) else (none)))) = some r := h
  clear h
  by_cases c2 : (a0.size : Int) > 24
  · rw [if_pos c2] at H
    have c2b0 : decide (24 < (a0.size : Int)) = true := decide_eq_true c2
    have c2b1 : decide (24 < a0.size) = true := decide_eq_true (by omega)
    clear c2
    obtain rfl := Option.some.inj H
    go_enter Try.func83, Try.ntmps83
    go_wp2
    go_ret
    exact ⟨by first | rfl | (simp; done) | (simp [*]; done), by repeat (first | exact Drawn0.refl _ | apply Drawn0.step)⟩
  · rw [if_neg c2] at H
    have c2b0 : decide (24 < (a0.size : Int)) = false := decide_eq_false c2
    have c2b1 : decide (24 < a0.size) = false := decide_eq_false (by omega)
    clear c2
    have HC3 := Aside0.mk H
    clear H
    go_enter Try.func83, Try.ntmps83
    go_upto_region 3 with (fail)
    go_cut [15] (fun v15 wc => ∃ (kq : Nat) (x15_2 : Bool), v15 = .bool x15_2 ∧ Aside0 (metrolabref17_Name.j0 kq a0 x15_2 = some r) ∧ Aside0 (kq ≤ k) ∧ Drawn0 w wc)
    case first =>
      have H := HC3.out
      clear HC3
      by_cases c4 : (a0.size : Int) = 0
      · rw [if_pos c4] at H
        have c4b0 : ((a0.size : Int) == 0) = true := beq_iff_eq.mpr c4
        have c4b1 : ((a0.size : Int) != 0) = false := bne_eq_false_iff_eq.mpr c4
        clear c4
        (first | rw [c4b0] | (simp only [i64_w, i32_w]; rw [c4b0]) | (rw [c4b2]; try simp only [Bool.not_true, Bool.not_false]) | skip)
        have H' := Aside0.mk H
        clear H
        go_wp2
        go_meet
        case rel => exact ⟨_, (true), (by first | rfl | (simp; done) | (simp [*]; done)), H', ⟨by first | omega | exact Nat.le_refl _⟩, by repeat (first | exact Drawn0.refl _ | apply Drawn0.step)⟩
      · rw [if_neg c4] at H
        have c4b0 : ((a0.size : Int) == 0) = false := beq_eq_false_iff_ne.mpr c4
        have c4b1 : ((a0.size : Int) != 0) = true := bne_iff_ne.mpr c4
        (first | rw [c4b0] | (simp only [i64_w, i32_w]; rw [c4b0]) | (rw [c4b2]; try simp only [Bool.not_true, Bool.not_false]) | skip)
        by_cases c5 : 0 < (a0.size : Int)
        · rw [if_pos c5] at H
          have c5b0 : decide (0 < (a0.size : Int)) = true := decide_eq_true c5
          have c5b1 : decide (0 < a0.size) = true := decide_eq_true (by omega)
          clear c5
          replace H := Option.bind_eq_some_iff.mp H
          obtain ⟨t258, A70, H⟩ := H
          replace H : (metrolabref17_Name.j0 k a0 (!t258)) = some r := H
          have A7 := Aside0.mk A70
          clear A70
          have H' := Aside0.mk H
          clear H
          have p6 : 0 ≤ (0 : Int) := (by omega)
          have q6 : 0 < a0.size := (by have : (0 : Int) < (a0.size : Int) := of_decide_eq_true (by first | (with_reducible assumption) | assumption); omega)
          have hx6 : ∀ h : 0 < a0.size, ((a0[0]'h).toNat : Int) = bt a0 0 := bt_at a0 0
          clear p6
          have qi6 : (0 < (a0.size : Int)) = True := eq_true (of_decide_eq_true (by first | (with_reducible assumption) | assumption))
          replace q6 := eq_true q6
          go_wp2_with (first | (go_at_call 118; (with_reducible refine (metrolabref17_letter.calls (bt a0 0) t258 _ A7.out).mono ?_); rintro e w' ⟨rfl, ⟨nd, rfl⟩⟩))
          go_meet
          case rel => exact ⟨_, (!t258), (by first | rfl | (simp; done) | (simp [*]; done)), H', ⟨by first | omega | exact Nat.le_refl _⟩, by repeat (first | exact Drawn0.refl _ | apply Drawn0.step)⟩
        · rw [if_neg c5] at H
          exact absurd H (by simp)
    case rest =>
      clear HC3
      try clear c2
      try clear c2b0
      try clear c2b1
      try clear p2
      try clear c4
      try clear c4b0
      try clear c4b1
      try clear c4b2
      try clear c5
      try clear c5b0
      try clear c5b1
      try clear p6
      try clear q6
      try clear hx6
      try clear qi6
      try clear p6
      try clear q6
      obtain ⟨kq, x15_2, rfl, HA, HJ2, ⟨mc2, rfl⟩⟩ := hcut
      cases kq with
      | zero => exact absurd HA.out (by simp [metrolabref17_Name.j0])
      | succ kj2 =>
        have H := HA.out
        clear HA
        simp only [metrolabref17_Name.j0] at H
        by_cases c8 : x15_2 = true
        · subst c8
          have H1 : (some 3) = some r := by rw [if_pos rfl] at H; exact H
          clear H
          have H := H1
          clear H1
          obtain rfl := Option.some.inj H
          go_wp2
          go_ret
          exact ⟨by first | rfl | (simp; done) | (simp [*]; done), by repeat (first | exact Drawn0.refl _ | apply Drawn0.step)⟩
        · replace c8 := Bool.eq_false_iff.mpr c8
          subst c8
          have H1 : (metrolabref17_Name.l0 kj2 a0 0) = some r := by rw [if_neg (show ¬ (false = true) by decide)] at H; exact H
          clear H
          have H := H1
          clear H1
          have H' := Aside0.mk H
          clear H
          go_wp2
          go_loopg [3] kj2 (fun kq v3 w' => ∃ (x3_2 : Int), v3 = .int .i64 x3_2 ∧ Aside0 (metrolabref17_Name.l0 kq a0 x3_2 = some r) ∧ Aside0 (kq ≤ kj2) ∧ Drawn0 w w')
          case atStart => exact ⟨(0), (by first | rfl | (simp; done) | (simp [*]; done)), H', ⟨Nat.le_refl _⟩, by repeat (first | exact Drawn0.refl _ | apply Drawn0.step)⟩
          case round =>
            clear H'
            try clear c2
            try clear c2b0
            try clear c2b1
            try clear p2
            try clear c4
            try clear c4b0
            try clear c4b1
            try clear c4b2
            try clear c5
            try clear c5b0
            try clear c5b1
            try clear p6
            try clear q6
            try clear hx6
            try clear qi6
            try clear c8
            try clear p2
            try clear p6
            try clear q6
            obtain ⟨x3_2, rfl, HA, HK2, ⟨m2, rfl⟩⟩ := hrel
            cases gk with
            | zero => exact absurd HA.out (by simp [metrolabref17_Name.l0])
            | succ k2 =>
              have H := HA.out
              clear HA
              simp only [metrolabref17_Name.l0] at H
              by_cases c9 : x3_2 < (a0.size : Int)
              · rw [if_pos c9] at H
                have c9b0 : decide (x3_2 < (a0.size : Int)) = true := decide_eq_true c9
                clear c9
                by_cases c10 : 0 ≤ x3_2
                · rw [if_pos c10] at H
                  have c10b0 : decide (0 ≤ x3_2) = true := decide_eq_true c10
                  clear c10
                  replace H := Option.bind_eq_some_iff.mp H
                  obtain ⟨t259, A120, H⟩ := H
                  replace H : (if t259 = true then (metrolabref17_Name.l0 k2 a0 (wrap64 (x3_2 + 1))) else (if (bt a0 x3_2) < 48 then (some 3) else (if (bt a0 x3_2) > 57 then (some 3) else (metrolabref17_Name.l0 k2 a0 (wrap64 (x3_2 + 1)))))) = some r := H
                  have A12 := Aside0.mk A120
                  clear A120
                  by_cases c13 : t259 = true
                  · subst c13
                    have H1 : (metrolabref17_Name.l0 k2 a0 (wrap64 (x3_2 + 1))) = some r := by rw [if_pos rfl] at H; exact H
                    clear H
                    have H := H1
                    clear H1
                    have H' := Aside0.mk H
                    clear H
                    have p11 : 0 ≤ (x3_2 : Int) := of_decide_eq_true (by first | (with_reducible assumption) | assumption)
                    have q11 : x3_2 < (a0.size : Int) := of_decide_eq_true (by first | (with_reducible assumption) | assumption)
                    have hx11 := bt_at a0 x3_2
                    replace p11 := eq_true p11
                    replace q11 := eq_true q11
                    go_wp2_with (first | ((with_reducible refine gate_callee (f := 118) rfl ?_); refine goesL_ (some 25) rfl rfl Try.func118 (by kernel_rfl) rfl #[.int .u8 (bt a0 x3_2)] rfl (by (try simp only [List.map_toArray, List.map_cons, List.map_nil]); first | done | rfl | (simp only [List.length_drop, List.length_take]; rfl)) ?_; (with_reducible refine (metrolabref17_letter.calls (bt a0 x3_2) true _ A12.out).mono ?_); rintro e w' ⟨rfl, ⟨nd, rfl⟩⟩; refine ⟨_, rfl, ?_⟩))
                    go_roundg k2
                    case measure => have := HJ2.out; have := HK2.out; omega
                    case rel => exact ⟨(wrap64 (x3_2 + 1)), (by first | rfl | (simp; done) | (simp [*]; done)), H', ⟨by have := HJ2.out; have := HK2.out; omega⟩, by repeat (first | exact Drawn0.refl _ | apply Drawn0.step)⟩
                  · replace c13 := Bool.eq_false_iff.mpr c13
                    subst c13
                    have H1 : (if (bt a0 x3_2) < 48 then (some 3) else (if (bt a0 x3_2) > 57 then (some 3) else (metrolabref17_Name.l0 k2 a0 (wrap64 (x3_2 + 1))))) = some r := by rw [if_neg (show ¬ (false = true) by decide)] at H; exact H
                    clear H
                    have H := H1
                    clear H1
                    by_cases c15 : (bt a0 x3_2) < 48
                    · rw [if_pos c15] at H
                      have c15b0 : decide ((bt a0 x3_2) < 48) = true := decide_eq_true c15
                      clear c15
                      obtain rfl := Option.some.inj H
                      have p11 : 0 ≤ (x3_2 : Int) := of_decide_eq_true (by first | (with_reducible assumption) | assumption)
                      have q11 : x3_2 < (a0.size : Int) := of_decide_eq_true (by first | (with_reducible assumption) | assumption)
                      have hx11 := bt_at a0 x3_2
                      replace p11 := eq_true p11
                      replace q11 := eq_true q11
                      go_wp2_with (first | ((with_reducible refine gate_callee (f := 118) rfl ?_); refine goesL_ (some 25) rfl rfl Try.func118 (by kernel_rfl) rfl #[.int .u8 (bt a0 x3_2)] rfl (by (try simp only [List.map_toArray, List.map_cons, List.map_nil]); first | done | rfl | (simp only [List.length_drop, List.length_take]; rfl)) ?_; (with_reducible refine (metrolabref17_letter.calls (bt a0 x3_2) false _ A12.out).mono ?_); rintro e w' ⟨rfl, ⟨nd, rfl⟩⟩; refine ⟨_, rfl, ?_⟩; have p14 : 0 ≤ (x3_2 : Int) := of_decide_eq_true (by first | (with_reducible assumption) | assumption); have q14 : x3_2 < (a0.size : Int) := of_decide_eq_true (by first | (with_reducible assumption) | assumption); have hx14 := bt_at a0 x3_2; replace p14 := eq_true p14; replace q14 := eq_true q14))
                      go_ret
                      exact ⟨by first | rfl | (simp; done) | (simp [*]; done), by repeat (first | exact Drawn0.refl _ | apply Drawn0.step)⟩
                    · rw [if_neg c15] at H
                      have c15b0 : decide ((bt a0 x3_2) < 48) = false := decide_eq_false c15
                      clear c15
                      by_cases c17 : (bt a0 x3_2) > 57
                      · rw [if_pos c17] at H
                        have c17b0 : decide (57 < (bt a0 x3_2)) = true := decide_eq_true c17
                        clear c17
                        obtain rfl := Option.some.inj H
                        have p11 : 0 ≤ (x3_2 : Int) := of_decide_eq_true (by first | (with_reducible assumption) | assumption)
                        have q11 : x3_2 < (a0.size : Int) := of_decide_eq_true (by first | (with_reducible assumption) | assumption)
                        have hx11 := bt_at a0 x3_2
                        replace p11 := eq_true p11
                        replace q11 := eq_true q11
                        go_wp2_with (first | ((with_reducible refine gate_callee (f := 118) rfl ?_); refine goesL_ (some 25) rfl rfl Try.func118 (by kernel_rfl) rfl #[.int .u8 (bt a0 x3_2)] rfl (by (try simp only [List.map_toArray, List.map_cons, List.map_nil]); first | done | rfl | (simp only [List.length_drop, List.length_take]; rfl)) ?_; (with_reducible refine (metrolabref17_letter.calls (bt a0 x3_2) false _ A12.out).mono ?_); rintro e w' ⟨rfl, ⟨nd, rfl⟩⟩; refine ⟨_, rfl, ?_⟩; have p14 : 0 ≤ (x3_2 : Int) := of_decide_eq_true (by first | (with_reducible assumption) | assumption); have q14 : x3_2 < (a0.size : Int) := of_decide_eq_true (by first | (with_reducible assumption) | assumption); have hx14 := bt_at a0 x3_2; replace p14 := eq_true p14; replace q14 := eq_true q14; have p16 : 0 ≤ (x3_2 : Int) := of_decide_eq_true (by first | (with_reducible assumption) | assumption); have q16 : x3_2 < (a0.size : Int) := of_decide_eq_true (by first | (with_reducible assumption) | assumption); have hx16 := bt_at a0 x3_2; replace p16 := eq_true p16; replace q16 := eq_true q16))
                        go_ret
                        exact ⟨by first | rfl | (simp; done) | (simp [*]; done), by repeat (first | exact Drawn0.refl _ | apply Drawn0.step)⟩
                      · rw [if_neg c17] at H
                        have c17b0 : decide (57 < (bt a0 x3_2)) = false := decide_eq_false c17
                        clear c17
                        have H' := Aside0.mk H
                        clear H
                        have p11 : 0 ≤ (x3_2 : Int) := of_decide_eq_true (by first | (with_reducible assumption) | assumption)
                        have q11 : x3_2 < (a0.size : Int) := of_decide_eq_true (by first | (with_reducible assumption) | assumption)
                        have hx11 := bt_at a0 x3_2
                        replace p11 := eq_true p11
                        replace q11 := eq_true q11
                        go_wp2_with (first | ((with_reducible refine gate_callee (f := 118) rfl ?_); refine goesL_ (some 25) rfl rfl Try.func118 (by kernel_rfl) rfl #[.int .u8 (bt a0 x3_2)] rfl (by (try simp only [List.map_toArray, List.map_cons, List.map_nil]); first | done | rfl | (simp only [List.length_drop, List.length_take]; rfl)) ?_; (with_reducible refine (metrolabref17_letter.calls (bt a0 x3_2) false _ A12.out).mono ?_); rintro e w' ⟨rfl, ⟨nd, rfl⟩⟩; refine ⟨_, rfl, ?_⟩; have p14 : 0 ≤ (x3_2 : Int) := of_decide_eq_true (by first | (with_reducible assumption) | assumption); have q14 : x3_2 < (a0.size : Int) := of_decide_eq_true (by first | (with_reducible assumption) | assumption); have hx14 := bt_at a0 x3_2; replace p14 := eq_true p14; replace q14 := eq_true q14; have p16 : 0 ≤ (x3_2 : Int) := of_decide_eq_true (by first | (with_reducible assumption) | assumption); have q16 : x3_2 < (a0.size : Int) := of_decide_eq_true (by first | (with_reducible assumption) | assumption); have hx16 := bt_at a0 x3_2; replace p16 := eq_true p16; replace q16 := eq_true q16))
                        go_roundg k2
                        case measure => have := HJ2.out; have := HK2.out; omega
                        case rel => exact ⟨(wrap64 (x3_2 + 1)), (by first | rfl | (simp; done) | (simp [*]; done)), H', ⟨by have := HJ2.out; have := HK2.out; omega⟩, by repeat (first | exact Drawn0.refl _ | apply Drawn0.step)⟩
                · rw [if_neg c10] at H
                  exact absurd H (by simp)
              · rw [if_neg c9] at H
                have c9b0 : decide (x3_2 < (a0.size : Int)) = false := decide_eq_false c9
                clear c9
                obtain rfl := Option.some.inj H
                go_wp2
                go_ret
                exact ⟨by first | rfl | (simp; done) | (simp [*]; done), by repeat (first | exact Drawn0.refl _ | apply Drawn0.step)⟩
end Go.Proofs.Ytkgdlbepjmgaiaa.Cal
namespace Go.Proofs.Ytkgdlbepjmgaiaa.Cal
open Go.RowKit Go.Proofs.YtkgdlbepjmgaiaaW.PrintWords Go.Proofs.YtkgdlbepjmgaiaaW.PrintLast Go.Proofs.YtkgdlbepjmgaiaaW.PrintMore
attribute [local go_sem] max2_int min2_int max_two min_two max_three min_three max_four min_four
set_option linter.unusedVariables false
set_option linter.unusedSimpArgs false
mutual
def metrolabref52_right.j0 : Nat → ByteArray → ByteArray → Int → Int → Int → Int → Option (Int)
  | 0, _, _, _, _, _, _ => none
  | k + 1, x261000, x261001, x261002, x261003, x261004, x261005 => if x261001.toList = x261000.toList then (some 7) else ((metrolabref17_In.f x261002).bind fun t263 => (if t263 = true then (if x261003 < 0 then (metrolabref52_right.j1 k true x261000 x261001 x261002 x261003 x261004 x261005) else (if x261003 > 100000 then (metrolabref52_right.j1 k true x261000 x261001 x261002 x261003 x261004 x261005) else ((metrolabref52_Day.f x261004).bind fun t264 => (if t264 = 0 then ((metrolabref52_Day.f x261005).bind fun t265 => (metrolabref52_right.j1 k (t265 != 0) x261000 x261001 x261002 x261003 x261004 x261005)) else (metrolabref52_right.j1 k true x261000 x261001 x261002 x261003 x261004 x261005))))) else (metrolabref52_right.j1 k true x261000 x261001 x261002 x261003 x261004 x261005)))
def metrolabref52_right.j1 : Nat → Bool → ByteArray → ByteArray → Int → Int → Int → Int → Option (Int)
  | 0, _, _, _, _, _, _, _ => none
  | k + 1, x50, x261000, x261001, x261002, x261003, x261004, x261005 => if x50 = true then (some 2) else (if x261005 < x261004 then (some 9) else (some 0))
end
def metrolabref52_right.f (k : Nat) (a0_0 : ByteArray) (a0_1 : ByteArray) (a0_2 : Int) (a0_3 : Int) (a0_4 : Int) (a0_5 : Int) : Option (Int) := (metrolabref17_Name.f k a0_0).bind fun t261 => (if t261 = 0 then (if a0_1.toList = ([] : List UInt8) then (metrolabref52_right.j0 k a0_0 a0_1 a0_2 a0_3 a0_4 a0_5) else ((metrolabref17_Name.f k a0_1).bind fun t262 => (if t262 = 0 then (metrolabref52_right.j0 k a0_0 a0_1 a0_2 a0_3 a0_4 a0_5) else (some t262)))) else (some t261))
theorem metrolabref52_right.mono_l : ∀ k, (∀ y0 y1 y2 y3 y4 y5, LeO (metrolabref52_right.j0 k y0 y1 y2 y3 y4 y5) (metrolabref52_right.j0 (k + 1) y0 y1 y2 y3 y4 y5)) ∧ (∀ y0 y1 y2 y3 y4 y5 y6, LeO (metrolabref52_right.j1 k y0 y1 y2 y3 y4 y5 y6) (metrolabref52_right.j1 (k + 1) y0 y1 y2 y3 y4 y5 y6))
  | 0 => ⟨fun _ _ _ _ _ _ r h => by simp [metrolabref52_right.j0] at h, fun _ _ _ _ _ _ _ r h => by simp [metrolabref52_right.j1] at h⟩
  | k + 1 => by
    obtain ⟨ih0, ih1⟩ := metrolabref52_right.mono_l k
    refine ⟨?_, ?_⟩
    · intro y0 y1 y2 y3 y4 y5
      unfold metrolabref52_right.j0
      repeat' first
      | (with_reducible exact ih0 _ _ _ _ _ _)
      | (with_reducible exact ih1 _ _ _ _ _ _ _)
      | (with_reducible exact metrolabref17_Name.mono _ _)
      | (with_reducible exact LeO.refl _)
      | (with_reducible exact LeO.none _)
      | (with_reducible refine LeO.ite ?_ ?_)
      | (with_reducible refine LeO.bind ?_ (fun _ => ?_))
      | exact ih0 _ _ _ _ _ _
      | exact ih1 _ _ _ _ _ _ _
      | exact metrolabref17_Name.mono _ _
      | exact LeO.none _
      | refine LeO.ite ?_ ?_
      | refine LeO.bind ?_ (fun _ => ?_)
    · intro y0 y1 y2 y3 y4 y5 y6
      unfold metrolabref52_right.j1
      repeat' first
      | (with_reducible exact ih0 _ _ _ _ _ _)
      | (with_reducible exact ih1 _ _ _ _ _ _ _)
      | (with_reducible exact metrolabref17_Name.mono _ _)
      | (with_reducible exact LeO.refl _)
      | (with_reducible exact LeO.none _)
      | (with_reducible refine LeO.ite ?_ ?_)
      | (with_reducible refine LeO.bind ?_ (fun _ => ?_))
      | exact ih0 _ _ _ _ _ _
      | exact ih1 _ _ _ _ _ _ _
      | exact metrolabref17_Name.mono _ _
      | exact LeO.none _
      | refine LeO.ite ?_ ?_
      | refine LeO.bind ?_ (fun _ => ?_)
theorem metrolabref52_right.mono : ∀ a0 a1 a2 a3 a4 a5 k, LeO (metrolabref52_right.f k a0 a1 a2 a3 a4 a5) (metrolabref52_right.f (k + 1) a0 a1 a2 a3 a4 a5) := by
  intro a0 a1 a2 a3 a4 a5 k
  obtain ⟨ih0, ih1⟩ := metrolabref52_right.mono_l k
  unfold metrolabref52_right.f
  repeat' first
      | (with_reducible exact ih0 _ _ _ _ _ _)
      | (with_reducible exact ih1 _ _ _ _ _ _ _)
      | (with_reducible exact metrolabref17_Name.mono _ _)
      | (with_reducible exact LeO.refl _)
      | (with_reducible exact LeO.none _)
      | (with_reducible refine LeO.ite ?_ ?_)
      | (with_reducible refine LeO.bind ?_ (fun _ => ?_))
      | exact ih0 _ _ _ _ _ _
      | exact ih1 _ _ _ _ _ _ _
      | exact metrolabref17_Name.mono _ _
      | exact LeO.none _
      | refine LeO.ite ?_ ?_
      | refine LeO.bind ?_ (fun _ => ?_)
set_option maxHeartbeats 8000000 in
set_option maxRecDepth 100000 in
theorem metrolabref52_right.calls (k : Nat) (a0_0 : ByteArray) (a0_1 : ByteArray) (a0_2 : Int) (a0_3 : Int) (a0_4 : Int) (a0_5 : Int) (r : Int) (w : World) (h : metrolabref52_right.f k a0_0 a0_1 a0_2 a0_3 a0_4 a0_5 = some r) :
    Calls Try.prog 86 #[.agg #[.string a0_0, .string a0_1, .int .i64 a0_2, .int .i64 a0_3, .int .i64 a0_4, .int .i64 a0_5]] w fun e w' => e = .returned (.int .i64 r) ∧ Below w.heap.size w w' := by
  have hu121 := Try.underlying121
  have HB := Aside0.mk (Below.refl w.heap.size w)
  have H : ((metrolabref17_Name.f k a0_0).bind fun t261 => (if t261 = 0 then (if a0_1.toList = ([] : List UInt8) then (metrolabref52_right.j0 k a0_0 a0_1 a0_2 a0_3 a0_4 a0_5) else ((metrolabref17_Name.f k a0_1).bind fun t262 => (if t262 = 0 then (metrolabref52_right.j0 k a0_0 a0_1 a0_2 a0_3 a0_4 a0_5) else (some t262)))) else (some t261))) = some r := h
  clear h
  replace H := Option.bind_eq_some_iff.mp H
  obtain ⟨t261, A20, H⟩ := H
  replace H : (if t261 = 0 then (if a0_1.toList = ([] : List UInt8) then (metrolabref52_right.j0 k a0_0 a0_1 a0_2 a0_3 a0_4 a0_5) else ((metrolabref17_Name.f k a0_1).bind fun t262 => (if t262 = 0 then (metrolabref52_right.j0 k a0_0 a0_1 a0_2 a0_3 a0_4 a0_5) else (some t262)))) else (some t261)) = some r := H
  have A2 := Aside0.mk A20
  clear A20
  by_cases c3 : t261 = 0
  · rw [if_pos c3] at H
    have c3b0 : (t261 == 0) = true := beq_iff_eq.mpr c3
    have c3b1 : (t261 != 0) = false := bne_eq_false_iff_eq.mpr c3
    clear c3
    have HC4 := Aside0.mk H
    clear H
    go_enter Try.func86, Try.ntmps86
    go_upto_if 13 with (first | ((with_reducible refine gate_dst (N := 1) rfl ?_); refine box_event ?hg (N := 1) ?hd (cs := #[.string a0_0, .string a0_1, .int .i64 a0_2, .int .i64 a0_3, .int .i64 a0_4, .int .i64 a0_5]) (t := 121) ?hr ?_; (case hd => rfl); (case hg => rfl); (case hr => first | (go_simp; done) | (go_simp; rfl)); intro gb260 hg w5 hbox hb; have n0_ := Aside0.mk (below_step (by repeat (first | (with_reducible first | exact HB.out | apply below_alloc | apply pw_below_drewN | apply below_drew1) | exact HB.out)) hb); have n1_ := Aside0.mk (hbox); have n2_ := Aside0.mk ((by rw [hg]; exact (below_size (by repeat (first | (with_reducible first | exact HB.out | apply below_alloc | apply pw_below_drewN | apply below_drew1) | exact HB.out))) : w.heap.size ≤ gb260)); have n3_ := Aside0.mk ((by rw [hg]; exact (below_size (by repeat (first | (with_reducible first | exact HB.out | apply below_alloc | apply pw_below_drewN | apply below_drew1) | exact HB.out))) : w.heap.size ≤ gb260)); clear HB; have HB := n0_; have BK260 := n1_; have GW260 := n2_; have GE260 := n3_; clear n0_ n1_ n2_ n3_; clear hb hbox hg; have hcz6_0 : w5.cell? ⟨gb260, 0, none⟩ = some (.string a0_0) := (blk_cell BK260.out 0).trans rfl; have hcz6_1 : w5.cell? ⟨gb260, 1, none⟩ = some (.string a0_1) := (blk_cell BK260.out 1).trans rfl; have hcz6_2 : w5.cell? ⟨gb260, 2, none⟩ = some (.int .i64 a0_2) := (blk_cell BK260.out 2).trans rfl; have hcz6_3 : w5.cell? ⟨gb260, 3, none⟩ = some (.int .i64 a0_3) := (blk_cell BK260.out 3).trans rfl; have hcz6_4 : w5.cell? ⟨gb260, 4, none⟩ = some (.int .i64 a0_4) := (blk_cell BK260.out 4).trans rfl; have hcz6_5 : w5.cell? ⟨gb260, 5, none⟩ = some (.int .i64 a0_5) := (blk_cell BK260.out 5).trans rfl; have hfz6_0 := blk_frozen BK260.out 0; have hfz6_1 := blk_frozen BK260.out 1; have hfz6_2 := blk_frozen BK260.out 2; have hfz6_3 := blk_frozen BK260.out 3; have hfz6_4 := blk_frozen BK260.out 4; have hfz6_5 := blk_frozen BK260.out 5) | ((with_reducible refine gate_callee (f := 83) rfl ?_); refine goesL_ (some 7) rfl rfl Try.func83 (by kernel_rfl) rfl #[.string a0_0] rfl (by (try simp only [List.map_toArray, List.map_cons, List.map_nil]); first | done | rfl | (simp only [List.length_drop, List.length_take]; rfl)) ?_; (with_reducible refine (metrolabref17_Name.calls k a0_0 t261 _ A2.out).mono ?_); rintro e w' ⟨rfl, ⟨nd, rfl⟩⟩; refine ⟨_, rfl, ?_⟩))
    (try simp only [Act.put, List.setIfInBounds_toArray, List.set_cons_zero, List.set_cons_succ])
    go_cut [] (fun wc => ∃ (kq : Nat), Aside0 (metrolabref52_right.j0 kq a0_0 a0_1 a0_2 a0_3 a0_4 a0_5 = some r) ∧ Aside0 (kq ≤ k) ∧ Aside0 (wc.heap[gb260]? = some (.cells #[.string a0_0, .string a0_1, .int .i64 a0_2, .int .i64 a0_3, .int .i64 a0_4, .int .i64 a0_5] 121 (0, 0))) ∧ Aside0 (Below w.heap.size w wc))
    case first =>
      have H := HC4.out
      clear HC4
      by_cases c7 : a0_1.toList = ([] : List UInt8)
      · rw [if_pos c7] at H
        have c7b0 : (a0_1.toList == ([] : List UInt8)) = true := beq_iff_eq.mpr c7
        have c7b1 : (a0_1.toList != ([] : List UInt8)) = false := bne_eq_false_iff_eq.mpr c7
        have c7b2 : a0_1.toList.isEmpty = true := by rw [List.isEmpty_iff]; exact c7
        clear c7
        (first | rw [c7b0] | (simp only [i64_w, i32_w]; rw [c7b0]) | (rw [c7b2]; try simp only [Bool.not_true, Bool.not_false]) | skip)
        have H' := Aside0.mk H
        clear H
        go_wp2
        go_meet
        case rel => exact ⟨_, H', ⟨by first | omega | exact Nat.le_refl _⟩, ⟨by (with_reducible repeat (first | refine blk_drewN ?_ _ | refine blk_drew ?_ | refine blk_alloc ?_ _)); exact BK260.out⟩, ⟨by repeat (first | (with_reducible first | exact HB.out | apply below_alloc | apply pw_below_drewN | apply below_drew1 | refine below_set ?_ GE260.out) | exact HB.out)⟩⟩
      · rw [if_neg c7] at H
        have c7b0 : (a0_1.toList == ([] : List UInt8)) = false := beq_eq_false_iff_ne.mpr c7
        have c7b1 : (a0_1.toList != ([] : List UInt8)) = true := bne_iff_ne.mpr c7
        have c7b2 : a0_1.toList.isEmpty = false := by rw [List.isEmpty_eq_false_iff]; exact c7
        (first | rw [c7b0] | (simp only [i64_w, i32_w]; rw [c7b0]) | (rw [c7b2]; try simp only [Bool.not_true, Bool.not_false]) | skip)
        replace H := Option.bind_eq_some_iff.mp H
        obtain ⟨t262, A80, H⟩ := H
        replace H : (if t262 = 0 then (metrolabref52_right.j0 k a0_0 a0_1 a0_2 a0_3 a0_4 a0_5) else (some t262)) = some r := H
        have A8 := Aside0.mk A80
        clear A80
        by_cases c9 : t262 = 0
        · rw [if_pos c9] at H
          have c9b0 : (t262 == 0) = true := beq_iff_eq.mpr c9
          have c9b1 : (t262 != 0) = false := bne_eq_false_iff_eq.mpr c9
          clear c9
          have H' := Aside0.mk H
          clear H
          have hcz10_0 : w5.cell? ⟨gb260, 0, none⟩ = some (.string a0_0) := (blk_cell BK260.out 0).trans rfl
          have hcz10_1 : w5.cell? ⟨gb260, 1, none⟩ = some (.string a0_1) := (blk_cell BK260.out 1).trans rfl
          have hcz10_2 : w5.cell? ⟨gb260, 2, none⟩ = some (.int .i64 a0_2) := (blk_cell BK260.out 2).trans rfl
          have hcz10_3 : w5.cell? ⟨gb260, 3, none⟩ = some (.int .i64 a0_3) := (blk_cell BK260.out 3).trans rfl
          have hcz10_4 : w5.cell? ⟨gb260, 4, none⟩ = some (.int .i64 a0_4) := (blk_cell BK260.out 4).trans rfl
          have hcz10_5 : w5.cell? ⟨gb260, 5, none⟩ = some (.int .i64 a0_5) := (blk_cell BK260.out 5).trans rfl
          have hfz10_0 := blk_frozen BK260.out 0
          have hfz10_1 := blk_frozen BK260.out 1
          have hfz10_2 := blk_frozen BK260.out 2
          have hfz10_3 := blk_frozen BK260.out 3
          have hfz10_4 := blk_frozen BK260.out 4
          have hfz10_5 := blk_frozen BK260.out 5
          go_wp2_with (first | ((with_reducible refine gate_callee (f := 83) rfl ?_); refine goesL_ (some 16) rfl rfl Try.func83 (by kernel_rfl) rfl #[.string a0_1] rfl (by (try simp only [List.map_toArray, List.map_cons, List.map_nil]); first | done | rfl | (simp only [List.length_drop, List.length_take]; rfl)) ?_; (with_reducible refine (metrolabref17_Name.calls k a0_1 t262 _ A8.out).mono ?_); rintro e w' ⟨rfl, ⟨nd, rfl⟩⟩; refine ⟨_, rfl, ?_⟩))
          go_meet
          case rel => exact ⟨_, H', ⟨by first | omega | exact Nat.le_refl _⟩, ⟨by (with_reducible repeat (first | refine blk_drewN ?_ _ | refine blk_drew ?_ | refine blk_alloc ?_ _)); exact BK260.out⟩, ⟨by repeat (first | (with_reducible first | exact HB.out | apply below_alloc | apply pw_below_drewN | apply below_drew1 | refine below_set ?_ GE260.out) | exact HB.out)⟩⟩
        · rw [if_neg c9] at H
          have c9b0 : (t262 == 0) = false := beq_eq_false_iff_ne.mpr c9
          have c9b1 : (t262 != 0) = true := bne_iff_ne.mpr c9
          obtain rfl := Option.some.inj H
          have hcz11_0 : w5.cell? ⟨gb260, 0, none⟩ = some (.string a0_0) := (blk_cell BK260.out 0).trans rfl
          have hcz11_1 : w5.cell? ⟨gb260, 1, none⟩ = some (.string a0_1) := (blk_cell BK260.out 1).trans rfl
          have hcz11_2 : w5.cell? ⟨gb260, 2, none⟩ = some (.int .i64 a0_2) := (blk_cell BK260.out 2).trans rfl
          have hcz11_3 : w5.cell? ⟨gb260, 3, none⟩ = some (.int .i64 a0_3) := (blk_cell BK260.out 3).trans rfl
          have hcz11_4 : w5.cell? ⟨gb260, 4, none⟩ = some (.int .i64 a0_4) := (blk_cell BK260.out 4).trans rfl
          have hcz11_5 : w5.cell? ⟨gb260, 5, none⟩ = some (.int .i64 a0_5) := (blk_cell BK260.out 5).trans rfl
          have hfz11_0 := blk_frozen BK260.out 0
          have hfz11_1 := blk_frozen BK260.out 1
          have hfz11_2 := blk_frozen BK260.out 2
          have hfz11_3 := blk_frozen BK260.out 3
          have hfz11_4 := blk_frozen BK260.out 4
          have hfz11_5 := blk_frozen BK260.out 5
          go_wp2_with (first | ((with_reducible refine gate_callee (f := 83) rfl ?_); refine goesL_ (some 16) rfl rfl Try.func83 (by kernel_rfl) rfl #[.string a0_1] rfl (by (try simp only [List.map_toArray, List.map_cons, List.map_nil]); first | done | rfl | (simp only [List.length_drop, List.length_take]; rfl)) ?_; (with_reducible refine (metrolabref17_Name.calls k a0_1 t262 _ A8.out).mono ?_); rintro e w' ⟨rfl, ⟨nd, rfl⟩⟩; refine ⟨_, rfl, ?_⟩))
          go_ret
          exact ⟨by first | rfl | (simp [errW_none, errW_some] <;> rfl) | (simp [*, errW_none, errW_some] <;> rfl), by repeat (first | (with_reducible first | exact HB.out | apply below_alloc | apply pw_below_drewN | apply below_drew1 | refine below_set ?_ GE260.out) | exact HB.out)⟩
    case rest =>
      clear HC4
      try clear p2
      try clear c3
      try clear c3b0
      try clear c3b1
      try clear c7
      try clear c7b0
      try clear c7b1
      try clear c7b2
      try clear c8
      try clear c9
      try clear c9b0
      try clear c9b1
      try clear hcz10_0
      try clear hcz10_1
      try clear hcz10_2
      try clear hcz10_3
      try clear hcz10_4
      try clear hcz10_5
      try clear hcz11_0
      try clear hcz11_1
      try clear hcz11_2
      try clear hcz11_3
      try clear hcz11_4
      try clear hcz11_5
      try clear hcz6_0
      try clear hcz6_1
      try clear hcz6_2
      try clear hcz6_3
      try clear hcz6_4
      try clear hcz6_5
      try clear hfz10_0
      try clear hfz10_1
      try clear hfz10_2
      try clear hfz10_3
      try clear hfz10_4
      try clear hfz10_5
      try clear hfz11_0
      try clear hfz11_1
      try clear hfz11_2
      try clear hfz11_3
      try clear hfz11_4
      try clear hfz11_5
      try clear hfz6_0
      try clear hfz6_1
      try clear hfz6_2
      try clear hfz6_3
      try clear hfz6_4
      try clear hfz6_5
      obtain ⟨kq, HA, HJ3, BK260, HB⟩ := hcut
      cases kq with
      | zero => exact absurd HA.out (by simp [metrolabref52_right.j0])
      | succ kj3 =>
        have H := HA.out
        clear HA
        simp only [metrolabref52_right.j0] at H
        by_cases c12 : a0_1.toList = a0_0.toList
        · rw [if_pos c12] at H
          have c12b0 : (a0_1.toList == a0_0.toList) = true := beq_iff_eq.mpr c12
          have c12b1 : (a0_1.toList != a0_0.toList) = false := bne_eq_false_iff_eq.mpr c12
          clear c12
          obtain rfl := Option.some.inj H
          have hcz13_0 : wc.cell? ⟨gb260, 0, none⟩ = some (.string a0_0) := (blk_cell BK260.out 0).trans rfl
          have hcz13_1 : wc.cell? ⟨gb260, 1, none⟩ = some (.string a0_1) := (blk_cell BK260.out 1).trans rfl
          have hcz13_2 : wc.cell? ⟨gb260, 2, none⟩ = some (.int .i64 a0_2) := (blk_cell BK260.out 2).trans rfl
          have hcz13_3 : wc.cell? ⟨gb260, 3, none⟩ = some (.int .i64 a0_3) := (blk_cell BK260.out 3).trans rfl
          have hcz13_4 : wc.cell? ⟨gb260, 4, none⟩ = some (.int .i64 a0_4) := (blk_cell BK260.out 4).trans rfl
          have hcz13_5 : wc.cell? ⟨gb260, 5, none⟩ = some (.int .i64 a0_5) := (blk_cell BK260.out 5).trans rfl
          have hfz13_0 := blk_frozen BK260.out 0
          have hfz13_1 := blk_frozen BK260.out 1
          have hfz13_2 := blk_frozen BK260.out 2
          have hfz13_3 := blk_frozen BK260.out 3
          have hfz13_4 := blk_frozen BK260.out 4
          have hfz13_5 := blk_frozen BK260.out 5
          go_wp2
          go_ret
          exact ⟨by first | rfl | (simp [errW_none, errW_some] <;> rfl) | (simp [*, errW_none, errW_some] <;> rfl), by repeat (first | (with_reducible first | exact HB.out | apply below_alloc | apply pw_below_drewN | apply below_drew1 | refine below_set ?_ GE260.out) | exact HB.out)⟩
        · rw [if_neg c12] at H
          have c12b0 : (a0_1.toList == a0_0.toList) = false := beq_eq_false_iff_ne.mpr c12
          have c12b1 : (a0_1.toList != a0_0.toList) = true := bne_iff_ne.mpr c12
          have HC14 := Aside0.mk H
          clear H
          have hcz15_0 : wc.cell? ⟨gb260, 0, none⟩ = some (.string a0_0) := (blk_cell BK260.out 0).trans rfl
          have hcz15_1 : wc.cell? ⟨gb260, 1, none⟩ = some (.string a0_1) := (blk_cell BK260.out 1).trans rfl
          have hcz15_2 : wc.cell? ⟨gb260, 2, none⟩ = some (.int .i64 a0_2) := (blk_cell BK260.out 2).trans rfl
          have hcz15_3 : wc.cell? ⟨gb260, 3, none⟩ = some (.int .i64 a0_3) := (blk_cell BK260.out 3).trans rfl
          have hcz15_4 : wc.cell? ⟨gb260, 4, none⟩ = some (.int .i64 a0_4) := (blk_cell BK260.out 4).trans rfl
          have hcz15_5 : wc.cell? ⟨gb260, 5, none⟩ = some (.int .i64 a0_5) := (blk_cell BK260.out 5).trans rfl
          have hfz15_0 := blk_frozen BK260.out 0
          have hfz15_1 := blk_frozen BK260.out 1
          have hfz15_2 := blk_frozen BK260.out 2
          have hfz15_3 := blk_frozen BK260.out 3
          have hfz15_4 := blk_frozen BK260.out 4
          have hfz15_5 := blk_frozen BK260.out 5
          go_upto_region 10 with (fail)
          go_cut [50] (fun v50 wc => ∃ (kq : Nat) (x50_13 : Bool), v50 = .bool x50_13 ∧ Aside0 (metrolabref52_right.j1 kq x50_13 a0_0 a0_1 a0_2 a0_3 a0_4 a0_5 = some r) ∧ Aside0 (kq ≤ kj3) ∧ Aside0 (wc.heap[gb260]? = some (.cells #[.string a0_0, .string a0_1, .int .i64 a0_2, .int .i64 a0_3, .int .i64 a0_4, .int .i64 a0_5] 121 (0, 0))) ∧ Aside0 (Below w.heap.size w wc))
          case first =>
            have H := HC14.out
            clear HC14
            replace H := Option.bind_eq_some_iff.mp H
            obtain ⟨t263, A160, H⟩ := H
            replace H : (if t263 = true then (if a0_3 < 0 then (metrolabref52_right.j1 kj3 true a0_0 a0_1 a0_2 a0_3 a0_4 a0_5) else (if a0_3 > 100000 then (metrolabref52_right.j1 kj3 true a0_0 a0_1 a0_2 a0_3 a0_4 a0_5) else ((metrolabref52_Day.f a0_4).bind fun t264 => (if t264 = 0 then ((metrolabref52_Day.f a0_5).bind fun t265 => (metrolabref52_right.j1 kj3 (t265 != 0) a0_0 a0_1 a0_2 a0_3 a0_4 a0_5)) else (metrolabref52_right.j1 kj3 true a0_0 a0_1 a0_2 a0_3 a0_4 a0_5))))) else (metrolabref52_right.j1 kj3 true a0_0 a0_1 a0_2 a0_3 a0_4 a0_5)) = some r := H
            have A16 := Aside0.mk A160
            clear A160
            by_cases c17 : t263 = true
            · subst c17
              have H1 : (if a0_3 < 0 then (metrolabref52_right.j1 kj3 true a0_0 a0_1 a0_2 a0_3 a0_4 a0_5) else (if a0_3 > 100000 then (metrolabref52_right.j1 kj3 true a0_0 a0_1 a0_2 a0_3 a0_4 a0_5) else ((metrolabref52_Day.f a0_4).bind fun t264 => (if t264 = 0 then ((metrolabref52_Day.f a0_5).bind fun t265 => (metrolabref52_right.j1 kj3 (t265 != 0) a0_0 a0_1 a0_2 a0_3 a0_4 a0_5)) else (metrolabref52_right.j1 kj3 true a0_0 a0_1 a0_2 a0_3 a0_4 a0_5))))) = some r := by rw [if_pos rfl] at H; exact H
              clear H
              have H := H1
              clear H1
              by_cases c18 : a0_3 < 0
              · rw [if_pos c18] at H
                have c18b0 : decide (a0_3 < 0) = true := decide_eq_true c18
                clear c18
                (first | rw [c18b0] | (simp only [i64_w, i32_w]; rw [c18b0]) | (rw [c18b2]; try simp only [Bool.not_true, Bool.not_false]) | skip)
                have H' := Aside0.mk H
                clear H
                have hcz19_0 : wc.cell? ⟨gb260, 0, none⟩ = some (.string a0_0) := (blk_cell BK260.out 0).trans rfl
                have hcz19_1 : wc.cell? ⟨gb260, 1, none⟩ = some (.string a0_1) := (blk_cell BK260.out 1).trans rfl
                have hcz19_2 : wc.cell? ⟨gb260, 2, none⟩ = some (.int .i64 a0_2) := (blk_cell BK260.out 2).trans rfl
                have hcz19_3 : wc.cell? ⟨gb260, 3, none⟩ = some (.int .i64 a0_3) := (blk_cell BK260.out 3).trans rfl
                have hcz19_4 : wc.cell? ⟨gb260, 4, none⟩ = some (.int .i64 a0_4) := (blk_cell BK260.out 4).trans rfl
                have hcz19_5 : wc.cell? ⟨gb260, 5, none⟩ = some (.int .i64 a0_5) := (blk_cell BK260.out 5).trans rfl
                have hfz19_0 := blk_frozen BK260.out 0
                have hfz19_1 := blk_frozen BK260.out 1
                have hfz19_2 := blk_frozen BK260.out 2
                have hfz19_3 := blk_frozen BK260.out 3
                have hfz19_4 := blk_frozen BK260.out 4
                have hfz19_5 := blk_frozen BK260.out 5
                go_wp2_with (first | ((with_reducible refine gate_callee (f := 66) rfl ?_); refine goesL_ (some 27) rfl rfl Try.func66 (by kernel_rfl) rfl #[.int .i64 a0_2] rfl (by (try simp only [List.map_toArray, List.map_cons, List.map_nil]); first | done | rfl | (simp only [List.length_drop, List.length_take]; rfl)) ?_; (with_reducible refine (metrolabref17_In.calls a0_2 true _ A16.out).mono ?_); rintro e w' ⟨rfl, ⟨nd, rfl⟩⟩; refine ⟨_, rfl, ?_⟩))
                go_meet
                case rel => exact ⟨_, (true), (by first | rfl | (simp; done) | (simp [*]; done)), H', ⟨by have := HJ3.out; first | omega | exact Nat.le_refl _⟩, ⟨by (with_reducible repeat (first | refine blk_drewN ?_ _ | refine blk_drew ?_ | refine blk_alloc ?_ _)); exact BK260.out⟩, ⟨by repeat (first | (with_reducible first | exact HB.out | apply below_alloc | apply pw_below_drewN | apply below_drew1 | refine below_set ?_ GE260.out) | exact HB.out)⟩⟩
              · rw [if_neg c18] at H
                have c18b0 : decide (a0_3 < 0) = false := decide_eq_false c18
                clear c18
                (first | rw [c18b0] | (simp only [i64_w, i32_w]; rw [c18b0]) | (rw [c18b2]; try simp only [Bool.not_true, Bool.not_false]) | skip)
                by_cases c20 : a0_3 > 100000
                · rw [if_pos c20] at H
                  have c20b0 : decide (100000 < a0_3) = true := decide_eq_true c20
                  clear c20
                  have H' := Aside0.mk H
                  clear H
                  have hcz21_0 : wc.cell? ⟨gb260, 0, none⟩ = some (.string a0_0) := (blk_cell BK260.out 0).trans rfl
                  have hcz21_1 : wc.cell? ⟨gb260, 1, none⟩ = some (.string a0_1) := (blk_cell BK260.out 1).trans rfl
                  have hcz21_2 : wc.cell? ⟨gb260, 2, none⟩ = some (.int .i64 a0_2) := (blk_cell BK260.out 2).trans rfl
                  have hcz21_3 : wc.cell? ⟨gb260, 3, none⟩ = some (.int .i64 a0_3) := (blk_cell BK260.out 3).trans rfl
                  have hcz21_4 : wc.cell? ⟨gb260, 4, none⟩ = some (.int .i64 a0_4) := (blk_cell BK260.out 4).trans rfl
                  have hcz21_5 : wc.cell? ⟨gb260, 5, none⟩ = some (.int .i64 a0_5) := (blk_cell BK260.out 5).trans rfl
                  have hfz21_0 := blk_frozen BK260.out 0
                  have hfz21_1 := blk_frozen BK260.out 1
                  have hfz21_2 := blk_frozen BK260.out 2
                  have hfz21_3 := blk_frozen BK260.out 3
                  have hfz21_4 := blk_frozen BK260.out 4
                  have hfz21_5 := blk_frozen BK260.out 5
                  go_wp2_with (first | ((with_reducible refine gate_callee (f := 66) rfl ?_); refine goesL_ (some 27) rfl rfl Try.func66 (by kernel_rfl) rfl #[.int .i64 a0_2] rfl (by (try simp only [List.map_toArray, List.map_cons, List.map_nil]); first | done | rfl | (simp only [List.length_drop, List.length_take]; rfl)) ?_; (with_reducible refine (metrolabref17_In.calls a0_2 true _ A16.out).mono ?_); rintro e w' ⟨rfl, ⟨nd, rfl⟩⟩; refine ⟨_, rfl, ?_⟩))
                  go_meet
                  case rel => exact ⟨_, (true), (by first | rfl | (simp; done) | (simp [*]; done)), H', ⟨by have := HJ3.out; first | omega | exact Nat.le_refl _⟩, ⟨by (with_reducible repeat (first | refine blk_drewN ?_ _ | refine blk_drew ?_ | refine blk_alloc ?_ _)); exact BK260.out⟩, ⟨by repeat (first | (with_reducible first | exact HB.out | apply below_alloc | apply pw_below_drewN | apply below_drew1 | refine below_set ?_ GE260.out) | exact HB.out)⟩⟩
                · rw [if_neg c20] at H
                  have c20b0 : decide (100000 < a0_3) = false := decide_eq_false c20
                  clear c20
                  replace H := Option.bind_eq_some_iff.mp H
                  obtain ⟨t264, A220, H⟩ := H
                  replace H : (if t264 = 0 then ((metrolabref52_Day.f a0_5).bind fun t265 => (metrolabref52_right.j1 kj3 (t265 != 0) a0_0 a0_1 a0_2 a0_3 a0_4 a0_5)) else (metrolabref52_right.j1 kj3 true a0_0 a0_1 a0_2 a0_3 a0_4 a0_5)) = some r := H
                  have A22 := Aside0.mk A220
                  clear A220
                  by_cases c23 : t264 = 0
                  · rw [if_pos c23] at H
                    have c23b0 : (t264 == 0) = true := beq_iff_eq.mpr c23
                    have c23b1 : (t264 != 0) = false := bne_eq_false_iff_eq.mpr c23
                    clear c23
                    replace H := Option.bind_eq_some_iff.mp H
                    obtain ⟨t265, A240, H⟩ := H
                    replace H : (metrolabref52_right.j1 kj3 (t265 != 0) a0_0 a0_1 a0_2 a0_3 a0_4 a0_5) = some r := H
                    have A24 := Aside0.mk A240
                    clear A240
                    have H' := Aside0.mk H
                    clear H
                    have hcz25_0 : wc.cell? ⟨gb260, 0, none⟩ = some (.string a0_0) := (blk_cell BK260.out 0).trans rfl
                    have hcz25_1 : wc.cell? ⟨gb260, 1, none⟩ = some (.string a0_1) := (blk_cell BK260.out 1).trans rfl
                    have hcz25_2 : wc.cell? ⟨gb260, 2, none⟩ = some (.int .i64 a0_2) := (blk_cell BK260.out 2).trans rfl
                    have hcz25_3 : wc.cell? ⟨gb260, 3, none⟩ = some (.int .i64 a0_3) := (blk_cell BK260.out 3).trans rfl
                    have hcz25_4 : wc.cell? ⟨gb260, 4, none⟩ = some (.int .i64 a0_4) := (blk_cell BK260.out 4).trans rfl
                    have hcz25_5 : wc.cell? ⟨gb260, 5, none⟩ = some (.int .i64 a0_5) := (blk_cell BK260.out 5).trans rfl
                    have hfz25_0 := blk_frozen BK260.out 0
                    have hfz25_1 := blk_frozen BK260.out 1
                    have hfz25_2 := blk_frozen BK260.out 2
                    have hfz25_3 := blk_frozen BK260.out 3
                    have hfz25_4 := blk_frozen BK260.out 4
                    have hfz25_5 := blk_frozen BK260.out 5
                    go_wp2_with (first | ((with_reducible refine gate_callee (f := 66) rfl ?_); refine goesL_ (some 27) rfl rfl Try.func66 (by kernel_rfl) rfl #[.int .i64 a0_2] rfl (by (try simp only [List.map_toArray, List.map_cons, List.map_nil]); first | done | rfl | (simp only [List.length_drop, List.length_take]; rfl)) ?_; (with_reducible refine (metrolabref17_In.calls a0_2 true _ A16.out).mono ?_); rintro e w' ⟨rfl, ⟨nd, rfl⟩⟩; refine ⟨_, rfl, ?_⟩) | (go_at_call 38; (with_reducible refine (metrolabref52_Day.calls a0_4 t264 _ A22.out).mono ?_); rintro e w' ⟨rfl, ⟨nd, rfl⟩⟩) | (go_at_call 38; (with_reducible refine (metrolabref52_Day.calls a0_5 t265 _ A24.out).mono ?_); rintro e w' ⟨rfl, ⟨nd, rfl⟩⟩))
                    go_meet
                    case rel => exact ⟨_, ((t265 != 0)), (by first | rfl | (simp; done) | (simp [*]; done)), H', ⟨by have := HJ3.out; first | omega | exact Nat.le_refl _⟩, ⟨by (with_reducible repeat (first | refine blk_drewN ?_ _ | refine blk_drew ?_ | refine blk_alloc ?_ _)); exact BK260.out⟩, ⟨by repeat (first | (with_reducible first | exact HB.out | apply below_alloc | apply pw_below_drewN | apply below_drew1 | refine below_set ?_ GE260.out) | exact HB.out)⟩⟩
                  · rw [if_neg c23] at H
                    have c23b0 : (t264 == 0) = false := beq_eq_false_iff_ne.mpr c23
                    have c23b1 : (t264 != 0) = true := bne_iff_ne.mpr c23
                    have H' := Aside0.mk H
                    clear H
                    have hcz26_0 : wc.cell? ⟨gb260, 0, none⟩ = some (.string a0_0) := (blk_cell BK260.out 0).trans rfl
                    have hcz26_1 : wc.cell? ⟨gb260, 1, none⟩ = some (.string a0_1) := (blk_cell BK260.out 1).trans rfl
                    have hcz26_2 : wc.cell? ⟨gb260, 2, none⟩ = some (.int .i64 a0_2) := (blk_cell BK260.out 2).trans rfl
                    have hcz26_3 : wc.cell? ⟨gb260, 3, none⟩ = some (.int .i64 a0_3) := (blk_cell BK260.out 3).trans rfl
                    have hcz26_4 : wc.cell? ⟨gb260, 4, none⟩ = some (.int .i64 a0_4) := (blk_cell BK260.out 4).trans rfl
                    have hcz26_5 : wc.cell? ⟨gb260, 5, none⟩ = some (.int .i64 a0_5) := (blk_cell BK260.out 5).trans rfl
                    have hfz26_0 := blk_frozen BK260.out 0
                    have hfz26_1 := blk_frozen BK260.out 1
                    have hfz26_2 := blk_frozen BK260.out 2
                    have hfz26_3 := blk_frozen BK260.out 3
                    have hfz26_4 := blk_frozen BK260.out 4
                    have hfz26_5 := blk_frozen BK260.out 5
                    go_wp2_with (first | ((with_reducible refine gate_callee (f := 66) rfl ?_); refine goesL_ (some 27) rfl rfl Try.func66 (by kernel_rfl) rfl #[.int .i64 a0_2] rfl (by (try simp only [List.map_toArray, List.map_cons, List.map_nil]); first | done | rfl | (simp only [List.length_drop, List.length_take]; rfl)) ?_; (with_reducible refine (metrolabref17_In.calls a0_2 true _ A16.out).mono ?_); rintro e w' ⟨rfl, ⟨nd, rfl⟩⟩; refine ⟨_, rfl, ?_⟩) | (go_at_call 38; (with_reducible refine (metrolabref52_Day.calls a0_4 t264 _ A22.out).mono ?_); rintro e w' ⟨rfl, ⟨nd, rfl⟩⟩))
                    go_meet
                    case rel => exact ⟨_, (true), (by first | rfl | (simp; done) | (simp [*]; done)), H', ⟨by have := HJ3.out; first | omega | exact Nat.le_refl _⟩, ⟨by (with_reducible repeat (first | refine blk_drewN ?_ _ | refine blk_drew ?_ | refine blk_alloc ?_ _)); exact BK260.out⟩, ⟨by repeat (first | (with_reducible first | exact HB.out | apply below_alloc | apply pw_below_drewN | apply below_drew1 | refine below_set ?_ GE260.out) | exact HB.out)⟩⟩
            · replace c17 := Bool.eq_false_iff.mpr c17
              subst c17
              have H1 : (metrolabref52_right.j1 kj3 true a0_0 a0_1 a0_2 a0_3 a0_4 a0_5) = some r := by rw [if_neg (show ¬ (false = true) by decide)] at H; exact H
              clear H
              have H := H1
              clear H1
              have H' := Aside0.mk H
              clear H
              have hcz27_0 : wc.cell? ⟨gb260, 0, none⟩ = some (.string a0_0) := (blk_cell BK260.out 0).trans rfl
              have hcz27_1 : wc.cell? ⟨gb260, 1, none⟩ = some (.string a0_1) := (blk_cell BK260.out 1).trans rfl
              have hcz27_2 : wc.cell? ⟨gb260, 2, none⟩ = some (.int .i64 a0_2) := (blk_cell BK260.out 2).trans rfl
              have hcz27_3 : wc.cell? ⟨gb260, 3, none⟩ = some (.int .i64 a0_3) := (blk_cell BK260.out 3).trans rfl
              have hcz27_4 : wc.cell? ⟨gb260, 4, none⟩ = some (.int .i64 a0_4) := (blk_cell BK260.out 4).trans rfl
              have hcz27_5 : wc.cell? ⟨gb260, 5, none⟩ = some (.int .i64 a0_5) := (blk_cell BK260.out 5).trans rfl
              have hfz27_0 := blk_frozen BK260.out 0
              have hfz27_1 := blk_frozen BK260.out 1
              have hfz27_2 := blk_frozen BK260.out 2
              have hfz27_3 := blk_frozen BK260.out 3
              have hfz27_4 := blk_frozen BK260.out 4
              have hfz27_5 := blk_frozen BK260.out 5
              go_wp2_with (first | ((with_reducible refine gate_callee (f := 66) rfl ?_); refine goesL_ (some 27) rfl rfl Try.func66 (by kernel_rfl) rfl #[.int .i64 a0_2] rfl (by (try simp only [List.map_toArray, List.map_cons, List.map_nil]); first | done | rfl | (simp only [List.length_drop, List.length_take]; rfl)) ?_; (with_reducible refine (metrolabref17_In.calls a0_2 false _ A16.out).mono ?_); rintro e w' ⟨rfl, ⟨nd, rfl⟩⟩; refine ⟨_, rfl, ?_⟩))
              go_meet
              case rel => exact ⟨_, (true), (by first | rfl | (simp; done) | (simp [*]; done)), H', ⟨by have := HJ3.out; first | omega | exact Nat.le_refl _⟩, ⟨by (with_reducible repeat (first | refine blk_drewN ?_ _ | refine blk_drew ?_ | refine blk_alloc ?_ _)); exact BK260.out⟩, ⟨by repeat (first | (with_reducible first | exact HB.out | apply below_alloc | apply pw_below_drewN | apply below_drew1 | refine below_set ?_ GE260.out) | exact HB.out)⟩⟩
          case rest =>
            clear HC14
            try clear c1
            try clear c2
            try clear p2
            try clear c3
            try clear c3b0
            try clear c3b1
            try clear c6
            try clear c7
            try clear c7b0
            try clear c7b1
            try clear c7b2
            try clear c8
            try clear c9
            try clear c9b0
            try clear c9b1
            try clear c12
            try clear c12b0
            try clear c12b1
            try clear c17
            try clear c18
            try clear c18b0
            try clear c18b2
            try clear c20
            try clear c20b0
            try clear c23
            try clear c23b0
            try clear c23b1
            try clear hcz10_0
            try clear hcz10_1
            try clear hcz10_2
            try clear hcz10_3
            try clear hcz10_4
            try clear hcz10_5
            try clear hcz11_0
            try clear hcz11_1
            try clear hcz11_2
            try clear hcz11_3
            try clear hcz11_4
            try clear hcz11_5
            try clear hcz13_0
            try clear hcz13_1
            try clear hcz13_2
            try clear hcz13_3
            try clear hcz13_4
            try clear hcz13_5
            try clear hcz15_0
            try clear hcz15_1
            try clear hcz15_2
            try clear hcz15_3
            try clear hcz15_4
            try clear hcz15_5
            try clear hcz19_0
            try clear hcz19_1
            try clear hcz19_2
            try clear hcz19_3
            try clear hcz19_4
            try clear hcz19_5
            try clear hcz21_0
            try clear hcz21_1
            try clear hcz21_2
            try clear hcz21_3
            try clear hcz21_4
            try clear hcz21_5
            try clear hcz25_0
            try clear hcz25_1
            try clear hcz25_2
            try clear hcz25_3
            try clear hcz25_4
            try clear hcz25_5
            try clear hcz26_0
            try clear hcz26_1
            try clear hcz26_2
            try clear hcz26_3
            try clear hcz26_4
            try clear hcz26_5
            try clear hcz27_0
            try clear hcz27_1
            try clear hcz27_2
            try clear hcz27_3
            try clear hcz27_4
            try clear hcz27_5
            try clear hcz6_0
            try clear hcz6_1
            try clear hcz6_2
            try clear hcz6_3
            try clear hcz6_4
            try clear hcz6_5
            try clear hfz10_0
            try clear hfz10_1
            try clear hfz10_2
            try clear hfz10_3
            try clear hfz10_4
            try clear hfz10_5
            try clear hfz11_0
            try clear hfz11_1
            try clear hfz11_2
            try clear hfz11_3
            try clear hfz11_4
            try clear hfz11_5
            try clear hfz13_0
            try clear hfz13_1
            try clear hfz13_2
            try clear hfz13_3
            try clear hfz13_4
            try clear hfz13_5
            try clear hfz15_0
            try clear hfz15_1
            try clear hfz15_2
            try clear hfz15_3
            try clear hfz15_4
            try clear hfz15_5
            try clear hfz19_0
            try clear hfz19_1
            try clear hfz19_2
            try clear hfz19_3
            try clear hfz19_4
            try clear hfz19_5
            try clear hfz21_0
            try clear hfz21_1
            try clear hfz21_2
            try clear hfz21_3
            try clear hfz21_4
            try clear hfz21_5
            try clear hfz25_0
            try clear hfz25_1
            try clear hfz25_2
            try clear hfz25_3
            try clear hfz25_4
            try clear hfz25_5
            try clear hfz26_0
            try clear hfz26_1
            try clear hfz26_2
            try clear hfz26_3
            try clear hfz26_4
            try clear hfz26_5
            try clear hfz27_0
            try clear hfz27_1
            try clear hfz27_2
            try clear hfz27_3
            try clear hfz27_4
            try clear hfz27_5
            try clear hfz6_0
            try clear hfz6_1
            try clear hfz6_2
            try clear hfz6_3
            try clear hfz6_4
            try clear hfz6_5
            try clear p2
            obtain ⟨kq, x50_13, rfl, HA, HJ13, BK260, HB⟩ := hcut
            cases kq with
            | zero => exact absurd HA.out (by simp [metrolabref52_right.j1])
            | succ kj13 =>
              have H := HA.out
              clear HA
              simp only [metrolabref52_right.j1] at H
              by_cases c28 : x50_13 = true
              · subst c28
                have H1 : (some 2) = some r := by rw [if_pos rfl] at H; exact H
                clear H
                have H := H1
                clear H1
                obtain rfl := Option.some.inj H
                go_wp2
                go_ret
                exact ⟨by first | rfl | (simp [errW_none, errW_some] <;> rfl) | (simp [*, errW_none, errW_some] <;> rfl), by repeat (first | (with_reducible first | exact HB.out | apply below_alloc | apply pw_below_drewN | apply below_drew1 | refine below_set ?_ GE260.out) | exact HB.out)⟩
              · replace c28 := Bool.eq_false_iff.mpr c28
                subst c28
                have H1 : (if a0_5 < a0_4 then (some 9) else (some 0)) = some r := by rw [if_neg (show ¬ (false = true) by decide)] at H; exact H
                clear H
                have H := H1
                clear H1
                by_cases c29 : a0_5 < a0_4
                · rw [if_pos c29] at H
                  have c29b0 : decide (a0_5 < a0_4) = true := decide_eq_true c29
                  clear c29
                  obtain rfl := Option.some.inj H
                  have hcz30_0 : wc.cell? ⟨gb260, 0, none⟩ = some (.string a0_0) := (blk_cell BK260.out 0).trans rfl
                  have hcz30_1 : wc.cell? ⟨gb260, 1, none⟩ = some (.string a0_1) := (blk_cell BK260.out 1).trans rfl
                  have hcz30_2 : wc.cell? ⟨gb260, 2, none⟩ = some (.int .i64 a0_2) := (blk_cell BK260.out 2).trans rfl
                  have hcz30_3 : wc.cell? ⟨gb260, 3, none⟩ = some (.int .i64 a0_3) := (blk_cell BK260.out 3).trans rfl
                  have hcz30_4 : wc.cell? ⟨gb260, 4, none⟩ = some (.int .i64 a0_4) := (blk_cell BK260.out 4).trans rfl
                  have hcz30_5 : wc.cell? ⟨gb260, 5, none⟩ = some (.int .i64 a0_5) := (blk_cell BK260.out 5).trans rfl
                  have hfz30_0 := blk_frozen BK260.out 0
                  have hfz30_1 := blk_frozen BK260.out 1
                  have hfz30_2 := blk_frozen BK260.out 2
                  have hfz30_3 := blk_frozen BK260.out 3
                  have hfz30_4 := blk_frozen BK260.out 4
                  have hfz30_5 := blk_frozen BK260.out 5
                  go_wp2
                  go_ret
                  exact ⟨by first | rfl | (simp [errW_none, errW_some] <;> rfl) | (simp [*, errW_none, errW_some] <;> rfl), by repeat (first | (with_reducible first | exact HB.out | apply below_alloc | apply pw_below_drewN | apply below_drew1 | refine below_set ?_ GE260.out) | exact HB.out)⟩
                · rw [if_neg c29] at H
                  have c29b0 : decide (a0_5 < a0_4) = false := decide_eq_false c29
                  clear c29
                  obtain rfl := Option.some.inj H
                  have hcz31_0 : wc.cell? ⟨gb260, 0, none⟩ = some (.string a0_0) := (blk_cell BK260.out 0).trans rfl
                  have hcz31_1 : wc.cell? ⟨gb260, 1, none⟩ = some (.string a0_1) := (blk_cell BK260.out 1).trans rfl
                  have hcz31_2 : wc.cell? ⟨gb260, 2, none⟩ = some (.int .i64 a0_2) := (blk_cell BK260.out 2).trans rfl
                  have hcz31_3 : wc.cell? ⟨gb260, 3, none⟩ = some (.int .i64 a0_3) := (blk_cell BK260.out 3).trans rfl
                  have hcz31_4 : wc.cell? ⟨gb260, 4, none⟩ = some (.int .i64 a0_4) := (blk_cell BK260.out 4).trans rfl
                  have hcz31_5 : wc.cell? ⟨gb260, 5, none⟩ = some (.int .i64 a0_5) := (blk_cell BK260.out 5).trans rfl
                  have hfz31_0 := blk_frozen BK260.out 0
                  have hfz31_1 := blk_frozen BK260.out 1
                  have hfz31_2 := blk_frozen BK260.out 2
                  have hfz31_3 := blk_frozen BK260.out 3
                  have hfz31_4 := blk_frozen BK260.out 4
                  have hfz31_5 := blk_frozen BK260.out 5
                  go_wp2
                  go_ret
                  exact ⟨by first | rfl | (simp [errW_none, errW_some] <;> rfl) | (simp [*, errW_none, errW_some] <;> rfl), by repeat (first | (with_reducible first | exact HB.out | apply below_alloc | apply pw_below_drewN | apply below_drew1 | refine below_set ?_ GE260.out) | exact HB.out)⟩
  · rw [if_neg c3] at H
    have c3b0 : (t261 == 0) = false := beq_eq_false_iff_ne.mpr c3
    have c3b1 : (t261 != 0) = true := bne_iff_ne.mpr c3
    obtain rfl := Option.some.inj H
    go_enter Try.func86, Try.ntmps86
    go_wp2_with (first | ((with_reducible refine gate_dst (N := 1) rfl ?_); refine box_event ?hg (N := 1) ?hd (cs := #[.string a0_0, .string a0_1, .int .i64 a0_2, .int .i64 a0_3, .int .i64 a0_4, .int .i64 a0_5]) (t := 121) ?hr ?_; (case hd => rfl); (case hg => rfl); (case hr => first | (go_simp; done) | (go_simp; rfl)); intro gb260 hg w32 hbox hb; have n0_ := Aside0.mk (below_step (by repeat (first | (with_reducible first | exact HB.out | apply below_alloc | apply pw_below_drewN | apply below_drew1) | exact HB.out)) hb); have n1_ := Aside0.mk (hbox); have n2_ := Aside0.mk ((by rw [hg]; exact (below_size (by repeat (first | (with_reducible first | exact HB.out | apply below_alloc | apply pw_below_drewN | apply below_drew1) | exact HB.out))) : w.heap.size ≤ gb260)); have n3_ := Aside0.mk ((by rw [hg]; exact (below_size (by repeat (first | (with_reducible first | exact HB.out | apply below_alloc | apply pw_below_drewN | apply below_drew1) | exact HB.out))) : w.heap.size ≤ gb260)); clear HB; have HB := n0_; have BK260 := n1_; have GW260 := n2_; have GE260 := n3_; clear n0_ n1_ n2_ n3_; clear hb hbox hg; have hcz33_0 : w32.cell? ⟨gb260, 0, none⟩ = some (.string a0_0) := (blk_cell BK260.out 0).trans rfl; have hcz33_1 : w32.cell? ⟨gb260, 1, none⟩ = some (.string a0_1) := (blk_cell BK260.out 1).trans rfl; have hcz33_2 : w32.cell? ⟨gb260, 2, none⟩ = some (.int .i64 a0_2) := (blk_cell BK260.out 2).trans rfl; have hcz33_3 : w32.cell? ⟨gb260, 3, none⟩ = some (.int .i64 a0_3) := (blk_cell BK260.out 3).trans rfl; have hcz33_4 : w32.cell? ⟨gb260, 4, none⟩ = some (.int .i64 a0_4) := (blk_cell BK260.out 4).trans rfl; have hcz33_5 : w32.cell? ⟨gb260, 5, none⟩ = some (.int .i64 a0_5) := (blk_cell BK260.out 5).trans rfl; have hfz33_0 := blk_frozen BK260.out 0; have hfz33_1 := blk_frozen BK260.out 1; have hfz33_2 := blk_frozen BK260.out 2; have hfz33_3 := blk_frozen BK260.out 3; have hfz33_4 := blk_frozen BK260.out 4; have hfz33_5 := blk_frozen BK260.out 5) | ((with_reducible refine gate_callee (f := 83) rfl ?_); refine goesL_ (some 7) rfl rfl Try.func83 (by kernel_rfl) rfl #[.string a0_0] rfl (by (try simp only [List.map_toArray, List.map_cons, List.map_nil]); first | done | rfl | (simp only [List.length_drop, List.length_take]; rfl)) ?_; (with_reducible refine (metrolabref17_Name.calls k a0_0 t261 _ A2.out).mono ?_); rintro e w' ⟨rfl, ⟨nd, rfl⟩⟩; refine ⟨_, rfl, ?_⟩))
    go_ret
    exact ⟨by first | rfl | (simp [errW_none, errW_some] <;> rfl) | (simp [*, errW_none, errW_some] <;> rfl), by repeat (first | (with_reducible first | exact HB.out | apply below_alloc | apply pw_below_drewN | apply below_drew1 | refine below_set ?_ GE260.out) | exact HB.out)⟩
end Go.Proofs.Ytkgdlbepjmgaiaa.Cal
