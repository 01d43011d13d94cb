/- CalibrateChains: for every input the law returns true, and each argument reads behind the call as it read before: the row, out of the walk and the plain law. No condition. -/
import Derived.Test.YtkgdlbepjmgaiaaProg
import Derived.WalkKit
import Derived.ProofKit
import Derived.ChangeArms
import Derived.SizedLaws
import Derived.Test.YtkgdlbepjmgaiaaRows
import Derived.OpenShut
import Derived.ShutString
import Derived.ChangeOld
import Derived.Below
import Derived.Test.YtkgdlbepjmgaiaaZChains5
set_option linter.unusedVariables false
set_option linter.unusedSimpArgs false
namespace Go.Proofs.Ytkgdlbepjmgaiaa.Row
open Go.RowKit Go.Proofs.YtkgdlbepjmgaiaaW.PrintWords
def Opens {α : Type} (P : Program) (k : Kd α) (t : TypeId) (Q : α → Prop) : Prop :=
  ∀ (H : Type) (enc : TypeId × Value → H) (w : World) (base : Nat) (spare : Nat → Bool) (held : Bool) (fuel : Nat) (cs : List Value) (x : DataW H × List MemPlace),
    DataW.trod enc P w base spare held fuel t cs = some x → ∃ a, k.K w a cs ∧ Q a
variable {P : Program}
theorem opens_int {t : TypeId} {q : IntKind} (ht : P.underlying t = some (.int q)) : Opens P (Kd.int q) t (fun n => (Lit.int q n).wf = true) := by
  intro H enc w base spare held fuel cs x h
  obtain ⟨n, rfl, _, hw⟩ := DataW.trod_int ht h
  exact ⟨n, rfl, hw⟩
theorem opens_bool {t : TypeId} (ht : P.underlying t = some .bool) : Opens P Kd.bool t (fun _ => True) := by
  intro H enc w base spare held fuel cs x h
  obtain ⟨n, rfl, _⟩ := DataW.trod_bool ht h
  exact ⟨n, rfl, trivial⟩
theorem opens_string {t : TypeId} (ht : P.underlying t = some .string) : Opens P Kd.string t (fun s => s.size ≤ maxLen) := by
  intro H enc w base spare held fuel cs x h
  obtain ⟨n, rfl, _, hw⟩ := DataW.trod_string ht h
  exact ⟨n, rfl, hw⟩
theorem cells_get {w : World} {base : Nat} {a : Addr} {n : Nat} {c : List Value} (h : w.cells? base a n = some c) : c.length = n ∧ ∀ i u, c[i]? = some u → w.cell? (a.add i) = some u := by
  unfold World.cells? at h
  split at h
  case isFalse => cases h
  have hl : c.length = n := by simpa using mapM_some_length h
  refine ⟨hl, fun i u hi => ?_⟩
  have hlt : i < n := by rw [← hl]; exact (List.getElem?_eq_some_iff.1 hi).1
  rw [← hi]
  exact mapM_some_get h i i (by simp [hlt])
theorem list_of {α : Type} {R : Nat → α → Prop} : ∀ n, (∀ i, i < n → ∃ a, R i a) → ∃ l : List α, l.length = n ∧ ∀ i a, l[i]? = some a → R i a
  | 0, _ => ⟨[], rfl, fun i a h => by simp at h⟩
  | n + 1, h => by
    obtain ⟨l, hl, hr⟩ := list_of n (fun i hi => h i (by omega))
    obtain ⟨a, ha⟩ := h n (by omega)
    refine ⟨l ++ [a], by simp [hl], fun i b hi => ?_⟩
    rcases Nat.lt_or_ge i n with hlt | hge
    · rw [List.getElem?_append_left (by omega)] at hi
      exact hr i b hi
    · have hi' : i < (l ++ [a]).length := (List.getElem?_eq_some_iff.1 hi).1
      obtain rfl : i = n := by simp [hl] at hi'; omega
      rw [List.getElem?_append_right (by omega), hl] at hi
      simp at hi
      subst hi
      exact ha
theorem opens_slice {α : Type} {d : Kd α} {t e : TypeId} {Q : α → Prop} (ht : P.underlying t = some (.slice e)) (hs : P.cellsOf e = d.sz) (h : Opens P d e Q) : Opens P (Kd.slice e d) t (fun xs => xs.length ≤ maxLen ∧ ∀ x ∈ xs, Q x) := by
  intro H enc w base spare held fuel cs x hx
  rcases DataW.trod_slice ht hx with ⟨rfl, rfl⟩ | ⟨a, len, cap, elems, rest, n, _, rfl, rfl, hb, hl, hm, hlen, hel, _, _⟩
  · exact ⟨[], ⟨none, 0, rfl, Nat.le_refl _, rfl, by simp, fun h => absurd h (by simp)⟩, by simp, by simp⟩
  · have each : ∀ i, i < len → ∃ a', Q a' ∧ ∃ c, c.length = d.sz ∧ d.K w a' c ∧ ∀ j u, c[j]? = some u → w.cell? (a.add (i * d.sz + j)) = some u := by
      intro i hi
      have h1 := hel i hi
      have hy : ∃ y, elems[i]? = some y := ⟨elems[i]'(by omega), List.getElem?_eq_getElem (by omega)⟩
      obtain ⟨y, hy⟩ := hy
      rw [hy, Option.bind_eq_some_iff] at h1
      obtain ⟨c, hc, hr⟩ := h1
      obtain ⟨a', hK, hQ⟩ := h H enc w base spare held n c y hr
      obtain ⟨hcl, hcc⟩ := cells_get hc
      refine ⟨a', hQ, c, d.K_len hK, hK, fun j u hj => ?_⟩
      have := hcc j u hj
      rw [hs, add_add] at this
      exact this
    obtain ⟨xs, hxl, hxs⟩ := list_of len each
    refine ⟨xs, ⟨some a, cap, by rw [hxl], by omega, ⟨rfl, by unfold maxLen at hm; omega, fun _ => ⟨a, rfl, fun j p hp => (hxs j p hp).2⟩⟩⟩, by omega, fun x hx => ?_⟩
    obtain ⟨j, hj⟩ := List.getElem?_of_mem hx
    exact (hxs j x hj).1
def OpensF {α : Type} (P : Program) (k : Kd α) (fs : List Field) (off : Nat) (Q : α → Prop) : Prop :=
  ∀ (H : Type) (enc : TypeId × Value → H) (w : World) (base : Nat) (spare : Nat → Bool) (held : Bool) (n : Nat) (cs : List Value),
    cs.length = off + k.sz → (∀ f ∈ fs, ∃ y, DataW.trod enc P w base spare held n f.type ((cs.drop f.offset).take (P.cellsOf f.type)) = some y) → ∃ a, k.K w a (cs.drop off) ∧ Q a
theorem opensF_one {α : Type} {k : Kd α} {f : Field} {off : Nat} {Q : α → Prop} (ho : f.offset = off) (hs : P.cellsOf f.type = k.sz) (h : Opens P k f.type Q) : OpensF P k [f] off Q := by
  intro H enc w base spare held n cs hl hf
  obtain ⟨y, hy⟩ := hf f (by simp)
  obtain ⟨a, hK, hQ⟩ := h H enc w base spare held n _ y hy
  refine ⟨a, ?_, hQ⟩
  rw [ho, hs, List.take_of_length_le (by simp; omega)] at hK
  exact hK
theorem opensF_cons {α β : Type} {a : Kd α} {b : Kd β} {f : Field} {fs : List Field} {off : Nat} {Q : α → Prop} {R : β → Prop} (ho : f.offset = off) (hs : P.cellsOf f.type = a.sz) (h : Opens P a f.type Q) (hr : OpensF P b fs (off + a.sz) R) :
    OpensF P (Kd.pair a b) (f :: fs) off (fun x => Q x.1 ∧ R x.2) := by
  intro H enc w base spare held n cs hl hf
  have hl' : cs.length = off + (a.sz + b.sz) := hl
  obtain ⟨y, hy⟩ := hf f (by simp)
  obtain ⟨x, hK, hQ⟩ := h H enc w base spare held n _ y hy
  obtain ⟨z, hK2, hR⟩ := hr H enc w base spare held n cs (by omega) (fun g hg => hf g (by simp [hg]))
  refine ⟨(x, z), ⟨(cs.drop off).take a.sz, cs.drop (off + a.sz), ?_, ?_, hK2⟩, hQ, hR⟩
  · rw [← List.drop_drop, List.take_append_drop]
  · rw [ho, hs] at hK; exact hK
theorem opens_struct {α β : Type} {k : Kd α} {t : TypeId} {fs : Array Field} {Q : α → Prop} {g : β → α} {R : β → Prop} (ht : P.underlying t = some (.struct fs)) (hs : P.cellsOf t = k.sz) (h : OpensF P k fs.toList 0 Q)
    (hg : ∀ a, Q a → ∃ b, g b = a ∧ R b) : Opens P (Kd.iso k g) t R := by
  intro H enc w base spare held fuel cs x hx
  obtain ⟨xs, n, _, _, hl, hlen, hf⟩ := DataW.trod_struct ht hx
  obtain ⟨a, hK, hQ⟩ := h H enc w base spare held n cs (by omega) (fun f hf' => by
    obtain ⟨i, hi⟩ := List.getElem?_of_mem hf'
    have h1 := hf i f (by simpa using hi)
    have hlt : i < xs.length := by
      have := (List.getElem?_eq_some_iff.1 hi).1
      rw [hlen]; simpa using this
    exact ⟨xs[i], by rw [h1, List.getElem?_eq_getElem hlt]⟩)
  obtain ⟨b, rfl, hR⟩ := hg a hQ
  refine ⟨b, ?_, hR⟩
  show k.K w (g b) cs
  simpa using hK
theorem sized_rows {H : Type} {enc : TypeId × Value → H} {w : World} {base : Nat} {spare : Nat → Bool} {held : Bool} {ts : List TypeId} {ds : List (DataW H)} {j : Nat} {t e : TypeId} {A : Option Addr} {n c bytes : Nat} {d : DataW H} {p : List MemPlace}
    (hsz : (DataW.weightsEach P ts ds).all (· ≤ reachBytes) = true) (ht : ts[j]? = some t) (hd : ds[j]? = some d) (hu : P.underlying t = some (.slice e)) (hB : P.bytesOf e = bytes)
    (h : DataW.Trod enc P w base spare held t (.slice A n c) d p) : n * bytes ≤ 140737488351232 := by
  obtain ⟨fuel, hf⟩ := h
  rcases DataW.trod_slice hu hf with ⟨hcs, hx⟩ | ⟨a, len, cap, elems, rest, m, _, hcs, hx, _, hl, _, hlen, _⟩
  · simp [Value.cells] at hcs
    obtain ⟨_, rfl, _⟩ := hcs
    simp
  · simp [Value.cells] at hcs
    obtain ⟨_, rfl, rfl⟩ := hcs
    obtain ⟨hx, _⟩ := Prod.mk.inj hx
    subst hx
    have z := sized_slice hsz ht hd hu
    rw [hB] at z
    have h1 : n ≤ (elems.map (·.1)).length + (rest.map (·.1)).length := by simp; omega
    exact Nat.le_trans (Nat.mul_le_mul_right _ h1) z
end Go.Proofs.Ytkgdlbepjmgaiaa.Row
set_option linter.unusedVariables false
namespace Go.Proofs.Ytkgdlbepjmgaiaa.Cal
open Go.RowKit Go.Proofs.YtkgdlbepjmgaiaaW.PrintWords Go.Proofs.Ytkgdlbepjmgaiaa.Row
theorem o68 : Opens Try.prog k68 68 (fun _ => True) :=
  opens_struct Try.underlying68 (by kernel_rfl)
    (opensF_cons rfl (by kernel_rfl) (opens_string Try.underlying9) (opensF_cons rfl (by kernel_rfl) (opens_string Try.underlying9) (opensF_cons rfl (by kernel_rfl) (opens_int Try.underlying3)
      (opensF_cons rfl (by kernel_rfl) (opens_int Try.underlying3) (opensF_cons rfl (by kernel_rfl) (opens_int Try.underlying3) (opensF_one rfl (by kernel_rfl) (opens_int Try.underlying3)))))))
    (fun a _ => ⟨⟨a.1, a.2.1, a.2.2.1, a.2.2.2.1, a.2.2.2.2.1, a.2.2.2.2.2⟩, rfl, trivial⟩)
theorem o49 : Opens Try.prog (Kd.slice 68 k68) 49 (fun xs => xs.length ≤ maxLen ∧ ∀ x ∈ xs, True) := opens_slice Try.underlying49 (by kernel_rfl) o68
end Go.Proofs.Ytkgdlbepjmgaiaa.Cal
set_option linter.unusedVariables false
set_option linter.unusedSimpArgs false
namespace Go.Proofs.Ytkgdlbepjmgaiaa.calibrateChains
open Go.ChangeShapes Go.WideShapes Go.ChangeAt Go.RowKit
open Go.ChangeMaps (open_string shut_string)
open Go.Proofs.YtkgdlbepjmgaiaaW.PrintWords Go.Proofs.Ytkgdlbepjmgaiaa.Row Go.Proofs.Ytkgdlbepjmgaiaa.Cal
theorem own : ownKnob Try.prog.godebug = none := by kernel_rfl
theorem laidOut : laidOutB Try.prog = true := by kernel_rfl
set_option maxRecDepth 100000 in
set_option maxHeartbeats 1000000 in
theorem lifted (os : Os) (started : os.Started) (H : Type) (enc : TypeId × Value → H) :
    ReturnsInHanded {} Try.checked os 12 .any (Rows.calibrateChainsSpec.pre6 enc Try.prog Try.f12 Rows.calibrateChainsRow.domain false) (Rows.calibrateChainsSpec.post enc Try.prog Try.f12 false true false false) := by
  refine returnsInHanded_of_change_sized (C := Try.checked) own started (by kernel_rfl) Try.func12
    (ChangeSpec.witness6 (enc := enc) (C := Try.checked) false ⟨#[], #[.slice none 0 0, .string ByteArray.empty, .int .i64 0], []⟩ 8 (by kernel_rfl) (by kernel_rfl) (by kernel_rfl) (by kernel_rfl)) ?_
  intro W base args ds gs before hval0 hW hcnd hsz0 _
  have hsz : (DataW.weightsEach Try.prog (Try.f12.params.toList ++ Rows.calibrateChainsSpec.plain.varTypes Try.prog) (ds ++ gs)).all (· ≤ reachBytes) = true := hsz0
  have hval : ∀ (j : Nat) t v, Try.f12.params[j]? = some t → args[j]? = some v → Value.okWide Try.prog W .any base t v := hval0
  have hW' := hW
  obtain ⟨p, q, hA0, hV, rfl, hfz, hnd⟩ := hW
  have hA : DataW.TrodAll enc Try.prog W 0 (fun _ => true) true Try.f12.params.toList args.toList ds p := hA0
  rw [Try.params12] at hA hval hsz
  obtain ⟨v0, vs0, d0, ds0, p0, q0, hargs, rfl, rfl, h0, r0⟩ := trodAll_cons hA
  obtain ⟨v1, vs1, d1, ds1, p1, q1, rfl, rfl, rfl, h1, r1⟩ := trodAll_cons r0
  obtain ⟨v2, vs2, d2, ds2, p2, q2, rfl, rfl, rfl, h2, r2⟩ := trodAll_cons r1
  obtain ⟨rfl, rfl, rfl⟩ := trodAll_nil r2
  obtain rfl : args = #[v0, v1, v2] := by cases args; simp_all
  obtain ⟨rfl, rfl⟩ := trodVars_none hV
  have k0 := h0
  have lt0 : ∀ x ∈ p0, x.block < W.heap.size := by obtain ⟨m, hm⟩ := k0; exact DataW.trod_lt m _ _ _ hm
  obtain ⟨a0, len0, cap0, rfl⟩ := okWide_slice Try.underlying49 (hval 0 49 v0 rfl rfl)
  obtain ⟨l0, ⟨A0, c0, hcs0, hlc0, hC0⟩, hml0⟩ : ∃ l, (Kd.slice 68 k68).K W l [.slice a0 len0 cap0] ∧ l.length ≤ maxLen := by obtain ⟨fuel, hf⟩ := h0; obtain ⟨l, hK, hQ⟩ := o49 _ _ _ _ _ _ _ _ _ hf; exact ⟨l, hK, hQ.1⟩
  simp only [List.cons.injEq, Value.slice.injEq, and_true] at hcs0
  obtain ⟨rfl, rfl, rfl⟩ := hcs0
  have y0 : l0.length * 64 ≤ 140737488351232 := sized_rows hsz (j := 0) (t := 49) rfl rfl Try.underlying49 (by kernel_rfl) h0
  have k1 := h1
  have lt1 : ∀ x ∈ p1, x.block < W.heap.size := by obtain ⟨m, hm⟩ := k1; exact DataW.trod_lt m _ _ _ hm
  obtain ⟨a1, rfl, rfl, rfl, y1⟩ := open_string Try.underlying9 (hval 1 9 v1 rfl rfl) h1
  have k2 := h2
  have lt2 : ∀ x ∈ p2, x.block < W.heap.size := by obtain ⟨m, hm⟩ := k2; exact DataW.trod_lt m _ _ _ hm
  obtain ⟨a2, rfl, rfl, rfl, w2⟩ := open_int Try.underlying3 (hval 2 3 v2 rfl rfl) h2
  clear hA0 hval0 hsz0 hsz
  obtain ⟨k, hk⟩ := CalibrateChains_pure l0 a1 a2 y0
  refine (metrolablaw52_CalibrateChains.calls k _ _ l0 a1 a2 true W hC0 hlc0 hk).mono fun e W' ⟨he, bel⟩ => ?_
  subst he
  exact ⟨_, rfl, _, _, _, [], _, [], hW', trodAll_mk1 (shut_bool Try.underlying4 _), (trodAll_cons_mk (Below.trod laidOut (by kernel_rfl) (of_decide_eq_true (by kernel_rfl)) k0 bel lt0) (trodAll_cons_mk (Below.trod laidOut (by kernel_rfl) (of_decide_eq_true (by kernel_rfl)) k1 bel lt1) (trodAll_cons_mk (Below.trod laidOut (by kernel_rfl) (of_decide_eq_true (by kernel_rfl)) k2 bel lt2) trodAll_mk0))), rfl, bel.frame _, fun h => by cases h⟩
theorem over : Rows.calibrateChainsRow.holds Try.pinned (OpenSpec.ofChange Rows.calibrateChainsSpec) :=
  OpenClaim.holds_of_wide 12 Try.f12 rfl rfl rfl rfl rfl rfl rfl ⟨rfl, rfl, rfl, rfl, rfl⟩ rfl rfl rfl rfl rfl (by kernel_rfl) Try.func12 (by kernel_rfl)
    (of_decide_eq_true (by kernel_rfl)) (by unfold Func.isWrapper; first | (rw [if_pos (by decide +kernel)]; kernel_rfl) | (rw [if_neg (by decide +kernel)]; exact ⟨rfl, rfl⟩))
    (fun os started H enc _ => lifted os started H enc)
theorem proved : Rows.CalibrateChainsSaid := over
#print axioms proved
end Go.Proofs.Ytkgdlbepjmgaiaa.calibrateChains
namespace Go.Proofs.Ytkgdlbepjmgaiaa
theorem calibrateChains_holds : Rows.CalibrateChainsSaid := calibrateChains.proved
end Go.Proofs.Ytkgdlbepjmgaiaa
