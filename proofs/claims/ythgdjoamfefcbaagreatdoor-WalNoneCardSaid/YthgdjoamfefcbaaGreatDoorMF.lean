/- Own texts F1, F2, F3 of this claim, joined. -/
import Derived.Test.YthgdjoamfefcbaaGreatDoorMA1
import Derived.ChangeReads
import Derived.DataReads
import Derived.DataShut
import Derived.WideShapes
import Derived.Test.YthgdjoamfefcbaaGreatDoorME
import Derived.OpenShut
import Derived.Test.YthgdjoamfefcbaaGreatDoorMA2
import Derived.Handy
import Derived.Lay
import Derived.ProofKit
set_option linter.all false
set_option linter.unusedVariables false
set_option linter.unusedSimpArgs false
set_option linter.unnecessarySimpa false
/-
  ARGUMENTS, READ AS THE ROW READS THEM, AS ABSTRACT VALUES; that they read the same in a world that has grown.
-/
namespace Go.AM
open Go

/-- Types whose values are read without maps, pointers, interfaces. -/
def Simple (P : Program) : Nat → TypeId → Bool
  | 0, _ => false
  | k + 1, t => match P.underlying t with
    | some .bool => true
    | some (.int _) => true
    | some .string => true
    | some (.slice e) => decide (0 < P.cellsOf e) && Simple P k e
    | some (.struct fs) => fs.toList.all fun f => Simple P k f.type
    | some (.array _ e) => Simple P k e
    | _ => false

variable {H : Type} {enc : TypeId × Value → H} {P : Program} {W W' : World} {base : Nat} {sp : Nat → Bool} {hd : Bool}

theorem cell_keep (hheap : ∀ b, b < W.heap.size → W'.heap[b]? = W.heap[b]?) {a : Addr} {v : Value} (h : W.cell? a = some v) : W'.cell? a = some v := by
  have hs := World.cell?_spot h
  obtain ⟨b, off, spot⟩ := a
  subst hs
  have hb := lt_of_cell? h
  rw [cell?_of_heap (hheap b hb)]; exact h
theorem cells_keep (hheap : ∀ b, b < W.heap.size → W'.heap[b]? = W.heap[b]?) {a : Addr} {n : Nat} {cs : List Value} (h : W.cells? base a n = some cs) : W'.cells? base a n = some cs := by
  obtain ⟨h1, h2, h3⟩ := World.cells?_some h
  unfold World.cells?
  rw [if_pos h1]
  refine mapM_some_of_get _ _ (by simp [h2]) ?_
  intro i x hx
  have hi : i < n := by
    rcases Nat.lt_or_ge i n with h | h
    · exact h
    · rw [List.getElem?_eq_none (by simpa using h)] at hx; cases hx
  rw [List.getElem?_range hi] at hx
  cases hx
  have h4 := h3 i hi
  rw [← h4]
  have : ∃ v, W.cell? (a.add i) = some v := ⟨cs[i]'(by omega), by rw [h4, List.getElem?_eq_getElem]⟩
  obtain ⟨v, hv⟩ := this
  rw [hv]; exact cell_keep hheap hv
theorem trod_keep (hheap : ∀ b, b < W.heap.size → W'.heap[b]? = W.heap[b]?) : ∀ (k fuel : Nat) (t : TypeId) (cs : List Value) (x : DataW H × List MemPlace), Simple P k t = true →
    DataW.trod enc P W base (fun _ => true) hd fuel t cs = some x → (∀ p ∈ x.2, sp p.block = true) → DataW.trod enc P W' base sp hd fuel t cs = some x
  | 0, _, _, _, _, h, _, _ => by simp [Simple] at h
  | k + 1, 0, _, _, _, _, h, _ => by simp [DataW.trod] at h
  | k + 1, fuel + 1, t, cs, x, hs, h, hp => by
    have ih := trod_keep hheap k fuel
    simp only [Simple] at hs
    split at hs
    · rename_i hu; simp only [DataW.trod, hu] at h ⊢; split at h <;> simp_all
    · rename_i hu; simp only [DataW.trod, hu] at h ⊢; split at h <;> simp_all
    · rename_i hu; simp only [DataW.trod, hu] at h ⊢; split at h <;> simp_all
    · rename_i e hu
      simp only [Bool.and_eq_true, decide_eq_true_eq] at hs
      obtain ⟨hc, hs⟩ := hs
      simp only [DataW.trod, hu] at h ⊢
      split at h <;> (try (simp_all; done))
      · rename_i e2 a len cap heq
        have he2 : e = e2 := by simpa using heq
        subst he2
        split at h
        case isFalse => cases h
        rename_i hcond
        rw [if_pos hcond]
        simp only [Option.bind_eq_some_iff, if_true, Option.map_eq_some_iff] at h
        obtain ⟨elems, h1, rest, h2, rfl⟩ := h
        dsimp only at hp
        have l1 := mapM_some_length h1
        have l2 := mapM_some_length h2
        simp only [List.length_range] at l1 l2
        have row : ∀ (i : Nat) (y : DataW H × List MemPlace), (∀ p ∈ y.2, sp p.block = true) → ((W.cells? base (a.add (i * P.cellsOf e)) (P.cellsOf e)).bind (DataW.trod enc P W base (fun _ => true) hd fuel e)) = some y →
            ((W'.cells? base (a.add (i * P.cellsOf e)) (P.cellsOf e)).bind (DataW.trod enc P W' base sp hd fuel e)) = some y := by
          intro i y hy h
          simp only [Option.bind_eq_some_iff] at h ⊢
          obtain ⟨r, h1, h2⟩ := h
          exact ⟨r, cells_keep hheap h1, ih e r y hs h2 hy⟩
        have e1 : (List.range len).mapM (fun i => (W'.cells? base (a.add (i * P.cellsOf e)) (P.cellsOf e)).bind (DataW.trod enc P W' base sp hd fuel e)) = some elems := by
          refine mapM_some_of_get _ _ (by simp [l1]) ?_
          intro i y hy
          have hi : i < len := by
            rcases Nat.lt_or_ge i len with h | h
            · exact h
            · rw [List.getElem?_eq_none (by simpa using h)] at hy; cases hy
          rw [List.getElem?_range hi] at hy
          cases hy
          have h3 := mapM_some_get h1 i i (by simp [hi])
          rw [List.getElem?_eq_getElem (by omega)] at h3 ⊢
          refine row i _ (fun p hpm => hp p ?_) h3
          exact List.mem_append_right _ (List.mem_flatMap.2 ⟨_, List.mem_append_left _ (List.getElem_mem _), hpm⟩)
        have e2 : (List.range (cap - len)).mapM (fun j => (W'.cells? base (a.add ((len + j) * P.cellsOf e)) (P.cellsOf e)).bind (DataW.trod enc P W' base sp hd fuel e)) = some rest := by
          refine mapM_some_of_get _ _ (by simp [l2]) ?_
          intro i y hy
          have hi : i < cap - len := by
            rcases Nat.lt_or_ge i (cap - len) with h | h
            · exact h
            · rw [List.getElem?_eq_none (by simpa using h)] at hy; cases hy
          rw [List.getElem?_range hi] at hy
          cases hy
          have h3 := mapM_some_get h2 i i (by simp [hi])
          rw [List.getElem?_eq_getElem (by omega)] at h3 ⊢
          refine row (len + i) _ (fun p hpm => hp p ?_) h3
          exact List.mem_append_right _ (List.mem_flatMap.2 ⟨_, List.mem_append_right _ (List.getElem_mem _), hpm⟩)
        rw [e1]
        by_cases h0 : cap - len = 0
        · have hr : rest = [] := List.eq_nil_of_length_eq_zero (by omega)
          subst hr
          simp only [Option.bind_some, h0]
          split <;> rfl
        · have hsp : sp a.block = true := by
            have := hp (.cell a.block (a.off + 0)) (List.mem_append_left _ (MemPlace.mem_row.2 ⟨0, ?_, rfl⟩))
            · exact this
            · exact Nat.mul_pos (by omega) hc
          simp only [Option.bind_some, hsp, if_true]
          rw [e2]; rfl
    · rename_i fs hu
      simp only [DataW.trod, hu] at h ⊢
      split at h
      case isFalse => cases h
      rename_i hcond
      rw [if_pos hcond]
      simp only [Option.map_eq_some_iff] at h ⊢
      obtain ⟨xs, h1, rfl⟩ := h
      refine ⟨xs, mapM_some_of_get _ _ (mapM_some_length h1) ?_, rfl⟩
      intro i f hf
      have h2 := mapM_some_get h1 i f hf
      have hl := mapM_some_length h1
      have hi : i < fs.toList.length := by
        rcases Nat.lt_or_ge i fs.toList.length with h | h
        · exact h
        · rw [List.getElem?_eq_none h] at hf; cases hf
      rw [List.getElem?_eq_getElem (by omega)] at h2 ⊢
      refine ih _ _ _ (List.all_eq_true.1 hs f (List.mem_of_getElem? hf)) h2 fun p hpm => hp p ?_
      exact List.mem_flatMap.2 ⟨_, List.getElem_mem _, hpm⟩
    · rename_i n e hu
      simp only [DataW.trod, hu] at h ⊢
      split at h
      case isFalse => cases h
      rename_i hcond
      rw [if_pos hcond]
      simp only [Option.map_eq_some_iff] at h ⊢
      obtain ⟨xs, h1, rfl⟩ := h
      refine ⟨xs, mapM_some_of_get _ _ (mapM_some_length h1) ?_, rfl⟩
      intro i f hf
      have h2 := mapM_some_get h1 i f hf
      have hl := mapM_some_length h1
      have hi : i < (List.range n).length := by
        rcases Nat.lt_or_ge i (List.range n).length with h | h
        · exact h
        · rw [List.getElem?_eq_none h] at hf; cases hf
      rw [List.getElem?_eq_getElem (by omega)] at h2 ⊢
      refine ih _ _ _ hs h2 fun p hpm => hp p ?_
      exact List.mem_flatMap.2 ⟨_, List.getElem_mem _, hpm⟩
    · cases hs
end Go.AM
/-
  Arguments as abstract values: ints, texts, lists of bytes and of ints, scripts.
-/
namespace Go.AM
open Go Go.WideShapes Go.ChangeShapes
variable {H : Type} {enc : TypeId × Value → H} {P : Program} {W : World} {hd : Bool} {t e : TypeId}

theorem open_i {k : IntKind} {fuel : Nat} {cs : List Value} {x : DataW H × List MemPlace} (hu : P.underlying t = some (.int k)) (h : DataW.trod enc P W 0 (fun _ => true) hd fuel t cs = some x) : ∃ n, cs = [.int k n] ∧ (Lit.int k n).wf = true := by
  cases fuel with
  | zero => simp [DataW.trod] at h
  | succ n =>
    simp only [DataW.trod, hu] at h
    split at h <;> simp_all
/-- A list, read in a part of a heap that nobody owns. -/
theorem rel_slice {X : Type} (A : X → List AV) {c fuel : Nat} (ht : P.underlying t = some (.slice e)) (hc : P.cellsOf e = c) (hpos : 0 < c) {v : List Value} {x : DataW H × List MemPlace}
    (hrow : ∀ m row y, DataW.trod enc P W 0 (fun _ => true) hd m e row = some y → ∃ a : X, RelL St.none W (A a) row) (h : DataW.trod enc P W 0 (fun _ => true) hd fuel t v = some x) :
    ∃ (xs : List X) (o : Own) (u : Value), v = [u] ∧ Rel St.none W (.slice (xs.flatMap A) xs.length o) u ∧ (o = .nil → xs = []) ∧ xs.length ≤ 9223372036854775807 := by
  cases fuel with
  | zero => simp [DataW.trod] at h
  | succ m =>
    simp only [DataW.trod, ht] at h
    split at h <;> (try (simp_all; done))
    · exact ⟨[], .nil, _, rfl, .snil, fun _ => rfl, Nat.zero_le _⟩
    · rename_i e2 a len cap heq
      have he2 : e = e2 := by simpa using heq
      subst he2
      split at h
      case isFalse => cases h
      rename_i hcond
      simp only [Option.bind_eq_some_iff, if_true, Option.map_eq_some_iff] at h
      obtain ⟨elems, h1, rest, h2, rfl⟩ := h
      have l1 := mapM_some_length h1
      have l2 := mapM_some_length h2
      simp only [List.length_range] at l1 l2
      have hcell : ∀ i, i < cap → ∃ row y, W.cells? 0 (a.add (i * c)) c = some row ∧ DataW.trod enc P W 0 (fun _ => true) hd m e row = some y := by
        intro i hi
        by_cases hil : i < len
        · have h3 := mapM_some_get h1 i i (by simp [hil])
          rw [List.getElem?_eq_getElem (by omega), Option.bind_eq_some_iff, hc] at h3
          obtain ⟨r, h4, h5⟩ := h3
          exact ⟨r, _, h4, h5⟩
        · have h3 := mapM_some_get h2 (i - len) (i - len) (List.getElem?_range (by omega))
          rw [List.getElem?_eq_getElem (by omega), Option.bind_eq_some_iff, hc, show len + (i - len) = i by omega] at h3
          obtain ⟨r, h4, h5⟩ := h3
          exact ⟨r, _, h4, h5⟩
      by_cases h0 : cap = 0
      · have hl0 : len = 0 := by omega
        subst h0 hl0
        exact ⟨[], .ro, _, rfl, .semp a .ro (.inl rfl), fun _ => rfl, Nat.zero_le _⟩
      · obtain ⟨row0, y0, hr0, _⟩ := hcell 0 (by omega)
        obtain ⟨_, hl0, hg0⟩ := World.cells?_some hr0
        have hc0 := hg0 0 hpos
        rw [List.getElem?_eq_getElem (by omega)] at hc0
        have hspot := World.cell?_spot hc0
        obtain ⟨b, off, spot⟩ := a
        have hsp : spot = none := by simpa [Addr.add] using hspot
        subst hsp
        have key : ∀ n, n ≤ len → ∃ (xs : List X) (vs : List Value), xs.length = n ∧ vs.length = n * c ∧ RelL St.none W (xs.flatMap A) vs ∧ ∀ i u, vs[i]? = some u → W.cell? ⟨b, off + i, none⟩ = some u := by
          intro n
          induction n with
          | zero => intro _; exact ⟨[], [], rfl, by simp, .nil, by simp⟩
          | succ n ih =>
            intro hn
            obtain ⟨xs, vs, i1, i2, i3, i4⟩ := ih (by omega)
            obtain ⟨row, y, hr, hy⟩ := hcell n (by omega)
            obtain ⟨_, hl, hg⟩ := World.cells?_some hr
            obtain ⟨av, hav⟩ := hrow _ _ _ hy
            refine ⟨xs ++ [av], vs ++ row, by simp [i1], by rw [List.length_append, i2, hl, Nat.succ_mul], ?_, ?_⟩
            · rw [List.flatMap_append]
              simpa using i3.append hav
            · intro i u hu
              rcases Nat.lt_or_ge i vs.length with hi | hi
              · rw [List.getElem?_append_left hi] at hu; exact i4 i u hu
              · rw [List.getElem?_append_right hi] at hu
                have hi2 : i - vs.length < c := by
                  rcases Nat.lt_or_ge (i - vs.length) c with h | h
                  · exact h
                  · rw [List.getElem?_eq_none (by omega)] at hu; cases hu
                have := hg _ hi2
                rw [hu, add_plain, add_plain] at this
                rw [← this]
                congr 2
                omega
        obtain ⟨xs, vs, k1, k2, k3, k4⟩ := key len (Nat.le_refl _)
        refine ⟨xs, .ro, _, rfl, ?_, (fun h => nomatch h), by rw [k1]; have : maxLen = 9223372036854775807 := rfl; omega⟩
        rw [k1]
        exact .slice _ vs _ _ _ _ _ (fun i u hu => ⟨rfl, (fun hw h => nomatch h), k4 i u hu⟩) k3.len k3.rel hcond.2.1 trivial
theorem flat_one {α β : Type} (f : α → β) : ∀ l : List α, l.flatMap (fun a => [f a]) = l.map f
  | [] => rfl
  | a :: l => by rw [List.flatMap_cons, flat_one f l]; rfl
theorem rel_bytes {eb : TypeId} {fuel : Nat} (ht : P.underlying t = some (.slice eb)) (he : P.underlying eb = some (.int .u8)) (hc : P.cellsOf eb = 1) {v : List Value} {x : DataW H × List MemPlace} (h : DataW.trod enc P W 0 (fun _ => true) hd fuel t v = some x) :
    ∃ (l : List UInt8) (o : Own) (u : Value), v = [u] ∧ Rel St.none W (bsl l o) u ∧ (o = .nil → l = []) ∧ l.length ≤ 9223372036854775807 := by
  obtain ⟨l, o, u, h1, h2, h3, h4⟩ := rel_slice (fun b : UInt8 => [.int .u8 b.toNat]) ht hc (by omega) (fun m row y hy => by
    obtain ⟨n, rfl, hn⟩ := open_i he hy
    have := bounds_u8 hn
    refine ⟨UInt8.ofNat n.toNat, ?_⟩
    have e : ((UInt8.ofNat n.toNat).toNat : Int) = n := by rw [UInt8.toNat_ofNat']; omega
    rw [e]
    exact .cons (.int _ _) .nil) h
  refine ⟨l, o, u, h1, ?_, h3, h4⟩
  have e : l.flatMap (fun b : UInt8 => [AV.int .u8 b.toNat]) = ofBytes l := flat_one _ l
  rw [e] at h2
  exact h2
theorem rel_ints {ei : TypeId} {fuel : Nat} (ht : P.underlying t = some (.slice ei)) (he : P.underlying ei = some (.int .i64)) (hc : P.cellsOf ei = 1) {v : List Value} {x : DataW H × List MemPlace} (h : DataW.trod enc P W 0 (fun _ => true) hd fuel t v = some x) :
    ∃ (l : List Int) (o : Own) (u : Value), v = [u] ∧ Rel St.none W (.slice (l.map avI) l.length o) u ∧ (o = .nil → l = []) ∧ l.length ≤ 9223372036854775807 := by
  obtain ⟨l, o, u, h1, h2, h3, h4⟩ := rel_slice (fun n : Int => [avI n]) ht hc (by omega) (fun m row y hy => by
    obtain ⟨n, rfl, hn⟩ := open_i he hy
    exact ⟨n, .cons (.int _ _) .nil⟩) h
  refine ⟨l, o, u, h1, ?_, h3, h4⟩
  have e : l.flatMap (fun n : Int => [avI n]) = l.map avI := flat_one _ l
  rw [e] at h2
  exact h2
/-- A script's type. -/
structure StepT (P : Program) (e ti tb eb tk : TypeId) : Prop where
  step : ∃ f0 f1 f2 : Field, P.underlying e = some (.struct #[f0, f1, f2]) ∧ f0.type = ti ∧ f1.type = tb ∧ f2.type = tk ∧ f0.offset = 0 ∧ f1.offset = 1 ∧ f2.offset = 2
  cells : P.cellsOf e = 3
  hti : P.underlying ti = some (.int .i64)
  ci : P.cellsOf ti = 1
  htb : P.underlying tb = some (.slice eb)
  cb : P.cellsOf tb = 1
  heb : P.underlying eb = some (.int .u8)
  ceb : P.cellsOf eb = 1
  htk : P.underlying tk = some (.slice ti)
  ck : P.cellsOf tk = 1
theorem rel_script {ti tb eb tk : TypeId} {fuel : Nat} (ht : P.underlying t = some (.slice e)) (hS : StepT P e ti tb eb tk) {v : List Value} {x : DataW H × List MemPlace} (h : DataW.trod enc P W 0 (fun _ => true) hd fuel t v = some x) :
    ∃ (ss : List StepS) (o : Own) (u : Value), v = [u] ∧ Rel St.none W (scriptV ss o) u ∧ ss.length ≤ 9223372036854775807 ∧ ∀ s ∈ ss, s.Ok := by
  obtain ⟨f0, f1, f2, hu, t0, t1, t2, o0, o1, o2⟩ := hS.step
  obtain ⟨ss, o, u, h1, h2, h3, h4⟩ := rel_slice (X := { s : StepS // s.Ok }) (fun s => stepC s.1) ht hS.cells (by omega) (fun m row y hy => by
    cases m with
    | zero => simp [DataW.trod] at hy
    | succ m =>
      simp only [DataW.trod, hu] at hy
      split at hy
      case isFalse => cases hy
      rename_i hl
      rw [hS.cells] at hl
      simp only [Option.map_eq_some_iff] at hy
      obtain ⟨xs, hm, _⟩ := hy
      have g0 := mapM_some_get hm 0 f0 rfl
      have g1 := mapM_some_get hm 1 f1 rfl
      have g2 := mapM_some_get hm 2 f2 rfl
      have hxl := mapM_some_length hm
      simp only [List.length_cons, List.length_nil] at hxl
      rw [List.getElem?_eq_getElem (by omega), t0, o0, hS.ci] at g0
      rw [List.getElem?_eq_getElem (by omega), t1, o1, hS.cb] at g1
      rw [List.getElem?_eq_getElem (by omega), t2, o2, hS.ck] at g2
      obtain ⟨c0, c1, c2, rfl⟩ : ∃ c0 c1 c2, row = [c0, c1, c2] := by
        match row, hl with
        | [c0, c1, c2], _ => exact ⟨c0, c1, c2, rfl⟩
      simp only [List.drop_zero, List.drop_succ_cons, List.take_succ_cons, List.take_zero] at g0 g1 g2
      obtain ⟨n, e0, hn⟩ := open_i hS.hti g0
      obtain ⟨b, ob, ub, e1, r1, b1, b2⟩ := rel_bytes hS.htb hS.heb hS.ceb g1
      obtain ⟨ks, ok, uk, e2, r2, k1, k2⟩ := rel_ints hS.htk hS.hti hS.ci g2
      cases e0; cases e1; cases e2
      exact ⟨⟨⟨n, b, ob, ks, ok⟩, b1, b2, k2⟩, .cons (.int _ _) (.cons r1 (.cons r2 .nil))⟩) h
  refine ⟨ss.map (·.1), o, u, h1, ?_, by simpa using h4, ?_⟩
  · have e : ss.flatMap (fun s => stepC s.1) = (ss.map (·.1)).flatMap stepC := by rw [List.flatMap_map]
    rw [e] at h2
    unfold scriptV
    rw [List.length_map]
    exact h2
  · intro s hs
    obtain ⟨⟨s', hs'⟩, _, rfl⟩ := List.mem_map.1 hs
    exact hs'
end Go.AM
/-
  FROM WHAT IS SAID OF A FUNCTION TO ITS ROW: a law answers true, and its arguments read as they did.
-/
namespace Go.AM
open Go Go.ChangeShapes Go.WideShapes Go.RowKit
variable {H : Type} {enc : TypeId × Value → H} {P : Program} {W W' : World}

theorem kept_of (ho : W'.os = W.os) (hp : W'.output = W.output) (hheap : ∀ b, b < W.heap.size → W'.heap[b]? = W.heap[b]?) (may : MemPlace → Prop) : W.keptBut W' may := by
  refine ⟨ho, hp, fun i hi => ?_⟩
  rw [hheap i hi]
  cases h : W.heap[i]? with
  | none => rfl
  | some o => cases o <;> simp
theorem trodAll_keep (hheap : ∀ b, b < W.heap.size → W'.heap[b]? = W.heap[b]?) {sp : Nat → Bool} {hd : Bool} : ∀ (ts : List TypeId) (vs : List Value) (ds : List (DataW H)) (ps : List MemPlace), (∀ t ∈ ts, Simple P 8 t = true) →
    DataW.TrodAll enc P W 0 (fun _ => true) hd ts vs ds ps → (∀ p ∈ ps, sp p.block = true) → DataW.TrodAll enc P W' 0 sp hd ts vs ds ps
  | [], vs, ds, ps, _, h, _ => by
    obtain ⟨rfl, rfl, rfl⟩ := trodAll_nil h
    exact trodAll_mk0
  | t :: ts, vs, ds, ps, hs, h, hp => by
    obtain ⟨v, vs1, d, ds1, a, b, rfl, rfl, rfl, ⟨fuel, h1⟩, h2⟩ := trodAll_cons h
    exact ⟨a, b, ⟨fuel, trod_keep hheap 8 fuel t _ _ (hs t (by simp)) h1 fun p hpm => hp p (List.mem_append_left _ hpm)⟩, trodAll_keep hheap ts vs1 ds1 b (fun u hu => hs u (by simp [hu])) h2 fun p hpm => hp p (List.mem_append_right _ hpm), rfl⟩

theorem contract_of {f : FuncId} {fn : Func} {s : ChangeSpec} {Sp : Spec} {tb : TypeId} (hS : Sound P f Sp) (hb : P.underlying tb = some .bool) (hres : fn.resultTypes = #[tb]) (hvars : s.vars = [])
    (hfn : ∀ (ds : List (DataW H)), ds.length = fn.params.size → s.fn H ds = { results := [.lit (.bool true)], args := ds }) (hsimple : ∀ t ∈ fn.params.toList, Simple P 8 t = true)
    {args : Array Value} {ds gs : List (DataW H)} {before : List MemPlace} (hW : DataW.Whole enc P fn.params.toList s.vars false W args.toList ds gs before)
    (avs : List AV) (hr : RelL St.none W avs args.toList) (hsp : Sp avs St.none (fun e _ => e = .ret (.bool true))) :
    Calls P f args W fun e W' => ∃ v, e = .returned v ∧ s.post enc P fn false true false false W args v W' := by
  refine (hS.2 avs args St.none W _ (WR.none W) hr hsp).mono ?_
  rintro e W' ⟨v, S', rfl, _, hext, hrel⟩
  cases e with
  | returned A =>
    cases hrel
    refine ⟨_, rfl, ?_⟩
    have hW' := hW
    obtain ⟨p, q, hA, hV, rfl, _, _⟩ := hW
    rw [hvars] at hV
    obtain ⟨rfl, rfl⟩ := trodVars_none hV
    have hheap : ∀ b, b < W.heap.size → W'.heap[b]? = W.heap[b]? := fun b hb => hext.blk b hb rfl rfl
    have hlen : ds.length = fn.params.size := by
      have key : ∀ (ts : List TypeId) (vs : List Value) (ds : List (DataW H)) (ps : List MemPlace), DataW.TrodAll enc P W 0 (fun _ => true) true ts vs ds ps → ds.length = ts.length := by
        intro ts
        induction ts with
        | nil => intro vs ds ps h; obtain ⟨_, rfl, _⟩ := trodAll_nil h; rfl
        | cons t ts ih =>
          intro vs ds ps h
          obtain ⟨v, vs1, d, ds1, a, b, rfl, rfl, rfl, _, h2⟩ := trodAll_cons h
          simp [ih _ _ _ h2]
      simpa using key _ _ _ _ hA
    have hspec := hfn (ds ++ []) (by simpa using hlen)
    refine ⟨ds, [], p ++ [], [], p, [], hW', ?_, ?_, ?_, kept_of hext.os hext.output hheap _, fun h => by cases h⟩
    · rw [hspec, hres]
      exact trodAll_mk1 (shut_bool hb _)
    · rw [hspec, List.append_nil]
      refine trodAll_keep hheap _ _ _ _ hsimple hA fun x hx => ?_
      have := hW'.lt x (by simpa using hx)
      simpa using this
    · rw [hspec, hvars]
      rfl
  | panicked c => exact hrel.elim
  | outgrown => exact hrel.elim
end Go.AM
