/- Own texts A11, A12, A13, A14, A15, A16, A17, A18, A19, A20 of this claim, joined. -/
import Derived.Test.YthgdjoamfefcbaaGreatDoorMA1
import Derived.Laws.MakeOwn
import Derived.IntWalk
set_option linter.all false
set_option linter.unusedVariables false
set_option linter.unusedSimpArgs false
set_option linter.unnecessarySimpa false
/-
  WHAT ACTS: make, maps, ranging over maps.
-/
namespace Go.AM
section
variable {P : Program} {S : St} {w : World}

theorem mkslice_acts (hw : WR S w) {t e : TypeId} (ht : P.underlying t = some (.slice e)) {i : TypeInfo} (hi : P.info? e = some i) {z : List AV} (hz : zc P e = some z) {l c : AV} {L C : Value} (hl : Rel S w l L) (hc : Rel S w c C)
    {K : AV → St → Prop} (h : xmkslice z i.size i.bytes l c S K) : Acts P S w (do pure (.value (← Instr.makeSlice t L C))) K := by
  obtain ⟨i', Z, hi', hiz, hZ⟩ := zc_zero (S := S) (w := w) hz
  rw [hi] at hi'; cases hi'
  unfold xmkslice at h
  split at h
  case h_2 => exact h.elim
  rename_i kl ll kc cc
  have := hl.int_inv; subst this
  have := hc.int_inv; subst this
  obtain ⟨h0, h1, h2, h3, h4, h5, hK⟩ := h
  have hrun := run_make (P := P) w t e i Z ht hi hiz kl kc ll cc h0 h1 (by rw [Int.mul_comm]; omega) (by omega)
  have hr := range_rel hZ (cc.toNat * i.size)
  have hzl : z.length = Z.cells.size := by have := hZ.len; simpa using this
  have e1 : ((List.range (cc.toNat * i.size)).map fun k => z.getD (k % z.length) .dead) = ((List.range (cc.toNat * i.size)).map fun k => z.getD (k % i.size) .dead) := by rw [h4]
  rw [e1] at hr
  obtain ⟨q1, q2, q3, q4⟩ := new_cells hw e hr
  exact ⟨_, _, _, _, .inl (by simp only [Sem.run_bind, hrun, Result.andThen_ok, Sem.run_pure]; rfl), hK _ q1 q2, .msl _ _ _ _ _ (by omega), q3, q4⟩

theorem mkmap_acts (hw : WR S w) {t : TypeId} {K : AV → St → Prop} (h : xmkmap S K) : Acts P S w (do pure (.value (← Instr.makeMap t none))) K := by
  obtain ⟨q1, q2, q3, q4⟩ := new_obj hw (.map #[] 0) (.map [] 0) fun S' hE => ⟨#[], heap_alloc_new w _, rfl, fun i k v n e h => by simp at h⟩
  exact ⟨_, _, _, _, .inl (by simp only [Instr.makeMap, Sem.run_bind, run_newObj, Result.andThen_ok, Sem.run_pure]; rfl), h _ q1 q2, .map _, q3, q4⟩

theorem upd_setObj {r : Nat} (o : Obj) : Upd w r { w with heap := w.heap.setIfInBounds r o } :=
  ⟨rfl, rfl, rfl, by simp, fun k hk => by simp only [Array.getElem?_setIfInBounds]; rw [if_neg (Ne.symm hk)]⟩
theorem heap_setObj {r : Nat} {o o' : Obj} (h : w.heap[r]? = some o') : (w.heap.setIfInBounds r o)[r]? = some o := by
  have hlt : r < w.heap.size := by
    rcases Nat.lt_or_ge r w.heap.size with h1 | h1
    · exact h1
    · rw [Array.getElem?_eq_none h1] at h; cases h
  simp [hlt]
theorem run_setObj {r : Nat} {o o' : Obj} (h : w.heap[r]? = some o') (hc : ∀ c e f, o' ≠ .cells c e f) : (setObj r o).run P w = .ok () { w with heap := w.heap.setIfInBounds r o } := by
  simp only [setObj, Sem.run, h]

theorem shape_setObj {r : Nat} {o o' : Obj} (h : w.heap[r]? = some o') (hc : ∀ c e f, o' ≠ .cells c e f) (hc' : ∀ c e f, o ≠ .cells c e f) : ({ w with heap := w.heap.setIfInBounds r o } : World).shape? r = w.shape? r := by
  have h1 := heap_setObj (w := w) (o := o) h
  simp only [World.shape?, h1, h]
  cases o <;> cases o' <;> first | rfl | exact absurd rfl (hc _ _ _) | exact absurd rfl (hc' _ _ _)

theorem EntRel.modify {es : List (AV × AV × Nat)} {E : List MapEntry} (h : EntRel S w es E) (i : Nat) {k v : AV} {K V : Value} (hk : Rel S w k K) (hv : Rel S w v V) :
    EntRel S w (es.modify i fun e => (k, v, e.2.2)) (E.modify i fun e => { e with key := K, val := V }) := by
  refine ⟨by simp [h.1], fun j k' v' n e hx hy => ?_⟩
  rw [List.getElem?_modify] at hx hy
  by_cases hi : i = j
  · subst hi
    simp only [if_true, Option.map_eq_some_iff, Option.map_eq_map] at hx hy
    obtain ⟨a, h1, h2⟩ := hx; obtain ⟨b, h3, h4⟩ := hy
    obtain ⟨a1, a2, a3⟩ := a
    cases h2; subst h4
    exact ⟨hk, hv, (h.2 i _ _ _ _ h1 h3).2.2⟩
  · simp only [if_neg hi, Option.map_eq_map, Option.map_id', id_eq, Option.map_id] at hx hy
    exact h.2 j _ _ _ _ hx hy
theorem EntRel.push {es : List (AV × AV × Nat)} {E : List MapEntry} (h : EntRel S w es E) {k v : AV} {K V : Value} (n : Nat) (hk : Rel S w k K) (hv : Rel S w v V) :
    EntRel S w (es ++ [(k, v, n)]) (E ++ [{ key := K, val := V, born := n }]) := by
  refine ⟨by simp [h.1], fun j k' v' m e hx hy => ?_⟩
  rcases Nat.lt_trichotomy j es.length with h1 | h1 | h1
  · rw [List.getElem?_append_left h1] at hx
    rw [List.getElem?_append_left (by rw [← h.1]; exact h1)] at hy
    exact h.2 j _ _ _ _ hx hy
  · rw [List.getElem?_append_right (by omega)] at hx
    rw [List.getElem?_append_right (by rw [← h.1]; omega)] at hy
    have e1 : j - es.length = 0 := by omega
    have e2 : j - E.length = 0 := by rw [← h.1]; omega
    rw [e1] at hx; rw [e2] at hy
    simp at hx hy
    obtain ⟨rfl, rfl, rfl⟩ := hx
    subst hy
    exact ⟨hk, hv, rfl⟩
  · rw [List.getElem?_eq_none (by simp; omega)] at hx; cases hx
theorem EntRel.erase {es : List (AV × AV × Nat)} {E : List MapEntry} (h : EntRel S w es E) (i : Nat) : EntRel S w (es.eraseIdx i) (E.eraseIdx i) := by
  refine ⟨by rw [List.length_eraseIdx, List.length_eraseIdx, h.1], fun j k v n e hx hy => ?_⟩
  rw [List.getElem?_eraseIdx] at hx hy
  split at hx
  · rename_i hj; rw [if_pos hj] at hy; exact h.2 _ _ _ _ _ hx hy
  · rename_i hj; rw [if_neg hj] at hy; exact h.2 _ _ _ _ _ hx hy

theorem sameBits_key {st : Bool} {k k' : AV} {K K' : Value} (h1 : Rel S w k K) (h2 : Rel S w k' K') (hb : keyEq st k k' = some true) : ∀ n, Instr.sameBits n K' K = true := by
  intro n
  unfold keyEq at hb
  split at hb
  · rename_i a c
    have e1 := h1.str_inv; have e2 := h2.str_inv; subst e1 e2
    split at hb
    · have hac : (a.data.toList == c.data.toList) = true := by simpa using hb
      have : (c == a) = true := by
        rw [beq_toListBytes, ByteArray.toList_eq, ByteArray.toList_eq]
        simp only [beq_iff_eq] at hac ⊢
        exact hac.symm
      unfold Instr.sameBits
      exact this
    · cases hb
  · rename_i j m j' m'
    have e1 := h1.int_inv; have e2 := h2.int_inv; subst e1 e2
    split at hb
    · rename_i hj
      have hm : (m == m') = true := by simpa using hb
      unfold Instr.sameBits
      simp only [beq_iff_eq, Bool.and_eq_true] at hm ⊢
      exact ⟨hj.2.symm, hm.symm⟩
    · cases hb
  · cases hb

theorem xfind_key {st : Bool} {k : AV} : ∀ {es : List (AV × AV × Nat)} {i j : Nat} {v : AV}, xfind st k es i = some (some (j, v)) → ∃ k' n, i ≤ j ∧ es[j - i]? = some (k', v, n) ∧ keyEq st k k' = some true
  | [], i, j, v, h => by simp [xfind] at h
  | (k', v', n) :: es, i, j, v, h => by
    unfold xfind at h
    split at h
    · rename_i hb
      cases h
      exact ⟨k', n, Nat.le_refl _, by simp, hb⟩
    · obtain ⟨k'', n', h1, h2, h3⟩ := xfind_key h
      refine ⟨k'', n', by omega, ?_, h3⟩
      rw [show j - i = (j - (i + 1)) + 1 by omega]
      exact h2
    · cases h

theorem mapset_acts (hw : WR S w) {t kt et : TypeId} (ht : P.underlying t = some (.map kt et)) {kd : TypeDesc} (hkd : P.underlying kt = some kd) {st : Bool} (hst : keyT kd = some st)
    {m k v : AV} {M K V : Value} (hm : Rel S w m M) (hk : Rel S w k K) (hv : Rel S w v V) {J : AV → St → Prop} (h : xmapset st m k v S J) : Acts P S w (do Instr.mapUpdate t M K V; pure .skip) J := by
  unfold xmapset at h
  split at h
  case h_2 => exact h.elim
  rename_i r
  have := hm.map_inv; subst this
  split at h
  case h_2 => exact h.elim
  rename_i es clock hr
  obtain ⟨E, hE1, hE2⟩ := hw.obj r _ hr
  have nc : ∀ c e f, (Obj.map E clock) ≠ .cells c e f := by intros; simp
  split at h
  · rename_i i u hf
    obtain ⟨R, h1, h2⟩ := find_run (P := P) hk hkd hst hE2 hf
    cases R with
    | none => exact h2.elim
    | some x =>
      obtain ⟨a, b⟩ := x
      obtain ⟨rfl, _, hlt⟩ := h2
      obtain ⟨k', n', _, hk1, hk2⟩ := xfind_key hf
      simp only [Nat.sub_zero] at hk1
      have hlt' : i < E.toList.length := by rw [← hE2.1]; exact hlt
      obtain ⟨ek, _, _⟩ := hE2.2 i k' u n' _ hk1 (List.getElem?_eq_getElem hlt')
      have hsame := sameBits_key hk ek hk2 10000
      have hget : ((E[i]?).map (·.key)).getD K = (E.toList[i]'hlt').key := by
        rw [← Array.getElem?_toList, List.getElem?_eq_getElem hlt']; rfl
      have hrun : ((do Instr.mapUpdate t (.map (some r)) K V; pure .skip) : Sem Next).run P w = .ok .skip { w with heap := w.heap.setIfInBounds r (.map (E.modify i fun e => { e with key := K, val := V }) clock) } := by
        simp only [Instr.mapUpdate, Sem.run_bind, run_under ht, Result.andThen_ok, run_getObj hE1 nc, checkKey_simple hkd hst, h1, hget, Instr.keyThatStays, hsame, if_true, Sem.run_pure, run_setObj (P := P) hE1 nc]
      obtain ⟨q1, q2⟩ := owned_step hw hr (upd_setObj (w := w) (r := r) _) (shape_setObj (o := .map (E.modify i fun e => { e with key := K, val := V }) clock) hE1 nc (by intros; simp))
        (ob' := .map (es.modify i fun e => (k, v, e.2.2)) clock) (fun hE => ⟨_, heap_setObj (w := w) hE1, by
          rw [Array.toList_modify]
          exact EntRel.ext hE (hE2.modify i hk hv)⟩)
      exact ⟨undef, _, _, _, .inr ⟨hrun, rfl⟩, h, .tuple [] [] rfl (fun _ _ _ h => by simp at h), q1, q2⟩
  · rename_i hf
    obtain ⟨R, h1, h2⟩ := find_run (P := P) hk hkd hst hE2 hf
    cases R with
    | some x => exact h2.elim
    | none =>
      have hrun : ((do Instr.mapUpdate t (.map (some r)) K V; pure .skip) : Sem Next).run P w = .ok .skip { w with heap := w.heap.setIfInBounds r (.map (E.push { key := K, val := V, born := clock }) (clock + 1)) } := by
        simp only [Instr.mapUpdate, Sem.run_bind, run_under ht, Result.andThen_ok, run_getObj hE1 nc, checkKey_simple hkd hst, h1, run_setObj (P := P) hE1 nc, Sem.run_pure]
      obtain ⟨q1, q2⟩ := owned_step hw hr (upd_setObj (w := w) (r := r) _) (shape_setObj (o := .map (E.push { key := K, val := V, born := clock }) (clock + 1)) hE1 nc (by intros; simp))
        (ob' := .map (es ++ [(k, v, clock)]) (clock + 1)) (fun hE => ⟨_, heap_setObj (w := w) hE1, by
          rw [Array.toList_push]
          exact EntRel.ext hE (hE2.push clock hk hv)⟩)
      exact ⟨undef, _, _, _, .inr ⟨hrun, rfl⟩, h, .tuple [] [] rfl (fun _ _ _ h => by simp at h), q1, q2⟩
  · exact h.elim

theorem mapdel_acts (hw : WR S w) {t kt et : TypeId} (ht : P.underlying t = some (.map kt et)) {kd : TypeDesc} (hkd : P.underlying kt = some kd) {st : Bool} (hst : keyT kd = some st) {u ty : TypeId}
    {m k : AV} {M K : Value} (hm : Rel S w m M) (hk : Rel S w k K) {J : AV → St → Prop} (h : xmapdel st m k S J) : Acts P S w (do pure (.value (← Builtin.delete_ #[t, u] ty #[M, K]))) J := by
  have tup : ∀ {S' w'}, Rel S' w' (.tuple []) (.tuple #[]) := fun {S' w'} => .tuple [] [] rfl (fun _ _ _ h => by simp at h)
  unfold xmapdel at h
  split at h
  case h_3 => exact h.elim
  · have := hm.map_inv; subst this
    refine ⟨_, w, _, _, .inl ?_, h, tup, hw, .refl⟩
    simp [Builtin.delete_, run_under ht, checkKey_simple hkd hst]
  rename_i r
  have := hm.map_inv; subst this
  split at h
  case h_2 => exact h.elim
  rename_i es clock hr
  obtain ⟨E, hE1, hE2⟩ := hw.obj r _ hr
  have nc : ∀ c e f, (Obj.map E clock) ≠ .cells c e f := by intros; simp
  split at h
  · rename_i i x hf
    obtain ⟨R, h1, h2⟩ := find_run (P := P) hk hkd hst hE2 hf
    cases R with
    | none => exact h2.elim
    | some y =>
      obtain ⟨a, b⟩ := y
      obtain ⟨rfl, _, hlt⟩ := h2
      have hrun : ((do pure (.value (← Builtin.delete_ #[t, u] ty #[.map (some r), K]))) : Sem Next).run P w = .ok (.value (.tuple #[])) { w with heap := w.heap.setIfInBounds r (.map (E.eraseIdxIfInBounds i) clock) } := by
        simp only [Builtin.delete_, Sem.run_bind, List.getElem?_toArray, List.getElem?_cons_zero, List.getElem?_cons_succ, run_under ht, Result.andThen_ok, run_getObj hE1 nc, checkKey_simple hkd hst, h1, run_setObj (P := P) hE1 nc, Sem.run_pure]
      obtain ⟨q1, q2⟩ := owned_step hw hr (upd_setObj (w := w) (r := r) _) (shape_setObj (o := .map (E.eraseIdxIfInBounds i) clock) hE1 nc (by intros; simp))
        (ob' := .map (es.eraseIdx i) clock) (fun hE => ⟨_, heap_setObj (w := w) hE1, by
          rw [Array.toList_eraseIdxIfInBounds]
          exact EntRel.ext hE (hE2.erase i)⟩)
      exact ⟨_, _, _, _, .inl hrun, h, tup, q1, q2⟩
  · rename_i hf
    obtain ⟨R, h1, h2⟩ := find_run (P := P) hk hkd hst hE2 hf
    cases R with
    | some x => exact h2.elim
    | none =>
      have hrun : ((do pure (.value (← Builtin.delete_ #[t, u] ty #[.map (some r), K]))) : Sem Next).run P w = .ok (.value (.tuple #[])) { w with heap := w.heap.setIfInBounds r (.map E clock) } := by
        simp only [Builtin.delete_, Sem.run_bind, List.getElem?_toArray, List.getElem?_cons_zero, List.getElem?_cons_succ, run_under ht, Result.andThen_ok, run_getObj hE1 nc, checkKey_simple hkd hst, h1, run_setObj (P := P) hE1 nc, Sem.run_pure]
      have hsame : ({ w with heap := w.heap.setIfInBounds r (.map E clock) } : World) = w := by
        have : w.heap.setIfInBounds r (.map E clock) = w.heap := by
          apply Array.ext_getElem?
          intro j
          rw [Array.getElem?_setIfInBounds]
          by_cases hj : r = j
          · subst hj
            have hlt : r < w.heap.size := hw.lt_obj hr
            rw [if_pos rfl, if_pos hlt, hE1]
          · rw [if_neg hj]
        rw [this]
      rw [hsame] at hrun
      exact ⟨_, _, _, _, .inl hrun, h, tup, hw, .refl⟩
  · exact h.elim

theorem ranges_acts (hw : WR S w) {t : TypeId} (ht : P.underlying t = some .string) {x : AV} {X : Value} (hx : Rel S w x X) {J : AV → St → Prop} (h : xranges x S J) : Acts P S w (do pure (.value (← Instr.range t X))) J := by
  unfold xranges at h
  split at h
  · rename_i s
    have := hx.str_inv; subst this
    obtain ⟨q1, q2, q3, q4⟩ := new_obj hw (.stringIter s 0) (.siter s 0) fun S' hE => heap_alloc_new w _
    exact ⟨_, _, _, _, .inl (by simp only [Instr.range, Sem.run_bind, run_under ht, Result.andThen_ok, Sem.run_pure, run_newObj]; rfl), h _ q1 q2, .ptr _ _, q3, q4⟩
  · exact h.elim
theorem range_acts (hw : WR S w) {t k e : TypeId} (ht : P.underlying t = some (.map k e)) {x : AV} {X : Value} (hx : Rel S w x X) {J : AV → St → Prop} (h : xrange x S J) : Acts P S w (do pure (.value (← Instr.range t X))) J := by
  unfold xrange at h
  split at h
  · have := hx.map_inv; subst this
    obtain ⟨q1, q2, q3, q4⟩ := new_obj hw (.mapIter none 0 #[] 0) (.miter none 0 [] 0) fun S' hE => heap_alloc_new w _
    exact ⟨_, _, _, _, .inl (by simp only [Instr.range, Sem.run_bind, run_under ht, Result.andThen_ok, Sem.run_pure, run_newObj]; rfl), h _ q1 q2, .ptr _ _, q3, q4⟩
  · rename_i m
    have := hx.map_inv; subst this
    split at h
    case h_2 => exact h.elim
    rename_i es clock hm
    obtain ⟨E, hE1, hE2⟩ := hw.obj m _ hm
    obtain ⟨q1, q2, q3, q4⟩ := new_obj hw (.mapIter (some m) clock #[] clock) (.miter (some m) clock [] clock) fun S' hE => heap_alloc_new w _
    exact ⟨_, _, _, _, .inl (by simp only [Instr.range, Sem.run_bind, run_under ht, Result.andThen_ok, Sem.run_pure, run_newObj, run_getObj hE1 (by intros; simp)]; rfl), h _ q1 q2, .ptr _ _, q3, q4⟩
  · exact h.elim

theorem choose_next (n : Nat) (hn : 0 < n) (w : World) : ∃ j w1, j < n ∧ (w1 = w ∨ w1 = w.drew) ∧ (choose (.mapNext n)).run P w = .ok j w1 := by
  rw [run_choose]
  by_cases h : n ≤ 1
  · exact ⟨0, w, hn, .inl rfl, by simp [Question.forced, h]⟩
  · exact ⟨_, w.drew, Nat.mod_lt _ hn, .inr rfl, by simp only [Question.forced, decide_eq_true_eq, h, if_false, Question.cut]; rfl⟩

theorem next_acts (hw : WR S w) {ty : TypeId} {it : AV} {I : Value} (hi : Rel S w it I) {J : AV → St → Prop} (h : xnextm it S J) : Acts P S w (do pure (.value (← Instr.next I false ty))) J := by
  unfold xnextm at h
  split at h
  case h_2 => exact h.elim
  rename_i r
  have := hi.ptr_inv; subst this
  split at h
  case h_3 => exact h.elim
  · rename_i since seen last hr
    have h1 : w.heap[r]? = some (.mapIter none since seen.toArray last) := hw.obj r _ hr
    refine ⟨_, w, _, _, .inl ?_, h, .tuple' (.cons (.bool false) .nil), hw, .refl⟩
    simp only [Instr.next, Sem.run_bind, run_getObj h1 (by intros; simp), Result.andThen_ok, Sem.run_pure]
  · rename_i m since seen last hr
    have h1 : w.heap[r]? = some (.mapIter (some m) since seen.toArray last) := hw.obj r _ hr
    split at h
    case h_2 => exact h.elim
    rename_i es clock hm
    obtain ⟨E, hE1, hE2⟩ := hw.obj m _ hm
    obtain ⟨g0, g1, g2⟩ := h
    have hE : ∀ x ∈ E.toList, ∃ k v, (k, v, x.born) ∈ es ∧ Rel S w k x.key ∧ Rel S w v x.val := by
      intro x hx
      obtain ⟨i, hi⟩ := List.mem_iff_getElem?.1 hx
      have hlt : i < es.length := by
        rw [hE2.1]
        rcases Nat.lt_or_ge i E.toList.length with h3 | h3
        · exact h3
        · rw [List.getElem?_eq_none h3] at hi; cases hi
      obtain ⟨a1, a2, a3⟩ := hE2.2 i es[i].1 es[i].2.1 es[i].2.2 x (List.getElem?_eq_getElem hlt) hi
      exact ⟨_, _, by rw [a3]; exact List.getElem_mem hlt, a1, a2⟩
    have hE' : ∀ k v n, (k, v, n) ∈ es → ∃ x ∈ E.toList, x.born = n := by
      intro k v n hx
      obtain ⟨i, hi⟩ := List.mem_iff_getElem?.1 hx
      have hlt : i < E.toList.length := by
        rw [← hE2.1]
        rcases Nat.lt_or_ge i es.length with h3 | h3
        · exact h3
        · rw [List.getElem?_eq_none h3] at hi; cases hi
      exact ⟨E.toList[i], List.getElem_mem hlt, (hE2.2 i k v n _ hi (List.getElem?_eq_getElem hlt)).2.2⟩
    have htest : (!seen.toArray.isEmpty && !E.isEmpty && E.all (fun x => decide (x.born ≥ last))) = false := by
      rcases g0 with h3 | h3 | h3
      · subst h3; rfl
      · subst h3
        have : E.toList = [] := List.eq_nil_of_length_eq_zero hE2.1.symm
        have : E = #[] := by simpa using this
        subst this; simp
      · obtain ⟨x, hx, hlt⟩ := List.any_eq_true.1 h3
        obtain ⟨k, v, n⟩ := x
        obtain ⟨y, hy, rfl⟩ := hE' k v n hx
        have : E.all (fun x => decide (x.born ≥ last)) = false := by
          rw [← Array.all_toList, List.all_eq_false]
          exact ⟨y, hy, by simp at hlt ⊢; exact hlt⟩
        rw [this]; simp
    have hnc : ∀ c e f, Obj.map E clock ≠ .cells c e f := by intros; simp
    have hnc' : ∀ c e f, Obj.mapIter (some m) since seen.toArray last ≠ .cells c e f := by intros; simp
    generalize hL : E.filter (fun e => !seen.toArray.contains e.born) = left
    generalize hC : ((if (left.filter (·.born < since)).isEmpty then #[none] else #[]) ++ ((left.filter (·.born < since)) ++ (left.filter (·.born ≥ since))).map some : Array (Option MapEntry)) = cand
    have hpos : 0 < cand.size := by
      rw [← hC]
      by_cases h3 : (left.filter (·.born < since)).isEmpty = true
      · simp [h3]; omega
      · have : 0 < (left.filter (·.born < since)).size := by
          rcases Nat.eq_zero_or_pos (left.filter (·.born < since)).size with h4 | h4
          · exact absurd (by simpa [Array.isEmpty] using h4) h3
          · exact h4
        simp only [Array.size_append, Array.size_map]; omega
    obtain ⟨j, w1, hj, hw1, hch⟩ := choose_next (P := P) cand.size hpos w
    have hmem : cand[j]? = some cand[j] := Array.getElem?_eq_getElem hj
    have hrun : (Instr.next (.pointer (some ⟨r, 0, none⟩)) false ty).run P w = (match cand[j] with
        | some e => ((setObj r (.mapIter (some m) since (seen.toArray.push e.born) clock)).run P w1).andThen fun _ w' => .ok (.tuple #[.bool true, e.key, e.val]) w'
        | none => .ok (.tuple #[.bool false]) w1) := by
      simp only [Instr.next, Sem.run_bind, run_getObj h1 hnc', run_getObj hE1 hnc, Result.andThen_ok, htest, Bool.false_eq_true, if_false, hL, hC, hch, hmem]
      cases cand[j] with
      | none => rfl
      | some e => simp only [Sem.run_bind, Sem.run_pure]
    have hw1' : WR S w1 ∧ Ext S w S w1 := by
      rcases hw1 with rfl | rfl
      · exact ⟨hw, .refl⟩
      · exact ⟨hw.drew, .drew w⟩
    have hin : cand[j] ∈ cand := Array.getElem_mem hj
    cases hcj : cand[j] with
    | none =>
      rw [hcj] at hrun hin
      have hold : (left.filter (·.born < since)).isEmpty = true := by
        rw [← hC, Array.mem_append] at hin
        rcases hin with h3 | h3
        · by_cases h4 : (left.filter (·.born < since)).isEmpty = true
          · exact h4
          · rw [if_neg h4] at h3; simp at h3
        · simp at h3
      refine ⟨_, w1, _, _, .inl (by rw [Sem.run_bind, hrun]; rfl), g1 (fun k v n hx hn => ?_), .tuple' (.cons (.bool false) .nil), hw1'.1, hw1'.2⟩
      obtain ⟨y, hy, rfl⟩ := hE' k v n hx
      by_cases hs : y.born ∈ seen
      · exact hs
      · exfalso
        have : y ∈ left.filter (·.born < since) := by
          rw [Array.mem_filter, ← hL, Array.mem_filter]
          exact ⟨⟨by simpa using hy, by simpa using hs⟩, by simpa using hn⟩
        have h5 : left.filter (·.born < since) = #[] := by simpa [Array.isEmpty] using hold
        rw [h5] at this
        simp at this
    | some e =>
      rw [hcj] at hrun hin
      have he : e ∈ E.toList ∧ e.born ∉ seen := by
        rw [← hC, Array.mem_append] at hin
        have hm2 : e ∈ left := by
          rcases hin with h3 | h3
          · split at h3 <;> simp at h3
          · simp only [Array.mem_map, Option.some.injEq, exists_eq_right, Array.mem_append, Array.mem_filter] at h3
            rcases h3 with h3 | h3 <;> exact h3.1
        rw [← hL, Array.mem_filter] at hm2
        exact ⟨by simpa using hm2.1, by simpa using hm2.2⟩
      obtain ⟨k, v, hk1, hk2, hk3⟩ := hE e he.1
      have hr1 : w1.heap[r]? = some (.mapIter (some m) since seen.toArray last) := by rcases hw1 with rfl | rfl <;> exact h1
      dsimp only at hrun
      rw [run_setObj (P := P) hr1 hnc'] at hrun
      obtain ⟨q1, q2⟩ := owned_step hw1'.1 hr (upd_setObj (w := w1) (r := r) _) (shape_setObj (o := .mapIter (some m) since (seen.toArray.push e.born) clock) hr1 hnc' (by intros; simp))
        (ob' := .miter (some m) since (seen ++ [e.born]) clock) (fun hE => by
          show (w1.heap.setIfInBounds r _)[r]? = _
          rw [heap_setObj (w := w1) hr1]
          simp)
      exact ⟨_, _, _, _, .inl (by rw [Sem.run_bind, hrun]; rfl), g2 k v e.born hk1 he.2, .tuple' (.cons (.bool true) (.cons (q2.rel (hw1'.2.rel hk2)) (.cons (q2.rel (hw1'.2.rel hk3)) .nil))), q1, hw1'.2.trans q2⟩
end
end Go.AM
/-
  WHAT ACTS: append, copy.
-/
namespace Go.AM
section
variable {P : Program} {S : St} {w : World}

/-- What is appended, read in the world. -/
theorem news_run (hw : WR S w) {ez m : Nat} {x : AV} {X : Value} {new : List AV} (hx : Rel S w x X) (h : xnews ez x S = some (new, m)) :
    ∃ vs, RelL S w new vs ∧ vs.length = m * ez ∧ (∀ w', (Builtin.lenOf X).run P w' = .ok m w') ∧ (∀ k, k ≤ m → ∀ w', (w' = w ∨ w' = w.drew) → (Builtin.firstCells ez k X).run P w' = .ok (vs.take (k * ez)).toArray w') := by
  have cells : ∀ (b o n cap : Nat) (vs : List Value), vs.length = n * ez → (∀ (j : Nat) v, vs[j]? = some v → w.cell? ⟨b, o + j, none⟩ = some v) →
      ∀ k, k ≤ n → ∀ w', (w' = w ∨ w' = w.drew) → (Builtin.firstCells ez k (.slice (some ⟨b, o, none⟩) n cap)).run P w' = .ok (vs.take (k * ez)).toArray w' := by
    intro b o n cap vs hl hc k hk w' hw'
    have hle : k * ez ≤ n * ez := Nat.mul_le_mul_right _ hk
    refine run_firstCells_some w' ez k ⟨b, o, none⟩ n cap (vs.take (k * ez)) (by simp; omega) (fun j v hj => ?_)
    rw [add_mk]
    rw [List.getElem?_take] at hj
    split at hj
    · rcases hw' with rfl | rfl <;> exact hc j v hj
    · cases hj
  unfold xnews at h
  split at h
  · rename_i cs n own
    split at h
    case isFalse => cases h
    rename_i hl
    cases h
    rcases hx.slice_inv with ⟨rfl, rfl, rfl, rfl⟩ | ⟨a, rfl, rfl, _, rfl⟩ | ⟨vs, b, o, cap, rfl, hi, hr, hn, ho⟩
    · exact ⟨[], .nil, by simp, fun w' => rfl, fun k hk w' _ => by simp [Builtin.firstCells]⟩
    · refine ⟨[], .nil, by simp, fun w' => rfl, fun k hk w' _ => ?_⟩
      obtain rfl : k = 0 := by omega
      simpa using run_firstCells_some w' ez 0 a 0 0 [] (by simp) (fun j v hj => by simp at hj)
    · exact ⟨vs, hr, by rw [← hr.len]; exact hl, fun w' => rfl, cells b o m cap vs (by rw [← hr.len]; exact hl) fun j v hj => (hi j v hj).cell⟩
  · rename_i s
    split at h
    case isFalse => cases h
    rename_i hez
    subst hez
    cases h
    have := hx.str_inv; subst this
    have hsz : s.data.toList.length = s.size := by rw [Array.length_toList]; rfl
    refine ⟨_, ofBytes_rel _, by simp only [List.length_map]; omega, fun w' => rfl, fun k hk w' _ => ?_⟩
    simp only [Builtin.firstCells, Sem.run_pure, Nat.mul_one]
    congr 1
    apply Array.toList_inj.1
    simp only [Array.toList_map, ByteArray.data_extract, Array.toList_extract, List.extract_eq_take_drop, List.drop_zero, Nat.sub_zero, List.map_take]
  · rename_i b off n cap sz
    split at h
    case isFalse => cases h
    rename_i hsz
    have key : ∀ (cs : List AV), (S.obj b = some (.cells cs) ∨ S.obj b = some (.vec cs)) → off + n * ez ≤ cs.length → new = (cs.drop off).take (n * ez) → m = n →
        ∃ vs, RelL S w new vs ∧ vs.length = m * ez ∧ (∀ w', (Builtin.lenOf X).run P w' = .ok m w') ∧ (∀ k, k ≤ m → ∀ w', (w' = w ∨ w' = w.drew) → (Builtin.firstCells ez k X).run P w' = .ok (vs.take (k * ez)).toArray w') := by
      rintro cs hb hle rfl rfl
      obtain ⟨C, e, fz, h1, h2, h3⟩ := hw.cells hb
      have hr := (h3.drop off).take (m * ez)
      have hvl : (((C.toList.take cs.length).drop off).take (m * ez)).length = m * ez := by rw [← hr.len]; simp; omega
      have hc : ∀ (j : Nat) v, (((C.toList.take cs.length).drop off).take (m * ez))[j]? = some v → w.cell? ⟨b, off + j, none⟩ = some v := by
        intro j v hj
        rw [List.getElem?_take] at hj
        split at hj
        · exact cell_of h1 (by simpa using hj)
        · cases hj
      cases hx
      · exact ⟨_, hr, hvl, fun w' => rfl, cells b off m _ _ hvl hc⟩
      · exact ⟨_, hr, hvl, fun w' => rfl, cells b off m _ _ hvl hc⟩
    split at h
    · rename_i cs hb
      split at h
      · rename_i hle; cases h; exact key cs (.inl hb) hle rfl rfl
      · cases h
    · rename_i cs hb
      split at h
      · rename_i hle; cases h; exact key cs (.inr hb) hle rfl rfl
      · cases h
    · cases h
  · cases h

/-- The run of an append that finds no room. -/
theorem run_grow {t u e : TypeId} {ud : TypeDesc} (ht : P.underlying t = some (.slice e)) (hu : P.underlying u = some ud) (hud : (∃ e', ud = .slice e') ∨ ud = .string) {i : TypeInfo} (hi : P.info? e = some i) {Z : Value} (hz : i.zero = some Z)
    {base : Option Addr} {n cap m : Nat} {X : Value} {olds vs : List Value} {ty : TypeId} (hm : (Builtin.lenOf X).run P w = .ok m w) (hnew : (Builtin.firstCells i.size m X).run P w.drew = .ok vs.toArray w.drew)
    (hold : (Builtin.firstCells i.size n (.slice base n cap)).run P w.drew = .ok olds.toArray w.drew) (hg : cap < n + m) (hb : (n + m) * i.bytes ≤ 70368744177664) (hb2 : n + m ≤ 70368744177664) :
    ∃ c, n + m ≤ c ∧ (Builtin.append_ #[t, u] ty #[.slice base n cap, X]).run P w = .ok (.slice (some ⟨w.heap.size, 0, none⟩) (n + m) c)
      (w.drew.alloc (.cells (olds.toArray ++ vs.toArray ++ Builtin.zeroCells Z.cells (c - (n + m))) e)) := by
  have hn : ¬ (n + m ≤ cap) := by omega
  have h63 : ¬ (((n + m : Nat) : Int) > IntKind.i64.max ∧ (False ∨ i.bytes = 0)) := by simp; omega
  have h48 : ¬ (Builtin.nextslicecap (n + m) cap * i.bytes > 2 ^ 48) := by
    have := growslice_fits (bytes := i.bytes) hg (by omega)
    omega
  refine ⟨(Question.appendCap (n + m) cap e).cut (w.tape w.drawn (.appendCap (n + m) cap e)), by simp [Question.cut], ?_⟩
  have hch : (choose (.appendCap (n + m) cap e)).run P w = .ok ((Question.appendCap (n + m) cap e).cut (w.tape w.drawn (.appendCap (n + m) cap e))) w.drew := by rw [run_choose]; rfl
  generalize (Question.appendCap (n + m) cap e).cut (w.tape w.drawn (.appendCap (n + m) cap e)) = c at hch ⊢
  rcases hud with ⟨e', rfl⟩ | rfl
  all_goals
    simp only [Builtin.append_, List.getElem?_toArray, List.getElem?_cons_zero, List.getElem?_cons_succ, Sem.run_bind, run_under ht, Result.andThen_ok, run_size hi, run_under hu, Sem.run_pure,
      Bool.false_eq_true, if_false, hm, hn, run_info hi, h63, h48, hch, run_askRoom, hold, Bool.not_false, if_true, hnew, run_zero hi hz, newRow, run_newObj]
    rfl

/-- The run of an append that finds room. -/
theorem run_room {t u e : TypeId} {ud : TypeDesc} (ht : P.underlying t = some (.slice e)) (hu : P.underlying u = some ud) (hud : (∃ e', ud = .slice e') ∨ ud = .string) {i : TypeInfo} (hi : P.info? e = some i)
    {base : Option Addr} {n cap m : Nat} {X : Value} {vs : List Value} {ty : TypeId} (hm : (Builtin.lenOf X).run P w = .ok m w) (hnew : (Builtin.firstCells i.size m X).run P w = .ok vs.toArray w) (hg : n + m ≤ cap)
    {w' : World} (hst : ∀ a, base = some a → (storeCells (a.add (n * i.size)) vs).run P w = .ok () w') (hnb : base = none → w' = w) :
    (Builtin.append_ #[t, u] ty #[.slice base n cap, X]).run P w = .ok (.slice base (n + m) cap) w' := by
  rcases hud with ⟨e', rfl⟩ | rfl
  all_goals
    simp only [Builtin.append_, List.getElem?_toArray, List.getElem?_cons_zero, List.getElem?_cons_succ, Sem.run_bind, run_under ht, Result.andThen_ok, run_size hi, run_under hu, Sem.run_pure,
      Bool.false_eq_true, if_false, hm, hg, Bool.not_false, if_true, hnew]
    cases base with
    | none => rw [hnb rfl]; rfl
    | some a => simp only [Sem.run_bind, hst a rfl, Result.andThen_ok, Sem.run_pure]

theorem zeroCells_size (z : Array Value) (n : Nat) : (Builtin.zeroCells z n).size = n * z.size := by simp [Builtin.zeroCells]

/-- A row that is new and may be appended to. -/
theorem grow_step (hw : WR S w) {S1 : St} (h1 : S1.le S) {cs : List AV} {vs : List Value} (hr : RelL S w cs vs) {C : Array Value} (hC : ∀ (i : Nat) v, vs[i]? = some v → C[i]? = some v) (e : TypeId) {n c ez : Nat}
    (hn : vs.length = n * ez) (hc : n ≤ c) (hcs : C.size = c * ez) :
    WR (S1.setTok w.heap.size (n * ez)) (w.drew.alloc (.cells C e)) ∧ Ext S w (S1.setTok w.heap.size (n * ez)) (w.drew.alloc (.cells C e)) ∧
      Rel (S1.setTok w.heap.size (n * ez)) (w.drew.alloc (.cells C e)) (.slice cs n (.tok w.heap.size (n * ez) ez)) (.slice (some ⟨w.heap.size, 0, none⟩) n c) := by
  have w1 := (hw.less h1).drew
  have e1 : Ext S w S1 w.drew := (Ext.less h1).trans (.drew w)
  have e2 : Ext S1 w.drew (S1.setTok w.heap.size (n * ez)) (w.drew.alloc (.cells C e)) := .alloc _ (fun b hb => rfl) (fun b hb => by
    have : b ≠ w.heap.size := Nat.ne_of_lt hb
    simp [this])
  have hblk : (w.drew.alloc (.cells C e)).heap[w.heap.size]? = some (.cells C e) := heap_alloc_new w.drew _
  have hle : n * ez ≤ C.size := by rw [hcs]; exact Nat.mul_le_mul_right _ hc
  have w2 : WR (S1.setTok w.heap.size (n * ez)) (w.drew.alloc (.cells C e)) := by
    refine w1.step e2 (fun b o hb => .inl ⟨hb, heap_alloc_old _ _ _ (w1.lt_obj hb)⟩) (fun b x hb => ?_)
    by_cases hs : b = w.heap.size
    · subst hs
      simp at hb
      subst hb
      exact .inr ⟨w1.fresh.1, C, e, (0, 0), hblk, hle, fun off _ _ => by simp⟩
    · simp [hs] at hb
      exact .inl ⟨hb, (w1.tok b x hb).1, heap_alloc_old _ _ _ (w1.lt_tok hb)⟩
  refine ⟨w2, e1.trans e2, ?_⟩
  have hr' := (e1.trans e2).relL hr
  refine .slice _ vs _ _ _ 0 _ (fun i v hv => ⟨w1.fresh.1, fun x hx => ?_, ?_⟩) hr'.len hr'.rel hc ⟨by rw [hr'.len, hn], .inr ⟨rfl, by rw [hr'.len, hn]; omega, e, C.size, ?_, by rw [hcs]; omega⟩⟩
  · simp at hx; subst hx
    rw [← hn]
    rcases Nat.lt_or_ge i vs.length with h | h
    · omega
    · rw [List.getElem?_eq_none h] at hv; cases hv
  · rw [Nat.zero_add]
    simp only [World.cell?, hblk, Option.isSome_none, Bool.false_eq_true, if_false]
    exact hC i v hv
  · simp only [World.shape?, hblk]

theorem toArray_rest (olds vs : List Value) (Z : Array Value) : ∀ (i : Nat) v, (olds ++ vs)[i]? = some v → (olds.toArray ++ vs.toArray ++ Z)[i]? = some v := by
  intro i v h
  have hi : i < (olds ++ vs).length := by
    rcases Nat.lt_or_ge i (olds ++ vs).length with h1 | h1
    · exact h1
    · rw [List.getElem?_eq_none h1] at h; cases h
  rw [Array.getElem?_append_left (by simpa using hi)]
  simpa using h

/-- Cells stored behind a row's tail. -/
theorem tail_step (hw : WR S w) {t hw0 : Nat} (ht : S.tok t = some hw0) {vs : List Value} (hone : ∀ v ∈ vs, v.oneCell' = true) {o k : Nat} (hok : o + k = hw0) (hsz : ∃ e N, w.shape? t = some (e, N) ∧ hw0 + vs.length ≤ N) :
    ∃ w', (storeCells (Addr.add ⟨t, o, none⟩ k) vs).run P w = .ok () w' ∧ WR ((S.delTok t).setTok t (hw0 + vs.length)) w' ∧ Ext S w ((S.delTok t).setTok t (hw0 + vs.length)) w' ∧
      (∀ (i : Nat) v, vs[i]? = some v → w'.cell? ⟨t, hw0 + i, none⟩ = some v) := by
  obtain ⟨hto, C, e, fz, hh, hle, hfz⟩ := hw.tok t hw0 ht
  obtain ⟨e', N, hs1, hs2⟩ := hsz
  have hN : N = C.size := by simp only [World.shape?, hh, Option.some.injEq, Prod.mk.injEq] at hs1; exact hs1.2.symm
  subst hN
  obtain ⟨w', h1, h2, h3⟩ := run_storeCells (P := P) t (o + k) e fz vs 0 C w hh (by omega) (fun j hj1 hj2 => hfz j (by omega) (by omega)) hone
  simp only [Nat.add_zero, hok] at h1 h3
  have hsh := shape_cells hh h3 (setArr_size _ _ _)
  have hE : Ext S w ((S.delTok t).setTok t (hw0 + vs.length)) w' := by
    refine ⟨h2.os, h2.tape, h2.output, Nat.le_of_eq h2.size.symm, fun b _ ho => ho, ?_, ?_, ?_, ?_⟩
    · intro b _ _ x hx
      by_cases hb : b = t
      · subst hb; simp at hx; exact ⟨hw0, ht, by omega⟩
      · simp [hb] at hx; exact ⟨x, hx, Nat.le_refl _⟩
    · intro b _ _ hb
      exact h2.heap b (fun hc => by rw [hc, ht] at hb; cases hb)
    · intro b x _ _ hb off hoff
      by_cases hc : b = t
      · subst hc
        rw [ht] at hb; cases hb
        simp only [World.cell?, h3, hh, Option.isSome_none, Bool.false_eq_true, if_false]
        exact setArr_other _ _ _ _ hoff
      · exact cell?_of_heap (h2.heap b hc)
    · intro b e1 N h
      by_cases hc : b = t
      · subst hc; rw [hsh]; exact h
      · simp only [World.shape?, h2.heap b hc] at h ⊢; exact h
  refine ⟨w', by rw [add_mk, hok]; exact h1, hw.step hE (fun b ob hb => ?_) (fun b x hb => ?_), hE, fun i v hv => ?_⟩
  · have hne : b ≠ t := fun hc => by subst hc; have hb' : S.obj b = some ob := hb; rw [hto] at hb'; cases hb'
    exact .inl ⟨hb, h2.heap b hne⟩
  · by_cases hc : b = t
    · subst hc
      simp at hb
      subst hb
      exact .inr ⟨hto, _, e, fz, h3, by rw [setArr_size]; omega, fun off hoff1 hoff2 => hfz off (by omega) (by rw [setArr_size] at hoff2; exact hoff2)⟩
    · simp [hc] at hb
      exact .inl ⟨hb, (hw.tok b x hb).1, h2.heap b hc⟩
  · have hi : i < vs.length := by
      rcases Nat.lt_or_ge i vs.length with h | h
      · exact h
      · rw [List.getElem?_eq_none h] at hv; cases hv
    simp only [World.cell?, h3, Option.isSome_none, Bool.false_eq_true, if_false]
    rw [setArr_get _ _ _ _ (by omega) hi, hv]

theorem ok1_all {new : List AV} {vs : List Value} (hr : RelL S w new vs) (h : new.all AV.ok1 = true) : ∀ v ∈ vs, v.oneCell' = true := by
  intro u hu
  obtain ⟨k, hk⟩ := List.mem_iff_getElem?.1 hu
  have hlt : k < new.length := by
    rw [hr.len]
    rcases Nat.lt_or_ge k vs.length with h1 | h1
    · exact h1
    · rw [List.getElem?_eq_none h1] at hk; cases hk
  exact oneCell_of (hr.rel k _ u (List.getElem?_eq_getElem hlt) hk) ((List.all_eq_true.1 h) _ (List.getElem_mem hlt))

theorem append_acts (hw : WR S w) {own : Bool} {t u e : TypeId} {ud : TypeDesc} (ht : P.underlying t = some (.slice e)) (hu : P.underlying u = some ud) (hud : (∃ e', ud = .slice e') ∨ ud = .string) {i : TypeInfo} (hi : P.info? e = some i)
    {z : List AV} (hz : zc P e = some z) (hzl : z.length = i.size) {s x : AV} {A X : Value} (hs : Rel S w s A) (hx : Rel S w x X) {ty : TypeId} {K : AV → St → Prop} (h : xappend own i.size i.bytes s x S K) :
    Acts P S w (do pure (.value (← Builtin.append_ #[t, u] ty #[A, X]))) K := by
  obtain ⟨i', Z, hi', hiz, hZ⟩ := zc_zero (S := S) (w := w) hz
  rw [hi] at hi'; cases hi'
  have hZl : Z.cells.size = i.size := by have := hZ.len; simp at this; omega
  unfold xappend obind at h
  split at h
  case h_2 => exact h.elim
  rename_i nm hnews
  obtain ⟨new, m⟩ := nm
  dsimp only at h
  obtain ⟨hez, hone, h⟩ := h
  obtain ⟨vs, hr, hvl, hlen, hfirst⟩ := news_run (P := P) hw hx hnews
  have hone' := ok1_all hr hone
  have htake : ∀ k, k = m → vs.take (k * i.size) = vs := by rintro k rfl; rw [← hvl]; exact List.take_length
  have hf0 : (Builtin.firstCells i.size m X).run P w = .ok vs.toArray w := by have := hfirst m (Nat.le_refl _) w (.inl rfl); rwa [htake m rfl] at this
  have hf1 : (Builtin.firstCells i.size m X).run P w.drew = .ok vs.toArray w.drew := by have := hfirst m (Nat.le_refl _) w.drew (.inr rfl); rwa [htake m rfl] at this
  have lift : ∀ V w' v S', (Builtin.append_ #[t, u] ty #[A, X]).run P w = .ok V w' → K v S' → Rel S' w' v V → WR S' w' → Ext S w S' w' → Acts P S w (do pure (.value (← Builtin.append_ #[t, u] ty #[A, X]))) K :=
    fun V w' v S' h1 h2 h3 h4 h5 => ⟨V, w', v, S', .inl (by simp only [Sem.run_bind, h1, Result.andThen_ok, Sem.run_pure]), h2, h3, h4, h5⟩
  by_cases hm0 : m = 0
  · -- nothing is appended
    rw [if_pos hm0] at h
    subst hm0
    have hvs : vs = [] := List.eq_nil_of_length_eq_zero (by omega)
    subst hvs
    have hsl : ∃ base n cap, A = .slice base n cap ∧ n ≤ cap ∧ K s S := by
      split at h
      · rcases hs.slice_inv with ⟨_, _, _, rfl⟩ | ⟨_, _, rfl, _, rfl⟩ | ⟨vs', b, o, cap, rfl, _, _, hn, _⟩
        · exact ⟨_, _, _, rfl, Nat.le_refl _, h⟩
        · exact ⟨_, _, _, rfl, Nat.le_refl _, h⟩
        · exact ⟨_, _, _, rfl, hn, h⟩
      · cases hs with
        | msl b o n cap sz hn => exact ⟨_, _, _, rfl, hn, h⟩
        | vsl b o n cap sz hn _ => exact ⟨_, _, _, rfl, hn, h⟩
      · exact h.elim
    obtain ⟨base, n, cap, rfl, hn, hK⟩ := hsl
    exact lift _ w _ _ (run_room ht hu hud hi (hlen w) hf0 (by omega) (fun a _ => rfl) (fun _ => rfl)) hK (by simpa using hs) hw .refl
  rw [if_neg hm0] at h
  -- the growing of a row whose first cells are read
  have grow : ∀ (base : Option Addr) (n cap : Nat) (cs : List AV) (olds : List Value) (S1 : St), A = .slice base n cap → S1.le S → RelL S w cs olds → olds.length = n * i.size → cap < n + m →
      (n + m) * i.bytes ≤ 70368744177664 → n + m ≤ 70368744177664 → (Builtin.firstCells i.size n A).run P w.drew = .ok olds.toArray w.drew →
      K (.slice (cs ++ new) (n + m) (.tok w.heap.size ((n + m) * i.size) i.size)) (S1.setTok w.heap.size ((n + m) * i.size)) → Acts P S w (do pure (.value (← Builtin.append_ #[t, u] ty #[A, X]))) K := by
    rintro base n cap cs olds S1 rfl hS1 hro hol hg hb hb2 hfo hK
    obtain ⟨c, hc, hrun⟩ := run_grow (ty := ty) ht hu hud hi hiz (hlen w) hf1 hfo hg hb hb2
    have hC := toArray_rest olds vs (Builtin.zeroCells Z.cells (c - (n + m)))
    obtain ⟨g1, g2, g3⟩ := grow_step hw hS1 (hro.append hr) hC e (n := n + m) (c := c) (ez := i.size) (by simp [hol, hvl, Nat.add_mul]) hc (by
      simp only [Array.size_append, List.size_toArray, zeroCells_size, hol, hvl, hZl]
      rw [← Nat.add_mul, ← Nat.add_mul]; congr 1; omega)
    exact lift _ _ _ _ hrun hK g3 g1 g2
  have oldcells : ∀ (b o n cap : Nat) (olds : List Value), olds.length = n * i.size → (∀ (j : Nat) v, olds[j]? = some v → w.cell? ⟨b, o + j, none⟩ = some v) →
      (Builtin.firstCells i.size n (.slice (some ⟨b, o, none⟩) n cap)).run P w.drew = .ok olds.toArray w.drew := by
    intro b o n cap olds hol hcell
    exact run_firstCells_some w.drew i.size n ⟨b, o, none⟩ n cap olds hol (fun j v hj => by rw [add_mk]; exact hcell j v hj)
  split at h
  · -- a slice whose cells stay
    rename_i cs n o
    obtain ⟨hcl, hb, hb2, h⟩ := h
    split at h
    · -- nil
      rcases hs.slice_inv with ⟨rfl, rfl, _, rfl⟩ | ⟨_, _, _, h3, _⟩ | ⟨_, _, _, _, _, _, _, _, ho⟩
      · simp only [Nat.zero_add] at hb hb2
        cases own with
        | true =>
          simp only [if_true] at h
          obtain ⟨c, hc, hrun⟩ := run_grow (ty := ty) (n := 0) ht hu hud hi hiz (hlen w) hf1 (run_firstCells_none w.drew i.size 0 0 0) (by omega) (by simpa using hb) (by simpa using hb2)
          simp only [Nat.zero_add] at hc hrun
          have hC := toArray_rest [] vs (Builtin.zeroCells Z.cells (c - m))
          obtain ⟨q1, q2, q3, q4⟩ := new_obj hw.drew (.cells ((#[] : Array Value) ++ vs.toArray ++ Builtin.zeroCells Z.cells (c - m)) e) (.vec new) fun S' hE => ⟨_, e, (0, 0), heap_alloc_new w.drew _, Fz.zero _, by
            rw [hr.len]; simp, by
            have := hE.relL ((Ext.drew w).relL hr)
            rw [hr.len]
            have e1 : (((#[] : Array Value) ++ vs.toArray ++ Builtin.zeroCells Z.cells (c - m)).toList.take vs.length) = vs := by simp
            rw [e1]; exact this⟩
          refine lift _ _ _ _ hrun (h _ q1 q2) (.vsl _ _ _ _ _ hc ⟨e, c * i.size, ?_, by omega⟩) q3 ((Ext.drew w).trans q4)
          have hblk : (w.drew.alloc (.cells ((#[] : Array Value) ++ vs.toArray ++ Builtin.zeroCells Z.cells (c - m)) e)).heap[w.heap.size]? = _ := heap_alloc_new w.drew _
          have hsize : ((#[] : Array Value) ++ vs.toArray ++ Builtin.zeroCells Z.cells (c - m)).size = c * i.size := by
            simp only [Array.size_append, List.size_toArray, zeroCells_size, hvl, hZl, Array.size_empty, List.length_nil, Nat.zero_add]
            rw [← Nat.add_mul]; congr 1; omega
          show (match (w.drew.alloc (.cells ((#[] : Array Value) ++ vs.toArray ++ Builtin.zeroCells Z.cells (c - m)) e)).heap[w.heap.size]? with | some (.cells c elem _) => some (elem, c.size) | _ => none) = _
          rw [hblk]; dsimp only; rw [hsize]
        | false =>
          simp only [Bool.false_eq_true, if_false] at h
          have := grow none 0 0 [] [] S rfl (St.le_refl S) .nil (by simp) (by omega) (by simpa using hb) (by simpa using hb2) (run_firstCells_none w.drew i.size 0 0 0) (by
            simpa using h _ hw.fresh.1 hw.fresh.2)
          exact this
      · rcases h3 with h3 | h3 <;> cases h3
      · exact ho.elim
    · -- full
      rcases hs.slice_inv with ⟨_, _, h3, _⟩ | ⟨a, rfl, rfl, h3, rfl⟩ | ⟨olds, b, o', cap, rfl, hio, hro, hn, ho⟩
      · cases h3
      · exact grow (some a) 0 0 [] [] S rfl (St.le_refl S) .nil (by simp) (by omega) hb hb2 (run_firstCells_some w.drew i.size 0 a 0 0 [] (by simp) (fun j v hj => by simp at hj)) (h _ hw.fresh.1 hw.fresh.2)
      · have : cap = n := ho
        subst this
        exact grow _ _ _ _ _ S rfl (St.le_refl S) hro (by rw [← hro.len]; exact hcl) (by omega) hb hb2 (oldcells b o' cap cap olds (by rw [← hro.len]; exact hcl) fun j v hj => (hio j v hj).cell)
          (h _ hw.fresh.1 hw.fresh.2)
    · -- with a tail
      rename_i tk hwm sz
      obtain ⟨rfl, htok, hK⟩ := h
      rcases hs.slice_inv with ⟨_, _, h3, _⟩ | ⟨_, _, _, h3, _⟩ | ⟨olds, b, o', cap, rfl, hio, hro, hn, ho⟩
      · cases h3
      · rcases h3 with h3 | h3 <;> cases h3
      · have hol : olds.length = n * i.size := by rw [← hro.len]; exact hcl
        by_cases hroom : n + m ≤ cap
        · obtain ⟨_, ho⟩ := ho
          rcases ho with h0 | ⟨rfl, hend, e', N, hsh, hN⟩
          · omega
          · have hle : (n + m) * i.size ≤ cap * i.size := Nat.mul_le_mul_right _ hroom
            rw [Nat.add_mul] at hle
            obtain ⟨w', q1, q2, q3, q4⟩ := tail_step (P := P) hw htok hone' (o := o') (k := n * i.size) (by omega) ⟨e', N, hsh, by omega⟩
            have hrun := run_room (ty := ty) ht hu hud hi (hlen w) hf0 hroom (base := some ⟨tk, o', none⟩) (w' := w') (by rintro a ⟨⟩; exact q1) (by intro h; cases h)
            have hto := (hw.tok tk hwm htok).1
            refine lift _ _ _ _ hrun (hK tk (hwm + vs.length) hto (.inl rfl)) ?_ q2 q3
            have hrel := (q3.relL hro).append (q3.relL hr)
            refine .slice _ (olds ++ vs) _ _ _ o' _ (fun k v hv => ?_) hrel.len hrel.rel hroom ⟨by simp [hcl, Nat.add_mul, hr.len, hvl], .inr ⟨rfl, by simp [hcl, hr.len]; omega, e', N, q3.shape _ _ _ hsh, hN⟩⟩
            rcases Nat.lt_or_ge k olds.length with hk | hk
            · rw [List.getElem?_append_left hk] at hv
              exact q3.imm (hio k v hv)
            · rw [List.getElem?_append_right hk] at hv
              have hk2 : k - olds.length < vs.length := by
                rcases Nat.lt_or_ge (k - olds.length) vs.length with h1 | h1
                · exact h1
                · rw [List.getElem?_eq_none h1] at hv; cases hv
              refine ⟨hto, fun y hy => ?_, ?_⟩
              · simp at hy; subst hy; omega
              · have := q4 (k - olds.length) v hv
                rwa [show hwm + (k - olds.length) = o' + k by omega] at this
        · exact grow _ _ _ _ _ (S.delTok tk) rfl ⟨fun b o h => h, fun b x h => by
            by_cases hbt : b = tk
            · subst hbt; simp at h
            · simpa [hbt] using h⟩ hro hol (by omega) hb hb2 (oldcells b o' n cap olds hol fun j v hj => (hio j v hj).cell) (hK w.heap.size _ hw.fresh.1 (.inr hw.fresh.2))
    · exact h.elim
  · -- an owned slice
    rename_i b off n cap sz
    obtain ⟨rfl, hb, hb2, h⟩ := h
    split at h
    · rename_i c cs hobj
      obtain ⟨hc1, hc2, h⟩ := h
      obtain ⟨C, e', fz, hh, hf, hrc⟩ := hw.obj b _ hobj
      have hlen' := hrc.len
      simp only [Array.length_toList] at hlen'
      cases hs with
      | msl _ _ _ _ _ hn =>
        by_cases hroom : n + m ≤ c
        · rw [if_pos hroom] at h
          have hle : (n + m) * i.size ≤ c * i.size := Nat.mul_le_mul_right _ hroom
          rw [Nat.add_mul] at hle
          obtain ⟨w', q1, q2, q3⟩ := run_storeCells (P := P) b (off + n * i.size) e' fz vs 0 C w hh (by omega) (fun j _ _ => hf j (by omega)) hone'
          have hrun := run_room (ty := ty) ht hu hud hi (hlen w) hf0 hroom (base := some ⟨b, off, none⟩) (w' := w') (by rintro a ⟨⟩; rw [add_mk]; exact q1) (by intro h; cases h)
          obtain ⟨g1, g2⟩ := owned_step hw hobj q2 (shape_cells hh q3 (setArr_size _ _ _)) (ob' := .cells (setList cs (off + n * i.size) new)) (fun hE => ⟨_, e', fz, q3, hf.size (setArr_size _ _ _), hE.relL (setArr_rel _ hrc hr)⟩)
          exact lift _ _ _ _ hrun h (.msl _ _ _ _ _ hroom) g1 g2
        · rw [if_neg hroom] at h
          have hnc : n * i.size ≤ c * i.size := Nat.mul_le_mul_right _ hc2
          have hro := (hrc.drop off).take (n * i.size)
          have hol : ((C.toList.drop off).take (n * i.size)).length = n * i.size := by simp; omega
          refine grow _ _ _ _ _ S rfl (St.le_refl S) hro hol (by omega) hb hb2 (oldcells b off n c _ hol fun j v hj => ?_) (h _ hw.fresh.1 hw.fresh.2)
          rw [List.getElem?_take] at hj
          split at hj
          · simp only [World.cell?, hh, Option.isSome_none, Bool.false_eq_true, if_false]
            simpa using hj
          · cases hj
    · rename_i cs hobj
      obtain ⟨rfl, hcl, h⟩ := h
      obtain ⟨C, e', fz, hh, hf, hcle, hrc⟩ := hw.obj b _ hobj
      cases hs with
      | vsl _ _ _ cp _ hn hsh =>
        obtain ⟨e2, N, hsh, hN⟩ := hsh
        have hNC : N = C.size := by simp only [World.shape?, hh, Option.some.injEq, Prod.mk.injEq] at hsh; exact hsh.2.symm
        subst hNC
        by_cases hroom : n + m ≤ cp
        · have hle : (n + m) * i.size ≤ cp * i.size := Nat.mul_le_mul_right _ hroom
          rw [Nat.add_mul] at hle
          obtain ⟨w', q1, q2, q3⟩ := run_storeCells (P := P) b (0 + n * i.size) e' fz vs 0 C w hh (by omega) (fun j _ _ => hf j (by omega)) hone'
          have hrun := run_room (ty := ty) ht hu hud hi (hlen w) hf0 hroom (base := some ⟨b, 0, none⟩) (w' := w') (by rintro a ⟨⟩; rw [add_mk]; exact q1) (by intro h; cases h)
          have hsame : (S.delObj b).setObj b (.vec (cs ++ new)) = S.setObj b (.vec (cs ++ new)) := by
            simp only [St.setObj, St.delObj, St.mk.injEq, and_true]
            funext k; by_cases hk : k = b <;> simp [hk]
          have hK := h b (.inl rfl)
          rw [hsame] at hK
          have hsh2 := shape_cells hh q3 (setArr_size _ _ _)
          obtain ⟨g1, g2⟩ := owned_step hw hobj q2 hsh2 (ob' := .vec (cs ++ new)) (fun hE => ⟨_, e', fz, q3, hf.size (setArr_size _ _ _), by
            rw [setArr_size, List.length_append, hr.len]; omega, by
            have e1 : ((setArr C (0 + n * i.size + 0) vs).toList.take (cs ++ new).length) = C.toList.take cs.length ++ vs := by
              apply List.ext_getElem?
              intro k
              have hcl2 : (C.toList.take cs.length).length = n * i.size := by simp; omega
              rw [List.getElem?_take]
              by_cases hk : k < (cs ++ new).length
              · rw [if_pos hk, Array.getElem?_toList]
                simp only [List.length_append] at hk
                rcases Nat.lt_or_ge k (n * i.size) with h6 | h6
                · rw [setArr_other _ _ _ _ (by omega), List.getElem?_append_left (by omega), List.getElem?_take, if_pos (by omega)]; simp
                · rw [show k = 0 + n * i.size + 0 + (k - n * i.size) by omega, setArr_get _ _ _ _ (by omega) (by rw [← hr.len]; omega), List.getElem?_append_right (by omega)]
                  congr 1; omega
              · rw [if_neg hk, List.getElem?_eq_none]
                simp only [List.length_append] at hk ⊢
                rw [hcl2, ← hr.len]; omega
            rw [e1]
            exact hE.relL (hrc.append hr)⟩)
          exact lift _ _ _ _ hrun hK (.vsl _ _ _ _ _ hroom ⟨e2, C.size, by rw [g2.shape _ _ _ hsh], hN⟩) g1 g2
        · -- it moves
          have hol : (C.toList.take cs.length).length = n * i.size := by simp; omega
          obtain ⟨c, hc, hrun⟩ := run_grow (ty := ty) ht hu hud hi hiz (hlen w) hf1 (oldcells b 0 n cp _ hol fun j v hj => by
            rw [Nat.zero_add]; exact cell_of hh hj) (by omega) hb hb2
          have hle : (S.delObj b).le S := ⟨fun k o h => by
            by_cases hk : k = b
            · subst hk; simp at h
            · simpa [hk] using h, fun k x h => h⟩
          have w1 := (hw.less hle).drew
          have e1 : Ext S w (S.delObj b) w.drew := (Ext.less hle).trans (.drew w)
          have hrel := hrc.append hr
          have hlenv : (C.toList.take cs.length ++ vs).length = (n + m) * i.size := by rw [List.length_append, hol, hvl, Nat.add_mul]
          obtain ⟨q1, q2, q3, q4⟩ := new_obj w1 (.cells ((C.toList.take cs.length).toArray ++ vs.toArray ++ Builtin.zeroCells Z.cells (c - (n + m))) e) (.vec (cs ++ new)) fun S' hE => ⟨_, e, (0, 0), heap_alloc_new w.drew _, Fz.zero _, by
            rw [hrel.len]; simp, by
            have := hE.relL (e1.relL hrel)
            rw [hrel.len]
            have e2 : (((C.toList.take cs.length).toArray ++ vs.toArray ++ Builtin.zeroCells Z.cells (c - (n + m))).toList.take (C.toList.take cs.length ++ vs).length) = C.toList.take cs.length ++ vs := by
              have e3 : ((C.toList.take cs.length).toArray ++ vs.toArray ++ Builtin.zeroCells Z.cells (c - (n + m))).toList = (C.toList.take cs.length ++ vs) ++ (Builtin.zeroCells Z.cells (c - (n + m))).toList := by simp
              rw [e3, List.take_left]
            rw [e2]; exact this⟩
          refine lift _ _ _ _ hrun (h w.heap.size (.inr ⟨hw.fresh.1, hw.fresh.2⟩)) (.vsl _ _ _ _ _ hc ⟨e, c * i.size, ?_, by omega⟩) q3 (e1.trans q4)
          have hblk : (w.drew.alloc (.cells ((C.toList.take cs.length).toArray ++ vs.toArray ++ Builtin.zeroCells Z.cells (c - (n + m))) e)).heap[w.heap.size]? = _ := heap_alloc_new w.drew _
          have hsize : ((C.toList.take cs.length).toArray ++ vs.toArray ++ Builtin.zeroCells Z.cells (c - (n + m))).size = c * i.size := by
            simp only [Array.size_append, List.size_toArray, zeroCells_size, hvl, hZl, hol]
            rw [← Nat.add_mul, ← Nat.add_mul]; congr 1; omega
          show (match (w.drew.alloc (.cells ((C.toList.take cs.length).toArray ++ vs.toArray ++ Builtin.zeroCells Z.cells (c - (n + m))) e)).heap[w.heap.size]? with | some (.cells c elem _) => some (elem, c.size) | _ => none) = _
          rw [hblk]; dsimp only; rw [hsize]
    · exact h.elim
  · exact h.elim
end
end Go.AM
/-
  WHAT ACTS: copy; one operation; calls.
-/
namespace Go.AM
section
variable {P : Program} {S : St} {w : World}

theorem copy_acts (hw : WR S w) {t u e : TypeId} (ht : P.underlying t = some (.slice e)) {i : TypeInfo} (hi : P.info? e = some i) {d x : AV} {D X : Value} (hd : Rel S w d D) (hx : Rel S w x X) {ty : TypeId} {K : AV → St → Prop}
    (h : xcopy i.size d x S K) : Acts P S w (do pure (.value (← Builtin.copy_ #[t, u] ty #[D, X]))) K := by
  unfold xcopy obind at h
  split at h
  case h_2 => exact h.elim
  rename_i nm hnews
  obtain ⟨new, m⟩ := nm
  dsimp only at h
  obtain ⟨hez, hone, h⟩ := h
  obtain ⟨vs, hr, hvl, hlen, hfirst⟩ := news_run (P := P) hw hx hnews
  have hone' := ok1_all hr hone
  split at h
  · rename_i b off n c sz
    split at h
    case h_2 => exact h.elim
    rename_i cs hobj
    obtain ⟨rfl, hle, h⟩ := h
    cases hd with
    | msl _ _ _ _ _ hn =>
    obtain ⟨C, e', fz, hh, hf, hrc⟩ := hw.obj b _ hobj
    have hlen' := hrc.len
    simp only [Array.length_toList] at hlen'
    have hmin : Nat.min m n = min m n := rfl
    have hk : min m n * i.size ≤ n * i.size := Nat.mul_le_mul_right _ (by omega)
    obtain ⟨w', q1, q2, q3⟩ := run_storeCells (P := P) b off e' fz (vs.take (min m n * i.size)) 0 C w hh (by simp only [List.length_take]; omega) (fun j _ hj => hf j (by simp only [List.length_take] at hj; omega)) (fun v hv => hone' v (List.mem_of_mem_take hv))
    obtain ⟨g1, g2⟩ := owned_step hw hobj q2 (shape_cells hh q3 (setArr_size _ _ _)) (ob' := .cells (setList cs off (new.take (min m n * i.size)))) (fun hE => ⟨_, e', fz, q3, hf.size (setArr_size _ _ _), hE.relL (setArr_rel _ hrc (hr.take _))⟩)
    refine ⟨.int .i64 ((min m n : Nat) : Int), w', _, _, .inl ?_, h, ?_, g1, g2⟩
    · simp only [Builtin.copy_, List.getElem?_toArray, List.getElem?_cons_zero, List.getElem?_cons_succ, Sem.run_bind, run_under ht, Result.andThen_ok, run_size hi, hlen w, Sem.run_pure, hmin, hfirst (min m n) (by omega) w (.inl rfl), q1, goInt]
    · exact .int _ _
  · cases hd with
    | snil =>
      refine ⟨.int .i64 0, w, _, _, .inl ?_, h, .int _ _, hw, .refl⟩
      have h0 : Nat.min m 0 = 0 := by simp
      simp only [Builtin.copy_, List.getElem?_toArray, List.getElem?_cons_zero, List.getElem?_cons_succ, Sem.run_bind, run_under ht, Result.andThen_ok, run_size hi, hlen w, Sem.run_pure, h0, hfirst 0 (by omega) w (.inl rfl), goInt]
      rfl
    | semp a own h3 => rcases h3 with h3 | h3 <;> cases h3
    | slice _ _ _ _ _ _ _ _ _ _ _ ho => exact ho.elim
  · exact h.elim

/-! ## Calls -/

/-- May it be called? -/
def callable (P : Program) (f : FuncId) : Bool := match P.funcs[f]? with
  | some fn => fn.name != "runtime.NumGoroutine" && fn.body.isSome
  | none => false

/-- A function does as is said of it. -/
def Sound (P : Program) (f : FuncId) (Sp : Spec) : Prop :=
  callable P f = true ∧ ∀ (args : List AV) (vals : Array Value) (S : St) (w : World) (Q : En → St → Prop), WR S w → RelL S w args vals.toList → Sp args S Q →
    Calls P f vals w fun e w' => ∃ v S', Q v S' ∧ WR S' w' ∧ Ext S w S' w' ∧ (match v, e with
      | .ret a, .returned A => Rel S' w' a A
      | .pan a, .panicked chain => ∃ A, chain = [{ v := A, recovered := false }] ∧ Rel S' w' a A
      | _, _ => False)

theorem run_callFunc {f : FuncId} (h : callable P f = true) (args : Array Value) (w : World) : (callFunc f args).run P w = .ok (.enter f args) w := by
  unfold callable at h
  split at h
  · rename_i fn hf
    simp only [Bool.and_eq_true, bne_iff_ne, ne_eq] at h
    have hb : fn.body.isNone = false := by cases hb : fn.body <;> simp [hb] at h ⊢
    have hn : (fn.name == "runtime.NumGoroutine") = false := by simpa using h.1
    simp only [callFunc, Sem.run_bind, run_program, Result.andThen_ok, hf, hn, hb, Bool.false_eq_true, if_false, Sem.run_pure]
  · cases h

/-! ## One operation -/

/-- Where a piece of code began: what was owned, the world, the slots; which slots it may write; the deferred calls. -/
structure Base where
  S : St
  w : World
  T : Array Value
  W : List Nat
  D : List Deferred

/-- The state of a frame and the world. -/
structure SR (B : Base) (fr : Fr) (S : St) (a : Act) (w : World) : Prop where
  fr : RelL S w fr a.tmps.toList
  wr : WR S w
  ext : Ext B.S B.w S w
  size : a.tmps.size = B.T.size
  keep : ∀ j, j ∉ B.W → a.tmps[j]? = B.T[j]?
  defers : a.defers = B.D

def Cz (B : Base) (K : Fr → St → Prop) (a : Act) (w : World) : Prop := ∃ fr S, K fr S ∧ SR B fr S a w

/-- A panic that leaves. -/
def Pz (B : Base) (X : AV → St → Prop) (Q : Exit → Act → World → Prop) : Prop :=
  ∀ v S A a w, X v S → Rel S w v A → WR S w → Ext B.S B.w S w → a.defers = B.D → Q (.panic [{ v := A, recovered := false }]) a w

/-- An operation writes where it may. -/
def Wd (B : Base) (o : Oper) : Prop := ∀ d, o.dst = some d → d ∈ B.W

theorem SR.put {B : Base} {S S' : St} {w w' : World} {fr : Fr} {a : Act} (h : SR B fr S a w) (hw : WR S' w') (hE : Ext S w S' w') {o : Oper} (hd : Wd B o) {v : AV} {V : Value} (hv : Rel S' w' v V) :
    SR B (aput fr o.dst v) S' (a.put o.dst V) w' := by
  unfold Wd at hd
  cases hds : o.dst with
  | none => exact ⟨hE.relL h.fr, hw, h.ext.trans hE, h.size, h.keep, h.defers⟩
  | some d =>
    refine ⟨by simpa [aput, Act.put] using (hE.relL h.fr).set d hv, hw, h.ext.trans hE, by simp [Act.put, h.size], fun j hj => ?_, h.defers⟩
    have : d ≠ j := fun hc => hj (hc ▸ hd d hds)
    simp only [Act.put]
    rw [Array.getElem?_setIfInBounds_ne this]
    exact h.keep j hj

theorem val_wp {B : Base} {fr : Fr} {a : Act} {o : Oper} (hd : Wd B o) {v : AV} (h : SR B fr S a w) (hv : aval P fr S o.op = some v) {K : Fr → St → Prop} (hK : K (aput fr o.dst v) S) {Q : Exit → Act → World → Prop} :
    o.wp P a w (Cz B K) Q := by
  obtain ⟨V, w', h1, h2, h3, h4⟩ := aval_sound h.wr h.fr hv
  unfold Oper.wp
  rw [h1]
  exact ⟨_, _, hK, h.put h3 h4 hd h2⟩

theorem acts_wp {B : Base} {fr : Fr} {a : Act} {o : Oper} (hd : Wd B o) (h : SR B fr S a w) {K : AV → St → Prop} (hs : Acts P S w (execOp a.eval o) K) {K' : Fr → St → Prop}
    (hK : ∀ v S', K v S' → K' (aput fr o.dst v) S') {Q : Exit → Act → World → Prop} : o.wp P a w (Cz B K') Q := by
  obtain ⟨V, w', v, S', h1, h2, h3, h4, h5⟩ := hs
  unfold Oper.wp
  rcases h1 with h1 | ⟨h1, rfl⟩
  · rw [h1]; exact ⟨_, _, hK v S' h2, h.put h4 h5 hd h3⟩
  · rw [h1]; exact ⟨_, _, hK v S' h2, h.put h4 h5 hd h3⟩

theorem acts_congr {s s' : Sem Next} (h : s.run P w = s'.run P w) {K : AV → St → Prop} (y : Acts P S w s' K) : Acts P S w s K := by
  obtain ⟨V, w', v, S', h1, h2⟩ := y
  exact ⟨V, w', v, S', by rw [h]; exact h1, h2⟩

theorem args_rel {fr : Fr} {a : Act} (hf : RelL S w fr a.tmps.toList) (l : Array Operand) : RelL S w (l.toList.map (aeval fr)) (l.map a.eval).toList := by
  rw [Array.toList_map]
  refine ⟨by simp, fun i x y hx hy => ?_⟩
  simp only [List.getElem?_map, Option.map_eq_some_iff] at hx hy
  obtain ⟨p, h1, rfl⟩ := hx; obtain ⟨q, h2, rfl⟩ := hy
  rw [h1] at h2; cases h2; exact aeval_rel hf p

theorem call_wp {Φ : FuncId → Spec} (hΦ : ∀ f args S Q, Φ f args S Q → Sound P f (Φ f)) {B : Base} {fr : Fr} {a : Act} {o : Oper} (hd : Wd B o) (h : SR B fr S a w) {f : FuncId} {args : List AV} {vals : Array Value}
    (hrun : callable P f = true → (execOp a.eval o).run P w = .ok (.enter f vals) w) (hargs : RelL S w args vals.toList) {K X : AV → St → Prop} (hc : xcall Φ f args S K X) {K' : Fr → St → Prop}
    (hK : ∀ v S', K v S' → K' (aput fr o.dst v) S') {Q : Exit → Act → World → Prop} (hX : Pz B X Q) : o.wp P a w (Cz B K') Q := by
  unfold xcall at hc
  obtain ⟨hcall, hs⟩ := hΦ f args S _ hc
  unfold Oper.wp
  rw [hrun hcall]
  refine (hs args vals S w _ h.wr hargs hc).mono ?_
  rintro e w' ⟨v, S', h1, h2, h3, h4⟩
  cases v with
  | ret v =>
    cases e with
    | returned A => exact ⟨_, _, hK v S' h1, h.put h2 h3 hd h4⟩
    | panicked c => exact h4.elim
    | outgrown => exact h4.elim
  | pan v =>
    cases e with
    | returned A => exact h4.elim
    | panicked c =>
      obtain ⟨A, rfl, h5⟩ := h4
      exact hX v S' A a w' h1 h5 h2 (h.ext.trans h3) h.defers
    | outgrown => exact h4.elim

end
end Go.AM
/-
  EVERY OPERATION THAT ACTS; an operation of a region.
-/
namespace Go.AM
section
variable {P : Program} {S : St} {w : World} {Φ : FuncId → Spec} {own : Nat → Bool}

/-- The functions that are called do as is said of them. -/
def Sounds (P : Program) (Φ : FuncId → Spec) : Prop := ∀ f args S Q, Φ f args S Q → Sound P f (Φ f)

theorem aeff_wp (hΦ : Sounds P Φ) {B : Base} {fr : Fr} {a : Act} {o : Oper} (hd : Wd B o) (h : SR B fr S a w) {K X : AV → St → Prop} (ha : aeff P Φ own fr S K X o) {K' : Fr → St → Prop}
    (hK : ∀ v S', K v S' → K' (aput fr o.dst v) S') {Q : Exit → Act → World → Prop} (hX : Pz B X Q) : o.wp P a w (Cz B K') Q := by
  have ev := fun x => aeval_rel h.fr x
  have hw := h.wr
  unfold aeff at ha
  split at ha
  · rename_i t hop
    unfold obind at ha
    split at ha
    case h_2 => exact ha.elim
    rename_i z hz
    exact acts_wp hd h (acts_congr (by simp only [execOp, hop]) (alloc_acts hw hz ha)) hK
  · rename_i t v hop
    split at ha
    case h_2 => exact ha.elim
    exact acts_wp hd h (acts_congr (by simp only [execOp, hop]) (box_acts hw (t := t) (ev v) ha)) hK
  · rename_i t x v hop
    split at ha
    case h_2 => exact ha.elim
    rename_i i hi
    exact acts_wp hd h (acts_congr (by simp only [execOp, hop]) (store_acts hw hi (ev x) (ev v) ha)) hK
  · rename_i t l c hop
    split at ha
    case h_2 => exact ha.elim
    rename_i e ht
    split at ha
    case h_2 => exact ha.elim
    rename_i i z hi hz
    exact acts_wp hd h (acts_congr (by simp only [execOp, hop]) (mkslice_acts hw ht hi hz (ev l) (ev c) ha)) hK
  · rename_i t hop
    exact acts_wp hd h (acts_congr (by simp only [execOp, hop, Option.map_none]) (mkmap_acts hw (t := t) ha)) hK
  · rename_i t m k v hop
    split at ha
    case h_2 => exact ha.elim
    rename_i kt et ht
    split at ha
    case h_2 => exact ha.elim
    rename_i kd hkd
    split at ha
    case h_2 => exact ha.elim
    rename_i st hst
    exact acts_wp hd h (acts_congr (by simp only [execOp, hop]) (mapset_acts hw ht hkd hst (ev m) (ev k) (ev v) ha)) hK
  · rename_i t m k v hop
    split at ha
    case h_2 => exact ha.elim
    rename_i kt et ht
    split at ha
    case h_2 => exact ha.elim
    rename_i kd hkd
    split at ha
    case h_2 => exact ha.elim
    rename_i st hst
    exact acts_wp hd h (acts_congr (by simp only [execOp, hop]) (mapset_acts hw ht hkd hst (ev m) (ev k) (ev v) ha)) hK
  · rename_i t x hop
    split at ha
    · rename_i ht; exact acts_wp hd h (acts_congr (by simp only [execOp, hop]) (ranges_acts hw ht (ev x) ha)) hK
    · rename_i k e ht; exact acts_wp hd h (acts_congr (by simp only [execOp, hop]) (range_acts hw ht (ev x) ha)) hK
    · exact ha.elim
  · rename_i it hop
    exact acts_wp hd h (acts_congr (by simp only [execOp, hop]) (next_acts hw (ty := o.type) (ev it) ha)) hK
  · rename_i t len parts hop
    split at ha
    case h_2 => exact ha.elim
    rename_i e ht
    split at ha
    case h_2 => exact ha.elim
    rename_i j z hj hz
    split at ha
    case isFalse => exact ha.elim
    rename_i hb
    split at ha
    case h_2 => exact ha.elim
    rename_i ps hps
    exact acts_wp hd h (acts_congr (by simp only [execOp, hop]) (mslice_acts hw ht hj hz hb.1 hb.2.1 hb.2.2 h.fr hps ha)) hK
  · rename_i s d x hop
    split at ha
    case isFalse =>
      split at ha
      case h_2 => exact ha.elim
      rename_i e hts htd
      split at ha
      case h_2 => exact ha.elim
      rename_i he
      exact acts_wp hd h (acts_congr (by simp only [execOp, hop]) (s2bo_acts hw hts htd he (ev x) ha)) hK
    rename_i hsd
    subst hsd
    split at ha
    case h_2 => exact ha.elim
    rename_i e ht
    split at ha
    case h_2 => exact ha.elim
    rename_i he
    exact acts_wp hd h (acts_congr (by simp only [execOp, hop]) (mark_acts hw ht he (ev x) ha)) hK
  · rename_i x hop
    split at ha
    case h_2 => exact ha.elim
    rename_i t v hx
    have hv := ev x
    rw [hx] at hv
    obtain ⟨V, hp, hv'⟩ := hv.iface_inv
    have hrun : (execOp a.eval o).run P w = .halt (.panic (.iface t V)) w := by
      simp only [execOp, hop, hp, Instr.panic, Sem.run_bind, run_goPanic, Result.andThen_halt]
    unfold Oper.wp
    rw [hrun]
    exact hX _ _ _ _ _ ha (.iface _ _ _ hv') hw h.ext h.defers
  · rename_i c hop
    split at ha
    · rename_i t u s x hc ht hx
      have ht' : c.argTypes = #[t, u] := by rw [← Array.toList_inj, ht]
      have hx' : c.args = #[s, x] := by rw [← Array.toList_inj, hx]
      obtain ⟨consts, he⟩ := exec_builtin (P := P) (w := w) (a := a) hop hc
      have hx2 : c.args.map a.eval = #[a.eval s, a.eval x] := by rw [hx']; simp
      rw [ht', hx2] at he
      split at ha
      case h_2 => exact ha.elim
      rename_i e ud hte hu
      split at ha
      · rename_i i z e' hi hz
        split at ha
        case isFalse => exact ha.elim
        rename_i hzl
        exact acts_wp hd h (acts_congr he (append_acts (ty := o.type) hw hte hu (.inl ⟨_, rfl⟩) hi hz hzl (ev s) (ev x) ha)) hK
      · rename_i i z hi hz
        split at ha
        case isFalse => exact ha.elim
        rename_i hzl
        exact acts_wp hd h (acts_congr he (append_acts (ty := o.type) hw hte hu (.inr rfl) hi hz hzl (ev s) (ev x) ha)) hK
      · exact ha.elim
    · rename_i t u s x hc ht hx
      have ht' : c.argTypes = #[t, u] := by rw [← Array.toList_inj, ht]
      have hx' : c.args = #[s, x] := by rw [← Array.toList_inj, hx]
      obtain ⟨consts, he⟩ := exec_builtin (P := P) (w := w) (a := a) hop hc
      have hx2 : c.args.map a.eval = #[a.eval s, a.eval x] := by rw [hx']; simp
      rw [ht', hx2] at he
      split at ha
      case h_2 => exact ha.elim
      rename_i e hte
      split at ha
      case h_2 => exact ha.elim
      rename_i i hi
      exact acts_wp hd h (acts_congr he (copy_acts (ty := o.type) hw hte hi (ev s) (ev x) ha)) hK
    · rename_i t u s x hc ht hx
      have ht' : c.argTypes = #[t, u] := by rw [← Array.toList_inj, ht]
      have hx' : c.args = #[s, x] := by rw [← Array.toList_inj, hx]
      obtain ⟨consts, he⟩ := exec_builtin (P := P) (w := w) (a := a) hop hc
      have hx2 : c.args.map a.eval = #[a.eval s, a.eval x] := by rw [hx']; simp
      rw [ht', hx2] at he
      split at ha
      case h_2 => exact ha.elim
      rename_i kt et hte
      split at ha
      case h_2 => exact ha.elim
      rename_i kd hkd
      split at ha
      case h_2 => exact ha.elim
      rename_i st hst
      exact acts_wp hd h (acts_congr he (mapdel_acts (u := u) (ty := o.type) hw hte hkd hst (ev s) (ev x) ha)) hK
    · rename_i f hc
      refine call_wp hΦ hd h (fun hcall => ?_) (args_rel h.fr c.args) ha hK hX
      simp only [execOp, hop, resolve, hc, Deferred.ofValue, Act.eval, Sem.run_bind, Sem.run_pure, Result.andThen_ok, invoke]
      rw [run_callFunc hcall]
      simp only [Array.empty_append, Array.append_empty]
    · rename_i f hf hc
      unfold xcallv at ha
      split at ha
      case h_2 => exact ha.elim
      rename_i g first cap hg
      have hv := ev f
      rw [hg] at hv
      obtain ⟨fv, cv, hp, h1, h2⟩ := hv.func_inv
      refine call_wp hΦ hd h (vals := fv.toArray ++ c.args.map a.eval ++ cv.toArray) (fun hcall => ?_) ?_ ha hK hX
      · simp only [execOp, hop, resolve, hc, hp, Deferred.ofValue, Sem.run_bind, Sem.run_pure, Result.andThen_ok, invoke]
        rw [run_callFunc hcall]
      · have := (h1.append (args_rel h.fr c.args)).append h2
        simpa using this
    · exact ha.elim
  · exact ha.elim
end
end Go.AM
/-
  REGIONS: what holds of one order of the operations holds of all.
-/
namespace Go.AM

/-! ## On what a reading of an operation hangs -/
section
variable {P : Program}

theorem aeval_put {fr : Fr} {d : Tmp} {v : AV} {x : Operand} (h : x ≠ .tmp d) : aeval (fr.set d v) x = aeval fr x := by
  cases x with
  | tmp t =>
    have : t ≠ d := fun hc => h (by rw [hc])
    simp only [aeval, List.getD_eq_getElem?_getD]
    rw [List.getElem?_set_ne (Ne.symm this)]
  | _ => rfl

theorem placed_congr {place : Nat → Option (Nat × Nat)} {fr fr' : Fr} : ∀ {l : List (Nat × Operand)}, (∀ p ∈ l, aeval fr p.2 = aeval fr' p.2) → placed place fr l = placed place fr' l
  | [], _ => rfl
  | (i, x) :: l, h => by
    simp only [placed]
    rw [placed_congr (l := l) (fun p hp => h p (by simp [hp])), h (i, x) (by simp)]

theorem map_congr_ev {fr fr' : Fr} {l : List Operand} (h : ∀ x ∈ l, aeval fr x = aeval fr' x) : l.map (aeval fr) = l.map (aeval fr') := List.map_congr_left h

theorem aval_congr {fr fr' : Fr} (op : Op) (S : St) (h : ∀ x ∈ op.operands, aeval fr x = aeval fr' x) : aval P fr S op = aval P fr' S op := by
  cases op with
  | build t ps =>
    have hp : ∀ place, placed place fr ps.toList = placed place fr' ps.toList := fun place => placed_congr fun p hp => h p.2 (by
      simp only [Op.operands, List.mem_toArray, List.mem_map]; exact ⟨p, hp, rfl⟩)
    simp only [aval, hp]
  | buildSlice t n ps =>
    have hp : ∀ place, placed place fr ps.toList = placed place fr' ps.toList := fun place => placed_congr fun p hp => h p.2 (by
      simp only [Op.operands, List.mem_toArray, List.mem_map]; exact ⟨p, hp, rfl⟩)
    simp only [aval, hp]
  | makeFunc fn first cap =>
    simp only [aval]
    rw [map_congr_ev (l := first.toList) (fun x hx => h x (by simp only [Op.operands, Array.mem_append]; exact .inl (by simpa using hx))),
      map_congr_ev (l := cap.toList) (fun x hx => h x (by simp only [Op.operands, Array.mem_append]; exact .inr (by simpa using hx)))]
  | slice t x lo hi mx =>
    have hx := h x (by simp [Op.operands])
    have hl : lo.map (aeval fr) = lo.map (aeval fr') := by cases lo with
      | none => rfl
      | some y => simp only [Option.map_some, h y (by simp [Op.operands])]
    have hh : hi.map (aeval fr) = hi.map (aeval fr') := by cases hi with
      | none => rfl
      | some y => simp only [Option.map_some, h y (by simp [Op.operands])]
    have hm : mx.map (aeval fr) = mx.map (aeval fr') := by cases mx with
      | none => rfl
      | some y => simp only [Option.map_some, h y (by simp [Op.operands])]
    simp only [aval, hx, hl, hh, hm]
  | call c =>
    have hc : ∀ x ∈ c.args.toList, aeval fr x = aeval fr' x := fun x hx => h x (by simp only [Op.operands, Call.operands, Array.mem_append]; exact .inr (by simpa using hx))
    simp only [aval]
    split
    · rename_i t x _ _ hx
      rw [hc x (by rw [hx]; simp)]
    · rename_i t x _ _ hx
      rw [hc x (by rw [hx]; simp)]
    · rename_i x y _ hx
      rw [hc x (by rw [hx]; simp), hc y (by rw [hx]; simp)]
    · rename_i x y _ hx
      rw [hc x (by rw [hx]; simp), hc y (by rw [hx]; simp)]
    · rfl
  | _ => first
    | rfl
    | (simp only [Op.operands, List.mem_toArray, List.mem_cons, List.not_mem_nil, or_false, forall_eq_or_imp, forall_eq] at h; simp only [aval, h]; done)

theorem aeff_congr {Φ : FuncId → Spec} {own : Nat → Bool} {fr fr' : Fr} (o : Oper) (S : St) (K X : AV → St → Prop) (h : ∀ x ∈ o.op.operands, aeval fr x = aeval fr' x) : aeff P Φ own fr S K X o = aeff P Φ own fr' S K X o := by
  obtain ⟨dst, op, type, pos, after, guard⟩ := o
  cases op with
  | call c =>
    have hc : ∀ x ∈ c.args.toList, aeval fr x = aeval fr' x := fun x hx => h x (by simp only [Op.operands, Call.operands, Array.mem_append]; exact .inr (by simpa using hx))
    simp only [aeff]
    split
    · rename_i t u s x _ _ hx
      rw [hc s (by rw [hx]; simp), hc x (by rw [hx]; simp)]
    · rename_i t u s x _ _ hx
      rw [hc s (by rw [hx]; simp), hc x (by rw [hx]; simp)]
    · rename_i t u s x _ _ hx
      rw [hc s (by rw [hx]; simp), hc x (by rw [hx]; simp)]
    · rw [map_congr_ev hc]
    · rename_i f hf hcl
      rw [map_congr_ev hc, h f (by simp [Op.operands, Call.operands, hcl])]
    · rfl
  | makeMap t r => cases r <;> rfl
  | buildSlice t n ps =>
    have hp : ∀ place, placed place fr ps.toList = placed place fr' ps.toList := fun place => placed_congr fun p hp => h p.2 (by
      simp only [Op.operands, List.mem_toArray, List.mem_map]; exact ⟨p, hp, rfl⟩)
    simp only [aeff, hp]
  | next it b => cases b <;> first | rfl | (simp only [Op.operands, List.mem_toArray, List.mem_cons, List.not_mem_nil, or_false, forall_eq_or_imp, forall_eq] at h; simp only [aeff, h]; done)
  | _ => first
    | rfl
    | (simp only [Op.operands, List.mem_toArray, List.mem_cons, List.not_mem_nil, or_false, forall_eq_or_imp, forall_eq] at h; simp only [aeff, h]; done)

theorem looks_ne {ops : Array Oper} {o : Oper} {d : Tmp} (h : d ∉ o.looksAt ops) : ∀ x ∈ o.op.operands, x ≠ .tmp d := by
  rintro x hx rfl
  refine h ?_
  simp only [Oper.looksAt, List.mem_append, List.mem_filterMap]
  exact .inl ⟨.tmp d, by simpa using hx, rfl⟩

theorem gslot_put {ops : Array Oper} {fr : Fr} {o : Oper} {j : Nat} {want : Bool} (hg : o.guard = some (j, want)) {d : Tmp} (h : d ∉ o.looksAt ops) (v : AV) : gslot ops (fr.set d v) j = gslot ops fr j := by
  unfold gslot
  cases hd : (ops[j]?).bind (·.dst) with
  | none => rfl
  | some e =>
    have : e ≠ d := by
      rintro rfl
      refine h ?_
      simp only [Oper.looksAt, List.mem_append, hg, hd]
      exact .inr (by simp)
    simp only [List.getD_eq_getElem?_getD]
    rw [List.getElem?_set_ne (Ne.symm this)]

theorem gval_put {ops : Array Oper} {fr : Fr} {o : Oper} {dst : Option Tmp} (h : ∀ d, dst = some d → d ∉ o.looksAt ops) (v : AV) (S : St) : gval P ops (aput fr dst v) S o = gval P ops fr S o := by
  cases dst with
  | none => rfl
  | some d =>
    have hd := h d rfl
    have ha : aval P (fr.set d v) S o.op = aval P fr S o.op := aval_congr _ _ fun x hx => aeval_put (looks_ne hd x hx)
    unfold gval
    simp only [aput]
    cases hg : o.guard with
    | none => exact ha
    | some x =>
      obtain ⟨j, want⟩ := x
      simp only [ha, gslot_put hg hd]

theorem geff_put {Φ : FuncId → Spec} {own : Nat → Bool} {ops : Array Oper} {fr : Fr} {o : Oper} {dst : Option Tmp} (h : ∀ d, dst = some d → d ∉ o.looksAt ops) (v : AV) (S : St) (K X : AV → St → Prop) :
    geff P Φ own ops (aput fr dst v) S K X o = geff P Φ own ops fr S K X o := by
  cases dst with
  | none => rfl
  | some d =>
    have hd := h d rfl
    have ha : ∀ K, aeff P Φ own (fr.set d v) S K X o = aeff P Φ own fr S K X o := fun K => aeff_congr _ _ _ _ fun x hx => aeval_put (looks_ne hd x hx)
    unfold geff
    simp only [aput]
    cases hg : o.guard with
    | none => exact ha K
    | some x =>
      obtain ⟨j, want⟩ := x
      simp only [ha, gslot_put hg hd]

theorem aput_comm (fr : Fr) {x y : Option Tmp} (v u : AV) (h : ∀ d, x = some d → y ≠ some d) : aput (aput fr x v) y u = aput (aput fr y u) x v := by
  cases x with
  | none => rfl
  | some d => cases y with
    | none => rfl
    | some e =>
      have : d ≠ e := fun hc => h d rfl (by rw [hc])
      simp only [aput]
      exact List.set_comm _ _ this

/-! ## More is enough -/
def Monos (Φ : FuncId → Spec) : Prop := ∀ f args S Q Q', (∀ e S', Q e S' → Q' e S') → Φ f args S Q → Φ f args S Q'

theorem obind_mono {α : Type} {x : Option α} {k k' : α → Prop} (h : ∀ v, k v → k' v) (hx : obind x k) : obind x k' := by
  cases x with
  | none => exact hx
  | some v => exact h v hx

theorem freshTok_mono {S : St} {cs : List AV} {n hw ez : Nat} {K K' : AV → St → Prop} (h : ∀ v S', K v S' → K' v S') (hx : freshTok S cs n hw ez K) : freshTok S cs n hw ez K' := fun b h1 h2 => h _ _ (hx b h1 h2)

theorem xcall_mono {Φ : FuncId → Spec} (hΦ : Monos Φ) {f : FuncId} {args : List AV} {S : St} {K K' X : AV → St → Prop} (h : ∀ v S', K v S' → K' v S') (hx : xcall Φ f args S K X) : xcall Φ f args S K' X :=
  hΦ _ _ _ _ _ (fun e S' he => by cases e with
    | ret v => exact h v S' he
    | pan v => exact he) hx

theorem xappend_mono {own : Bool} {ez bz : Nat} {s x : AV} {S : St} {K K' : AV → St → Prop} (h : ∀ v S', K v S' → K' v S') (hx : xappend own ez bz s x S K) : xappend own ez bz s x S K' := by
  refine obind_mono (fun nm hnm => ?_) hx
  obtain ⟨new, m⟩ := nm
  obtain ⟨h1, h2, h3⟩ := hnm
  refine ⟨h1, h2, ?_⟩
  by_cases hm : m = 0
  · rw [if_pos hm] at h3 ⊢
    cases s <;> first | exact h3.elim | exact h _ _ h3
  · rw [if_neg hm] at h3 ⊢
    cases s <;> first | exact h3.elim | skip
    · rename_i cs n o
      obtain ⟨q1, q2, q3, q4⟩ := h3
      refine ⟨q1, q2, q3, ?_⟩
      cases o with
      | nil =>
        cases own with
        | true => exact fun b h1 h2 => h _ _ (q4 b h1 h2)
        | false => exact freshTok_mono h q4
      | full => exact freshTok_mono h q4
      | ro => exact q4
      | tok t hw sz => exact ⟨q4.1, q4.2.1, fun b hw' h1 h2 => h _ _ (q4.2.2 b hw' h1 h2)⟩
    · rename_i b off n cap sz
      obtain ⟨q1, q2, q3, q4⟩ := h3
      refine ⟨q1, q2, q3, ?_⟩
      split at q4
      · refine ⟨q4.1, q4.2.1, ?_⟩
        have := q4.2.2
        split at this
        · rename_i hc; rw [if_pos hc]; exact h _ _ this
        · rename_i hc; rw [if_neg hc]; exact freshTok_mono h this
      · exact ⟨q4.1, q4.2.1, fun b' h1 => h _ _ (q4.2.2 b' h1)⟩
      · exact q4.elim

theorem aeff_mono {Φ : FuncId → Spec} (hΦ : Monos Φ) {own : Nat → Bool} {fr : Fr} {S : St} {K K' X : AV → St → Prop} (h : ∀ v S', K v S' → K' v S') (o : Oper) (hx : aeff P Φ own fr S K X o) : aeff P Φ own fr S K' X o := by
  unfold aeff at hx ⊢
  split at hx
  · exact obind_mono (fun z hz b h1 h2 => h _ _ (hz b h1 h2)) hx
  · split at hx
    · exact obind_mono (fun z hz => ⟨hz.1, fun b h1 h2 => h _ _ (hz.2 b h1 h2)⟩) hx
    · exact hx
  · split at hx
    · unfold xstore at hx ⊢
      split at hx
      · split at hx
        · exact obind_mono (fun z hz => ⟨hz.1, hz.2.1, hz.2.2.1, h _ _ hz.2.2.2⟩) hx
        · exact obind_mono (fun z hz => ⟨hz.1, hz.2.1, hz.2.2.1, h _ _ hz.2.2.2⟩) hx
        · exact hx
      · exact hx
    · exact hx
  · split at hx
    · split at hx
      · unfold xmkslice at hx ⊢
        split at hx
        · obtain ⟨a1, a2, a3, a4, a5, a6, a7⟩ := hx
          exact ⟨a1, a2, a3, a4, a5, a6, fun b h1 h2 => h _ _ (a7 b h1 h2)⟩
        · exact hx
      · exact hx
    · exact hx
  · exact fun b h1 h2 => h _ _ (hx b h1 h2)
  · split at hx
    · split at hx
      · split at hx
        · unfold xmapset at hx ⊢
          split at hx
          · split at hx
            · split at hx
              · exact h _ _ hx
              · exact h _ _ hx
              · exact hx
            · exact hx
          · exact hx
        · exact hx
      · exact hx
    · exact hx
  · split at hx
    · split at hx
      · split at hx
        · unfold xmapset at hx ⊢
          split at hx
          · split at hx
            · split at hx
              · exact h _ _ hx
              · exact h _ _ hx
              · exact hx
            · exact hx
          · exact hx
        · exact hx
      · exact hx
    · exact hx
  · split at hx
    · unfold xranges at hx ⊢
      split at hx
      · exact fun b h1 h2 => h _ _ (hx b h1 h2)
      · exact hx
    · unfold xrange at hx ⊢
      split at hx
      · exact fun b h1 h2 => h _ _ (hx b h1 h2)
      · split at hx
        · exact fun b h1 h2 => h _ _ (hx b h1 h2)
        · exact hx
      · exact hx
    · exact hx
  · unfold xnextm at hx ⊢
    split at hx
    · split at hx
      · exact h _ _ hx
      · split at hx
        · exact ⟨hx.1, fun g => h _ _ (hx.2.1 g), fun k v n h1 h2 => h _ _ (hx.2.2 k v n h1 h2)⟩
        · exact hx
      · exact hx
    · exact hx
  · split at hx
    · split at hx
      · split at hx
        · rename_i hc; rw [if_pos hc]
          split at hx
          · exact obind_mono (fun cs hcs b h1 h2 => h _ _ (hcs b h1 h2)) hx
          · exact hx
        · exact hx.elim
      · exact hx
    · exact hx
  · split at hx
    · rename_i hc; rw [if_pos hc]
      split at hx
      · split at hx
        · unfold xmark at hx ⊢
          split at hx
          · split at hx
            · exact ⟨hx.1, hx.2.1, h _ _ hx.2.2⟩
            · exact hx
          · exact hx
        · exact hx
      · exact hx
    · rename_i hc; rw [if_neg hc]
      split at hx
      · split at hx
        · unfold xs2bo at hx ⊢
          split at hx
          · exact fun b cap h0 h1 h2 h3 => h _ _ (hx b cap h0 h1 h2 h3)
          · exact hx
        · exact hx
      · exact hx
  · exact hx
  · split at hx
    · split at hx
      · split at hx
        · split at hx
          · rename_i hc; rw [if_pos hc]; exact xappend_mono h hx
          · exact hx.elim
        · split at hx
          · rename_i hc; rw [if_pos hc]; exact xappend_mono h hx
          · exact hx.elim
        · exact hx
      · exact hx
    · split at hx
      · split at hx
        · unfold xcopy at hx ⊢
          refine obind_mono (fun nm hnm => ?_) hx
          obtain ⟨new, m⟩ := nm
          obtain ⟨h1, h2, h3⟩ := hnm
          refine ⟨h1, h2, ?_⟩
          split at h3
          · split at h3
            · exact ⟨h3.1, h3.2.1, h _ _ h3.2.2⟩
            · exact h3
          · exact h _ _ h3
          · exact h3
        · exact hx
      · exact hx
    · split at hx
      · split at hx
        · split at hx
          · unfold xmapdel at hx ⊢
            split at hx
            · exact h _ _ hx
            · split at hx
              · split at hx
                · exact h _ _ hx
                · exact h _ _ hx
                · exact hx
              · exact hx
            · exact hx
          · exact hx
        · exact hx
      · exact hx
    · exact xcall_mono hΦ h hx
    · unfold xcallv at hx ⊢
      split at hx
      · exact xcall_mono hΦ h hx
      · exact hx
    · exact hx
  · exact hx

theorem geff_mono {Φ : FuncId → Spec} (hΦ : Monos Φ) {own : Nat → Bool} {ops : Array Oper} {fr : Fr} {S : St} {K K' X : AV → St → Prop} (h : ∀ v S', K v S' → K' v S') (o : Oper) (hx : geff P Φ own ops fr S K X o) : geff P Φ own ops fr S K' X o := by
  unfold geff at hx ⊢
  cases hg : o.guard with
  | none => simp only [hg] at hx ⊢; exact aeff_mono hΦ h o hx
  | some x =>
    obtain ⟨j, want⟩ := x
    simp only [hg] at hx ⊢
    unfold gif at hx ⊢
    split at hx
    · split at hx
      · rename_i hc; rw [if_pos hc]; exact aeff_mono hΦ h o hx
      · rename_i hc; rw [if_neg hc]; exact h _ _ hx
    · exact h _ _ hx
    · exact hx
end
end Go.AM
/-
  REGIONS: from one order to all, and to the program's.
-/
namespace Go.AM
section
variable {P : Program} {Φ : FuncId → Spec} {own : Nat → Bool} {ops : Array Oper} {X : AV → St → Prop} {K : Fr → St → Prop}

abbrev Gs := List (Nat × (St → Prop))

/-- One operation, behind which the readings that still count hold. -/
def aopG (P : Program) (Φ : FuncId → Spec) (own : Nat → Bool) (ops : Array Oper) (G : Gs) (i : Nat) (X : AV → St → Prop) (K : Fr → St → Prop) (fr : Fr) (S : St) : Prop :=
  match ops[i]? with
  | none => K fr S
  | some o => if isVal own o then obind (gval P ops fr S o) fun v => K (aput fr o.dst v) S
    else geff P Φ own ops fr S (fun v S' => gchk ops i S' G (K (aput fr o.dst v) S')) X o

def aAny (P : Program) (Φ : FuncId → Spec) (own : Nat → Bool) (ops : Array Oper) (X : AV → St → Prop) (K : Fr → St → Prop) : Nat → Array Bool → Gs → Fr → St → Prop
  | 0, listed, _, fr, S => Region.ready .any ops listed = [] ∧ K fr S
  | f + 1, listed, G, fr, S => (Region.ready .any ops listed = [] → K fr S) ∧ ∀ i ∈ Region.ready .any ops listed, aopG P Φ own ops G i X (aAny P Φ own ops X K f (listed.setIfInBounds i true) G) fr S

theorem gchk_imp {i : Nat} {S : St} : ∀ {G : Gs} {K : Prop}, gchk ops i S G K → K
  | [], _, h => h
  | (g, p) :: G, K, h => by
    unfold gchk at h
    split at h
    · exact gchk_imp h
    · exact gchk_imp h.2
theorem gchk_mono {i : Nat} {S : St} {K K' : Prop} (hk : K → K') : ∀ {G : Gs}, gchk ops i S G K → gchk ops i S G K'
  | [], h => hk h
  | (g, p) :: G, h => by
    unfold gchk at h ⊢
    split at h
    · rename_i hc; rw [if_pos hc]; exact gchk_mono hk h
    · rename_i hc; rw [if_neg hc]; exact ⟨h.1, gchk_mono hk h.2⟩

theorem aopG_weaken (hΦ : Monos Φ) {g : Nat × (St → Prop)} {G : Gs} {i : Nat} {K K' : Fr → St → Prop} (h : ∀ fr S, K fr S → K' fr S) {fr : Fr} {S : St} (hx : aopG P Φ own ops (g :: G) i X K fr S) : aopG P Φ own ops G i X K' fr S := by
  unfold aopG at hx ⊢
  split at hx
  · exact h _ _ hx
  · split at hx
    · rename_i hc; rw [if_pos hc]; exact obind_mono (fun v hv => h _ _ hv) hx
    · rename_i hc; rw [if_neg hc]
      refine geff_mono hΦ (fun v S' hv => ?_) _ hx
      obtain ⟨g, p⟩ := g
      unfold gchk at hv
      split at hv
      · exact gchk_mono (h _ _) hv
      · exact gchk_mono (h _ _) hv.2

theorem aAny_weaken (hΦ : Monos Φ) {g : Nat × (St → Prop)} {G : Gs} : ∀ {f : Nat} {listed : Array Bool} {fr : Fr} {S : St}, aAny P Φ own ops X K f listed (g :: G) fr S → aAny P Φ own ops X K f listed G fr S
  | 0, _, _, _, h => h
  | f + 1, listed, fr, S, h => ⟨h.1, fun i hi => aopG_weaken hΦ (fun _ _ hx => aAny_weaken hΦ hx) (h.2 i hi)⟩

/-! What waits for what. -/
def Closed (ops : Array Oper) (listed : Array Bool) : Prop := ∀ (k : Nat) (o : Oper), ops[k]? = some o → listed.getD k false = true → ∀ e ∈ o.after, Region.binds .any e = true → listed.getD e.on false = true

theorem befs_spec : ∀ (l : List Oper) (acc : List Nat) (pre : List Oper), acc.length = pre.length →
    (∀ k x, acc[k]? = some x → ∀ g, x.testBit g = true → ∃ o, (pre ++ l)[k]? = some o ∧ ∃ e ∈ o.after, Region.binds .any e = true ∧ (e.on = g ∨ (e.on < k ∧ (acc.getD e.on 0).testBit g = true))) →
    ∀ k x, (befs l acc)[k]? = some x → ∀ g, x.testBit g = true → ∃ o, (pre ++ l)[k]? = some o ∧ ∃ e ∈ o.after, Region.binds .any e = true ∧ (e.on = g ∨ (e.on < k ∧ ((befs l acc).getD e.on 0).testBit g = true))
  | [], acc, pre, hl, h => by simpa [befs] using h
  | o :: l, acc, pre, hl, h => by
    intro k x hk g hg
    simp only [befs] at hk ⊢
    have := befs_spec l (acc ++ [o.after.toList.foldl (fun s e => if Region.binds .any e then s ||| 2 ^ e.on ||| acc.getD e.on 0 else s) 0]) (pre ++ [o]) (by simp [hl]) (by
      intro k x hk g hg
      rw [List.append_assoc, List.singleton_append]
      rcases Nat.lt_or_ge k acc.length with hlt | hge
      · rw [List.getElem?_append_left hlt] at hk
        obtain ⟨o', h1, e, h2, h3, h4⟩ := h k x hk g hg
        refine ⟨o', h1, e, h2, h3, h4.imp id fun h5 => ⟨h5.1, ?_⟩⟩
        rw [List.getD_eq_getElem?_getD, List.getElem?_append_left (by omega), ← List.getD_eq_getElem?_getD]
        exact h5.2
      · have hk0 : k = acc.length := by
          rcases Nat.lt_or_ge acc.length k with h1 | h1
          · rw [List.getElem?_eq_none (by simp; omega)] at hk; cases hk
          · omega
        subst hk0
        rw [List.getElem?_append_right (Nat.le_refl _), Nat.sub_self] at hk
        simp only [List.getElem?_cons_zero, Option.some.injEq] at hk
        subst hk
        refine ⟨o, by rw [hl, List.getElem?_append_right (Nat.le_refl _), Nat.sub_self]; rfl, ?_⟩
        have fold : ∀ (es : List Edge) (s : Nat), (es.foldl (fun s e => if Region.binds .any e then s ||| 2 ^ e.on ||| acc.getD e.on 0 else s) s).testBit g = true →
            s.testBit g = true ∨ ∃ e ∈ es, Region.binds .any e = true ∧ (e.on = g ∨ (acc.getD e.on 0).testBit g = true) := by
          intro es
          induction es with
          | nil => intro s hs; exact .inl hs
          | cons e es ih =>
            intro s hs
            rcases ih _ hs with h1 | ⟨e', h1, h2, h3⟩
            · dsimp only at h1
              by_cases hb : Region.binds .any e = true
              · rw [if_pos hb, Nat.testBit_or, Nat.testBit_or, Nat.testBit_two_pow] at h1
                simp only [Bool.or_eq_true, decide_eq_true_eq] at h1
                rcases h1 with (h1 | h1) | h1
                · exact .inl h1
                · exact .inr ⟨e, by simp, hb, .inl h1⟩
                · exact .inr ⟨e, by simp, hb, .inr h1⟩
              · rw [if_neg hb] at h1; exact .inl h1
            · exact .inr ⟨e', by simp [h1], h2, h3⟩
        rcases fold _ _ hg with h1 | ⟨e, h1, h2, h3⟩
        · simp at h1
        · refine ⟨e, by simpa using h1, h2, h3.imp id fun h4 => ?_⟩
          have hlt : e.on < acc.length := by
            rcases Nat.lt_or_ge e.on acc.length with h5 | h5
            · exact h5
            · rw [List.getD_eq_getElem?_getD, List.getElem?_eq_none h5] at h4; simp at h4
          refine ⟨hlt, ?_⟩
          rw [List.getD_eq_getElem?_getD, List.getElem?_append_left hlt, ← List.getD_eq_getElem?_getD]
          exact h4)
      k x hk g hg
    simpa [List.append_assoc] using this

theorem waits_listed {listed : Array Bool} (hc : Closed ops listed) (g : Nat) (hg : listed.getD g false = false) : ∀ (i : Nat) (o : Oper), ops[i]? = some o → (∀ e ∈ o.after, Region.binds .any e = true → listed.getD e.on false = true) → waits ops i g = false := by
  intro i
  induction i using Nat.strongRecOn with
  | _ i ih =>
    intro o ho hall
    unfold waits
    cases hb : ((befs ops.toList []).getD i 0).testBit g with
    | false => rfl
    | true =>
      exfalso
      have hsome : ∃ x, (befs ops.toList [])[i]? = some x ∧ x.testBit g = true := by
        rw [List.getD_eq_getElem?_getD] at hb
        cases hx : (befs ops.toList [])[i]? with
        | none => rw [hx] at hb; simp at hb
        | some x => rw [hx] at hb; exact ⟨x, rfl, by simpa using hb⟩
      obtain ⟨x, hx, hxg⟩ := hsome
      obtain ⟨o', h1, e, h2, h3, h4⟩ := befs_spec ops.toList [] [] rfl (fun k x h => by simp at h) i x hx g hxg
      rw [List.nil_append, Array.getElem?_toList, ho] at h1
      cases h1
      have hl := hall e h2 h3
      rcases h4 with h4 | ⟨h4, h5⟩
      · rw [h4, hg] at hl; cases hl
      · have hex : ∃ oe, ops[e.on]? = some oe := by
          have : ((befs ops.toList []).getD e.on 0).testBit g = true := h5
          rw [List.getD_eq_getElem?_getD] at this
          cases hy : (befs ops.toList [])[e.on]? with
          | none => rw [hy] at this; simp at this
          | some y =>
            rw [hy] at this
            obtain ⟨o2, h6, _⟩ := befs_spec ops.toList [] [] rfl (fun k x h => by simp at h) e.on y hy g (by simpa using this)
            exact ⟨o2, by simpa using h6⟩
        obtain ⟨oe, hoe⟩ := hex
        have := ih e.on h4 oe hoe (hc e.on oe hoe hl)
        unfold waits at this
        rw [h5] at this; cases this

theorem Closed.set {listed : Array Bool} (hc : Closed ops listed) {i : Nat} (hi : i ∈ Region.ready .any ops listed) : Closed ops (listed.setIfInBounds i true) := by
  intro k o ho hk e he hb
  by_cases hki : k = i
  · subst hki
    obtain ⟨_, o', ho', hall⟩ := mem_ready.1 hi
    rw [ho] at ho'; cases ho'
    exact getD_set_true (hall e he hb)
  · rw [getD_set_ne false (Ne.symm hki)] at hk
    exact getD_set_true (hc k o ho hk e he hb)

/-- AN OPERATION THAT YIELDS A VALUE MAY BE TAKEN FIRST. -/
theorem take_val (hΦ : Monos Φ) {i : Nat} {o : Oper} (ho : ops[i]? = some o) (hval : isVal own o = true) {p0 : Bool} {G : Gs} :
    ∀ (f : Nat) (listed : Array Bool) (fr : Fr) (S : St) (v : AV), i ∈ Region.ready .any ops listed → Closed ops listed → Region.free .any ops listed i = true → gval P ops fr S o = some v →
      aAny P Φ own ops X K f (listed.setIfInBounds i true) ((i, fun S' => gval P ops fr S' o = some v) :: G) (aput fr o.dst v) S → aAny P Φ own ops X K (f + 1) listed G fr S := by
  intro f
  induction f with
  | zero =>
    intro listed fr S v hi hc hfree hv h
    refine ⟨fun h0 => (by rw [h0] at hi; cases hi), fun j hj => ?_⟩
    by_cases hji : j = i
    · subst hji
      unfold aopG
      simp only [ho, hval, if_true, hv, obind]
      exact ⟨h.1, h.2⟩
    · have := ready_mono hj hji
      rw [h.1] at this; cases this
  | succ f ih =>
    intro listed fr S v hi hc hfree hv h
    refine ⟨fun h0 => (by rw [h0] at hi; cases hi), fun j hj => ?_⟩
    by_cases hji : j = i
    · subst hji
      unfold aopG
      simp only [ho, hval, if_true, hv, obind]
      exact aAny_weaken hΦ h
    · have hj2 := ready_mono hj hji
      have hpre := h.2 j hj2
      obtain ⟨hjun, oj, hoj, hjall⟩ := mem_ready.1 hj
      obtain ⟨hiun, o', ho', hiall⟩ := mem_ready.1 hi
      have hiun' : listed.getD i false = false := by
        have h5 : i < ops.size := (Array.getElem?_eq_some_iff.1 ho).1
        cases hl : listed[i]? with
        | none => simp [hl] at hiun
        | some b => simp [hl] at hiun ⊢; exact hiun
      have hnoedge : ∀ e ∈ oj.after, Region.binds .any e = true → e.on ≠ i := by
        intro e he hb hc2
        have := hjall e he hb
        rw [hc2, hiun'] at this; cases this
      obtain ⟨a1, a2, a3⟩ := Oper.apart_spec (Region.free_spec ho hfree j oj hoj hji hjun hnoedge)
      have hready' : i ∈ Region.ready .any ops (listed.setIfInBounds j true) := ready_mono hi (Ne.symm hji)
      have hfree' : Region.free .any ops (listed.setIfInBounds j true) i = true := by
        simp only [Region.free, ho, List.all_eq_true, List.mem_range] at hfree ⊢
        intro k hk
        have h6 := hfree k hk
        simp only [Bool.or_eq_true] at h6 ⊢
        rcases h6 with (h6 | h6) | h6
        · exact .inl (.inl h6)
        · refine .inl (.inr ?_)
          by_cases hkj : j = k
          · subst hkj; rw [h6] at hjun; cases hjun
          · rw [getD_set_ne true hkj]; exact h6
        · exact .inr h6
      have hset : (listed.setIfInBounds i true).setIfInBounds j true = (listed.setIfInBounds j true).setIfInBounds i true := by
        apply Array.ext_getElem?
        intro k
        simp only [Array.getElem?_setIfInBounds, Array.size_setIfInBounds]
        by_cases h1 : j = k <;> by_cases h2 : i = k <;> simp [h1, h2]
      have hc' := hc.set hj
      have hw : waits ops j i = false := waits_listed hc i hiun' j oj hoj hjall
      unfold aopG at hpre ⊢
      simp only [hoj] at hpre ⊢
      by_cases hvj : isVal own oj = true
      · simp only [hvj, if_true] at hpre ⊢
        rw [gval_put a1] at hpre
        cases hu : gval P ops fr S oj with
        | none => rw [hu] at hpre; exact hpre.elim
        | some u =>
          rw [hu] at hpre
          simp only [obind] at hpre ⊢
          refine ih _ _ _ v hready' hc' hfree' (by rw [gval_put a3]; exact hv) ?_
          rw [hset] at hpre
          rw [← aput_comm _ v u a2]
          have hp : (fun S' => gval P ops (aput fr oj.dst u) S' o = some v) = (fun S' => gval P ops fr S' o = some v) := by funext S'; rw [gval_put a3]
          rw [hp]
          exact hpre
      · simp only [hvj, Bool.false_eq_true, if_false] at hpre ⊢
        rw [geff_put a1] at hpre
        refine geff_mono hΦ (fun u S' hx => ?_) oj hpre
        unfold gchk at hx
        rw [hw] at hx
        simp only [Bool.false_eq_true, if_false] at hx
        obtain ⟨hp, hx⟩ := hx
        refine gchk_mono (fun hy => ?_) hx
        refine ih _ _ _ v hready' hc' hfree' (by rw [gval_put a3]; exact hp) ?_
        rw [hset] at hy
        rw [← aput_comm _ v u a2]
        have hp' : (fun S' => gval P ops (aput fr oj.dst u) S' o = some v) = (fun S' => gval P ops fr S' o = some v) := by funext S'; rw [gval_put a3]
        rw [hp']
        exact hy

/-- What hangs on nothing that is owned. -/
theorem aval_pure {fr : Fr} {S S' : St} {op : Op} (h : isRd op = false) : aval P fr S op = aval P fr S' op := by
  cases op <;> first
    | rfl
    | (simp [isRd] at h; done)
    | skip
  rename_i c
  simp only [aval]
  split
  · rename_i hc _ _
    simp [isRd, hc] at h
  all_goals rfl
theorem gval_pure {fr : Fr} {S S' : St} {o : Oper} (h : isRd o.op = false) : gval P ops fr S o = gval P ops fr S' o := by
  unfold gval
  rw [aval_pure h]

theorem gchk_const {i : Nat} {S : St} {g : Nat} {p : St → Prop} {G : Gs} {K : Prop} (hp : ∀ S, p S) (h : gchk ops i S G K) : gchk ops i S ((g, p) :: G) K := by
  unfold gchk
  split
  · exact h
  · exact ⟨hp S, h⟩
theorem aAny_const (hΦ : Monos Φ) {g : Nat} {p : St → Prop} {G : Gs} (hp : ∀ S, p S) : ∀ {f : Nat} {listed : Array Bool} {fr : Fr} {S : St}, aAny P Φ own ops X K f listed G fr S → aAny P Φ own ops X K f listed ((g, p) :: G) fr S
  | 0, _, _, _, h => h
  | f + 1, listed, fr, S, h => ⟨h.1, fun i hi => by
    have := h.2 i hi
    unfold aopG at this ⊢
    split at this
    · exact aAny_const hΦ hp this
    · split at this
      · rename_i hc; rw [if_pos hc]; exact obind_mono (fun v hv => aAny_const hΦ hp hv) this
      · rename_i hc; rw [if_neg hc]
        exact geff_mono hΦ (fun v S' hv => gchk_const hp (gchk_mono (aAny_const hΦ hp) hv)) _ this⟩

/-- ONE ORDER SERVES ALL. -/
theorem canon_any (hΦ : Monos Φ) : ∀ (ord : List Nat) (f : Nat) (listed : Array Bool) (G : Gs) (fr : Fr) (S : St), ord.length ≤ f → Closed ops listed → acanon P Φ own ops X K ord listed G fr S → aAny P Φ own ops X K f listed G fr S
  | [], f, listed, G, fr, S, _, _, h => by
    unfold acanon at h
    split at h
    · rename_i hr
      have hr' : Region.ready .any ops listed = [] := by simpa using hr
      cases f with
      | zero => exact ⟨hr', h⟩
      | succ f => exact ⟨fun _ => h, fun i hi => by rw [hr'] at hi; cases hi⟩
    · exact h.elim
  | i :: ord, f, listed, G, fr, S, hl, hc, h => by
    obtain ⟨f, rfl⟩ : ∃ f', f = f' + 1 := ⟨f - 1, by simp at hl; omega⟩
    have hl' : ord.length ≤ f := by simp at hl; omega
    unfold acanon at h
    split at h
    · exact h.elim
    · rename_i o ho
      split at h
      · rename_i hval
        split at h
        case isFalse => exact h.elim
        rename_i hok
        simp only [okVal, Bool.and_eq_true] at hok
        have hi : i ∈ Region.ready .any ops listed := by simpa using hok.1
        cases hv : gval P ops fr S o with
        | none => rw [hv] at h; exact h.elim
        | some v =>
          rw [hv] at h
          simp only [obind] at h
          have := canon_any hΦ ord f _ _ _ _ hl' (hc.set hi) h
          refine take_val (p0 := true) hΦ ho hval f listed fr S v hi hc hok.2 hv ?_
          by_cases hrd : isRd o.op = true
          · rw [if_pos hrd] at this; exact this
          · rw [if_neg hrd] at this
            exact aAny_const hΦ (fun S' => by rw [← gval_pure (S := S) (by simpa using hrd)]; exact hv) this
      · rename_i hval
        split at h
        case isFalse => exact h.elim
        rename_i hok
        have hr : Region.ready .any ops listed = [i] := by simpa [okEff] using hok
        refine ⟨fun h0 => (by rw [hr] at h0; cases h0), fun j hj => ?_⟩
        rw [hr] at hj
        have hji : j = i := by simpa using hj
        subst hji
        unfold aopG
        simp only [ho, hval, Bool.false_eq_true, if_false]
        exact geff_mono hΦ (fun v S' hx => gchk_mono (canon_any hΦ ord f _ _ _ _ hl' (hc.set (by rw [hr]; simp))) hx) o h
end
end Go.AM
/-
  CODE AND FUNCTIONS: what the abstract reading promises, the program does.
-/
namespace Go.AM
section
variable {P : Program} {Φ : FuncId → Spec} {own : Nat → Bool} {ops : Array Oper} {B : Base}

theorem gslot_bool {fr : Fr} {S : St} {a : Act} {w : World} (h : RelL S w fr a.tmps.toList) {j : Nat} {b : Bool} (hg : gslot ops fr j = .bool b) : yielded ops a.tmps j = some b := by
  unfold gslot at hg
  unfold yielded
  cases hd : (ops[j]?).bind (·.dst) with
  | none => rw [hd] at hg; simp at hg
  | some d =>
    rw [hd] at hg
    simp only [List.getD_eq_getElem?_getD] at hg
    cases hx : fr[d]? with
    | none => rw [hx] at hg; simp at hg
    | some y =>
      rw [hx] at hg
      simp only [Option.getD_some] at hg
      subst hg
      obtain ⟨v, h1, h2⟩ := h.get hx
      rw [Array.getElem?_toList] at h1
      simp only [Option.bind_some, h1, h2.bool_inv]
theorem gslot_skip {fr : Fr} {S : St} {a : Act} {w : World} (h : RelL S w fr a.tmps.toList) {j : Nat} (hg : gslot ops fr j = .tuple []) : yielded ops a.tmps j = none := by
  unfold gslot at hg
  unfold yielded
  cases hd : (ops[j]?).bind (·.dst) with
  | none => rfl
  | some d =>
    rw [hd] at hg
    simp only [List.getD_eq_getElem?_getD] at hg
    cases hx : fr[d]? with
    | none => rw [hx] at hg; simp at hg
    | some y =>
      rw [hx] at hg
      simp only [Option.getD_some] at hg
      subst hg
      obtain ⟨v, h1, h2⟩ := h.get hx
      rw [Array.getElem?_toList] at h1
      obtain ⟨vs, h3, _⟩ := h2.tuple_inv
      simp only [Option.bind_some, h1, h3]

theorem undef_rel {S : St} {w : World} : Rel S w (.tuple []) undef := .tuple [] [] rfl fun i a v h => by simp at h

theorem skip_op {fr : Fr} {S : St} {a : Act} {w : World} (h : SR B fr S a w) {i : Nat} {o : Oper} (hd : Wd B o) (ho : ops[i]? = some o) (hn : Region.wanted o (yielded ops a.tmps) = false) {K : Fr → St → Prop} (hK : K (aput fr o.dst (.tuple [])) S)
    {Q : Exit → Act → World → Prop} : wpOp P ops Q i (Cz B K) a w := by
  unfold wpOp
  simp only [ho, hn, Bool.false_eq_true, if_false]
  exact ⟨_, _, hK, h.put h.wr .refl hd undef_rel⟩

theorem do_op {fr : Fr} {S : St} {a : Act} {w : World} {i : Nat} {o : Oper} (ho : ops[i]? = some o) (hn : Region.wanted o (yielded ops a.tmps) = true) {K : Act → World → Prop} {Q : Exit → Act → World → Prop} (h : o.wp P a w K Q) : wpOp P ops Q i K a w := by
  unfold wpOp
  simp only [ho, hn, if_true]
  exact .inl h

theorem gval_wp {fr : Fr} {S : St} {a : Act} {w : World} (h : SR B fr S a w) {i : Nat} {o : Oper} (hd : Wd B o) (ho : ops[i]? = some o) {v : AV} (hv : gval P ops fr S o = some v) {K : Fr → St → Prop} (hK : K (aput fr o.dst v) S)
    {Q : Exit → Act → World → Prop} : wpOp P ops Q i (Cz B K) a w := by
  unfold gval at hv
  cases hg : o.guard with
  | none =>
    simp only [hg] at hv
    exact do_op (fr := fr) (S := S) ho (by simp [Region.wanted, hg]) (val_wp hd h hv hK)
  | some x =>
    obtain ⟨j, want⟩ := x
    simp only [hg] at hv
    unfold gv at hv
    split at hv
    · rename_i b hb
      have hy := gslot_bool h.fr hb
      split at hv
      · rename_i hbw
        exact do_op (fr := fr) (S := S) ho (by simp [Region.wanted, hg, hy, hbw]) (val_wp hd h hv hK)
      · rename_i hbw
        cases hv
        exact skip_op h hd ho (by simp [Region.wanted, hg, hy, hbw]) hK
    · rename_i hb
      cases hv
      exact skip_op h hd ho (by simp [Region.wanted, hg, gslot_skip h.fr hb]) hK
    · cases hv

theorem geff_wp (hΦ : Sounds P Φ) {fr : Fr} {S : St} {a : Act} {w : World} (h : SR B fr S a w) {i : Nat} {o : Oper} (hd : Wd B o) (ho : ops[i]? = some o) {K X : AV → St → Prop} (hx : geff P Φ own ops fr S K X o) {K' : Fr → St → Prop}
    (hK : ∀ v S', K v S' → K' (aput fr o.dst v) S') {Q : Exit → Act → World → Prop} (hX : Pz B X Q) : wpOp P ops Q i (Cz B K') a w := by
  unfold geff at hx
  cases hg : o.guard with
  | none =>
    simp only [hg] at hx
    exact do_op (fr := fr) (S := S) ho (by simp [Region.wanted, hg]) (aeff_wp hΦ hd h hx hK hX)
  | some x =>
    obtain ⟨j, want⟩ := x
    simp only [hg] at hx
    unfold gif at hx
    split at hx
    · rename_i b hb
      have hy := gslot_bool h.fr hb
      split at hx
      · rename_i hbw
        exact do_op (fr := fr) (S := S) ho (by simp [Region.wanted, hg, hy, hbw]) (aeff_wp hΦ hd h hx hK hX)
      · rename_i hbw
        exact skip_op h hd ho (by simp [Region.wanted, hg, hy, hbw]) (hK _ _ hx)
    · rename_i hb
      exact skip_op h hd ho (by simp [Region.wanted, hg, gslot_skip h.fr hb]) (hK _ _ hx)
    · exact hx.elim

theorem aop_wp (hwd : ∀ (i : Nat) (o : Oper), ops[i]? = some o → Wd B o) (hΦ : Sounds P Φ) {fr : Fr} {S : St} {a : Act} {w : World} (h : SR B fr S a w) {i : Nat} {X : AV → St → Prop} {K : Fr → St → Prop} (hx : aop P Φ own ops i X K fr S) {Q : Exit → Act → World → Prop} (hX : Pz B X Q) :
    wpOp P ops Q i (Cz B K) a w := by
  unfold aop at hx
  split at hx
  · rename_i ho
    unfold wpOp
    simp only [ho]
    exact ⟨_, _, hx, h⟩
  · rename_i o ho
    split at hx
    · cases hv : gval P ops fr S o with
      | none => rw [hv] at hx; exact hx.elim
      | some v => rw [hv] at hx; exact gval_wp h (hwd i o ho) ho hv hx
    · exact geff_wp hΦ h (hwd i o ho) ho hx (fun _ _ h => h) hX

theorem aops_wp (hwd : ∀ (i : Nat) (o : Oper), ops[i]? = some o → Wd B o) (hΦ : Sounds P Φ) {X : AV → St → Prop} {K : Fr → St → Prop} {Q : Exit → Act → World → Prop} (hX : Pz B X Q) (hQ : ∀ a w, Cz B K a w → Q .normal a w) : ∀ (l : List Nat) {fr : Fr} {S : St} {a : Act} {w : World},
    SR B fr S a w → aops P Φ own ops X K l fr S → wpOps P ops Q l a w
  | [], fr, S, a, w, h, hx => hQ a w ⟨fr, S, hx, h⟩
  | i :: l, fr, S, a, w, h, hx => by
    rw [wpOps_cons]
    refine wpOp_mono (fun a w hc => ?_) (aop_wp hwd hΦ h hx hX)
    obtain ⟨fr', S', h1, h2⟩ := hc
    exact aops_wp hwd hΦ hX hQ l h2 h1

theorem aAny_wp (hwd : ∀ (i : Nat) (o : Oper), ops[i]? = some o → Wd B o) (hΦ : Sounds P Φ) {X : AV → St → Prop} {K : Fr → St → Prop} {Q : Exit → Act → World → Prop} (hX : Pz B X Q) (hQ : ∀ a w, Cz B K a w → Q .normal a w) : ∀ (f : Nat) {listed : Array Bool} {G : Gs} {fr : Fr} {S : St} {a : Act} {w : World},
    SR B fr S a w → aAny P Φ own ops X K f listed G fr S → wpAny P .any ops Q f listed a w
  | 0, _, _, fr, S, a, w, h, hx => ⟨hx.1, hQ a w ⟨fr, S, hx.2, h⟩⟩
  | f + 1, listed, G, fr, S, a, w, h, hx => by
    refine ⟨fun h0 => hQ a w ⟨fr, S, hx.1 h0, h⟩, fun i hi => ?_⟩
    have hx' := hx.2 i hi
    have go : ∀ {a' w'}, Cz B (aAny P Φ own ops X K f (listed.setIfInBounds i true) G) a' w' → wpAny P .any ops Q f (listed.setIfInBounds i true) a' w' := by
      rintro a' w' ⟨fr', S', h1, h2⟩
      exact aAny_wp hwd hΦ hX hQ f h2 h1
    unfold aopG at hx'
    split at hx'
    · rename_i ho
      unfold wpOp
      simp only [ho]
      exact go ⟨_, _, hx', h⟩
    · rename_i o ho
      split at hx'
      · cases hv : gval P ops fr S o with
        | none => rw [hv] at hx'; exact hx'.elim
        | some v => rw [hv] at hx'; exact wpOp_mono (fun _ _ => go) (gval_wp h (hwd i o ho) ho hv hx')
      · exact wpOp_mono (fun _ _ => go) (geff_wp hΦ h (hwd i o ho) ho hx' (fun _ _ h => gchk_imp h) hX)

/-! ## Code -/
def Qz (B : Base) (K : Ex → Fr → St → Prop) : Exit → Act → World → Prop
  | .normal, a, w => Cz B (K .normal) a w
  | .exit id, a, w => Cz B (K (.exit id)) a w
  | .ret, a, w => Cz B (K .ret) a w
  | .panic chain, a, w => ∃ v A fr S, chain = [{ v := A, recovered := false }] ∧ K (.pan v) fr S ∧ Rel S w v A ∧ WR S w ∧ Ext B.S B.w S w ∧ a.defers = B.D
  | .goto _, _, _ => False
  | .outgrown, _, _ => False

theorem Pz_of {K : Ex → Fr → St → Prop} (fr : Fr) : Pz B (fun v S' => K (.pan v) fr S') (Qz B K) := fun v S A a w h1 h2 h3 h4 h5 => ⟨v, A, fr, S, rfl, h1, h2, h3, h4, h5⟩

theorem SR.less {fr : Fr} {S S' : St} {a : Act} {w : World} (h : SR B fr S a w) (hl : S'.le S) : SR B fr S' a w := ⟨(Ext.less hl).relL h.fr, h.wr.less hl, h.ext.trans (Ext.less hl), h.size, h.keep, h.defers⟩

theorem deads_get (ws : List Nat) : ∀ (fr : Fr) (j : Nat), (deads ws fr)[j]? = if j ∈ ws then (fr[j]?).map (fun _ => .dead) else fr[j]? := by
  induction ws with
  | nil => intro fr j; simp [deads]
  | cons k ws ih =>
    intro fr j
    simp only [deads, ih, List.mem_cons]
    by_cases hj : j ∈ ws
    · simp only [hj, or_true, if_true, List.getElem?_set]
      by_cases hk : k = j
      · subst hk
        by_cases hl : k < fr.length
        · simp [hl]
        · simp [hl]
      · simp [hk]
    · simp only [hj, or_false, if_false, List.getElem?_set]
      by_cases hk : k = j
      · subst hk
        by_cases hl : k < fr.length
        · simp [hl]
        · simp [hl]
      · simp [hk, Ne.symm hk]

theorem putm_get {l : List AV} {fr' : Fr} : ∀ (ms : List Nat) (i : Nat) (fr : Fr) (j : Nat), (∀ k, ms[k]? = some j → g l (i + k) = fr'.getD j .dead) →
    (putm l ms i fr)[j]? = if j ∈ ms then (fr[j]?).map (fun _ => fr'.getD j .dead) else fr[j]? := by
  intro ms
  induction ms with
  | nil => intro i fr j _; simp [putm]
  | cons m ms ih =>
    intro i fr j h
    have h' : ∀ k, ms[k]? = some j → g l (i + 1 + k) = fr'.getD j .dead := fun k hk => by
      have := h (k + 1) (by simpa using hk)
      rwa [show i + (k + 1) = i + 1 + k by omega] at this
    simp only [putm, ih (i + 1) _ j h', List.mem_cons, List.getElem?_set]
    by_cases hm : m = j
    · subst hm
      have h0 := h 0 (by simp)
      simp only [Nat.add_zero] at h0
      by_cases hl : m < fr.length
      · by_cases hj : m ∈ ms <;> simp [hl, hj, h0]
      · by_cases hj : m ∈ ms <;> simp [hl, hj]
    · by_cases hj : j ∈ ms
      · simp [hm, hj]
      · simp [hm, hj, Ne.symm hm]

theorem getm_g {mods : List Nat} {fr' : Fr} {j k : Nat} (h : mods[k]? = some j) : g (getm mods fr') (0 + k) = fr'.getD j .dead := by
  simp only [g, getm, Nat.zero_add]
  rw [List.getD_eq_getElem?_getD, List.getElem?_map, h]
  rfl

theorem headFr_get (ws mods : List Nat) (fr fr' : Fr) (j : Nat) : (headFr ws mods fr (getm mods fr'))[j]? =
    if j ∈ mods then (fr[j]?).map (fun _ => fr'.getD j .dead) else if j ∈ ws then (fr[j]?).map (fun _ => .dead) else fr[j]? := by
  unfold headFr
  rw [putm_get (fr' := fr') mods 0 _ j (fun k hk => getm_g hk), deads_get]
  by_cases h1 : j ∈ mods <;> by_cases h2 : j ∈ ws <;> simp only [h1, h2, if_true, if_false]
  cases fr[j]? <;> rfl

theorem headFr_length (ws mods : List Nat) (fr : Fr) (l : List AV) : (headFr ws mods fr l).length = fr.length := by
  have h1 : ∀ (ws : List Nat) (fr : Fr), (deads ws fr).length = fr.length := by
    intro ws
    induction ws with
    | nil => intro fr; rfl
    | cons k ws ih => intro fr; simp [deads, ih]
  have h2 : ∀ (ms : List Nat) (i : Nat) (fr : Fr), (putm l ms i fr).length = fr.length := by
    intro ms
    induction ms with
    | nil => intro i fr; rfl
    | cons k ms ih => intro i fr; simp [putm, ih]
  simp [headFr, h1, h2]

theorem headFr_rel {S : St} {w : World} {T : Array Value} {ws mods : List Nat} {fr fr' : Fr} (hl : fr.length = T.size) (h' : RelL S w fr' T.toList) (h : ∀ j x v, j ∉ ws → j ∉ mods → fr[j]? = some x → T[j]? = some v → Rel S w x v) :
    RelL S w (headFr ws mods fr (getm mods fr')) T.toList := by
  refine ⟨by rw [headFr_length, hl]; simp, fun j x v hx hv => ?_⟩
  rw [headFr_get] at hx
  rw [Array.getElem?_toList] at hv
  by_cases h1 : j ∈ mods
  · rw [if_pos h1, Option.map_eq_some_iff] at hx
    obtain ⟨_, _, rfl⟩ := hx
    rw [List.getD_eq_getElem?_getD]
    cases hf : fr'[j]? with
    | none => exact .dead _
    | some y => exact h'.rel j y v hf (by rw [Array.getElem?_toList]; exact hv)
  · rw [if_neg h1] at hx
    by_cases h2 : j ∈ ws
    · rw [if_pos h2, Option.map_eq_some_iff] at hx
      obtain ⟨_, _, rfl⟩ := hx
      exact .dead _
    · rw [if_neg h2] at hx
      exact h j x v h2 h1 hx hv

theorem aexec_wp (hm : P.follows .mixedOrders = true) (hΦ : Sounds P Φ) (hM : Monos Φ) {ord lh : Nat → List Nat} : ∀ (c : Code) {B : Base} {K : Ex → Fr → St → Prop} {fr : Fr} {S : St} {a : Act} {w : World}, (∀ d ∈ cwrites c, d ∈ B.W) → SR B fr S a w →
    aexec P Φ own ord lh c K fr S → c.wp P (Qz B K) a w := by
  intro c
  induction c with
  | skip => intro B K fr S a w _ h hx; exact wp_skip ⟨fr, S, hx, h⟩
  | label l => intro B K fr S a w _ h hx; exact wp_label ⟨fr, S, hx, h⟩
  | region id ops draw =>
    intro B K fr S a w hW h hx
    have hwd : ∀ (i : Nat) (o : Oper), ops[i]? = some o → Wd B o := by
      intro i o ho d hd
      refine hW d ?_
      simp only [cwrites, List.mem_filterMap]
      exact ⟨o, by rw [← Array.getElem?_toList] at ho; exact List.mem_of_getElem? ho, hd⟩
    unfold aexec at hx
    cases draw with
    | true =>
      simp only [if_true] at hx
      split at hx
      case isFalse => exact hx.elim
      rename_i hl
      have hc : Closed ops (Array.replicate ops.size false) := by
        intro k o ho hk
        exfalso
        rcases Nat.lt_or_ge k ops.size with h1 | h1
        · simp [h1] at hk
        · simp [h1] at hk
      have hany := canon_any hM (ord id) ops.size _ [] fr S hl hc hx
      have h' : SR B fr S a { w with drawn := w.drawn + 1 } := ⟨(Ext.drew w).relL h.fr, h.wr.drew, h.ext.trans (.drew w), h.size, h.keep, h.defers⟩
      exact wp_region_any hm (aAny_wp hwd hΦ (Pz_of fr) (fun _ _ h => h) ops.size h' hany)
    | false =>
      simp only [Bool.false_eq_true, if_false] at hx
      exact wp_region (aops_wp hwd hΦ (Pz_of fr) (fun _ _ h => h) _ h hx)
  | seq x y ihx ihy =>
    intro B K fr S a w hW h hx
    unfold aexec at hx
    refine wp_seq (wp_mono (ihx (fun d hd => hW d (by simp [cwrites, hd])) h hx) fun e a' w' hq => ?_)
    cases e with
    | normal =>
      obtain ⟨fr', S', h1, h2⟩ := hq
      exact ihy (fun d hd => hW d (by simp [cwrites, hd])) h2 h1
    | exit id => exact hq
    | ret => exact hq
    | goto l => exact hq.elim
    | panic ch => exact hq
    | outgrown => exact hq.elim
  | cond c x y ihx ihy =>
    intro B K fr S a w hW h hx
    have hx' : asplit (aeval fr c) (aexec P Φ own ord lh x K fr S) (aexec P Φ own ord lh y K fr S) := hx
    have hv := aeval_rel h.fr c
    generalize aeval fr c = cv at hx' hv
    cases cv with
    | bool b =>
      have hv' := hv.bool_inv
      cases b with
      | true => exact wp_cond_true hv' (ihx (fun d hd => hW d (by simp [cwrites, hd])) h hx')
      | false => exact wp_cond_false hv' (ihy (fun d hd => hW d (by simp [cwrites, hd])) h hx')
    | _ => exact hx'.elim
  | block id c ih =>
    intro B K fr S a w hW h hx
    unfold aexec at hx
    refine wp_block (wp_mono (ih hW h hx) fun e a' w' hq => ?_)
    cases e with
    | normal => exact hq
    | exit i =>
      obtain ⟨fr', S', h1, h2⟩ := hq
      have h1' : (if i = id then K .normal else K (.exit i)) fr' S' := h1
      show if i = id then Qz B K .normal a' w' else Qz B K (.exit i) a' w'
      by_cases hi : i = id
      · rw [if_pos hi] at h1' ⊢; exact ⟨fr', S', h1', h2⟩
      · rw [if_neg hi] at h1' ⊢; exact ⟨fr', S', h1', h2⟩
    | ret => exact hq
    | goto l => exact hq.elim
    | panic ch => exact hq
    | outgrown => exact hq.elim
  | loop c ih =>
    intro B K fr S a w hW h hx
    unfold aexec at hx
    obtain ⟨n, hx⟩ := hx
    generalize hmods : lh (ckey c) = mods at hx
    have hlen : fr.length = a.tmps.size := by have := h.fr.len; simpa using this
    intro b k cs
    have key : ∀ (n : Nat) (fr0 : Fr) (S : St) (a : Act) (w : World), fr.length = a.tmps.size → SR B (headFr (cwrites c) mods fr (getm mods fr0)) S a w →
        aiter (fun rec l S => aexec P Φ own ord lh c (Ex.then (fun fr' S' => ∃ S'', S''.le S' ∧ rec (getm mods fr') S'') K) (headFr (cwrites c) mods fr l) S) n (getm mods fr0) S →
        ∃ e a' w', Qz B K e a' w' ∧ Arrives P (lone (b.at a (.code c :: .inLoop c :: k)) cs w) b k cs e a' w' := by
      intro n
      induction n with
      | zero => intro fr0 S a w _ _ hl; exact hl.elim
      | succ n ihn =>
        intro fr0 S a w hlen h hl
        have hl' : aexec P Φ own ord lh c (Ex.then (fun fr' S' => ∃ S'', S''.le S' ∧ aiter (fun rec l S => aexec P Φ own ord lh c (Ex.then (fun fr' S' => ∃ S'', S''.le S' ∧ rec (getm mods fr') S'') K) (headFr (cwrites c) mods fr l) S) n (getm mods fr') S'') K)
          (headFr (cwrites c) mods fr (getm mods fr0)) S := hl
        have hB' : SR ⟨S, w, a.tmps, cwrites c, B.D⟩ (headFr (cwrites c) mods fr (getm mods fr0)) S a w := ⟨h.fr, h.wr, .refl, rfl, fun _ _ => rfl, h.defers⟩
        obtain ⟨e, a₁, w₁, hq, harr⟩ := ih (fun d hd => hd) hB' hl' b (.inLoop c :: k) cs
        have out : ∀ {fr' S'}, SR ⟨S, w, a.tmps, cwrites c, B.D⟩ fr' S' a₁ w₁ → SR B fr' S' a₁ w₁ := fun h2 =>
          ⟨h2.fr, h2.wr, h.ext.trans h2.ext, h2.size.trans h.size, fun j hj => (h2.keep j (fun hc => hj (hW j hc))).trans (h.keep j hj), h2.defers⟩
        cases e with
        | normal =>
          obtain ⟨fr', S', ⟨S'', hle, h1⟩, h2⟩ := hq
          have h3 := out h2
          have hlen1 : fr.length = a₁.tmps.size := by
            have e1 : a₁.tmps.size = a.tmps.size := h2.size
            omega
          have hrel : RelL S' w₁ (headFr (cwrites c) mods fr (getm mods fr')) a₁.tmps.toList := headFr_rel hlen1 h2.fr (fun j x v hj1 hj2 hx hv => by
            have hk := h2.keep j hj1
            rw [hv] at hk
            refine h2.ext.rel (h.fr.rel j x v ?_ (by rw [Array.getElem?_toList]; exact hk.symm))
            rw [headFr_get, if_neg hj2, if_neg hj1]; exact hx)
          have h4 : SR B (headFr (cwrites c) mods fr (getm mods fr')) S' a₁ w₁ := ⟨hrel, h3.wr, h3.ext, h3.size, h3.keep, h3.defers⟩
          obtain ⟨e₂, a₂, w₂, hq₂, harr₂⟩ := ihn fr' S'' a₁ w₁ hlen1 (h4.less hle) h1
          exact ⟨e₂, a₂, w₂, hq₂, .of_steps (Steps.trans harr (.one step_inLoop)) harr₂⟩
        | exit id =>
          obtain ⟨fr', S', h1, h2⟩ := hq
          exact ⟨.exit id, a₁, w₁, ⟨fr', S', h1, out h2⟩, .pass (x := .inLoop c) rfl (fun _ _ => .inl (by simp)) harr⟩
        | goto l => exact hq.elim
        | ret =>
          obtain ⟨fr', S', h1, h2⟩ := hq
          exact ⟨.ret, a₁, w₁, ⟨fr', S', h1, out h2⟩, .pass (x := .inLoop c) rfl (fun _ _ => .inl (by simp)) harr⟩
        | panic ch =>
          obtain ⟨v, A, fr', S', h1, h2, h3, h4, h5, h6⟩ := hq
          exact ⟨.panic ch, a₁, w₁, ⟨v, A, fr', S', h1, h2, h3, h4, h.ext.trans h5, h6⟩, .pass (x := .inLoop c) rfl (fun _ _ => .inl (by simp)) harr⟩
        | outgrown => exact hq.elim
    have h0 : SR B (headFr (cwrites c) mods fr (getm mods fr)) S a w :=
      ⟨headFr_rel hlen h.fr (fun j x v _ _ hx hv => h.fr.rel j x v hx (by rw [Array.getElem?_toList]; exact hv)), h.wr, h.ext, h.size, h.keep, h.defers⟩
    obtain ⟨e, a', w', hq, harr⟩ := key n fr S a w hlen h0 hx
    exact ⟨e, a', w', hq, .of_steps (.one step_loop) harr⟩
  | exit id => intro B K fr S a w _ h hx; exact wp_exit ⟨fr, S, hx, h⟩
  | ret => intro B K fr S a w _ h hx; exact wp_ret ⟨fr, S, hx, h⟩
  | _ => intro B K fr S a w _ h hx; exact hx.elim

/-! ## Functions -/
theorem ares_run {fr : Fr} {S : St} {a : Act} {w : World} (hw : WR S w) (hf : RelL S w fr a.tmps.toList) {r : ResultVar} {v : AV} (h : ares P fr S r = some v) :
    ∃ V, (match r with | .tmp t => pure (a.tmps.getD t undef) | .cell x t => do loadVar t (← asAddr (a.tmps.getD x undef)) : Sem Value).run P w = .ok V w ∧ Rel S w v V := by
  have ev : ∀ t, Rel S w (fr.getD t .dead) (a.tmps.getD t undef) := fun t => aeval_rel hf (.tmp t)
  cases r with
  | tmp t => simp only [ares, Option.some.injEq] at h; subst h; exact ⟨_, rfl, ev t⟩
  | cell t ty =>
    simp only [ares] at h
    split at h
    · rename_i d i hd hi
      obtain ⟨V, h1, h2⟩ := run_load_sound hd hi hw (ev t) h
      refine ⟨V, ?_, h2⟩
      have hp : ∃ p, a.tmps.getD t undef = .pointer (some p) := by
        have hv := ev t
        unfold xload at h
        split at h
        · rename_i b o hb; rw [hb] at hv; exact ⟨_, hv.ptr_inv⟩
        · rename_i cs hb; rw [hb] at hv; obtain ⟨vs, b, o, h3, _⟩ := hv.ref_inv; exact ⟨_, h3⟩
        · cases h
      obtain ⟨p, hp⟩ := hp
      rw [hp] at h1
      simp only [Instr.loadAt, Instr.sureAddr, Sem.run_bind, Sem.run_pure, Result.andThen_ok] at h1
      simp only [hp, asAddr, Sem.run_bind, Sem.run_pure, Result.andThen_ok, h1]
    · cases h

theorem aresK_run {fr : Fr} {S : St} {a : Act} {w : World} (hw : WR S w) (hf : RelL S w fr a.tmps.toList) : ∀ {rs : List ResultVar} {k : List AV → Prop}, aresK P fr S rs k →
    ∃ vs Vs, k vs ∧ vs.length = rs.length ∧ (rs.mapM fun | .tmp t => pure (a.tmps.getD t undef) | .cell x t => do loadVar t (← asAddr (a.tmps.getD x undef)) : Sem (List Value)).run P w = .ok Vs w ∧ RelL S w vs Vs
  | [], k, h => ⟨[], [], h, rfl, rfl, .nil⟩
  | r :: rs, k, h => by
    simp only [aresK, obind] at h
    split at h
    case h_2 => exact h.elim
    rename_i v h1
    obtain ⟨V, h3, h4⟩ := ares_run hw hf h1
    obtain ⟨vs, Vs, h0, hl, h5, h6⟩ := aresK_run hw hf h
    refine ⟨v :: vs, V :: Vs, h0, by simp [hl], ?_, .cons h4 h6⟩
    simp only [List.mapM_cons, Sem.run_bind, Sem.run_pure]
    rw [h3]
    simp only [Result.andThen_ok, h5]

theorem aresult_run {fn : Func} {fr : Fr} {S : St} {a : Act} {w : World} (hw : WR S w) (hf : RelL S w fr a.tmps.toList) {k : List AV → Prop} (h : aresK P fr S fn.results.toList k) :
    ∃ vs V, k vs ∧ (results fn a.tmps).run P w = .ok V w ∧ Rel S w (packed vs) V := by
  obtain ⟨vs, Vs, h0, hl, h1, h2⟩ := aresK_run hw hf h
  have h1' : (fn.results.mapM fun | .tmp t => pure (a.tmps.getD t undef) | .cell x t => do loadVar t (← asAddr (a.tmps.getD x undef)) : Sem (Array Value)).run P w = .ok Vs.toArray w := by
    rw [show fn.results = fn.results.toList.toArray by simp, List.mapM_toArray, Sem.run_map]
    exact Eq.trans (congrArg (fun r => Result.andThen r _) h1) rfl
  have hlen := h2.len
  by_cases hone : ∃ v, vs = [v]
  · obtain ⟨v, rfl⟩ := hone
    obtain ⟨V, Vs', rfl, h3, h4⟩ := h2.cons_inv
    have := h4.nil_inv; subst this
    refine ⟨[v], V, h0, ?_, h3⟩
    simp only [results, Sem.run_bind]
    refine Eq.trans (congrArg (fun r => Result.andThen r _) h1') ?_
    simp
  · refine ⟨vs, .tuple Vs.toArray, h0, ?_, ?_⟩
    · simp only [results, Sem.run_bind]
      refine Eq.trans (congrArg (fun r => Result.andThen r _) h1') ?_
      have : ¬ (Vs.toArray.size = 1) := by
        rw [List.size_toArray, ← hlen]
        intro hc
        obtain ⟨r, hr⟩ := List.length_eq_one_iff.1 hc
        exact hone ⟨r, hr⟩
      simp only [Result.andThen_ok, Sem.run_pure, dif_neg this]
    · have : packed vs = .tuple vs := by
        cases vs with
        | nil => rfl
        | cons v vs => cases vs with
          | nil => exact absurd ⟨v, rfl⟩ hone
          | cons u us => rfl
      rw [this]; exact .tuple' h2

/-- A FUNCTION DOES WHAT IS SAID OF IT, if its body is read so. -/
theorem sound_of (hm : P.follows .mixedOrders = true) (hΦ : Sounds P Φ) (hM : Monos Φ) {ord lh : Nat → List Nat} {f : FuncId} {fn : Func} (hf : P.funcs[f]? = some fn) (hcall : callable P f = true) {Sp : Spec}
    (h : ∀ args S Q, Sp args S Q → acall P Φ own ord lh fn args S fun e S' => ∃ S'', S''.le S' ∧ Q e S'') : Sound P f Sp := by
  refine ⟨hcall, fun args vals S w Q hw hr hs => ?_⟩
  have ha := h args S Q hs
  unfold acall at ha
  split at ha
  case h_2 => exact ha.elim
  rename_i c hb
  obtain ⟨hlen, hx⟩ := ha
  refine calls_of_wp hf hb ?_
  have hl : args.length = vals.size := by have := hr.len; simpa using this
  have hSR : SR ⟨S, w, vals ++ Array.replicate (fn.ntmps - vals.size) undef, cwrites c, []⟩ (args ++ List.replicate (fn.ntmps - args.length) (.tuple [])) S { tmps := vals ++ Array.replicate (fn.ntmps - vals.size) undef, defers := [] } w := by
    refine ⟨?_, hw, .refl, rfl, fun _ _ => rfl, rfl⟩
    simp only [Array.toList_append, Array.toList_replicate]
    rw [hl]
    exact hr.append (.replicate undef_rel _)
  refine wp_mono (aexec_wp hm hΦ hM c (fun d hd => hd) hSR hx) fun e a w' hq => ?_
  have fin : ∀ {fr S'}, aresK P fr S' fn.results.toList (fun vs => ∃ S'', S''.le S' ∧ Q (.ret (packed vs)) S'') → SR ⟨S, w, vals ++ Array.replicate (fn.ntmps - vals.size) undef, cwrites c, []⟩ fr S' a w' → a.defers = [] ∧ ∃ v, (results fn a.tmps).run P w' = .ok v w' ∧
      ∃ v_1 S', Q v_1 S' ∧ WR S' w' ∧ Ext S w S' w' ∧ (match v_1, (Ending.returned v) with
        | .ret a, .returned A => Rel S' w' a A
        | .pan a, .panicked chain => ∃ A, chain = [{ v := A, recovered := false }] ∧ Rel S' w' a A
        | _, _ => False) := by
    intro fr S' h1 h2
    obtain ⟨vs, V, ⟨S'', hle, hQ⟩, h3, h4⟩ := aresult_run h2.wr h2.fr h1
    exact ⟨h2.defers, V, h3, .ret (packed vs), S'', hQ, h2.wr.less hle, h2.ext.trans (Ext.less hle), (Ext.less hle).rel h4⟩
  cases e with
  | normal => obtain ⟨fr, S', h1, h2⟩ := hq; exact fin h1 h2
  | ret => obtain ⟨fr, S', h1, h2⟩ := hq; exact fin h1 h2
  | exit id => obtain ⟨fr, S', h1, h2⟩ := hq; exact h1.elim
  | goto l => exact hq.elim
  | panic ch =>
    obtain ⟨v, A, fr, S', rfl, ⟨S'', hle, hQ⟩, h2, h3, h4, h5⟩ := hq
    exact ⟨h5, .pan v, S'', hQ, h3.less hle, h4.trans (Ext.less hle), A, rfl, (Ext.less hle).rel h2⟩
  | outgrown => exact hq.elim
end
end Go.AM
/-
  TABLES: of orders, of owned slots, of the specs of what is called. Rules for loops, for owning less.
-/
namespace Go.AM

/-- A table of lists. -/
def lk : List (Nat × List Nat) → Nat → List Nat
  | [], _ => []
  | (j, x) :: r, i => if i = j then x else lk r i
def own : List Nat → Nat → Bool
  | [], _ => false
  | j :: r, i => if i = j then true else own r i
/-- The specs of what is called. -/
def tab : List (FuncId × Spec) → FuncId → Spec
  | [], _ => fun _ _ _ => False
  | (g, Sp) :: r, f => if f = g then Sp else tab r f

/-- What is said of a call holds for whatever follows from what is asked of its end. -/
def Mono (Sp : Spec) : Prop := ∀ args S Q Q', (∀ e S', Q e S' → Q' e S') → Sp args S Q → Sp args S Q'

variable {P : Program}
theorem sounds_nil : Sounds P (tab []) := fun _ _ _ _ h => h.elim
theorem sounds_cons {f : FuncId} {Sp : Spec} {r : List (FuncId × Spec)} (h : Sound P f Sp) (k : Sounds P (tab r)) : Sounds P (tab ((f, Sp) :: r)) := by
  intro g args S Q hh
  unfold tab at hh ⊢
  by_cases hg : g = f
  · simp only [hg, if_true] at hh ⊢; exact hg ▸ h
  · simp only [hg, if_false] at hh ⊢; exact k g args S Q hh
theorem monos_nil : Monos (tab []) := fun _ _ _ _ _ _ h => h.elim
theorem monos_cons {f : FuncId} {Sp : Spec} {r : List (FuncId × Spec)} (h : Mono Sp) (k : Monos (tab r)) : Monos (tab ((f, Sp) :: r)) := by
  intro g args S Q Q' hq hh
  unfold tab at hh ⊢
  by_cases hg : g = f
  · simp only [hg, if_true] at hh ⊢; exact h args S Q Q' hq hh
  · simp only [hg, if_false] at hh ⊢; exact k g args S Q Q' hq hh
end Go.AM
/-
  THE SAME READING OF CODE WITH FRAMES WRITTEN OUT: for the kernel, which evaluates late, a frame is a list written out at each step; what hangs on the text alone is asked ahead. It is equal to 'acall'.
-/
namespace Go.AM

def setK {α : Type} : List α → Nat → α → (List α → Prop) → Prop
  | [], _, _, k => k []
  | _ :: as, 0, v, k => k (v :: as)
  | a :: as, n + 1, v, k => setK as n v fun l => k (a :: l)
theorem setK_eq {α : Type} : ∀ (l : List α) (n : Nat) (v : α) (k : List α → Prop), setK l n v k = k (l.set n v)
  | [], _, _, _ => rfl
  | _ :: _, 0, _, _ => rfl
  | a :: as, n + 1, v, k => setK_eq as n v _
def setB : List Bool → Nat → (List Bool → Bool) → Bool
  | [], _, k => k []
  | _ :: as, 0, k => k (true :: as)
  | a :: as, n + 1, k => setB as n fun l => k (a :: l)
theorem setB_eq : ∀ (l : List Bool) (n : Nat) (k : List Bool → Bool), setB l n k = k (l.set n true)
  | [], _, _ => rfl
  | _ :: _, 0, _ => rfl
  | a :: as, n + 1, k => setB_eq as n _
def normK {α : Type} : List α → (List α → Prop) → Prop
  | [], k => k []
  | a :: as, k => normK as fun l => k (a :: l)
theorem normK_eq {α : Type} : ∀ (l : List α) (k : List α → Prop), normK l k = k l
  | [], _ => rfl
  | a :: as, k => normK_eq as _
def replB : Nat → (List Bool → Bool) → Bool
  | 0, k => k []
  | n + 1, k => replB n fun l => k (false :: l)
theorem replB_eq : ∀ (n : Nat) (k : List Bool → Bool), replB n k = k (List.replicate n false)
  | 0, _ => rfl
  | n + 1, k => by rw [replB, replB_eq]; rfl

def bput (fr : Fr) (d : Option Tmp) (v : AV) (k : Fr → Prop) : Prop := match d with
  | some d => setK fr d v k
  | none => k fr
theorem bput_eq (fr : Fr) (d : Option Tmp) (v : AV) (k : Fr → Prop) : bput fr d v k = k (aput fr d v) := by
  cases d with
  | none => rfl
  | some d => exact setK_eq _ _ _ _
def deadsK : List Nat → Fr → (Fr → Prop) → Prop
  | [], fr, k => k fr
  | j :: js, fr, k => setK fr j .dead fun fr' => deadsK js fr' k
theorem deadsK_eq : ∀ (js : List Nat) (fr : Fr) (k : Fr → Prop), deadsK js fr k = k (deads js fr)
  | [], _, _ => rfl
  | j :: js, fr, k => by rw [deadsK, setK_eq, deadsK_eq]; rfl
def putmK (l : List AV) : List Nat → Nat → Fr → (Fr → Prop) → Prop
  | [], _, fr, k => k fr
  | j :: js, i, fr, k => setK fr j (g l i) fun fr' => putmK l js (i + 1) fr' k
theorem putmK_eq (l : List AV) : ∀ (js : List Nat) (i : Nat) (fr : Fr) (k : Fr → Prop), putmK l js i fr k = k (putm l js i fr)
  | [], _, _, _ => rfl
  | j :: js, i, fr, k => by rw [putmK, setK_eq, putmK_eq]; rfl

section
variable (P : Program) (Φ : FuncId → Spec) (own : Nat → Bool) (ops : Array Oper)

def bop (i : Nat) (X : AV → St → Prop) (K : Fr → St → Prop) (fr : Fr) (S : St) : Prop :=
  match ops[i]? with
  | none => K fr S
  | some o => if isVal own o then obind (gval P ops fr S o) fun v => bput fr o.dst v fun fr' => K fr' S
    else geff P Φ own ops fr S (fun v S' => bput fr o.dst v fun fr' => K fr' S') X o
theorem bop_eq : bop P Φ own ops = aop P Φ own ops := by
  funext i X K fr S
  unfold bop aop
  cases ops[i]? with
  | none => rfl
  | some o => simp only [bput_eq]
def bops (X : AV → St → Prop) (K : Fr → St → Prop) : List Nat → Fr → St → Prop
  | [], fr, S => K fr S
  | i :: rest, fr, S => bop P Φ own ops i X (bops X K rest) fr S
theorem bops_eq (X : AV → St → Prop) (K : Fr → St → Prop) : ∀ l, bops P Φ own ops X K l = aops P Φ own ops X K l
  | [] => rfl
  | i :: rest => by funext fr S; rw [bops, aops, bops_eq X K rest, bop_eq]

def canOk : List Nat → List Bool → Bool
  | [], l => Region.ready .any ops ⟨l⟩ == []
  | i :: rest, l => match ops[i]? with
    | none => false
    | some o => (if isVal own o then okVal ops ⟨l⟩ i else okEff ops ⟨l⟩ i) && setB l i fun l' => canOk rest l'
def bcanon (X : AV → St → Prop) (K : Fr → St → Prop) : List Nat → List (Nat × (St → Prop)) → Fr → St → Prop
  | [], _, fr, S => K fr S
  | i :: rest, G, fr, S =>
    match ops[i]? with
    | none => False
    | some o =>
      if isVal own o then
        obind (gval P ops fr S o) fun v => bput fr o.dst v fun fr' => bcanon X K rest (if isRd o.op then (i, fun S' => gval P ops fr S' o = some v) :: G else G) fr' S
      else geff P Φ own ops fr S (fun v S' => gchk ops i S' G (bput fr o.dst v fun fr' => bcanon X K rest G fr' S')) X o
theorem bcanon_eq (X : AV → St → Prop) (K : Fr → St → Prop) : ∀ (ord : List Nat) (l : List Bool) (G : List (Nat × (St → Prop))) (fr : Fr) (S : St), canOk own ops ord l = true →
    acanon P Φ own ops X K ord ⟨l⟩ G fr S = bcanon P Φ own ops X K ord G fr S
  | [], l, G, fr, S, h => by
    rw [canOk] at h
    rw [acanon, bcanon, if_pos h]
  | i :: rest, l, G, fr, S, h => by
    rw [canOk] at h
    rw [acanon, bcanon]
    cases ho : ops[i]? with
    | none => rfl
    | some o =>
      rw [ho] at h
      dsimp only at h ⊢
      simp only [Bool.and_eq_true, setB_eq] at h
      obtain ⟨h1, h2⟩ := h
      have hl : (Array.mk l).setIfInBounds i true = ⟨l.set i true⟩ := by simp
      split
      · rename_i hv
        rw [if_pos hv] at h1
        rw [if_pos h1, hl]
        congr 1; funext v
        rw [bput_eq, bcanon_eq X K rest _ _ _ _ h2]
      · rename_i hv
        rw [if_neg hv] at h1
        rw [if_pos h1, hl]
        congr 1; funext v S'
        rw [bput_eq, bcanon_eq X K rest _ _ _ _ h2]
end

def bexec (P : Program) (Φ : FuncId → Spec) (own : Nat → Bool) (ord lh : Nat → List Nat) : Code → (Ex → Fr → St → Prop) → Fr → St → Prop
  | .skip, K, fr, S => K .normal fr S
  | .label _, K, fr, S => K .normal fr S
  | .region id ops draw, K, fr, S =>
    if draw then (if replB ops.size (canOk own ops (ord id)) then (if (ord id).length ≤ ops.size then bcanon P Φ own ops (fun v S' => K (.pan v) fr S') (K .normal) (ord id) [] fr S else False)
      else (if (ord id).length ≤ ops.size then acanon P Φ own ops (fun v S' => K (.pan v) fr S') (K .normal) (ord id) (Array.replicate ops.size false) [] fr S else False))
    else bops P Φ own ops (fun v S' => K (.pan v) fr S') (K .normal) (List.range ops.size) fr S
  | .seq x y, K, fr, S => bexec P Φ own ord lh x (Ex.then (bexec P Φ own ord lh y K) K) fr S
  | .cond c x y, K, fr, S => asplit (aeval fr c) (bexec P Φ own ord lh x K fr S) (bexec P Φ own ord lh y K fr S)
  | .block id c, K, fr, S => bexec P Φ own ord lh c (Ex.inBlock id K) fr S
  | .loop c, K, fr, S =>
    aloop (fun rec l S => deadsK (cwrites c) fr fun fr1 => putmK l (lh (ckey c)) 0 fr1 fun fr2 => bexec P Φ own ord lh c (Ex.then (fun fr' S' => ∃ S'', S''.le S' ∧ rec (getm (lh (ckey c)) fr') S'') K) fr2 S) (getm (lh (ckey c)) fr) S
  | .exit id, K, fr, S => K (.exit id) fr S
  | .ret, K, fr, S => K .ret fr S
  | _, _, _, _ => False

theorem bexec_eq (P : Program) (Φ : FuncId → Spec) (own : Nat → Bool) (ord lh : Nat → List Nat) : ∀ (c : Code) (K : Ex → Fr → St → Prop), bexec P Φ own ord lh c K = aexec P Φ own ord lh c K := by
  intro c
  induction c <;> intro K <;> funext fr S
  all_goals try rfl
  · rename_i id ops draw
    unfold bexec aexec
    rw [bops_eq]
    have hr : Array.replicate ops.size false = ⟨List.replicate ops.size false⟩ := by simp
    split
    · split
      · rename_i h
        rw [replB_eq] at h
        rw [hr]
        simp only [bcanon_eq P Φ own ops _ _ _ _ _ _ _ h]
      · rfl
    · rfl
  · rename_i x y ihx ihy
    rw [bexec, aexec, ihx, ihy]
  · rename_i v x y ihx ihy
    rw [bexec, aexec, ihx, ihy]
  · rename_i id c ih
    rw [bexec, aexec, ih]
  · rename_i c ih
    rw [bexec, aexec]
    simp only [ih, deadsK_eq, putmK_eq]
    rfl

def bcall (P : Program) (Φ : FuncId → Spec) (own : Nat → Bool) (ord lh : Nat → List Nat) (fn : Func) (args : List AV) (S : St) (K : En → St → Prop) : Prop :=
  match fn.body with
  | some c => args.length = fn.params.size + fn.nfree ∧ normK (args ++ List.replicate (fn.ntmps - args.length) (.tuple [])) fun fr => bexec P Φ own ord lh c (Ex.end P fn K) fr S
  | none => False
theorem bcall_eq (P : Program) (Φ : FuncId → Spec) (own : Nat → Bool) (ord lh : Nat → List Nat) (fn : Func) (args : List AV) (S : St) (K : En → St → Prop) : bcall P Φ own ord lh fn args S K = acall P Φ own ord lh fn args S K := by
  unfold bcall acall
  cases fn.body with
  | none => rfl
  | some c => simp only [normK_eq, bexec_eq]
end Go.AM
/-
  SPECS BY WHAT IS ASKED AND WHAT HOLDS BEHIND; what may be forgotten at a function's end; loops; rules by which a reading is reckoned out.
-/
namespace Go.AM

/-- Asked: 'pre x'. Behind: a result, and 'post x'. -/
def rspec {X : Type} (pre : X → List AV → St → Prop) (post : X → St → AV → St → Prop) : Spec :=
  fun args S Q => ∃ x, pre x args S ∧ ∀ v S', post x S v S' → Q (.ret v) S'
theorem rspec_mono {X : Type} (pre : X → List AV → St → Prop) (post : X → St → AV → St → Prop) : Mono (rspec pre post) := by
  rintro args S Q Q' hq ⟨x, h1, h2⟩
  exact ⟨x, h1, fun v S' h => hq _ _ (h2 v S' h)⟩
theorem ccall_r {X : Type} {pre : X → List AV → St → Prop} {post : X → St → AV → St → Prop} (x : X) {args : List AV} {S : St} {K E : AV → St → Prop} (h : pre x args S) (k : ∀ v S', post x S v S' → K v S') :
    ccall (rspec pre post) args S K E := ⟨x, h, k⟩

/-- A reading that follows from another one, in a part of the heap. -/
def Imp (S : St) (v : AV) (S' : St) (v' : AV) : Prop := S'.le S ∧ ∀ w V, WR S w → Rel S w v V → Rel S' w v' V
theorem Imp.refl (S : St) (v : AV) : Imp S v S v := ⟨St.le_refl _, fun _ _ _ h => h⟩
theorem Imp.le {S S' : St} (h : S'.le S) (v : AV) : Imp S v S' v := ⟨h, fun _ _ _ r => (Ext.less h).rel r⟩
theorem Imp.trans {S S' S'' : St} {v v' v'' : AV} (h : Imp S v S' v') (k : Imp S' v' S'' v'') : Imp S v S'' v'' :=
  ⟨St.le_trans k.1 h.1, fun w V hw r => k.2 w V (hw.less h.1) (h.2 w V hw r)⟩
theorem le_delObj (S : St) (b : Nat) : (S.delObj b).le S := ⟨fun c o h => by simp at h; exact h.2, fun c x h => h⟩
theorem le_delTok (S : St) (b : Nat) : (S.delTok b).le S := ⟨fun c o h => h, fun c x h => by simp at h; exact h.2⟩

/-- A list that is owned becomes a value. -/
theorem Imp.freeze {S : St} {b n sz : Nat} {cap : Option Nat} {cs : List AV} (ho : S.obj b = some (.cells cs) ∨ S.obj b = some (.vec cs)) (hn : cs.length = n * sz) :
    Imp S (.msl b 0 n cap sz) (S.delObj b) (.slice cs n .ro) := by
  refine ⟨le_delObj S b, fun w V hw r => ?_⟩
  have htok : S.tok b = none := by
    cases ht : S.tok b with
    | none => rfl
    | some x =>
      have := (hw.tok b x ht).1
      rcases ho with ho | ho <;> rw [ho] at this <;> cases this
  have key : ∃ vs : List Value, RelL S w cs vs ∧ ∀ (i : Nat) v, vs[i]? = some v → w.cell? ⟨b, 0 + i, none⟩ = some v := by
    rcases ho with ho | ho
    · obtain ⟨C, e, fz, h1, hf, h2⟩ := hw.obj b _ ho
      refine ⟨C.toList, h2, fun i v hv => ?_⟩
      simp only [World.cell?, h1, Nat.zero_add]
      simpa using hv
    · obtain ⟨C, e, fz, h1, hf, h3, h2⟩ := hw.obj b _ ho
      refine ⟨_, h2, fun i v hv => ?_⟩
      simp only [World.cell?, h1, Nat.zero_add]
      have hi : i < cs.length := by
        rw [h2.len]
        rcases Nat.lt_or_ge i (C.toList.take cs.length).length with h | h
        · exact h
        · rw [List.getElem?_eq_none h] at hv; cases hv
      rw [List.getElem?_take, if_pos hi] at hv
      simpa using hv
  obtain ⟨vs, h1, h2⟩ := key
  have hE := Ext.less (w := w) (le_delObj S b)
  have h1' := hE.relL h1
  have himm : ∀ (i : Nat) v, vs[i]? = some v → Imm (S.delObj b) w b (0 + i) v := fun i v hv => ⟨by simp, by simp [htok], h2 i v hv⟩
  cases r with
  | msl _ _ _ c _ hc => exact .slice cs vs n .ro b 0 c himm h1'.len h1'.rel hc trivial
  | vsl _ _ _ c _ hc _ => exact .slice cs vs n .ro b 0 c himm h1'.len h1'.rel hc trivial
/-- In a tuple. -/
theorem Imp.tuple2 {S S' : St} {a a' b : AV} (h : Imp S a S' a') : Imp S (.tuple [a, b]) S' (.tuple [a', b]) := by
  refine ⟨h.1, fun w V hw r => ?_⟩
  cases r with
  | tuple cs vs hl hr =>
    have R : RelL S w [a, b] vs := ⟨hl, hr⟩
    obtain ⟨x, vs', rfl, h1, R'⟩ := R.cons_inv
    obtain ⟨y, vs'', rfl, h2, R''⟩ := R'.cons_inv
    rw [R''.nil_inv]
    exact .tuple' (.cons (h.2 w x hw h1) (.cons ((Ext.less h.1).rel h2) .nil))

/-- The end of a function. -/
def Done (post : AV → St → Prop) (e : En) (S' : St) : Prop := ∃ T, T.le S' ∧ ∃ v v' S'', e = .ret v ∧ Imp T v S'' v' ∧ post v' S''
theorem done {post : AV → St → Prop} {v : AV} {S' : St} (S'' : St) (hl : S''.le S') (h : post v S'') : Done post (.ret v) S' := ⟨S'', hl, v, v, S'', rfl, .refl _ _, h⟩
theorem done' {post : AV → St → Prop} {v : AV} {S' : St} (h : post v S') : Done post (.ret v) S' := done S' (St.le_refl _) h
theorem done_imp {post : AV → St → Prop} {v : AV} {S' : St} (v' : AV) (S'' : St) (hl : Imp S' v S'' v') (h : post v' S'') : Done post (.ret v) S' := ⟨S', St.le_refl _, v, v', S'', rfl, hl, h⟩
theorem Done.mono {post post' : AV → St → Prop} (h : ∀ v S, post v S → post' v S) {e : En} {S : St} (d : Done post e S) : Done post' e S :=
  let ⟨T, h1, v, v', S'', h2, h3, h4⟩ := d; ⟨T, h1, v, v', S'', h2, h3, h _ _ h4⟩

theorem sound_r {P : Program} (hm : P.follows .mixedOrders = true) {l : List (FuncId × Spec)} (hΦ : Sounds P (tab l)) (hM : Monos (tab l)) {own : Nat → Bool} {ord lh : Nat → List Nat} {f : FuncId} {fn : Func} (hf : P.funcs[f]? = some fn)
    (hcall : callable P f = true) {X : Type} {pre : X → List AV → St → Prop} {post : X → St → AV → St → Prop}
    (h : ∀ x args S, pre x args S → bcall P (tab l) own ord lh fn args S (Done (post x S))) : Sound P f (rspec pre post) := by
  have hs : Sound P f (fun args S Q => acall P (tab l) own ord lh fn args S fun e S' => ∃ S'', S''.le S' ∧ Q e S'') := sound_of hm hΦ hM hf hcall fun _ _ _ h => h
  refine ⟨hcall, fun args vals S w Q hw hr ⟨x, hp, hq⟩ => ?_⟩
  have hb := h x args S hp
  rw [bcall_eq] at hb
  refine (hs.2 args vals S w (fun e S' => ∃ v v' S'', e = .ret v ∧ Imp S' v S'' v' ∧ post x S v' S'') hw hr hb).mono ?_
  rintro e w' ⟨v, S', ⟨a, a', S'', rfl, hi, hpost⟩, h2, h3, h4⟩
  cases e with
  | returned A => exact ⟨.ret a', S'', hq a' S'' hpost, h2.less hi.1, h3.trans (Ext.less hi.1), hi.2 w' A h2 h4⟩
  | panicked c => exact h4.elim
  | outgrown => exact h4.elim

/-! ## Loops -/
theorem aloop_inv {B : (List AV → St → Prop) → List AV → St → Prop} (I : Nat → List AV → St → Prop) (n : Nat) {l : List AV} {S : St} (h0 : I n l S)
    (hs : ∀ n l S, I n l S → ∀ rec : List AV → St → Prop, (∀ m l' S', m < n → I m l' S' → rec l' S') → B rec l S) : aloop B l S := by
  have key : ∀ k n l S, n < k → I n l S → aiter B k l S := by
    intro k
    induction k with
    | zero => intro n l S h; omega
    | succ k ih => intro n l S hn hi; exact hs n l S hi _ fun m l' S' hm hi' => ih m l' S' (by omega) hi'
  exact ⟨n + 1, key (n + 1) n l S (by omega) h0⟩

/-! ## Reckoning -/
@[simp] theorem obind_some {α : Type} (v : α) (k : α → Prop) : obind (some v) k = k v := rfl
@[simp] theorem asplit_true (x y : Prop) : asplit (.bool true) x y = x := rfl
@[simp] theorem asplit_false (x y : Prop) : asplit (.bool false) x y = y := rfl
theorem asplit_of (p : Prop) [Decidable p] {x y : Prop} (h1 : p → x) (h2 : ¬ p → y) : asplit (.bool (decide p)) x y := by
  by_cases h : p
  · simp [h, h1 h]
  · simp [h, h2 h]
theorem asplit_ofb (b : Bool) {x y : Prop} (h1 : b = true → x) (h2 : b = false → y) : asplit (.bool b) x y := by cases b <;> simp_all
theorem Own.nil_beq : (Own.nil == Own.nil) = true := rfl
/-- A heap that is a part of one that grows. -/
theorem stle_setObj {S T : St} (h : S.le T) {b : Nat} (hb : S.obj b = none) (o : AObj) : S.le (T.setObj b o) := by
  refine ⟨fun c x hx => ?_, h.2⟩
  have hc : c ≠ b := by rintro rfl; rw [hb] at hx; cases hx
  simp [hc, h.1 c x hx]
theorem stle_setTok {S T : St} (h : S.le T) {b : Nat} (hb : S.tok b = none) (x : Nat) : S.le (T.setTok b x) := by
  refine ⟨h.1, fun c y hy => ?_⟩
  have hc : c ≠ b := by rintro rfl; rw [hb] at hy; cases hy
  simp [hc, h.2 c y hy]
theorem stle_delTok {S T : St} (h : S.le T) {b : Nat} (hb : S.tok b = none) : S.le (T.delTok b) := by
  refine ⟨h.1, fun c y hy => ?_⟩
  have hc : c ≠ b := by rintro rfl; rw [hb] at hy; cases hy
  simp [hc, h.2 c y hy]
theorem stle_delObj {S T : St} (h : S.le T) {b : Nat} (hb : S.obj b = none) : S.le (T.delObj b) := by
  refine ⟨fun c y hy => ?_, h.2⟩
  have hc : c ≠ b := by rintro rfl; rw [hb] at hy; cases hy
  simp [hc, h.1 c y hy]
theorem stle_obj {S T : St} (h : S.le T) {b : Nat} (hb : T.obj b = none) : S.obj b = none := by
  cases hc : S.obj b with
  | none => rfl
  | some x => rw [h.1 b x hc] at hb; cases hb
theorem stle_tok {S T : St} (h : S.le T) {b : Nat} (hb : T.tok b = none) : S.tok b = none := by
  cases hc : S.tok b with
  | none => rfl
  | some x => rw [h.2 b x hc] at hb; cases hb
theorem stle_delTok' (S : St) (b : Nat) : (S.delTok b).le S := le_delTok S b
theorem setObj_setObj (S : St) (b : Nat) (o o' : AObj) : (S.setObj b o).setObj b o' = S.setObj b o' := by
  simp only [St.setObj, St.mk.injEq, and_true]
  funext i
  by_cases h : i = b <;> simp [h]

/-- A list to which one may append, whose tail is not of S0. -/
def Tl (ez : Nat) (S0 S : St) (o : Own) : Prop := S0.le S ∧ (o = .nil ∨ o = .full ∨ ∃ t hw, o = .tok t hw ez ∧ S.tok t = some hw ∧ S0.tok t = none)
theorem app_tl {S0 S : St} {ez bz : Nat} {cs new : List AV} {n m : Nat} {o : Own} {x : AV} {K : AV → St → Prop} (hx : xnews ez x S = some (new, m)) (hez : 0 < ez) (hm : new.length = m * ez) (hone : new.all AV.ok1 = true)
    (hl : cs.length = n * ez) (hnl : o = .nil → n = 0) (hb1 : (n + m) * bz ≤ 70368744177664) (hb2 : n + m ≤ 70368744177664) (hT : Tl ez S0 S o)
    (hK : ∀ o' S', S'.obj = S.obj → Tl ez S0 S' o' → (o' = .nil → n + m = 0) → K (.slice (cs ++ new) (n + m) o') S') : xappend false ez bz (.slice cs n o) x S K := by
  unfold xappend
  rw [hx, obind_some]
  refine ⟨hez, hone, ?_⟩
  by_cases h0 : m = 0
  · subst h0
    have hn : new = [] := List.eq_nil_of_length_eq_zero (by simpa using hm)
    subst hn
    have := hK o S rfl hT (by simpa using hnl)
    simpa using this
  · rw [if_neg h0]
    refine ⟨hl, hb1, hb2, ?_⟩
    obtain ⟨hle, rfl | rfl | ⟨t, hw, rfl, ht, ht0⟩⟩ := hT
    · have hn0 := hnl rfl
      subst hn0
      have hcs : cs = [] := List.eq_nil_of_length_eq_zero (by simpa using hl)
      subst hcs
      intro b h1 h2
      have := hK (.tok b (m * ez) ez) (S.setTok b (m * ez)) rfl ⟨stle_setTok hle (stle_tok hle h2) _, .inr (.inr ⟨b, _, rfl, by simp, stle_tok hle h2⟩)⟩ (by simp)
      simpa using this
    · intro b h1 h2
      exact hK (.tok b ((n + m) * ez) ez) (S.setTok b ((n + m) * ez)) rfl ⟨stle_setTok hle (stle_tok hle h2) _, .inr (.inr ⟨b, _, rfl, by simp, stle_tok hle h2⟩)⟩ (by simp)
    · refine ⟨rfl, ht, fun b hw' h1 h2 => ?_⟩
      have hb0 : S0.tok b = none := by
        rcases h2 with rfl | h2
        · exact ht0
        · exact stle_tok hle h2
      exact hK (.tok b hw' ez) _ rfl ⟨stle_setTok (stle_delTok hle ht0) hb0 _, .inr (.inr ⟨b, _, rfl, by simp, hb0⟩)⟩ (by simp)

/-- Bytes. -/
def bsl (l : List UInt8) (o : Own) : AV := .slice (ofBytes l) l.length o
@[simp] theorem ofBytes_length (l : List UInt8) : (ofBytes l).length = l.length := by simp [ofBytes]
@[simp] theorem ofBytes_append (l k : List UInt8) : ofBytes (l ++ k) = ofBytes l ++ ofBytes k := by simp [ofBytes]
@[simp] theorem ofBytes_nil : ofBytes [] = [] := rfl
@[simp] theorem ofBytes_cons (b : UInt8) (l : List UInt8) : ofBytes (b :: l) = .int .u8 b.toNat :: ofBytes l := rfl
theorem ofBytes_get (l : List UInt8) (i : Nat) : (ofBytes l)[i]? = (l[i]?).map fun b => .int .u8 b.toNat := by simp [ofBytes]
theorem ofBytes_drop (l : List UInt8) (n : Nat) : (ofBytes l).drop n = ofBytes (l.drop n) := by simp [ofBytes]
theorem ofBytes_take (l : List UInt8) (n : Nat) : (ofBytes l).take n = ofBytes (l.take n) := by simp [ofBytes]
theorem ofBytes_ok (l : List UInt8) : (ofBytes l).all AV.ok1 = true := by simp [ofBytes, AV.ok1]
theorem bytesOf_ofBytes (l : List UInt8) : bytesOf (ofBytes l) = some l := by
  induction l with
  | nil => rfl
  | cons b l ih =>
    rw [ofBytes_cons, bytesOf, ih]
    simp
/-! ## The operations at values that are written out -/
section
variable (b o off n m i : Nat) (a c : Int) (k k' : IntKind) (t : Bool) (x y z : AV) (cs vs : List AV) (S : St) (p q : Bool)
theorem k_nilck_p : xnilck (.ptr (some (b, o))) = some (.ptr (some (b, o))) := rfl
theorem k_nilck_r : xnilck (.ref cs) = some (.ref cs) := rfl
theorem k_faddr_p : xfaddr off (.ptr (some (b, o))) = some (.ptr (some (b, o + off))) := rfl
theorem k_faddr_r : xfaddr off (.ref cs) = some (.ref (cs.drop off)) := rfl
theorem k_load_r : xload t n (.ref cs) S = getCells t n cs 0 := rfl
theorem k_load_p : xload t n (.ptr (some (b, o))) S = match S.obj b with
    | some (.cells cs) => getCells t n cs o
    | some (.vec cs) => getCells t n cs o
    | _ => none := rfl
theorem k_get1 : getCells false n cs o = cs[o]? := rfl
theorem k_getn : getCells true n cs o = if o + n ≤ cs.length then some (.agg ((cs.drop o).take n)) else none := rfl
theorem k_isnil : xisnil t (some p) = some (.bool (if t then !p else p)) := rfl
theorem k_nilp_p (l : Option (Nat × Nat)) : xnilp (.ptr l) = some l.isNone := rfl
theorem k_nilp_r : xnilp (.ref cs) = some false := rfl
theorem k_nils_s (w : Own) : xnils (.slice cs n w) = some (w == .nil) := rfl
theorem k_nils_m (l : Option Nat) : xnils (.msl b o n l m) = some false := rfl
theorem k_nili_n : xnili .nilIface = some true := rfl
theorem k_nili_i (T : TypeId) : xnili (.iface T x) = some false := rfl
theorem k_nilm (l : Option Nat) : xnilm (.map l) = some l.isNone := rfl
theorem k_len_s (w : Own) : xlen (.slice cs n w) = some (.int .i64 n) := rfl
theorem k_len_m (l : Option Nat) : xlen (.msl b o n l m) = some (.int .i64 n) := rfl
theorem k_slen (s : ByteArray) : xslen (.str s) = some (.int .i64 s.size) := rfl
theorem k_cap_m : xcap (.msl b o n (some i) m) = some (.int .i64 i) := rfl
theorem k_cap_f : xcap (.slice cs n .full) = some (.int .i64 n) := rfl
theorem k_cap_n : xcap (.slice cs n .nil) = some (.int .i64 0) := rfl
theorem k_gv_b (w : Option AV) : gv (.bool p) q w = if p = q then w else some (.tuple []) := rfl
theorem k_gv_t (w : Option AV) : gv (.tuple []) q w = some (.tuple []) := rfl
theorem k_gif_b (w : (AV → St → Prop) → Prop) (K : AV → St → Prop) : gif (.bool p) q w S K = if p = q then w K else K (.tuple []) S := rfl
theorem k_gif_t (w : (AV → St → Prop) → Prop) (K : AV → St → Prop) : gif (.tuple []) q w S K = K (.tuple []) S := rfl
theorem k_pick : xpick (.bool p) x y = some (if p then x else y) := rfl
theorem k_extract : xextract (.tuple vs) i = vs[i]? := rfl
theorem k_add : xbini .add (.int k a) (.int k c) = some (.int k (k.wrap (a + c))) := by simp [xbini, xint]
theorem k_sub : xbini .sub (.int k a) (.int k c) = some (.int k (k.wrap (a - c))) := by simp [xbini, xint]
theorem k_mul : xbini .mul (.int k a) (.int k c) = some (.int k (k.wrap (a * c))) := by simp [xbini, xint]
theorem k_rem (h : c ≠ 0) : xbini .rem (.int k a) (.int k c) = some (.int k (a.tmod c)) := by simp [xbini, xint, h]
theorem k_eql : xbini .eql (.int k a) (.int k c) = some (.bool (decide (a = c))) := by simp [xbini, xint]; rfl
theorem k_neq : xbini .neq (.int k a) (.int k c) = some (.bool (decide (a ≠ c))) := by
  simp only [xbini, xint, if_true]
  by_cases h : a = c <;> simp [h]
theorem k_lss : xbini .lss (.int k a) (.int k c) = some (.bool (decide (a < c))) := by simp [xbini, xint]
theorem k_leq : xbini .leq (.int k a) (.int k c) = some (.bool (decide (a ≤ c))) := by simp [xbini, xint]
theorem k_gtr : xbini .gtr (.int k a) (.int k c) = some (.bool (decide (a > c))) := by simp [xbini, xint]
theorem k_geq : xbini .geq (.int k a) (.int k c) = some (.bool (decide (a ≥ c))) := by simp [xbini, xint]
theorem k_xor : xbini .xor (.int k a) (.int k c) = xint .xor k a c := by simp [xbini]
theorem k_and : xbini .and (.int k a) (.int k c) = xint .and k a c := by simp [xbini]
theorem k_or : xbini .or (.int k a) (.int k c) = xint .or k a c := by simp [xbini]
theorem k_shl : xbini .shl (.int k a) (.int k' c) = xint .shl k a c := rfl
theorem k_shr : xbini .shr (.int k a) (.int k' c) = xint .shr k a c := rfl
theorem k_seql (s s' : ByteArray) : xbins .eql (.str s) (.str s') = some (.bool (s.data.toList == s'.data.toList)) := rfl
theorem k_sneq (s s' : ByteArray) : xbins .neq (.str s) (.str s') = some (.bool !(s.data.toList == s'.data.toList)) := rfl
theorem k_sadd (s s' : ByteArray) (h : s.size + s'.size ≤ 9223372036854775807) : xbins .add (.str s) (.str s') = some (.str (s ++ s')) := by simp [xbins, xstr, h]
theorem k_beql : xbinb .eql (.bool p) (.bool q) = some (.bool (p == q)) := rfl
theorem k_bneq : xbinb .neq (.bool p) (.bool q) = some (.bool !(p == q)) := rfl
theorem k_not : xun .not (.bool p) = some (.bool !p) := rfl
theorem k_neg : xun .neg (.int k a) = some (.int k (k.wrap (0 - a))) := rfl
theorem k_conv : xint2int k' (.int k a) = some (.int k' (k'.wrap a)) := rfl
theorem k_str (s : ByteArray) : xstr2str (.str s) = some (.str s) := rfl
theorem k_s2b (s : ByteArray) : xstr2bytes (.str s) = some (.slice (ofBytes s.data.toList) s.size .ro) := rfl
theorem k_store_p (K : AV → St → Prop) : xstore n (.ptr (some (b, o))) x S K = match S.obj b with
    | some (.cells cs) => obind (xcells x) fun vs => vs.length = n ∧ vs.all AV.ok1 = true ∧ o + n ≤ cs.length ∧ K (.tuple []) (S.setObj b (.cells (setList cs o vs)))
    | some (.vec cs) => obind (xcells x) fun vs => vs.length = n ∧ vs.all AV.ok1 = true ∧ o + n ≤ cs.length ∧ K (.tuple []) (S.setObj b (.vec (setList cs o vs)))
    | _ => False := rfl
theorem k_cells_i : xcells (.int k a) = some [.int k a] := rfl
theorem k_cells_b : xcells (.bool p) = some [.bool p] := rfl
theorem k_cells_s (s : ByteArray) : xcells (.str s) = some [.str s] := rfl
theorem k_cells_p (l : Option (Nat × Nat)) : xcells (.ptr l) = some [.ptr l] := rfl
theorem k_cells_r : xcells (.ref cs) = some [.ref cs] := rfl
theorem k_cells_sl (w : Own) : xcells (.slice cs n w) = some [.slice cs n w] := rfl
theorem k_cells_ms (l : Option Nat) : xcells (.msl b o n l m) = some [.msl b o n l m] := rfl
theorem k_cells_m (l : Option Nat) : xcells (.map l) = some [.map l] := rfl
theorem k_cells_a : xcells (.agg cs) = some cs := rfl
theorem k_cells_n : xcells .nilIface = some [.nilIface] := rfl
theorem k_cells_if (T : TypeId) : xcells (.iface T x) = some [.iface T x] := rfl
theorem k_field1 : xfield false n off (.agg cs) = cs[off]? := rfl
theorem k_fieldn : xfield true n off (.agg cs) = if off + n ≤ cs.length then some (.agg ((cs.drop off).take n)) else none := rfl
theorem k_iaddr_s (w : Own) (h : 0 ≤ a ∧ a < (n : Int)) : xiaddr m (.slice cs n w) (.int k a) = some (.ref ((cs.drop (a.toNat * m)).take m)) := by simp [xiaddr, h]
theorem k_iaddr_m (l : Option Nat) (h : 0 ≤ a ∧ a < (n : Int)) : xiaddr m (.msl b off n l o) (.int k a) = some (.ptr (some (b, off + a.toNat * m))) := by simp [xiaddr, h]
theorem k_aaddr_p (h : 0 ≤ a ∧ a < (n : Int)) : xaaddr n m (.ptr (some (b, o))) (.int k a) = some (.ptr (some (b, o + a.toNat * m))) := by simp [xaaddr, h]
theorem k_ref1 : xload false n (.ref ((cs.drop i).take 1)) S = cs[i]? := by simp [xload, getCells]
theorem k_td : ((cs.drop i).take 1)[0]? = cs[i]? := by simp
theorem k_d0 : (cs.drop i)[0]? = cs[i]? := by simp
theorem k_t0 : (cs.take 1)[0]? = cs[0]? := by simp
theorem k_cells_bsl (l : List UInt8) (w : Own) : xcells (bsl l w) = some [bsl l w] := rfl
theorem k_ok_bsl (l : List UInt8) (w : Own) : (bsl l w).ok1 = true := rfl
theorem k_len_bsl (l : List UInt8) (w : Own) : xlen (bsl l w) = some (.int .i64 l.length) := rfl
theorem k_nils_bsl (l : List UInt8) (w : Own) : xnils (bsl l w) = some (w == .nil) := rfl
theorem k_ok_i : (AV.int k a).ok1 = true := rfl
theorem k_ok_b : (AV.bool p).ok1 = true := rfl
theorem k_ok_s (s : ByteArray) : (AV.str s).ok1 = true := rfl
theorem k_ok_p (l : Option (Nat × Nat)) : (AV.ptr l).ok1 = true := rfl
theorem k_ok_r : (AV.ref cs).ok1 = true := rfl
theorem k_ok_sl (w : Own) : (AV.slice cs n w).ok1 = true := rfl
theorem k_ok_ms (l : Option Nat) : (AV.msl b o n l m).ok1 = true := rfl
theorem k_ok_m (l : Option Nat) : (AV.map l).ok1 = true := rfl
theorem k_ok_n : AV.nilIface.ok1 = true := rfl
theorem k_ok_if (T : TypeId) : (AV.iface T x).ok1 = true := rfl
end

/-- Bytes, however they are held. -/
def Byt (S : St) (v : AV) (s : List UInt8) : Prop :=
  (∃ o, v = bsl s o ∧ (o = .nil → s = [])) ∨ ∃ b off cap cs, v = .msl b off s.length cap 1 ∧ S.obj b = some (.cells cs) ∧ off + s.length ≤ cs.length ∧ (cs.drop off).take s.length = ofBytes s
theorem Byt.le {S S' : St} (h : S.le S') {v : AV} {s : List UInt8} (hb : Byt S v s) : Byt S' v s := by
  rcases hb with h1 | ⟨b, off, cap, cs, h1, h2, h3⟩
  · exact .inl h1
  · exact .inr ⟨b, off, cap, cs, h1, h.1 _ _ h2, h3⟩
theorem Byt.len {S : St} {v : AV} {s : List UInt8} (hb : Byt S v s) : xlen v = some (.int .i64 s.length) := by
  rcases hb with ⟨o, rfl, _⟩ | ⟨b, off, cap, cs, rfl, _⟩ <;> rfl
theorem Byt.str {S : St} {v : AV} {s : List UInt8} (hb : Byt S v s) : xbytes2str v S = some (.str ⟨s.toArray⟩) := by
  rcases hb with ⟨o, rfl, h⟩ | ⟨b, off, cap, cs, rfl, h1, h2, h3⟩
  · simp only [bsl, xbytes2str, ofBytes_length, if_true, bytesOf_ofBytes]
    split
    · rename_i ho; rw [h ho]; rfl
    · rfl
  · simp only [xbytes2str, h1, if_pos h2, h3, bytesOf_ofBytes]; rfl
theorem Byt.news {S : St} {v : AV} {s : List UInt8} (hb : Byt S v s) : xnews 1 v S = some (ofBytes s, s.length) := by
  rcases hb with ⟨o, rfl, h⟩ | ⟨b, off, cap, cs, rfl, h1, h2, h3⟩
  · simp [xnews, bsl]
  · simp only [xnews, h1, if_true, Nat.mul_one, if_pos h2, h3]
theorem setList_len : ∀ (vs cs : List AV) (o : Nat), (setList cs o vs).length = cs.length
  | [], _, _ => rfl
  | v :: vs, cs, o => by rw [setList, setList_len vs]; simp
theorem setList_at : ∀ (vs cs : List AV) (o : Nat), o + vs.length ≤ cs.length → (setList cs o vs).take (o + vs.length) = cs.take o ++ vs
  | [], cs, o, _ => by simp [setList]
  | v :: vs, cs, o, h => by
    have h' : o + vs.length + 1 ≤ cs.length := by simpa [Nat.add_assoc] using h
    rw [setList]
    have e : o + (v :: vs).length = (o + 1) + vs.length := by simp; omega
    rw [e, setList_at vs (cs.set o v) (o + 1) (by simp; omega)]
    have e2 : (cs.set o v).take (o + 1) = cs.take o ++ [v] := by
      have hl : o < (cs.set o v).length := by simp; omega
      rw [List.take_succ_eq_append_getElem hl]
      simp [List.take_set_of_le]
    rw [e2]; simp
end Go.AM
