/- Own texts E1, E2, E3, E4, E5, E6, E7, E8, E9, E10, E11, E12 of this claim, joined. -/
import Derived.Test.YthgdjoamfefcbaaGreatDoorMD
import Derived.Test.YthgdjoamfefcbaaGreatDoorMB2
set_option linter.all false
set_option linter.unusedVariables false
set_option linter.unusedSimpArgs false
set_option linter.unnecessarySimpa false
/-
  The reference: Same, Copy, Lists, Allowed, Append, Sync.
-/
namespace Go.AM
open Go
set_option maxRecDepth 20000
variable {R S S' : St} {v : AV} {s : List UInt8} {K E : AV → St → Prop}

theorem Byt.at (hb : Byt S v s) {i : Nat} {c : UInt8} (hc : s[i]? = some c) : ∃ ad, xiaddr 1 v (.int .i64 (i : Nat)) = some ad ∧ xload false 1 ad S = some (.int .u8 c.toNat) := by
  have hi : i < s.length := by
    rcases Nat.lt_or_ge i s.length with h | h
    · exact h
    · rw [List.getElem?_eq_none h] at hc; cases hc
  rcases hb with ⟨o, rfl, _⟩ | ⟨b, off, cap, cs, rfl, h1, h2, h3⟩
  · refine ⟨_, k_iaddr_s _ _ _ _ _ _ ⟨by omega, by omega⟩, ?_⟩
    rw [Nat.mul_one, k_ref1, Int.toNat_natCast, ofBytes_get, hc]; rfl
  · have hi2 : (0 : Int) ≤ (i : Nat) ∧ ((i : Nat) : Int) < (s.length : Nat) := ⟨by omega, by omega⟩
    refine ⟨.ptr (some (b, off + i)), by simp [xiaddr, hi2], ?_⟩
    simp only [xload, h1, getCells]
    have h4 := congrArg (fun l => l[i]?) h3
    simp only [List.getElem?_take, if_pos hi, List.getElem?_drop, ofBytes_get, hc] at h4
    exact h4
def Sp18 : Spec := rspec (fun (x : AV × AV × List UInt8 × List UInt8) args S => args = [x.1, x.2.1] ∧ Byt S x.1 x.2.2.1 ∧ Byt S x.2.1 x.2.2.2 ∧ x.2.2.1.length ≤ 1073741824 ∧ x.2.2.2.length ≤ 1073741824)
  fun x S v S' => v = .bool (decide (x.2.2.1 = x.2.2.2)) ∧ S' = S
theorem s18 : Sound PR 18 Sp18 := by
  refine sound_r PR_mixed sounds_nil monos_nil (own := own []) (ord := O18) (lh := H18) (fn := Go.Proofs.Tryz.f18) (by kernel_rfl) (by kernel_rfl) ?_
  rintro ⟨v1, v2, a, b⟩ args S ⟨rfl, h1, h2, hl1, hl2⟩
  rw [W18_eq]
  refine ⟨rfl, ?_⟩
  unfold W18
  dsimp only at h1 h2 hl1 hl2 ⊢
  simp only [ob_s, g, ne_eq, k_neq, h1.len, h2.len]
  refine asplit_of _ ?_ ?_
  · intro hne
    have : ¬ a = b := by rintro rfl; exact hne rfl
    refine done' ⟨by simp [this], rfl⟩
  · intro heq
    have hlen : a.length = b.length := by
      rcases Nat.lt_trichotomy a.length b.length with h | h | h
      · exact absurd (by omega) heq
      · exact h
      · exact absurd (by omega) heq
    refine aloop_inv (fun n l S' => S' = S ∧ ∃ i : Nat, i ≤ a.length ∧ n = a.length - i ∧ l = [.int .i64 i] ∧ a.take i = b.take i) a.length ⟨rfl, 0, by omega, by omega, rfl, by simp⟩ ?_
    rintro n _ S ⟨rfl, i, hi, rfl, rfl, hpre⟩ rec hrec
    simp only [ob_s, List.getD_cons_zero, k_add, k_lss]
    refine asplit_of _ ?_ ?_
    · intro hlt
      have hi1 : i < a.length := by omega
      have hi2 : i < b.length := by omega
      have w1 : IntKind.i64.wrap ((i : Int) + 1) = ((i + 1 : Nat) : Int) := by rw [IntWalk.i64_in _ (by omega)]; omega
      obtain ⟨ad1, p1, p2⟩ := h1.at (List.getElem?_eq_getElem hi1)
      obtain ⟨ad2, q1, q2⟩ := h2.at (List.getElem?_eq_getElem hi2)
      simp only [ob_s, ne_eq, k_neq, p1, p2, q1, q2]
      refine asplit_of _ ?_ ?_
      · intro hne
        have : ¬ a = b := by rintro rfl; exact hne rfl
        refine done' ⟨by simp [this], rfl⟩
      · intro heq2
        have hc : a[i] = b[i] := by
          apply UInt8.toNat_inj.1
          rcases Nat.lt_trichotomy a[i].toNat b[i].toNat with h | h | h
          · exact absurd (by omega) heq2
          · exact h
          · exact absurd (by omega) heq2
        simp only [w1]
        refine ⟨S, St.le_refl _, hrec (a.length - (i + 1)) _ _ (by omega) ⟨rfl, i + 1, by omega, rfl, rfl, ?_⟩⟩
        rw [List.take_succ_eq_append_getElem hi1, List.take_succ_eq_append_getElem hi2, hpre, hc]
    · intro hge
      have hie : i = a.length := by omega
      subst hie
      have : a = b := by rw [List.take_length] at hpre; rw [hpre, hlen, List.take_length]
      refine done' ⟨by simp [this], rfl⟩

theorem setList_all (vs cs : List AV) (h : vs.length = cs.length) : setList cs 0 vs = vs := by
  have h1 := setList_at vs cs 0 (by omega)
  have h2 := setList_len vs cs 0
  simp only [Nat.zero_add, List.take_zero, List.nil_append] at h1
  rw [List.take_of_length_le (by omega)] at h1
  exact h1
def Sp24 : Spec := rspec (fun (x : AV × List UInt8) args S => args = [x.1] ∧ Byt S x.1 x.2 ∧ x.2.length ≤ 1073741824)
  fun x S v S' => v = bsl x.2 .ro ∧ S' = S
theorem s24 : Sound PR 24 Sp24 := by
  refine sound_r PR_mixed sounds_nil monos_nil (own := own []) (ord := O24) (lh := H24) (fn := Go.Proofs.Tryz.f24) (by kernel_rfl) (by kernel_rfl) ?_
  rintro ⟨v, s⟩ args S ⟨rfl, hB, hl⟩
  rw [W24_eq]
  refine ⟨rfl, ?_⟩
  unfold W24
  dsimp only at hB hl ⊢
  simp only [ob_s, List.length, true_and, eq_self, Nat.zero_add, Nat.reduceLT, Nat.mul_one, hB.len, xmkslice]
  repeat' (refine And.intro (by omega) ?_)
  intro b hb ht
  have hB1 := hB.le (stle_setObj (St.le_refl S) hb (.cells ((List.range s.length).map fun i => [AV.int .u8 0].getD (i % 1) .dead)))
  simp only [Int.toNat_natCast] at *
  simp only [xcopy, hB1.news, ob_s, St.obj_setObj, if_true, ofBytes_ok, true_and, Nat.min_self, Nat.mul_one]
  refine ⟨by omega, by simp, ?_⟩
  have e1 : setList ((List.range s.length).map fun i => [AV.int .u8 0].getD (i % 1) .dead) 0 ((ofBytes s).take s.length) = ofBytes s := by
    rw [List.take_of_length_le (by simp)]
    exact setList_all _ _ (by simp)
  rw [setObj_setObj, e1]
  refine done_imp (bsl s .ro) S ?_ ⟨rfl, rfl⟩
  have hfz := Imp.freeze (S := S.setObj b (.cells (ofBytes s))) (b := b) (n := s.length) (sz := 1) (cap := some s.length) (cs := ofBytes s) (.inl (by simp)) (by simp)
  refine hfz.trans (Imp.le ?_ _)
  refine ⟨fun c o hc => ?_, fun c o hc => hc⟩
  have : c ≠ b := by rintro rfl; rw [hb] at hc; cases hc
  simp [this, hc]

def recO (rs : List (List UInt8 × Own)) : List AV := rs.map fun r => bsl r.1 r.2
theorem recO_ro (rs : List (List UInt8)) : recO (rs.map fun r => (r, Own.ro)) = recCells rs := by simp [recO, recCells]
def Sp27 : Spec := rspec (fun (x : List (List UInt8) × List (List UInt8 × Own) × Own × Own) args _ => args = [.slice (recCells x.1) x.1.length x.2.2.1, .slice (recO x.2.1) x.2.1.length x.2.2.2] ∧ x.1.length ≤ 1073741824 ∧ x.2.1.length ≤ 1073741824 ∧ (∀ r ∈ x.1, r.length ≤ 1073741824) ∧ (∀ r ∈ x.2.1, r.1.length ≤ 1073741824 ∧ (r.2 = .nil → r.1 = [])))
  fun x S v S' => v = .bool (decide (x.1 = x.2.1.map (·.1))) ∧ S' = S
theorem recO_at {rs : List (List UInt8 × Own)} {i : Nat} {r : List UInt8 × Own} (o : Own) (hr : rs[i]? = some r) : ∃ ad, xiaddr 1 (.slice (recO rs) rs.length o) (.int .i64 (i : Nat)) = some ad ∧ ∀ S, xload false 1 ad S = some (bsl r.1 r.2) := by
  have hi : i < rs.length := by
    rcases Nat.lt_or_ge i rs.length with h | h
    · exact h
    · rw [List.getElem?_eq_none h] at hr; cases hr
  refine ⟨_, k_iaddr_s _ _ _ _ _ _ ⟨by omega, by omega⟩, fun S => ?_⟩
  rw [Nat.mul_one, k_ref1, Int.toNat_natCast, recO, List.getElem?_map, hr]; rfl
theorem recCells_get (rs : List (List UInt8)) (i : Nat) : (recCells rs)[i]? = (rs[i]?).map fun r => bsl r .ro := by simp [recCells]
theorem rec_at {rs : List (List UInt8)} {i : Nat} {r : List UInt8} (o : Own) (hr : rs[i]? = some r) : ∃ ad, xiaddr 1 (.slice (recCells rs) rs.length o) (.int .i64 (i : Nat)) = some ad ∧ ∀ S, xload false 1 ad S = some (bsl r .ro) := by
  have hi : i < rs.length := by
    rcases Nat.lt_or_ge i rs.length with h | h
    · exact h
    · rw [List.getElem?_eq_none h] at hr; cases hr
  refine ⟨_, k_iaddr_s _ _ _ _ _ _ ⟨by omega, by omega⟩, fun S => ?_⟩
  rw [Nat.mul_one, k_ref1, Int.toNat_natCast, recCells_get, hr]; rfl
theorem s27 : Sound PR 27 Sp27 := by
  refine sound_r PR_mixed (sounds_cons s18 sounds_nil) (monos_cons (rspec_mono _ _) monos_nil) (own := own []) (ord := O27) (lh := H27) (fn := Go.Proofs.Tryz.f27) (by kernel_rfl) (by kernel_rfl) ?_
  rintro ⟨a, b0, o1, o2⟩ args S ⟨rfl, hl1, hl2, ha, hb⟩
  rw [W27_eq]
  refine ⟨rfl, ?_⟩
  unfold W27
  dsimp only at hl1 hl2 ha hb ⊢
  generalize hbb : b0.map (·.1) = b
  have hbl : b0.length = b.length := by rw [← hbb, List.length_map]
  simp only [ob_s, g, ne_eq, k_len_s, k_neq]
  refine asplit_of _ ?_ ?_
  · intro hne
    have : ¬ a = b := by rintro rfl; exact hne (by rw [hbl])
    refine done' ⟨by simp [this], rfl⟩
  · intro heq
    have hlen : a.length = b.length := by
      rcases Nat.lt_trichotomy a.length b.length with h | h | h
      · exact absurd (by omega) heq
      · exact h
      · exact absurd (by omega) heq
    refine aloop_inv (fun n l S' => S' = S ∧ ∃ i : Nat, i ≤ a.length ∧ n = a.length - i ∧ l = [.int .i64 i] ∧ a.take i = b.take i) a.length ⟨rfl, 0, by omega, by omega, rfl, by simp⟩ ?_
    rintro n _ S ⟨rfl, i, hi, rfl, rfl, hpre⟩ rec hrec
    simp only [ob_s, List.getD_cons_zero, k_add, k_lss]
    refine asplit_of _ ?_ ?_
    · intro hlt
      have hi1 : i < a.length := by omega
      have hi2 : i < b0.length := by omega
      have hi3 : i < b.length := by omega
      have hbi : b0[i].1 = b[i] := by simp [← hbb]
      have w1 : IntKind.i64.wrap ((i : Int) + 1) = ((i + 1 : Nat) : Int) := by rw [IntWalk.i64_in _ (by omega)]; omega
      obtain ⟨ad1, p1, p2⟩ := rec_at o1 (List.getElem?_eq_getElem hi1)
      obtain ⟨ad2, q1, q2⟩ := recO_at o2 (List.getElem?_eq_getElem hi2)
      simp only [ob_s, p1, p2, q1, q2]
      refine ccall_r (_, _, a[i], b0[i].1) ⟨rfl, .inl ⟨.ro, rfl, by simp⟩, .inl ⟨_, rfl, (hb _ (List.getElem_mem hi2)).2⟩, ha _ (List.getElem_mem hi1), (hb _ (List.getElem_mem hi2)).1⟩ ?_
      rintro _ S ⟨rfl, rfl⟩
      dsimp only
      rw [hbi]
      by_cases hc : a[i] = b[i]
      · simp only [ob_s, as_f, Bool.not_true, eq_self, decide_true, k_not, hc, w1]
        refine ⟨S, St.le_refl _, hrec (a.length - (i + 1)) _ _ (by omega) ⟨rfl, i + 1, by omega, rfl, rfl, ?_⟩⟩
        rw [List.take_succ_eq_append_getElem hi1, List.take_succ_eq_append_getElem hi3, hpre, hc]
      · have : ¬ a = b := by rintro rfl; exact hc rfl
        simp only [ob_s, as_t, Bool.not_false, decide_false, k_not, hc]
        refine done' ⟨by simp [this], rfl⟩
    · intro hge
      have hie : i = a.length := by omega
      subst hie
      have : a = b := by rw [List.take_length] at hpre; rw [hpre, hlen, List.take_length]
      refine done' ⟨by simp [this], rfl⟩

/-- A log of the reference. -/
structure LogR where
  base : List UInt8
  rs : List (List UInt8)
  safe : Nat
def LogV (l : LogR) (o1 o2 : Own) : List AV := [bsl l.base o1, .slice (recCells l.rs) l.rs.length o2, .int .i64 l.safe]
def LogOk (l : LogR) (o1 o2 : Own) : Prop := (o1 = .nil → l.base = []) ∧ (o2 = .nil → l.rs = []) ∧ l.base.length ≤ 1073741824 ∧ l.rs.length ≤ 1000000 ∧ (∀ r ∈ l.rs, r.length ≤ 1073741824) ∧ l.safe ≤ 1000000
def allowed (l : LogR) (b : List UInt8) (rs : List (List UInt8)) : Bool := decide (l.base = b) && (decide (l.safe ≤ rs.length) && (decide (rs.length ≤ l.rs.length) && decide (rs = l.rs.take rs.length)))
def Sp26 : Spec := rspec (fun (x : LogR × Own × Own × List UInt8 × Own × List (List UInt8) × Own) args _ => args = [.agg (LogV x.1 x.2.1 x.2.2.1), bsl x.2.2.2.1 x.2.2.2.2.1, .slice (recCells x.2.2.2.2.2.1) x.2.2.2.2.2.1.length x.2.2.2.2.2.2] ∧ LogOk x.1 x.2.1 x.2.2.1 ∧ (x.2.2.2.2.1 = .nil → x.2.2.2.1 = []) ∧ x.2.2.2.1.length ≤ 1073741824 ∧
    x.2.2.2.2.2.1.length ≤ 1073741824 ∧ ∀ r ∈ x.2.2.2.2.2.1, r.length ≤ 1073741824)
  fun x S v S' => v = .bool (allowed x.1 x.2.2.2.1 x.2.2.2.2.2.1) ∧ S' = S
theorem slice_recs (rs : List (List UInt8)) (n : Nat) (o : Own) (hn : n ≤ rs.length) (ho : o = .nil → rs = []) : ∃ o', xslice 1 (.slice (recCells rs) rs.length o) none (some (.int .i64 n)) none = some (.slice (recCells (rs.take n)) (rs.take n).length o') ∧ (o' = .nil → rs.take n = []) := by
  have hc : 0 ≤ ((0 : Nat) : Int) ∧ ((0 : Nat) : Int) ≤ (n : Nat) ∧ ((n : Nat) : Int) ≤ (rs.length : Nat) := ⟨by omega, by omega, by omega⟩
  by_cases h : o = .nil
  · have := ho h
    subst this
    have hn0 : n = 0 := by simpa using hn
    subst hn0
    refine ⟨.nil, ?_, fun _ => rfl⟩
    simp [xslice, xbound, h, recCells]
  · refine ⟨ownSub 1 o n rs.length none, ?_, fun hc => absurd hc (ownSub_ne h)⟩
    simp only [xslice, xbound]
    rw [if_pos hc]
    simp only [h, if_false]
    simp [recCells, Nat.min_eq_left hn]
theorem s26 : Sound PR 26 Sp26 := by
  refine sound_r PR_mixed (sounds_cons s18 (sounds_cons s27 sounds_nil)) (monos_cons (rspec_mono _ _) (monos_cons (rspec_mono _ _) monos_nil)) (own := own []) (ord := O26) (lh := H26) (fn := Go.Proofs.Tryz.f26) (by kernel_rfl) (by kernel_rfl) ?_
  rintro ⟨l, o1, o2, b, ob, rs, ol⟩ args S ⟨rfl, ⟨k1, k2, k3, k4, k5, k6⟩, hb1, hb2, hr1, hr2⟩
  rw [W26_eq]
  refine ⟨rfl, ?_⟩
  unfold W26
  dsimp only at k1 k2 k3 k4 k5 k6 hb1 hb2 hr1 hr2 ⊢
  simp only [xbox, k_cells_a, LogV, ob_s]
  refine ⟨rfl, ?_⟩
  intro q hq ht
  have hle := stle_setObj (St.le_refl S) hq (.cells [bsl l.base o1, .slice (recCells l.rs) l.rs.length o2, .int .i64 l.safe])
  simp only [ob_s, List.getElem?_cons_zero, St.obj_setObj, if_pos, eq_self, Nat.zero_add, Nat.add_zero, k_faddr_p, k_len_s, k_load_p, k_get1]
  refine ccall_r (_, _, l.base, b) ⟨rfl, .inl ⟨o1, rfl, k1⟩, .inl ⟨ob, rfl, hb1⟩, k3, hb2⟩ ?_
  rintro _ S1 ⟨rfl, rfl⟩
  dsimp only
  by_cases c1 : l.base = b
  · have d1 : decide (l.base = b) = true := decide_eq_true c1
    by_cases c2 : l.safe ≤ rs.length
    · by_cases c3 : rs.length ≤ l.rs.length
      · obtain ⟨o', e1, e2⟩ := slice_recs l.rs rs.length o2 c3 k2
        have c2' : ((rs.length : Nat) : Int) ≥ (l.safe : Nat) := by omega
        have c3' : ((rs.length : Nat) : Int) ≤ (l.rs.length : Nat) := by omega
        simp only [ob_s, gv_tt, pick_t, List.getElem?_cons_zero, List.getElem?_cons_succ, St.obj_setObj, if_pos, eq_self, decide_true, k_geq, k_len_s, k_leq, k_load_p, k_get1, d1, c2', c3', e1, gif]
        refine ccall_r (rs, (l.rs.take rs.length).map (fun r => (r, Own.ro)), ol, o') ⟨?_, hr1, by dsimp only; rw [List.length_map, List.length_take]; omega, hr2, fun r hr => ?_⟩ ?_
        · rw [recO_ro, List.length_map]
        · obtain ⟨r', hr', rfl⟩ := List.mem_map.1 hr
          exact ⟨k5 r' (List.mem_of_mem_take hr'), fun h => nomatch h⟩
        rintro _ S2 ⟨rfl, rfl⟩
        simp only []
        refine done S hle ⟨?_, rfl⟩
        have e : ((l.rs.take rs.length).map (fun r => (r, Own.ro))).map (·.1) = l.rs.take rs.length := by rw [List.map_map]; exact List.map_id _
        rw [e]
        simp [allowed, c1, c2, c3]
      · have c2' : ((rs.length : Nat) : Int) ≥ (l.safe : Nat) := by omega
        have c3' : ¬ ((rs.length : Nat) : Int) ≤ (l.rs.length : Nat) := by omega
        simp only [ob_s, gv_tt, gv_ft, pick_t, pick_f, List.getElem?_cons_zero, List.getElem?_cons_succ, St.obj_setObj, if_false, if_pos, eq_self, Bool.false_eq_true, decide_true, decide_false, k_geq, k_len_s, k_leq, k_load_p, k_get1, d1, c2', c3', gif]
        refine done S hle ⟨?_, rfl⟩
        simp [allowed, c1, c2, c3]
    · have c2' : ¬ ((rs.length : Nat) : Int) ≥ (l.safe : Nat) := by omega
      simp only [ob_s, gv_tt, gv_ft, pick_t, pick_f, List.getElem?_cons_zero, List.getElem?_cons_succ, St.obj_setObj, if_false, if_pos, eq_self, Bool.false_eq_true, decide_false, k_geq, k_load_p, k_get1, d1, c2', gif]
      refine done S hle ⟨?_, rfl⟩
      simp [allowed, c1, c2]
  · simp only [ob_s, gv_ft, pick_f, if_false, Bool.false_eq_true, decide_false, c1, gif]
    refine done S hle ⟨?_, rfl⟩
    simp [allowed, c1]
end Go.AM
/-
  The reference: Append, Sync.
-/
namespace Go.AM
open Go
set_option maxRecDepth 20000

def Sp22 : Spec := rspec (fun (x : LogR × Own × Own × AV × List UInt8) args S => args = [.agg (LogV x.1 x.2.1 x.2.2.1), x.2.2.2.1] ∧ LogOk x.1 x.2.1 x.2.2.1 ∧ Byt S x.2.2.2.1 x.2.2.2.2 ∧ x.2.2.2.2.length ≤ 1073741824)
  fun x S v S' => (∃ o, v = .agg (LogV { x.1 with rs := x.1.rs ++ [x.2.2.2.2] } x.2.1 o) ∧ o ≠ .nil) ∧ S' = S
theorem s22 : Sound PR 22 Sp22 := by
  refine sound_r PR_mixed (sounds_cons s24 sounds_nil) (monos_cons (rspec_mono _ _) monos_nil) (own := own []) (ord := O22) (lh := H22) (fn := Go.Proofs.Tryz.f22) (by kernel_rfl) (by kernel_rfl) ?_
  rintro ⟨l, o1, o2, v, r⟩ args S ⟨rfl, ⟨k1, k2, k3, k4, k5, k6⟩, hB, hr⟩
  rw [W22_eq]
  refine ⟨rfl, ?_⟩
  unfold W22
  dsimp only at k1 k2 k3 k4 k5 k6 hB hr ⊢
  simp only [xbox, k_cells_a, LogV, ob_s]
  refine ⟨rfl, ?_⟩
  intro q hq ht
  have hle1 := stle_setObj (St.le_refl S) hq (.cells [bsl l.base o1, .slice (recCells l.rs) l.rs.length o2, .int .i64 l.safe])
  simp only [xalloc]
  intro b hb htb
  have hqb : q ≠ b := by rintro rfl; simp at hb
  have hbq : b ≠ q := fun h => hqb h.symm
  have hle2 := stle_setObj hle1 (b := b) (by simp only [St.obj_setObj, if_neg hbq] at hb; exact hb) (.cells [.slice [] 0 .nil, .slice [] 0 .nil, .int .i64 0])
  generalize hS2 : ((S.setObj q (.cells [bsl l.base o1, .slice (recCells l.rs) l.rs.length o2, .int .i64 l.safe])).setObj b (.cells [.slice [] 0 .nil, .slice [] 0 .nil, .int .i64 0])) = S2 at hle2
  have hoq : S2.obj q = some (.cells [bsl l.base o1, .slice (recCells l.rs) l.rs.length o2, .int .i64 l.safe]) := by rw [← hS2]; simp [hqb]
  have hob : S2.obj b = some (.cells [.slice [] 0 .nil, .slice [] 0 .nil, .int .i64 0]) := by rw [← hS2]; simp
  simp only [ob_s, xbuild, xfill, xbslice, List.length, List.drop, List.getElem?_cons_zero, List.getElem?_cons_succ, St.obj_setObj, if_pos, and_true, eq_self, ne_eq, Nat.zero_add, Nat.add_zero, Nat.reduceAdd, Nat.reduceLeDiff, Nat.le_refl, k_faddr_p, k_load_p, k_store_p, k_get1, k_getn, hoq]
  refine app_tl (S0 := S2) (cs := []) (n := 0) (new := recCells l.rs) (m := l.rs.length) (by simp [xnews, recCells]) (by omega) (by simp [recCells]) (by simp only [recCells, List.all_map, List.all_eq_true]; intro x _; rfl) rfl (fun _ => rfl) (by omega) (by omega) ⟨St.le_refl _, .inl rfl⟩ ?_
  intro o3 S3 hS3 hT3 hn3
  have hoq3 : S3.obj q = _ := (congrFun hS3 q).trans hoq
  rw [List.nil_append, Nat.zero_add]
  simp only [ob_s, setList, List.set, List.length, List.length_cons, List.getElem?_cons_zero, List.getElem?_cons_succ, if_pos, and_true, true_and, eq_self, Nat.zero_add, Nat.reduceAdd, Nat.reduceLeDiff, k_cells_i, k_cells_bsl, hoq3]
  refine ccall_r (v, r) ⟨rfl, hB.le (St.le_trans hle2 hT3.1), hr⟩ ?_
  rintro _ S4 ⟨rfl, rfl⟩
  simp only [ob_s, setList, Option.map_some, List.set, List.length, List.getElem?_cons_zero, List.getElem?_cons_succ, if_pos, true_and, eq_self, Nat.zero_add, k_cells_bsl, hoq3]
  refine app_tl (S0 := S2) (cs := recCells l.rs) (n := l.rs.length) (new := [bsl r .ro]) (m := 1) (by simp [xnews]) (by omega) rfl rfl (by simp [recCells]) (fun h => by have := hn3 h; omega) (by omega) (by omega) hT3 ?_
  intro o5 S5 hS5 hT5 hn5
  have hoq5 : S5.obj q = _ := (congrFun hS5 q).trans hoq3
  have hob5 : S5.obj b = _ := (congrFun hS5 b).trans ((congrFun hS3 b).trans hob)
  have hS0b : S.obj b = none := by rw [← hS2] at *; simp only [St.obj_setObj, if_neg hbq] at hb; exact hb
  simp only [ob_s, setList, Option.map_some, List.set, List.length, List.length_cons, List.take, List.take_succ_cons, List.getElem?_cons_zero, List.getElem?_cons_succ, List.all, if_pos, true_and, Bool.and_self, eq_self, Nat.zero_add, Nat.reduceAdd, Nat.le_refl, k_cells_a, k_cells_sl, k_ok_i, k_ok_sl, k_ok_bsl, hoq5, hob5]
  refine done S (stle_setObj (St.le_trans hle2 hT5.1) hS0b _) ⟨⟨o5, ?_, fun h => by have := hn5 h; omega⟩, rfl⟩
  simp [recCells]
def Sp23 : Spec := rspec (fun (x : LogR × Own × Own) args _ => args = [.agg (LogV x.1 x.2.1 x.2.2)])
  fun x S v S' => v = .agg (LogV { x.1 with safe := x.1.rs.length } x.2.1 x.2.2) ∧ S' = S
theorem s23 : Sound PR 23 Sp23 := by
  refine sound_r PR_mixed sounds_nil monos_nil (own := own []) (ord := O23) (lh := H23) (fn := Go.Proofs.Tryz.f23) (by kernel_rfl) (by kernel_rfl) ?_
  rintro ⟨l, o1, o2⟩ args S rfl
  rw [W23_eq]
  refine ⟨rfl, ?_⟩
  unfold W23
  dsimp only
  simp only [xbox, k_cells_a, LogV, ob_s]
  refine ⟨rfl, ?_⟩
  intro q hq ht
  have hle1 := stle_setObj (St.le_refl S) hq (.cells [bsl l.base o1, .slice (recCells l.rs) l.rs.length o2, .int .i64 l.safe])
  simp only [xalloc]
  intro b hb htb
  have hqb : q ≠ b := by rintro rfl; simp at hb
  have hbq : b ≠ q := fun h => hqb h.symm
  simp only [St.obj_setObj, if_neg hbq] at hb
  simp only [ob_s, setList, xbuild, xfill, Option.map_some, List.set, List.length, List.length_cons, List.take, List.drop, List.take_succ_cons, List.getElem?_cons_zero, List.getElem?_cons_succ, List.all, St.obj_setObj, if_false, if_pos, and_true, true_and, Bool.and_self, eq_self, Nat.zero_add, Nat.add_zero, Nat.reduceAdd, Nat.reduceLeDiff, Nat.le_refl, k_cells_a, k_cells_i, k_cells_sl, k_faddr_p, k_len_s, k_load_p, k_ok_i, k_ok_sl, k_cells_bsl, k_ok_bsl, k_store_p, k_get1, k_getn, hqb]
  refine done S ?_ ⟨rfl, rfl⟩
  rw [setObj_setObj]
  exact stle_setObj hle1 hb _
end Go.AM
/-
  The plain law: what a crash leaves of a log.
-/
namespace Go.AM
open Go
set_option maxRecDepth 20000

abbrev Heads (base : List UInt8) (cs : List C) : Prop := ∃ c0 rest, cs = c0 :: rest ∧ c0.k = 0 ∧ c0.b = base ∧ ∀ c ∈ rest, c.k = 1 ∧ c.b = []
theorem Heads.last {base : List UInt8} {ini : List C} {la la' : C} (h : Heads base (ini ++ [la])) (hk : la'.k = la.k) (hb : la'.b = la.b) : Heads base (ini ++ [la']) := by
  obtain ⟨c0, rest, h1, h2, h3, h4⟩ := h
  cases ini with
  | nil =>
    simp only [List.nil_append, List.cons.injEq] at h1
    obtain ⟨rfl, rfl⟩ := h1
    exact ⟨la', [], rfl, hk.trans h2, hb.trans h3, by simp⟩
  | cons d ds =>
    simp only [List.cons_append, List.cons.injEq] at h1
    obtain ⟨rfl, rfl⟩ := h1
    refine ⟨d, ds ++ [la'], rfl, h2, h3, ?_⟩
    intro c hc
    rcases List.mem_append.1 hc with hc | hc
    · exact h4 c (by simp [hc])
    · simp at hc; subst hc
      have := h4 la (by simp)
      exact ⟨hk.trans this.1, hb.trans this.2⟩
theorem Heads.init {base : List UInt8} {ini : List C} {la : C} (h : Heads base (ini ++ [la])) (hn : ini ≠ []) : Heads base ini := by
  obtain ⟨c0, rest, h1, h2, h3, h4⟩ := h
  cases ini with
  | nil => exact absurd rfl hn
  | cons d ds =>
    simp only [List.cons_append, List.cons.injEq] at h1
    obtain ⟨rfl, rfl⟩ := h1
    exact ⟨d, ds, rfl, h2, h3, fun c hc => h4 c (by simp [hc])⟩
theorem Heads.snoc {base : List UInt8} {cs : List C} {c : C} (h : Heads base cs) (hk : c.k = 1) (hb : c.b = []) : Heads base (cs ++ [c]) := by
  obtain ⟨c0, rest, rfl, h2, h3, h4⟩ := h
  refine ⟨c0, rest ++ [c], rfl, h2, h3, ?_⟩
  intro d hd
  rcases List.mem_append.1 hd with hd | hd
  · exact h4 d hd
  · simp at hd; subst hd; exact ⟨hk, hb⟩
theorem Heads.ok {base : List UInt8} {cs : List C} (h : Heads base cs) (hb : base.length ≤ 60000) {c : C} (hc : c ∈ cs) : c.k ≤ 2 ∧ c.b.length ≤ 60000 := by
  obtain ⟨c0, rest, rfl, h2, h3, h4⟩ := h
  rcases List.mem_cons.1 hc with rfl | hc
  · rw [h2, h3]; exact ⟨by omega, hb⟩
  · have := h4 c hc; rw [this.1, this.2]; exact ⟨by omega, by simp⟩

/-! ## Beginnings of frames -/
def Front (d : List UInt8) : Prop := (∃ k s rest, d = frameB k s ++ rest ∧ k ≤ 2 ∧ s.length ≤ 60000) ∨ Partial d
theorem partial_nil : Partial [] := ⟨0, [], frameB 0 [], frameB_ne _ _, rfl, by omega, by simp⟩
theorem partial_take {k : Nat} {s : List UInt8} {m : Nat} (hk : k ≤ 2) (hs : s.length ≤ 60000) (hm : m < (frameB k s).length) : Partial ((frameB k s).take m) := by
  refine ⟨k, s, (frameB k s).drop m, ?_, List.take_append_drop _ _, hk, hs⟩
  intro h
  have := congrArg List.length h
  simp at this; omega
theorem Partial.take {d : List UInt8} (h : Partial d) (m : Nat) : Partial (d.take m) := by
  obtain ⟨k, s, t, h1, h2, h3⟩ := h
  refine ⟨k, s, d.drop m ++ t, by simp [h1], ?_, h3⟩
  rw [← List.append_assoc, List.take_append_drop, h2]
theorem Front.take {d : List UInt8} (h : Front d) (m : Nat) : Front (d.take m) := by
  rcases h with ⟨k, s, rest, rfl, hk, hs⟩ | h
  · rcases Nat.lt_or_ge m (frameB k s).length with hm | hm
    · right
      rw [List.take_append_of_le_length (by omega)]
      exact partial_take hk hs hm
    · left
      exact ⟨k, s, rest.take (m - (frameB k s).length), by rw [List.take_append, List.take_of_length_le hm], hk, hs⟩
  · exact .inr (h.take m)
/-- What is left of records. -/
theorem take_recs : ∀ (rs : List (List UInt8)) (m : Nat), (∀ r ∈ rs, r.length ≤ 60000) → m ≤ (recs rs).length → ∃ j tail, j ≤ rs.length ∧ (recs rs).take m = recs (rs.take j) ++ tail ∧ Partial tail ∧ ∀ i, i ≤ rs.length → (recs (rs.take i)).length ≤ m → i ≤ j
  | [], m, _, _ => ⟨0, [], by simp, by simp [recs], partial_nil, fun i hi _ => hi⟩
  | r :: rs, m, h, hm => by
    have e : recs (r :: rs) = frameB 2 r ++ recs rs := by simp [recs]
    have hr := h r (by simp)
    rcases Nat.lt_or_ge m (frameB 2 r).length with hlt | hge
    · refine ⟨0, (frameB 2 r).take m, by simp, ?_, partial_take (by omega) hr hlt, ?_⟩
      · rw [e, List.take_append_of_le_length (by omega)]; simp [recs]
      · intro i hi hle
        cases i with
        | zero => simp
        | succ i =>
          have e2 : recs ((r :: rs).take (i + 1)) = frameB 2 r ++ recs (rs.take i) := by simp [recs]
          rw [e2, List.length_append] at hle; omega
    · obtain ⟨j, tail, h1, h2, h3, h4⟩ := take_recs rs (m - (frameB 2 r).length) (fun x hx => h x (by simp [hx])) (by rw [e, List.length_append] at hm; omega)
      refine ⟨j + 1, tail, by simp; omega, ?_, h3, ?_⟩
      · have e2 : recs ((r :: rs).take (j + 1)) = frameB 2 r ++ recs (rs.take j) := by simp [recs]
        rw [e, e2, List.take_append, List.take_of_length_le hge, h2, List.append_assoc]
      · intro i hi hle
        cases i with
        | zero => omega
        | succ i =>
          have e2 : recs ((r :: rs).take (i + 1)) = frameB 2 r ++ recs (rs.take i) := by simp [recs]
          rw [e2, List.length_append] at hle
          have := h4 i (by simp at hi; omega) (by omega)
          omega

/-- The chain of a log, of which so many records are safe. -/
structure Ch (fl : List F) (l : LogR) (a : Nat) (ini : List C) (la : C) : Prop where
  fl : fl = chainF a (ini ++ [la])
  heads : Heads l.base (ini ++ [la])
  base : l.base.length ≤ 60000
  recs : ∀ c ∈ ini ++ [la], ∀ r ∈ c.rs, r.length ≤ 60000
  full : ∀ c ∈ ini, c.tail = [] ∧ c.s = c.d.length
  tail : la.tail = []
  rs : l.rs = (ini ++ [la]).flatMap (·.rs)
  safe : ∃ i, i ≤ la.rs.length ∧ l.safe ≤ (ini.flatMap (·.rs)).length + i ∧ (ini = [] ∨ 0 < i → (la.hd ++ Go.AM.recs (la.rs.take i)).length ≤ la.s)
/-- A log at rest. -/
def Rest (fl : List F) (base : List UInt8) (rs : List (List UInt8)) : Prop := ∃ gs a ini la xs, Shape fl gs a base ini la xs ∧ rs = (ini ++ [la]).flatMap (·.rs)
def AllS (fl : List F) : Prop := ∀ f ∈ fl, f.s = f.d.length

theorem cut1_full {f : F} (hd : f.d ≠ []) (hs : f.s = f.d.length) : cut1 f.d.length f = some f := by
  simp only [cut1, List.take_length, if_neg hd]
  rw [← hs]
theorem C.d_ne (c : C) : c.d ≠ [] := by
  intro h
  simp only [C.d, C.good, List.append_eq_nil_iff] at h
  exact frameB_ne _ _ h.1.1
theorem trunc_chain {κ : Nat → Nat} : ∀ (a : Nat) (cs : List C), (∀ c ∈ cs, c.s = c.d.length) → (∀ f ∈ chainF a cs, f.s ≤ κ f.n ∧ κ f.n ≤ f.d.length) → truncL κ (chainF a cs) = chainF a cs
  | _, [], _, _ => rfl
  | a, c :: cs, h, hk => by
    have h1 := h c (by simp)
    have h2 := hk ⟨a, c.d, c.s⟩ (by simp [chainF])
    dsimp only at h2
    have h3 : κ a = c.d.length := by omega
    have ih := trunc_chain (a + 1) cs (fun d hd => h d (by simp [hd])) (fun f hf => hk f (by simp [chainF, hf]))
    simp only [truncL, chainF, List.filterMap_cons, h3] at ih ⊢
    rw [cut1_full (f := ⟨a, c.d, c.s⟩) c.d_ne h1]
    dsimp only
    rw [ih]
theorem trunc_append (κ : Nat → Nat) (a b : List F) : truncL κ (a ++ b) = truncL κ a ++ truncL κ b := by simp [truncL]
theorem trunc_allS {κ : Nat → Nat} {fl : List F} (h : ∀ f ∈ fl, κ f.n ≤ f.d.length) : AllS (truncL κ fl) := by
  intro f hf
  obtain ⟨g, hg, hgf⟩ := List.mem_filterMap.1 hf
  simp only [cut1] at hgf
  split at hgf
  · cases hgf
  · simp at hgf; subst hgf
    have := h g hg
    simp [Nat.min_eq_left this]
theorem trunc_front {κ : Nat → Nat} {fl : List F} (h : ∀ f ∈ fl, Front f.d) : ∀ f ∈ truncL κ fl, Front f.d := by
  intro f hf
  obtain ⟨g, hg, hgf⟩ := List.mem_filterMap.1 hf
  simp only [cut1] at hgf
  split at hgf
  · cases hgf
  · simp at hgf; subst hgf
    exact (h g hg).take _
theorem chain_front {base : List UInt8} (hb : base.length ≤ 60000) : ∀ (a : Nat) (cs : List C), (∀ c ∈ cs, c.k ≤ 2 ∧ c.b.length ≤ 60000) → ∀ f ∈ chainF a cs, Front f.d
  | _, [], _, f, hf => by simp [chainF] at hf
  | a, c :: cs, h, f, hf => by
    simp only [chainF, List.mem_cons] at hf
    rcases hf with rfl | hf
    · have := h c (by simp)
      exact .inl ⟨c.k, c.b, recs c.rs ++ c.tail, by simp [C.d, C.good, C.hd], this.1, this.2⟩
    · exact chain_front hb (a + 1) cs (fun d hd => h d (by simp [hd])) f hf

/-- A chain behind a crash, and what is behind it. -/
theorem Ch.trunc {fl : List F} {l : LogR} {a : Nat} {ini : List C} {la : C} (h : Ch fl l a ini la) {κ : Nat → Nat} (hk : ∀ f ∈ fl, f.s ≤ κ f.n ∧ κ f.n ≤ f.d.length) {ys : List F} (hys : ∀ y ∈ ys, Partial y.d) :
    ∃ j, l.safe ≤ j ∧ j ≤ l.rs.length ∧ Rest (truncL κ fl ++ ys) l.base (l.rs.take j) := by
  obtain ⟨i, hi, hsafe, hcond⟩ := h.safe
  have hfl := h.fl
  rw [chainF_append] at hfl
  have hini : truncL κ (chainF a ini) = chainF a ini := trunc_chain a ini (fun c hc => (h.full c hc).2) fun f hf => hk f (by rw [hfl]; simp [hf])
  have hla := hk ⟨a + ini.length, la.d, la.s⟩ (by rw [hfl]; simp [chainF])
  dsimp only at hla
  generalize hm : κ (a + ini.length) = m at hla
  have htl : truncL κ fl = chainF a ini ++ (if la.d.take m = [] then [] else [⟨a + ini.length, la.d.take m, m⟩]) := by
    rw [hfl, trunc_append, hini]
    congr 1
    simp only [chainF, truncL, List.filterMap_cons, List.filterMap_nil, cut1, hm]
    split <;> rename_i hc <;> split at hc <;> simp_all
  have hlad : la.d = la.hd ++ Go.AM.recs la.rs := by simp [C.d, C.good, h.tail]
  have hrs : l.rs = ini.flatMap (·.rs) ++ la.rs := by rw [h.rs]; simp
  have hhdok := h.heads.ok h.base (c := la) (by simp)
  rcases Nat.lt_or_ge m la.hd.length with hlt | hge
  · -- the last file is lost
    have hne : ini ≠ [] := by
      intro hc
      have := hcond (.inl hc)
      rw [List.length_append] at this; omega
    have hi0 : i = 0 := by
      rcases Nat.eq_zero_or_pos i with h0 | h0
      · exact h0
      · have := hcond (.inr h0)
        rw [List.length_append] at this; omega
    subst hi0
    obtain ⟨ini', lb, rfl⟩ : ∃ ini' lb, ini = ini' ++ [lb] := ⟨ini.dropLast, ini.getLast hne, (List.dropLast_concat_getLast hne).symm⟩
    have hpart : Partial (la.d.take m) := by
      rw [hlad, List.take_append_of_le_length (by omega)]
      exact partial_take hhdok.1 hhdok.2 hlt
    refine ⟨((ini' ++ [lb]).flatMap (·.rs)).length, by omega, by rw [hrs]; simp, ?_⟩
    refine ⟨[], a, ini', lb, (if la.d.take m = [] then [] else [⟨a + (ini' ++ [lb]).length, la.d.take m, m⟩]) ++ ys, ⟨?_, h.heads.init hne, h.base, ?_, ?_, ?_, by simp, ?_⟩, ?_⟩
    · rw [htl]; simp
    · intro c hc; exact h.recs c (by simp only [List.mem_append] at hc ⊢; exact .inl hc)
    · intro c hc; exact h.full c (by simp [hc])
    · rw [(h.full lb (by simp)).1]; exact partial_nil
    · intro x hx
      rcases List.mem_append.1 hx with hx | hx
      · split at hx
        · cases hx
        · simp at hx; subst hx; exact hpart
      · exact hys x hx
    · rw [hrs, List.take_left]
  · -- some of its records
    have hm2 : m - la.hd.length ≤ (Go.AM.recs la.rs).length := by rw [hlad, List.length_append] at hla; omega
    obtain ⟨j, tail, h1, h2, h3, h4⟩ := take_recs la.rs (m - la.hd.length) (h.recs la (by simp)) hm2
    have htk : la.d.take m = la.hd ++ Go.AM.recs (la.rs.take j) ++ tail := by
      rw [hlad, List.take_append, List.take_of_length_le hge, h2, List.append_assoc]
    have hne : ¬ la.d.take m = [] := by
      rw [htk]; intro hc
      simp only [List.append_eq_nil_iff] at hc
      exact frameB_ne _ _ hc.1.1
    rw [if_neg hne] at htl
    have hij : i ≤ j := by
      rcases Nat.eq_zero_or_pos i with h0 | h0
      · omega
      · refine h4 i hi ?_
        have := hcond (.inr h0)
        rw [List.length_append] at this; omega
    refine ⟨(ini.flatMap (·.rs)).length + j, by omega, by rw [hrs]; simp; omega, ?_⟩
    refine ⟨[], a, ini, { la with rs := la.rs.take j, tail := tail, s := m }, ys, ⟨?_, h.heads.last rfl rfl, h.base, ?_, h.full, h3, by simp, hys⟩, ?_⟩
    · rw [htl, chainF_append, htk]; simp [chainF, C.d, C.good, C.hd]
    · intro c hc r hr
      rcases List.mem_append.1 hc with hc | hc
      · exact h.recs c (by simp [hc]) r hr
      · simp at hc; subst hc
        exact h.recs la (by simp) r (List.mem_of_mem_take hr)
    · rw [hrs, List.take_append, List.take_of_length_le (by omega), Nat.add_sub_cancel_left]; simp
end Go.AM
/-
  The plain law: what the calls make of a log.
-/
namespace Go.AM
open Go
set_option maxRecDepth 20000

def sumF (fl : List F) : Nat := (fl.map (·.d.length)).sum
theorem used_eq (D : DS) : D.used = sumF D.fl := rfl
theorem sumF_append (a b : List F) : sumF (a ++ b) = sumF a + sumF b := by simp [sumF]
theorem sumF_cons (f : F) (b : List F) : sumF (f :: b) = f.d.length + sumF b := by simp [sumF]
theorem sumF_nil : sumF [] = 0 := rfl
/-- A log that can be written to. -/
structure Live (D : DS) (W : WalS) (l : LogR) (N U : Nat) : Prop where
  ch : ∃ a ini la, Ch D.fl l a ini la ∧ 0 < a ∧ a + ini.length ≤ N ∧ W.num = a + ini.length ∧ W.size = la.good.length
  count : W.count = l.rs.length
  dead : W.dead = false
  down : D.down = false
  used : D.used ≤ U

section
variable {fl : List F} {l : LogR} {a : Nat} {ini : List C} {la : C}
theorem Ch.le (h : Ch fl l a ini la) : l.safe ≤ l.rs.length := by
  obtain ⟨i, h1, h2, _⟩ := h.safe
  rw [h.rs, List.flatMap_append, List.length_append]
  simp only [List.flatMap_cons, List.flatMap_nil, List.append_nil]
  omega
theorem Ch.dgood (h : Ch fl l a ini la) : la.d = la.good := by simp [C.d, h.tail]
theorem Ch.split (h : Ch fl l a ini la) : fl = chainF a ini ++ ⟨a + ini.length, la.good, la.s⟩ :: [] := by
  rw [h.fl, chainF_append]
  simp [chainF, h.dgood]
/-- It is synced. -/
theorem Ch.syn (h : Ch fl l a ini la) {k : Nat} (hk : k ≤ l.rs.length) : Ch (chainF a ini ++ ⟨a + ini.length, la.good, la.good.length⟩ :: []) { l with safe := k } a ini { la with s := la.good.length } := by
  refine ⟨?_, h.heads.last rfl rfl, h.base, ?_, h.full, h.tail, ?_, la.rs.length, Nat.le_refl _, ?_, ?_⟩
  · rw [chainF_append]
    have : ({ la with s := la.good.length } : C).d = la.good := h.dgood
    simp [chainF, this]
  · intro c hc r hr
    rcases List.mem_append.1 hc with hc | hc
    · exact h.recs c (by simp [hc]) r hr
    · simp at hc; subst hc; exact h.recs la (by simp) r hr
  · rw [h.rs]; simp
  · have h2 := congrArg List.length h.rs
    rw [List.flatMap_append, List.length_append] at h2
    simp only [List.flatMap_cons, List.flatMap_nil, List.append_nil] at h2
    dsimp only
    omega
  · intro _
    simp only [List.take_length]
    exact Nat.le_refl _
/-- A record more. -/
theorem Ch.more (h : Ch fl l a ini la) {r : List UInt8} (hr : r.length ≤ 60000) : Ch (chainF a ini ++ ⟨a + ini.length, la.good ++ frameB 2 r, la.s⟩ :: []) { l with rs := l.rs ++ [r] } a ini { la with rs := la.rs ++ [r] } ∧ ({ la with rs := la.rs ++ [r] } : C).good = la.good ++ frameB 2 r := by
  have hg : ({ la with rs := la.rs ++ [r] } : C).good = la.good ++ frameB 2 r := by simp [C.good, C.hd, recs_append, recs_one]
  refine ⟨⟨?_, h.heads.last rfl rfl, h.base, ?_, h.full, h.tail, ?_, ?_⟩, hg⟩
  · rw [chainF_append]
    have : ({ la with rs := la.rs ++ [r] } : C).d = la.good ++ frameB 2 r := by rw [← hg]; simp [C.d, h.tail]
    simp [chainF, this]
  · intro c hc s hs
    rcases List.mem_append.1 hc with hc | hc
    · exact h.recs c (by simp [hc]) s hs
    · simp at hc; subst hc
      rcases List.mem_append.1 hs with hs | hs
      · exact h.recs la (by simp) s hs
      · simp at hs; subst hs; exact hr
  · rw [h.rs]; simp
  · obtain ⟨i, h1, h2, h3⟩ := h.safe
    refine ⟨i, by simp; omega, h2, fun hc => ?_⟩
    have := h3 hc
    have e : (la.rs ++ [r]).take i = la.rs.take i := List.take_append_of_le_length h1
    simp only [e]
    exact this
/-- A file more. -/
theorem Ch.roll (h : Ch fl l a ini la) (hs : la.s = la.d.length) : Ch (fl ++ [⟨a + ini.length + 1, frameB 1 [], 0⟩]) l a (ini ++ [la]) ⟨1, [], [], [], 0⟩ := by
  have hle := h.le
  refine ⟨?_, h.heads.snoc rfl rfl, h.base, ?_, ?_, rfl, ?_, 0, by simp, ?_, ?_⟩
  · rw [h.fl, chainF_append (cs := ini ++ [la])]
    simp [chainF, C.d, C.good, C.hd, Go.AM.recs, Nat.add_assoc]
  · intro c hc s hs'
    rcases List.mem_append.1 hc with hc | hc
    · exact h.recs c hc s hs'
    · simp at hc; subst hc; simp at hs'
  · intro c hc
    rcases List.mem_append.1 hc with hc | hc
    · exact h.full c hc
    · simp at hc; subst hc; exact ⟨h.tail, hs⟩
  · rw [h.rs]; simp
  · rw [← h.rs]; omega
  · intro hc
    rcases hc with hc | hc
    · simp at hc
    · omega
end

variable {D : DS} {W : WalS} {l : LogR} {N U : Nat}
theorem Live.lt_end (h : Live D W l N U) : ∀ x ∈ D.fl, x.n < W.num + 1 := by
  obtain ⟨a, ini, la, hc, _, _, hn, _⟩ := h.ch
  intro x hx
  have key : ∀ (a : Nat) (cs : List C), ∀ x ∈ chainF a cs, x.n < a + cs.length := by
    intro a cs
    induction cs generalizing a with
    | nil => simp [chainF]
    | cons c cs ih =>
      intro x hx
      simp only [chainF, List.mem_cons] at hx
      rcases hx with rfl | hx
      · simp
      · have := ih (a + 1) x hx; simp; omega
  have := key a (ini ++ [la]) x (by rw [← hc.fl]; exact hx)
  rw [hn]; simp at this; omega
/-- What is left where the power goes out in a call. -/
structure Lost (D D' : DS) (l : LogR) : Prop where
  room : D'.room = D.room
  armed : D'.armed = D.armed
  was : D.armed = true
  down : D'.down = true
  ch : ∃ a ini la, Ch D'.fl l a ini la
theorem Out.lost {D D' : DS} {fl : List F} (h : Out D D' fl) (hc : ∃ a ini la, Ch fl l a ini la) : Lost D D' l := ⟨h.room, h.armed, h.was, h.down, by rw [h.fl]; exact hc⟩
theorem live_syn (h : Live D W l N U) (hs : Sorted D.fl) : ((D.syn W.num).1 = 0 ∧ Live (D.syn W.num).2 W { l with safe := l.rs.length } N U ∧ (D.syn W.num).2.room = D.room ∧ (D.syn W.num).2.armed = D.armed) ∨
    ((D.syn W.num).1 = 9 ∧ Lost D (D.syn W.num).2 l) := by
  obtain ⟨a, ini, la, hc, ha, hN, hn, hsz⟩ := h.ch
  have hsp := hc.split
  have hne : la.good ≠ [] := by rw [← hc.dgood]; exact la.d_ne
  rw [hn]
  rcases syn_mid (g := ⟨a + ini.length, la.good, la.s⟩) hsp hne hs h.down with ⟨e1, e2⟩ | ⟨e1, e2⟩
  · left
    dsimp only at e1 e2
    refine ⟨e1, ⟨⟨a, ini, { la with s := la.good.length }, ?_, ha, hN, hn, hsz⟩, h.count, h.dead, e2.down, ?_⟩, e2.room, e2.armed⟩
    · rw [e2.fl]; exact hc.syn (Nat.le_refl _)
    · have := h.used
      rw [used_eq, hsp] at this
      rw [used_eq, e2.fl]
      simp only [sumF_append, sumF_cons] at this ⊢
      exact this
  · exact .inr ⟨e1, e2.lost ⟨a, ini, la, hc⟩⟩
theorem live_roll (h : Live D W l N U) (hs : Sorted D.fl) (hr : U + 14 ≤ D.room) :
    ((D.roll W).1 = 0 ∧ ((∃ a ini la, (Ch (D.roll W).2.2.fl l a ini la ∧ 0 < a ∧ a + ini.length ≤ N + 1 ∧ (D.roll W).2.1.num = a + ini.length ∧ (D.roll W).2.1.size = la.good.length) ∧ (W.size ≥ W.most → la.s = 0 ∧ la.rs = [])) ∧
        (D.roll W).2.1.count = l.rs.length ∧ (D.roll W).2.1.dead = false ∧ (D.roll W).2.2.down = false ∧ (D.roll W).2.2.used ≤ U + 14) ∧ (D.roll W).2.2.room = D.room ∧ (D.roll W).2.2.armed = D.armed ∧ Sorted (D.roll W).2.2.fl) ∨ ((D.roll W).1 = 9 ∧ Lost D (D.roll W).2.2 l) := by
  unfold DS.roll
  by_cases hge : W.size ≥ W.most
  · rw [if_pos hge]
    obtain ⟨a, ini, la, hc, ha, hN, hn, hsz⟩ := h.ch
    have hsp := hc.split
    have hne : la.good ≠ [] := by rw [← hc.dgood]; exact la.d_ne
    have hfl1 := frame_len 1 [] (by omega) (by simp)
    rcases syn_mid (g := ⟨a + ini.length, la.good, la.s⟩) hsp hne hs h.down with ⟨e1, e2⟩ | ⟨e1, e2⟩
    · dsimp only at e1 e2
      rw [hn]
      rw [if_neg (by simpa using e1)]
      generalize (D.syn (a + ini.length)).2 = D1 at e2
      have hc1 := hc.syn (k := l.safe) hc.le
      rw [← e2.fl] at hc1
      have hs1 : Sorted D1.fl := by
        rw [e2.fl]
        rw [hsp] at hs
        refine List.pairwise_append.2 ⟨(List.pairwise_append.1 hs).1, by simp, fun x hx y hy => ?_⟩
        simp at hy; subst hy; exact hs.lt.1 x hx
      have hend : ∀ x ∈ D1.fl, x.n < a + ini.length + 1 := by
        have := h.lt_end
        rw [hn, hsp] at this
        rw [e2.fl]
        intro x hx
        rcases List.mem_append.1 hx with hx | hx
        · exact this x (by simp [hx])
        · simp at hx; subst hx; simp
      have hu1 : D1.used = D.used := by rw [used_eq, used_eq, e2.fl, hsp]; simp [sumF_append, sumF_cons]
      have hu := h.used
      have hr1 : D1.used + (frameB 1 []).length ≤ D1.room := by rw [hu1, e2.room]; simp at hfl1; omega
      rcases app_end hend (frameB_ne 1 []) e2.down hr1 with ⟨k1, k2⟩ | ⟨k1, k2⟩
      · left
        rw [if_neg (by simpa using k1)]
        have k3 := e2.trans k2
        refine ⟨rfl, ⟨⟨a, ini ++ [{ la with s := la.good.length }], ⟨1, [], [], [], 0⟩, ⟨?_, ha, by simp; omega, by simp; omega, ?_⟩, fun _ => ⟨rfl, rfl⟩⟩, h.count, h.dead, k3.down, ?_⟩, k3.room, k3.armed, ?_⟩
        · rw [k3.fl]
          have := hc1.roll (by show la.good.length = ({ la with s := la.good.length } : C).d.length; have : ({ la with s := la.good.length } : C).d = la.good := hc.dgood; rw [this])
          exact this
        · simp [C.good, C.hd, recs]
        · rw [used_eq, k3.fl, sumF_append, sumF_cons, sumF_nil, ← used_eq, hu1]
          simp at hfl1
          dsimp only
          omega
        · rw [k3.fl]
          refine List.pairwise_append.2 ⟨hs1, by simp, fun x hx y hy => ?_⟩
          simp at hy; subst hy; exact hend x hx
      · right
        rw [if_pos (by rw [k1]; omega)]
        exact ⟨k1, (e2.out k2).lost ⟨a, ini, _, by simpa using hc1⟩⟩
    · dsimp only at e1 e2
      right
      rw [hn]
      rw [if_pos (by rw [e1]; omega)]
      exact ⟨e1, e2.lost ⟨a, ini, la, hc⟩⟩
  · rw [if_neg hge]
    left
    obtain ⟨a, ini, la, hc, ha, hN, hn, hsz⟩ := h.ch
    exact ⟨rfl, ⟨⟨a, ini, la, ⟨hc, ha, by omega, hn, hsz⟩, fun hh => absurd hh hge⟩, h.count, h.dead, h.down, by have := h.used; show D.used ≤ _; omega⟩, rfl, rfl, hs⟩
theorem Lost.from {D D1 D2 : DS} (h : Lost D1 D2 l) (hr : D1.room = D.room) (ha : D1.armed = D.armed) : Lost D D2 l := ⟨h.room.trans hr, h.armed.trans ha, ha ▸ h.was, h.down, h.ch⟩
theorem live_put (h : Live D W l N U) (hs : Sorted D.fl) {r : List UInt8} (hr : r.length ≤ 60000) (hroom : U + r.length + 28 ≤ D.room) :
    ((D.put W r).1 = 0 ∧ Live (D.put W r).2.2 (D.put W r).2.1 { l with rs := l.rs ++ [r] } (N + 1) (U + r.length + 28) ∧ (D.put W r).2.2.room = D.room ∧ (D.put W r).2.2.armed = D.armed ∧
        (W.size ≥ W.most → ∃ a ini la, Ch (D.put W r).2.2.fl { l with rs := l.rs ++ [r] } a ini la ∧ la.s = 0 ∧ la.rs = [r])) ∨ ((D.put W r).1 = 9 ∧ Lost D (D.put W r).2.2 l) := by
  have hfl2 := frame_len 2 r (by omega) hr
  unfold DS.put
  rcases live_roll h hs (by omega) with ⟨e1, e2, e3, e4, e5⟩ | ⟨e1, e2⟩
  · rw [if_neg (by simpa using e1)]
    generalize D.roll W = x at e1 e2 e3 e4 e5
    obtain ⟨_, W1, D1⟩ := x
    dsimp only at e2 e3 e4 e5 ⊢
    obtain ⟨⟨a, ini, la, ⟨hc, ha, hN, hn, hsz⟩, hrolled⟩, hcount, hdead, hdown, hu⟩ := e2
    have hsp := hc.split
    rw [hn]
    rcases app_mid (g := ⟨a + ini.length, la.good, la.s⟩) (d := frameB 2 r) hsp (frameB_ne 2 r) e5 hdown (by omega) with ⟨k1, k2⟩ | ⟨k1, k2⟩
    · left
      dsimp only at k1 k2
      rw [if_pos k1]
      obtain ⟨c1, c2⟩ := hc.more hr
      refine ⟨rfl, ⟨⟨a, ini, { la with rs := la.rs ++ [r] }, by rw [k2.fl]; exact c1, ha, hN, rfl, ?_⟩, ?_, hdead, k2.down, ?_⟩, k2.room.trans e3, k2.armed.trans e4, fun hh => ⟨a, ini, { la with rs := la.rs ++ [r] }, by rw [k2.fl]; exact c1, (hrolled hh).1, by simp [(hrolled hh).2]⟩⟩
      · rw [c2, List.length_append, hsz]; simp
      · dsimp only
        rw [hcount]; simp
      · rw [used_eq, k2.fl]
        rw [used_eq, hsp] at hu
        simp only [sumF_append, sumF_cons, sumF_nil, List.length_append] at hu ⊢
        omega
    · right
      dsimp only at k1 k2
      rw [if_neg (by rw [k1]; omega)]
      exact ⟨k1, (k2.lost ⟨a, ini, la, hc⟩).from e3 e4⟩
  · rw [if_pos (by rw [e1]; omega)]
    exact .inr ⟨e1, e2⟩
end Go.AM
/-
  The plain law: a checkpoint, an opening, a crash.
-/
namespace Go.AM
open Go
set_option maxRecDepth 20000
variable {ks : List Int} {D D' : DS} {W : WalS} {l : LogR} {N U : Nat}

theorem Live.front (h : Live D W l N U) : ∀ f ∈ D.fl, Front f.d := by
  obtain ⟨a, ini, la, hc, _⟩ := h.ch
  rw [hc.fl]
  exact chain_front hc.base a _ fun c hcm => hc.heads.ok hc.base hcm
/-- What is left of a checkpoint in which the power goes out. -/
structure Broke (D D' : DS) (l : LogR) (b : List UInt8) : Prop where
  room : D'.room = D.room
  armed : D'.armed = D.armed
  was : D.armed = true
  down : D'.down = true
  fl : (∃ a ini la, Ch D'.fl l a ini la) ∨ (∃ a ini la fl n, Ch fl l a ini la ∧ D'.fl = fl ++ [⟨n, frameB 0 b, 0⟩]) ∨ (∃ fl n, (∀ f ∈ fl, Front f.d) ∧ D'.fl = fl ++ [⟨n, frameB 0 b, (frameB 0 b).length⟩])
theorem live_begin (h : Live D W l N U) (hs : Sorted D.fl) {b : List UInt8} (hb : b.length ≤ 60000) (hroom : U + b.length + 14 ≤ D.room) :
    ((D.begin (W.num + 1) b).1 = 0 ∧ Live (D.begin (W.num + 1) b).2 { W with num := W.num + 1, size := (frameB 0 b).length, count := 0 } ⟨b, [], 0⟩ (N + 1) (U + b.length + 14) ∧ (D.begin (W.num + 1) b).2.room = D.room ∧ (D.begin (W.num + 1) b).2.armed = D.armed) ∨
    ((D.begin (W.num + 1) b).1 = 9 ∧ Broke D (D.begin (W.num + 1) b).2 l b) := by
  obtain ⟨a, ini, la, hc, ha, hN, hn, hsz⟩ := h.ch
  have hfl0 := frame_len 0 b (by omega) hb
  have hu := h.used
  have hlt := h.lt_end
  rcases begin_cases b hlt hs h.down (by omega) with ⟨e1, e2⟩ | ⟨e1, e2⟩
  · left
    refine ⟨e1, ⟨⟨W.num + 1, [], ⟨0, b, [], [], (frameB 0 b).length⟩, ⟨?_, ⟨_, [], rfl, rfl, rfl, by simp⟩, hb, by simp, by simp, rfl, rfl, 0, by simp, by simp, ?_⟩, by omega, ?_, ?_, ?_⟩, rfl, h.dead, e2.down, ?_⟩, e2.room, e2.armed⟩
    · rw [e2.fl]; simp [chainF, C.d, C.good, C.hd, recs]
    · intro _; simp [C.hd, recs]
    · simp; omega
    · simp
    · simp [C.good, C.hd, recs]
    · rw [used_eq, e2.fl, sumF_cons, sumF_nil]; dsimp only; omega
  · right
    refine ⟨e1, ?_⟩
    have hfr := h.front
    rcases e2 with e2 | e2 | ⟨x, y, hxy, e2⟩
    · exact ⟨e2.room, e2.armed, e2.was, e2.down, .inl ⟨a, ini, la, by rw [e2.fl]; exact hc⟩⟩
    · exact ⟨e2.room, e2.armed, e2.was, e2.down, .inr (.inl ⟨a, ini, la, D.fl, W.num + 1, hc, e2.fl⟩)⟩
    · exact ⟨e2.room, e2.armed, e2.was, e2.down, .inr (.inr ⟨y, W.num + 1, fun f hf => hfr f (by rw [hxy]; simp [hf]), e2.fl⟩)⟩
/-- A log that is opened for the first time. -/
theorem live_fresh {name : List UInt8} {most : Int} (hfl : D.fl = []) (hd : D.down = false) (hroom : 14 ≤ D.room) :
    ((D.begin 1 []).1 = 0 ∧ Live (D.begin 1 []).2 ⟨name, most, 1, (frameB 0 []).length, 0, false⟩ ⟨[], [], 0⟩ 1 14 ∧ (D.begin 1 []).2.room = D.room ∧ (D.begin 1 []).2.armed = D.armed) ∨ ((D.begin 1 []).1 = 9 ∧ D.armed = true) := by
  have hfl0 := frame_len 0 [] (by omega) (by simp)
  have hl0 : ([] : List UInt8).length = 0 := rfl
  have hu : D.used = 0 := by rw [used_eq, hfl]; rfl
  rcases begin_cases (n := 1) [] (by rw [hfl]; simp) (by rw [hfl]; simp) hd (by omega) with ⟨e1, e2⟩ | ⟨e1, e2⟩
  · left
    refine ⟨e1, ⟨⟨1, [], ⟨0, [], [], [], (frameB 0 []).length⟩, ⟨?_, ⟨_, [], rfl, rfl, rfl, by simp⟩, by simp, by simp, by simp, rfl, rfl, 0, by simp, by simp, ?_⟩, by omega, ?_, ?_, ?_⟩, rfl, rfl, e2.down, ?_⟩, e2.room, e2.armed⟩
    · rw [e2.fl]; simp [chainF, C.d, C.good, C.hd, recs]
    · intro _; simp [C.hd, recs]
    · simp
    · simp
    · simp [C.good, C.hd, recs]
    · rw [used_eq, e2.fl, sumF_cons, sumF_nil]; dsimp only; omega
  · right
    refine ⟨e1, ?_⟩
    rcases e2 with e2 | e2 | ⟨_, _, _, e2⟩ <;> exact e2.was

/-- A disk on which a log rests. -/
structure Still (D : DS) (base : List UInt8) (rs : List (List UInt8)) (N U : Nat) : Prop where
  rest : Rest D.fl base rs
  num : ∀ f ∈ D.fl, f.n ≤ N
  used : D.used ≤ U
  down : D.down = false
theorem Live.rest (h : Live D W l N U) : Rest D.fl l.base l.rs := by
  obtain ⟨a, ini, la, hc, _⟩ := h.ch
  exact ⟨[], a, ini, la, [], ⟨by rw [hc.fl]; simp, hc.heads, hc.base, hc.recs, hc.full, by rw [hc.tail]; exact partial_nil, by simp, by simp⟩, hc.rs⟩
theorem Live.num_le (h : Live D W l N U) : ∀ f ∈ D.fl, f.n ≤ N := by
  obtain ⟨a, ini, la, hc, ha, hN, hn, _⟩ := h.ch
  intro f hf
  have := h.lt_end f hf
  rw [hn] at this; omega
theorem Live.still (h : Live D W l N U) : Still D l.base l.rs N U := ⟨h.rest, h.num_le, h.used, h.down⟩
theorem sumF_trunc {κ : Nat → Nat} {fl : List F} : sumF (truncL κ fl) ≤ sumF fl := by
  induction fl with
  | nil => exact Nat.le_refl _
  | cons f fl ih =>
    have e : truncL κ (f :: fl) = truncL κ [f] ++ truncL κ fl := trunc_append κ [f] fl
    rw [e, sumF_append, sumF_cons]
    have : sumF (truncL κ [f]) ≤ f.d.length := by
      simp only [truncL, List.filterMap_cons, List.filterMap_nil, cut1]
      split <;> rename_i hc <;> split at hc <;> simp_all [sumF]
      subst hc; simp; omega
    omega
theorem mem_trunc {κ : Nat → Nat} {fl : List F} {f : F} (h : f ∈ truncL κ fl) : ∃ g ∈ fl, g.n = f.n := by
  obtain ⟨g, hg, hgf⟩ := List.mem_filterMap.1 h
  refine ⟨g, hg, ?_⟩
  simp only [cut1] at hgf
  split at hgf
  · cases hgf
  · simp at hgf; subst hgf; rfl
theorem Crashed.still {base : List UInt8} {rs : List (List UInt8)} (hc : Crashed ks D D') (hr : Rest D'.fl base rs) (hn : ∀ f ∈ D.fl, f.n ≤ N) (hu : D.used ≤ U) : Still D' base rs N U := by
  obtain ⟨κ, k1, k2, _⟩ := hc.keep
  refine ⟨hr, ?_, ?_, hc.down⟩
  · intro f hf
    rw [k1] at hf
    obtain ⟨g, hg, he⟩ := mem_trunc hf
    have := hn g hg; omega
  · rw [used_eq, k1]
    exact Nat.le_trans sumF_trunc hu
theorem Crashed.allS (hc : Crashed ks D D') : AllS D'.fl := by
  obtain ⟨κ, k1, k2, _⟩ := hc.keep
  rw [k1]
  exact trunc_allS fun f hf => (k2 f hf).2
theorem live_crash (h : Live D W l N U) (hc : Crashed ks D D') : ∃ j, l.safe ≤ j ∧ j ≤ l.rs.length ∧ Still D' l.base (l.rs.take j) N U ∧ AllS D'.fl := by
  obtain ⟨a, ini, la, hch, _⟩ := h.ch
  obtain ⟨κ, k1, k2, _⟩ := hc.keep
  obtain ⟨j, h1, h2, h3⟩ := hch.trunc k2 (ys := []) (by simp)
  rw [List.append_nil, ← k1] at h3
  exact ⟨j, h1, h2, hc.still h3 h.num_le h.used, hc.allS⟩
/-- Of a synced disk a crash takes nothing. -/
theorem crash_id (hs : AllS D.fl) (hne : ∀ f ∈ D.fl, f.d ≠ []) (hc : Crashed ks D D') : D'.fl = D.fl := by
  obtain ⟨κ, k1, k2, _⟩ := hc.keep
  rw [k1]
  have key : ∀ fl : List F, AllS fl → (∀ f ∈ fl, f.d ≠ []) → (∀ f ∈ fl, f.s ≤ κ f.n ∧ κ f.n ≤ f.d.length) → truncL κ fl = fl := by
    intro fl
    induction fl with
    | nil => intros; rfl
    | cons f fl ih =>
      intro a1 a2 a3
      have b1 := a1 f (by simp)
      have b3 := a3 f (by simp)
      have e : κ f.n = f.d.length := by omega
      have ih := ih (fun g hg => a1 g (by simp [hg])) (fun g hg => a2 g (by simp [hg])) (fun g hg => a3 g (by simp [hg]))
      simp only [truncL, List.filterMap_cons, e] at ih ⊢
      rw [cut1_full (a2 f (by simp)) b1]
      dsimp only
      rw [ih]
  exact key _ hs hne k2
end Go.AM
/-
  The plain law: what an opening leaves; a checkpoint that was cut off, behind a crash.
-/
namespace Go.AM
open Go
set_option maxRecDepth 20000
variable {ks : List Int} {D D' : DS} {W : WalS} {l : LogR} {N U : Nat} {gs xs : List F} {a : Nat} {base : List UInt8} {ini : List C} {la : C}

theorem flat_len (ini : List C) (la : C) : ((ini ++ [la]).flatMap (·.rs)).length = (ini.flatMap (·.rs)).length + la.rs.length := by
  rw [List.flatMap_append, List.length_append]
  simp only [List.flatMap_cons, List.flatMap_nil, List.append_nil]
theorem opened_fl (a : Nat) (ini : List C) (la : C) : chainF a (ini ++ [{ la with tail := [], s := la.good.length }]) = chainF a ini ++ [⟨a + ini.length, la.good, la.good.length⟩] := by
  rw [chainF_append]; simp [chainF, C.d, C.good, C.hd]
theorem opened {name : List UInt8} {most : Int} (h : Shape D.fl gs a base ini la xs) (hn : ∀ f ∈ D.fl, 0 < f.n ∧ f.n ≤ N) (hu : D.used ≤ U) (hok : Ok D D' (chainF a (ini ++ [{ la with tail := [], s := la.good.length }]))) :
    Live D' ⟨name, most, (a + ini.length : Nat), (la.good.length : Nat), (((ini ++ [la]).flatMap (·.rs)).length : Nat), false⟩ ⟨base, (ini ++ [la]).flatMap (·.rs), ((ini ++ [la]).flatMap (·.rs)).length⟩ N U ∧ AllS D'.fl := by
  have hfl2 : D.fl = gs ++ (chainF a ini ++ ⟨a + ini.length, la.d, la.s⟩ :: xs) := by rw [h.fl, chainF_append]; simp [chainF]
  have hlast := hn ⟨a + ini.length, la.d, la.s⟩ (by rw [hfl2]; simp)
  have hfirst : 0 < a := by
    cases ini with
    | nil => simpa using hlast.1
    | cons c cs => exact (hn ⟨a, c.d, c.s⟩ (by rw [hfl2]; simp [chainF])).1
  have hd' : ({ la with tail := [], s := la.good.length } : C).d = la.good := by simp [C.d, C.good, C.hd]
  refine ⟨⟨⟨a, ini, { la with tail := [], s := la.good.length }, ⟨?_, Heads.last h.heads rfl rfl, h.base, ?_, h.full, rfl, ?_, la.rs.length, Nat.le_refl _, ?_, ?_⟩, hfirst, hlast.2, rfl, rfl⟩, rfl, rfl, hok.down, ?_⟩, ?_⟩
  · exact hok.fl
  · intro c hc r hr
    rcases List.mem_append.1 hc with hc | hc
    · exact h.recs c (by simp [hc]) r hr
    · simp at hc; subst hc; exact h.recs la (by simp) r hr
  · simp
  · rw [flat_len]; exact Nat.le_refl _
  · intro _
    simp only [List.take_length]
    exact Nat.le_refl _
  · rw [used_eq, hok.fl, opened_fl, sumF_append, sumF_cons, sumF_nil]
    rw [used_eq, hfl2] at hu
    simp only [sumF_append, sumF_cons] at hu
    have : la.d.length = la.good.length + la.tail.length := by simp [C.d]
    dsimp only
    omega
  · rw [hok.fl, opened_fl]
    intro f hf
    rcases List.mem_append.1 hf with hf | hf
    · have key : ∀ (a : Nat) (cs : List C), (∀ c ∈ cs, c.s = c.d.length) → AllS (chainF a cs) := by
        intro a cs
        induction cs generalizing a with
        | nil => intro _ f hf; simp [chainF] at hf
        | cons c cs ih =>
          intro hc f hf
          simp only [chainF, List.mem_cons] at hf
          rcases hf with rfl | hf
          · exact hc c (by simp)
          · exact ih (a + 1) (fun d hd => hc d (by simp [hd])) f hf
      exact key a ini (fun c hc => (h.full c hc).2) f hf
    · simp at hf; subst hf; rfl
theorem open_failed (h : Shape D.fl gs a base ini la xs) {gs' xs' : List F} {la' : C} (hout : Out D D' (gs' ++ (chainF a (ini ++ [la']) ++ xs'))) (hg : gs' <+: gs) (hx : xs' <:+ xs)
    (hla : la' = la ∨ ∃ s', la' = { la with tail := [], s := s' } ∧ (la.s = la.d.length → s' = la.good.length)) : Rest D'.fl base ((ini ++ [la]).flatMap (·.rs)) ∧ (AllS D.fl → AllS D'.fl) := by
  have hk : la'.k = la.k ∧ la'.b = la.b ∧ la'.rs = la.rs ∧ Partial la'.tail ∧ (la.s = la.d.length → la'.s = la'.d.length) := by
    rcases hla with rfl | ⟨s', rfl, hs⟩
    · exact ⟨rfl, rfl, rfl, h.tail, id⟩
    · refine ⟨rfl, rfl, rfl, partial_nil, fun hh => ?_⟩
      have hd' : ({ la with tail := [], s := s' } : C).d = la.good := by simp [C.d, C.good, C.hd]
      rw [hd']; exact hs hh
  refine ⟨⟨gs', a, ini, la', xs', ⟨hout.fl, Heads.last h.heads hk.1 hk.2.1, h.base, ?_, h.full, hk.2.2.2.1, fun g hgm => h.ahead g (hg.subset hgm), fun x hxm => h.behind x (hx.subset hxm)⟩, ?_⟩, ?_⟩
  · intro c hc r hr
    rcases List.mem_append.1 hc with hc | hc
    · exact h.recs c (by simp [hc]) r hr
    · simp at hc; subst hc; rw [hk.2.2.1] at hr; exact h.recs la (by simp) r hr
  · simp [hk.2.2.1]
  · intro hall f hf
    rw [hout.fl, chainF_append] at hf
    have hfl := h.fl
    rw [chainF_append] at hfl
    rcases List.mem_append.1 hf with hf | hf
    · exact hall f (by rw [hfl]; simp [hg.subset hf])
    · rcases List.mem_append.1 hf with hf | hf
      · rcases List.mem_append.1 hf with hf | hf
        · exact hall f (by rw [hfl]; simp [hf])
        · simp [chainF] at hf; subst hf
          have := hall ⟨a + ini.length, la.d, la.s⟩ (by rw [hfl]; simp [chainF])
          exact hk.2.2.2.2 this
      · exact hall f (by rw [hfl]; simp [hx.subset hf])
theorem lost_crash {D1 : DS} (h : Lost D D1 l) (hc : Crashed ks D1 D') : ∃ j, l.safe ≤ j ∧ j ≤ l.rs.length ∧ Rest D'.fl l.base (l.rs.take j) := by
  obtain ⟨a, ini, la, hch⟩ := h.ch
  obtain ⟨κ, k1, k2, _⟩ := hc.keep
  obtain ⟨j, h1, h2, h3⟩ := hch.trunc k2 (ys := []) (by simp)
  rw [List.append_nil, ← k1] at h3
  exact ⟨j, h1, h2, h3⟩
theorem new_rest {fl : List F} {n s : Nat} {b : List UInt8} (hb : b.length ≤ 60000) (hf : ∀ f ∈ fl, Front f.d) : Rest (fl ++ [⟨n, frameB 0 b, s⟩]) b [] := by
  refine ⟨fl, n, [], ⟨0, b, [], [], s⟩, [], ⟨?_, ⟨_, [], rfl, rfl, rfl, by simp⟩, hb, by simp, by simp, partial_nil, hf, by simp⟩, by simp⟩
  simp [chainF, C.d, C.good, C.hd, recs]
theorem broke_crash {D1 : DS} {b : List UInt8} (h : Broke D D1 l b) (hb : b.length ≤ 60000) (hc : Crashed ks D1 D') : (∃ j, l.safe ≤ j ∧ j ≤ l.rs.length ∧ Rest D'.fl l.base (l.rs.take j)) ∨ Rest D'.fl b [] := by
  obtain ⟨κ, k1, k2, _⟩ := hc.keep
  have hne := frameB_ne 0 b
  rcases h.fl with ⟨a, ini, la, hch⟩ | ⟨a, ini, la, fl, n, hch, hfl⟩ | ⟨fl, n, hfr, hfl⟩
  · left
    obtain ⟨j, h1, h2, h3⟩ := hch.trunc k2 (ys := []) (by simp)
    rw [List.append_nil, ← k1] at h3
    exact ⟨j, h1, h2, h3⟩
  · rw [hfl] at k1 k2
    have hm := k2 ⟨n, frameB 0 b, 0⟩ (by simp)
    dsimp only at hm
    rw [trunc_append] at k1
    by_cases hfull : κ n = (frameB 0 b).length
    · right
      have e : truncL κ [⟨n, frameB 0 b, 0⟩] = [⟨n, frameB 0 b, (frameB 0 b).length⟩] := by
        simp only [truncL, List.filterMap_cons, List.filterMap_nil, cut1, hfull, List.take_length, if_neg hne]
      rw [k1, e]
      refine new_rest hb (trunc_front ?_)
      rw [hch.fl]
      exact chain_front hch.base a _ fun c hcm => hch.heads.ok hch.base hcm
    · left
      have hp : ∀ y ∈ truncL κ [⟨n, frameB 0 b, 0⟩], Partial y.d := by
        intro y hy
        simp only [truncL, List.filterMap_cons, List.filterMap_nil, cut1] at hy
        split at hy <;> rename_i hc <;> split at hc
        · cases hy
        · cases hc
        · cases hc
        · simp at hc hy; subst hc; subst hy
          exact partial_take (by omega) hb (by omega)
      obtain ⟨j, h1, h2, h3⟩ := hch.trunc (fun f hf => k2 f (by simp [hf])) hp
      rw [← k1] at h3
      exact ⟨j, h1, h2, h3⟩
  · right
    rw [hfl] at k1 k2
    have hm := k2 ⟨n, frameB 0 b, (frameB 0 b).length⟩ (by simp)
    dsimp only at hm
    have hfull : κ n = (frameB 0 b).length := by omega
    rw [trunc_append] at k1
    have e : truncL κ [⟨n, frameB 0 b, (frameB 0 b).length⟩] = [⟨n, frameB 0 b, (frameB 0 b).length⟩] := by
      simp only [truncL, List.filterMap_cons, List.filterMap_nil, cut1, hfull, List.take_length, if_neg hne]
    rw [k1, e]
    exact new_rest hb (trunc_front hfr)
end Go.AM
/-
  The law's own functions: a play in the heap; open.
-/
namespace Go.AM
open Go
set_option maxRecDepth 20000
variable {R R' S S' : St} {p w x q : Nat} {W W' : WalS} {D D' : DS} {name : List UInt8} {K E : AV → St → Prop} {l : LogR} {most : Int}

theorem WkAt.frame {o : AObj} (h : WkAt R S w p W D) (hq : S.obj q = none) : WkAt (R.setObj q o) (S.setObj q o) w p W D := by
  have hwq : w ≠ q := by rintro rfl; rw [h.obj] at hq; cases hq
  obtain ⟨h1, P, h2, h3⟩ := h
  refine ⟨by simp [hwq, h1], P, ?_, h3⟩
  rw [setObj_comm _ hwq.symm]
  exact h2.frame (stle_setObj (St.le_refl _) hq _) (by simp) hq
theorem WkAt.both {c : AObj} (h : WkAt (R.setObj x c) S w p W D) (c' : AObj) : WkAt (R.setObj x c') (S.setObj x c') w p W D := by
  obtain ⟨h1, P, h2, h3⟩ := h
  have hxw : w ≠ x := by rintro rfl; simp at h1
  refine ⟨by simpa [hxw] using h1, P, ?_, h3⟩
  rw [setObj_comm _ hxw.symm] at h2 ⊢
  exact h2.both _
def playC (p w : Nat) (name : List UInt8) (most : Int) (l : LogR) (o1 o2 : Own) : List AV := [.ptr (some (p, 0)), .ptr (some (w, 0)), .str (bstr name), .int .i64 most, bsl l.base o1, .slice (recCells l.rs) l.rs.length o2, .int .i64 l.safe]
/-- A play. -/
def PlayAt (R S : St) (x p w : Nat) (most : Int) (l : LogR) (W : WalS) (D : DS) : Prop := R.obj x = none ∧ ∃ o1 o2, LogOk l o1 o2 ∧ WkAt (R.setObj x (.cells (playC p w W.name most l o1 o2))) S w p W D
theorem PlayAt.weaken (h : PlayAt R' S x p w most l W D) (hl : R.le R') : PlayAt R S x p w most l W D := by
  obtain ⟨h1, o1, o2, h2, h3⟩ := h
  exact ⟨stle_obj hl h1, o1, o2, h2, h3.weaken (stle_both hl _ _)⟩
theorem PlayAt.frame {o : AObj} (h : PlayAt R S x p w most l W D) (hq : S.obj q = none) : PlayAt (R.setObj q o) (S.setObj q o) x p w most l W D := by
  obtain ⟨h1, o1, o2, h2, h3⟩ := h
  have hxq : x ≠ q := by
    rintro rfl
    have := h3.rle.1 x _ (by simp; rfl)
    rw [hq] at this; cases this
  refine ⟨by simp [hxq, h1], o1, o2, h2, ?_⟩
  rw [setObj_comm _ hxq.symm]
  exact h3.frame hq
theorem PlayAt.rle (h : PlayAt R S x p w most l W D) : R.le S := by
  obtain ⟨h1, o1, o2, h2, h3⟩ := h
  exact St.le_trans (stle_setObj (St.le_refl _) h1 _) h3.rle
theorem goodArg_of (h : DkAt R S p name D) : 1 ≤ name.length ∧ name.length ≤ 32 := let ⟨_, _, h⟩ := h; h.nm

/-- open. -/
structure XPl where
  R : St
  x : Nat
  p : Nat
  w : Nat
  most : Int
  l : LogR
  W : WalS
  D : DS
  N : Nat
  U : Nat
  rs : List (List UInt8)
def Sp28 : Spec := rspec (fun (y : XPl) args S => args = [.ptr (some (y.x, 0))] ∧ PlayAt y.R S y.x y.p y.w y.most y.l y.W y.D ∧ 1 ≤ y.most ∧ y.most ≤ 1048576 ∧ y.D.armed = false ∧ Still y.D y.l.base y.rs y.N y.U ∧ y.rs.length ≤ y.l.rs.length ∧ y.l.safe ≤ y.rs.length ∧ y.rs = y.l.rs.take y.rs.length)
  fun y _ v S' => v = .bool true ∧ ∃ w' W' D', PlayAt y.R S' y.x y.p w' y.most ⟨y.l.base, y.rs, y.rs.length⟩ W' D' ∧ W'.name = y.W.name ∧ Live D' W' ⟨y.l.base, y.rs, y.rs.length⟩ y.N y.U ∧ D'.room = y.D.room ∧ D'.armed = false
theorem s28 : Sound PR 28 Sp28 := by
  refine sound_r PR_mixed (sounds_cons s11 (sounds_cons s15 (sounds_cons s24 (sounds_cons s26 sounds_nil)))) (monos_cons (rspec_mono _ _) (monos_cons (rspec_mono _ _) (monos_cons (rspec_mono _ _) (monos_cons (rspec_mono _ _) monos_nil)))) (own := own []) (ord := O28) (lh := H28) (fn := Go.Proofs.Tryz.f28) (by kernel_rfl) (by kernel_rfl) ?_
  rintro ⟨R, x, p, w, most, l, W, D, N, U, rs⟩ args S ⟨rfl, ⟨hRx, o1, o2, hlog, hwk⟩, hm1, hm2, harm, hst, hr1, hr2, hr3⟩
  rw [W28_eq]
  refine ⟨rfl, ?_⟩
  unfold W28
  dsimp only at hRx hlog hwk hm1 hm2 harm hst hr1 hr2 hr3 ⊢
  have hx : S.obj x = some (.cells (playC p w W.name most l o1 o2)) := hwk.rle.1 x _ (by simp)
  simp only [ob_s, xbuild, xfill, List.length, List.getElem?_cons_zero, List.getElem?_cons_succ, St.obj_setObj, if_pos, and_true, eq_self, Nat.zero_add, Nat.add_zero, Nat.reduceAdd, Nat.reduceLeDiff, k_faddr_p, k_load_p, k_nilck_p, k_store_p, k_get1, hx, playC]
  obtain ⟨gs, a, ini, la, xs, hsh, hrs⟩ := hst.rest
  refine ccall_r (XOp.shape (R.setObj x (.cells (playC p w W.name most l o1 o2))) p D W.name most gs a l.base ini la xs) ⟨rfl, hwk.plate, hm1, hm2, hst.down, hsh⟩ ?_
  rintro v S1 (⟨w', ow, D', rfl, h1, h2⟩ | ⟨_, _, _, _, _, _, h3, _⟩)
  rotate_left
  · rw [h3.was] at harm; cases harm
  have hsm := hwk.small
  obtain ⟨hlive, _⟩ := opened (name := W.name) (most := most) hsh (fun f hf => ⟨(hsm f hf).1, hst.num f hf⟩) hst.used h2
  rw [← hrs] at h1 hlive ⊢
  have hx1 : S1.obj x = some (.cells (playC p w W.name most l o1 o2)) := h1.rle.1 x _ (by simp)
  have hfewr : rs.length ≤ 1000000 := by have := hlog.2.2.2.1; omega
  have z0 : ((0 : Nat) : Int) = 0 := rfl
  simp only [playC] at hx1
  simp only [ob_s, gv_ff, pick_f, setList, List.length, List.take, List.drop, List.take_succ_cons, List.getElem?_cons_zero, List.getElem?_cons_succ, List.all, if_false, if_pos, true_and, Bool.and_self, Bool.not_false, eq_self, ne_eq, not_true, Nat.zero_add, Nat.reduceAdd, Nat.le_refl, Option.isNone_some, Bool.false_eq_true, decide_false, k_cells_i, k_cells_p, k_extract, k_faddr_p, k_gif_b, k_isnil, k_len_s, k_load_p, k_neq, k_nilck_p, k_nilp_p, k_ok_p, k_getn, z0, hx1]
  refine ccall_r (l, o1, o2, l.base, Own.ro, rs, ow) ⟨rfl, hlog, (fun h => nomatch h), hlog.2.2.1, (show rs.length ≤ 1073741824 by omega), fun r hr => ?_⟩ ?_
  · rw [hr3] at hr; exact hlog.2.2.2.2.1 r (List.mem_of_mem_take hr)
  rintro _ S2 ⟨rfl, rfl⟩
  have hall : allowed l l.base rs = true := by
    simp only [allowed, decide_true, Bool.true_and, Bool.and_eq_true, decide_eq_true_eq]
    exact ⟨hr2, hr1, hr3⟩
  dsimp only
  rw [hall]
  simp only [ob_s, gv_ff, pick_f, if_pos, Bool.not_true, eq_self, k_len_s, k_not, gif]
  refine ccall_r (_, w', p, _, D') ⟨rfl, h1⟩ ?_
  rintro _ S3 ⟨rfl, rfl⟩
  dsimp only
  obtain ⟨o', e1, e2⟩ := slice_recs l.rs rs.length o2 hr1 hlog.2.1
  rw [← hr3] at e1 e2
  simp only [ob_s, as_f, setList, List.set, List.length, List.getElem?_cons_zero, List.getElem?_cons_succ, true_and, eq_self, ne_eq, not_true, Nat.zero_add, Nat.reduceAdd, Nat.reduceLeDiff, decide_false, k_cells_sl, k_neq, hx1, e1]
  refine ccall_r (_, l.base) ⟨rfl, .inl ⟨.ro, rfl, fun h => nomatch h⟩, hlog.2.2.1⟩ ?_
  rintro _ S4 ⟨rfl, rfl⟩
  simp only [ob_s, setList, Option.map_some, List.set, List.length, List.length_cons, List.getElem?_cons_zero, List.getElem?_cons_succ, List.all, St.obj_setObj, if_pos, true_and, Bool.and_self, eq_self, Nat.zero_add, Nat.reduceAdd, Nat.reduceLeDiff, Nat.le_refl, k_cells_a, k_ok_i, k_ok_sl, k_cells_bsl, k_ok_bsl, hx1, setObj_setObj]
  refine done' ⟨rfl, w', _, D', ⟨hRx, .ro, o', ⟨(fun h => nomatch h), e2, hlog.2.2.1, hfewr, ?_, hfewr⟩, h1.both _⟩, rfl, hlive, h2.room, h2.armed.trans harm⟩
  intro r hr
  rw [hr3] at hr; exact hlog.2.2.2.2.1 r (List.mem_of_mem_take hr)
end Go.AM
/-
  The law's own functions: begun; a script's bytes.
-/
namespace Go.AM
open Go
set_option maxRecDepth 20000
variable {R R' S S' : St} {p w x q : Nat} {W W' : WalS} {D D' : DS} {name : List UInt8} {K E : AV → St → Prop} {l : LogR} {most : Int}

/-- The most that a file has, of any int. -/
theorem most_of (n : Int) : ∃ m : Int, 1 ≤ m ∧ m ≤ 2000 ∧ xbini .rem (.int .u64 (IntKind.u64.wrap n)) (.int .u64 2000) = some (.int .u64 (m - 1)) := by
  have h := IntKind.wrap_u64 n
  have h1 : 0 ≤ IntKind.u64.wrap n := by omega
  refine ⟨(IntKind.u64.wrap n).tmod 2000 + 1, ?_, ?_, ?_⟩
  · rw [Int.tmod_eq_emod_of_nonneg h1]; omega
  · rw [Int.tmod_eq_emod_of_nonneg h1]; omega
  · simp [xbini, xint]
def Sp7 : Spec := rspec (fun (y : St × Nat × List UInt8 × Int × DS) args S => args = [.ptr (some (y.2.1, 0)), .str (bstr y.2.2.1), .int .i64 y.2.2.2.1] ∧ DkAt y.1 S y.2.1 y.2.2.1 y.2.2.2.2 ∧ y.2.2.2.2.fl = [] ∧ y.2.2.2.2.down = false ∧ y.2.2.2.2.armed = false ∧ 14 ≤ y.2.2.2.2.room)
  fun y _ v S' => ∃ x w W D' m, v = .ptr (some (x, 0)) ∧ PlayAt y.1 S' x y.2.1 w m ⟨[], [], 0⟩ W D' ∧ W.name = y.2.2.1 ∧ 1 ≤ m ∧ m ≤ 2000 ∧ Live D' W ⟨[], [], 0⟩ 1 14 ∧ D'.room = y.2.2.2.2.room ∧ D'.armed = false
theorem s7 : Sound PR 7 Sp7 := by
  refine sound_r PR_mixed (sounds_cons s11 sounds_nil) (monos_cons (rspec_mono _ _) monos_nil) (own := own []) (ord := O7) (lh := H7) (fn := Go.Proofs.Tryz.f7) (by kernel_rfl) (by kernel_rfl) ?_
  rintro ⟨R, p, name, n, D⟩ args S ⟨rfl, hD, hfl, hdown, harm, hroom⟩
  rw [W7_eq]
  refine ⟨rfl, ?_⟩
  unfold W7
  dsimp only at hD hfl hdown harm hroom ⊢
  obtain ⟨m, hm1, hm2, hrem⟩ := most_of n
  have w1 : IntKind.i64.wrap (m - 1) = m - 1 := IntWalk.i64_in _ (by omega)
  have w2 : IntKind.i64.wrap (1 + (m - 1)) = m := by rw [IntWalk.i64_in _ (by omega)]; omega
  simp only [ob_s, setList, xbuild, xfill, List.set, List.length, List.length_cons, if_pos, and_self, and_true, true_and, eq_self, Nat.zero_add, Nat.reduceAdd, Nat.reduceLeDiff, k_add, k_cells_i, k_cells_p, k_cells_s, k_conv, hrem, w1, w2]
  refine ccall_r (XOp.fresh R p D name m) ⟨rfl, hD, hm1, by omega, hdown, hfl⟩ ?_
  rintro v S1 (⟨he, w, rfl, h1⟩ | ⟨he, _⟩)
  rotate_left
  · rcases live_fresh (name := name) (most := m) hfl hdown hroom with ⟨h, _⟩ | ⟨_, h⟩
    · exact absurd h he
    · rw [harm] at h; cases h
  rcases live_fresh (name := name) (most := m) hfl hdown hroom with ⟨_, h2, h3, h4⟩ | ⟨_, h⟩
  rotate_left
  · rw [harm] at h; cases h
  have z0 : ((0 : Nat) : Int) = 0 := rfl
  have w3 : IntKind.i64.wrap (((0 : Nat) : Int) + ((0 : Nat) : Int)) = 0 := by rw [IntWalk.i64_in _ (by omega)]; rfl
  have w3' : IntKind.i64.wrap ((0 : Int) + 0) = 0 := by rw [IntWalk.i64_in _ (by omega)]; rfl
  have g00 : ¬ ((0 : Int) > 0) := by omega
  simp only [ob_s, as_f, gv_ff, pick_f, setList, Option.map_some, List.set, List.length, List.length_cons, List.getElem?_cons_zero, List.getElem?_cons_succ, if_false, if_pos, true_and, Bool.not_false, eq_self, ne_eq, not_true, Nat.zero_add, Nat.reduceAdd, Nat.reduceLeDiff, Option.isNone_some, Bool.false_eq_true, decide_false, k_add, k_cells_a, k_cells_p, k_extract, k_gtr, k_isnil, k_len_s, k_neq, k_nilp_p, z0, w3', g00, xbox]
  intro x hx ht
  refine done' ⟨x, w, _, _, m, rfl, ⟨?_, .nil, .nil, ⟨fun _ => rfl, fun _ => rfl, by simp, by simp, by simp, by simp⟩, h1.frame hx⟩, rfl, hm1, hm2, h2, h3, h4.trans harm⟩
  exact stle_obj h1.rle hx

/-- A step. -/
structure StepS where
  kind : Int
  b : List UInt8
  ob : Own
  keeps : List Int
  ok : Own
def stepC (s : StepS) : List AV := [.int .i64 s.kind, bsl s.b s.ob, .slice (s.keeps.map avI) s.keeps.length s.ok]
def StepS.Ok (s : StepS) : Prop := (s.ob = .nil → s.b = []) ∧ s.b.length ≤ 9223372036854775807 ∧ s.keeps.length ≤ 9223372036854775807
def scriptV (ss : List StepS) (o : Own) : AV := .slice (ss.flatMap stepC) ss.length o
theorem script_at {ss : List StepS} {i : Nat} {s : StepS} (o : Own) (hs : ss[i]? = some s) : xiaddr 3 (scriptV ss o) (.int .i64 (i : Nat)) = some (.ref (stepC s)) := by
  have hi : i < ss.length := by
    rcases Nat.lt_or_ge i ss.length with h | h
    · exact h
    · rw [List.getElem?_eq_none h] at hs; cases hs
  have key : ∀ (ss : List StepS) (i : Nat) (s : StepS), ss[i]? = some s → ((ss.flatMap stepC).drop (i * 3)).take 3 = stepC s := by
    intro ss
    induction ss with
    | nil => intro i s h; simp at h
    | cons t ts ih =>
      intro i s h
      cases i with
      | zero => simp only [List.getElem?_cons_zero, Option.some.injEq] at h; subst h; simp [stepC]
      | succ i =>
        simp only [List.getElem?_cons_succ] at h
        have := ih i s h
        have e : (List.flatMap stepC (t :: ts)).drop ((i + 1) * 3) = (List.flatMap stepC ts).drop (i * 3) := by
          rw [List.flatMap_cons, List.drop_append]
          have : (stepC t).length = 3 := rfl
          rw [this, List.drop_eq_nil_of_le (by rw [this]; omega), List.nil_append]
          congr 1; omega
        rw [e, this]
  unfold scriptV
  rw [k_iaddr_s _ _ _ _ _ _ ⟨by omega, by omega⟩, Int.toNat_natCast, key ss i s hs]
/-- How many bytes are gone through. -/
def bulkN (ss : List StepS) : Nat := ((ss.take 60).map fun s => if s.b.length ≤ 60000 then s.b.length else 0).sum
def Sp9 : Spec := rspec (fun (y : List StepS × Own) args _ => args = [scriptV y.1 y.2] ∧ y.1.length ≤ 9223372036854775807 ∧ ∀ s ∈ y.1, s.Ok)
  fun y S v S' => v = .bool (decide (bulkN y.1 > 1048576)) ∧ S' = S
theorem s9 : Sound PR 9 Sp9 := by
  refine sound_r PR_mixed sounds_nil monos_nil (own := own []) (ord := O9) (lh := H9) (fn := Go.Proofs.Tryz.f9) (by kernel_rfl) (by kernel_rfl) ?_
  rintro ⟨ss, o⟩ args S ⟨rfl, hl, hok⟩
  rw [W9_eq]
  refine ⟨rfl, ?_⟩
  unfold W9
  dsimp only at hl hok ⊢
  have hlen : xlen (scriptV ss o) = some (.int .i64 ss.length) := rfl
  refine aloop_inv (fun m l S' => S' = S ∧ ∃ (i n : Nat), l = [.int .i64 n, .int .i64 i] ∧ i ≤ ss.length ∧ i ≤ 60 ∧ m = 60 - i ∧ n = ((ss.take i).map fun s => if s.b.length ≤ 60000 then s.b.length else 0).sum ∧ n ≤ 60000 * i) 60 ⟨rfl, 0, 0, rfl, by omega, by omega, by omega, by simp, by omega⟩ ?_
  rintro m _ S ⟨rfl, i, n, rfl, hi, hi60, rfl, hn, hn2⟩ rec hrec
  have exit : (i = ss.length ∨ i = 60) → bulkN ss = n := by
    intro h
    rw [hn]
    unfold bulkN
    rcases h with h | h
    · rw [h, List.take_length, List.take_of_length_le (by omega)]
    · rw [h]
  by_cases h1 : i < ss.length
  · have h1' : ((i : Nat) : Int) < ((ss.length : Nat) : Int) := by omega
    by_cases h2 : i < 60
    · have h2' : ((i : Nat) : Int) < 60 := by omega
      have hs : ss[i]? = some ss[i] := List.getElem?_eq_getElem h1
      have hat := script_at o hs
      have hso := hok _ (List.getElem_mem h1)
      have w1 : IntKind.i64.wrap ((i : Int) + 1) = ((i + 1 : Nat) : Int) := by rw [IntWalk.i64_in _ (by omega)]; omega
      have htk : ss.take (i + 1) = ss.take i ++ [ss[i]] := List.take_succ_eq_append_getElem h1
      simp only [ob_s, as_t, gv_tt, pick_t, g, List.drop, List.getD_cons_zero, List.getD_cons_succ, List.getElem?_cons_zero, decide_true, k_add, k_faddr_r, k_gtr, k_leq, k_load_r, k_lss, k_len_bsl, k_get1, hlen, h1', h2', hat, stepC]
      refine asplit_of _ ?_ ?_
      · intro hle
        have hle' : ss[i].b.length ≤ 60000 := by omega
        have w2 : IntKind.i64.wrap ((n : Int) + ((ss[i].b.length : Nat) : Int)) = ((n + ss[i].b.length : Nat) : Int) := by rw [IntWalk.i64_in _ (by omega)]; omega
        simp only [w1, w2]
        refine ⟨S, St.le_refl _, hrec (60 - (i + 1)) _ _ (by omega) ⟨rfl, i + 1, n + ss[i].b.length, rfl, by omega, by omega, rfl, ?_, by omega⟩⟩
        rw [htk, List.map_append, List.sum_append, ← hn]
        simp [hle']
      · intro hgt
        have hgt' : ¬ ss[i].b.length ≤ 60000 := by omega
        simp only [w1]
        refine ⟨S, St.le_refl _, hrec (60 - (i + 1)) _ _ (by omega) ⟨rfl, i + 1, n, rfl, by omega, by omega, rfl, ?_, by omega⟩⟩
        rw [htk, List.map_append, List.sum_append, ← hn]
        simp [hgt']
    · have h2' : ¬ ((i : Nat) : Int) < 60 := by omega
      simp only [ob_s, as_f, gv_tt, pick_t, g, List.getD_cons_zero, List.getD_cons_succ, decide_true, decide_false, k_add, k_gtr, k_lss, hlen, h1', h2']
      refine done' ⟨?_, rfl⟩
      rw [exit (.inr (by omega))]
      congr 2
      apply propext; omega
  · have h1' : ¬ ((i : Nat) : Int) < ((ss.length : Nat) : Int) := by omega
    simp only [ob_s, as_f, gv_ft, pick_f, g, List.getD_cons_zero, List.getD_cons_succ, decide_false, k_add, k_gtr, k_lss, hlen, h1']
    refine done' ⟨?_, rfl⟩
    rw [exit (.inl (by omega))]
    congr 2
    apply propext; omega
end Go.AM
/-
  The law's own functions: step, in parts.
-/
namespace Go.AM
open Go
set_option maxRecDepth 20000

/-- Behind a call. -/
def T10 (Sp15 : Spec) (t0 t3 e0 : AV) (S_1 : St) (K : En → St → Prop) : Prop :=
              obind (xfaddr 1 t3) fun t97_6 =>
              obind (xload false 1 t97_6 S_1) fun t98_6 =>
              obind (xlen t98_6) fun t99_6 =>
              obind (xbini .gtr t99_6 (.int .i64 60000)) fun t100_6 =>
              obind (gv t100_6 true (xfaddr 0 t3)) fun t102_6 =>
              obind (gv t100_6 true (xload false 1 t102_6 S_1)) fun t103_6 =>
              obind (gv t100_6 true (xbini .eql t103_6 (.int .i64 0))) fun t104_6 =>
              obind (gv t100_6 true (some t104_6)) fun t105_6 =>
              obind (gv t105_6 false (xfaddr 0 t3)) fun t106_6 =>
              obind (gv t105_6 false (xload false 1 t106_6 S_1)) fun t107_6 =>
              obind (gv t105_6 false (xbini .eql t107_6 (.int .i64 2))) fun t108_6 =>
              obind (gv t100_6 true (xpick t105_6 (.bool true) t108_6)) fun t109_6 =>
              obind (xpick t100_6 t109_6 (.bool false)) fun t110_6 =>
              obind (xbini .eql e0 (.int .i64 2)) fun t112_6 =>
              obind (xbinb .eql t112_6 t110_6) fun t114_6 =>
              obind (gv t114_6 true (some e0)) fun t116_6 =>
              obind (gv t114_6 true (xbini .eql t116_6 (.int .i64 0))) fun t117_6 =>
              obind (gv t114_6 true (some t117_6)) fun t118_6 =>
              obind (gv t118_6 false (some t110_6)) fun t119_6 =>
              obind (gv t114_6 true (xpick t118_6 (.bool true) t119_6)) fun t120_6 =>
              obind (xpick t114_6 t120_6 (.bool false)) fun t121_6 =>
              obind (gv t121_6 true (some t0)) fun t123_6 =>
              obind (gv t121_6 true (xnilck t123_6)) fun t124_6 =>
              obind (gv t121_6 true (xfaddr 1 t124_6)) fun t125_6 =>
              obind (gv t121_6 true (xload false 1 t125_6 S_1)) fun t126_6 =>
              obind (gv t121_6 true (some t0)) fun t128_6 =>
              obind (gv t121_6 true (xnilck t128_6)) fun t129_6 =>
              obind (gv t121_6 true (xfaddr 4 t129_6)) fun t130_6 =>
              obind (gv t121_6 true (xfaddr 1 t130_6)) fun t131_6 =>
              obind (gv t121_6 true (xload false 1 t131_6 S_1)) fun t132_6 =>
              obind (gv t121_6 true (xlen t132_6)) fun t133_6 =>
              gif t121_6 true (fun k => ccall Sp15 [t126_6] S_1 k (fun v S' => K (.pan v) S')) S_1 fun t127_6 S_20 =>
                gv t121_6 true (xlen t132_6) = some t133_6 ∧ gv t121_6 true (xload false 1 t131_6 S_20) = some t132_6 ∧ 
                obind (gv t121_6 true (xbini .eql t127_6 t133_6)) fun t134_6 =>
                obind (xpick t121_6 t134_6 (.bool false)) fun t135_6 =>
                K (.ret t135_6) S_20
def W10P (Sp12 : Spec) (Sp13 : Spec) (Sp14 : Spec) (Sp15 : Spec) (Sp22 : Spec) (Sp23 : Spec) (Sp24 : Spec) (Sp25 : Spec) (Sp28 : Spec) (t0 t1 : AV) (S : St) (K : En → St → Prop) : Prop :=
  xbox 3 t1 S fun t3 S_1 =>
    obind (xfaddr 0 t3) fun t8 =>
    obind (xload false 1 t8 S_1) fun t9 =>
    obind (xbini .eql t9 (.int .i64 0)) fun t11 =>
    asplit t11 (
      obind (xnilck t0) fun t13 =>
      obind (xfaddr 1 t13) fun t14 =>
      obind (xload false 1 t14 S_1) fun t15 =>
      obind (xfaddr 1 t3) fun t16 =>
      obind (xload false 1 t16 S_1) fun t17 =>
      ccall Sp12 [t15, t17] S_1 (fun t18 S_2 =>
        obind (xbini .eql t18 (.int .i64 0)) fun t20 =>
        asplit t20 (
          obind (xnilck t0) fun t23 =>
          obind (xfaddr 4 t23) fun t24 =>
          obind (xload true 3 t24 S_2) fun t25 =>
          obind (xfaddr 1 t3) fun t26 =>
          obind (xload false 1 t26 S_2) fun t27 =>
          ccall Sp22 [t25, t27] S_2 (fun t28 S_3 =>
            obind (xnilck t0) fun t29 =>
            obind (xfaddr 4 t29) fun t30 =>
            xstore 3 t30 t28 S_3 fun _ S_4 =>
              T10 Sp15 t0 t3 t18 S_4 K) (fun v S' => K (.pan v) S')) (
          T10 Sp15 t0 t3 t18 S_2 K)) (fun v S' => K (.pan v) S')) (
      obind (xbini .eql t9 (.int .i64 1)) fun t32 =>
      asplit t32 (
        obind (xnilck t0) fun t34 =>
        obind (xfaddr 1 t34) fun t35 =>
        obind (xload false 1 t35 S_1) fun t36 =>
        ccall Sp13 [t36] S_1 (fun t37 S_7 =>
          obind (xbini .eql t37 (.int .i64 0)) fun t39 =>
          asplit t39 (
            obind (xnilck t0) fun t42 =>
            obind (xfaddr 4 t42) fun t43 =>
            obind (xload true 3 t43 S_7) fun t44 =>
            ccall Sp23 [t44] S_7 (fun t45 S_8 =>
              obind (xnilck t0) fun t46 =>
              obind (xfaddr 4 t46) fun t47 =>
              xstore 3 t47 t45 S_8 fun _ S_9 =>
                T10 Sp15 t0 t3 t37 S_9 K) (fun v S' => K (.pan v) S')) (
            T10 Sp15 t0 t3 t37 S_7 K)) (fun v S' => K (.pan v) S')) (
        obind (xbini .eql t9 (.int .i64 2)) fun t49 =>
        asplit t49 (
          obind (xnilck t0) fun t51 =>
          obind (xfaddr 1 t51) fun t52 =>
          obind (xload false 1 t52 S_1) fun t53 =>
          obind (xfaddr 1 t3) fun t54 =>
          obind (xload false 1 t54 S_1) fun t55 =>
          ccall Sp14 [t53, t55] S_1 (fun t56 S_12 =>
            obind (xbini .eql t56 (.int .i64 0)) fun t58 =>
            asplit t58 (
              obind (xfaddr 1 t3) fun t60 =>
              obind (xload false 1 t60 S_12) fun t61 =>
              ccall Sp24 [t61] S_12 (fun t62 S_13 =>
                obind (xbuild [.slice [] 0 .nil, .slice [] 0 .nil, .int .i64 0] [(0, 1, t62)]) fun t63 =>
                obind (xnilck t0) fun t64 =>
                obind (xfaddr 4 t64) fun t65 =>
                xstore 3 t65 t63 S_13 fun _ S_14 =>
                  T10 Sp15 t0 t3 t56 S_14 K) (fun v S' => K (.pan v) S')) (
              T10 Sp15 t0 t3 t56 S_12 K)) (fun v S' => K (.pan v) S')) (
          obind (xbini .eql t9 (.int .i64 3)) fun t67 =>
          asplit t67 (
            obind (xnilck t0) fun t69 =>
            obind (xfaddr 4 t69) fun t70 =>
            obind (xfaddr 1 t70) fun t71 =>
            obind (xload false 1 t71 S_1) fun t72 =>
            obind (xlen t72) fun t73 =>
            ccall Sp28 [t0] S_1 (fun t75 S_17 =>
              obind (gv t75 true (some t0)) fun t77 =>
              obind (gv t75 true (xnilck t77)) fun t78 =>
              obind (gv t75 true (xfaddr 4 t78)) fun t79 =>
              obind (gv t75 true (xfaddr 1 t79)) fun t80 =>
              obind (gv t75 true (xload false 1 t80 S_17)) fun t81 =>
              obind (gv t75 true (xlen t81)) fun t82 =>
              obind (gv t75 true (some t73)) fun t83 =>
              obind (gv t75 true (xbini .eql t82 t83)) fun t84 =>
              obind (xpick t75 t84 (.bool false)) fun t85 =>
              K (.ret t85) S_17) (fun v S' => K (.pan v) S')) (
            obind (xbini .eql t9 (.int .i64 4)) fun t87 =>
            asplit t87 (
              obind (xnilck t0) fun t89 =>
              obind (xfaddr 0 t89) fun t90 =>
              obind (xload false 1 t90 S_1) fun t91 =>
              obind (xfaddr 2 t3) fun t92 =>
              obind (xload false 1 t92 S_1) fun t93 =>
              ccall Sp25 [t91, t93] S_1 (fun t94 S_18 =>
                ccall Sp28 [t0] S_18 (fun t96 S_19 =>
                  K (.ret t96) S_19) (fun v S' => K (.pan v) S')) (fun v S' => K (.pan v) S')) (
              T10 Sp15 t0 t3 (((.int .i64 0))) S_1 K)))))
theorem W10_parts (Sp12 : Spec) (Sp13 : Spec) (Sp14 : Spec) (Sp15 : Spec) (Sp22 : Spec) (Sp23 : Spec) (Sp24 : Spec) (Sp25 : Spec) (Sp28 : Spec) (t0 t1 : AV) (S : St) (K : En → St → Prop) :
    W10 Sp12 Sp13 Sp14 Sp15 Sp22 Sp23 Sp24 Sp25 Sp28 t0 t1 S K = W10P Sp12 Sp13 Sp14 Sp15 Sp22 Sp23 Sp24 Sp25 Sp28 t0 t1 S K := by kernel_rfl
end Go.AM
/-
  The law's own functions: step.
-/
namespace Go.AM
open Go
set_option maxRecDepth 20000
variable {R R' S S' : St} {p w x q : Nat} {W W' : WalS} {D D' : DS} {name : List UInt8} {K : En → St → Prop} {l l' : LogR} {most : Int} {N U : Nat}

theorem Live.mono {N' U' : Nat} (h : Live D W l N U) (hN : N ≤ N') (hU : U ≤ U') : Live D W l N' U' := by
  obtain ⟨⟨a, ini, la, h1, h2, h3, h4⟩, h5, h6, h7, h8⟩ := h
  exact ⟨⟨a, ini, la, h1, h2, by omega, h4⟩, h5, h6, h7, by omega⟩
theorem PlayAt.mk' {o1 o2 : Own} (h1 : R.obj x = none) (h2 : LogOk l o1 o2) (hn : W'.name = W.name) (h3 : WkAt (R.setObj x (.cells (playC p w W.name most l o1 o2))) S w p W' D) : PlayAt R S x p w most l W' D := ⟨h1, o1, o2, h2, by rw [hn]; exact h3⟩
def StepS.long (s : StepS) : Prop := 60000 < s.b.length ∧ (s.kind = 0 ∨ s.kind = 2)
def StepS.cost (s : StepS) : Nat := (if s.b.length ≤ 60000 then s.b.length else 0) + 28
theorem t10_ok {s : StepS} {e : Nat} {o1 o2 : Own} (hq : S.obj q = some (.cells (stepC s))) (hw : WkAt R S w p W D) (hx : S.obj x = some (.cells (playC p w name most l o1 o2))) (hc : W.count = l.rs.length) (he : (e = 0 ∧ ¬ s.long) ∨ (e = 2 ∧ s.long))
    (k : K (.ret (.bool true)) S) : T10 Sp15 (.ptr (some (x, 0))) (.ptr (some (q, 0))) (.int .i64 e) S K := by
  unfold T10
  have z0 : ((0 : Nat) : Int) = 0 := rfl
  have z2 : ((2 : Nat) : Int) = 2 := rfl
  have n02 : ¬ ((0 : Int) = 2) := by omega
  have n20 : ¬ ((2 : Int) = 0) := by omega
  have fin : ccall Sp15 [.ptr (some (w, 0))] S (fun t127_6 S_20 => S_20 = S ∧ t127_6 = .int .i64 l.rs.length) (fun v S' => K (.pan v) S') := by
    refine ccall_r (R, w, p, W, D) ⟨rfl, hw⟩ ?_
    rintro _ S' ⟨rfl, rfl⟩
    dsimp only
    rw [hc]
    exact ⟨rfl, rfl⟩
  have fin2 : ∀ k2 : AV → St → Prop, k2 (.int .i64 l.rs.length) S → ccall Sp15 [.ptr (some (w, 0))] S k2 (fun v S' => K (.pan v) S') := by
    intro k2 hk
    refine ccall_r (R, w, p, W, D) ⟨rfl, hw⟩ ?_
    rintro _ S' ⟨rfl, rfl⟩
    dsimp only
    rw [hc]
    exact hk
  simp only [stepC] at hq
  simp only [playC] at hx
  by_cases hb : 60000 < s.b.length
  · have hb' : ((s.b.length : Nat) : Int) > 60000 := by omega
    by_cases h0 : s.kind = 0
    · rcases he with ⟨_, h⟩ | ⟨rfl, _⟩
      · exact absurd ⟨hb, .inl h0⟩ h
      · simp only [ob_s, gv_tt, gv_ff, gv_tf, pick_t, pick_f, List.getElem?_cons_zero, List.getElem?_cons_succ, if_pos, true_and, eq_self, Nat.zero_add, Nat.add_zero, Nat.reduceAdd, decide_true, decide_false, k_beql, k_eql, k_faddr_p, k_gtr, k_len_s, k_load_p, k_nilck_p, k_len_bsl, k_get1, hq, hx, hb', h0, z2, n20, beq_self_eq_true, gif]
        refine fin2 _ ?_
        simp only [ob_s, List.getElem?_cons_zero, List.getElem?_cons_succ, true_and, eq_self, decide_true, k_eql, hx]
        exact k
    · by_cases h2 : s.kind = 2
      · rcases he with ⟨_, h⟩ | ⟨rfl, _⟩
        · exact absurd ⟨hb, .inr h2⟩ h
        · have h0' : ¬ ((2 : Int) = 0) := by omega
          simp only [ob_s, gv_tt, gv_ff, pick_t, pick_f, List.getElem?_cons_zero, List.getElem?_cons_succ, if_pos, true_and, eq_self, Nat.zero_add, Nat.add_zero, Nat.reduceAdd, decide_true, decide_false, k_beql, k_eql, k_faddr_p, k_gtr, k_len_s, k_load_p, k_nilck_p, k_len_bsl, k_get1, hq, hx, hb', h2, z2, n20, beq_self_eq_true, gif]
          refine fin2 _ ?_
          simp only [ob_s, List.getElem?_cons_zero, List.getElem?_cons_succ, true_and, eq_self, decide_true, k_eql, hx]
          exact k
      · rcases he with ⟨rfl, _⟩ | ⟨_, _, h | h⟩
        · simp only [ob_s, gv_tt, gv_ff, gv_tf, pick_t, pick_f, List.getElem?_cons_zero, List.getElem?_cons_succ, if_pos, true_and, eq_self, Nat.zero_add, Nat.add_zero, Nat.reduceAdd, decide_true, decide_false, k_beql, k_eql, k_faddr_p, k_gtr, k_len_s, k_load_p, k_nilck_p, k_len_bsl, k_get1, hq, hx, hb', h0, h2, z0, n02, beq_self_eq_true, gif]
          refine fin2 _ ?_
          simp only [ob_s, List.getElem?_cons_zero, List.getElem?_cons_succ, true_and, eq_self, decide_true, k_eql, hx]
          exact k
        · exact absurd h h0
        · exact absurd h h2
  · have hb' : ¬ ((s.b.length : Nat) : Int) > 60000 := by omega
    rcases he with ⟨rfl, _⟩ | ⟨_, h, _⟩
    · simp only [ob_s, gv_tt, gv_tf, gv_ft, gv_n, pick_t, pick_f, List.getElem?_cons_zero, List.getElem?_cons_succ, if_pos, true_and, eq_self, Nat.zero_add, Nat.add_zero, Nat.reduceAdd, decide_true, decide_false, k_beql, k_eql, k_faddr_p, k_gtr, k_len_s, k_load_p, k_nilck_p, k_len_bsl, k_get1, hq, hx, hb', z0, n02, beq_self_eq_true, gif]
      refine fin2 _ ?_
      simp only [ob_s, List.getElem?_cons_zero, List.getElem?_cons_succ, true_and, eq_self, decide_true, k_eql, hx]
      exact k
    · exact absurd h hb
end Go.AM
/-
  The law's own functions: step.
-/
namespace Go.AM
open Go
set_option maxRecDepth 20000

structure XSt where
  R : St
  x : Nat
  p : Nat
  w : Nat
  most : Int
  l : LogR
  W : WalS
  D : DS
  N : Nat
  U : Nat
  s : StepS
def XSt.ok (y : XSt) (v : AV) (S' : St) : Prop := v = .bool true ∧ ∃ w' W' D' l', PlayAt y.R S' y.x y.p w' y.most l' W' D' ∧ W'.name = y.W.name ∧ Live D' W' l' (y.N + 1) (y.U + y.s.cost) ∧ l'.rs.length ≤ y.N + 1 ∧ D'.room = y.D.room ∧ D'.armed = false
def Sp10 : Spec := rspec (fun (y : XSt) args S => args = [.ptr (some (y.x, 0)), .agg (stepC y.s)] ∧ PlayAt y.R S y.x y.p y.w y.most y.l y.W y.D ∧ 1 ≤ y.most ∧ y.most ≤ 1048576 ∧ y.s.Ok ∧ Live y.D y.W y.l y.N y.U ∧ y.D.armed = false ∧ y.l.rs.length ≤ y.N ∧ y.N < 90 ∧ y.U + y.s.cost ≤ y.D.room ∧ y.D.room ≤ 268435456)
  fun y _ v S' => y.ok v S'
theorem s10 : Sound PR 10 Sp10 := by
  refine sound_r PR_mixed (sounds_cons s12 (sounds_cons s13 (sounds_cons s14 (sounds_cons s15 (sounds_cons s22 (sounds_cons s23 (sounds_cons s24 (sounds_cons s25 (sounds_cons s28 sounds_nil))))))))) (monos_cons (rspec_mono _ _) (monos_cons (rspec_mono _ _) (monos_cons (rspec_mono _ _) (monos_cons (rspec_mono _ _) (monos_cons (rspec_mono _ _) (monos_cons (rspec_mono _ _) (monos_cons (rspec_mono _ _) (monos_cons (rspec_mono _ _) (monos_cons (rspec_mono _ _) monos_nil))))))))) (own := own []) (ord := O10) (lh := H10) (fn := Go.Proofs.Tryz.f10) (by kernel_rfl) (by kernel_rfl) ?_
  rintro ⟨R, x, p, w, most, l, W, D, N, U, s⟩ args S ⟨rfl, hplay, hm1, hm2, hsok, hlive, harm, hlN, hN, hroom, hroom2⟩
  rw [W10_eq]
  refine ⟨rfl, ?_⟩
  rw [W10_parts]
  unfold W10P
  dsimp only at hplay hm1 hm2 hsok hlive harm hlN hN hroom hroom2 ⊢
  simp only [xbox, k_cells_a, stepC, ob_s]
  refine ⟨rfl, ?_⟩
  intro q hq ht
  have hplay1 := hplay.frame (o := .cells (stepC s)) hq
  obtain ⟨hRx, o1, o2, hlog, hwk⟩ := hplay1
  have hRq : R.obj q = none := stle_obj hplay.rle hq
  have hRR : R.le (R.setObj q (.cells (stepC s))) := stle_setObj (St.le_refl _) hRq _
  have hxq : x ≠ q := by
    rintro rfl
    simp at hRx
  have hqx : q ≠ x := fun h => hxq h.symm
  generalize hS0 : S.setObj q (.cells [.int .i64 s.kind, bsl s.b s.ob, .slice (s.keeps.map avI) s.keeps.length s.ok]) = S0
  have hS0' : S.setObj q (.cells (stepC s)) = S0 := hS0
  rw [hS0'] at hwk
  have hx : S0.obj x = some (.cells (playC p w W.name most l o1 o2)) := hwk.rle.1 x _ (by simp)
  have hq0 : S0.obj q = some (.cells (stepC s)) := by rw [← hS0']; simp
  -- what a call of the log may keep
  have hqk : ∀ S' c, ((R.setObj q (.cells (stepC s))).setObj x c).le S' → S'.obj q = some (.cells (stepC s)) := by
    intro S' c h; exact h.1 q _ (by simp [hqx])
  have hxk : ∀ S', ((R.setObj q (.cells (stepC s))).setObj x (.cells (playC p w W.name most l o1 o2))).le S' → S'.obj x = some (.cells (playC p w W.name most l o1 o2)) := by
    intro S' h; exact h.1 x _ (by simp)
  obtain ⟨a, ini, la, hch, ha, haN, hnum, hsz⟩ := hlive.ch
  have hcnt := hlive.count
  have hdead : ¬ W.dead = true := by rw [hlive.dead]; simp
  have hsle := hch.le
  have hgl : la.good.length ≤ 268435456 := by
    have h1 := hwk.len (n := a + ini.length) (by omega)
    have h2 := hwk.sorted
    rw [hch.split] at h1 h2
    rw [(datL_mid (g := ⟨a + ini.length, la.good, la.s⟩) h2).1] at h1
    exact h1
  have hlogk := hlog
  obtain ⟨k1, k2, k3, k4, k5, k6⟩ := hlogk
  have hcost : s.b.length ≤ 60000 → s.cost = s.b.length + 28 := by intro h; simp [StepS.cost, h]
  have hcost28 : 28 ≤ s.cost := by simp [StepS.cost]
  have z0 : ((0 : Nat) : Int) = 0 := rfl
  have z2 : ((2 : Nat) : Int) = 2 := rfl
  have n20 : ¬ ((2 : Int) = 0) := by omega
  have n21 : ¬ ((2 : Int) = 1) := by omega
  have n10 : ¬ ((1 : Int) = 0) := by omega
  simp only [stepC] at hq0
  simp only [playC] at hx
  have hB : Byt ((R.setObj q (.cells (stepC s))).setObj x (.cells (playC p w W.name most l o1 o2))) (bsl s.b s.ob) s.b := .inl ⟨_, rfl, hsok.1⟩
  have hsame : XSt.ok ⟨R, x, p, w, most, l, W, D, N, U, s⟩ (.bool true) S0 :=
    ⟨rfl, w, W, D, l, PlayAt.weaken ⟨hRx, o1, o2, hlog, hwk⟩ hRR, rfl, hlive.mono (Nat.le_succ _) (Nat.le_add_right _ _), Nat.le_succ_of_le hlN, rfl, harm⟩
  have hT : ∀ e : Nat, (e = 0 ∧ ¬ s.long) ∨ (e = 2 ∧ s.long) → T10 Sp15 (.ptr (some (x, 0))) (.ptr (some (q, 0))) (.int .i64 e) S0 (Done (fun v S' => XSt.ok ⟨R, x, p, w, most, l, W, D, N, U, s⟩ v S')) := by
    intro e he
    exact t10_ok (s := s) (e := e) hq0 hwk hx hcnt he (done' hsame)
  by_cases c0 : s.kind = 0
  · simp only [ob_s, as_t, xbuild, xfill, List.length, List.getElem?_cons_zero, List.getElem?_cons_succ, and_true, eq_self, Nat.zero_add, Nat.add_zero, Nat.reduceAdd, Nat.reduceLeDiff, decide_true, k_eql, k_faddr_p, k_len_s, k_load_p, k_nilck_p, k_store_p, k_get1, k_getn, hq0, hx, c0]
    refine ccall_r (_, w, p, W, D, _, s.b) ⟨rfl, hwk, hB, .inr ⟨by dsimp only; omega, by dsimp only; omega, by dsimp only; omega, by dsimp only; omega, by dsimp only; omega, by dsimp only; omega⟩⟩ ?_
    intro v S1 hpost
    dsimp only at hpost
    by_cases hl : s.b.length > 60000
    · rw [if_pos hl] at hpost
      obtain ⟨rfl, rfl⟩ := hpost
      simp only [ob_s, as_f, decide_false, k_eql, n20]
      exact hT 2 (.inr ⟨rfl, hl, .inl c0⟩)
    · rw [if_neg hl, if_neg hdead] at hpost
      obtain ⟨rfl, W', h1, h2, h3, h4⟩ := hpost
      have hc := hcost (by omega)
      rcases live_put hlive hwk.sorted (r := s.b) (by omega) (by omega) with ⟨e1, e2, e3, e4, _⟩ | ⟨e1, e2⟩
      rotate_left
      · have := e2.was; rw [harm] at this; cases this
      rw [e1] at h3 ⊢
      have hW := h3 rfl
      subst hW
      have hx1 := hxk S1 h1.rle
      have hq1 := hqk S1 _ h1.rle
      simp only [stepC] at hq1
      simp only [playC] at hx1
      simp only [ob_s, as_t, List.length, List.take, List.drop, List.take_succ_cons, List.getElem?_cons_zero, List.getElem?_cons_succ, if_pos, eq_self, Nat.zero_add, Nat.reduceAdd, Nat.le_refl, decide_true, k_eql, z0, hx1, hq1]
      refine ccall_r (l, o1, o2, bsl s.b s.ob, s.b) ⟨rfl, hlog, .inl ⟨_, rfl, hsok.1⟩, by dsimp only; omega⟩ ?_
      rintro _ S2 ⟨⟨o3, rfl, ho3⟩, rfl⟩
      simp only [ob_s, setList, List.set, List.length, List.all, true_and, Bool.and_self, eq_self, Nat.zero_add, Nat.reduceAdd, Nat.le_refl, k_cells_a, k_ok_i, k_ok_sl, k_ok_bsl, hx1, LogV]
      have h5 := h1.both (.cells (playC p w W.name most { l with rs := l.rs ++ [s.b] } o1 o3))
      have hlog' : LogOk { l with rs := l.rs ++ [s.b] } o1 o3 := by
        refine ⟨k1, fun h => absurd h ho3, k3, by simp; omega, ?_, k6⟩
        intro r hr
        rcases List.mem_append.1 hr with hr | hr
        · exact k5 r hr
        · simp at hr; subst hr; omega
      refine t10_ok (s := s) (e := 0) (l := { l with rs := l.rs ++ [s.b] }) (name := W.name) (most := most) (o1 := o1) (o2 := o3) (hqk _ _ h5.rle) h5 (h5.rle.1 x _ (by simp)) e2.count (.inl ⟨rfl, fun h => hl h.1⟩) ?_
      refine done' ⟨rfl, w, _, _, { l with rs := l.rs ++ [s.b] }, PlayAt.weaken (PlayAt.mk' hRx hlog' h2 h5) hRR, h2, e2.mono (Nat.le_refl _) (by dsimp only; omega), by simp; omega, e3, e4.trans harm⟩
  by_cases c1 : s.kind = 1
  · simp only [ob_s, as_t, as_f, xbuild, xfill, List.length, List.getElem?_cons_zero, List.getElem?_cons_succ, and_true, eq_self, Nat.zero_add, Nat.add_zero, Nat.reduceAdd, Nat.reduceLeDiff, decide_true, decide_false, k_eql, k_faddr_p, k_len_s, k_load_p, k_nilck_p, k_store_p, k_get1, k_getn, hq0, hx, c1, n10]
    refine ccall_r (_, w, p, W, D) ⟨rfl, hwk, .inr ⟨by dsimp only; omega, by dsimp only; omega⟩⟩ ?_
    intro v S1 hpost
    dsimp only at hpost
    rw [if_neg hdead] at hpost
    obtain ⟨rfl, h1⟩ := hpost
    have hnl : ¬ s.long := by
      rintro ⟨_, h | h⟩ <;> rw [c1] at h <;> omega
    rcases live_syn hlive hwk.sorted with ⟨e1, e2, e3, e4⟩ | ⟨e1, e2⟩
    rotate_left
    · have := e2.was; rw [harm] at this; cases this
    rw [e1] at h1 ⊢
    rw [fst_zero] at h1
    have hx1 := hxk S1 h1.rle
    simp only [playC] at hx1
    simp only [ob_s, as_t, List.length, List.take, List.drop, List.take_succ_cons, if_pos, eq_self, Nat.zero_add, Nat.reduceAdd, Nat.le_refl, decide_true, k_eql, z0, hx1]
    refine ccall_r (l, o1, o2) rfl ?_
    rintro _ S2 ⟨rfl, rfl⟩
    simp only [ob_s, setList, List.set, List.length, List.all, true_and, Bool.and_self, eq_self, Nat.zero_add, Nat.reduceAdd, Nat.le_refl, k_cells_a, k_ok_i, k_ok_sl, k_ok_bsl, hx1, LogV]
    have h5 := h1.both (.cells (playC p w W.name most { l with safe := l.rs.length } o1 o2))
    have hlog' : LogOk { l with safe := l.rs.length } o1 o2 := ⟨k1, k2, k3, k4, k5, k4⟩
    refine t10_ok (s := s) (e := 0) (l := { l with safe := l.rs.length }) (name := W.name) (most := most) (o1 := o1) (o2 := o2) (hqk _ _ h5.rle) h5 (h5.rle.1 x _ (by simp)) e2.count (.inl ⟨rfl, hnl⟩) ?_
    refine done' ⟨rfl, w, _, _, { l with safe := l.rs.length }, PlayAt.weaken (PlayAt.mk' hRx hlog' rfl h5) hRR, rfl, e2.mono (Nat.le_succ _) (Nat.le_add_right _ _), Nat.le_succ_of_le hlN, e3, e4.trans harm⟩
  by_cases c2 : s.kind = 2
  · simp only [ob_s, as_t, as_f, xbuild, xfill, List.length, List.getElem?_cons_zero, List.getElem?_cons_succ, and_true, eq_self, Nat.zero_add, Nat.add_zero, Nat.reduceAdd, Nat.reduceLeDiff, decide_true, decide_false, k_eql, k_faddr_p, k_len_s, k_load_p, k_nilck_p, k_store_p, k_get1, k_getn, hq0, hx, c2, n20, n21]
    refine ccall_r (_, w, p, W, D, _, s.b) ⟨rfl, hwk, hB, by dsimp only; omega⟩ ?_
    intro v S1 hpost
    dsimp only at hpost
    by_cases hl : s.b.length > 60000
    · rw [if_pos hl] at hpost
      obtain ⟨rfl, rfl⟩ := hpost
      simp only [ob_s, as_f, decide_false, k_eql, n20]
      exact hT 2 (.inr ⟨rfl, hl, .inr c2⟩)
    · rw [if_neg hl, if_neg hdead] at hpost
      obtain ⟨rfl, W', h1, h2, h3, h4⟩ := hpost
      have hc := hcost (by omega)
      rcases live_begin hlive hwk.sorted (b := s.b) (by omega) (by omega) with ⟨e1, e2, e3, e4⟩ | ⟨e1, e2⟩
      rotate_left
      · have := e2.was; rw [harm] at this; cases this
      rw [e1] at h3 ⊢
      have hW := h3 rfl
      subst hW
      have hx1 := hxk S1 h1.rle
      have hq1 := hqk S1 _ h1.rle
      simp only [stepC] at hq1
      simp only [playC] at hx1
      simp only [ob_s, as_t, List.getElem?_cons_zero, List.getElem?_cons_succ, eq_self, decide_true, k_eql, z0, hq1]
      refine ccall_r (bsl s.b s.ob, s.b) ⟨rfl, .inl ⟨_, rfl, hsok.1⟩, by dsimp only; omega⟩ ?_
      rintro _ S2 ⟨rfl, rfl⟩
      simp only [ob_s, setList, Option.map_some, List.set, List.length, List.all, if_pos, true_and, Bool.and_self, eq_self, Nat.zero_add, Nat.reduceAdd, Nat.le_refl, k_cells_a, k_ok_i, k_ok_sl, k_cells_bsl, k_ok_bsl, hx1]
      have h5 := h1.both (.cells (playC p w W.name most ⟨s.b, [], 0⟩ .ro .nil))
      have hlog' : LogOk ⟨s.b, [], 0⟩ .ro .nil := ⟨(fun h => nomatch h), fun _ => rfl, (show s.b.length ≤ 1073741824 by omega), by simp, by simp, by simp⟩
      refine t10_ok (s := s) (e := 0) (l := ⟨s.b, [], 0⟩) (name := W.name) (most := most) (o1 := .ro) (o2 := .nil) (hqk _ _ h5.rle) h5 (h5.rle.1 x _ (by simp)) e2.count (.inl ⟨rfl, fun h => hl h.1⟩) ?_
      refine done' ⟨rfl, w, _, _, ⟨s.b, [], 0⟩, PlayAt.weaken (PlayAt.mk' hRx hlog' h2 h5) hRR, h2, e2.mono (Nat.le_refl _) (by dsimp only; omega), Nat.zero_le _, e3, e4.trans harm⟩
  by_cases c3 : s.kind = 3
  · have n30 : ¬ ((3 : Int) = 0) := by omega
    have n31 : ¬ ((3 : Int) = 1) := by omega
    have n32 : ¬ ((3 : Int) = 2) := by omega
    simp only [ob_s, as_t, as_f, xbuild, xfill, List.length, List.getElem?_cons_zero, List.getElem?_cons_succ, and_true, eq_self, Nat.zero_add, Nat.add_zero, Nat.reduceAdd, Nat.reduceLeDiff, decide_true, decide_false, k_eql, k_faddr_p, k_len_s, k_load_p, k_nilck_p, k_store_p, k_get1, k_getn, hq0, hx, c3, n30, n31, n32]
    refine ccall_r (⟨_, x, p, w, most, l, W, D, N, U, l.rs⟩ : XPl) ⟨rfl, ⟨hRx, o1, o2, hlog, hwk⟩, hm1, hm2, harm, hlive.still, Nat.le_refl _, hsle, by simp⟩ ?_
    rintro _ S1 ⟨rfl, w', W', D', ⟨hRx', o3, o4, hlog', h1⟩, h2, h3, h4, h5⟩
    have hx1 := h1.rle.1 x _ (by simp; rfl)
    simp only [playC] at hx1
    simp only [ob_s, gv_tt, pick_t, List.getElem?_cons_zero, List.getElem?_cons_succ, eq_self, Nat.zero_add, Nat.reduceAdd, decide_true, k_eql, k_faddr_p, k_len_s, k_load_p, k_nilck_p, k_get1, hx1]
    exact done' ⟨rfl, w', W', D', _, PlayAt.weaken ⟨hRx', o3, o4, hlog', h1⟩ hRR, h2, h3.mono (Nat.le_succ _) (Nat.le_add_right _ _), Nat.le_succ_of_le hlN, h4, h5⟩
  by_cases c4 : s.kind = 4
  · have n40 : ¬ ((4 : Int) = 0) := by omega
    have n41 : ¬ ((4 : Int) = 1) := by omega
    have n42 : ¬ ((4 : Int) = 2) := by omega
    have n43 : ¬ ((4 : Int) = 3) := by omega
    simp only [ob_s, as_t, as_f, xbuild, xfill, List.length, List.getElem?_cons_zero, List.getElem?_cons_succ, and_true, eq_self, Nat.zero_add, Nat.add_zero, Nat.reduceAdd, Nat.reduceLeDiff, decide_true, decide_false, k_eql, k_faddr_p, k_len_s, k_load_p, k_nilck_p, k_store_p, k_get1, k_getn, hq0, hx, c4, n40, n41, n42, n43]
    refine call_crash hwk.dk s.keeps s.ok ?_
    intro S1 D1 hcr h1
    have hwk1 : WkAt ((R.setObj q (.cells (stepC s))).setObj x (.cells (playC p w W.name most l o1 o2))) S1 w p W D1 := ⟨hwk.1, h1⟩
    obtain ⟨j, j1, j2, j3, _⟩ := live_crash hlive hcr
    have hjl : (l.rs.take j).length = j := by rw [List.length_take]; omega
    refine ccall_r (⟨_, x, p, w, most, l, W, D1, N, U, l.rs.take j⟩ : XPl) ⟨rfl, ⟨hRx, o1, o2, hlog, hwk1⟩, hm1, hm2, hcr.armed, j3, by dsimp only; omega, by dsimp only; omega, by dsimp only; rw [hjl]⟩ ?_
    rintro _ S2 ⟨rfl, w', W', D', h2, h3, h4, h5, h6⟩
    exact done' ⟨rfl, w', W', D', _, h2.weaken hRR, h3, h4.mono (Nat.le_succ _) (Nat.le_add_right _ _), by dsimp only; omega, h5.trans hcr.room, h6⟩
  · have hnl : ¬ s.long := by
      rintro ⟨_, h | h⟩
      · exact c0 h
      · exact c2 h
    simp only [ob_s, as_f, xbuild, xfill, List.length, List.getElem?_cons_zero, List.getElem?_cons_succ, and_true, Nat.zero_add, Nat.add_zero, Nat.reduceAdd, Nat.reduceLeDiff, decide_false, k_eql, k_faddr_p, k_len_s, k_load_p, k_nilck_p, k_store_p, k_get1, k_getn, hq0, hx, c0, c1, c2, c3, c4]
    exact hT 0 (.inl ⟨rfl, hnl⟩)
end Go.AM
/-
  The law's own functions: known.
-/
namespace Go.AM
open Go
set_option maxRecDepth 20000
variable {R S S' : St} {p w : Nat} {W : WalS} {D D' : DS} {l : LogR} {N U : Nat}

theorem emptyS_dk {n : Nat} {name : List UInt8} (hn : 1 ≤ name.length ∧ name.length ≤ 32) (hr : n ≤ 268435456) (h : PlAt R S p (emptyP n)) : DkAt R S p name ⟨[], n, false, 0, false⟩ := by
  refine ⟨_, h, hn, ⟨by simp [emptyP], by simp [emptyP, sumLen], by simp [emptyP], by simp [emptyP]; omega, by simp [emptyP], ?_⟩, ⟨by simp [emptyP], by simp, by simp, by simp⟩, rfl, rfl, rfl, rfl⟩
  intro m
  simp [emptyP, safeF, dataF, getF]
theorem put_most (D : DS) (W : WalS) (r : List UInt8) : (D.put W r).2.1.most = W.most ∧ (D.put W r).2.1.name = W.name := by
  have h : (D.roll W).2.1.most = W.most ∧ (D.roll W).2.1.name = W.name := by
    unfold DS.roll
    split
    · split
      · exact ⟨rfl, rfl⟩
      · split <;> exact ⟨rfl, rfl⟩
    · exact ⟨rfl, rfl⟩
  unfold DS.put
  split
  · exact h
  · split <;> exact h
/-- A record in a new file that isn't synced is lost where nothing is kept. -/
theorem crash_rolled {a : Nat} {ini : List C} {la : C} {rs : List (List UInt8)} {r : List UInt8} (h : Ch D.fl l a ini la) (hs : la.s = 0) (hr : la.rs = [r]) (hl : l.rs = rs ++ [r]) (hc : Crashed [] D D') : Rest D'.fl l.base rs := by
  obtain ⟨κ, k1, k2, k3⟩ := hc.keep
  have k3 := k3 rfl
  obtain ⟨i, hi, hsafe, hcond⟩ := h.safe
  have hfl := h.fl
  rw [chainF_append] at hfl
  have hini : truncL κ (chainF a ini) = chainF a ini := trunc_chain a ini (fun c hc => (h.full c hc).2) fun f hf => k2 f (by rw [hfl]; simp [hf])
  have hla := k3 ⟨a + ini.length, la.d, la.s⟩ (by rw [hfl]; simp [chainF])
  dsimp only at hla
  have htl : truncL κ D.fl = chainF a ini := by
    rw [hfl, trunc_append, hini]
    simp only [chainF, truncL, List.filterMap_cons, List.filterMap_nil, cut1, hla, hs, List.take_zero, if_true, List.append_nil]
  have hne : ini ≠ [] := by
    intro hc
    have := hcond (.inl hc)
    have h2 : 0 < la.hd.length := List.length_pos_iff.2 (frameB_ne _ _)
    rw [List.length_append] at this; omega
  have hrs : rs = ini.flatMap (·.rs) := by
    have := h.rs
    rw [hl, List.flatMap_append] at this
    simp only [List.flatMap_cons, List.flatMap_nil, List.append_nil, hr] at this
    exact (List.append_inj' this rfl).1
  obtain ⟨ini', lb, rfl⟩ : ∃ ini' lb, ini = ini' ++ [lb] := ⟨ini.dropLast, ini.getLast hne, (List.dropLast_concat_getLast hne).symm⟩
  refine ⟨[], a, ini', lb, [], ⟨?_, Heads.init h.heads hne, h.base, ?_, ?_, ?_, by simp, by simp⟩, hrs⟩
  · rw [k1, htl]; simp
  · intro c hc; exact h.recs c (by simp only [List.mem_append] at hc ⊢; exact .inl hc)
  · intro c hc; exact h.full c (by simp [hc])
  · rw [(h.full lb (by simp)).1]; exact partial_nil
theorem stle_mk {S : St} {b : Nat} (hb : S.obj b = none) (o : AObj) : S.le ((S.setObj b o).delObj b) := by
  refine ⟨fun c x hc => ?_, fun c x hc => hc⟩
  have : c ≠ b := by rintro rfl; rw [hb] at hc; cases hc
  simp [this, hc]
theorem mk_byte {S : St} {n : Int} {K : AV → St → Prop} (k : ∀ S', S.le S' → K (.slice [.int .u8 n] 1 .full) S') :
    xmslice [.int .u8 0] 1 1 [(0, 1, (.int .u8 n))] S fun v S1 => xmark v S1 K := by
  unfold xmslice
  have e : xfill [.int .u8 0] [(0, 1, (.int .u8 n))] = some [.int .u8 n] := rfl
  rw [e, obind_some]
  intro b hb ht
  unfold xmark
  simp only [St.obj_setObj, if_true]
  refine ⟨by simp, by simp, k _ (stle_mk hb _)⟩
def Sp8 : Spec := rspec (fun (_ : Unit) args _ => args = []) fun _ S v S' => v = .bool true ∧ S' = S
theorem s8 : Sound PR 8 Sp8 := by
  refine sound_r PR_mixed (sounds_cons s6 (sounds_cons s11 (sounds_cons s12 (sounds_cons s13 (sounds_cons s15 (sounds_cons s25 (sounds_cons s27 sounds_nil))))))) (monos_cons (rspec_mono _ _) (monos_cons (rspec_mono _ _) (monos_cons (rspec_mono _ _) (monos_cons (rspec_mono _ _) (monos_cons (rspec_mono _ _) (monos_cons (rspec_mono _ _) (monos_cons (rspec_mono _ _) monos_nil))))))) (own := own [28, 39, 55]) (ord := O8) (lh := H8) (fn := Go.Proofs.Tryz.f8) (by kernel_rfl) (by kernel_rfl) ?_
  rintro _ args S rfl
  rw [W8_eq]
  refine ⟨rfl, ?_⟩
  unfold W8
  have z0 : ((0 : Nat) : Int) = 0 := rfl
  have hl0 : ([] : List UInt8).length = 0 := rfl
  refine ccall_r (10000 : Int) ⟨rfl, by omega, by omega⟩ ?_
  rintro _ S1 ⟨p, rfl, hP⟩
  have hD := emptyS_dk (n := 10000) (name := [119]) (by simp) (by omega) hP
  simp only [ob_s, xfill, xbslice, List.length, List.getElem?_cons_zero, List.getElem?_cons_succ, and_true, Nat.zero_add, Nat.le_refl, k_extract]
  refine ccall_r (XOp.fresh S p _ [119] 9) ⟨rfl, hD, by omega, by omega, rfl, rfl⟩ ?_
  rcases live_fresh (D := ⟨[], 10000, false, 0, false⟩) (name := [119]) (most := 9) rfl rfl (by show 14 ≤ 10000; omega) with ⟨f1, f2, f3, f4⟩ | ⟨_, h⟩
  rotate_left
  · cases h
  rintro v S2 (⟨_, w, rfl, h1⟩ | ⟨he, _⟩)
  rotate_left
  · exact absurd f1 he
  simp only [ob_s, gv_ff, pick_f, List.getElem?_cons_zero, List.getElem?_cons_succ, if_false, if_pos, Bool.not_false, eq_self, ne_eq, not_true, Option.isNone_some, Bool.false_eq_true, decide_false, k_extract, k_isnil, k_neq, k_nilp_p, z0, gif]
  refine mk_byte fun S3 hle3 => ?_
  have h1 := h1.grow hle3
  generalize hW0 : (⟨[119], 9, 1, (frameB 0 []).length, 0, false⟩ : WalS) = W0 at h1 f2
  have hmost0 : W0.most = 9 := by rw [← hW0]
  have hname0 : W0.name = [119] := by rw [← hW0]
  have hsize0 : W0.size = ((frameB 0 []).length : Nat) := by rw [← hW0]
  have hnum0 : W0.num = 1 := by rw [← hW0]
  have hcnt0 : W0.count = 0 := by rw [← hW0]
  have hdead0 : ¬ W0.dead = true := by rw [← hW0]; simp
  have hfl0 := frame_len 0 [] (by omega) (by simp)
  generalize (DS.begin ⟨[], 10000, false, 0, false⟩ 1 []).2 = D1 at h1 f2 f3 f4
  dsimp only at f3 f4
  -- a
  refine ccall_r (S, w, p, W0, D1, _, [97]) ⟨rfl, h1, .inl ⟨.full, rfl, fun h => nomatch h⟩, .inr ⟨by dsimp only; omega, by dsimp only; omega, by dsimp only; omega, by dsimp only; omega, by dsimp only; omega, by dsimp only; omega⟩⟩ ?_
  intro v S4 hpost
  dsimp only at hpost
  rw [if_neg (by simp), if_neg hdead0] at hpost
  obtain ⟨rfl, W', g1, g2, g3, g4⟩ := hpost
  rcases live_put f2 h1.sorted (r := [97]) (by simp) (by rw [f3]; simp) with ⟨e1, e2, e3, e4, _⟩ | ⟨e1, e2⟩
  rotate_left
  · have := e2.was; rw [f4] at this; cases this
  rw [e1] at g3 ⊢
  have hW := g3 rfl
  subst hW
  obtain ⟨hmost1, hname1⟩ := put_most D1 W0 [97]
  rw [hmost0] at hmost1
  rw [hname0] at hname1
  generalize (D1.put W0 [97]).2.2 = D2 at g1 e2 e3 e4
  generalize (D1.put W0 [97]).2.1 = W1 at g1 e2 hmost1 hname1 g2
  simp only [ob_s, gv_ff, pick_f, if_pos, eq_self, ne_eq, not_true, decide_false, k_neq, z0]
  -- Sync
  obtain ⟨a1, ini1, la1, hc1, ha1, haN1, hnum1, hsz1⟩ := e2.ch
  have hdead1 : ¬ W1.dead = true := by rw [e2.dead]; simp
  have hcnt1 := e2.count
  refine ccall_r (S, w, p, W1, D2) ⟨rfl, g1, .inr ⟨by dsimp only; omega, by dsimp only; omega⟩⟩ ?_
  intro v S5 hpost
  dsimp only at hpost
  rw [if_neg hdead1] at hpost
  obtain ⟨rfl, g5⟩ := hpost
  rcases live_syn e2 g1.sorted with ⟨i1, i2, i3, i4⟩ | ⟨i1, i2⟩
  rotate_left
  · have := i2.was; rw [e4, f4] at this; cases this
  rw [i1] at g5 ⊢
  rw [fst_zero] at g5
  generalize (D2.syn W1.num).2 = D3 at g5 i2 i3 i4
  simp only [ob_s, as_f, eq_self, ne_eq, not_true, decide_false, k_neq, z0]
  refine mk_byte fun S6 hle6 => ?_
  have g6 := g5.grow hle6
  -- b
  have hgood : 10 ≤ la1.good.length := by
    have hk := hc1.heads.ok hc1.base (c := la1) (by simp)
    have := frame_len la1.k la1.b hk.1 hk.2
    simp only [C.good, C.hd, List.length_append]; omega
  have hglen : la1.good.length ≤ 268435456 := by
    have h1 := g1.len (n := a1 + ini1.length) (by omega)
    have h2 := g1.sorted
    rw [hc1.split] at h1 h2
    rw [(datL_mid (g := ⟨a1 + ini1.length, la1.good, la1.s⟩) h2).1] at h1
    exact h1
  have hcnt1' : W1.count = 1 := by rw [hcnt1]; rfl
  refine ccall_r (S, w, p, W1, D3, _, [98]) ⟨rfl, g6, .inl ⟨.full, rfl, fun h => nomatch h⟩, .inr ⟨by dsimp only; omega, by dsimp only; omega, by dsimp only; omega, by dsimp only; omega, by dsimp only; omega, by dsimp only; omega⟩⟩ ?_
  intro v S7 hpost
  dsimp only at hpost
  rw [if_neg (by simp), if_neg hdead1] at hpost
  obtain ⟨rfl, W', j1, j2, j3, j4⟩ := hpost
  rcases live_put i2 g6.sorted (r := [98]) (by simp) (by rw [i3, e3, f3]; simp) with ⟨k1, k2, k3, k4, k5⟩ | ⟨k1, k2⟩
  rotate_left
  · have := k2.was; rw [i4, e4, f4] at this; cases this
  rw [k1] at j3
  have hW := j3 rfl
  subst hW
  obtain ⟨a2, ini2, la2, hc2, hs2, hr2⟩ := k5 (by rw [hmost1, hsz1]; omega)
  obtain ⟨_, hname2⟩ := put_most D3 W1 [98]
  rw [hname1] at hname2
  generalize (D3.put W1 [98]).2.2 = D4 at j1 k2 k3 k4 hc2
  generalize (D3.put W1 [98]).2.1 = W2 at j1 k2 hname2
  -- the crash
  refine call_crash j1.dk ([] : List Int) .nil ?_
  intro S8 D5 hcr m1
  have hrest := crash_rolled hc2 hs2 hr2 (rs := [[97]]) rfl hcr
  have hst := hcr.still hrest k2.num_le k2.used
  have m2 : WkAt S S8 w p W2 D5 := ⟨j1.1, m1⟩
  have m3 := m2.plate
  rw [hname2] at m3
  obtain ⟨gs, a, ini, la, xs, hsh, hrs⟩ := hst.rest
  refine ccall_r (XOp.shape S p D5 [119] 9 gs a _ ini la xs) ⟨rfl, m3, by omega, by omega, hst.down, hsh⟩ ?_
  rintro v S9 (⟨w', ow, D', rfl, n1, n2⟩ | ⟨_, _, _, _, _, _, n3, _⟩)
  rotate_left
  · have := n3.was; rw [hcr.armed] at this; cases this
  rw [← hrs] at n1 ⊢
  simp only [ob_s, gv_tt, gv_n, pick_t, List.length, List.getElem?_cons_zero, List.getElem?_cons_succ, if_pos, eq_self, Nat.zero_add, decide_true, k_eql, k_extract, z0]
  refine mk_byte fun S10 hle10 => ?_
  have n3 := n1.grow hle10
  simp only [ob_s, setList, Option.map_some, List.set, List.length, if_pos, eq_self, Nat.zero_add, k_cells_sl]
  refine ccall_r ([[97]], [([97], .full)], ow, .full) ⟨rfl, by simp, by simp, by simp, by simp⟩ ?_
  rintro _ S11 ⟨rfl, rfl⟩
  have ed : decide ((([[97]], [([97], .full)], ow, .full) : List (List UInt8) × List (List UInt8 × Own) × Own × Own).1 = (([[97]], [([97], .full)], ow, .full) : List (List UInt8) × List (List UInt8 × Own) × Own × Own).2.1.map (·.1)) = true := by simp
  rw [ed]
  simp only [ob_s, gv_tt, pick_t, if_pos, eq_self]
  refine ccall_r (S, w', p, _, D') ⟨rfl, n3⟩ ?_
  rintro _ S12 ⟨rfl, rfl⟩
  simp only [ob_s, List.length, Nat.zero_add, k_eql]
  exact done S n3.rle ⟨rfl, rfl⟩
end Go.AM
