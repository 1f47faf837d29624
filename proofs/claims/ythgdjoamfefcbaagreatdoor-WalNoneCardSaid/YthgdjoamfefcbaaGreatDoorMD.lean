/- Own texts D1, D2, D3, D4, D5, D6, D7, D8, D9, D10, D11 of this claim, joined. -/
import Derived.Test.YthgdjoamfefcbaaGreatDoorMC
set_option linter.all false
set_option linter.unusedVariables false
set_option linter.unusedSimpArgs false
set_option linter.unnecessarySimpa false
/-
  A log's files by their numbers.
-/
namespace Go.AM
open Go
set_option maxRecDepth 20000

/-- A file of a log: its number, its bytes, how many of them are synced. -/
structure F where
  n : Nat
  d : List UInt8
  s : Nat
def fS (name : List UInt8) (f : F) : FileS := ⟨fname name f.n, f.d, f.s⟩
/-- The plate has these files and no other ones. -/
structure Has (name : List UInt8) (P : PlateS) (fl : List F) : Prop where
  perm : P.files.Perm (fl.map (fS name))
  sorted : fl.Pairwise (fun f g => f.n < g.n)
  small : ∀ f ∈ fl, 0 < f.n ∧ f.n < 100
  full : ∀ f ∈ fl, f.d ≠ []
def getL (fl : List F) (n : Nat) : Option F := fl.find? fun f => f.n == n
def datL (fl : List F) (n : Nat) : List UInt8 := ((getL fl n).map (·.d)).getD []
def safL (fl : List F) (n : Nat) : Nat := ((getL fl n).map (·.s)).getD 0
/-- A file is this one. -/
def layL : List F → F → List F
  | [], f => if f.d = [] then [] else [f]
  | g :: fl, f => if f.n < g.n then (if f.d = [] then g :: fl else f :: g :: fl) else if f.n = g.n then (if f.d = [] then fl else f :: fl) else g :: layL fl f

theorem fname_inj {name : List UInt8} {m n : Nat} (hm : m < 100) (hn : n < 100) (h : fname name m = fname name n) : m = n := by
  have h1 : Lib.decDigits m = Lib.decDigits n := by simpa [fname] using h
  obtain ⟨ds, a1, a2, a3, _⟩ := digits_of m hm
  obtain ⟨es, b1, b2, b3, _⟩ := digits_of n hn
  rw [a1, b1] at h1
  have key : ∀ ds es : List Nat, (∀ d ∈ ds, d < 10) → (∀ d ∈ es, d < 10) → digs ds = digs es → ds = es := by
    intro ds
    induction ds with
    | nil => intro es _ _ h; cases es with
      | nil => rfl
      | cons e es => simp [digs] at h
    | cons d ds ih => intro es h1 h2 h; cases es with
      | nil => simp [digs] at h
      | cons e es =>
        simp only [digs, List.map_cons, List.cons.injEq] at h
        have hd := h1 d (by simp)
        have he := h2 e (by simp)
        have h3 := congrArg UInt8.toNat h.1
        rw [UInt8.toNat_ofNat', UInt8.toNat_ofNat'] at h3
        have : d = e := by omega
        rw [this, ih es (fun x hx => h1 x (by simp [hx])) (fun x hx => h2 x (by simp [hx])) h.2]
  rw [← a2, ← b2, key ds es a3 b3 h1]

theorem getF_mem {fs : List FileS} {x : FileS} (hn : (fs.map (·.name)).Nodup) (hx : x ∈ fs) : getF fs x.name = some x := by
  rcases split_files fs x.name hn with h | ⟨a, y, b, rfl, hy, ha, hb⟩
  · exact absurd rfl (h x hx)
  · rcases List.mem_append.1 hx with h | h
    · exact absurd rfl (ha x h)
    · rcases List.mem_cons.1 h with rfl | h
      · exact getF_mid rfl ha
      · exact absurd rfl (hb x h)
theorem getF_perm {fs gs : List FileS} (hp : fs.Perm gs) (hn : (fs.map (·.name)).Nodup) (n : List UInt8) : getF fs n = getF gs n := by
  cases h : getF gs n with
  | none =>
    refine getF_none fun x hx hc => ?_
    simp only [getF, List.find?_eq_none] at h
    exact h x (hp.subset hx) (by simpa using hc)
  | some x =>
    have h2 : x.name = n := by simpa using List.find?_some h
    have h1 : x ∈ gs := List.mem_of_find?_eq_some h
    rw [← h2]
    exact getF_mem hn (hp.symm.subset h1)
theorem Has.get {name : List UInt8} {P : PlateS} {fl : List F} (h : Has name P fl) (hn : (P.files.map (·.name)).Nodup) {n : Nat} (h1 : n < 100) : getF P.files (fname name n) = (getL fl n).map (fS name) := by
  rw [getF_perm h.perm hn]
  have hs := h.small
  clear h hn
  induction fl with
  | nil => rfl
  | cons f fl ih =>
    have ih := ih fun g hg => hs g (by simp [hg])
    simp only [getF, getL, List.map_cons, List.find?_cons] at ih ⊢
    by_cases hf : f.n = n
    · subst hf; simp [fS]
    · have h2 : (f.n == n) = false := by simpa using hf
      have h3 : ((fS name f).name == fname name n) = false := by
        simp only [fS, beq_eq_false_iff_ne]
        exact fun hc => hf (fname_inj (hs f (by simp)).2 h1 hc)
      simp only [h2, h3]
      exact ih
theorem Has.dat {name : List UInt8} {P : PlateS} {fl : List F} (h : Has name P fl) (hn : (P.files.map (·.name)).Nodup) {n : Nat} (h1 : n < 100) : dataF P.files (fname name n) = datL fl n := by
  simp only [dataF, datL, h.get hn h1, Option.map_map]; rfl
theorem Has.saf {name : List UInt8} {P : PlateS} {fl : List F} (h : Has name P fl) (hn : (P.files.map (·.name)).Nodup) {n : Nat} (h1 : n < 100) : safeF P.files (fname name n) = safL fl n := by
  simp only [safeF, safL, h.get hn h1, Option.map_map]; rfl

theorem putF_perm (fs : List FileS) (f : FileS) (hn : (fs.map (·.name)).Nodup) : (putF fs f).Perm (f :: delF fs f.name) := by
  rcases split_files fs f.name hn with h | ⟨a, x, b, rfl, hx, ha, hb⟩
  · rw [putF_none h, filter_id_of h]; exact List.perm_append_comm
  · rw [putF_mid hx ha hb, delF_mid hx ha hb]; exact List.perm_middle
theorem delF_perm {fs gs : List FileS} (h : fs.Perm gs) (n : List UInt8) : (delF fs n).Perm (delF gs n) := h.filter _
theorem delF_delF (fs : List FileS) (n : List UInt8) : delF (delF fs n) n = delF fs n := by simp [delF]
theorem mem_layL {x f : F} : ∀ {fl : List F}, x ∈ layL fl f → (x = f ∧ f.d ≠ []) ∨ x ∈ fl
  | [], h => by
    unfold layL at h
    split at h
    · cases h
    · rename_i hd; left; exact ⟨by simpa using h, hd⟩
  | g :: fl, h => by
    unfold layL at h
    split at h
    · split at h
      · exact .inr h
      · rename_i hd
        rcases List.mem_cons.1 h with h | h
        · exact .inl ⟨h, hd⟩
        · exact .inr h
    · split at h
      · split at h
        · exact .inr (List.mem_cons_of_mem _ h)
        · rename_i hd
          rcases List.mem_cons.1 h with h | h
          · exact .inl ⟨h, hd⟩
          · exact .inr (List.mem_cons_of_mem _ h)
      · rcases List.mem_cons.1 h with h | h
        · exact .inr (by simp [h])
        · rcases mem_layL h with h | h
          · exact .inl h
          · exact .inr (List.mem_cons_of_mem _ h)
theorem sorted_layL (f : F) : ∀ {fl : List F}, fl.Pairwise (fun f g => f.n < g.n) → (layL fl f).Pairwise (fun f g => f.n < g.n)
  | [], h => by unfold layL; split <;> simp
  | g :: fl, h => by
    have h' := List.pairwise_cons.1 h
    unfold layL
    split
    · rename_i hlt
      split
      · exact h
      · refine List.pairwise_cons.2 ⟨fun x hx => ?_, h⟩
        rcases List.mem_cons.1 hx with rfl | hx
        · exact hlt
        · exact Nat.lt_trans hlt (h'.1 x hx)
    · split
      · rename_i he
        split
        · exact h'.2
        · exact List.pairwise_cons.2 ⟨fun x hx => by rw [he]; exact h'.1 x hx, h'.2⟩
      · refine List.pairwise_cons.2 ⟨fun x hx => ?_, sorted_layL f h'.2⟩
        rcases mem_layL hx with ⟨rfl, _⟩ | hx
        · omega
        · exact h'.1 x hx
theorem perm_layL (f : F) : ∀ {fl : List F}, fl.Pairwise (fun f g => f.n < g.n) → (layL fl f).Perm ((if f.d = [] then [] else [f]) ++ fl.filter (fun g => g.n != f.n))
  | [], h => by simp [layL]
  | g :: fl, h => by
    have h' := List.pairwise_cons.1 h
    have hall : f.n ≤ g.n → fl.filter (fun g => g.n != f.n) = fl := fun hl => by
      rw [List.filter_eq_self]
      intro x hx; have := h'.1 x hx; simp; omega
    unfold layL
    split
    · rename_i hlt
      have hg : (g.n != f.n) = true := by simp; omega
      rw [List.filter_cons, hg, hall (by omega)]
      split <;> simp
    · split
      · rename_i he
        have hg : (g.n != f.n) = false := by simp; omega
        rw [List.filter_cons, hg, hall (by omega)]
        split <;> simp
      · rename_i hne
        have hg : (g.n != f.n) = true := by simp; omega
        rw [List.filter_cons, hg]
        have ih := perm_layL f h'.2
        split at ih
        · rename_i hd; simp only [if_pos hd]; simpa using ih
        · rename_i hd; simp only [if_neg hd]
          exact (List.Perm.cons g ih).trans (List.Perm.swap _ _ _)
theorem delF_map {name : List UInt8} {fl : List F} (hs : ∀ f ∈ fl, 0 < f.n ∧ f.n < 100) {n : Nat} (hn : n < 100) : delF (fl.map (fS name)) (fname name n) = (fl.filter (fun g => g.n != n)).map (fS name) := by
  induction fl with
  | nil => rfl
  | cons f fl ih =>
    have ih := ih fun g hg => hs g (by simp [hg])
    simp only [delF, List.map_cons, List.filter_cons] at ih ⊢
    by_cases hf : f.n = n
    · subst hf; simpa [fS] using ih
    · have h2 : (f.n != n) = true := by simpa using hf
      have h3 : ((fS name f).name != fname name n) = true := by
        simp only [fS, bne_iff_ne]
        exact fun hc => hf (fname_inj (hs f (by simp)).2 hn hc)
      simp only [h2, h3, if_true, List.map_cons, ih]
theorem Has.lay {name : List UInt8} {P : PlateS} {fl : List F} (h : Has name P fl) (hn : (P.files.map (·.name)).Nodup) (f : F) (h1 : 0 < f.n ∧ f.n < 100) : Has name (P.lay (fS name f)) (layL fl f) := by
  refine ⟨?_, sorted_layL f h.sorted, ?_, ?_⟩
  · have p1 := putF_perm P.files (fS name f) hn
    have p2 : (delF P.files (fS name f).name).Perm ((fl.filter (fun g => g.n != f.n)).map (fS name)) := by
      have := delF_perm h.perm (fname name f.n)
      rw [delF_map h.small h1.2] at this
      exact this
    have p3 := (perm_layL f h.sorted).map (fS name)
    refine List.Perm.trans ?_ p3.symm
    simp only [PlateS.lay]
    have hd : (fS name f).data = f.d := rfl
    rw [hd]
    split
    · have p4 := delF_perm p1 (fS name f).name
      have e : delF (fS name f :: delF P.files (fS name f).name) (fS name f).name = delF P.files (fS name f).name := by
        have := delF_delF P.files (fS name f).name
        simp only [delF] at this ⊢
        simp
      rw [e] at p4
      simpa using p4.trans p2
    · simpa using p1.trans (p2.cons _)
  · intro g hg
    rcases mem_layL hg with ⟨rfl, _⟩ | hg
    · exact h1
    · exact h.small g hg
  · intro g hg
    rcases mem_layL hg with ⟨rfl, hd⟩ | hg
    · exact hd
    · exact h.full g hg
theorem Has.nums {name : List UInt8} {P : PlateS} {fl : List F} (h : Has name P fl) : Nums name P (fl.map (·.n)) := by
  refine ⟨?_, ?_, ?_⟩
  · have := h.perm.map (·.name)
    rw [List.map_map] at this
    rw [List.map_map]
    exact this
  · rw [List.pairwise_map]; exact h.sorted
  · intro n hn
    obtain ⟨f, hf, rfl⟩ := List.mem_map.1 hn
    exact h.small f hf
theorem Has.few {name : List UInt8} {P : PlateS} {fl : List F} (h : Has name P fl) : P.files.length ≤ 100 := by
  rw [h.perm.length_eq, List.length_map]
  have h1 : (fl.map (·.n)).Nodup := by
    have := h.sorted
    rw [List.Nodup, List.pairwise_map]
    exact this.imp (by intro a b; omega)
  have := List.Nodup.length_le_of_subset h1 (l₂ := List.range 100) (by
    intro n hn
    obtain ⟨f, hf, rfl⟩ := List.mem_map.1 hn
    simpa using (h.small f hf).2)
  simpa using this

/-! ## A plate that is a log's -/
structure DS where
  fl : List F
  room : Nat
  armed : Bool
  left : Nat
  down : Bool
def DS.used (D : DS) : Nat := (D.fl.map (·.d.length)).sum
def DS.tick (D : DS) : Nat × DS := if D.down then (9, D) else if D.armed = false then (0, D) else if D.left = 0 then (9, { D with down := true }) else (0, { D with left := D.left - 1 })
def DS.lay (D : DS) (f : F) : DS := { D with fl := layL D.fl f }
def DS.app (D : DS) (n : Nat) (d : List UInt8) : Nat × DS :=
  if D.tick.1 ≠ 0 then D.tick else if D.used + d.length > D.room then (8, D.tick.2) else (0, D.tick.2.lay ⟨n, datL D.fl n ++ d, safL D.fl n⟩)
def DS.syn (D : DS) (n : Nat) : Nat × DS := if D.tick.1 ≠ 0 then D.tick else (0, D.tick.2.lay ⟨n, datL D.fl n, (datL D.fl n).length⟩)
def DS.cut (D : DS) (n k : Nat) : Nat × DS := if D.tick.1 ≠ 0 then D.tick else (0, D.tick.2.lay ⟨n, (datL D.fl n).take k, min (safL D.fl n) k⟩)

structure Rp (name : List UInt8) (P : PlateS) (D : DS) : Prop where
  nm : 1 ≤ name.length ∧ name.length ≤ 32
  wf : WF P
  has : Has name P D.fl
  room : P.room = D.room
  armed : P.armed = D.armed
  left : P.left = D.left
  down : P.down = D.down
variable {name : List UInt8} {P : PlateS} {D : DS}
theorem Rp.used (h : Rp name P D) : P.used = D.used := by
  rw [h.wf.used]
  have h2 : ∀ fs : List F, sumLen (fs.map (fS name)) = (fs.map (·.d.length)).sum := by
    intro fs
    simp only [sumLen, List.map_map]
    rfl
  have h1 : sumLen P.files = sumLen (D.fl.map (fS name)) := (h.has.perm.map (fun f : FileS => f.data.length)).sum_nat
  rw [h1, h2]; rfl
theorem fname_ok (h : 1 ≤ name.length ∧ name.length ≤ 32) {n : Nat} (hn : n < 100) : 1 ≤ (fname name n).length ∧ (fname name n).length ≤ 64 := by
  have := digits_small n hn
  simp only [fname, List.length_append, List.length_cons, List.length_nil]
  omega
theorem Rp.tick (h : Rp name P D) {n : Nat} (hn : n < 100) : (P.change (fname name n)).1 = D.tick.1 ∧ Rp name (P.change (fname name n)).2 D.tick.2 := by
  have hk := fname_ok h.nm hn
  have ha : P.asked (fname name n) = if P.down then 9 else 0 := by unfold PlateS.asked; rw [if_neg (by omega)]
  have hw := h.wf.change (fname name n)
  have hs := change_same P (fname name n)
  have e1 : D.tick.2.fl = D.fl ∧ D.tick.2.room = D.room := by
    unfold DS.tick; split
    · simp
    · split
      · simp
      · split <;> simp
  have key : (P.change (fname name n)).1 = D.tick.1 ∧ (P.change (fname name n)).2.armed = D.tick.2.armed ∧ (P.change (fname name n)).2.left = D.tick.2.left ∧ (P.change (fname name n)).2.down = D.tick.2.down := by
    have hl := h.left; have hr := h.armed; have hd := h.down
    unfold PlateS.change DS.tick
    rw [ha, hd, hr, hl]
    cases D.down
    · cases D.armed
      · simp [hd, hr, hl]
      · by_cases h0 : D.left = 0
        · simp [h0, hr, hl]
        · have : ¬ (D.left : Int) = 0 := by omega
          simp only [this, h0]
          simp [hd, hr]; omega
    · simp [hd, hr, hl]
  exact ⟨key.1, h.nm, hw, ⟨by rw [hs.1, e1.1]; exact h.has.perm, by rw [e1.1]; exact h.has.sorted, by rw [e1.1]; exact h.has.small, by rw [e1.1]; exact h.has.full⟩, by rw [hs.2.1, e1.2]; exact h.room, key.2.1, key.2.2.1, key.2.2.2⟩
theorem tick_fl (D : DS) : D.tick.2.fl = D.fl ∧ D.tick.2.room = D.room := by
  unfold DS.tick; split
  · simp
  · split
    · simp
    · split <;> simp
theorem Rp.lay (h : Rp name P D) (f : F) (h1 : 0 < f.n ∧ f.n < 100) (hs : f.s ≤ f.d.length) (hc : P.used + ((f.d.length : Int) - (datL D.fl f.n).length) ≤ P.room) : Rp name (P.lay (fS name f)) (D.lay f) := by
  refine ⟨h.nm, h.wf.lay _ hs ?_, h.has.lay h.wf.names f h1, h.room, h.armed, h.left, h.down⟩
  have e : dataF P.files (fS name f).name = datL D.fl f.n := h.has.dat h.wf.names h1.2
  rw [e]; exact hc
theorem Rp.datc (h : Rp name P D) {n : Nat} (h1 : n < 100) : dataF (P.change (fname name n)).2.files (fname name n) = datL D.fl n := by
  rw [(change_same P _).1]; exact h.has.dat h.wf.names h1
theorem Rp.app (h : Rp name P D) {n : Nat} (h1 : 0 < n ∧ n < 100) (d : List UInt8) : (P.append (fname name n) d).1 = (D.app n d).1 ∧ Rp name (P.append (fname name n) d).2 (D.app n d).2 := by
  obtain ⟨t1, t2⟩ := h.tick h1.2
  unfold PlateS.append DS.app
  rw [t1]
  by_cases h0 : D.tick.1 = 0
  · simp only [h0, ne_eq, not_true, if_false]
    have hu := h.used
    have hr := h.room
    by_cases hf : D.used + d.length > D.room
    · rw [if_pos hf, if_pos (by omega)]
      exact ⟨rfl, t2⟩
    · rw [if_neg hf, if_neg (by omega)]
      refine ⟨rfl, ?_⟩
      have e1 := h.has.dat h.wf.names h1.2
      have e2 := h.has.saf h.wf.names h1.2
      have e3 : (⟨fname name n, dataF P.files (fname name n) ++ d, safeF P.files (fname name n)⟩ : FileS) = fS name ⟨n, datL D.fl n ++ d, safL D.fl n⟩ := by rw [e1, e2]; rfl
      have hsafe := h.wf.safe (fname name n)
      rw [e1, e2] at hsafe
      rw [e3]
      refine t2.lay _ h1 (by simp; omega) ?_
      have hs := change_same P (fname name n)
      rw [hs.2.1, hs.2.2, (tick_fl D).1]
      dsimp only
      rw [List.length_append]
      omega
  · simp only [h0, ne_eq, not_false_eq_true, if_true]
    exact ⟨t1, t2⟩
theorem Rp.syn (h : Rp name P D) {n : Nat} (h1 : 0 < n ∧ n < 100) : (P.sync (fname name n)).1 = (D.syn n).1 ∧ Rp name (P.sync (fname name n)).2 (D.syn n).2 := by
  obtain ⟨t1, t2⟩ := h.tick h1.2
  unfold PlateS.sync DS.syn
  rw [t1]
  by_cases h0 : D.tick.1 = 0
  · simp only [h0, ne_eq, not_true, if_false]
    refine ⟨trivial, ?_⟩
    have e1 := h.has.dat h.wf.names h1.2
    have e3 : (⟨fname name n, dataF P.files (fname name n), (dataF P.files (fname name n)).length⟩ : FileS) = fS name ⟨n, datL D.fl n, (datL D.fl n).length⟩ := by rw [e1]; rfl
    rw [e3]
    refine t2.lay _ h1 (by simp) ?_
    have hs := change_same P (fname name n)
    have hc := h.wf.cap
    rw [hs.2.1, hs.2.2, (tick_fl D).1]
    dsimp only
    omega
  · simp only [h0, ne_eq, not_false_eq_true, if_true]
    exact ⟨t1, t2⟩
theorem Rp.cut (h : Rp name P D) {n : Nat} (h1 : 0 < n ∧ n < 100) (k : Nat) : (P.cut (fname name n) k).1 = (D.cut n k).1 ∧ Rp name (P.cut (fname name n) k).2 (D.cut n k).2 := by
  obtain ⟨t1, t2⟩ := h.tick h1.2
  unfold PlateS.cut DS.cut
  rw [t1]
  by_cases h0 : D.tick.1 = 0
  · simp only [h0, ne_eq, not_true, if_false]
    refine ⟨trivial, ?_⟩
    have e1 := h.has.dat h.wf.names h1.2
    have e2 := h.has.saf h.wf.names h1.2
    have e3 : (⟨fname name n, (dataF P.files (fname name n)).take k, min (safeF P.files (fname name n)) k⟩ : FileS) = fS name ⟨n, (datL D.fl n).take k, min (safL D.fl n) k⟩ := by rw [e1, e2]; rfl
    have hsafe := h.wf.safe (fname name n)
    rw [e1, e2] at hsafe
    rw [e3]
    refine t2.lay _ h1 (by simp; omega) ?_
    have hs := change_same P (fname name n)
    have hc := h.wf.cap
    rw [hs.2.1, hs.2.2, (tick_fl D).1]
    dsimp only
    rw [List.length_take]
    omega
  · simp only [h0, ne_eq, not_false_eq_true, if_true]
    exact ⟨t1, t2⟩
end Go.AM
/-
  A log's files: what a crash leaves.
-/
namespace Go.AM
open Go
set_option maxRecDepth 20000

theorem getL_none_of {fl : List F} {n : Nat} (h : ∀ g ∈ fl, g.n ≠ n) : getL fl n = none := by
  simp only [getL, List.find?_eq_none]
  intro g hg; simpa using h g hg
theorem getL_cons (g : F) (fl : List F) (n : Nat) : getL (g :: fl) n = if g.n = n then some g else getL fl n := by
  simp only [getL, List.find?_cons]
  by_cases h : g.n = n
  · simp [h]
  · have : (g.n == n) = false := by simpa using h
    simp [this, h]
theorem getL_append {a b : List F} {n : Nat} (h : ∀ x ∈ a, x.n ≠ n) : getL (a ++ b) n = getL b n := by
  induction a with
  | nil => rfl
  | cons x a ih =>
    rw [List.cons_append, getL_cons, if_neg (h x (by simp))]
    exact ih fun y hy => h y (by simp [hy])
theorem getL_mid {a b : List F} {g : F} (h : ∀ x ∈ a, x.n ≠ g.n) : getL (a ++ g :: b) g.n = some g := by
  rw [getL_append h, getL_cons, if_pos rfl]
theorem getL_lay {fl : List F} (hs : fl.Pairwise (fun f g => f.n < g.n)) (f : F) (n : Nat) : getL (layL fl f) n = if n = f.n then (if f.d = [] then none else some f) else getL fl n := by
  induction fl with
  | nil =>
    unfold layL
    by_cases hd : f.d = []
    · simp only [if_pos hd]; by_cases hn : n = f.n <;> simp [hn, getL]
    · simp only [if_neg hd, getL_cons]
      by_cases hn : n = f.n
      · simp [hn]
      · have : ¬ f.n = n := fun h => hn h.symm
        simp [hn, this]
  | cons g fl ih =>
    obtain ⟨h1, h2⟩ := List.pairwise_cons.1 hs
    have ih := ih h2
    unfold layL
    by_cases hlt : f.n < g.n
    · rw [if_pos hlt]
      have hno : getL (g :: fl) f.n = none := getL_none_of (by
        intro x hx
        rcases List.mem_cons.1 hx with rfl | hx
        · omega
        · have := h1 x hx; omega)
      by_cases hd : f.d = []
      · simp only [if_pos hd]
        by_cases hn : n = f.n
        · rw [if_pos hn, hn, hno]
        · rw [if_neg hn]
      · simp only [if_neg hd]
        rw [getL_cons]
        by_cases hn : n = f.n
        · simp [hn]
        · have : ¬ f.n = n := fun h => hn h.symm
          simp [hn, this]
    · rw [if_neg hlt]
      by_cases he : f.n = g.n
      · rw [if_pos he]
        by_cases hd : f.d = []
        · simp only [if_pos hd]
          by_cases hn : n = f.n
          · rw [if_pos hn]; exact getL_none_of (by intro x hx; have := h1 x hx; omega)
          · rw [if_neg hn, getL_cons, if_neg (by omega)]
        · simp only [if_neg hd, getL_cons]
          by_cases hn : n = f.n
          · simp [hn]
          · have : ¬ f.n = n := fun h => hn h.symm
            have h3 : ¬ g.n = n := by omega
            simp [hn, this, h3]
      · rw [if_neg he, getL_cons, ih, getL_cons]
        by_cases hn : n = f.n
        · subst hn
          have : ¬ g.n = f.n := fun h => he h.symm
          simp [this]
        · simp [hn]
theorem ext_L {fl gl : List F} (h1 : fl.Pairwise (fun f g => f.n < g.n)) (h2 : gl.Pairwise (fun f g => f.n < g.n)) (h : ∀ n, getL fl n = getL gl n) : fl = gl := by
  induction fl generalizing gl with
  | nil => cases gl with
    | nil => rfl
    | cons g gl => have := h g.n; rw [getL_cons, if_pos rfl] at this; cases this
  | cons f fl ih => cases gl with
    | nil => have := h f.n; rw [getL_cons, if_pos rfl] at this; cases this
    | cons g gl =>
      obtain ⟨a1, a2⟩ := List.pairwise_cons.1 h1
      obtain ⟨b1, b2⟩ := List.pairwise_cons.1 h2
      have hfg : f = g := by
        rcases Nat.lt_trichotomy f.n g.n with hlt | heq | hlt
        · have := h f.n
          rw [getL_cons, if_pos rfl, getL_none_of (by
            intro x hx
            rcases List.mem_cons.1 hx with rfl | hx
            · omega
            · have := b1 x hx; omega)] at this
          cases this
        · have := h f.n
          rw [getL_cons, if_pos rfl, getL_cons, if_pos heq.symm] at this
          exact Option.some.inj this
        · have := h g.n
          rw [getL_cons g gl, if_pos rfl, getL_none_of (by
            intro x hx
            rcases List.mem_cons.1 hx with rfl | hx
            · omega
            · have := a1 x hx; omega)] at this
          cases this
      subst hfg
      rw [ih a2 b2 fun n => ?_]
      have := h n
      rw [getL_cons, getL_cons] at this
      by_cases hn : f.n = n
      · rw [getL_none_of (by intro x hx; have := a1 x hx; omega), getL_none_of (by intro x hx; have := b1 x hx; omega)]
      · simpa [hn] using this

theorem DS.lay_get {D : DS} (hs : D.fl.Pairwise (fun f g => f.n < g.n)) (f : F) (n : Nat) : getL (D.lay f).fl n = if n = f.n then (if f.d = [] then none else some f) else getL D.fl n := getL_lay hs f n
/-- A file whose first m bytes stay. -/
def cut1 (m : Nat) (f : F) : Option F := if f.d.take m = [] then none else some ⟨f.n, f.d.take m, m⟩
def truncL (κ : Nat → Nat) (fl : List F) : List F := fl.filterMap fun f => cut1 (κ f.n) f
theorem getL_trunc (κ : Nat → Nat) {fl : List F} (hs : fl.Pairwise (fun f g => f.n < g.n)) (n : Nat) : getL (truncL κ fl) n = (getL fl n).bind (cut1 (κ n)) := by
  induction fl with
  | nil => rfl
  | cons g fl ih =>
    obtain ⟨h1, h2⟩ := List.pairwise_cons.1 hs
    have ih := ih h2
    simp only [truncL, List.filterMap_cons] at ih ⊢
    have hno : g.n = n → getL fl n = none := fun h => getL_none_of (by intro x hx; have := h1 x hx; omega)
    by_cases hd : g.d.take (κ g.n) = []
    · simp only [cut1, if_pos hd]
      rw [getL_cons]
      by_cases hn : g.n = n
      · rw [if_pos hn]
        have h3 := hno hn
        rw [h3] at ih
        simp only [cut1] at ih
        rw [ih, ← hn]
        simp [cut1, hd]
      · rw [if_neg hn]; exact ih
    · simp only [cut1, if_neg hd]
      rw [getL_cons, getL_cons]
      by_cases hn : g.n = n
      · simp only [if_pos hn, Option.bind_some]
        rw [← hn]; simp only [cut1, if_neg hd]
      · simp only [if_neg hn]; exact ih
theorem sorted_trunc (κ : Nat → Nat) {fl : List F} (hs : fl.Pairwise (fun f g => f.n < g.n)) : (truncL κ fl).Pairwise (fun f g => f.n < g.n) := by
  unfold truncL
  rw [List.pairwise_filterMap]
  refine hs.imp ?_
  intro f g h x hx y hy
  simp only [cut1] at hx hy
  split at hx
  · cases hx
  · split at hy
    · cases hy
    · simp at hx hy; subst hx; subst hy; exact h

variable {name : List UInt8} {P : PlateS} {D : DS}
theorem crashGo_L (ks : List Int) : ∀ (ms : List Nat) (i : Nat) (P : PlateS) (D : DS), Rp name P D → ms.Nodup → (∀ n ∈ ms, 0 < n ∧ n < 100) → ∃ D' : DS, ∃ κ : Nat → Nat, Rp name (crashGo ks i (ms.map (fname name)) P) D' ∧ D'.room = D.room ∧ D'.left = D.left ∧
    (∀ n ∈ ms, getL D'.fl n = (getL D.fl n).bind (cut1 (κ n)) ∧ safL D.fl n ≤ κ n ∧ κ n ≤ (datL D.fl n).length ∧ (ks = [] → κ n = safL D.fl n)) ∧ ∀ n, n ∉ ms → getL D'.fl n = getL D.fl n
  | [], i, P, D, h, _, _ => ⟨D, fun _ => 0, h, rfl, rfl, by simp, by simp⟩
  | n :: ms, i, P, D, h, hnd, hs => by
    rw [List.nodup_cons] at hnd
    have h1 := hs n (by simp)
    have e1 := h.has.dat h.wf.names h1.2
    have e2 := h.has.saf h.wf.names h1.2
    have hsafe := h.wf.safe (fname name n)
    rw [e1, e2] at hsafe
    have hk := keepN_le (ks := ks) (i := i) hsafe
    have hk2 : safL D.fl n ≤ keepN ks i (datL D.fl n).length (safL D.fl n) := by unfold keepN; omega
    have hk3 : ks = [] → keepN ks i (datL D.fl n).length (safL D.fl n) = safL D.fl n := by rintro rfl; simp [keepN]
    generalize hm : keepN ks i (datL D.fl n).length (safL D.fl n) = m at hk hk2 hk3
    have e3 : (⟨fname name n, (dataF P.files (fname name n)).take (keepN ks i (dataF P.files (fname name n)).length (safeF P.files (fname name n))), keepN ks i (dataF P.files (fname name n)).length (safeF P.files (fname name n))⟩ : FileS) = fS name ⟨n, (datL D.fl n).take m, m⟩ := by rw [e1, e2, hm]; rfl
    have hl : Rp name (P.lay (fS name ⟨n, (datL D.fl n).take m, m⟩)) (D.lay ⟨n, (datL D.fl n).take m, m⟩) := h.lay _ h1 (by simp; omega) (by have := h.wf.cap; dsimp only; rw [List.length_take]; omega)
    obtain ⟨D', κ, a1, a2, a3, a4, a5⟩ := crashGo_L ks ms (i + 1) _ _ hl hnd.2 fun k hk => hs k (by simp [hk])
    have hg := fun k => DS.lay_get h.has.sorted ⟨n, (datL D.fl n).take m, m⟩ k
    have hfix : ∀ k, k ≠ n → getL (D.lay ⟨n, (datL D.fl n).take m, m⟩).fl k = getL D.fl k := fun k hk => by rw [hg, if_neg hk]
    refine ⟨D', fun k => if k = n then m else κ k, ?_, a2, a3, ?_, ?_⟩
    · rw [List.map_cons, crashGo, e3]; exact a1
    · intro k hk'
      by_cases hkn : k = n
      · subst hkn
        simp only [if_true]
        refine ⟨?_, hk2, hk, hk3⟩
        rw [a5 k hnd.1, hg, if_pos rfl]
        cases hgk : getL D.fl k with
        | none => simp [datL, hgk]
        | some f =>
          have hfn : f.n = k := by simpa using List.find?_some hgk
          simp [datL, hgk, cut1, hfn]
      · simp only [if_neg hkn]
        rcases List.mem_cons.1 hk' with hk' | hk'
        · exact absurd hk' hkn
        · have := a4 k hk'
          have e4 : safL (D.lay ⟨n, (datL D.fl n).take m, m⟩).fl k = safL D.fl k := by simp only [safL, hfix k hkn]
          have e5 : datL (D.lay ⟨n, (datL D.fl n).take m, m⟩).fl k = datL D.fl k := by rw [datL, hfix k hkn]; rfl
          rw [hfix k hkn, e4, e5] at this
          exact this
    · intro k hk'
      have hkn : k ≠ n := fun h => hk' (by simp [h])
      rw [a5 k fun h => hk' (by simp [h]), hfix k hkn]
/-- What a crash leaves. -/
structure Crashed (ks : List Int) (D D' : DS) : Prop where
  room : D'.room = D.room
  armed : D'.armed = false
  down : D'.down = false
  keep : ∃ κ : Nat → Nat, D'.fl = truncL κ D.fl ∧ (∀ f ∈ D.fl, f.s ≤ κ f.n ∧ κ f.n ≤ f.d.length) ∧ (ks = [] → ∀ f ∈ D.fl, κ f.n = f.s)
theorem Rp.crash (h : Rp name P D) (ks : List Int) : ∃ D', Rp name (P.crash ks) D' ∧ Crashed ks D D' := by
  obtain ⟨ms, p1, p2⟩ := names_of h.has.nums
  have hsm : ∀ n ∈ ms, 0 < n ∧ n < 100 := fun n hn => h.has.nums.small n (p1.subset hn)
  have hnd : ms.Nodup := by
    refine p1.nodup_iff.2 ?_
    rw [List.Nodup]
    exact h.has.nums.sorted.imp (by intro a b; omega)
  obtain ⟨D', κ, a1, a2, a3, a4, a5⟩ := crashGo_L ks ms 0 P D h hnd hsm
  rw [← p2] at a1
  refine ⟨{ D' with armed := false, down := false }, ⟨a1.nm, ?_, ⟨a1.has.perm, a1.has.sorted, a1.has.small, a1.has.full⟩, a1.room, rfl, a1.left, rfl⟩, a2, rfl, rfl, κ, ?_, ?_, ?_⟩
  · exact ⟨a1.wf.names, a1.wf.used, a1.wf.cap, a1.wf.room, a1.wf.left, a1.wf.safe⟩
  · refine ext_L a1.has.sorted (sorted_trunc κ h.has.sorted) fun n => ?_
    rw [getL_trunc κ h.has.sorted]
    by_cases hn : n ∈ ms
    · exact (a4 n hn).1
    · have : getL D.fl n = none := getL_none_of (by
        intro g hg hc
        exact hn (p1.symm.subset (List.mem_map.2 ⟨g, hg, hc⟩)))
      rw [this]
      dsimp only
      rw [a5 n hn, this]; rfl
  all_goals
    have hget : ∀ f ∈ D.fl, f.n ∈ ms ∧ getL D.fl f.n = some f := by
      intro f hf
      refine ⟨p1.symm.subset (List.mem_map.2 ⟨f, hf, rfl⟩), ?_⟩
      obtain ⟨a, b, hab⟩ := List.append_of_mem hf
      have hs := h.has.sorted
      rw [hab] at hs ⊢
      refine getL_mid fun x hx => ?_
      have := (List.pairwise_append.1 hs).2.2 x hx f (by simp)
      omega
  · intro f hf
    obtain ⟨hn, hg⟩ := hget f hf
    have := (a4 f.n hn).2
    simp only [safL, datL, hg, Option.map_some, Option.getD_some] at this
    exact ⟨this.1, this.2.1⟩
  · intro hks f hf
    obtain ⟨hn, hg⟩ := hget f hf
    have := (a4 f.n hn).2.2.2 hks
    simpa [safL, hg] using this
end Go.AM
/-
  A log and its plate in the heap; the calls of the plate; first, drop, Sync, Count.
-/
namespace Go.AM
open Go
set_option maxRecDepth 20000

/-- A plate that is a log's. -/
def DkAt (R S : St) (p : Nat) (name : List UInt8) (D : DS) : Prop := ∃ P, PlAt R S p P ∧ Rp name P D
/-- A log. -/
def WkAt (R S : St) (w p : Nat) (W : WalS) (D : DS) : Prop := R.obj w = none ∧ DkAt (R.setObj w (.cells (wcells p W))) S p W.name D
variable {R R' S S' : St} {p w n k : Nat} {W W' : WalS} {D : DS} {name : List UInt8} {K E : AV → St → Prop}

theorem DkAt.rle (h : DkAt R S p name D) : R.le S := let ⟨_, h, _⟩ := h; h.rle
theorem DkAt.grow (h : DkAt R S p name D) (hl : S.le S') : DkAt R S' p name D := let ⟨P, h, k⟩ := h; ⟨P, h.grow hl, k⟩
theorem DkAt.weaken (h : DkAt R' S p name D) (hl : R.le R') : DkAt R S p name D := let ⟨P, h, k⟩ := h; ⟨P, h.weaken hl, k⟩
theorem WkAt.dk (h : WkAt R S w p W D) : DkAt (R.setObj w (.cells (wcells p W))) S p W.name D := h.2
theorem WkAt.plate (h : WkAt R S w p W D) : DkAt R S p W.name D := h.2.weaken (stle_setObj (St.le_refl _) h.1 _)
theorem WkAt.rle (h : WkAt R S w p W D) : R.le S := St.le_trans (stle_setObj (St.le_refl _) h.1 _) h.2.rle
theorem WkAt.obj (h : WkAt R S w p W D) : S.obj w = some (.cells (wcells p W)) := h.2.rle.1 _ _ (by simp)
theorem WkAt.set (h : WkAt R S w p W D) (W' : WalS) (hn : W'.name = W.name) : WkAt R (S.setObj w (.cells (wcells p W'))) w p W' D := by
  obtain ⟨h1, P, h2, h3⟩ := h
  exact ⟨h1, P, h2.both _, by rw [hn]; exact h3⟩
theorem WkAt.nm (h : WkAt R S w p W D) : 1 ≤ W.name.length ∧ W.name.length ≤ 32 := let ⟨_, _, _, h⟩ := h; h.nm
theorem WkAt.grow (h : WkAt R S w p W D) (hl : S.le S') : WkAt R S' w p W D := ⟨h.1, h.2.grow hl⟩
theorem Rp.len {P : PlateS} (h : Rp name P D) (hn : n < 100) : (datL D.fl n).length ≤ 268435456 := by
  have h1 := h.wf.data (fname name n)
  have h2 := h.wf.cap
  have h3 := h.wf.room
  rw [h.has.dat h.wf.names hn] at h1
  omega
theorem WkAt.len (h : WkAt R S w p W D) (hn : n < 100) : (datL D.fl n).length ≤ 268435456 := let ⟨_, _, _, h⟩ := h; h.len hn

/-! ## The calls of the plate -/
theorem call_syn (h : DkAt R S p name D) (hn : 0 < n ∧ n < 100) (k : ∀ S', DkAt R S' p name (D.syn n).2 → K (.int .i64 (D.syn n).1) S') : ccall Sp38 [.ptr (some (p, 0)), .str (bstr (fname name n))] S K E := by
  obtain ⟨P, h1, h2⟩ := h
  obtain ⟨e1, e2⟩ := h2.syn hn
  refine ccall_r (R, p, P, fname name n) ⟨rfl, h1, h2.wf.calm⟩ ?_
  rintro _ S' ⟨rfl, h3⟩
  dsimp only at h3 ⊢
  rw [e1]
  exact k S' ⟨_, h3, e2⟩
theorem call_cut (h : DkAt R S p name D) (hn : 0 < n ∧ n < 100) {m : Nat} (hm : m ≤ (datL D.fl n).length) (k : ∀ S', DkAt R S' p name (D.cut n m).2 → K (.int .i64 (D.cut n m).1) S') : ccall Sp52 [.ptr (some (p, 0)), .str (bstr (fname name n)), .int .i64 m] S K E := by
  obtain ⟨P, h1, h2⟩ := h
  obtain ⟨e1, e2⟩ := h2.cut hn m
  refine ccall_r (R, p, P, fname name n, m) ⟨rfl, h1, h2.wf.calm, by dsimp only; rw [h2.has.dat h2.wf.names hn.2]; exact hm⟩ ?_
  rintro _ S' ⟨rfl, h3⟩
  dsimp only at h3 ⊢
  rw [e1]
  exact k S' ⟨_, h3, e2⟩
theorem call_app (h : DkAt R S p name D) (hn : 0 < n ∧ n < 100) {v : AV} {d : List UInt8} (hB : Byt R v d) (hd : d.length ≤ 268435456) (k : ∀ S', DkAt R S' p name (D.app n d).2 → K (.int .i64 (D.app n d).1) S') : ccall Sp39 [.ptr (some (p, 0)), .str (bstr (fname name n)), v] S K E := by
  obtain ⟨P, h1, h2⟩ := h
  obtain ⟨e1, e2⟩ := h2.app hn d
  have hl := h2.len hn.2
  refine ccall_r (R, p, P, fname name n, v, d) ⟨rfl, h1, h2.wf.calm, hB, by dsimp only; rw [h2.has.dat h2.wf.names hn.2]; omega⟩ ?_
  rintro _ S' ⟨rfl, h3⟩
  dsimp only at h3 ⊢
  rw [e1]
  exact k S' ⟨_, h3, e2⟩
theorem call_read (h : DkAt R S p name D) (hn : 0 < n ∧ n < 100) (hd : D.down = false) (k : ∀ o, (o = .nil → datL D.fl n = []) → K (.tuple [bsl (datL D.fl n) o, .int .i64 0]) S) : ccall Sp30 [.ptr (some (p, 0)), .str (bstr (fname name n))] S K E := by
  obtain ⟨P, h1, h2⟩ := h
  refine ccall_r (R, p, P, fname name n) ⟨rfl, h1, h2.wf.calm⟩ ?_
  rintro v S' ⟨rfl, h3⟩
  have hk := fname_ok h2.nm hn.2
  have ha : P.asked (fname name n) = 0 := by unfold PlateS.asked; rw [if_neg (by omega), h2.down, hd]; rfl
  dsimp only at h3
  rw [if_pos ha, h2.has.dat h2.wf.names hn.2] at h3
  obtain ⟨o, rfl, h4⟩ := h3
  exact k o h4
theorem call_file (h : WkAt R S w p W D) (hn : n < 100) (k : K (.str (bstr (fname W.name n))) S) : ccall Sp31 [.ptr (some (w, 0)), .int .i64 n] S K E := by
  have hnm := h.nm
  refine ccall_r (w, p, W, n) ⟨rfl, hn, h.obj, by dsimp only; omega⟩ ?_
  rintro _ S' ⟨rfl, rfl⟩
  exact k
theorem call_nums (h : WkAt R S w p W D) (k : ∀ v S', VecAt S S' v (D.fl.map fun f => avI f.n) → K v S') : ccall Sp29 [.ptr (some (w, 0))] S K E := by
  obtain ⟨h0, P, h1, h2⟩ := h
  have hnm := h2.nm
  have hf := h2.has.few
  refine ccall_r (R.setObj w (.cells (wcells p W)), w, p, W, P, D.fl.map (·.n)) ⟨rfl, by simp, h1, h2.has.nums, by dsimp only; omega, by dsimp only; omega⟩ ?_
  intro v S' hV
  dsimp only at hV
  rw [List.map_map, List.map_map] at hV
  exact k v S' hV
theorem call_crash (h : DkAt R S p name D) (ks : List Int) (o : Own) (k : ∀ S' D', Crashed ks D D' → DkAt R S' p name D' → K (.tuple []) S') : ccall Sp25 [.ptr (some (p, 0)), .slice (ks.map avI) ks.length o] S K E := by
  obtain ⟨P, h1, h2⟩ := h
  obtain ⟨D', e1, e2⟩ := h2.crash ks
  have hf := h2.has.few
  refine ccall_r (R, p, P, ks, o) ⟨rfl, h1, h2.wf, by dsimp only; omega⟩ ?_
  rintro _ S' ⟨rfl, h3⟩
  exact k S' D' e2 ⟨_, h3, e1⟩

/-! ## The log's -/
/-- A log whose power may have gone out. -/
def WalS.fst (W : WalS) (e : Nat) : WalS := if e = 0 then W else { W with dead := W.dead || decide (e = 9) }
theorem fst_name (W : WalS) (e : Nat) : (W.fst e).name = W.name := by unfold WalS.fst; split <;> rfl
theorem fst_zero (W : WalS) : W.fst 0 = W := rfl
def Sp37 : Spec := rspec (fun (x : St × Nat × Nat × WalS × DS × Nat × Own) args S => args = [.ptr (some (x.2.1, 0)), .slice [.int .i64 x.2.2.2.2.2.1] 1 x.2.2.2.2.2.2] ∧ WkAt x.1 S x.2.1 x.2.2.1 x.2.2.2.1 x.2.2.2.2.1)
  fun x S v S' => v = .int .i64 x.2.2.2.2.2.1 ∧ WkAt x.1 S' x.2.1 x.2.2.1 (x.2.2.2.1.fst x.2.2.2.2.2.1) x.2.2.2.2.1
theorem s37 : Sound PR 37 Sp37 := by
  refine sound_r PR_mixed sounds_nil monos_nil (own := own []) (ord := O37) (lh := H37) (fn := Go.Proofs.Tryz.f37) (by kernel_rfl) (by kernel_rfl) ?_
  rintro ⟨R, w, p, W, D, e, o⟩ args S ⟨rfl, h⟩
  rw [W37_eq]
  refine ⟨rfl, ?_⟩
  unfold W37
  dsimp only at h ⊢
  simp only [obind_some, g, Nat.zero_add, Nat.reduceAdd, k_faddr_p, k_len_s, k_load_p, k_nilck_p, k_store_p, k_get1]
  refine aloop_inv (fun n l S' => S' = S ∧ ((n = 1 ∧ l = [.int .i64 0]) ∨ (n = 0 ∧ l = [.int .i64 1] ∧ e = 0))) 1 ⟨rfl, .inl ⟨rfl, rfl⟩⟩ ?_
  have hw := h.obj
  rintro n _ S ⟨rfl, ⟨rfl, rfl⟩ | ⟨rfl, rfl, rfl⟩⟩ rec hrec
  · have h01 : (0 : Int) < ((1 : Nat) : Int) := by omega
    have hw01 : IntKind.i64.wrap ((0 : Int) + 1) = 1 := by rw [IntWalk.i64_in _ (by omega)]; rfl
    have had : xiaddr 1 (.slice [.int .i64 e] 1 o) (.int .i64 0) = some (.ref [.int .i64 e]) := by rw [k_iaddr_s _ _ _ _ _ _ (by omega)]; rfl
    simp only [obind_some, asplit_true, List.getD_cons_zero, List.getElem?_cons_zero, ne_eq, decide_true, k_add, k_load_r, k_lss, k_neq, k_get1, h01, had]
    by_cases he : e = 0
    · subst he
      simp only [asplit_false, eq_self, not_true, decide_false, Int.natCast_zero, hw01]
      exact ⟨S, St.le_refl _, hrec 0 _ _ (by omega) ⟨rfl, .inr ⟨rfl, rfl, rfl⟩⟩⟩
    · have he' : ¬ ((e : Int) = 0) := by omega
      simp only [obind_some, asplit_true, List.length, List.getElem?_cons_zero, List.getElem?_cons_succ, true_and, not_false_eq_true, Nat.zero_add, Nat.reduceAdd, Nat.le_refl, decide_true, k_gv_b, k_pick, he', hw, wcells]
      have hfst : W.fst e = { W with dead := W.dead || decide (e = 9) } := by unfold WalS.fst; rw [if_neg he]
      have key : WkAt R (S.setObj w (.cells (wcells p (W.fst e)))) w p (W.fst e) D := h.set _ (fst_name W e)
      have hd : decide ((e : Int) = 9) = decide (e = 9) := by congr 1; apply propext; omega
      cases hdead : W.dead
      · simp only [obind_some, setList, List.set, List.length, List.all, if_false, if_pos, true_and, Bool.and_self, eq_self, Nat.zero_add, Bool.false_eq_true, k_cells_b, k_eql, k_ok_b, hd]
        refine done' ⟨rfl, ?_⟩
        rw [hfst, hdead] at key
        rw [hfst, hdead]
        exact key
      · simp only [obind_some, setList, List.set, List.length, List.all, if_false, if_pos, true_and, Bool.and_self, eq_self, Nat.zero_add, reduceCtorEq, k_cells_b, k_ok_b]
        refine done' ⟨rfl, ?_⟩
        rw [hfst, hdead] at key
        rw [hfst, hdead]
        exact key
  · have h01 : ¬ (1 : Int) < ((1 : Nat) : Int) := by omega
    simp only [obind_some, asplit_false, List.getD_cons_zero, decide_false, k_add, k_lss, h01]
    exact done' ⟨rfl, h⟩
theorem call_first (h : WkAt R S w p W D) {e : Nat} {o : Own} (k : ∀ S', WkAt R S' w p (W.fst e) D → K (.int .i64 e) S') : ccall Sp37 [.ptr (some (w, 0)), .slice [.int .i64 e] 1 o] S K E := by
  refine ccall_r (R, w, p, W, D, e, o) ⟨rfl, h⟩ ?_
  rintro _ S' ⟨rfl, h'⟩
  exact k S' h'

/-- A file goes. -/
def Sp33 : Spec := rspec (fun (x : St × Nat × Nat × WalS × DS × Nat) args S => args = [.ptr (some (x.2.1, 0)), .int .i64 x.2.2.2.2.2] ∧ WkAt x.1 S x.2.1 x.2.2.1 x.2.2.2.1 x.2.2.2.2.1 ∧ 0 < x.2.2.2.2.2 ∧ x.2.2.2.2.2 < 100)
  fun x S v S' => v = .int .i64 (x.2.2.2.2.1.cut x.2.2.2.2.2 0).1 ∧ WkAt x.1 S' x.2.1 x.2.2.1 (x.2.2.2.1.fst (x.2.2.2.2.1.cut x.2.2.2.2.2 0).1) (x.2.2.2.2.1.cut x.2.2.2.2.2 0).2
theorem s33 : Sound PR 33 Sp33 := by
  refine sound_r PR_mixed (sounds_cons s31 (sounds_cons s37 (sounds_cons s52 sounds_nil))) (monos_cons (rspec_mono _ _) (monos_cons (rspec_mono _ _) (monos_cons (rspec_mono _ _) monos_nil))) (own := own []) (ord := O33) (lh := H33) (fn := Go.Proofs.Tryz.f33) (by kernel_rfl) (by kernel_rfl) ?_
  rintro ⟨R, w, p, W, D, n⟩ args S ⟨rfl, h, hn⟩
  rw [W33_eq]
  refine ⟨rfl, ?_⟩
  unfold W33
  dsimp only at h hn ⊢
  have hw := h.obj
  simp only [obind_some, xfill, xbslice, List.length, List.getElem?_cons_zero, and_true, Nat.zero_add, Nat.add_zero, Nat.le_refl, k_faddr_p, k_load_p, k_nilck_p, k_get1, hw, wcells]
  refine call_file h hn.2 ?_
  simp only [List.getElem?_cons_zero, true_and, eq_self, hw, wcells]
  refine call_cut h.dk hn (m := 0) (by omega) ?_
  intro S1 h1
  have h1' : WkAt R S1 w p W (D.cut n 0).2 := ⟨h.1, h1⟩
  simp only [obind_some, setList, Option.map_some, List.set, List.length, if_pos, eq_self, Nat.zero_add, k_cells_i]
  refine call_first h1' ?_
  intro S2 h2
  exact done' ⟨rfl, h2⟩
theorem call_drop (h : WkAt R S w p W D) (hn : 0 < n ∧ n < 100) (k : ∀ S', WkAt R S' w p (W.fst (D.cut n 0).1) (D.cut n 0).2 → K (.int .i64 (D.cut n 0).1) S') : ccall Sp33 [.ptr (some (w, 0)), .int .i64 n] S K E := by
  refine ccall_r (R, w, p, W, D, n) ⟨rfl, h, hn⟩ ?_
  rintro _ S' ⟨rfl, h'⟩
  exact k S' h'

/-- Sync. -/
def Sp13 : Spec := rspec (fun (x : St × Nat × Nat × WalS × DS) args S => args = [.ptr (some (x.2.1, 0))] ∧ WkAt x.1 S x.2.1 x.2.2.1 x.2.2.2.1 x.2.2.2.2 ∧ (x.2.2.2.1.dead = true ∨ (0 < x.2.2.2.1.num ∧ x.2.2.2.1.num < 100)))
  fun x S v S' => if x.2.2.2.1.dead then v = .int .i64 9 ∧ S' = S else v = .int .i64 (x.2.2.2.2.syn x.2.2.2.1.num).1 ∧ WkAt x.1 S' x.2.1 x.2.2.1 (x.2.2.2.1.fst (x.2.2.2.2.syn x.2.2.2.1.num).1) (x.2.2.2.2.syn x.2.2.2.1.num).2
theorem s13 : Sound PR 13 Sp13 := by
  refine sound_r PR_mixed (sounds_cons s31 (sounds_cons s37 (sounds_cons s38 sounds_nil))) (monos_cons (rspec_mono _ _) (monos_cons (rspec_mono _ _) (monos_cons (rspec_mono _ _) monos_nil))) (own := own []) (ord := O13) (lh := H13) (fn := Go.Proofs.Tryz.f13) (by kernel_rfl) (by kernel_rfl) ?_
  rintro ⟨R, w, p, W, D⟩ args S ⟨rfl, h, hn⟩
  rw [W13_eq]
  refine ⟨rfl, ?_⟩
  unfold W13
  dsimp only at h hn ⊢
  have hw := h.obj
  cases hd : W.dead
  · have hn := hn.resolve_left (by rw [hd]; simp)
    simp only [obind_some, asplit_false, xfill, xbslice, List.length, List.getElem?_cons_zero, List.getElem?_cons_succ, if_false, and_true, Bool.not_false, Nat.zero_add, Nat.add_zero, Nat.le_refl, Option.isNone_some, Bool.false_eq_true, k_faddr_p, k_isnil, k_load_p, k_nilck_p, k_nilp_p, k_get1, hw, wcells, hd]
    refine call_file h hn.2 ?_
    simp only [List.getElem?_cons_zero, true_and, eq_self, hw, wcells]
    refine call_syn h.dk hn ?_
    intro S1 h1
    have h1' : WkAt R S1 w p W (D.syn W.num).2 := ⟨h.1, h1⟩
    simp only [obind_some, setList, Option.map_some, List.set, List.length, if_pos, eq_self, Nat.zero_add, k_cells_i]
    refine call_first h1' ?_
    intro S2 h2
    exact done' ⟨rfl, h2⟩
  · simp only [obind_some, asplit_true, asplit_false, xfill, xbslice, List.length, List.getElem?_cons_zero, List.getElem?_cons_succ, if_false, if_pos, and_true, Bool.not_false, eq_self, Nat.zero_add, Nat.add_zero, Nat.le_refl, Option.isNone_some, Bool.false_eq_true, k_faddr_p, k_isnil, k_load_p, k_nilck_p, k_nilp_p, k_get1, hw, wcells, hd]
    exact done' ⟨rfl, rfl⟩
/-- Count. -/
def Sp15 : Spec := rspec (fun (x : St × Nat × Nat × WalS × DS) args S => args = [.ptr (some (x.2.1, 0))] ∧ WkAt x.1 S x.2.1 x.2.2.1 x.2.2.2.1 x.2.2.2.2)
  fun x S v S' => v = .int .i64 x.2.2.2.1.count ∧ S' = S
theorem s15 : Sound PR 15 Sp15 := by
  refine sound_r PR_mixed sounds_nil monos_nil (own := own []) (ord := O15) (lh := H15) (fn := Go.Proofs.Tryz.f15) (by kernel_rfl) (by kernel_rfl) ?_
  rintro ⟨R, w, p, W, D⟩ args S ⟨rfl, h⟩
  rw [W15_eq]
  refine ⟨rfl, ?_⟩
  unfold W15
  dsimp only at h ⊢
  have hw := h.obj
  simp only [obind_some, asplit_false, List.getElem?_cons_zero, List.getElem?_cons_succ, if_false, Bool.not_false, Nat.zero_add, Option.isNone_some, Bool.false_eq_true, k_faddr_p, k_isnil, k_load_p, k_nilck_p, k_nilp_p, k_get1, hw, wcells]
  exact done' ⟨rfl, rfl⟩
end Go.AM
/-
  wal: begin, Checkpoint, Append.
-/
namespace Go.AM
open Go
set_option maxRecDepth 20000

/-- Changes, until one is refused. -/
inductive Op
  | cut (n k : Nat)
  | syn (n : Nat)
def DS.op (D : DS) : Op → Nat × DS
  | .cut n k => D.cut n k
  | .syn n => D.syn n
def DS.run (D : DS) : List Op → Nat × DS
  | [] => (0, D)
  | o :: os => if (D.op o).1 ≠ 0 then D.op o else (D.op o).2.run os
/-- All files go but one. -/
def others (n : Nat) (ns : List Nat) : List Op := (ns.filter (fun k => k != n)).map fun k => .cut k 0
/-- A file that begins with a base. -/
def DS.begin (D : DS) (n : Nat) (b : List UInt8) : Nat × DS :=
  if (D.app n (frameB 0 b)).1 ≠ 0 then D.app n (frameB 0 b) else
  if ((D.app n (frameB 0 b)).2.syn n).1 ≠ 0 then (D.app n (frameB 0 b)).2.syn n else
  ((D.app n (frameB 0 b)).2.syn n).2.run (others n (((D.app n (frameB 0 b)).2.syn n).2.fl.map (·.n)))
/-- A log behind a call. -/
def After (W W1 : WalS) (e : Nat) (W' : WalS) : Prop := W'.name = W.name ∧ (e = 0 → W' = W1) ∧ (e = 9 → W'.dead = true)
theorem After.fst {W W1 W2 : WalS} {e : Nat} (he : e ≠ 0) (hn : W2.name = W.name) : After W W1 e (W2.fst e) := by
  refine ⟨(fst_name _ _).trans hn, fun h => absurd h he, fun h => ?_⟩
  subst h
  simp [WalS.fst]

variable {R R' S S' S1 : St} {p w n k : Nat} {W W' : WalS} {D : DS} {name : List UInt8} {K E : AV → St → Prop}
theorem setObj_comm (S : St) {a b : Nat} (h : a ≠ b) (x y : AObj) : (S.setObj a x).setObj b y = (S.setObj b y).setObj a x := by
  simp only [St.setObj, St.mk.injEq, and_true]
  funext i
  by_cases h1 : i = a
  · subst h1; simp [h]
  · by_cases h2 : i = b
    · subst h2; simp [h1]
    · simp [h1, h2]
theorem WkAt.weaken (h : WkAt R' S w p W D) (hl : R.le R') : WkAt R S w p W D := ⟨stle_obj hl h.1, h.2.weaken (stle_both hl _ _)⟩
theorem VecAt.readW {v : AV} {cs : List AV} (hV : VecAt S S1 v cs) (h : WkAt R S w p W D) : ∃ R', R.le R' ∧ WkAt R' S1 w p W D ∧ xlen v = some (.int .i64 cs.length) ∧
    ∀ S', R'.le S' → ∀ (i : Nat) a, cs[i]? = some a → ∃ ad, xiaddr 1 v (.int .i64 i) = some ad ∧ xload false 1 ad S' = some a := by
  obtain ⟨hle, ⟨rfl, rfl⟩ | ⟨b, rfl, hb, h0⟩⟩ := hV
  · exact ⟨R, St.le_refl _, h.grow hle, rfl, fun _ _ i a h => by simp at h⟩
  · have hRb : R.obj b = none := stle_obj h.rle h0
    have hwb : w ≠ b := by rintro rfl; rw [h.obj] at h0; cases h0
    obtain ⟨hw, P, hP, hrp⟩ := h
    refine ⟨R.setObj b (.vec cs), stle_setObj (St.le_refl _) hRb _, ⟨by simp [hwb, hw], P, ?_, hrp⟩, rfl, fun S' hS' i a ha => ?_⟩
    · rw [setObj_comm _ hwb.symm]
      exact hP.frame hle hb h0
    · have hi : i < cs.length := by
        rcases Nat.lt_or_ge i cs.length with h | h
        · exact h
        · rw [List.getElem?_eq_none h] at ha; cases ha
      refine ⟨.ptr (some (b, 0 + (i : Int).toNat * 1)), k_iaddr_m b 0 0 cs.length 1 i .i64 none ⟨by omega, by omega⟩ |>.trans (by simp), ?_⟩
      have := hS'.1 b (.vec cs) (by simp)
      simp [xload, this, getCells, ha]
theorem frame_len (k : Nat) (s : List UInt8) (hk : k ≤ 2) (hs : s.length ≤ 60000) : 10 ≤ (frameB k s).length ∧ (frameB k s).length ≤ s.length + 14 := by
  have h1 := uv_small k (by omega)
  have h2 := uv_small s.length (by omega)
  have h3 : 1 ≤ (uv k).length := by rw [uv]; split <;> simp
  have h4 : 1 ≤ (uv s.length).length := by rw [uv]; split <;> simp
  simp only [frameB, around, body, List.length_append, be4_length]
  omega
theorem call_frame (v : AV) (s : List UInt8) (k : Nat) (hk : k ≤ 2) (hs : s.length ≤ 60000) (hB : Byt S v s) (K1 : K (bsl (frameB k s) .ro) S) : ccall Sp36 [.int .i64 k, v] S K E := by
  refine ccall_r (k, v, s) ⟨rfl, by dsimp only; omega, hs, hB⟩ ?_
  rintro _ S' ⟨rfl, rfl⟩
  exact K1

def Sp34 : Spec := rspec (fun (x : St × Nat × Nat × WalS × DS × Nat × AV × List UInt8) args S => args = [.ptr (some (x.2.1, 0)), .int .i64 x.2.2.2.2.2.1, x.2.2.2.2.2.2.1] ∧ WkAt x.1 S x.2.1 x.2.2.1 x.2.2.2.1 x.2.2.2.2.1 ∧ Byt x.1 x.2.2.2.2.2.2.1 x.2.2.2.2.2.2.2 ∧
    x.2.2.2.2.2.2.2.length ≤ 60000 ∧ 0 < x.2.2.2.2.2.1 ∧ x.2.2.2.2.2.1 < 100)
  fun x S v S' => v = .int .i64 (x.2.2.2.2.1.begin x.2.2.2.2.2.1 x.2.2.2.2.2.2.2).1 ∧ ∃ W', WkAt x.1 S' x.2.1 x.2.2.1 W' (x.2.2.2.2.1.begin x.2.2.2.2.2.1 x.2.2.2.2.2.2.2).2 ∧
    After x.2.2.2.1 { x.2.2.2.1 with num := x.2.2.2.2.2.1, size := (frameB 0 x.2.2.2.2.2.2.2).length, count := 0 } (x.2.2.2.2.1.begin x.2.2.2.2.2.1 x.2.2.2.2.2.2.2).1 W'
theorem s34 : Sound PR 34 Sp34 := by
  refine sound_r PR_mixed (sounds_cons s29 (sounds_cons s31 (sounds_cons s33 (sounds_cons s36 (sounds_cons s37 (sounds_cons s38 (sounds_cons s39 sounds_nil))))))) (monos_cons (rspec_mono _ _) (monos_cons (rspec_mono _ _) (monos_cons (rspec_mono _ _) (monos_cons (rspec_mono _ _) (monos_cons (rspec_mono _ _) (monos_cons (rspec_mono _ _) (monos_cons (rspec_mono _ _) monos_nil))))))) (own := own []) (ord := O34) (lh := H34) (fn := Go.Proofs.Tryz.f34) (by kernel_rfl) (by kernel_rfl) ?_
  rintro ⟨R, w, p, W, D, n, v, b⟩ args S ⟨rfl, h, hB, hb, hn⟩
  rw [W34_eq]
  refine ⟨rfl, ?_⟩
  unfold W34
  dsimp only at h hB hb hn ⊢
  have hfl := frame_len 0 b (by omega) hb
  simp only [DS.begin]
  refine call_frame v b 0 (by omega) hb (hB.le h.rle) ?_
  have hw := h.obj
  simp only [obind_some, g, setList, xfill, xbslice, List.length, List.getElem?_cons_zero, List.all, St.obj_setObj, if_pos, and_true, true_and, Bool.and_self, eq_self, ne_eq, Nat.zero_add, Nat.add_zero, Nat.reduceAdd, Nat.le_refl, k_cells_i, k_faddr_p, k_load_p, k_nilck_p, k_ok_i, k_len_bsl, k_store_p, k_get1, hw, wcells]
  refine call_file h hn.2 ?_
  simp only [List.getElem?_cons_zero, true_and, eq_self, hw, wcells]
  refine call_app h.dk hn (.inl ⟨.ro, rfl, by simp⟩) (d := frameB 0 b) (by omega) ?_
  intro S1 h1
  generalize D.app n (frameB 0 b) = r1 at h1 ⊢
  obtain ⟨e1, D1⟩ := r1
  dsimp only at h1 ⊢
  have h1' : WkAt R S1 w p W D1 := ⟨h.1, h1⟩
  simp only [obind_some, setList, Option.map_some, List.set, List.length, if_pos, eq_self, Nat.zero_add, k_cells_i]
  refine call_first h1' ?_
  intro S2 h2
  by_cases he1 : e1 = 0
  · subst he1
    rw [fst_zero] at h2
    have hw := h2.obj
    have z0 : ((0 : Nat) : Int) = 0 := rfl
    simp only [obind_some, asplit_false, List.getElem?_cons_zero, if_false, eq_self, ne_eq, not_true, decide_false, k_neq, z0, hw, wcells]
    refine call_file h2 hn.2 ?_
    simp only [List.getElem?_cons_zero, true_and, eq_self, hw, wcells]
    refine call_syn h2.dk hn ?_
    intro S3 h3
    generalize D1.syn n = r2 at h3 ⊢
    obtain ⟨e2, D2⟩ := r2
    dsimp only at h3 ⊢
    have h3' : WkAt R S3 w p W D2 := ⟨h.1, h3⟩
    simp only [obind_some, setList, Option.map_some, List.set, List.length, if_pos, eq_self, Nat.zero_add, k_cells_i]
    refine call_first h3' ?_
    intro S4 h4
    by_cases he2 : e2 = 0
    · subst he2
      rw [fst_zero] at h4
      have hw := h4.obj
      have h5 := h4.set { W with num := n, size := (frameB 0 b).length, count := 0 } rfl
      simp only [obind_some, asplit_false, List.set, List.length, List.length_cons, if_false, true_and, eq_self, ne_eq, not_true, Nat.zero_add, Nat.reduceAdd, Nat.reduceLeDiff, decide_false, k_neq, z0, hw, wcells, setObj_setObj]
      refine call_nums h5 ?_
      intro v5 S5 hV
      obtain ⟨R', hRR, h6, hlv, hread⟩ := hV.readW h5
      have hfew : (D2.fl.map fun f => avI f.n).length ≤ 100 := by
        obtain ⟨_, P, _, hP⟩ := h4
        have := hP.has.perm.length_eq
        have := hP.has.few
        simp_all
      rw [hlv, obind_some]
      have hnums : (D2.fl.map fun f => avI f.n) = (D2.fl.map (·.n)).map (fun n : Nat => avI n) := by rw [List.map_map]; rfl
      rw [hnums] at hread hfew ⊢
      have hsm : ∀ k ∈ D2.fl.map (·.n), 0 < k ∧ k < 100 := by
        obtain ⟨_, P, _, hP⟩ := h4
        intro k hk
        obtain ⟨f, hf, rfl⟩ := List.mem_map.1 hk
        exact hP.has.small f hf
      generalize D2.fl.map (·.n) = ns at hread hfew hsm ⊢
      rw [List.length_map] at hfew ⊢
      refine aloop_inv (fun m l S' => ∃ i D3, l = [.int .i64 (i : Nat)] ∧ i ≤ ns.length ∧ m = ns.length - i ∧ WkAt R' S' w p { W with num := n, size := (frameB 0 b).length, count := 0 } D3 ∧ D2.run (others n ns) = D3.run (others n (ns.drop i))) ns.length
        ⟨0, D2, rfl, by omega, by omega, h6, rfl⟩ ?_
      rintro m _ S6 ⟨i, D3, rfl, hi, rfl, h7, hrun⟩ rec hrec
      simp only [obind_some, List.getD_cons_zero, k_add, k_lss]
      refine asplit_of _ ?_ ?_
      · intro hlt
        have hi' : i < ns.length := by omega
        generalize hk : ns[i] = k
        have hki : (ns.map fun n : Nat => avI n)[i]? = some (avI k) := by simp [List.getElem?_eq_getElem hi', hk]
        have hks := hsm k (by rw [← hk]; exact List.getElem_mem hi')
        obtain ⟨ad, ha1, ha2⟩ := hread S6 h7.rle i _ hki
        have hdrop : ns.drop i = k :: ns.drop (i + 1) := by rw [List.drop_eq_getElem_cons hi', hk]
        have hi1 : IntKind.i64.wrap ((i : Int) + 1) = ((i + 1 : Nat) : Int) := by rw [IntWalk.i64_in _ (by omega)]; simp
        rw [hdrop] at hrun
        by_cases hkn : k = n
        · have hkn' : (k : Int) = (n : Int) := by omega
          have hkb : (k != n) = false := by simpa using hkn
          simp only [obind_some, asplit_false, eq_self, ne_eq, not_true, decide_false, k_neq, ha1, ha2, avI, hkn', hi1]
          refine ⟨S6, St.le_refl _, hrec (ns.length - (i + 1)) _ _ (by omega) ⟨i + 1, D3, rfl, by omega, rfl, h7, ?_⟩⟩
          rw [hrun]
          simp only [others, List.filter_cons, hkb]
          rfl
        · have hkn' : ¬ (k : Int) = (n : Int) := by omega
          have hkb : (k != n) = true := by simpa using hkn
          have hrun' : D2.run (others n ns) = if (D3.cut k 0).1 ≠ 0 then D3.cut k 0 else (D3.cut k 0).2.run (others n (ns.drop (i + 1))) := by
            rw [hrun]
            simp only [others, List.filter_cons, hkb, if_true, List.map_cons, DS.run, DS.op]
            rfl
          simp only [obind_some, asplit_true, ne_eq, not_false_eq_true, decide_true, k_neq, ha1, ha2, avI, hkn']
          refine call_drop h7 hks ?_
          intro S7 h8
          generalize D3.cut k 0 = r3 at h8 hrun'
          obtain ⟨e3, D4⟩ := r3
          dsimp only at h8 hrun' ⊢
          by_cases he3 : e3 = 0
          · subst he3
            rw [fst_zero] at h8
            simp only [obind_some, asplit_false, eq_self, ne_eq, not_true, decide_false, k_neq, z0, hi1]
            exact ⟨S7, St.le_refl _, hrec (ns.length - (i + 1)) _ _ (by omega) ⟨i + 1, D4, rfl, by omega, rfl, h8, by simpa using hrun'⟩⟩
          · have he3' : ¬ (e3 : Int) = 0 := by omega
            rw [if_pos he3] at hrun'
            simp only [obind_some, asplit_true, ne_eq, not_false_eq_true, decide_true, k_neq, he3']
            refine done' ?_
            rw [hrun']
            exact ⟨rfl, _, h8.weaken hRR, After.fst he3 rfl⟩
      · intro hge
        have hie : i = ns.length := by omega
        rw [hie, List.drop_length] at hrun
        have hrun' : D2.run (others n ns) = (0, D3) := hrun
        refine done' ?_
        rw [hrun']
        exact ⟨rfl, _, h7.weaken hRR, rfl, fun _ => rfl, fun h => by cases h⟩
    · have he2' : ¬ (e2 : Int) = 0 := by omega
      simp only [obind_some, asplit_true, ne_eq, not_false_eq_true, decide_true, k_neq, he2']
      refine done' ?_
      simp only [he2, not_false_eq_true, if_true]
      exact ⟨by first | rfl | trivial, _, h4, After.fst he2 rfl⟩
  · have he1' : ¬ (e1 : Int) = 0 := by omega
    simp only [obind_some, asplit_true, ne_eq, not_false_eq_true, decide_true, k_neq, he1']
    refine done' ?_
    simp only [he1, not_false_eq_true, if_true]
    exact ⟨by first | rfl | trivial, _, h2, After.fst he1 rfl⟩
theorem call_begin (h : WkAt R S w p W D) {v : AV} {b : List UInt8} (hB : Byt R v b) (hb : b.length ≤ 60000) (hn : 0 < n ∧ n < 100)
    (k : ∀ S' W', WkAt R S' w p W' (D.begin n b).2 → After W { W with num := n, size := (frameB 0 b).length, count := 0 } (D.begin n b).1 W' → K (.int .i64 (D.begin n b).1) S') : ccall Sp34 [.ptr (some (w, 0)), .int .i64 n, v] S K E := by
  refine ccall_r (R, w, p, W, D, n, v, b) ⟨rfl, h, hB, hb, hn⟩ ?_
  rintro _ S' ⟨rfl, W', h1, h2⟩
  exact k S' W' h1 h2
end Go.AM
/-
  wal: Checkpoint, Append.
-/
namespace Go.AM
open Go
set_option maxRecDepth 20000
variable {R R' S S' S1 : St} {p w n k : Nat} {W W' : WalS} {D : DS} {name : List UInt8} {K E : AV → St → Prop}

def Sp14 : Spec := rspec (fun (x : St × Nat × Nat × WalS × DS × AV × List UInt8) args S => args = [.ptr (some (x.2.1, 0)), x.2.2.2.2.2.1] ∧ WkAt x.1 S x.2.1 x.2.2.1 x.2.2.2.1 x.2.2.2.2.1 ∧ Byt x.1 x.2.2.2.2.2.1 x.2.2.2.2.2.2 ∧
    x.2.2.2.1.num + 1 < 100)
  fun x S v S' => if x.2.2.2.2.2.2.length > 60000 then v = .int .i64 2 ∧ S' = S else if x.2.2.2.1.dead then v = .int .i64 9 ∧ S' = S else
    v = .int .i64 (x.2.2.2.2.1.begin (x.2.2.2.1.num + 1) x.2.2.2.2.2.2).1 ∧ ∃ W', WkAt x.1 S' x.2.1 x.2.2.1 W' (x.2.2.2.2.1.begin (x.2.2.2.1.num + 1) x.2.2.2.2.2.2).2 ∧
    After x.2.2.2.1 { x.2.2.2.1 with num := x.2.2.2.1.num + 1, size := (frameB 0 x.2.2.2.2.2.2).length, count := 0 } (x.2.2.2.2.1.begin (x.2.2.2.1.num + 1) x.2.2.2.2.2.2).1 W'
theorem s14 : Sound PR 14 Sp14 := by
  refine sound_r PR_mixed (sounds_cons s34 sounds_nil) (monos_cons (rspec_mono _ _) monos_nil) (own := own []) (ord := O14) (lh := H14) (fn := Go.Proofs.Tryz.f14) (by kernel_rfl) (by kernel_rfl) ?_
  rintro ⟨R, w, p, W, D, v, b⟩ args S ⟨rfl, h, hB, hn⟩
  rw [W14_eq]
  refine ⟨rfl, ?_⟩
  unfold W14
  dsimp only at h hB hn ⊢
  have hw := h.obj
  simp only [obind_some, asplit_false, if_false, Bool.not_false, Nat.zero_add, Option.isNone_some, Bool.false_eq_true, k_faddr_p, k_gtr, k_isnil, k_load_p, k_nilck_p, k_nilp_p, k_get1, hB.len]
  by_cases hl : b.length > 60000
  · have hl' : (b.length : Int) > 60000 := by omega
    simp only [asplit_true, decide_true, hl']
    refine done' ?_
    rw [if_pos hl]; exact ⟨rfl, rfl⟩
  · have hl' : ¬ (b.length : Int) > 60000 := by omega
    simp only [obind_some, asplit_false, List.getElem?_cons_zero, List.getElem?_cons_succ, decide_false, k_add, hl', hw, wcells]
    refine asplit_ofb _ (fun hd => ?_) (fun hd => ?_)
    rotate_left
    · have hi1 : IntKind.i64.wrap ((W.num : Int) + 1) = ((W.num + 1 : Nat) : Int) := by rw [IntWalk.i64_in _ (by omega)]; simp
      simp only [hi1]
      refine call_begin h hB (by omega) (by omega) ?_
      intro S1 W' h1 h2
      refine done' ?_
      rw [if_neg hl, if_neg (by rw [hd]; simp)]
      exact ⟨rfl, W', h1, h2⟩
    · refine done' ?_
      rw [if_neg hl, if_pos hd]; exact ⟨rfl, rfl⟩

/-- A new file, where the last one is full. -/
def DS.roll (D : DS) (W : WalS) : Nat × WalS × DS :=
  if W.size ≥ W.most then
    if (D.syn W.num).1 ≠ 0 then ((D.syn W.num).1, W, (D.syn W.num).2) else
    if ((D.syn W.num).2.app (W.num + 1) (frameB 1 [])).1 ≠ 0 then (((D.syn W.num).2.app (W.num + 1) (frameB 1 [])).1, W, ((D.syn W.num).2.app (W.num + 1) (frameB 1 [])).2) else
    (0, { W with num := W.num + 1, size := (frameB 1 []).length }, ((D.syn W.num).2.app (W.num + 1) (frameB 1 [])).2)
  else (0, W, D)
/-- A record more. -/
def DS.put (D : DS) (W : WalS) (r : List UInt8) : Nat × WalS × DS :=
  if (D.roll W).1 ≠ 0 then D.roll W else
  if ((D.roll W).2.2.app (D.roll W).2.1.num (frameB 2 r)).1 = 0 then (0, { (D.roll W).2.1 with size := (D.roll W).2.1.size + (frameB 2 r).length, count := (D.roll W).2.1.count + 1 }, ((D.roll W).2.2.app (D.roll W).2.1.num (frameB 2 r)).2)
  else (((D.roll W).2.2.app (D.roll W).2.1.num (frameB 2 r)).1, (D.roll W).2.1, ((D.roll W).2.2.app (D.roll W).2.1.num (frameB 2 r)).2)
def Sp12 : Spec := rspec (fun (x : St × Nat × Nat × WalS × DS × AV × List UInt8) args S => args = [.ptr (some (x.2.1, 0)), x.2.2.2.2.2.1] ∧ WkAt x.1 S x.2.1 x.2.2.1 x.2.2.2.1 x.2.2.2.2.1 ∧ Byt x.1 x.2.2.2.2.2.1 x.2.2.2.2.2.2 ∧
    (x.2.2.2.1.dead = true ∨ (0 < x.2.2.2.1.num ∧ x.2.2.2.1.num + 1 < 100 ∧ 0 ≤ x.2.2.2.1.size ∧ x.2.2.2.1.size ≤ 1073741824 ∧ 0 ≤ x.2.2.2.1.count ∧ x.2.2.2.1.count ≤ 1073741824)))
  fun x S v S' => if x.2.2.2.2.2.2.length > 60000 then v = .int .i64 2 ∧ S' = S else if x.2.2.2.1.dead then v = .int .i64 9 ∧ S' = S else
    v = .int .i64 (x.2.2.2.2.1.put x.2.2.2.1 x.2.2.2.2.2.2).1 ∧ ∃ W', WkAt x.1 S' x.2.1 x.2.2.1 W' (x.2.2.2.2.1.put x.2.2.2.1 x.2.2.2.2.2.2).2.2 ∧
    After x.2.2.2.1 (x.2.2.2.2.1.put x.2.2.2.1 x.2.2.2.2.2.2).2.1 (x.2.2.2.2.1.put x.2.2.2.1 x.2.2.2.2.2.2).1 W'
theorem s12 : Sound PR 12 Sp12 := by
  refine sound_r PR_mixed (sounds_cons s31 (sounds_cons s36 (sounds_cons s37 (sounds_cons s38 (sounds_cons s39 sounds_nil))))) (monos_cons (rspec_mono _ _) (monos_cons (rspec_mono _ _) (monos_cons (rspec_mono _ _) (monos_cons (rspec_mono _ _) (monos_cons (rspec_mono _ _) monos_nil))))) (own := own []) (ord := O12) (lh := H12) (fn := Go.Proofs.Tryz.f12) (by kernel_rfl) (by kernel_rfl) ?_
  rintro ⟨R, w, p, W, D, v, b⟩ args S ⟨rfl, h, hB, hnn⟩
  rw [W12_eq]
  refine ⟨rfl, ?_⟩
  unfold W12
  dsimp only at h hB hnn ⊢
  have hw := h.obj
  have z0 : ((0 : Nat) : Int) = 0 := rfl
  simp only [obind_some, asplit_false, xfill, xbslice, List.length, St.obj_setObj, if_false, if_pos, and_true, Bool.not_false, eq_self, Nat.zero_add, Nat.add_zero, Nat.reduceAdd, Nat.le_refl, Option.isNone_some, Bool.false_eq_true, k_faddr_p, k_gtr, k_isnil, k_load_p, k_nilck_p, k_nilp_p, k_store_p, k_get1, hB.len]
  by_cases hl : b.length > 60000
  · have hl' : (b.length : Int) > 60000 := by omega
    simp only [asplit_true, decide_true, hl']
    refine done' ?_
    rw [if_pos hl]; exact ⟨rfl, rfl⟩
  have hl' : ¬ (b.length : Int) > 60000 := by omega
  simp only [obind_some, asplit_false, List.getElem?_cons_zero, List.getElem?_cons_succ, decide_false, k_geq, hl', hw, wcells]
  simp only [hl, if_false]
  refine asplit_ofb _ (fun hd => ?_) (fun hd => ?_)
  · refine done' ?_
    rw [if_pos hd]; exact ⟨rfl, rfl⟩
  have hd' : ¬ W.dead = true := by rw [hd]; simp
  obtain ⟨hn0, hn, hs0, hs1, hc0, hc1⟩ := hnn.resolve_left hd'
  have hfl := frame_len 2 b (by omega) (by omega)
  have hfl1 := frame_len 1 [] (by omega) (by simp)
  refine asplit_of _ ?_ ?_
  · intro hge
    refine call_frame _ [] 1 (by omega) (by simp) (.inl ⟨.nil, rfl, fun _ => rfl⟩) ?_
    simp only [obind_some, setList, List.length, List.getElem?_cons_zero, List.getElem?_cons_succ, List.all, true_and, Bool.and_self, eq_self, Nat.zero_add, k_cells_i, k_ok_i, k_len_bsl, hw, wcells]
    refine call_file h (by omega) ?_
    simp only [List.getElem?_cons_zero, true_and, eq_self, hw, wcells]
    refine call_syn h.dk ⟨hn0, by omega⟩ ?_
    intro S1 h1
    generalize hr1 : D.syn W.num = r1 at h1
    obtain ⟨e1, D1⟩ := r1
    dsimp only at h1 ⊢
    have h1' : WkAt R S1 w p W D1 := ⟨h.1, h1⟩
    simp only [obind_some, setList, Option.map_some, List.set, List.length, if_pos, eq_self, Nat.zero_add, k_cells_i]
    refine call_first h1' ?_
    intro S2 h2
    by_cases he1 : e1 = 0
    rotate_left
    · have he1' : ¬ (e1 : Int) = 0 := by omega
      have hroll : D.roll W = (e1, W, D1) := by unfold DS.roll; rw [if_pos hge, hr1, if_pos he1]
      have hput : D.put W b = (e1, W, D1) := by unfold DS.put; rw [hroll, if_pos he1]
      simp only [obind_some, asplit_true, ne_eq, not_false_eq_true, decide_true, k_neq, he1']
      refine done' ?_
      rw [if_neg hd', hput]
      exact ⟨rfl, _, h2, After.fst he1 rfl⟩
    subst he1
    rw [fst_zero] at h2
    have hw := h2.obj
    have hi1 : IntKind.i64.wrap ((W.num : Int) + 1) = ((W.num + 1 : Nat) : Int) := by rw [IntWalk.i64_in _ (by omega)]; simp
    simp only [obind_some, asplit_false, List.getElem?_cons_zero, List.getElem?_cons_succ, eq_self, ne_eq, not_true, decide_false, k_add, k_neq, z0, hw, wcells, hi1]
    refine call_file h2 hn ?_
    simp only [List.getElem?_cons_zero, true_and, eq_self, hw, wcells]
    refine call_app h2.dk ⟨by omega, hn⟩ (.inl ⟨.ro, rfl, by simp⟩) (d := frameB 1 []) (by have : ([] : List UInt8).length = 0 := rfl; omega) ?_
    intro S3 h3
    generalize hr2 : D1.app (W.num + 1) (frameB 1 []) = r2 at h3
    obtain ⟨e2, D2⟩ := r2
    dsimp only at h3 ⊢
    have h3' : WkAt R S3 w p W D2 := ⟨h.1, h3⟩
    simp only [obind_some, setList, Option.map_some, List.set, List.length, if_pos, eq_self, Nat.zero_add, k_cells_i]
    refine call_first h3' ?_
    intro S4 h4
    by_cases he2 : e2 = 0
    rotate_left
    · have he2' : ¬ (e2 : Int) = 0 := by omega
      have hroll : D.roll W = (e2, W, D2) := by unfold DS.roll; rw [if_pos hge, hr1]; simp only [ne_eq, not_true, if_false]; rw [hr2, if_pos he2]
      have hput : D.put W b = (e2, W, D2) := by unfold DS.put; rw [hroll, if_pos he2]
      simp only [obind_some, asplit_true, ne_eq, not_false_eq_true, decide_true, k_neq, he2']
      refine done' ?_
      rw [if_neg hd', hput]
      exact ⟨rfl, _, h4, After.fst he2 rfl⟩
    subst he2
    rw [fst_zero] at h4
    have hroll : D.roll W = (0, { W with num := W.num + 1, size := (frameB 1 []).length }, D2) := by unfold DS.roll; rw [if_pos hge, hr1]; simp only [ne_eq, not_true, if_false]; rw [hr2]; simp
    have hput : D.put W b = if (D2.app (W.num + 1) (frameB 2 b)).1 = 0 then (0, { W with num := W.num + 1, size := (frameB 1 []).length + (frameB 2 b).length, count := W.count + 1 }, (D2.app (W.num + 1) (frameB 2 b)).2) else ((D2.app (W.num + 1) (frameB 2 b)).1, { W with num := W.num + 1, size := (frameB 1 []).length }, (D2.app (W.num + 1) (frameB 2 b)).2) := by unfold DS.put; rw [hroll]; simp
    have hw := h4.obj
    have h5 := h4.set { W with num := W.num + 1, size := (frameB 1 []).length } rfl
    simp only [obind_some, asplit_false, setList, List.set, List.length, List.length_cons, List.getElem?_cons_zero, List.getElem?_cons_succ, List.all, true_and, Bool.and_self, eq_self, ne_eq, not_true, Nat.zero_add, Nat.reduceAdd, Nat.reduceLeDiff, decide_false, k_add, k_cells_i, k_neq, k_ok_i, z0, hw, wcells, hi1, setObj_setObj]
    refine call_frame v b 2 (by omega) (by omega) (hB.le h5.rle) ?_
    have hw := h5.obj
    simp only [wcells] at hw
    simp only [obind_some, List.getElem?_cons_zero, List.getElem?_cons_succ, St.obj_setObj, if_pos, eq_self, k_len_bsl]
    refine call_file h5 hn ?_
    simp only [List.getElem?_cons_zero, St.obj_setObj, if_pos, true_and, eq_self]
    refine call_app h5.dk ⟨by show 0 < W.num + 1; omega, hn⟩ (.inl ⟨.ro, rfl, by simp⟩) (d := frameB 2 b) (by omega) ?_
    intro S6 h6
    dsimp only at h6 ⊢
    generalize hr3 : D2.app (W.num + 1) (frameB 2 b) = r3 at h6
    obtain ⟨e3, D3⟩ := r3
    rw [hr3] at hput
    dsimp only at h6 hput ⊢
    have h6' : WkAt R S6 w p { W with num := W.num + 1, size := (frameB 1 []).length } D3 := ⟨h.1, h6⟩
    simp only [obind_some, setList, Option.map_some, List.set, List.length, if_pos, eq_self, Nat.zero_add, k_cells_i]
    refine call_first h6' ?_
    intro S7 h7
    by_cases he3 : e3 = 0
    · subst he3
      rw [fst_zero] at h7
      have hw := h7.obj
      have w1 : IntKind.i64.wrap (((frameB 1 []).length : Int) + ((frameB 2 b).length : Int)) = ((frameB 1 []).length : Int) + ((frameB 2 b).length : Int) := IntWalk.i64_in _ (by have : ([] : List UInt8).length = 0 := rfl; omega)
      have w2 : IntKind.i64.wrap (W.count + 1) = W.count + 1 := IntWalk.i64_in _ (by omega)
      simp only [wcells] at hw
      simp only [obind_some, asplit_true, setList, List.set, List.length, List.length_cons, List.getElem?_cons_zero, List.getElem?_cons_succ, List.all, true_and, Bool.and_self, eq_self, Nat.zero_add, Nat.reduceAdd, Nat.reduceLeDiff, decide_true, k_add, k_cells_i, k_eql, k_ok_i, z0, hw, w1, w2]
      refine done' ?_
      rw [if_neg hd', hput]
      simp only [if_true]
      exact ⟨rfl, _, h7.set { W with num := W.num + 1, size := (frameB 1 []).length + (frameB 2 b).length, count := W.count + 1 } rfl, rfl, fun _ => rfl, fun h => by cases h⟩
    · have he3' : ¬ (e3 : Int) = 0 := by omega
      simp only [obind_some, asplit_false, decide_false, k_eql, he3']
      refine done' ?_
      rw [if_neg hd', hput, if_neg he3]
      exact ⟨rfl, _, h7, After.fst he3 rfl⟩
  · intro hlt
    have hroll : D.roll W = (0, W, D) := by unfold DS.roll; rw [if_neg hlt]
    have hput : D.put W b = if (D.app W.num (frameB 2 b)).1 = 0 then (0, { W with size := W.size + (frameB 2 b).length, count := W.count + 1 }, (D.app W.num (frameB 2 b)).2) else ((D.app W.num (frameB 2 b)).1, W, (D.app W.num (frameB 2 b)).2) := by unfold DS.put; rw [hroll]; simp
    refine call_frame v b 2 (by omega) (by omega) (hB.le h.rle) ?_
    simp only [obind_some, List.getElem?_cons_zero, List.getElem?_cons_succ, k_len_bsl, hw, wcells]
    refine call_file h (by omega) ?_
    simp only [List.getElem?_cons_zero, true_and, eq_self, hw, wcells]
    refine call_app h.dk ⟨hn0, by omega⟩ (.inl ⟨.ro, rfl, by simp⟩) (d := frameB 2 b) (by omega) ?_
    intro S6 h6
    generalize hr3 : D.app W.num (frameB 2 b) = r3 at h6
    obtain ⟨e3, D3⟩ := r3
    rw [hr3] at hput
    dsimp only at h6 hput ⊢
    have h6' : WkAt R S6 w p W D3 := ⟨h.1, h6⟩
    simp only [obind_some, setList, Option.map_some, List.set, List.length, if_pos, eq_self, Nat.zero_add, k_cells_i]
    refine call_first h6' ?_
    intro S7 h7
    by_cases he3 : e3 = 0
    · subst he3
      rw [fst_zero] at h7
      have hw := h7.obj
      have w1 : IntKind.i64.wrap (W.size + ((frameB 2 b).length : Int)) = W.size + ((frameB 2 b).length : Int) := IntWalk.i64_in _ (by omega)
      have w2 : IntKind.i64.wrap (W.count + 1) = W.count + 1 := IntWalk.i64_in _ (by omega)
      simp only [obind_some, asplit_true, setList, List.set, List.length, List.length_cons, List.getElem?_cons_zero, List.getElem?_cons_succ, List.all, true_and, Bool.and_self, eq_self, Nat.zero_add, Nat.reduceAdd, Nat.reduceLeDiff, decide_true, k_add, k_cells_i, k_eql, k_ok_i, z0, hw, wcells, w1, w2, setObj_setObj]
      refine done' ?_
      rw [if_neg hd', hput]
      simp only [if_true]
      exact ⟨rfl, _, h7.set { W with size := W.size + (frameB 2 b).length, count := W.count + 1 } rfl, rfl, fun _ => rfl, fun h => by cases h⟩
    · have he3' : ¬ (e3 : Int) = 0 := by omega
      simp only [obind_some, asplit_false, decide_false, k_eql, he3']
      refine done' ?_
      rw [if_neg hd', hput, if_neg he3]
      exact ⟨rfl, _, h7, After.fst he3 rfl⟩
end Go.AM
/-
  What the changes make of a log's files.
-/
namespace Go.AM
open Go
set_option maxRecDepth 20000

/-- A change was done. -/
structure Ok (D D' : DS) (fl : List F) : Prop where
  fl : D'.fl = fl
  room : D'.room = D.room
  armed : D'.armed = D.armed
  down : D'.down = false
/-- The power went out. -/
structure Out (D D' : DS) (fl : List F) : Prop where
  fl : D'.fl = fl
  room : D'.room = D.room
  armed : D'.armed = D.armed
  was : D.armed = true
  down : D'.down = true
theorem Ok.trans {D D1 D2 : DS} {l m : List F} (h : Ok D D1 l) (k : Ok D1 D2 m) : Ok D D2 m := ⟨k.fl, k.room.trans h.room, k.armed.trans h.armed, k.down⟩
theorem Ok.out {D D1 D2 : DS} {l m : List F} (h : Ok D D1 l) (k : Out D1 D2 m) : Out D D2 m := ⟨k.fl, k.room.trans h.room, k.armed.trans h.armed, h.armed ▸ k.was, k.down⟩
theorem tick_cases (D : DS) (hd : D.down = false) : (D.tick.1 = 0 ∧ Ok D D.tick.2 D.fl) ∨ (D.tick.1 = 9 ∧ Out D D.tick.2 D.fl) := by
  unfold DS.tick
  rw [hd]
  simp only [Bool.false_eq_true, if_false]
  cases ha : D.armed
  · left; simp; exact ⟨rfl, rfl, rfl, hd⟩
  · by_cases hl : D.left = 0
    · right; simp [hl]; exact ⟨rfl, rfl, ha.symm, ha, rfl⟩
    · left; simp [hl]; exact ⟨rfl, rfl, ha.symm, rfl⟩
theorem layL_mid {f g : F} {b : List F} (h : g.n = f.n) : ∀ {a : List F}, (∀ x ∈ a, x.n < f.n) → layL (a ++ g :: b) f = a ++ ((if f.d = [] then [] else [f]) ++ b)
  | [], _ => by
    simp only [List.nil_append, layL]
    rw [if_neg (by omega), if_pos h.symm]
    split <;> rfl
  | x :: a, ha => by
    have hx := ha x (by simp)
    simp only [List.cons_append, layL]
    rw [if_neg (by omega), if_neg (by omega), layL_mid h fun y hy => ha y (by simp [hy])]
theorem layL_end {f : F} : ∀ {a : List F}, (∀ x ∈ a, x.n < f.n) → layL a f = a ++ (if f.d = [] then [] else [f])
  | [], _ => by simp [layL]
  | x :: a, ha => by
    have hx := ha x (by simp)
    simp only [List.cons_append, layL]
    rw [if_neg (by omega), if_neg (by omega), layL_end fun y hy => ha y (by simp [hy])]
abbrev Sorted (fl : List F) : Prop := fl.Pairwise (fun f g => f.n < g.n)
theorem Sorted.lt {a b : List F} {g : F} (h : Sorted (a ++ g :: b)) : (∀ x ∈ a, x.n < g.n) ∧ ∀ x ∈ b, g.n < x.n :=
  ⟨fun x hx => (List.pairwise_append.1 h).2.2 x hx g (by simp), fun x hx => (List.pairwise_cons.1 (List.pairwise_append.1 h).2.1).1 x hx⟩
theorem datL_mid {a b : List F} {g : F} (h : Sorted (a ++ g :: b)) : datL (a ++ g :: b) g.n = g.d ∧ safL (a ++ g :: b) g.n = g.s := by
  have := getL_mid (b := b) (g := g) (a := a) fun x hx => by have := h.lt.1 x hx; omega
  simp [datL, safL, this]
theorem datL_end {fl : List F} {n : Nat} (h : ∀ x ∈ fl, x.n < n) : datL fl n = [] ∧ safL fl n = 0 := by
  have := getL_none_of (fl := fl) (n := n) fun x hx => by have := h x hx; omega
  simp [datL, safL, this]

variable {D : DS} {a b : List F} {g : F}
theorem cut_mid (k : Nat) (hfl : D.fl = a ++ g :: b) (hs : Sorted D.fl) (hd : D.down = false) :
    ((D.cut g.n k).1 = 0 ∧ Ok D (D.cut g.n k).2 (a ++ ((if g.d.take k = [] then [] else [⟨g.n, g.d.take k, min g.s k⟩]) ++ b))) ∨ ((D.cut g.n k).1 = 9 ∧ Out D (D.cut g.n k).2 D.fl) := by
  unfold DS.cut
  rcases tick_cases D hd with ⟨h1, h2⟩ | ⟨h1, h2⟩
  · left
    rw [h1]
    simp only [ne_eq, not_true, if_false]
    rw [hfl] at hs
    refine ⟨trivial, ⟨?_, h2.room, h2.armed, h2.down⟩⟩
    rw [hfl, (datL_mid hs).1, (datL_mid hs).2]
    simp only [DS.lay, h2.fl, hfl]
    exact layL_mid (g := g) (b := b) (f := ⟨g.n, g.d.take k, min g.s k⟩) rfl hs.lt.1
  · right
    rw [h1]
    simp only [ne_eq, show ¬ ((9 : Nat) = 0) by omega, not_false_eq_true, if_true]
    exact ⟨h1, h2⟩
theorem syn_mid (hfl : D.fl = a ++ g :: b) (hg : g.d ≠ []) (hs : Sorted D.fl) (hd : D.down = false) :
    ((D.syn g.n).1 = 0 ∧ Ok D (D.syn g.n).2 (a ++ ⟨g.n, g.d, g.d.length⟩ :: b)) ∨ ((D.syn g.n).1 = 9 ∧ Out D (D.syn g.n).2 D.fl) := by
  unfold DS.syn
  rcases tick_cases D hd with ⟨h1, h2⟩ | ⟨h1, h2⟩
  · left
    rw [h1]
    simp only [ne_eq, not_true, if_false]
    rw [hfl] at hs
    refine ⟨trivial, ⟨?_, h2.room, h2.armed, h2.down⟩⟩
    rw [hfl, (datL_mid hs).1]
    simp only [DS.lay, h2.fl, hfl]
    have := layL_mid (b := b) (g := g) (f := ⟨g.n, g.d, g.d.length⟩) rfl hs.lt.1
    rw [this, if_neg hg]; rfl
  · right
    rw [h1]
    simp only [ne_eq, show ¬ ((9 : Nat) = 0) by omega, not_false_eq_true, if_true]
    exact ⟨h1, h2⟩
theorem app_mid {d : List UInt8} (hfl : D.fl = a ++ g :: b) (hg : d ≠ []) (hs : Sorted D.fl) (hd : D.down = false) (hr : D.used + d.length ≤ D.room) :
    ((D.app g.n d).1 = 0 ∧ Ok D (D.app g.n d).2 (a ++ ⟨g.n, g.d ++ d, g.s⟩ :: b)) ∨ ((D.app g.n d).1 = 9 ∧ Out D (D.app g.n d).2 D.fl) := by
  unfold DS.app
  rcases tick_cases D hd with ⟨h1, h2⟩ | ⟨h1, h2⟩
  · left
    rw [h1]
    simp only [ne_eq, not_true, if_false]
    rw [hfl] at hs
    rw [if_neg (by omega)]
    refine ⟨rfl, ⟨?_, h2.room, h2.armed, h2.down⟩⟩
    rw [hfl, (datL_mid hs).1, (datL_mid hs).2]
    simp only [DS.lay, h2.fl, hfl]
    have := layL_mid (b := b) (g := g) (f := ⟨g.n, g.d ++ d, g.s⟩) rfl hs.lt.1
    rw [this, if_neg (by simp [hg])]; rfl
  · right
    rw [h1]
    simp only [ne_eq, show ¬ ((9 : Nat) = 0) by omega, not_false_eq_true, if_true]
    exact ⟨h1, h2⟩
theorem app_end {n : Nat} {d : List UInt8} (hn : ∀ x ∈ D.fl, x.n < n) (hg : d ≠ []) (hd : D.down = false) (hr : D.used + d.length ≤ D.room) :
    ((D.app n d).1 = 0 ∧ Ok D (D.app n d).2 (D.fl ++ [⟨n, d, 0⟩])) ∨ ((D.app n d).1 = 9 ∧ Out D (D.app n d).2 D.fl) := by
  unfold DS.app
  rcases tick_cases D hd with ⟨h1, h2⟩ | ⟨h1, h2⟩
  · left
    rw [h1]
    simp only [ne_eq, not_true, if_false]
    rw [if_neg (by omega)]
    refine ⟨rfl, ⟨?_, h2.room, h2.armed, h2.down⟩⟩
    rw [(datL_end hn).1, (datL_end hn).2]
    simp only [DS.lay, h2.fl, List.nil_append]
    have := layL_end (f := ⟨n, d, 0⟩) (a := D.fl) hn
    rw [this, if_neg hg]
  · right
    rw [h1]
    simp only [ne_eq, show ¬ ((9 : Nat) = 0) by omega, not_false_eq_true, if_true]
    exact ⟨h1, h2⟩

theorem run_ok {D : DS} {o : Op} (os : List Op) (h : (D.op o).1 = 0) : D.run (o :: os) = (D.op o).2.run os := by
  simp only [DS.run]; rw [if_neg (by simpa using h)]
theorem run_err {D : DS} {o : Op} (os : List Op) (h : (D.op o).1 ≠ 0) : D.run (o :: os) = D.op o := by
  simp only [DS.run]; rw [if_pos h]
/-- All files but the last go. -/
theorem run_drop (f : F) : ∀ (fl : List F) (D : DS), D.fl = fl ++ [f] → Sorted D.fl → D.down = false →
    ((D.run (fl.map fun g => .cut g.n 0)).1 = 0 ∧ Ok D (D.run (fl.map fun g => .cut g.n 0)).2 [f]) ∨ ((D.run (fl.map fun g => .cut g.n 0)).1 = 9 ∧ ∃ a b, fl = a ++ b ∧ Out D (D.run (fl.map fun g => .cut g.n 0)).2 (b ++ [f]))
  | [], D, h, _, hd => .inl ⟨rfl, h, rfl, rfl, hd⟩
  | g :: fl, D, h, hs, hd => by
    have hc := cut_mid (D := D) (a := []) (g := g) (b := fl ++ [f]) 0 h hs hd
    rw [List.map_cons]
    rcases hc with ⟨h1, h2⟩ | ⟨h1, h2⟩
    · rw [run_ok (o := .cut g.n 0) _ h1]
      simp only [DS.op]
      simp only [List.take_zero, if_true, List.nil_append] at h2
      have hs' : Sorted (D.cut g.n 0).2.fl := by
        rw [h2.fl]; rw [h] at hs; exact (List.pairwise_cons.1 hs).2
      rcases run_drop f fl _ h2.fl hs' h2.down with ⟨k1, k2⟩ | ⟨k1, x, y, k2, k3⟩
      · exact .inl ⟨k1, h2.trans k2⟩
      · exact .inr ⟨k1, g :: x, y, by rw [k2]; rfl, h2.out k3⟩
    · rw [run_err (o := .cut g.n 0) _ (by show (D.cut g.n 0).1 ≠ 0; omega)]
      exact .inr ⟨h1, [], g :: fl, rfl, by rw [h] at h2; exact h2⟩
/-- What begin leaves. -/
def BeginOut (D D' : DS) (n : Nat) (b : List UInt8) : Prop := Out D D' D.fl ∨ Out D D' (D.fl ++ [⟨n, frameB 0 b, 0⟩]) ∨ ∃ x y, D.fl = x ++ y ∧ Out D D' (y ++ [⟨n, frameB 0 b, (frameB 0 b).length⟩])
theorem frameB_ne (k : Nat) (s : List UInt8) : frameB k s ≠ [] := by
  intro h
  have := frameB_length k s
  rw [h] at this
  simp at this
theorem begin_cases {n : Nat} (b : List UInt8) (hn : ∀ x ∈ D.fl, x.n < n) (hs : Sorted D.fl) (hd : D.down = false) (hr : D.used + (frameB 0 b).length ≤ D.room) :
    ((D.begin n b).1 = 0 ∧ Ok D (D.begin n b).2 [⟨n, frameB 0 b, (frameB 0 b).length⟩]) ∨ ((D.begin n b).1 = 9 ∧ BeginOut D (D.begin n b).2 n b) := by
  have hne := frameB_ne 0 b
  have h9 : ¬ ((9 : Nat) = 0) := by omega
  unfold DS.begin
  rcases app_end hn hne hd hr with ⟨h1, h2⟩ | ⟨h1, h2⟩
  · rw [h1]
    simp only [ne_eq, not_true, if_false]
    generalize (D.app n (frameB 0 b)).2 = D1 at h2 ⊢
    have hs1 : Sorted D1.fl := by
      rw [h2.fl]
      refine List.pairwise_append.2 ⟨hs, by simp, fun x hx y hy => ?_⟩
      simp at hy; subst hy; exact hn x hx
    rcases syn_mid (D := D1) (a := D.fl) (g := ⟨n, frameB 0 b, 0⟩) (b := []) h2.fl hne hs1 h2.down with ⟨k1, k2⟩ | ⟨k1, k2⟩
    · dsimp only at k1 k2
      rw [k1]
      simp only [not_true, if_false]
      have k3 := h2.trans k2
      have hs2 : Sorted (D1.syn n).2.fl := by
        rw [k3.fl]
        refine List.pairwise_append.2 ⟨hs, by simp, fun x hx y hy => ?_⟩
        simp at hy; subst hy; exact hn x hx
      have ho : others n ((D1.syn n).2.fl.map (·.n)) = D.fl.map fun g => .cut g.n 0 := by
        rw [k3.fl]
        unfold others
        rw [List.map_append, List.filter_append]
        have e1 : (D.fl.map (·.n)).filter (fun k => k != n) = D.fl.map (·.n) := by
          rw [List.filter_eq_self]
          intro k hk
          obtain ⟨f, hf, rfl⟩ := List.mem_map.1 hk
          have := hn f hf
          simp; omega
        rw [e1]
        simp
      rw [ho]
      rcases run_drop _ D.fl _ k3.fl hs2 k3.down with ⟨m1, m2⟩ | ⟨m1, x, y, m2, m3⟩
      · exact .inl ⟨m1, k3.trans m2⟩
      · exact .inr ⟨m1, .inr (.inr ⟨x, y, m2, k3.out m3⟩)⟩
    · dsimp only at k1 k2
      rw [k1]
      simp only [h9, not_false_eq_true, if_true]
      refine .inr ⟨k1, .inr (.inl ?_)⟩
      have := h2.out k2
      rw [h2.fl] at this
      exact this
  · rw [h1]
    simp only [ne_eq, h9, not_false_eq_true, if_true]
    exact .inr ⟨h1, .inl h2⟩
end Go.AM
/-
  A log's files as they are found: what is ahead of the base, the chain, what is behind it; the list of records in the heap.
-/
namespace Go.AM
open Go
set_option maxRecDepth 20000

def recs (rs : List (List UInt8)) : List UInt8 := (rs.map (frameB 2)).flatten
/-- A file of the chain. -/
structure C where
  k : Nat
  b : List UInt8
  rs : List (List UInt8)
  tail : List UInt8
  s : Nat
def C.hd (c : C) : List UInt8 := frameB c.k c.b
def C.good (c : C) : List UInt8 := c.hd ++ recs c.rs
def C.d (c : C) : List UInt8 := c.good ++ c.tail
def chainF : Nat → List C → List F
  | _, [] => []
  | a, c :: cs => ⟨a, c.d, c.s⟩ :: chainF (a + 1) cs
theorem chainF_append : ∀ (a : Nat) (cs ds : List C), chainF a (cs ++ ds) = chainF a cs ++ chainF (a + cs.length) ds
  | a, [], ds => by simp [chainF]
  | a, c :: cs, ds => by
    simp only [List.cons_append, chainF, chainF_append (a + 1) cs ds, List.length_cons]
    rw [show a + 1 + cs.length = a + (cs.length + 1) by omega]
theorem chainF_length : ∀ (a : Nat) (cs : List C), (chainF a cs).length = cs.length
  | _, [] => rfl
  | a, _ :: cs => by simp [chainF, chainF_length (a + 1) cs]
theorem recs_append (a b : List (List UInt8)) : recs (a ++ b) = recs a ++ recs b := by simp [recs]
theorem recs_one (r : List UInt8) : recs [r] = frameB 2 r := by simp [recs]

/-- The files of a log as they are found. -/
structure Shape (fl gs : List F) (a : Nat) (base : List UInt8) (ini : List C) (la : C) (xs : List F) : Prop where
  fl : fl = gs ++ (chainF a (ini ++ [la]) ++ xs)
  heads : ∃ c0 rest, ini ++ [la] = c0 :: rest ∧ c0.k = 0 ∧ c0.b = base ∧ ∀ c ∈ rest, c.k = 1 ∧ c.b = []
  base : base.length ≤ 60000
  recs : ∀ c ∈ ini ++ [la], ∀ r ∈ c.rs, r.length ≤ 60000
  full : ∀ c ∈ ini, c.tail = [] ∧ c.s = c.d.length
  tail : Partial la.tail
  ahead : ∀ g ∈ gs, (∃ k s rest, g.d = frameB k s ++ rest ∧ k ≤ 2 ∧ s.length ≤ 60000) ∨ Partial g.d
  behind : ∀ x ∈ xs, Partial x.d

/-- A list that can be read while a part of the heap is there. -/
def IsVec (R : St) (v : AV) (cs : List AV) : Prop := xlen v = some (.int .i64 cs.length) ∧ ∀ S', R.le S' → ∀ (i : Nat) a, cs[i]? = some a → ∃ ad, xiaddr 1 v (.int .i64 i) = some ad ∧ xload false 1 ad S' = some a
theorem IsVec.le {R R' : St} {v : AV} {cs : List AV} (h : IsVec R v cs) (hl : R.le R') : IsVec R' v cs := ⟨h.1, fun S' hS => h.2 S' (St.le_trans hl hS)⟩

variable {R R1 S S0 S' : St} {p w n k : Nat} {W W' : WalS} {D : DS} {name : List UInt8} {K E : AV → St → Prop} {o : Own}
theorem WkAt.rp (h : WkAt R S w p W D) : ∃ P, Rp W.name P D := let ⟨_, P, _, h⟩ := h; ⟨P, h⟩
theorem WkAt.sorted (h : WkAt R S w p W D) : Sorted D.fl := let ⟨_, h⟩ := h.rp; h.has.sorted
theorem WkAt.small (h : WkAt R S w p W D) : ∀ f ∈ D.fl, 0 < f.n ∧ f.n < 100 := let ⟨_, h⟩ := h.rp; h.has.small
theorem WkAt.full (h : WkAt R S w p W D) : ∀ f ∈ D.fl, f.d ≠ [] := let ⟨_, h⟩ := h.rp; h.has.full
theorem WkAt.few (h : WkAt R S w p W D) : D.fl.length ≤ 100 := by
  obtain ⟨P, h⟩ := h.rp
  have h1 := h.has.few
  rw [h.has.perm.length_eq, List.length_map] at h1
  exact h1

theorem PlAt.tsplit {p : Nat} {P : PlateS} {t hw : Nat} (h : PlAt R1 S p P) (hl : R.le R1) (ht : R1.tok t = some hw) (hR : R.tok t = none) : PlAt R (S.delTok t) p P := by
  obtain ⟨m, c, fe, h⟩ := h
  refine ⟨m, c, fe, { h with rle := stle_delTok (St.le_trans hl h.rle) hR, rp := stle_obj hl h.rp, rm := stle_obj hl h.rm, op := h.op, om := h.om, own := ?_ }⟩
  intro x hx he
  rcases h.own x hx he with h1 | h1 | ⟨t', hw', h1, h2, h3⟩
  · exact .inl h1
  · exact .inr (.inl h1)
  · have htt : t' ≠ t := by rintro rfl; rw [ht] at h3; cases h3
    exact .inr (.inr ⟨t', hw', h1, by simp [htt, h2], stle_tok hl h3⟩)
theorem PlAt.tjoin {p : Nat} {P : PlateS} {t hw : Nat} (h : PlAt R S0 p P) (hl : S0.le S) (ht : S.tok t = some hw) (h0 : S0.tok t = none) : PlAt (R.setTok t hw) S p P := by
  obtain ⟨m, c, fe, h⟩ := h
  have hg := h.grow hl
  refine ⟨m, c, fe, { hg with rle := ⟨hg.rle.1, ?_⟩, rp := hg.rp, rm := hg.rm, own := ?_ }⟩
  · intro c y hy
    simp only [St.tok_setTok] at hy
    split at hy
    · rename_i hc; subst hc; rw [ht]; exact hy
    · exact hg.rle.2 c y hy
  · intro x hx he
    rcases h.own x hx he with h1 | h1 | ⟨t', hw', h1, h2, h3⟩
    · exact .inl h1
    · exact .inr (.inl h1)
    · have htt : t' ≠ t := by rintro rfl; rw [h0] at h2; cases h2
      exact .inr (.inr ⟨t', hw', h1, hl.2 _ _ h2, by simp [htt, h3]⟩)
theorem tl_split (h : WkAt R1 S w p W D) (hT : Tl 1 R R1 o) : ∃ S0, WkAt R S0 w p W D ∧ Tl 1 S0 S o := by
  obtain ⟨hl, rfl | rfl | ⟨t, hw, rfl, ht, hR⟩⟩ := hT
  · exact ⟨S, h.weaken hl, St.le_refl _, .inl rfl⟩
  · exact ⟨S, h.weaken hl, St.le_refl _, .inr (.inl rfl)⟩
  · have hSt := h.rle.2 _ _ ht
    obtain ⟨hwR, P, hP, hrp⟩ := h
    exact ⟨S.delTok t, ⟨stle_obj hl hwR, P, hP.tsplit (stle_both hl _ _) ht hR, hrp⟩, le_delTok S t, .inr (.inr ⟨t, hw, rfl, hSt, by simp⟩)⟩
theorem setObj_setTok (S : St) (b t x : Nat) (o : AObj) : (S.setObj b o).setTok t x = (S.setTok t x).setObj b o := rfl
theorem tl_join (h : WkAt R S0 w p W D) (hT : Tl 1 S0 S o) : ∃ R1, WkAt R1 S w p W D ∧ Tl 1 R R1 o := by
  obtain ⟨hl, rfl | rfl | ⟨t, hw, rfl, ht, hR⟩⟩ := hT
  · exact ⟨R, h.grow hl, St.le_refl _, .inl rfl⟩
  · exact ⟨R, h.grow hl, St.le_refl _, .inr (.inl rfl)⟩
  · have hRt : R.tok t = none := stle_tok h.rle hR
    obtain ⟨hwR, P, hP, hrp⟩ := h
    refine ⟨R.setTok t hw, ⟨hwR, P, ?_, hrp⟩, stle_setTok (St.le_refl _) hRt _, .inr (.inr ⟨t, hw, rfl, by simp, hRt⟩)⟩
    rw [← setObj_setTok]
    exact hP.tjoin hl ht hR
def recCells (rs : List (List UInt8)) : List AV := rs.map fun r => bsl r .ro
theorem app_rec {rs : List (List UInt8)} {r : List UInt8} {x : AV} (h : WkAt R1 S w p W D) (hT : Tl 1 R R1 o) (hn : o = .nil → rs = []) (hx : xnews 1 x S = some ([bsl r .ro], 1)) (hb : rs.length < 1073741824)
    (hK : ∀ o' S' R1', Tl 1 R R1' o' → (o' = .nil → rs ++ [r] = []) → WkAt R1' S' w p W D → K (.slice (recCells (rs ++ [r])) (rs ++ [r]).length o') S') : xappend false 1 24 (.slice (recCells rs) rs.length o) x S K := by
  obtain ⟨S0, h0, hT0⟩ := tl_split h hT
  refine app_tl (S0 := S0) (m := 1) hx (by omega) rfl rfl (by simp [recCells]) (fun h => by simp [hn h]) (by omega) (by omega) hT0 ?_
  intro o' S' hS hT' hn'
  obtain ⟨R1', k1, k2⟩ := tl_join h0 hT'
  have := hK o' S' R1' k2 (fun h => by have := hn' h; omega) k1
  simpa [recCells] using this

theorem call_next_some {o : Own} {b : List UInt8} (k : Nat) (s rest : List UInt8) (hb : b = frameB k s ++ rest) (hk : k ≤ 2) (hs : s.length ≤ 60000) (hon : o ≠ .nil) (hl : b.length ≤ 1073741824)
    (K1 : K (.tuple [.int .i64 k, bsl s .ro, .int .i64 (frameB k s).length]) S) : ccall Sp32 [bsl b o] S K E := by
  refine ccall_r ((b, o), some (k, s, rest)) ⟨rfl, fun h => absurd h hon, hl, hb, hk, hs⟩ ?_
  rintro _ S' ⟨rfl, rfl⟩
  exact K1
theorem call_next_none {o : Own} {b : List UInt8} (hb : Partial b) (hon : o = .nil → b = []) (hl : b.length ≤ 1073741824)
    (K1 : K (.tuple [.int .i64 0, .slice [] 0 .nil, .int .i64 0]) S) : ccall Sp32 [bsl b o] S K E := by
  refine ccall_r ((b, o), none) ⟨rfl, hon, hl, hb⟩ ?_
  rintro _ S' ⟨rfl, rfl⟩
  exact K1
theorem call_cut_mid {a b : List F} {g : F} {m : Nat} (h : WkAt R S w p W D) (hfl : D.fl = a ++ g :: b) (hd : D.down = false) (hm : m ≤ g.d.length)
    (k1 : ∀ S' D', DkAt (R.setObj w (.cells (wcells p W))) S' p W.name D' → Ok D D' (a ++ ((if g.d.take m = [] then [] else [⟨g.n, g.d.take m, min g.s m⟩]) ++ b)) → K (.int .i64 (0 : Nat)) S')
    (k2 : ∀ S' D', DkAt (R.setObj w (.cells (wcells p W))) S' p W.name D' → Out D D' D.fl → K (.int .i64 (9 : Nat)) S') : ccall Sp52 [.ptr (some (p, 0)), .str (bstr (fname W.name g.n)), .int .i64 m] S K E := by
  have hs := h.sorted
  have hg : g ∈ D.fl := by rw [hfl]; simp
  have hdat : datL D.fl g.n = g.d := by rw [hfl] at hs ⊢; exact (datL_mid hs).1
  refine call_cut h.dk (h.small g hg) (m := m) (by rw [hdat]; exact hm) ?_
  intro S' h'
  rcases cut_mid m hfl hs hd with ⟨e1, e2⟩ | ⟨e1, e2⟩
  · rw [e1]; exact k1 S' _ h' e2
  · rw [e1]; exact k2 S' _ h' e2
end Go.AM
/-
  wal: replay, in parts.
-/
namespace Go.AM
open Go
set_option maxRecDepth 20000

/-! What is done first is reckoned first. -/
@[congr] theorem obind_congr {α : Type} {x y : Option α} {k : α → Prop} (h : x = y) : obind x k = obind y k := by rw [h]
@[congr] theorem asplit_congr {x y : AV} {a b : Prop} (h : x = y) : asplit x a b = asplit y a b := by rw [h]
@[congr] theorem ccall_congr {Sp : Spec} {a b : List AV} {S : St} {K E : AV → St → Prop} (h : a = b) : ccall Sp a S K E = ccall Sp b S K E := by rw [h]

/-! The same rules, with a proof that the kernel does not reckon through. -/
theorem ob_s {α : Type} (v : α) (k : α → Prop) : obind (some v) k = k v := Eq.trans (Eq.refl _) (Eq.refl _)
theorem as_t (x y : Prop) : asplit (.bool true) x y = x := Eq.trans (Eq.refl _) (Eq.refl _)
theorem as_f (x y : Prop) : asplit (.bool false) x y = y := Eq.trans (Eq.refl _) (Eq.refl _)
theorem gv_tt (w : Option AV) : gv (.bool true) true w = w := Eq.trans (Eq.refl _) (Eq.refl _)
theorem gv_ff (w : Option AV) : gv (.bool false) false w = w := Eq.trans (Eq.refl _) (Eq.refl _)
theorem gv_tf (w : Option AV) : gv (.bool true) false w = some (.tuple []) := Eq.trans (Eq.refl _) (Eq.refl _)
theorem gv_ft (w : Option AV) : gv (.bool false) true w = some (.tuple []) := Eq.trans (Eq.refl _) (Eq.refl _)
theorem gv_n (q : Bool) (w : Option AV) : gv (.tuple []) q w = some (.tuple []) := Eq.trans (Eq.refl _) (Eq.refl _)
theorem pick_t (x y : AV) : xpick (.bool true) x y = some x := Eq.trans (Eq.refl _) (Eq.refl _)
theorem pick_f (x y : AV) : xpick (.bool false) x y = some y := Eq.trans (Eq.refl _) (Eq.refl _)

/-- Behind a file. -/
def A35 (Sp37 Sp52 : Spec) (t0 t1 t52 t60 i gd : AV) (rec_1 : List AV → St → Prop) (l_2 : List AV) (S_7 : St) (K : En → St → Prop) : Prop :=
                      obind (xbini .gtr ((g l_2 3)) (.int .i64 0)) fun t142 =>
                      asplit t142 (
                        obind (xiaddr 1 t1 i) fun t147 =>
                        obind (xload false 1 t147 S_7) fun t148 =>
                        obind (xnilck t0) fun t150 =>
                        obind (xfaddr 3 t150) fun t151 =>
                        xstore 1 t151 t148 S_7 fun _ S_8 =>
                          obind (xnilck t0) fun t152 =>
                          obind (xfaddr 4 t152) fun t153 =>
                          xstore 1 t153 ((g l_2 3)) S_8 fun _ S_9 =>
                            obind (xlen t60) fun t156 =>
                            obind (xbini .lss ((g l_2 3)) t156) fun t157 =>
                            asplit t157 (
                              obind (xnilck t0) fun t160 =>
                              obind (xfaddr 0 t160) fun t161 =>
                              obind (xload false 1 t161 S_9) fun t162 =>
                              ccall Sp52 [t162, t52, ((g l_2 3))] S_9 (fun t165 S_10 =>
                                obind (xbslice [.int .i64 0] 1 [(0, 1, t165)]) fun t166 =>
                                ccall Sp37 [t0, t166] S_10 (fun t167 S_11 =>
                                  obind (xbini .neq t167 (.int .i64 0)) fun t169 =>
                                  asplit t169 (
                                    K (.ret (.tuple [((.slice [] 0 .nil)), ((.slice [] 0 .nil)), t167])) S_11) (
                                    obind (xbini .add i (.int .i64 1)) fun t46 =>
                                    ∃ S'', S''.le S_11 ∧ rec_1 [(g l_2 0), (g l_2 1), gd, t46] S'')) (fun v S' => K (.pan v) S')) (fun v S' => K (.pan v) S')) (
                              obind (xbini .add i (.int .i64 1)) fun t46_1 =>
                              ∃ S'', S''.le S_9 ∧ rec_1 [(g l_2 0), (g l_2 1), gd, t46_1] S'')) (
                        obind (xlen t60) fun t156_1 =>
                        obind (xbini .lss ((g l_2 3)) t156_1) fun t157_1 =>
                        asplit t157_1 (
                          obind (xnilck t0) fun t160_1 =>
                          obind (xfaddr 0 t160_1) fun t161_1 =>
                          obind (xload false 1 t161_1 S_7) fun t162_1 =>
                          ccall Sp52 [t162_1, t52, ((g l_2 3))] S_7 (fun t165_1 S_12 =>
                            obind (xbslice [.int .i64 0] 1 [(0, 1, t165_1)]) fun t166_1 =>
                            ccall Sp37 [t0, t166_1] S_12 (fun t167_1 S_13 =>
                              obind (xbini .neq t167_1 (.int .i64 0)) fun t169_1 =>
                              asplit t169_1 (
                                K (.ret (.tuple [((.slice [] 0 .nil)), ((.slice [] 0 .nil)), t167_1])) S_13) (
                                obind (xbini .add i (.int .i64 1)) fun t46_2 =>
                                ∃ S'', S''.le S_13 ∧ rec_1 [(g l_2 0), (g l_2 1), gd, t46_2] S'')) (fun v S' => K (.pan v) S')) (fun v S' => K (.pan v) S')) (
                          obind (xbini .add i (.int .i64 1)) fun t46_3 =>
                          ∃ S'', S''.le S_7 ∧ rec_1 [(g l_2 0), (g l_2 1), gd, t46_3] S''))
/-- Is there no frame that may stand here? -/
def N35 (t1 t2 i at' t74 t76 : AV) (S_7 : St) (k : AV → Prop) : Prop :=
                    obind (xbini .eql t76 (.int .i64 0)) fun t78 =>
                    obind (gv t78 false (some at')) fun t80 =>
                    obind (gv t78 false (xbini .eql t80 (.int .i64 0))) fun t81 =>
                    obind (gv t78 false (some t81)) fun t82 =>
                    obind (gv t82 true (some t74)) fun t83 =>
                    obind (gv t82 true (xbini .eql t83 (.int .i64 0))) fun t84 =>
                    obind (gv t82 true (some i)) fun t85 =>
                    obind (gv t82 true (some t2)) fun t86 =>
                    obind (gv t82 true (xbini .eql t85 t86)) fun t87 =>
                    obind (gv t82 true (xbinb .neq t84 t87)) fun t88 =>
                    obind (gv t78 false (xpick t82 t88 (.bool false))) fun t89 =>
                    obind (xpick t78 (.bool true) t89) fun t90 =>
                    obind (gv t90 false (some at')) fun t92 =>
                    obind (gv t90 false (xbini .eql t92 (.int .i64 0))) fun t93 =>
                    obind (gv t90 false (some t93)) fun t94 =>
                    obind (gv t94 true (some t74)) fun t95 =>
                    obind (gv t94 true (xbini .eql t95 (.int .i64 2))) fun t96 =>
                    obind (gv t90 false (xpick t94 t96 (.bool false))) fun t97 =>
                    obind (xpick t90 (.bool true) t97) fun t98 =>
                    obind (gv t98 false (some at')) fun t100 =>
                    obind (gv t98 false (xbini .eql t100 (.int .i64 0))) fun t101 =>
                    obind (gv t98 false (some t101)) fun t102 =>
                    obind (gv t102 true (some i)) fun t103 =>
                    obind (gv t102 true (some t2)) fun t104 =>
                    obind (gv t102 true (xbini .gtr t103 t104)) fun t105 =>
                    obind (gv t98 false (xpick t102 t105 (.bool false))) fun t106 =>
                    obind (gv t98 false (some t106)) fun t107 =>
                    obind (gv t107 true (some t1)) fun t108 =>
                    obind (gv t107 true (some i)) fun t109 =>
                    obind (gv t107 true (xiaddr 1 t108 t109)) fun t110 =>
                    obind (gv t107 true (xload false 1 t110 S_7)) fun t111 =>
                    obind (gv t107 true (some t1)) fun t112 =>
                    obind (gv t107 true (some i)) fun t113 =>
                    obind (gv t107 true (xbini .sub t113 (.int .i64 1))) fun t114 =>
                    obind (gv t107 true (xiaddr 1 t112 t114)) fun t115 =>
                    obind (gv t107 true (xload false 1 t115 S_7)) fun t116 =>
                    obind (gv t107 true (xbini .add t116 (.int .i64 1))) fun t117 =>
                    obind (gv t107 true (xbini .neq t111 t117)) fun t118 =>
                    obind (gv t98 false (xpick t107 t118 (.bool false))) fun t119 =>
                    obind (xpick t98 (.bool true) t119) fun t120 =>
                    obind (gv t120 false (some at')) fun t122 =>
                    obind (gv t120 false (xbini .gtr t122 (.int .i64 0))) fun t123 =>
                    obind (gv t120 false (some t123)) fun t124 =>
                    obind (gv t124 true (some t74)) fun t125 =>
                    obind (gv t124 true (xbini .neq t125 (.int .i64 2))) fun t126 =>
                    obind (gv t120 false (xpick t124 t126 (.bool false))) fun t127 =>
                    obind (xpick t120 (.bool true) t127) fun t128 => k t128
/-- A file's frames. -/
def I35 (Sp32 : Spec) (t1 t2 t60 i : AV) (A1 A2 : List AV → St → Prop) (l0 : List AV) (S_5 : St) (K : En → St → Prop) : Prop :=
              aloop (fun rec_2 l_2 S_6 =>
                obind (gv (((g l_2 2))) true (some (g l_2 3))) fun t64 =>
                obind (gv (((g l_2 2))) true (some t60)) fun t65 =>
                obind (gv (((g l_2 2))) true (xlen t65)) fun t66 =>
                obind (gv (((g l_2 2))) true (xbini .lss t64 t66)) fun t67 =>
                obind (xpick (((g l_2 2))) t67 (.bool false)) fun t68 =>
                asplit t68 (
                  obind (xslice 1 t60 (some ((g l_2 3))) none none) fun t72 =>
                  ccall Sp32 [t72] S_6 (fun t73 S_7 =>
                    obind (xextract t73 0) fun t74 =>
                    obind (xextract t73 1) fun t75 =>
                    obind (xextract t73 2) fun t76 =>
                    N35 t1 t2 i (g l_2 3) t74 t76 S_7 fun t128 =>
                    asplit t128 (
                      A1 l_2 S_7) (
                      obind (xbini .eql t74 (.int .i64 0)) fun t130 =>
                      asplit t130 (
                        obind (xbini .eql t74 (.int .i64 2)) fun t133 =>
                        asplit t133 (
                          obind (xbslice [.slice [] 0 .nil] 1 [(0, 1, t75)]) fun t136 =>
                          xappend false 1 24 ((g l_2 1)) t136 S_7 fun t137 S_14 =>
                            obind (xbini .add ((g l_2 3)) t76) fun t140 =>
                            ∃ S'', S''.le S_14 ∧ rec_2 [t75, t137, (g l_2 2), t140] S'') (
                          obind (xbini .add ((g l_2 3)) t76) fun t140_1 =>
                          ∃ S'', S''.le S_7 ∧ rec_2 [t75, (g l_2 1), (g l_2 2), t140_1] S'')) (
                        obind (xbini .eql t74 (.int .i64 2)) fun t133_1 =>
                        asplit t133_1 (
                          obind (xbslice [.slice [] 0 .nil] 1 [(0, 1, t75)]) fun t136_1 =>
                          xappend false 1 24 ((g l_2 1)) t136_1 S_7 fun t137_1 S_15 =>
                            obind (xbini .add ((g l_2 3)) t76) fun t140_2 =>
                            ∃ S'', S''.le S_15 ∧ rec_2 [(g l_2 0), t137_1, (g l_2 2), t140_2] S'') (
                          obind (xbini .add ((g l_2 3)) t76) fun t140_3 =>
                          ∃ S'', S''.le S_7 ∧ rec_2 [(g l_2 0), (g l_2 1), (g l_2 2), t140_3] S'')))) (fun v S' => K (.pan v) S')) (
                  A2 l_2 S_6)) l0 S_5
/-- Behind all files. -/
def F35 (Sp31 Sp37 Sp38 : Spec) (t0 : AV) (l_1 : List AV) (S_3 : St) (K : En → St → Prop) : Prop :=
          obind (xlen ((g l_1 1))) fun t173 =>
          obind (xnilck t0) fun t174 =>
          obind (xfaddr 5 t174) fun t175 =>
          xstore 1 t175 t173 S_3 fun _ S_22 =>
            obind (xnilck t0) fun t180 =>
            obind (xfaddr 0 t180) fun t181 =>
            obind (xload false 1 t181 S_22) fun t182 =>
            obind (xnilck t0) fun t185 =>
            obind (xfaddr 3 t185) fun t186 =>
            obind (xload false 1 t186 S_22) fun t187 =>
            ccall Sp31 [t0, t187] S_22 (fun t188 S_23 =>
              xload false 1 t181 S_23 = some t182 ∧ 
              ccall Sp38 [t182, t188] S_23 (fun t189 S_24 =>
                obind (xbslice [.int .i64 0] 1 [(0, 1, t189)]) fun t190 =>
                ccall Sp37 [t0, t190] S_24 (fun t191 S_25 =>
                  K (.ret (.tuple [(((g l_1 0))), (((g l_1 1))), t191])) S_25) (fun v S' => K (.pan v) S')) (fun v S' => K (.pan v) S')) (fun v S' => K (.pan v) S')
/-- The files. -/
def L35 (Sp30 Sp31 Sp32 Sp37 Sp38 Sp52 : Spec) (t0 t1 t2 : AV) (K : En → St → Prop) : (List AV → St → Prop) → List AV → St → Prop :=
  fun rec_1 l_1 S_3 =>
        obind (xlen t1) fun t43 =>
        obind (xbini .lss ((g l_1 3)) t43) fun t44 =>
        asplit t44 (
          obind (xiaddr 1 t1 ((g l_1 3))) fun t50 =>
          obind (xload false 1 t50 S_3) fun t51 =>
          ccall Sp31 [t0, t51] S_3 (fun t52 S_4 =>
            obind (xnilck t0) fun t55 =>
            obind (xfaddr 0 t55) fun t56 =>
            obind (xload false 1 t56 S_4) fun t57 =>
            ccall Sp30 [t57, t52] S_4 (fun t59 S_5 =>
              obind (xextract t59 0) fun t60 =>
              obind (xextract t59 1) fun t61 =>
              I35 Sp32 t1 t2 t60 (g l_1 3) (fun l_2 S_7 => A35 Sp37 Sp52 t0 t1 t52 t60 (g l_1 3) (.bool false) rec_1 l_2 S_7 K) (fun l_2 S_6 => A35 Sp37 Sp52 t0 t1 t52 t60 (g l_1 3) (g l_2 2) rec_1 l_2 S_6 K) [(g l_1 0), (g l_1 1), (g l_1 2), ((.int .i64 0))] S_5 K) (fun v S' => K (.pan v) S')) (fun v S' => K (.pan v) S')) (
          F35 Sp31 Sp37 Sp38 t0 l_1 S_3 K)
def W35P (Sp30 : Spec) (Sp31 : Spec) (Sp32 : Spec) (Sp33 : Spec) (Sp37 : Spec) (Sp38 : Spec) (Sp52 : Spec) (t0 t1 t2 : AV) (S : St) (K : En → St → Prop) : Prop :=
  obind (xlen t1) fun t22 =>
  obind (xbini .sub t22 (.int .i64 1)) fun t23 =>
  aloop (fun rec l S_1 =>
    obind (xbini .geq ((g l 2)) (.int .i64 0)) fun t25 =>
    asplit t25 (
      obind (xbini .lss ((g l 2)) t2) fun t30 =>
      asplit t30 (
        obind (xiaddr 1 t1 ((g l 2))) fun t34 =>
        obind (xload false 1 t34 S_1) fun t35 =>
        ccall Sp33 [t0, t35] S_1 (fun t36 S_2 =>
          obind (xbini .neq t36 (.int .i64 0)) fun t38 =>
          asplit t38 (
            K (.ret (.tuple [((.slice [] 0 .nil)), ((.slice [] 0 .nil)), t36])) S_2) (
            obind (xbini .sub ((g l 2)) (.int .i64 1)) fun t27 =>
            ∃ S'', S''.le S_2 ∧ rec [(g l 0), (g l 1), t27] S'')) (fun v S' => K (.pan v) S')) (
        obind (xbini .sub ((g l 2)) (.int .i64 1)) fun t27_1 =>
        ∃ S'', S''.le S_1 ∧ rec [(g l 0), (g l 1), t27_1] S'')) (
      aloop (L35 Sp30 Sp31 Sp32 Sp37 Sp38 Sp52 t0 t1 t2 K) [(g l 0), (g l 1), ((.bool true)), t2] S_1)) [((.slice [] 0 .nil)), ((.slice [] 0 .nil)), t23] S
theorem W35_parts (Sp30 : Spec) (Sp31 : Spec) (Sp32 : Spec) (Sp33 : Spec) (Sp37 : Spec) (Sp38 : Spec) (Sp52 : Spec) (t0 t1 t2 : AV) (S : St) (K : En → St → Prop) :
    W35 Sp30 Sp31 Sp32 Sp33 Sp37 Sp38 Sp52 t0 t1 t2 S K = W35P Sp30 Sp31 Sp32 Sp33 Sp37 Sp38 Sp52 t0 t1 t2 S K := by kernel_rfl
end Go.AM
/-
  wal: replay: behind a file; a file's frames.
-/
namespace Go.AM
open Go
set_option maxRecDepth 20000
variable {R R1 S : St} {w p : Nat} {W : WalS} {D : DS} {v vb vr gd g2 : AV} {o2 : Own} {i : Nat} {rec1 : List AV → St → Prop} {K : En → St → Prop} {pre post : List F} {f : F} {ad : AV}

theorem a35_good {k : Nat} (h : WkAt R1 S w p W D) (hfl : D.fl = pre ++ f :: post) (ha1 : xiaddr 1 v (.int .i64 i) = some ad) (ha2 : xload false 1 ad S = some (.int .i64 (f.n : Nat)))
    (hk : 0 < k) (hk2 : k ≤ f.d.length) (hi : i < 1000) (hd : D.down = false)
    (k0 : k = f.d.length → ∀ S', WkAt R1 S' w p { W with num := f.n, size := k } D → rec1 [vb, vr, gd, .int .i64 (i + 1 : Nat)] S')
    (k1 : k ≠ f.d.length → ∀ S' D', WkAt R1 S' w p { W with num := f.n, size := k } D' → Ok D D' (pre ++ ⟨f.n, f.d.take k, min f.s k⟩ :: post) → rec1 [vb, vr, gd, .int .i64 (i + 1 : Nat)] S')
    (k2 : ∀ S' D' W', WkAt R1 S' w p W' D' → W'.name = W.name → Out D D' D.fl → K (.ret (.tuple [.slice [] 0 .nil, .slice [] 0 .nil, .int .i64 (9 : Nat)])) S') :
    A35 Sp37 Sp52 (.ptr (some (w, 0))) v (.str (bstr (fname W.name f.n))) (bsl f.d o2) (.int .i64 i) gd rec1 [vb, vr, g2, .int .i64 (k : Nat)] S K := by
  unfold A35
  have hw := h.obj
  have gk : ((k : Int) > 0) := by omega
  have wi : IntKind.i64.wrap ((i : Int) + 1) = ((i + 1 : Nat) : Int) := by rw [IntWalk.i64_in _ (by omega)]; omega
  have n9 : ¬ (((9 : Nat) : Int) = 0) := by omega
  have z0 : ((0 : Nat) : Int) = 0 := rfl
  have h2 := h.set { W with num := f.n, size := k } rfl
  simp only [ob_s, as_t, g, setList, xfill, xbslice, List.set, List.length, List.length_cons, List.getD_cons_zero, List.getD_cons_succ, List.getElem?_cons_zero, List.all, St.obj_setObj, if_pos, and_true, true_and, Bool.and_self, eq_self, Nat.zero_add, Nat.add_zero, Nat.reduceAdd, Nat.reduceLeDiff, Nat.le_refl, decide_true, k_add, k_cells_i, k_faddr_p, k_gtr, k_load_p, k_lss, k_nilck_p, k_ok_i, k_len_bsl, k_store_p, k_get1, gk, ha1, ha2, hw, wcells, setObj_setObj, wi]
  by_cases hkl : k = f.d.length
  · have nlt : ¬ ((k : Int) < ((f.d.length : Nat) : Int)) := by omega
    simp only [as_f, decide_false, nlt]
    exact ⟨_, St.le_refl _, k0 hkl _ h2⟩
  · have lt : ((k : Int) < ((f.d.length : Nat) : Int)) := by omega
    simp only [as_t, decide_true, lt]
    refine call_cut_mid (W := { W with num := f.n, size := k }) h2 hfl hd hk2 ?_ ?_
    · intro S' D' hD hok
      have hne : ¬ f.d.take k = [] := by
        intro hc
        have := congrArg List.length hc
        simp at this; rcases this with h | h
        · omega
        · rw [h] at hk2; simp at hk2; omega
      rw [if_neg hne] at hok
      have h3 : WkAt R1 S' w p { W with num := f.n, size := k } D' := ⟨h.1, hD⟩
      simp only [ob_s, setList, Option.map_some, List.set, List.length, if_pos, eq_self, Nat.zero_add, k_cells_i]
      refine call_first h3 ?_
      intro S2 h4
      rw [fst_zero] at h4
      simp only [ob_s, as_f, eq_self, ne_eq, not_true, decide_false, k_neq, z0]
      exact ⟨_, St.le_refl _, k1 hkl _ _ h4 hok⟩
    · intro S' D' hD hout
      have h3 : WkAt R1 S' w p { W with num := f.n, size := k } D' := ⟨h.1, hD⟩
      simp only [ob_s, setList, Option.map_some, List.set, List.length, if_pos, eq_self, Nat.zero_add, k_cells_i]
      refine call_first h3 ?_
      intro S2 h4
      simp only [ob_s, as_t, ne_eq, not_false_eq_true, decide_true, k_neq, n9]
      exact k2 _ _ _ h4 (fst_name _ _) hout
theorem a35_extra (h : WkAt R1 S w p W D) (hfl : D.fl = pre ++ f :: post) (hfd : f.d ≠ []) (hi : i < 1000) (hd : D.down = false)
    (k1 : ∀ S' D', WkAt R1 S' w p W D' → Ok D D' (pre ++ post) → rec1 [vb, vr, gd, .int .i64 (i + 1 : Nat)] S')
    (k2 : ∀ S' D' W', WkAt R1 S' w p W' D' → W'.name = W.name → Out D D' D.fl → K (.ret (.tuple [.slice [] 0 .nil, .slice [] 0 .nil, .int .i64 (9 : Nat)])) S') :
    A35 Sp37 Sp52 (.ptr (some (w, 0))) v (.str (bstr (fname W.name f.n))) (bsl f.d o2) (.int .i64 i) gd rec1 [vb, vr, g2, .int .i64 0] S K := by
  unfold A35
  have hw := h.obj
  have gk : ¬ ((0 : Int) > 0) := by omega
  have wi : IntKind.i64.wrap ((i : Int) + 1) = ((i + 1 : Nat) : Int) := by rw [IntWalk.i64_in _ (by omega)]; omega
  have n9 : ¬ (((9 : Nat) : Int) = 0) := by omega
  have z0 : ((0 : Nat) : Int) = 0 := rfl
  have lt : ((0 : Int) < ((f.d.length : Nat) : Int)) := by have := List.length_pos_iff.2 hfd; omega
  simp only [ob_s, as_t, as_f, g, setList, xfill, xbslice, List.length, List.getD_cons_zero, List.getD_cons_succ, List.getElem?_cons_zero, List.all, St.obj_setObj, if_pos, and_true, true_and, Bool.and_self, eq_self, Nat.zero_add, Nat.add_zero, Nat.reduceAdd, Nat.reduceLeDiff, Nat.le_refl, decide_true, decide_false, k_add, k_cells_i, k_faddr_p, k_gtr, k_load_p, k_lss, k_nilck_p, k_ok_i, k_len_bsl, k_store_p, k_get1, gk, lt, hw, wcells, wi]
  refine call_cut_mid (m := 0) h hfl hd (by omega) ?_ ?_
  · intro S' D' hD hok
    rw [if_pos (by rfl), List.nil_append] at hok
    have h3 : WkAt R1 S' w p W D' := ⟨h.1, hD⟩
    simp only [ob_s, setList, Option.map_some, List.set, List.length, if_pos, eq_self, Nat.zero_add, k_cells_i]
    refine call_first h3 ?_
    intro S2 h4
    rw [fst_zero] at h4
    simp only [ob_s, as_f, eq_self, ne_eq, not_true, decide_false, k_neq, z0]
    exact ⟨_, St.le_refl _, k1 _ _ h4 hok⟩
  · intro S' D' hD hout
    have h3 : WkAt R1 S' w p W D' := ⟨h.1, hD⟩
    simp only [ob_s, setList, Option.map_some, List.set, List.length, if_pos, eq_self, Nat.zero_add, k_cells_i]
    refine call_first h3 ?_
    intro S2 h4
    simp only [ob_s, as_t, ne_eq, not_false_eq_true, decide_true, k_neq, n9]
    exact k2 _ _ _ h4 (fst_name _ _) hout

/-- No frame. -/
theorem n35_none {t1 t2 i at' : AV} {k : AV → Prop} (h : k (.bool true)) : N35 t1 t2 i at' (.int .i64 0) (.int .i64 0) S k := by
  unfold N35
  simp only [ob_s, gv_tf, gv_n, pick_t, eq_self, decide_true, k_eql]
  exact h
/-- A record. -/
theorem n35_rec {t1 t2 i : AV} {at' n : Nat} {k : AV → Prop} (ha : 0 < at') (hn : 0 < n) (h : k (.bool false)) : N35 t1 t2 i (.int .i64 at') (.int .i64 (2 : Nat)) (.int .i64 n) S k := by
  unfold N35
  have n1 : ¬ ((n : Int) = 0) := by omega
  have n2 : ¬ ((at' : Int) = 0) := by omega
  have n3 : (at' : Int) > 0 := by omega
  have z2 : ((2 : Nat) : Int) = 2 := rfl
  simp only [ob_s, gv_tt, gv_ff, gv_ft, pick_t, pick_f, eq_self, ne_eq, not_true, decide_true, decide_false, k_eql, k_gtr, k_neq, n1, n2, n3, z2]
  exact h
/-- The base. -/
theorem n35_base {t1 : AV} {i n : Nat} {k : AV → Prop} (hn : 0 < n) (h : k (.bool false)) : N35 t1 (.int .i64 i) (.int .i64 i) (.int .i64 0) (.int .i64 (0 : Nat)) (.int .i64 n) S k := by
  unfold N35
  have n1 : ¬ ((n : Int) = 0) := by omega
  have n3 : ¬ ((0 : Int) > 0) := by omega
  have n4 : ¬ ((0 : Int) = 2) := by omega
  have n5 : ¬ ((i : Int) > (i : Int)) := by omega
  have z0 : ((0 : Nat) : Int) = 0 := rfl
  simp only [ob_s, gv_tt, gv_ff, gv_ft, pick_t, pick_f, Bool.not_true, eq_self, decide_true, decide_false, k_bneq, k_eql, k_gtr, n1, n3, n4, n5, z0, beq_self_eq_true]
  exact h
/-- A file that goes on. -/
theorem n35_on {t1 : AV} {i j n m : Nat} {ad1 ad2 : AV} {k : AV → Prop} (hn : 0 < n) (hj : j < i) (hi : i < 1000) (hm : m < 1000) (h1 : xiaddr 1 t1 (.int .i64 (i - 1 : Nat)) = some ad1) (h2 : xiaddr 1 t1 (.int .i64 i) = some ad2)
    (h3 : xload false 1 ad1 S = some (.int .i64 (m : Nat))) (h4 : xload false 1 ad2 S = some (.int .i64 (m + 1 : Nat))) (h : k (.bool false)) : N35 t1 (.int .i64 j) (.int .i64 i) (.int .i64 0) (.int .i64 (1 : Nat)) (.int .i64 n) S k := by
  unfold N35
  have n1 : ¬ ((n : Int) = 0) := by omega
  have n3 : ¬ ((0 : Int) > 0) := by omega
  have n4 : ¬ ((1 : Int) = 2) := by omega
  have n6 : ¬ ((1 : Int) = 0) := by omega
  have n5 : ((i : Int) > (j : Int)) := by omega
  have n7 : ¬ ((i : Int) = (j : Int)) := by omega
  have z0 : ((1 : Nat) : Int) = 1 := rfl
  have w1 : IntKind.i64.wrap ((i : Int) - 1) = ((i - 1 : Nat) : Int) := by rw [IntWalk.i64_in _ (by omega)]; omega
  have w2 : IntKind.i64.wrap (((m : Nat) : Int) + 1) = ((m + 1 : Nat) : Int) := by rw [IntWalk.i64_in _ (by omega)]; omega
  simp only [ob_s, gv_tt, gv_ff, gv_ft, pick_t, pick_f, Bool.not_true, eq_self, ne_eq, not_true, decide_true, decide_false, k_add, k_bneq, k_eql, k_gtr, k_neq, k_sub, n1, n3, n4, n5, n6, n7, z0, w1, w2, h1, h2, h3, h4, beq_self_eq_true]
  exact h

/-- Behind the chain: nothing that can be read. -/
theorem i35_extra {A1 A2 : List AV → St → Prop} {t2 : AV} {d : List UInt8} {b : Bool} (hp : Partial d) (hd : d ≠ []) (hl : d.length ≤ 1073741824) (ho : o2 = .nil → d = [])
    (k1 : b = true → A1 [vb, vr, .bool b, .int .i64 0] S) (k2 : b = false → A2 [vb, vr, .bool b, .int .i64 0] S) :
    I35 Sp32 v t2 (bsl d o2) (.int .i64 i) A1 A2 [vb, vr, .bool b, .int .i64 0] S K := by
  unfold I35
  have ho2 : o2 ≠ .nil := fun h => hd (ho h)
  refine aloop_inv (fun n l S' => S' = S ∧ l = [vb, vr, .bool b, .int .i64 0]) 0 ⟨rfl, rfl⟩ ?_
  rintro n _ S ⟨rfl, rfl⟩ rec hrec
  have lt : ((0 : Int) < ((d.length : Nat) : Int)) := by have := List.length_pos_iff.2 hd; omega
  have sl : xslice 1 (bsl d o2) (some (.int .i64 0)) none none = some (bsl d (ownSub 1 o2 d.length d.length none)) := slice_from (k := 0) .i64 (by omega) ho2
  cases b
  · simp only [ob_s, as_f, gv_ft, pick_f, g, xfill, xbslice, List.length, List.getD_cons_zero, List.getD_cons_succ, and_true, Nat.zero_add, Nat.le_refl]
    exact k2 rfl
  · simp only [ob_s, as_t, gv_tt, pick_t, g, xfill, xbslice, List.length, List.getD_cons_zero, List.getD_cons_succ, and_true, Nat.zero_add, Nat.le_refl, decide_true, k_lss, k_len_bsl, lt, sl]
    refine call_next_none hp (fun h => absurd h (ownSub_ne ho2)) hl ?_
    simp only [ob_s, as_t, setList, Option.map_some, List.set, List.length, List.getElem?_cons_zero, List.getElem?_cons_succ, if_pos, eq_self, Nat.zero_add, decide_true, k_add, k_cells_sl, k_eql, k_extract]
    refine n35_none ?_
    simp only [as_t]
    exact k1 rfl
/-- A file of the chain. -/
theorem i35_chain {A1 A2 : List AV → St → Prop} {c : C} {vb0 : AV} {b : List UInt8} {pr : List (List UInt8)} {o : Own} {from' : Nat} (hhd : (i = from' ∧ c.k = 0 ∧ c.b = b) ∨
      (from' < i ∧ c.k = 1 ∧ vb0 = bsl b .ro ∧ ∃ ad1 ad2 n, xiaddr 1 v (.int .i64 (i - 1 : Nat)) = some ad1 ∧ xiaddr 1 v (.int .i64 i) = some ad2 ∧ n < 1000 ∧ ∀ S', R.le S' → xload false 1 ad1 S' = some (.int .i64 (n : Nat)) ∧ xload false 1 ad2 S' = some (.int .i64 (n + 1 : Nat))))
    (hi : i < 1000) (hcb : c.b.length ≤ 60000) (hcr : ∀ r ∈ c.rs, r.length ≤ 60000) (hp : Partial c.tail) (hl : c.d.length ≤ 268435456) (hpr : pr.length + c.rs.length < 1073741824) (ho : o2 = .nil → c.d = [])
    (hT : Tl 1 R R1 o) (hno : o = .nil → pr = []) (h : WkAt R1 S w p W D)
    (k1 : c.tail ≠ [] → ∀ S' R1 o, Tl 1 R R1 o → (o = .nil → pr ++ c.rs = []) → WkAt R1 S' w p W D → A1 [bsl b .ro, .slice (recCells (pr ++ c.rs)) (pr ++ c.rs).length o, .bool true, .int .i64 (c.good.length : Nat)] S')
    (k2 : c.tail = [] → ∀ S' R1 o, Tl 1 R R1 o → (o = .nil → pr ++ c.rs = []) → WkAt R1 S' w p W D → A2 [bsl b .ro, .slice (recCells (pr ++ c.rs)) (pr ++ c.rs).length o, .bool true, .int .i64 (c.good.length : Nat)] S') :
    I35 Sp32 v (.int .i64 from') (bsl c.d o2) (.int .i64 i) A1 A2 [vb0, .slice (recCells pr) pr.length o, .bool true, .int .i64 0] S K := by
  unfold I35
  have hhne : c.hd ≠ [] := frameB_ne _ _
  have ho2' : o2 ≠ .nil := by
    intro hc; have := ho hc
    simp only [C.d, C.good, List.append_eq_nil_iff] at this
    exact hhne this.1.1
  have hck : c.k ≤ 2 := by rcases hhd with ⟨_, h, _⟩ | ⟨_, h, _⟩ <;> omega
  have hgl : c.good.length ≤ c.d.length := by simp [C.d]
  have n02 : ¬ ((0 : Int) = 2) := by omega
  have n10 : ¬ ((1 : Int) = 0) := by omega
  have n12 : ¬ ((1 : Int) = 2) := by omega
  have n20 : ¬ (((2 : Nat) : Int) = 0) := by omega
  have z2 : ((2 : Nat) : Int) = 2 := rfl
  have g00 : ¬ ((0 : Int) > 0) := by omega
  refine aloop_inv (fun m l S' => (m = c.rs.length + 2 ∧ ∃ R1 o, l = [vb0, .slice (recCells pr) pr.length o, .bool true, .int .i64 0] ∧ Tl 1 R R1 o ∧ (o = .nil → pr = []) ∧ WkAt R1 S' w p W D) ∨
      (∃ q R1 o, q ≤ c.rs.length ∧ m = c.rs.length - q + 1 ∧ l = [bsl b .ro, .slice (recCells (pr ++ c.rs.take q)) (pr ++ c.rs.take q).length o, .bool true, .int .i64 ((c.hd ++ recs (c.rs.take q)).length : Nat)] ∧ Tl 1 R R1 o ∧ (o = .nil → pr ++ c.rs.take q = []) ∧ WkAt R1 S' w p W D))
    (c.rs.length + 2) (.inl ⟨rfl, R1, o, rfl, hT, hno, h⟩) ?_
  rintro m l S hI rec2 hrec2
  rcases hI with ⟨rfl, R1, o, rfl, hT, hno, h1⟩ | ⟨q, R1, o, hq, rfl, rfl, hT, hno, h1⟩
  · -- the head
    have g0 : (0 : Int) < ((c.d.length : Nat) : Int) := by
      have : 0 < c.d.length := List.length_pos_iff.2 (by intro hc; simp only [C.d, C.good, List.append_eq_nil_iff] at hc; exact hhne hc.1.1)
      omega
    have sl : xslice 1 (bsl c.d o2) (some (.int .i64 0)) none none = some (bsl c.d (ownSub 1 o2 c.d.length c.d.length none)) := slice_from (k := 0) .i64 (by omega) ho2'
    simp only [ob_s, as_t, gv_tt, pick_t, g, xfill, xbslice, List.length, List.getD_cons_zero, List.getD_cons_succ, and_true, Nat.zero_add, Nat.le_refl, decide_true, k_lss, k_len_bsl, g0, sl]
    refine call_next_some c.k c.b (recs c.rs ++ c.tail) (by simp [C.d, C.good, C.hd]) hck hcb (ownSub_ne ho2') (by omega) ?_
    have hfl0 := frame_len c.k c.b hck hcb
    have wz : IntKind.i64.wrap (0 + ((frameB c.k c.b).length : Int)) = (((frameB c.k c.b).length : Nat) : Int) := by rw [IntWalk.i64_in _ (by omega)]; omega
    have z0 : ((0 : Nat) : Int) = 0 := rfl
    have z1 : ((1 : Nat) : Int) = 1 := rfl
    rcases hhd with ⟨hif, hk0, hb0⟩ | ⟨hif, hk0, hvb, ad1, ad2, n, ha1, ha2, hn, hld⟩
    · subst hif
      simp only [ob_s, setList, Option.map_some, List.set, List.length, List.getElem?_cons_zero, List.getElem?_cons_succ, if_pos, eq_self, Nat.zero_add, k_add, k_eql, k_extract, k_cells_bsl]
      rw [hk0] at wz hfl0 ⊢
      refine n35_base (by omega) ?_
      simp only [as_t, as_f, eq_self, decide_true, decide_false, z0, n02, wz]
      refine ⟨S, St.le_refl _, hrec2 (c.rs.length - 0 + 1) _ _ (by omega) (.inr ⟨0, R1, o, by omega, rfl, ?_, hT, by simpa using hno, h1⟩)⟩
      simp [hb0, recs, C.hd, hk0]
    · obtain ⟨hb1, hb2⟩ := hld S (St.le_trans hT.1 h1.rle)
      simp only [ob_s, setList, Option.map_some, List.set, List.length, List.getElem?_cons_zero, List.getElem?_cons_succ, if_pos, eq_self, Nat.zero_add, k_add, k_eql, k_extract, k_cells_bsl]
      rw [hk0] at wz hfl0 ⊢
      refine n35_on (by omega) hif hi hn ha1 ha2 hb1 hb2 ?_
      simp only [as_f, decide_false, z1, n10, n12, wz]
      refine ⟨S, St.le_refl _, hrec2 (c.rs.length - 0 + 1) _ _ (by omega) (.inr ⟨0, R1, o, by omega, rfl, ?_, hT, by simpa using hno, h1⟩)⟩
      simp [hvb, recs, C.hd, hk0]
  · -- the records
    have hd0 : 0 < c.hd.length := List.length_pos_iff.2 hhne
    generalize hat : (c.hd ++ recs (c.rs.take q)).length = at'
    have hat0 : 0 < at' := by rw [← hat, List.length_append]; omega
    have hcd : c.d = (c.hd ++ recs (c.rs.take q)) ++ (recs (c.rs.drop q) ++ c.tail) := by
      have : recs c.rs = recs (c.rs.take q) ++ recs (c.rs.drop q) := by rw [← recs_append, List.take_append_drop]
      simp [C.d, C.good, this]
    have hdrop : c.d.drop at' = recs (c.rs.drop q) ++ c.tail := by rw [hcd, ← hat, List.drop_left]
    have hlen : c.d.length = at' + (recs (c.rs.drop q) ++ c.tail).length := by rw [hcd, List.length_append, hat]
    have sl : at' ≤ c.d.length → xslice 1 (bsl c.d o2) (some (.int .i64 at')) none none = some (bsl (recs (c.rs.drop q) ++ c.tail) (ownSub 1 o2 c.d.length c.d.length none)) := by
      intro hle; rw [← hdrop]; exact slice_from (k := at') .i64 hle ho2'
    have ss := sl (by omega)
    have gat : (at' : Int) > 0 := by omega
    rcases Nat.lt_or_ge q c.rs.length with hql | hqe
    · -- one more
      obtain ⟨r, hr⟩ : ∃ r, c.rs[q]? = some r := ⟨c.rs[q], List.getElem?_eq_getElem hql⟩
      have hdr : c.rs.drop q = r :: c.rs.drop (q + 1) := by
        rw [List.drop_eq_getElem_cons hql]
        rw [List.getElem?_eq_getElem hql] at hr
        cases hr; rfl
      have hrm : r ∈ c.rs := List.mem_of_getElem? hr
      have hbd : recs (c.rs.drop q) ++ c.tail = frameB 2 r ++ (recs (c.rs.drop (q + 1)) ++ c.tail) := by rw [hdr]; simp [recs]
      have hfr := frame_len 2 r (by omega) (hcr r hrm)
      have hlb : (recs (c.rs.drop q) ++ c.tail).length = (frameB 2 r).length + (recs (c.rs.drop (q + 1)) ++ c.tail).length := by rw [hbd, List.length_append]
      have lt : (at' : Int) < ((c.d.length : Nat) : Int) := by omega
      simp only [ob_s, as_t, gv_tt, pick_t, g, xfill, xbslice, List.length, List.getD_cons_zero, List.getD_cons_succ, and_true, Nat.zero_add, Nat.le_refl, decide_true, k_lss, k_len_bsl, lt, ss]
      refine call_next_some 2 r (recs (c.rs.drop (q + 1)) ++ c.tail) hbd (by omega) (hcr r hrm) (ownSub_ne ho2') (by omega) ?_
      simp only [ob_s, setList, Option.map_some, List.set, List.length, List.getElem?_cons_zero, List.getElem?_cons_succ, if_pos, eq_self, Nat.zero_add, k_add, k_eql, k_extract, k_cells_bsl]
      refine n35_rec hat0 (by omega) ?_
      have wz : IntKind.i64.wrap ((at' : Int) + ((frameB 2 r).length : Int)) = ((at' + (frameB 2 r).length : Nat) : Int) := by rw [IntWalk.i64_in _ (by omega)]; omega
      simp only [as_t, as_f, eq_self, decide_true, z2]
      have n20' : ¬ ((2 : Int) = 0) := by omega
      simp only [as_f, decide_false, n20']
      refine app_rec (r := r) h1 hT hno ?_ ?_ ?_
      · simp [xnews]
      · simp; omega
      · intro o' S' R1' hT' hno' h2
        have htk : c.rs.take (q + 1) = c.rs.take q ++ [r] := by rw [List.take_add_one, hr]; rfl
        simp only [wz]
        refine ⟨S', St.le_refl _, hrec2 (c.rs.length - (q + 1) + 1) _ _ (by omega) (.inr ⟨q + 1, R1', o', by omega, rfl, ?_, hT', ?_, h2⟩)⟩
        · have e : (c.hd ++ recs (c.rs.take q) ++ frameB 2 r).length = at' + (frameB 2 r).length := by rw [List.length_append, hat]
          rw [htk, ← List.append_assoc, recs_append, ← List.append_assoc, recs_one, e]
        · rw [htk, ← List.append_assoc]; exact hno'
    · -- no more
      have hqe' : q = c.rs.length := by omega
      subst hqe'
      rw [List.take_length] at hat ⊢ hno
      rw [List.drop_length] at hlen ss hdrop
      have hg : c.good.length = at' := hat
      have hrn : recs ([] : List (List UInt8)) = [] := rfl
      rw [hrn, List.nil_append] at hlen ss
      by_cases ht : c.tail = []
      · have nlt : ¬ ((at' : Int) < ((c.d.length : Nat) : Int)) := by rw [hlen, ht]; simp
        simp only [ob_s, as_f, gv_tt, pick_t, g, xfill, xbslice, List.length, List.getD_cons_zero, List.getD_cons_succ, and_true, Nat.zero_add, Nat.le_refl, decide_false, k_lss, k_len_bsl, nlt]
        rw [← hg]
        exact k2 ht S R1 o hT hno h1
      · have htl : 0 < c.tail.length := List.length_pos_iff.2 ht
        have lt : (at' : Int) < ((c.d.length : Nat) : Int) := by omega
        simp only [ob_s, as_t, gv_tt, pick_t, g, xfill, xbslice, List.length, List.getD_cons_zero, List.getD_cons_succ, and_true, Nat.zero_add, Nat.le_refl, decide_true, k_lss, k_len_bsl, lt, ss]
        refine call_next_none hp (fun h => absurd h (ownSub_ne ho2')) (by omega) ?_
        simp only [ob_s, as_t, setList, Option.map_some, List.set, List.length, List.getElem?_cons_zero, List.getElem?_cons_succ, if_pos, eq_self, Nat.zero_add, decide_true, k_add, k_cells_sl, k_eql, k_extract]
        refine n35_none ?_
        simp only [as_t]
        rw [← hg]
        exact k1 ht S R1 o hT hno h1
end Go.AM
/-
  wal: replay.
-/
namespace Go.AM
open Go
set_option maxRecDepth 20000

structure XRp where
  R : St
  w : Nat
  p : Nat
  W : WalS
  D : DS
  v : AV
  gs : List F
  a : Nat
  base : List UInt8
  ini : List C
  la : C
  xs : List F
def XRp.all (x : XRp) : List (List UInt8) := (x.ini ++ [x.la]).flatMap (·.rs)
def XRp.numsV (x : XRp) : List AV := x.D.fl.map fun f => avI f.n
/-- What is left where the power goes out. -/
def XRp.Fail (x : XRp) (v : AV) (S' : St) : Prop := ∃ D' W' gs' la' xs' vx vy, v = .tuple [vx, vy, .int .i64 (9 : Nat)] ∧ WkAt x.R S' x.w x.p W' D' ∧ W'.name = x.W.name ∧
  Out x.D D' (gs' ++ (chainF x.a (x.ini ++ [la']) ++ xs')) ∧ gs' <+: x.gs ∧ xs' <:+ x.xs ∧ (la' = x.la ∨ ∃ s', la' = { x.la with tail := [], s := s' } ∧ (x.la.s = x.la.d.length → s' = x.la.good.length))
def XRp.Done (x : XRp) (v : AV) (S' : St) : Prop := ∃ o D', v = .tuple [bsl x.base .ro, .slice (recCells x.all) x.all.length o, .int .i64 (0 : Nat)] ∧
  WkAt x.R S' x.w x.p { x.W with num := x.a + x.ini.length, size := x.la.good.length, count := x.all.length } D' ∧ Ok x.D D' (chainF x.a (x.ini ++ [{ x.la with tail := [], s := x.la.good.length }]))
def Sp35 : Spec := rspec (fun (x : XRp) args S => args = [.ptr (some (x.w, 0)), x.v, .int .i64 (x.gs.length : Nat)] ∧ WkAt x.R S x.w x.p x.W x.D ∧ IsVec x.R x.v x.numsV ∧ Shape x.D.fl x.gs x.a x.base x.ini x.la x.xs ∧ x.D.down = false ∧ x.all.length < 1073741824)
  fun x _ v S' => x.Done v S' ∨ x.Fail v S'

theorem f35_ok {R1 S : St} {w p : Nat} {W : WalS} {D : DS} {K : En → St → Prop} {pre : List F} {f : F} {vb gd iv : AV} {cs : List AV} {n : Nat} {o : Own} (h : WkAt R1 S w p W D) (hfl : D.fl = pre ++ [f]) (hnum : W.num = f.n) (hd : D.down = false)
    (k1 : ∀ S' D', WkAt R1 S' w p { W with count := n } D' → Ok D D' (pre ++ [⟨f.n, f.d, f.d.length⟩]) → K (.ret (.tuple [vb, .slice cs n o, .int .i64 (0 : Nat)])) S')
    (k2 : ∀ S' D' W', WkAt R1 S' w p W' D' → W'.name = W.name → Out D D' D.fl → K (.ret (.tuple [vb, .slice cs n o, .int .i64 (9 : Nat)])) S') :
    F35 Sp31 Sp37 Sp38 (.ptr (some (w, 0))) [vb, .slice cs n o, gd, iv] S K := by
  unfold F35
  have hw := h.obj
  have h2 := h.set { W with count := n } rfl
  have hf := h.small f (by rw [hfl]; simp)
  have hf' : 0 < W.num ∧ W.num < 100 := by rw [hnum]; exact hf
  simp only [ob_s, g, setList, xfill, xbslice, List.set, List.length, List.getD_cons_zero, List.getD_cons_succ, List.getElem?_cons_zero, List.getElem?_cons_succ, List.all, St.obj_setObj, if_pos, and_true, true_and, Bool.and_self, eq_self, Nat.zero_add, Nat.add_zero, Nat.reduceAdd, Nat.reduceLeDiff, Nat.le_refl, k_cells_i, k_faddr_p, k_len_s, k_load_p, k_nilck_p, k_ok_i, k_store_p, k_get1, hw, wcells]
  refine call_file (W := { W with count := n }) h2 hf'.2 ?_
  have hw2 := h2.obj
  simp only [wcells] at hw2
  simp only [List.getElem?_cons_zero, St.obj_setObj, if_pos, true_and, eq_self]
  refine call_syn h2.dk hf' ?_
  intro S' h'
  have h3 : WkAt R1 S' w p { W with count := n } (D.syn W.num).2 := ⟨h.1, h'⟩
  have en : D.syn W.num = D.syn f.n := by rw [hnum]
  rw [en] at h3 ⊢
  rcases syn_mid hfl (h.full f (by rw [hfl]; simp)) h.sorted hd with ⟨e1, e2⟩ | ⟨e1, e2⟩
  · rw [e1]
    simp only [ob_s, setList, Option.map_some, List.set, List.length, if_pos, eq_self, Nat.zero_add, k_cells_i]
    refine call_first h3 ?_
    intro S2 h4
    rw [fst_zero] at h4
    exact k1 _ _ h4 e2
  · rw [e1]
    simp only [ob_s, setList, Option.map_some, List.set, List.length, if_pos, eq_self, Nat.zero_add, k_cells_i]
    refine call_first h3 ?_
    intro S2 h4
    exact k2 _ _ _ h4 (fst_name _ _) e2
theorem split_last {ini cs1 cs2 : List C} {la c : C} (h : ini ++ [la] = cs1 ++ c :: cs2) : (cs2 = [] ∧ cs1 = ini ∧ c = la) ∨ (cs2 ≠ [] ∧ c ∈ ini) := by
  cases cs2 with
  | nil =>
    have := List.append_inj' h rfl
    simp at this
    exact .inl ⟨rfl, this.1.symm, this.2.symm⟩
  | cons d cs2 =>
    right
    refine ⟨by simp, ?_⟩
    have h2 : ini = cs1 ++ c :: (d :: cs2).dropLast := by
      have h3 := congrArg List.dropLast h
      rw [List.dropLast_concat, List.dropLast_append_of_ne_nil (by simp)] at h3
      rw [h3]; rfl
    rw [h2]; simp
theorem s35 : Sound PR 35 Sp35 := by
  refine sound_r PR_mixed (sounds_cons s30 (sounds_cons s31 (sounds_cons s32 (sounds_cons s33 (sounds_cons s37 (sounds_cons s38 (sounds_cons s52 sounds_nil))))))) (monos_cons (rspec_mono _ _) (monos_cons (rspec_mono _ _) (monos_cons (rspec_mono _ _) (monos_cons (rspec_mono _ _) (monos_cons (rspec_mono _ _) (monos_cons (rspec_mono _ _) (monos_cons (rspec_mono _ _) monos_nil))))))) (own := own []) (ord := O35) (lh := H35) (fn := Go.Proofs.Tryz.f35) (by kernel_rfl) (by kernel_rfl) ?_
  rintro x args S ⟨rfl, h, hvec, hsh, hdown, hall⟩
  rw [W35_eq]
  refine ⟨rfl, ?_⟩
  rw [W35_parts]
  unfold W35P
  obtain ⟨R, w, p, W, D, v, gs, a, base, ini, la, xs⟩ := x
  dsimp only at h hvec hsh hdown ⊢
  have hsm := h.small
  have hfew := h.few
  have hlen : D.fl.length = gs.length + ((ini.length + 1) + xs.length) := by rw [hsh.fl]; simp [chainF_length]
  obtain ⟨hv1, hv2⟩ := hvec
  simp only [XRp.numsV] at hv1 hv2
  simp only [List.length_map] at hv1
  have hgs : ∀ (j : Nat) (g : F), gs[j]? = some g → (D.fl.map fun f => avI f.n)[j]? = some (avI g.n) := by
    intro j g hg
    rw [List.getElem?_map, hsh.fl, List.getElem?_append_left (by rcases Nat.lt_or_ge j gs.length with h | h; exact h; rw [List.getElem?_eq_none h] at hg; cases hg), hg]; rfl
  have hch : ∀ (cs1 : List C) (c : C) (cs2 : List C), ini ++ [la] = cs1 ++ c :: cs2 → (D.fl.map fun f => avI f.n)[gs.length + cs1.length]? = some (avI ((a + cs1.length : Nat) : Int)) := by
    intro cs1 c cs2 hc
    rw [List.getElem?_map, hsh.fl, List.getElem?_append_right (by omega), hc, chainF_append]
    rw [show gs.length + cs1.length - gs.length = (chainF a cs1).length by rw [chainF_length]; omega]
    simp [chainF]
  have hxs : ∀ (xs1 : List F) (x : F) (xs2 : List F), xs = xs1 ++ x :: xs2 → (D.fl.map fun f => avI f.n)[gs.length + ini.length + 1 + xs1.length]? = some (avI x.n) := by
    intro xs1 x xs2 hx
    rw [List.getElem?_map, hsh.fl, List.getElem?_append_right (by omega), List.getElem?_append_right (by rw [chainF_length]; simp; omega), chainF_length, hx]
    rw [show gs.length + ini.length + 1 + xs1.length - gs.length - (ini ++ [la]).length = xs1.length by simp; omega]
    simp
  have w0 : IntKind.i64.wrap ((D.fl.length : Int) - 1) = (D.fl.length : Int) - 1 := IntWalk.i64_in _ (by omega)
  simp only [ob_s, g, k_sub, hv1, w0]
  have z0 : ((0 : Nat) : Int) = 0 := rfl
  have n9 : ¬ (((9 : Nat) : Int) = 0) := by omega
  refine aloop_inv (fun m l S' => ∃ D', l = [.slice [] 0 .nil, .slice [] 0 .nil, .int .i64 ((m : Int) - 1)] ∧ m ≤ D.fl.length ∧ WkAt R S' w p W D' ∧ Ok D D' (gs.take m ++ (chainF a (ini ++ [la]) ++ xs))) D.fl.length
    ⟨D, rfl, Nat.le_refl _, h, by rw [List.take_of_length_le (by omega)]; exact hsh.fl, rfl, rfl, hdown⟩ ?_
  rintro m _ S1 ⟨D1, rfl, hm, h1, hok⟩ rec hrec
  simp only [ob_s, List.getD_cons_zero, List.getD_cons_succ, k_geq, k_lss, k_sub]
  refine asplit_of _ ?_ ?_
  · intro hge
    obtain ⟨m, rfl⟩ : ∃ m', m = m' + 1 := ⟨m - 1, by omega⟩
    have em : ((m + 1 : Nat) : Int) - 1 = (m : Int) := by omega
    have em2 : IntKind.i64.wrap ((m : Int) - 1) = (m : Int) - 1 := IntWalk.i64_in _ (by omega)
    rw [em]
    simp only [em2]
    refine asplit_of _ ?_ ?_
    · intro hlt
      have hm' : m < gs.length := by omega
      generalize hg : gs[m] = f0
      have hgm : gs[m]? = some f0 := by rw [List.getElem?_eq_getElem hm', hg]
      have htake : gs.take (m + 1) = gs.take m ++ [f0] := by rw [List.take_add_one, hgm]; rfl
      have hfl : D1.fl = gs.take m ++ f0 :: (chainF a (ini ++ [la]) ++ xs) := by rw [hok.fl, htake]; simp
      obtain ⟨ad, ha1, ha2⟩ := hv2 S1 h1.rle m _ (hgs m f0 hgm)
      simp only [ob_s, ha1, ha2, avI]
      refine call_drop h1 (h1.small f0 (by rw [hfl]; simp)) ?_
      intro S2 h2
      rcases cut_mid 0 hfl h1.sorted hok.down with ⟨e1, e2⟩ | ⟨e1, e2⟩
      · rw [e1, fst_zero] at h2
        rw [e1]
        simp only [ob_s, as_f, eq_self, ne_eq, not_true, decide_false, k_neq, z0]
        exact ⟨S2, St.le_refl _, hrec m _ _ (by omega) ⟨_, rfl, by omega, h2, hok.trans (by simpa using e2)⟩⟩
      · rw [e1] at h2
        rw [e1]
        simp only [ob_s, as_t, ne_eq, not_false_eq_true, decide_true, k_neq, n9]
        refine done' ?_
        right
        refine ⟨_, _, gs.take (m + 1), la, xs, _, _, rfl, h2, fst_name _ _, ?_, List.take_prefix _ _, List.suffix_refl _, .inl rfl⟩
        have := hok.out e2
        rw [hok.fl] at this
        exact this
    · intro hnlt
      have ht : gs.take (m + 1) = gs.take m := by rw [List.take_of_length_le (by omega), List.take_of_length_le (by omega)]
      rw [ht] at hok
      exact ⟨S1, St.le_refl _, hrec m _ _ (by omega) ⟨D1, rfl, by omega, h1, hok⟩⟩
  · intro hlt
    have hm0 : m = 0 := by omega
    subst hm0
    rw [List.take_zero, List.nil_append] at hok
    clear hrec rec hlt hm
    refine aloop_inv (fun m l S' => (∃ cs1 c cs2 R1 o D' nu si, ini ++ [la] = cs1 ++ c :: cs2 ∧ m = xs.length + cs2.length + 2 ∧ l = [if cs1 = [] then .slice [] 0 .nil else bsl base .ro, .slice (recCells (cs1.flatMap (·.rs))) (cs1.flatMap (·.rs)).length o, .bool true, .int .i64 (gs.length + cs1.length : Nat)] ∧
          Tl 1 R R1 o ∧ (o = .nil → cs1.flatMap (·.rs) = []) ∧ WkAt R1 S' w p { W with num := nu, size := si } D' ∧ Ok D D' (chainF a (ini ++ [la]) ++ xs)) ∨
        (∃ xs1 xs2 gd R1 o D' s', xs = xs1 ++ xs2 ∧ m = xs2.length + 1 ∧ l = [bsl base .ro, .slice (recCells ((ini ++ [la]).flatMap (·.rs))) ((ini ++ [la]).flatMap (·.rs)).length o, .bool gd, .int .i64 (gs.length + ini.length + 1 + xs1.length : Nat)] ∧
          Tl 1 R R1 o ∧ WkAt R1 S' w p { W with num := a + ini.length, size := la.good.length } D' ∧ Ok D D' (chainF a (ini ++ [{ la with tail := [], s := s' }]) ++ xs2) ∧ (la.s = la.d.length → s' = la.good.length)))
      (xs.length + ini.length + 2) ?_ ?_
    · obtain ⟨c0, rest, hc0, _⟩ := hsh.heads
      refine .inl ⟨[], c0, rest, R, .nil, D1, W.num, W.size, hc0, ?_, rfl, ⟨St.le_refl _, .inl rfl⟩, fun _ => rfl, h1, hok⟩
      have := congrArg List.length hc0
      simp at this; omega
    clear h1 hok D1 S1
    rintro m l S1 hI rec hrec
    rcases hI with ⟨cs1, c, cs2, R1, o, D1, nu, si, hcs, rfl, rfl, hT, hno, h1, hok⟩ | ⟨xs1, xs2, gd, R1, o, D1, s', hxx, rfl, rfl, hT, h1, hok, hs'⟩
    · -- a file of the chain
      have hcl : cs1.length + cs2.length = ini.length := by have := congrArg List.length hcs; simp at this; omega
      have hcin : c ∈ ini ++ [la] := by rw [hcs]; simp
      have hfl : D1.fl = chainF a cs1 ++ ⟨a + cs1.length, c.d, c.s⟩ :: (chainF (a + cs1.length + 1) cs2 ++ xs) := by rw [hok.fl, hcs, chainF_append]; simp [chainF]
      have hnum : 0 < a + cs1.length ∧ a + cs1.length < 100 := h1.small ⟨a + cs1.length, c.d, c.s⟩ (by rw [hfl]; simp)
      have hdat : datL D1.fl (a + cs1.length) = c.d := by have := h1.sorted; rw [hfl] at this ⊢; exact (datL_mid this).1
      have hdl := h1.len (n := a + cs1.length) hnum.2
      rw [hdat] at hdl
      have hlt : (((gs.length + cs1.length : Nat) : Int) < (D.fl.length : Nat)) := by omega
      obtain ⟨ad, ha1, ha2⟩ := hv2 S1 (St.le_trans hT.1 h1.rle) _ _ (hch cs1 c cs2 hcs)
      have hload : ∀ S', R.le S' → xload false 1 ad S' = some (.int .i64 ((a + cs1.length : Nat) : Int)) := by
        intro S' hS'
        obtain ⟨ad2, hb1, hb2⟩ := hv2 S' hS' _ _ (hch cs1 c cs2 hcs)
        rw [ha1] at hb1; cases hb1; exact hb2
      have hck : (cs1 = [] → c.k = 0 ∧ c.b = base) ∧ (cs1 ≠ [] → c.k = 1 ∧ c.b = []) := by
        obtain ⟨c0, rest, hc0, hk0, hb0, hr⟩ := hsh.heads
        rw [hcs] at hc0
        cases cs1 with
        | nil =>
          simp only [List.nil_append, List.cons.injEq] at hc0
          rw [hc0.1]; exact ⟨fun _ => ⟨hk0, hb0⟩, fun h => absurd rfl h⟩
        | cons d ds =>
          simp only [List.cons_append, List.cons.injEq] at hc0
          exact ⟨fun h => absurd h (by simp), fun _ => hr c (by rw [← hc0.2]; simp)⟩
      have hcr := hsh.recs c hcin
      have hcb : c.b.length ≤ 60000 := by
        by_cases hc1 : cs1 = []
        · rw [(hck.1 hc1).2]; exact hsh.base
        · rw [(hck.2 hc1).2]; simp
      have hpart : Partial c.tail := by
        rcases List.mem_append.1 hcin with hc | hc
        · rw [(hsh.full c hc).1]; exact ⟨0, [], frameB 0 [], frameB_ne _ _, rfl, by omega, by simp⟩
        · simp at hc; rw [hc]; exact hsh.tail
      have hcnt : (cs1.flatMap (·.rs)).length + c.rs.length < 1073741824 := by
        have : XRp.all ⟨R, w, p, W, D, v, gs, a, base, ini, la, xs⟩ = cs1.flatMap (·.rs) ++ c.rs ++ cs2.flatMap (·.rs) := by simp only [XRp.all, hcs]; simp
        rw [this] at hall
        simp only [List.length_append] at hall
        omega
      unfold L35
      simp only [ob_s, as_t, g, List.getD_cons_zero, List.getD_cons_succ, Nat.add_zero, decide_true, k_faddr_p, k_load_p, k_lss, k_nilck_p, k_get1, hv1, hlt, ha1, ha2, avI]
      refine call_file h1 hnum.2 ?_
      have hw := h1.obj
      simp only [ob_s, List.getElem?_cons_zero, hw, wcells]
      refine call_read h1.plate hnum hok.down ?_
      intro o2 ho2
      rw [hdat] at ho2 ⊢
      simp only [ob_s, List.getElem?_cons_zero, List.getElem?_cons_succ, k_extract]
      have hsl := split_last hcs
      have hnext : ∀ S' R1 o, Tl 1 R R1 o → (o = .nil → cs1.flatMap (·.rs) ++ c.rs = []) → ∀ D' s', WkAt R1 S' w p { W with num := a + cs1.length, size := c.good.length } D' →
          Ok D D' (chainF a cs1 ++ ⟨a + cs1.length, c.good, s'⟩ :: (chainF (a + cs1.length + 1) cs2 ++ xs)) → (c.s = c.d.length → s' = c.good.length) → (cs2 ≠ [] → D'.fl = D1.fl) → ∀ gd : Bool, (cs2 ≠ [] → gd = true) →
          rec [bsl base .ro, .slice (recCells (cs1.flatMap (·.rs) ++ c.rs)) (cs1.flatMap (·.rs) ++ c.rs).length o, .bool gd, .int .i64 ((gs.length + cs1.length + 1 : Nat) : Int)] S' := by
        intro S' R1 o hT hno D' s' h' hok' hs' hsame gd hgd
        rcases hsl with ⟨h2, h3, h4⟩ | ⟨h2, h3⟩
        · subst h2 h3 h4
          refine hrec (xs.length + 1) _ _ (by simp) (.inr ⟨[], xs, gd, R1, o, D', s', rfl, rfl, ?_, hT, h', ?_, hs'⟩)
          · simp
          · have : chainF a (cs1 ++ [{ c with tail := [], s := s' }]) ++ xs = chainF a cs1 ++ ⟨a + cs1.length, c.good, s'⟩ :: (chainF (a + cs1.length + 1) [] ++ xs) := by
              rw [chainF_append]; simp [chainF, C.d, C.good, C.hd]
            rw [this]; exact hok'
        · rw [hgd h2]
          cases cs2 with
          | nil => exact absurd rfl h2
          | cons d ds =>
            refine hrec (xs.length + ds.length + 2) _ _ (by simp) (.inl ⟨cs1 ++ [c], d, ds, R1, o, D', a + cs1.length, c.good.length, by rw [hcs]; simp, rfl, ?_, hT, by simpa using hno, h', ?_⟩)
            · simp [Nat.add_assoc]
            · have := hsame h2
              exact ⟨this.trans hok.fl, hok'.room, hok'.armed, hok'.down⟩
      have hfail : ∀ S' R1 D' W' vx vy, R.le R1 → WkAt R1 S' w p W' D' → W'.name = W.name → Out D1 D' D1.fl → Done (fun v S' => XRp.Done ⟨R, w, p, W, D, v, gs, a, base, ini, la, xs⟩ v S' ∨ XRp.Fail ⟨R, w, p, W, D, v, gs, a, base, ini, la, xs⟩ v S') (.ret (.tuple [vx, vy, .int .i64 (9 : Nat)])) S' := by
        intro S' R1 D' W' vx vy hR h' hn hout
        refine done' (.inr ⟨D', W', [], la, xs, _, _, rfl, h'.weaken hR, hn, ?_, List.nil_prefix, List.suffix_refl _, .inl rfl⟩)
        have := hok.out hout
        rw [hok.fl] at this
        simpa using this
      have hi : gs.length + cs1.length < 1000 := by omega
      have hne0 : 0 < c.good.length := by
        have : 0 < c.hd.length := List.length_pos_iff.2 (frameB_ne _ _)
        simp only [C.good, List.length_append]; omega
      have hdl2 : c.d.length = c.good.length + c.tail.length := by simp [C.d]
      have htake : c.d.take c.good.length = c.good := by simp [C.d]
      have hini : cs2 ≠ [] → c.tail = [] := fun h2 => by
        rcases hsl with ⟨h3, _⟩ | ⟨_, h3⟩
        · exact absurd h3 h2
        · exact (hsh.full c h3).1
      refine i35_chain (R := R) (from' := gs.length) (b := base) (pr := cs1.flatMap (·.rs)) ?_ hi hcb hcr hpart (by omega) hcnt ho2 hT hno h1 ?_ ?_
      · by_cases hc1 : cs1 = []
        · left
          have := hck.1 hc1
          exact ⟨by rw [hc1]; rfl, this.1, this.2⟩
        · right
          have := hck.2 hc1
          obtain ⟨cs1', d, hcd⟩ : ∃ cs1' d, cs1 = cs1' ++ [d] := ⟨cs1.dropLast, cs1.getLast hc1, (List.dropLast_concat_getLast hc1).symm⟩
          have hl1 : cs1.length = cs1'.length + 1 := by rw [hcd]; simp
          obtain ⟨ad', hb1, _⟩ := hv2 S1 (St.le_trans hT.1 h1.rle) _ _ (hch cs1' d (c :: cs2) (by rw [hcs, hcd]; simp))
          have e1 : gs.length + cs1.length - 1 = gs.length + cs1'.length := by omega
          refine ⟨by omega, this.1, by rw [if_neg hc1], ad', ad, a + cs1'.length, by rw [e1]; exact hb1, ha1, by omega, fun S' hS' => ⟨?_, ?_⟩⟩
          · obtain ⟨ad2, hb3, hb4⟩ := hv2 S' hS' _ _ (hch cs1' d (c :: cs2) (by rw [hcs, hcd]; simp))
            rw [hb1] at hb3; cases hb3; exact hb4
          · have := hload S' hS'
            rw [hl1] at this
            exact this
      · intro ht S' R1' o' hT' hno' h'
        have htl : 0 < c.tail.length := List.length_pos_iff.2 ht
        refine a35_good (W := { W with num := nu, size := si }) (f := ⟨a + cs1.length, c.d, c.s⟩) (gd := .bool false) h' hfl ha1 (hload S' (St.le_trans hT'.1 h'.rle)) hne0 (by dsimp only; omega) hi hok.down ?_ ?_ ?_
        · intro hk; dsimp only at hk; omega
        · intro _ S2 D2 h2 hok2
          dsimp only at h2 hok2
          rw [htake] at hok2
          exact hnext S2 R1' o' hT' hno' D2 _ h2 (hok.trans hok2) (by intro hs; omega) (fun h => absurd (hini h) ht) false (fun h => absurd (hini h) ht)
        · intro S2 D2 W2 h2 hn hout
          exact hfail S2 R1' D2 W2 _ _ hT'.1 h2 hn hout
      · intro ht S' R1' o' hT' hno' h'
        have htl : c.tail.length = 0 := by rw [ht]; rfl
        refine a35_good (W := { W with num := nu, size := si }) (f := ⟨a + cs1.length, c.d, c.s⟩) (gd := .bool true) h' hfl ha1 (hload S' (St.le_trans hT'.1 h'.rle)) hne0 (by dsimp only; omega) hi hok.down ?_ ?_ ?_
        · intro _ S2 h2
          have hcg : c.d = c.good := by simp [C.d, ht]
          refine hnext S2 R1' o' hT' hno' D1 c.s h2 ⟨?_, hok.room, hok.armed, hok.down⟩ (by intro hs; omega) (fun _ => rfl) true (fun _ => rfl)
          rw [hfl, hcg]
        · intro hk; dsimp only at hk; omega
        · intro S2 D2 W2 h2 hn hout
          exact hfail S2 R1' D2 W2 _ _ hT'.1 h2 hn hout
    · -- behind the chain
      unfold L35
      rcases xs2 with _ | ⟨x, xs3⟩
      · have nlt : ¬ (((gs.length + ini.length + 1 + xs1.length : Nat) : Int) < ((D.fl.length : Nat) : Int)) := by
          rw [hxx] at hlen; simp at hlen; omega
        simp only [ob_s, as_f, g, List.getD_cons_zero, List.getD_cons_succ, Nat.add_zero, decide_false, k_faddr_p, k_load_p, k_lss, k_nilck_p, k_get1, hv1, nlt]
        have hfl : D1.fl = chainF a ini ++ [⟨a + ini.length, la.good, s'⟩] := by
          rw [hok.fl, chainF_append]; simp [chainF, C.d, C.good, C.hd]
        refine f35_ok (W := { W with num := a + ini.length, size := la.good.length }) h1 hfl rfl hok.down ?_ ?_
        · intro S2 D2 h2 hok2
          refine done' (.inl ⟨o, D2, rfl, h2.weaken hT.1, ?_⟩)
          have := hok.trans hok2
          refine ⟨?_, this.room, this.armed, this.down⟩
          rw [this.fl, chainF_append]; simp [chainF, C.d, C.good, C.hd]
        · intro S2 D2 W2 h2 hn hout
          refine done' (.inr ⟨D2, W2, [], { la with tail := [], s := s' }, [], _, _, rfl, h2.weaken hT.1, hn, ?_, List.nil_prefix, List.nil_suffix, .inr ⟨s', rfl, hs'⟩⟩)
          have := hok.out hout
          rw [hok.fl] at this
          simpa using this
      · have hlt : ((gs.length + ini.length + 1 + xs1.length : Nat) : Int) < ((D.fl.length : Nat) : Int) := by
          rw [hxx] at hlen; simp at hlen; omega
        have hi : gs.length + ini.length + 1 + xs1.length < 1000 := by omega
        have hfl : D1.fl = chainF a (ini ++ [{ la with tail := [], s := s' }]) ++ x :: xs3 := hok.fl
        have hxin : x ∈ D1.fl := by rw [hfl]; simp
        have hnum := h1.small x hxin
        have hxd := h1.full x hxin
        have hdat : datL D1.fl x.n = x.d := by have := h1.sorted; rw [hfl] at this ⊢; exact (datL_mid this).1
        have hdl := h1.len (n := x.n) hnum.2
        rw [hdat] at hdl
        have hpart : Partial x.d := hsh.behind x (by rw [hxx]; simp)
        obtain ⟨ad, ha1, ha2⟩ := hv2 S1 (St.le_trans hT.1 h1.rle) _ _ (hxs xs1 x xs3 hxx)
        simp only [ob_s, as_t, g, List.getD_cons_zero, List.getD_cons_succ, Nat.add_zero, decide_true, k_faddr_p, k_load_p, k_lss, k_nilck_p, k_get1, hv1, hlt, ha1, ha2, avI]
        refine call_file h1 hnum.2 ?_
        have hw := h1.obj
        simp only [ob_s, List.getElem?_cons_zero, hw, wcells]
        refine call_read h1.plate hnum hok.down ?_
        intro o2 ho2
        rw [hdat] at ho2 ⊢
        simp only [ob_s, List.getElem?_cons_zero, List.getElem?_cons_succ, k_extract]
        have hnext : ∀ S' D', WkAt R1 S' w p { W with num := a + ini.length, size := la.good.length } D' → Ok D1 D' (chainF a (ini ++ [{ la with tail := [], s := s' }]) ++ xs3) → ∀ gd : Bool,
            rec [bsl base .ro, .slice (recCells ((ini ++ [la]).flatMap (·.rs))) ((ini ++ [la]).flatMap (·.rs)).length o, .bool gd, .int .i64 (gs.length + ini.length + 1 + xs1.length + 1 : Nat)] S' := by
          intro S' D' h' hok' gd
          refine hrec (xs3.length + 1) _ _ (by simp) (.inr ⟨xs1 ++ [x], xs3, gd, R1, o, D', s', by rw [hxx]; simp, rfl, ?_, hT, h', hok.trans hok', hs'⟩)
          simp [Nat.add_assoc]
        have hfail : ∀ S' D' W' vx vy, WkAt R1 S' w p W' D' → W'.name = W.name → Out D1 D' D1.fl → Done (fun v S' => XRp.Done ⟨R, w, p, W, D, v, gs, a, base, ini, la, xs⟩ v S' ∨ XRp.Fail ⟨R, w, p, W, D, v, gs, a, base, ini, la, xs⟩ v S') (.ret (.tuple [vx, vy, .int .i64 (9 : Nat)])) S' := by
          intro S' D' W' vx vy h' hn hout
          refine done' (.inr ⟨D', W', [], { la with tail := [], s := s' }, x :: xs3, _, _, rfl, h'.weaken hT.1, hn, ?_, List.nil_prefix, ⟨xs1, hxx.symm⟩, .inr ⟨s', rfl, hs'⟩⟩)
          have := hok.out hout
          rw [hok.fl] at this
          simpa using this
        refine i35_extra hpart hxd (by omega) ho2 ?_ ?_
        · intro _
          refine a35_extra (W := { W with num := a + ini.length, size := la.good.length }) (f := x) (gd := .bool false) h1 hfl hxd hi hok.down ?_ ?_
          · intro S2 D2 h2 hok2
            exact hnext S2 D2 h2 hok2 false
          · intro S2 D2 W2 h2 hn hout
            exact hfail S2 D2 W2 _ _ h2 hn hout
        · intro hgd
          refine a35_extra (W := { W with num := a + ini.length, size := la.good.length }) (f := x) (gd := .bool gd) h1 hfl hxd hi hok.down ?_ ?_
          · intro S2 D2 h2 hok2
            exact hnext S2 D2 h2 hok2 gd
          · intro S2 D2 W2 h2 hn hout
            exact hfail S2 D2 W2 _ _ h2 hn hout
end Go.AM
/-
  wal: Open.
-/
namespace Go.AM
open Go
set_option maxRecDepth 20000

theorem recs_len : ∀ rs : List (List UInt8), rs.length ≤ (recs rs).length
  | [] => by simp [recs]
  | r :: rs => by
    have h := recs_len rs
    have h2 := frameB_length 2 r
    have e : recs (r :: rs) = frameB 2 r ++ recs rs := by simp [recs]
    rw [e, List.length_append, List.length_cons]; omega
theorem chain_len : ∀ (a : Nat) (cs : List C), (cs.flatMap (·.rs)).length ≤ ((chainF a cs).map (·.d.length)).sum
  | _, [] => by simp
  | a, c :: cs => by
    have h := chain_len (a + 1) cs
    have h2 := recs_len c.rs
    simp only [List.flatMap_cons, List.length_append, chainF, List.map_cons, List.sum_cons]
    have : c.d.length = c.hd.length + (recs c.rs).length + c.tail.length := by simp [C.d, C.good, Nat.add_assoc]
    omega
theorem Rp.few {name : List UInt8} {P : PlateS} {D : DS} (h : Rp name P D) {gs xs : List F} {a : Nat} {cs : List C} (hfl : D.fl = gs ++ (chainF a cs ++ xs)) : (cs.flatMap (·.rs)).length ≤ 268435456 := by
  have h1 := h.used
  have h2 := h.wf.cap
  have h3 := h.wf.room
  have h4 := chain_len a cs
  have h5 : D.used = (gs.map (·.d.length)).sum + (((chainF a cs).map (·.d.length)).sum + (xs.map (·.d.length)).sum) := by rw [DS.used, hfl]; simp
  omega

theorem chainF_get : ∀ (a : Nat) (cs : List C) (j : Nat) (f : F), (chainF a cs)[j]? = some f → ∃ c, cs[j]? = some c ∧ f = ⟨a + j, c.d, c.s⟩
  | _, [], _, _, h => by simp [chainF] at h
  | a, c :: cs, 0, f, h => by simp only [chainF, List.getElem?_cons_zero, Option.some.injEq] at h; exact ⟨c, rfl, h.symm⟩
  | a, c :: cs, j + 1, f, h => by
    simp only [chainF, List.getElem?_cons_succ] at h
    obtain ⟨d, h1, h2⟩ := chainF_get (a + 1) cs j f h
    exact ⟨d, by simpa using h1, by rw [h2]; simp; omega⟩
/-- What is at the front of a file. -/
theorem Shape.front {fl gs : List F} {a : Nat} {base : List UInt8} {ini : List C} {la : C} {xs : List F} (h : Shape fl gs a base ini la xs) {i : Nat} {f : F} (hf : fl[i]? = some f) :
    (∃ k s rest, f.d = frameB k s ++ rest ∧ k ≤ 2 ∧ s.length ≤ 60000 ∧ (i = gs.length → k = 0) ∧ (gs.length < i → k ≠ 0)) ∨ (Partial f.d ∧ i ≠ gs.length) := by
  rw [h.fl] at hf
  rcases Nat.lt_or_ge i gs.length with hi | hi
  · rw [List.getElem?_append_left hi] at hf
    rcases h.ahead f (List.mem_of_getElem? hf) with ⟨k, s, rest, h1, h2, h3⟩ | h1
    · exact .inl ⟨k, s, rest, h1, h2, h3, by omega, by omega⟩
    · exact .inr ⟨h1, by omega⟩
  · rw [List.getElem?_append_right hi] at hf
    obtain ⟨j, rfl⟩ : ∃ j, i = gs.length + j := ⟨i - gs.length, by omega⟩
    rw [Nat.add_sub_cancel_left] at hf
    obtain ⟨c0, rest, hc0, hk0, hb0, hr⟩ := h.heads
    rcases Nat.lt_or_ge j (ini ++ [la]).length with hj | hj
    · rw [List.getElem?_append_left (by rw [chainF_length]; exact hj)] at hf
      obtain ⟨c, hc, rfl⟩ := chainF_get _ _ _ _ hf
      rw [hc0] at hc
      left
      refine ⟨c.k, c.b, Go.AM.recs c.rs ++ c.tail, by simp [C.d, C.good, C.hd], ?_⟩
      cases j with
      | zero =>
        simp only [List.getElem?_cons_zero, Option.some.injEq] at hc
        subst hc
        rw [hk0, hb0]
        exact ⟨by omega, h.base, fun _ => rfl, fun h => by omega⟩
      | succ j =>
        simp only [List.getElem?_cons_succ] at hc
        have := hr c (List.mem_of_getElem? hc)
        rw [this.1, this.2]
        exact ⟨by omega, by simp, fun h => by omega, fun _ => by omega⟩
    · rw [List.getElem?_append_right (by rw [chainF_length]; exact hj)] at hf
      refine .inr ⟨h.behind f (List.mem_of_getElem? hf), ?_⟩
      have : 0 < (ini ++ [la]).length := by simp
      omega

inductive XOp
  | none (name : List UInt8) (most : Int)
  | arg (p : Nat) (name : List UInt8) (most : Int)
  | fresh (R : St) (p : Nat) (D : DS) (name : List UInt8) (most : Int)
  | shape (R : St) (p : Nat) (D : DS) (name : List UInt8) (most : Int) (gs : List F) (a : Nat) (base : List UInt8) (ini : List C) (la : C) (xs : List F)
def goodArg (name : List UInt8) (most : Int) : Prop := 1 ≤ name.length ∧ name.length ≤ 32 ∧ 1 ≤ most ∧ most ≤ 1048576
def noneV (e : Nat) : AV := .tuple [.ptr none, .slice [] 0 .nil, .slice [] 0 .nil, .int .i64 e]
def Sp11 : Spec := rspec (fun (x : XOp) args S => match x with
    | .none name most => args = [.ptr none, .str (bstr name), .int .i64 most]
    | .arg p name most => args = [.ptr (some (p, 0)), .str (bstr name), .int .i64 most] ∧ ¬ goodArg name most
    | .fresh R p D name most => args = [.ptr (some (p, 0)), .str (bstr name), .int .i64 most] ∧ DkAt R S p name D ∧ 1 ≤ most ∧ most ≤ 1048576 ∧ D.down = false ∧ D.fl = []
    | .shape R p D name most gs a base ini la xs => args = [.ptr (some (p, 0)), .str (bstr name), .int .i64 most] ∧ DkAt R S p name D ∧ 1 ≤ most ∧ most ≤ 1048576 ∧ D.down = false ∧ Shape D.fl gs a base ini la xs)
  fun x S v S' => match x with
    | .none _ _ => v = noneV 12 ∧ S' = S
    | .arg _ _ _ => v = noneV 1 ∧ S' = S
    | .fresh R p D name most => ((D.begin 1 []).1 = 0 ∧ ∃ w, v = .tuple [.ptr (some (w, 0)), .slice [] 0 .nil, .slice [] 0 .nil, .int .i64 (0 : Nat)] ∧ WkAt R S' w p ⟨name, most, 1, (frameB 0 []).length, 0, false⟩ (D.begin 1 []).2) ∨
        ((D.begin 1 []).1 ≠ 0 ∧ v = noneV (D.begin 1 []).1 ∧ DkAt R S' p name (D.begin 1 []).2)
    | .shape R p D name most gs a base ini la xs => (∃ w o D', v = .tuple [.ptr (some (w, 0)), bsl base .ro, .slice (recCells ((ini ++ [la]).flatMap (·.rs))) ((ini ++ [la]).flatMap (·.rs)).length o, .int .i64 (0 : Nat)] ∧
          WkAt R S' w p ⟨name, most, a + ini.length, la.good.length, ((ini ++ [la]).flatMap (·.rs)).length, false⟩ D' ∧ Ok D D' (chainF a (ini ++ [{ la with tail := [], s := la.good.length }]))) ∨
        (∃ D' gs' la' xs', v = noneV 9 ∧ DkAt R S' p name D' ∧ Out D D' (gs' ++ (chainF a (ini ++ [la']) ++ xs')) ∧ gs' <+: gs ∧ xs' <:+ xs ∧ (la' = la ∨ ∃ s', la' = { la with tail := [], s := s' } ∧ (la.s = la.d.length → s' = la.good.length)))
theorem s11 : Sound PR 11 Sp11 := by
  refine sound_r PR_mixed (sounds_cons s21 (sounds_cons s29 (sounds_cons s30 (sounds_cons s31 (sounds_cons s32 (sounds_cons s33 (sounds_cons s34 (sounds_cons s35 sounds_nil)))))))) (monos_cons (rspec_mono _ _) (monos_cons (rspec_mono _ _) (monos_cons (rspec_mono _ _) (monos_cons (rspec_mono _ _) (monos_cons (rspec_mono _ _) (monos_cons (rspec_mono _ _) (monos_cons (rspec_mono _ _) (monos_cons (rspec_mono _ _) monos_nil)))))))) (own := own []) (ord := O11) (lh := H11) (fn := Go.Proofs.Tryz.f11) (by kernel_rfl) (by kernel_rfl) ?_
  rintro x args S hpre
  cases x with
  | none name most =>
    subst hpre
    rw [W11_eq]
    refine ⟨rfl, ?_⟩
    unfold W11
    simp only [ob_s, as_t, g, setList, xbuild, xfill, Option.map_some, List.set, List.length, List.length_cons, if_false, if_pos, and_self, Bool.not_true, eq_self, Nat.zero_add, Nat.reduceAdd, Nat.reduceLeDiff, Option.isNone_none, Bool.false_eq_true, k_cells_i, k_cells_p, k_cells_s, k_isnil, k_lss, k_nilp_p, k_slen]
    exact done' ⟨rfl, rfl⟩
  | arg p name most =>
    obtain ⟨rfl, hbad⟩ := hpre
    rw [W11_eq]
    refine ⟨rfl, ?_⟩
    unfold W11
    have key : ∀ b : Bool, b = true → asplit (.bool b) (Done (fun v S' => v = noneV 1 ∧ S' = S) (En.ret (.tuple [((.ptr none)), ((.slice [] 0 .nil)), ((.slice [] 0 .nil)), ((.int .i64 1))])) S) False := by
      rintro _ rfl; exact done' ⟨rfl, rfl⟩
    by_cases h1 : (name.length : Int) < 1
    · simp only [ob_s, as_t, as_f, gv_tf, pick_t, g, setList, xbuild, xfill, Option.map_some, List.set, List.length, List.length_cons, if_false, if_pos, and_self, Bool.not_false, eq_self, Nat.zero_add, Nat.reduceAdd, Nat.reduceLeDiff, Option.isNone_some, Bool.false_eq_true, decide_true, k_cells_i, k_cells_p, k_cells_s, k_isnil, k_lss, k_nilp_p, k_slen, bstr_size, h1]
      exact done' ⟨rfl, rfl⟩
    · by_cases h2 : (name.length : Int) > 32
      · simp only [ob_s, as_t, as_f, gv_ff, gv_tf, pick_t, pick_f, g, setList, xbuild, xfill, Option.map_some, List.set, List.length, List.length_cons, if_false, if_pos, and_self, Bool.not_false, eq_self, Nat.zero_add, Nat.reduceAdd, Nat.reduceLeDiff, Option.isNone_some, Bool.false_eq_true, decide_true, decide_false, k_cells_i, k_cells_p, k_cells_s, k_gtr, k_isnil, k_lss, k_nilp_p, k_slen, bstr_size, h1, h2]
        exact done' ⟨rfl, rfl⟩
      · by_cases h3 : most < 1
        · simp only [ob_s, as_t, as_f, gv_ff, gv_tf, pick_t, pick_f, g, setList, xbuild, xfill, Option.map_some, List.set, List.length, List.length_cons, if_false, if_pos, and_self, Bool.not_false, eq_self, Nat.zero_add, Nat.reduceAdd, Nat.reduceLeDiff, Option.isNone_some, Bool.false_eq_true, decide_true, decide_false, k_cells_i, k_cells_p, k_cells_s, k_gtr, k_isnil, k_lss, k_nilp_p, k_slen, bstr_size, h1, h2, h3]
          exact done' ⟨rfl, rfl⟩
        · have h4 : most > 1048576 := by
            rcases Int.lt_or_le 1048576 most with h | h
            · exact h
            · exact absurd ⟨by omega, by omega, by omega, h⟩ hbad
          simp only [ob_s, as_t, as_f, gv_ff, pick_f, g, setList, xbuild, xfill, Option.map_some, List.set, List.length, List.length_cons, if_false, if_pos, and_self, Bool.not_false, eq_self, Nat.zero_add, Nat.reduceAdd, Nat.reduceLeDiff, Option.isNone_some, Bool.false_eq_true, decide_true, decide_false, k_cells_i, k_cells_p, k_cells_s, k_gtr, k_isnil, k_lss, k_nilp_p, k_slen, bstr_size, h1, h2, h3, h4]
          exact done' ⟨rfl, rfl⟩
  | fresh R p D name most =>
    obtain ⟨rfl, hD, hm1, hm2, hd, hfl⟩ := hpre
    rw [W11_eq]
    refine ⟨rfl, ?_⟩
    unfold W11
    obtain ⟨P, hP, hrp⟩ := hD
    have hnm := hrp.nm
    have h1 : ¬ ((name.length : Int) < 1) := by omega
    have h2 : ¬ ((name.length : Int) > 32) := by omega
    have h3 : ¬ (most < 1) := by omega
    have h4 : ¬ (most > 1048576) := by omega
    simp only [ob_s, as_f, gv_ff, pick_f, g, setList, xbuild, xfill, Option.map_some, List.set, List.length, List.length_cons, if_false, if_pos, and_self, Bool.not_false, eq_self, ne_eq, Nat.zero_add, Nat.reduceAdd, Nat.reduceLeDiff, Option.isNone_some, Bool.false_eq_true, decide_false, k_cells_i, k_cells_p, k_cells_s, k_gtr, k_isnil, k_lss, k_nilp_p, k_slen, bstr_size, h1, h2, h3, h4]
    refine ccall_r (R, p, P) ⟨rfl, hP⟩ ?_
    rintro _ S ⟨rfl, rfl⟩
    dsimp only at hP ⊢
    rw [hrp.down, hd]
    simp only [ob_s, as_f, List.length, true_and, eq_self, Nat.zero_add, Nat.reduceAdd, k_cells_a, xbox]
    intro w hw ht
    have hRw : R.obj w = none := stle_obj hP.rle hw
    have h : WkAt R (S.setObj w (.cells (wcells p ⟨name, most, 0, 0, 0, false⟩))) w p ⟨name, most, 0, 0, 0, false⟩ D :=
      ⟨hRw, P, hP.frame (stle_setObj (St.le_refl _) hw _) (by simp) hw, hrp⟩
    refine call_nums (W := ⟨name, most, 0, 0, 0, false⟩) h ?_
    intro v5 S5 hV
    rw [hfl, List.map_nil] at hV
    obtain ⟨R', hRR, h6, hlv, hread⟩ := hV.readW h
    rw [List.length_nil] at hlv
    simp only [ob_s, hlv]
    have z0 : ((0 : Nat) : Int) = 0 := rfl
    have n00 : ¬ ((0 : Int) < 0) := by omega
    have n10 : (-1 : Int) < 0 := by omega
    refine aloop_inv (fun n l S' => S' = S5 ∧ l = [.int .i64 (-1), .int .i64 0]) 0 ⟨rfl, rfl⟩ ?_
    rintro n _ S5 ⟨rfl, rfl⟩ rec hrec
    simp only [ob_s, as_t, as_f, List.getD_cons_zero, List.getD_cons_succ, decide_true, decide_false, k_add, k_lss, z0, n00, n10]
    refine aloop_inv (fun n l S' => S' = S5 ∧ l = [.ptr (some (w, 0)), .int .i64 0]) 0 ⟨rfl, rfl⟩ ?_
    rintro n _ S5 ⟨rfl, rfl⟩ rec hrec
    simp only [ob_s, as_f, List.getD_cons_zero, List.getD_cons_succ, decide_false, k_add, k_lss, n00]
    refine call_begin (n := 1) h6 (v := .slice [] 0 .nil) (b := []) (.inl ⟨.nil, rfl, fun _ => rfl⟩) (by simp) (by omega) ?_
    intro S6 W' h7 haft
    obtain ⟨a1, a2, a3⟩ := haft
    by_cases he : (D.begin 1 []).1 = 0
    · rw [he] at a2 ⊢
      have := a2 rfl
      subst this
      simp only [ob_s, as_f, true_and, eq_self, ne_eq, not_true, decide_false, k_neq, z0]
      refine done' (.inl ⟨w, rfl, h7.weaken hRR⟩)
    · have he' : ¬ (((D.begin 1 []).1 : Int) = 0) := by omega
      simp only [ob_s, as_t, ne_eq, not_false_eq_true, decide_true, k_neq, he']
      have h8 := (h7.weaken hRR).plate
      rw [a1] at h8
      refine done' (.inr ⟨he, rfl, h8⟩)
  | shape R p D name most gs a base ini la xs =>
    obtain ⟨rfl, hD, hm1, hm2, hd, hsh⟩ := hpre
    rw [W11_eq]
    refine ⟨rfl, ?_⟩
    unfold W11
    obtain ⟨P, hP, hrp⟩ := hD
    have hnm := hrp.nm
    have h1 : ¬ ((name.length : Int) < 1) := by omega
    have h2 : ¬ ((name.length : Int) > 32) := by omega
    have h3 : ¬ (most < 1) := by omega
    have h4 : ¬ (most > 1048576) := by omega
    simp only [ob_s, as_f, gv_ff, pick_f, g, setList, xbuild, xfill, Option.map_some, List.set, List.length, List.length_cons, if_false, if_pos, and_self, Bool.not_false, eq_self, Nat.zero_add, Nat.reduceAdd, Nat.reduceLeDiff, Option.isNone_some, Bool.false_eq_true, decide_false, k_cells_i, k_cells_p, k_cells_s, k_gtr, k_isnil, k_lss, k_nilp_p, k_slen, bstr_size, h1, h2, h3, h4]
    refine ccall_r (R, p, P) ⟨rfl, hP⟩ ?_
    rintro _ S ⟨rfl, rfl⟩
    dsimp only at hP ⊢
    rw [hrp.down, hd]
    simp only [ob_s, as_f, List.length, true_and, eq_self, Nat.zero_add, Nat.reduceAdd, k_cells_a, xbox]
    intro w hw ht
    have hRw : R.obj w = none := stle_obj hP.rle hw
    have h : WkAt R (S.setObj w (.cells (wcells p ⟨name, most, 0, 0, 0, false⟩))) w p ⟨name, most, 0, 0, 0, false⟩ D :=
      ⟨hRw, P, hP.frame (stle_setObj (St.le_refl _) hw _) (by simp) hw, hrp⟩
    refine call_nums (W := ⟨name, most, 0, 0, 0, false⟩) h ?_
    intro v5 S5 hV
    obtain ⟨R', hRR, h6, hlv, hread⟩ := hV.readW h
    have hfew := h6.few
    have hcnt := hrp.few hsh.fl
    have hlen : D.fl.length = gs.length + ((ini.length + 1) + xs.length) := by rw [hsh.fl]; simp [chainF_length]
    rw [List.length_map] at hlv
    simp only [ob_s, hlv]
    have z0 : ((0 : Nat) : Int) = 0 := rfl
    have n00 : ¬ (((0 : Nat) : Int) > 0) := by omega
    refine aloop_inv (fun m l S' => ∃ (z : Int) (i : Nat), S' = S5 ∧ l = [.int .i64 z, .int .i64 i] ∧ i ≤ D.fl.length ∧ m = D.fl.length - i ∧ (gs.length < i → z = (gs.length : Nat))) D.fl.length ⟨-1, 0, rfl, rfl, by omega, by omega, by omega⟩ ?_
    rintro m _ S5 ⟨z, i, rfl, rfl, hi, rfl, hz⟩ rec hrec
    simp only [ob_s, List.getD_cons_zero, List.getD_cons_succ, k_add, k_lss]
    refine asplit_of _ ?_ ?_
    · intro hlt
      have hi' : i < D.fl.length := by omega
      generalize hf0 : D.fl[i] = f
      have hf : D.fl[i]? = some f := by rw [List.getElem?_eq_getElem hi', hf0]
      have hfm : f ∈ D.fl := List.mem_of_getElem? hf
      have hnum := h6.small f hfm
      have hdat : datL D.fl f.n = f.d := by
        obtain ⟨x, y, hxy⟩ := List.append_of_mem hfm
        have := h6.sorted
        rw [hxy] at this ⊢
        exact (datL_mid this).1
      have hdl := h6.len (n := f.n) hnum.2
      rw [hdat] at hdl
      obtain ⟨ad, ha1, ha2⟩ := hread S5 h6.rle i (avI f.n) (by rw [List.getElem?_map, hf]; rfl)
      have hi1 : IntKind.i64.wrap ((i : Int) + 1) = ((i + 1 : Nat) : Int) := by rw [IntWalk.i64_in _ (by omega)]; omega
      simp only [ob_s, ha1, ha2, avI]
      refine call_file (W := ⟨name, most, 0, 0, 0, false⟩) h6 hnum.2 ?_
      refine call_read h6.plate hnum hd ?_
      intro o2 ho2
      rw [hdat] at ho2 ⊢
      have hfd := h6.full f hfm
      have ho2' : o2 ≠ .nil := fun h => hfd (ho2 h)
      simp only [ob_s, List.getElem?_cons_zero, List.getElem?_cons_succ, k_extract]
      rcases hsh.front hf with ⟨k, s, rest, e1, e2, e3, e4, e5⟩ | ⟨e1, e2⟩
      · refine call_next_some k s rest e1 e2 e3 ho2' (by omega) ?_
        have hfr := frame_len k s e2 e3
        have g0 : ((frameB k s).length : Int) > 0 := by omega
        by_cases hk : k = 0
        · subst hk
          simp only [ob_s, as_t, gv_tt, pick_t, List.getElem?_cons_zero, List.getElem?_cons_succ, eq_self, decide_true, k_eql, k_extract, k_gtr, g0, z0, hi1]
          refine ⟨S5, St.le_refl _, hrec (D.fl.length - (i + 1)) _ _ (by omega) ⟨i, i + 1, rfl, rfl, by omega, rfl, fun h => ?_⟩⟩
          rcases Nat.lt_or_ge gs.length i with h5 | h5
          · exact absurd rfl (e5 h5)
          · have : i = gs.length := by omega
            rw [this]
        · have nk : ¬ ((k : Int) = 0) := by omega
          simp only [ob_s, as_f, gv_tt, pick_t, List.getElem?_cons_zero, List.getElem?_cons_succ, decide_true, decide_false, k_eql, k_extract, k_gtr, g0, nk, hi1]
          refine ⟨S5, St.le_refl _, hrec (D.fl.length - (i + 1)) _ _ (by omega) ⟨z, i + 1, rfl, rfl, by omega, rfl, fun h => ?_⟩⟩
          rcases Nat.lt_or_ge gs.length i with h5 | h5
          · exact hz h5
          · exact absurd (e4 (by omega)) hk
      · refine call_next_none e1 ho2 (by omega) ?_
        have n00' : ¬ ((0 : Int) > 0) := by omega
        simp only [ob_s, as_f, gv_ft, pick_f, List.getElem?_cons_zero, List.getElem?_cons_succ, decide_false, k_extract, k_gtr, n00', hi1]
        refine ⟨S5, St.le_refl _, hrec (D.fl.length - (i + 1)) _ _ (by omega) ⟨z, i + 1, rfl, rfl, by omega, rfl, fun h => hz (by omega)⟩⟩
    · intro hge
      have hzz := hz (by omega)
      subst hzz
      have nneg : ¬ (((gs.length : Nat) : Int) < 0) := by omega
      simp only [as_f, decide_false, nneg]
      refine ccall_r (⟨R', w, p, ⟨name, most, 0, 0, 0, false⟩, D, v5, gs, a, base, ini, la, xs⟩ : XRp) ⟨rfl, h6, ⟨by rw [hlv]; simp [XRp.numsV], hread⟩, hsh, hd, by simp only [XRp.all]; omega⟩ ?_
      rintro v6 S6 (⟨o, D', rfl, k1, k2⟩ | ⟨D', W', gs', la', xs', vx, vy, rfl, k1, k2, k3, k4, k5, k6⟩)
      · simp only [ob_s, as_f, List.getElem?_cons_zero, List.getElem?_cons_succ, eq_self, ne_eq, not_true, decide_false, k_extract, k_neq, z0]
        exact done' (.inl ⟨w, o, D', rfl, k1.weaken hRR, k2⟩)
      · have n9 : ¬ (((9 : Nat) : Int) = 0) := by omega
        simp only [ob_s, as_t, List.getElem?_cons_zero, List.getElem?_cons_succ, ne_eq, not_false_eq_true, decide_true, k_extract, k_neq, n9]
        have h8 := (k1.weaken hRR).plate
        rw [k2] at h8
        exact done' (.inr ⟨D', gs', la', xs', rfl, h8, k3, k4, k5, k6⟩)
end Go.AM
