/- Own texts A21, A22 of this claim, joined. -/
import Derived.Test.YthgdjoamfefcbaaGreatDoorMA2
set_option linter.all false
set_option linter.unusedVariables false
set_option linter.unusedSimpArgs false
set_option linter.unnecessarySimpa false
/-
  LONG CODE IN PARTS: a row of steps is cut at places; what is behind a cut is a name. It is equal to 'acall'.
-/
namespace Go.AM

/-- What is left of a row of steps. -/
def seqDrop : Nat → Code → Code
  | 0, c => c
  | n + 1, .seq _ y => seqDrop n y
  | _ + 1, c => c
/-- A row of steps in which what is behind a cut is J. -/
def jx (P : Program) (Φ : FuncId → Spec) (own : Nat → Bool) (ord lh : Nat → List Nat) (cut : Nat → Bool) (J : Nat → Fr → St → Prop) (K : Ex → Fr → St → Prop) : Code → Nat → Fr → St → Prop
  | .seq x y, n, fr, S => bif cut (n + 1) then bexec P Φ own ord lh x (Ex.then (fun fr S => normK fr fun fr => J (n + 1) fr S) K) fr S else bexec P Φ own ord lh x (Ex.then (jx P Φ own ord lh cut J K y (n + 1)) K) fr S
  | c, _, fr, S => bexec P Φ own ord lh c K fr S
theorem jx_eq (P : Program) (Φ : FuncId → Spec) (own : Nat → Bool) (ord lh : Nat → List Nat) (cut : Nat → Bool) (K : Ex → Fr → St → Prop) (J : Nat → Fr → St → Prop) : ∀ (c : Code) (n : Nat), (∀ m, J (n + m) = bexec P Φ own ord lh (seqDrop m c) K) →
    jx P Φ own ord lh cut J K c n = bexec P Φ own ord lh c K := by
  intro c
  induction c with
  | seq x y _ ihy =>
    intro n h
    funext fr S
    have h1 := h 1
    simp only [seqDrop] at h1
    have hy := ihy (n + 1) fun m => by rw [Nat.add_assoc, Nat.add_comm 1 m]; exact h (m + 1)
    unfold jx
    rw [bexec, hy]
    cases cut (n + 1)
    · rfl
    · simp only [cond_true, normK_eq, h1]
  | _ => intro n h; funext fr S; unfold jx; rfl
/-- What is behind a cut. -/
def jD (P : Program) (Φ : FuncId → Spec) (own : Nat → Bool) (ord lh : Nat → List Nat) (fn : Func) (K : En → St → Prop) (m : Nat) : Fr → St → Prop := bexec P Φ own ord lh (seqDrop m (fn.body.getD .skip)) (Ex.end P fn K)
theorem seqDrop_add : ∀ (m n : Nat) (c : Code), seqDrop (n + m) c = seqDrop m (seqDrop n c)
  | m, 0, c => by rw [Nat.zero_add]; rfl
  | m, n + 1, c => by
    rw [show n + 1 + m = (n + m) + 1 by omega]
    cases c with
    | seq x y => simp only [seqDrop]; exact seqDrop_add m n y
    | _ => cases m <;> rfl
theorem jD_eq (P : Program) (Φ : FuncId → Spec) (own : Nat → Bool) (ord lh : Nat → List Nat) (fn : Func) (K : En → St → Prop) (cut : Nat → Bool) (n : Nat) :
    jD P Φ own ord lh fn K n = jx P Φ own ord lh cut (jD P Φ own ord lh fn K) (Ex.end P fn K) (seqDrop n (fn.body.getD .skip)) n := by
  rw [jx_eq]
  · rfl
  · intro m; unfold jD; rw [seqDrop_add]
def jcall (P : Program) (Φ : FuncId → Spec) (own : Nat → Bool) (ord lh : Nat → List Nat) (cut : Nat → Bool) (J : Nat → Fr → St → Prop) (fn : Func) (args : List AV) (S : St) (K : En → St → Prop) : Prop :=
  args.length = fn.params.size + fn.nfree ∧ normK (args ++ List.replicate (fn.ntmps - args.length) (.tuple [])) fun fr => jx P Φ own ord lh cut J (Ex.end P fn K) (fn.body.getD .skip) 0 fr S
theorem bcall_j (P : Program) (Φ : FuncId → Spec) (own : Nat → Bool) (ord lh : Nat → List Nat) (cut : Nat → Bool) (fn : Func) (args : List AV) (S : St) (K : En → St → Prop) (hb : fn.body.isSome = true) :
    bcall P Φ own ord lh fn args S K = jcall P Φ own ord lh cut (jD P Φ own ord lh fn K) fn args S K := by
  unfold bcall jcall
  have h := jD_eq P Φ own ord lh fn K cut 0
  cases hf : fn.body with
  | none => rw [hf] at hb; cases hb
  | some c =>
    have h2 : jD P Φ own ord lh fn K 0 = bexec P Φ own ord lh c (Ex.end P fn K) := by unfold jD; rw [hf]; rfl
    rw [h2, hf] at h
    simp only [Option.getD_some] at h ⊢
    have h3 : seqDrop 0 c = c := rfl
    rw [h3] at h
    rw [← h]
end Go.AM
/-
  LONG CODE IN PARTS, inside loops too: code is cut at places (paths to a row of two parts, whose second part is cut off); what is behind a cut is a name, which is told the innermost loop's way back.
-/
namespace Go.AM

abbrev Rec := List AV → St → Prop
abbrev Cuts := List (List Nat × Nat)
def noRec : Rec := fun _ _ => False
def subCuts (i : Nat) : Cuts → Cuts
  | [] => []
  | ([], _) :: r => subCuts i r
  | (j :: p, n) :: r => if j = i then (p, n) :: subCuts i r else subCuts i r
def here : Cuts → Option Nat
  | [] => none
  | ([], n) :: _ => some n
  | (_ :: _, _) :: r => here r

section
variable (P : Program) (Φ : FuncId → Spec) (own : Nat → Bool) (ord lh : Nat → List Nat)
/-- The way back to a loop's head. -/
def backK (c : Code) (rec : Rec) (K : Ex → Fr → St → Prop) : Ex → Fr → St → Prop := Ex.then (fun fr' S' => ∃ S'', S''.le S' ∧ rec (getm (lh (ckey c)) fr') S'') K
def cutCode : List Nat → Code → Code
  | [], .seq _ y => y
  | 0 :: p, .seq x _ => cutCode p x
  | _ :: p, .seq _ y => cutCode p y
  | 1 :: p, .cond _ x _ => cutCode p x
  | _ :: p, .cond _ _ y => cutCode p y
  | _ :: p, .block _ c => cutCode p c
  | _ :: p, .loop c => cutCode p c
  | _, _ => .skip
def cutCont : List Nat → Code → Rec → (Ex → Fr → St → Prop) → Ex → Fr → St → Prop
  | [], _, _, K => K
  | 0 :: p, .seq x y, rec, K => cutCont p x rec (Ex.then (bexec P Φ own ord lh y K) K)
  | _ :: p, .seq _ y, rec, K => cutCont p y rec K
  | 1 :: p, .cond _ x _, rec, K => cutCont p x rec K
  | _ :: p, .cond _ _ y, rec, K => cutCont p y rec K
  | _ :: p, .block id c, rec, K => cutCont p c rec (Ex.inBlock id K)
  | _ :: p, .loop c, rec, K => cutCont p c rec (backK lh c rec K)
  | _, _, _, K => K
def lx (J : Nat → Rec → Fr → St → Prop) : Code → Cuts → Rec → (Ex → Fr → St → Prop) → Fr → St → Prop
  | .seq x y, cuts, rec, K, fr, S =>
    match here cuts with
    | some n => lx J x (subCuts 0 cuts) rec (Ex.then (fun fr S => normK fr fun fr => J n rec fr S) K) fr S
    | none => lx J x (subCuts 0 cuts) rec (Ex.then (lx J y (subCuts 1 cuts) rec K) K) fr S
  | .cond v x y, cuts, rec, K, fr, S => asplit (aeval fr v) (lx J x (subCuts 1 cuts) rec K fr S) (lx J y (subCuts 2 cuts) rec K fr S)
  | .block id c, cuts, rec, K, fr, S => lx J c (subCuts 0 cuts) rec (Ex.inBlock id K) fr S
  | .loop c, cuts, _, K, fr, S =>
    aloop (fun rec l S => deadsK (cwrites c) fr fun fr1 => putmK l (lh (ckey c)) 0 fr1 fun fr2 => lx J c (subCuts 0 cuts) rec (backK lh c rec K) fr2 S) (getm (lh (ckey c)) fr) S
  | c, _, _, K, fr, S => bexec P Φ own ord lh c K fr S
variable {P Φ own ord lh}
theorem mem_subCuts {i : Nat} {p : List Nat} {n : Nat} : ∀ {cuts : Cuts}, (p, n) ∈ subCuts i cuts → (i :: p, n) ∈ cuts
  | [], h => by simp [subCuts] at h
  | ([], _) :: r, h => by simp only [subCuts] at h; exact List.mem_cons_of_mem _ (mem_subCuts h)
  | (j :: q, m) :: r, h => by
    simp only [subCuts] at h
    split at h
    · rename_i hj
      rcases List.mem_cons.1 h with h | h
      · cases h; subst hj; simp
      · exact List.mem_cons_of_mem _ (mem_subCuts h)
    · exact List.mem_cons_of_mem _ (mem_subCuts h)
theorem here_mem {n : Nat} : ∀ {cuts : Cuts}, here cuts = some n → ([], n) ∈ cuts
  | ([], m) :: r, h => by simp only [here, Option.some.injEq] at h; subst h; simp
  | (_ :: _, _) :: r, h => by simp only [here] at h; exact List.mem_cons_of_mem _ (here_mem h)
theorem here_none {n : Nat} : ∀ {cuts : Cuts}, here cuts = none → ([], n) ∉ cuts
  | [], _, h => by simp at h
  | ([], m) :: r, h, _ => by simp [here] at h
  | (_ :: _, _) :: r, h, hm => by
    simp only [here] at h
    rcases List.mem_cons.1 hm with hm | hm
    · simp at hm
    · exact here_none h hm
/-- Does a path go through a loop; through two? -/
def loopIn : List Nat → Code → Bool
  | _ :: _, .loop _ => true
  | 0 :: p, .seq x _ => loopIn p x
  | _ :: p, .seq _ y => loopIn p y
  | 1 :: p, .cond _ x _ => loopIn p x
  | _ :: p, .cond _ _ y => loopIn p y
  | _ :: p, .block _ c => loopIn p c
  | _, _ => false
def deepIn : List Nat → Code → Bool
  | _ :: p, .loop c => loopIn p c
  | 0 :: p, .seq x _ => deepIn p x
  | _ :: p, .seq _ y => deepIn p y
  | 1 :: p, .cond _ x _ => deepIn p x
  | _ :: p, .cond _ _ y => deepIn p y
  | _ :: p, .block _ c => deepIn p c
  | _, _ => false
theorem deep_of {p : List Nat} {c : Code} : loopIn p c = false → deepIn p c = false := by
  induction c generalizing p with
  | seq x y ihx ihy =>
    intro h
    match p with
    | [] => rfl
    | 0 :: p => exact ihx (p := p) h
    | (n + 1) :: p => exact ihy (p := p) h
  | cond v x y ihx ihy =>
    intro h
    match p with
    | [] => rfl
    | 0 :: p => exact ihy (p := p) h
    | 1 :: p => exact ihx (p := p) h
    | (n + 2) :: p => exact ihy (p := p) h
  | block id c ih =>
    intro h
    match p with
    | [] => rfl
    | _ :: p => exact ih (p := p) h
  | loop c ih =>
    intro h
    match p with
    | [] => rfl
    | _ :: p => cases h
  | _ => intro _; cases p <;> rfl
/-- What is behind each cut is what its name says. -/
theorem lx_eq {J : Nat → Rec → Fr → St → Prop} : ∀ (c : Code) (cuts : Cuts) (rec : Rec) (K : Ex → Fr → St → Prop), (∀ p n, (p, n) ∈ cuts → deepIn p c = false ∧ ∀ r, (loopIn p c = false → r = rec) → J n r = bexec P Φ own ord lh (cutCode p c) (cutCont P Φ own ord lh p c r K)) →
    lx P Φ own ord lh J c cuts rec K = bexec P Φ own ord lh c K := by
  intro c
  induction c with
  | seq x y ihx ihy =>
    intro cuts rec K h
    have key : ∀ y', y' = bexec P Φ own ord lh y K → lx P Φ own ord lh J x (subCuts 0 cuts) rec (Ex.then y' K) = bexec P Φ own ord lh x (Ex.then (bexec P Φ own ord lh y K) K) := by
      rintro _ rfl
      exact ihx _ _ _ fun p n hm => h (0 :: p) n (mem_subCuts hm)
    funext fr S
    unfold lx
    rw [bexec]
    cases hh : here cuts with
    | some n =>
      dsimp only
      have := (h [] n (here_mem hh)).2 rec (fun _ => rfl)
      rw [key _ (by funext fr S; rw [normK_eq, this]; rfl)]
    | none =>
      dsimp only
      rw [key _ (ihy _ _ _ fun p n hm => h (1 :: p) n (mem_subCuts hm))]
  | cond v x y ihx ihy =>
    intro cuts rec K h
    funext fr S
    unfold lx
    rw [bexec, ihx _ _ _ fun p n hm => h (1 :: p) n (mem_subCuts hm), ihy _ _ _ fun p n hm => h (2 :: p) n (mem_subCuts hm)]
  | block id c ih =>
    intro cuts rec K h
    funext fr S
    unfold lx
    rw [bexec, ih _ _ _ fun p n hm => h (0 :: p) n (mem_subCuts hm)]
  | loop c ih =>
    intro cuts rec K h
    funext fr S
    unfold lx
    rw [bexec]
    congr 1
    funext rec' l S
    have hc : lx P Φ own ord lh J c (subCuts 0 cuts) rec' (backK lh c rec' K) = bexec P Φ own ord lh c (backK lh c rec' K) := by
      refine ih _ _ _ fun p n hm => ?_
      obtain ⟨h1, h2⟩ := h (0 :: p) n (mem_subCuts hm)
      have h1' : loopIn p c = false := h1
      refine ⟨deep_of h1', fun r hr => ?_⟩
      have := h2 r (fun hf => by cases hf)
      rw [hr h1'] at this ⊢
      exact this
    rw [hc]
    rfl
  | _ => intro cuts rec K _; funext fr S; unfold lx; rfl
/-- What is behind a cut. -/
def lD (P : Program) (Φ : FuncId → Spec) (own : Nat → Bool) (ord lh : Nat → List Nat) (c : Code) (cuts : Cuts) (K : Ex → Fr → St → Prop) (n : Nat) (rec : Rec) : Fr → St → Prop :=
  match cuts.find? (fun x => x.2 == n) with
  | some (p, _) => bexec P Φ own ord lh (cutCode p c) (cutCont P Φ own ord lh p c rec K)
  | none => fun _ _ => False
/-- Cuts that are told apart by their names, none of them in a loop in a loop. -/
def cutsGood (c : Code) (cuts : Cuts) : Bool := cuts.all fun x => !deepIn x.1 c && (cuts.find? fun y => y.2 == x.2) == some x
theorem lx_lD {c : Code} {cuts : Cuts} (h : cutsGood c cuts = true) (rec : Rec) (K : Ex → Fr → St → Prop) : bexec P Φ own ord lh c K = lx P Φ own ord lh (lD P Φ own ord lh c cuts K) c cuts rec K := by
  refine (lx_eq c cuts rec K fun p n hm => ?_).symm
  have := List.all_eq_true.1 h (p, n) hm
  simp only [Bool.and_eq_true, Bool.not_eq_true', beq_iff_eq] at this
  refine ⟨this.1, fun r _ => ?_⟩
  unfold lD
  rw [this.2]
theorem lD_lx {c : Code} {cuts : Cuts} {K : Ex → Fr → St → Prop} {n : Nat} {p : List Nat} (hf : cuts.find? (fun x => x.2 == n) = some (p, n)) {rec : Rec} (cuts' : Cuts)
    (h : ∀ x ∈ cuts', deepIn x.1 (cutCode p c) = false ∧ ∀ r, (loopIn x.1 (cutCode p c) = false → r = rec) → lD P Φ own ord lh c cuts K x.2 r = bexec P Φ own ord lh (cutCode x.1 (cutCode p c)) (cutCont P Φ own ord lh x.1 (cutCode p c) r (cutCont P Φ own ord lh p c rec K))) :
    lD P Φ own ord lh c cuts K n rec = lx P Φ own ord lh (lD P Φ own ord lh c cuts K) (cutCode p c) cuts' rec (cutCont P Φ own ord lh p c rec K) := by
  rw [lx_eq _ _ _ _ fun p n hm => h (p, n) hm]
  unfold lD
  rw [hf]
end
def lcall (P : Program) (Φ : FuncId → Spec) (own : Nat → Bool) (ord lh : Nat → List Nat) (cuts : Cuts) (J : Nat → Rec → Fr → St → Prop) (fn : Func) (args : List AV) (S : St) (K : En → St → Prop) : Prop :=
  args.length = fn.params.size + fn.nfree ∧ normK (args ++ List.replicate (fn.ntmps - args.length) (.tuple [])) fun fr => lx P Φ own ord lh J (fn.body.getD .skip) cuts noRec (Ex.end P fn K) fr S
theorem bcall_l (P : Program) (Φ : FuncId → Spec) (own : Nat → Bool) (ord lh : Nat → List Nat) (cuts : Cuts) (fn : Func) (args : List AV) (S : St) (K : En → St → Prop) (hb : fn.body.isSome = true) (hg : cutsGood (fn.body.getD .skip) cuts = true) :
    bcall P Φ own ord lh fn args S K = lcall P Φ own ord lh cuts (lD P Φ own ord lh (fn.body.getD .skip) cuts (Ex.end P fn K)) fn args S K := by
  unfold bcall lcall
  rw [← lx_lD hg]
  cases hf : fn.body with
  | none => rw [hf] at hb; cases hb
  | some c => rfl
end Go.AM
