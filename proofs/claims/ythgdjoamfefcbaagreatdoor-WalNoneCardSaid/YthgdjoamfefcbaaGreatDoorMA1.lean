/- Own texts A1, A2, A3, A4, A5, A6, A7, A8, A9, A10 of this claim, joined. -/
import Derived.Orders
import Derived.Laws.AppendOwn
import Derived.Laws.Append
import Derived.Laws.Strings
import Derived.Laws.Small
import Derived.Laws.Cover3
import Derived.Laws.Pointers
import Derived.Laws.BytesString
import Derived.Laws.BytesArg
import Derived.Laws.StructEq
set_option linter.all false
set_option linter.unusedVariables false
set_option linter.unusedSimpArgs false
set_option linter.unnecessarySimpa false
/-
  THE OWNED HEAP. An abstract memory that says only what a piece of code owns: objects that it may change ('obj') and tails of rows that it may append to ('tok'). All other cells never change: a slice over them is a value. 'Rel' reads an abstract value in a world, 'WR' reads the owned heap in a world, 'Ext' says what may become of a world.
-/
namespace Go.AM

inductive Own where
  | nil
  | full
  | ro
  | tok (b hw sz : Nat)
  deriving DecidableEq

inductive AV where
  | bool (b : Bool)
  | int (k : IntKind) (n : Int)
  | str (s : ByteArray)
  | ptr (a : Option (Nat × Nat))
  | ref (cs : List AV)
  | slice (cs : List AV) (n : Nat) (o : Own)
  | msl (b off n : Nat) (cap : Option Nat) (sz : Nat)
  | map (r : Option Nat)
  | func (fn : Fn) (first cap : List AV)
  | nilFunc
  | iface (t : TypeId) (v : AV)
  | nilIface
  | agg (cs : List AV)
  | tuple (vs : List AV)
  | dead
  deriving Inhabited

inductive AObj where
  | cells (cs : List AV)
  | vec (cs : List AV)
  | map (es : List (AV × AV × Nat)) (clock : Nat)
  | miter (m : Option Nat) (since : Nat) (seen : List Nat) (stepped : Nat)
  | siter (s : ByteArray) (pos : Nat)

structure St where
  obj : Nat → Option AObj
  tok : Nat → Option Nat

def St.setObj (S : St) (b : Nat) (o : AObj) : St := { S with obj := fun i => if i = b then some o else S.obj i }
def St.setTok (S : St) (b hw : Nat) : St := { S with tok := fun i => if i = b then some hw else S.tok i }
def St.delObj (S : St) (b : Nat) : St := { S with obj := fun i => if i = b then none else S.obj i }
def St.delTok (S : St) (b : Nat) : St := { S with tok := fun i => if i = b then none else S.tok i }
/-- Nothing is owned. -/
def St.none : St := ⟨fun _ => Option.none, fun _ => Option.none⟩
/-- A part of an owned heap. -/
def St.le (S S' : St) : Prop := (∀ b o, S.obj b = some o → S'.obj b = some o) ∧ (∀ b h, S.tok b = some h → S'.tok b = some h)

section
variable (S : St) (b c hw : Nat) (o : AObj)
@[simp] theorem St.obj_setObj : (S.setObj b o).obj c = if c = b then some o else S.obj c := rfl
@[simp] theorem St.tok_setObj : (S.setObj b o).tok c = S.tok c := rfl
@[simp] theorem St.obj_setTok : (S.setTok b hw).obj c = S.obj c := rfl
@[simp] theorem St.tok_setTok : (S.setTok b hw).tok c = if c = b then some hw else S.tok c := rfl
@[simp] theorem St.obj_delObj : (S.delObj b).obj c = if c = b then Option.none else S.obj c := rfl
@[simp] theorem St.tok_delObj : (S.delObj b).tok c = S.tok c := rfl
@[simp] theorem St.obj_delTok : (S.delTok b).obj c = S.obj c := rfl
@[simp] theorem St.tok_delTok : (S.delTok b).tok c = if c = b then Option.none else S.tok c := rfl
theorem St.le_refl : S.le S := ⟨fun _ _ h => h, fun _ _ h => h⟩
theorem St.le_trans {S T U : St} (h : S.le T) (k : T.le U) : S.le U := ⟨fun b o x => k.1 b o (h.1 b o x), fun b o x => k.2 b o (h.2 b o x)⟩
theorem St.none_le : St.none.le S := ⟨fun _ _ h => (by cases h), fun _ _ h => (by cases h)⟩
end

/-- A cell that nobody may change any more. -/
structure Imm (S : St) (w : World) (b off : Nat) (v : Value) : Prop where
  obj : S.obj b = none
  tok : ∀ hw, S.tok b = some hw → off < hw
  cell : w.cell? ⟨b, off, none⟩ = some v

def OwnOk (w : World) (own : Own) (b o n cap len : Nat) : Prop :=
  match own with
  | .nil => False
  | .full => cap = n
  | .ro => True
  | .tok b' hw sz => len = n * sz ∧ (cap = 0 ∨ (b' = b ∧ o + len = hw ∧ ∃ e N, w.shape? b = some (e, N) ∧ o + cap * sz ≤ N))

inductive Rel (S : St) (w : World) : AV → Value → Prop
  | bool (b : Bool) : Rel S w (.bool b) (.bool b)
  | int (k : IntKind) (n : Int) : Rel S w (.int k n) (.int k n)
  | str (s : ByteArray) : Rel S w (.str s) (.string s)
  | pnil : Rel S w (.ptr none) (.pointer none)
  | ptr (b o : Nat) : Rel S w (.ptr (some (b, o))) (.pointer (some ⟨b, o, none⟩))
  | ref (cs : List AV) (vs : List Value) (b o : Nat) (hi : ∀ (i : Nat) v, vs[i]? = some v → Imm S w b (o + i) v) (hl : cs.length = vs.length)
      (hr : ∀ (i : Nat) a v, cs[i]? = some a → vs[i]? = some v → Rel S w a v) : Rel S w (.ref cs) (.pointer (some ⟨b, o, none⟩))
  | snil : Rel S w (.slice [] 0 .nil) (.slice none 0 0)
  | slice (cs : List AV) (vs : List Value) (n : Nat) (own : Own) (b o cap : Nat) (hi : ∀ (i : Nat) v, vs[i]? = some v → Imm S w b (o + i) v) (hl : cs.length = vs.length)
      (hr : ∀ (i : Nat) a v, cs[i]? = some a → vs[i]? = some v → Rel S w a v) (hn : n ≤ cap) (ho : OwnOk w own b o n cap cs.length) :
      Rel S w (.slice cs n own) (.slice (some ⟨b, o, none⟩) n cap)
  | semp (a : Addr) (own : Own) (h : own = .ro ∨ own = .full) : Rel S w (.slice [] 0 own) (.slice (some a) 0 0)
  | msl (b o n cap sz : Nat) (hn : n ≤ cap) : Rel S w (.msl b o n (some cap) sz) (.slice (some ⟨b, o, none⟩) n cap)
  | vsl (b o n cap sz : Nat) (hn : n ≤ cap) (hs : ∃ e N, w.shape? b = some (e, N) ∧ o + cap * sz ≤ N) : Rel S w (.msl b o n none sz) (.slice (some ⟨b, o, none⟩) n cap)
  | map (r : Option Nat) : Rel S w (.map r) (.map r)
  | func (fn : Fn) (fs cs : List AV) (fv cv : List Value) (hf : fs.length = fv.length) (hc : cs.length = cv.length)
      (h1 : ∀ (i : Nat) a v, fs[i]? = some a → fv[i]? = some v → Rel S w a v) (h2 : ∀ (i : Nat) a v, cs[i]? = some a → cv[i]? = some v → Rel S w a v) :
      Rel S w (.func fn fs cs) (.func fn fv.toArray cv.toArray)
  | nilFunc : Rel S w .nilFunc .nilFunc
  | iface (t : TypeId) (a : AV) (v : Value) (h : Rel S w a v) : Rel S w (.iface t a) (.iface t v)
  | nilIface : Rel S w .nilIface .nilIface
  | agg (cs : List AV) (vs : List Value) (hl : cs.length = vs.length) (hr : ∀ (i : Nat) a v, cs[i]? = some a → vs[i]? = some v → Rel S w a v) : Rel S w (.agg cs) (.agg vs.toArray)
  | tuple (cs : List AV) (vs : List Value) (hl : cs.length = vs.length) (hr : ∀ (i : Nat) a v, cs[i]? = some a → vs[i]? = some v → Rel S w a v) : Rel S w (.tuple cs) (.tuple vs.toArray)
  | dead (v : Value) : Rel S w .dead v

/-- Pointwise. -/
structure RelL (S : St) (w : World) (cs : List AV) (vs : List Value) : Prop where
  len : cs.length = vs.length
  rel : ∀ (i : Nat) a v, cs[i]? = some a → vs[i]? = some v → Rel S w a v

section
variable {S : St} {w : World}
theorem RelL.nil : RelL S w [] [] := ⟨rfl, fun i a v h => by simp at h⟩
theorem RelL.cons {a : AV} {v : Value} {cs : List AV} {vs : List Value} (h : Rel S w a v) (k : RelL S w cs vs) : RelL S w (a :: cs) (v :: vs) := by
  refine ⟨by simp [k.len], fun i x y hx hy => ?_⟩
  cases i with
  | zero => simp at hx hy; subst hx hy; exact h
  | succ i => simp at hx hy; exact k.rel i x y hx hy
theorem RelL.head {a : AV} {v : Value} {cs : List AV} {vs : List Value} (k : RelL S w (a :: cs) (v :: vs)) : Rel S w a v := k.rel 0 a v rfl rfl
theorem RelL.tail {a : AV} {v : Value} {cs : List AV} {vs : List Value} (k : RelL S w (a :: cs) (v :: vs)) : RelL S w cs vs :=
  ⟨by have := k.len; simp at this; exact this, fun i x y hx hy => k.rel (i + 1) x y (by simpa using hx) (by simpa using hy)⟩
theorem RelL.nil_inv {vs : List Value} (h : RelL S w [] vs) : vs = [] := by have := h.len; simp at this; exact List.eq_nil_of_length_eq_zero this.symm
theorem RelL.cons_inv {a : AV} {cs : List AV} {vs : List Value} (h : RelL S w (a :: cs) vs) : ∃ v vs', vs = v :: vs' ∧ Rel S w a v ∧ RelL S w cs vs' := by
  cases vs with
  | nil => have := h.len; simp at this
  | cons v vs' => exact ⟨v, vs', rfl, h.head, h.tail⟩
theorem RelL.append {cs ds : List AV} {vs us : List Value} (h : RelL S w cs vs) (k : RelL S w ds us) : RelL S w (cs ++ ds) (vs ++ us) := by
  induction cs generalizing vs with
  | nil => rw [h.nil_inv]; exact k
  | cons a cs ih => obtain ⟨v, vs', rfl, h1, h2⟩ := h.cons_inv; exact .cons h1 (ih h2)
theorem RelL.drop {cs : List AV} {vs : List Value} (h : RelL S w cs vs) (n : Nat) : RelL S w (cs.drop n) (vs.drop n) :=
  ⟨by simp [h.len], fun i a v hx hy => h.rel (n + i) a v (by simpa using hx) (by simpa using hy)⟩
theorem RelL.take {cs : List AV} {vs : List Value} (h : RelL S w cs vs) (n : Nat) : RelL S w (cs.take n) (vs.take n) := by
  refine ⟨by simp [h.len], fun i a v hx hy => ?_⟩
  by_cases hi : i < n
  · exact h.rel i a v (by simpa [List.getElem?_take, hi] using hx) (by simpa [List.getElem?_take, hi] using hy)
  · simp [List.getElem?_take, hi] at hx
theorem RelL.set {cs : List AV} {vs : List Value} (h : RelL S w cs vs) (n : Nat) {a : AV} {v : Value} (k : Rel S w a v) : RelL S w (cs.set n a) (vs.set n v) := by
  refine ⟨by simp [h.len], fun i x y hx hy => ?_⟩
  rw [List.getElem?_set] at hx hy
  by_cases hi : n = i
  · subst hi
    simp only [if_true] at hx hy
    split at hx <;> split at hy <;> simp_all
  · simp only [hi, if_false] at hx hy
    exact h.rel i x y hx hy
theorem RelL.replicate {a : AV} {v : Value} (k : Rel S w a v) (n : Nat) : RelL S w (List.replicate n a) (List.replicate n v) :=
  ⟨by simp, fun i x y hx hy => by simp [List.getElem?_replicate] at hx hy; rw [← hx.2, ← hy.2]; exact k⟩
theorem RelL.get {cs : List AV} {vs : List Value} (h : RelL S w cs vs) {i : Nat} {a : AV} (hx : cs[i]? = some a) : ∃ v, vs[i]? = some v ∧ Rel S w a v := by
  have hi : i < vs.length := by
    rw [← h.len]; rcases Nat.lt_or_ge i cs.length with hh | hh
    · exact hh
    · simp [List.getElem?_eq_none hh] at hx
  exact ⟨vs[i], List.getElem?_eq_getElem hi, h.rel i a _ hx (List.getElem?_eq_getElem hi)⟩
theorem Rel.agg' {cs : List AV} {vs : List Value} (h : RelL S w cs vs) : Rel S w (.agg cs) (.agg vs.toArray) := .agg _ _ h.len h.rel
theorem Rel.tuple' {cs : List AV} {vs : List Value} (h : RelL S w cs vs) : Rel S w (.tuple cs) (.tuple vs.toArray) := .tuple _ _ h.len h.rel
end

/-- WHAT KEEPS A READING: the cells that nobody may change hold what they held, rows keep their shape. -/
theorem Rel.mono {S S' : St} {w w' : World} (hI : ∀ b off v, Imm S w b off v → Imm S' w' b off v) (hs : ∀ b e N, w.shape? b = some (e, N) → w'.shape? b = some (e, N))
    {a : AV} {v : Value} (h : Rel S w a v) : Rel S' w' a v := by
  induction h with
  | bool b => exact .bool b
  | int k n => exact .int k n
  | str s => exact .str s
  | pnil => exact .pnil
  | ptr b o => exact .ptr b o
  | ref cs vs b o hi hl hr ih => exact .ref cs vs b o (fun i v h => hI _ _ _ (hi i v h)) hl ih
  | snil => exact .snil
  | semp a own h => exact .semp a own h
  | slice cs vs n own b o cap hi hl hr hn ho ih =>
    refine .slice cs vs n own b o cap (fun i v h => hI _ _ _ (hi i v h)) hl ih hn ?_
    cases own with
    | nil => exact ho
    | full => exact ho
    | ro => exact ho
    | tok b' hw sz =>
      obtain ⟨h0, h0'⟩ := ho
      refine ⟨h0, h0'.imp id ?_⟩
      rintro ⟨h1, h2, e, N, h4, h5⟩
      exact ⟨h1, h2, e, N, hs _ _ _ h4, h5⟩
  | msl b o n cap sz hn => exact .msl b o n cap sz hn
  | vsl b o n cap sz hn hsh => obtain ⟨e, N, h1, h2⟩ := hsh; exact .vsl b o n cap sz hn ⟨e, N, hs _ _ _ h1, h2⟩
  | map r => exact .map r
  | func fn fs cs fv cv hf hc h1 h2 i1 i2 => exact .func fn fs cs fv cv hf hc i1 i2
  | nilFunc => exact .nilFunc
  | iface t a v h ih => exact .iface t a v ih
  | nilIface => exact .nilIface
  | agg cs vs hl hr ih => exact .agg cs vs hl ih
  | tuple cs vs hl hr ih => exact .tuple cs vs hl ih
  | dead v => exact .dead v

/-- WHAT MAY BECOME OF A WORLD AND WHAT IS OWNED IN IT. -/
structure Ext (S : St) (w : World) (S' : St) (w' : World) : Prop where
  os : w'.os = w.os
  tape : w'.tape = w.tape
  output : w'.output = w.output
  size : w.heap.size ≤ w'.heap.size
  obj : ∀ b, b < w.heap.size → S.obj b = none → S'.obj b = none
  tok : ∀ b, b < w.heap.size → S.obj b = none → ∀ hw', S'.tok b = some hw' → ∃ hw, S.tok b = some hw ∧ hw ≤ hw'
  blk : ∀ b, b < w.heap.size → S.obj b = none → S.tok b = none → w'.heap[b]? = w.heap[b]?
  tblk : ∀ b hw, b < w.heap.size → S.obj b = none → S.tok b = some hw → ∀ off, off < hw → w'.cell? ⟨b, off, none⟩ = w.cell? ⟨b, off, none⟩
  shape : ∀ b e N, w.shape? b = some (e, N) → w'.shape? b = some (e, N)

theorem cell?_of_heap {w w' : World} {b off : Nat} (h : w'.heap[b]? = w.heap[b]?) : w'.cell? ⟨b, off, none⟩ = w.cell? ⟨b, off, none⟩ := by simp [World.cell?, h]
theorem lt_of_cell? {w : World} {b off : Nat} {v : Value} (h : w.cell? ⟨b, off, none⟩ = some v) : b < w.heap.size := by
  rcases Nat.lt_or_ge b w.heap.size with hb | hb
  · exact hb
  · simp [World.cell?, Array.getElem?_eq_none hb] at h

section
variable {S S' S'' : St} {w w' w'' : World}
theorem Ext.refl : Ext S w S w := ⟨rfl, rfl, rfl, Nat.le_refl _, fun _ _ h => h, fun _ _ _ hw h => ⟨hw, h, Nat.le_refl _⟩, fun _ _ _ _ => rfl, fun _ _ _ _ _ _ _ => rfl, fun _ _ _ h => h⟩
theorem Ext.trans (h : Ext S w S' w') (k : Ext S' w' S'' w'') : Ext S w S'' w'' := by
  refine ⟨k.os.trans h.os, k.tape.trans h.tape, k.output.trans h.output, Nat.le_trans h.size k.size, ?_, ?_, ?_, ?_, fun b e N x => k.shape _ _ _ (h.shape _ _ _ x)⟩
  · exact fun b hb ho => k.obj b (Nat.lt_of_lt_of_le hb h.size) (h.obj b hb ho)
  · intro b hb ho hw' ht
    obtain ⟨h1, e1, l1⟩ := k.tok b (Nat.lt_of_lt_of_le hb h.size) (h.obj b hb ho) hw' ht
    obtain ⟨h2, e2, l2⟩ := h.tok b hb ho h1 e1
    exact ⟨h2, e2, Nat.le_trans l2 l1⟩
  · intro b hb ho ht
    have ht' : S'.tok b = none := by
      cases hc : S'.tok b with
      | none => rfl
      | some x => obtain ⟨y, hy, _⟩ := h.tok b hb ho x hc; rw [ht] at hy; cases hy
    exact (k.blk b (Nat.lt_of_lt_of_le hb h.size) (h.obj b hb ho) ht').trans (h.blk b hb ho ht)
  · intro b hw hb ho ht off hoff
    cases hc : S'.tok b with
    | none => exact (cell?_of_heap (k.blk b (Nat.lt_of_lt_of_le hb h.size) (h.obj b hb ho) hc)).trans (h.tblk b hw hb ho ht off hoff)
    | some x =>
      obtain ⟨y, hy, hl⟩ := h.tok b hb ho x hc
      rw [ht] at hy; cases hy
      exact (k.tblk b x (Nat.lt_of_lt_of_le hb h.size) (h.obj b hb ho) hc off (Nat.lt_of_lt_of_le hoff hl)).trans (h.tblk b hw hb ho ht off hoff)
theorem Ext.imm (h : Ext S w S' w') {b off : Nat} {v : Value} (i : Imm S w b off v) : Imm S' w' b off v := by
  have hb := lt_of_cell? i.cell
  refine ⟨h.obj b hb i.obj, ?_, ?_⟩
  · intro hw' ht
    obtain ⟨hw, e, l⟩ := h.tok b hb i.obj hw' ht
    exact Nat.lt_of_lt_of_le (i.tok hw e) l
  · cases hc : S.tok b with
    | none => exact (cell?_of_heap (h.blk b hb i.obj hc)).trans i.cell
    | some hw => exact (h.tblk b hw hb i.obj hc off (i.tok hw hc)).trans i.cell
theorem Ext.rel (h : Ext S w S' w') {a : AV} {v : Value} (r : Rel S w a v) : Rel S' w' a v := r.mono (fun _ _ _ => h.imm) h.shape
theorem Ext.relL (h : Ext S w S' w') {a : List AV} {v : List Value} (r : RelL S w a v) : RelL S' w' a v := ⟨r.len, fun i x y hx hy => h.rel (r.rel i x y hx hy)⟩
/-- Owning less. -/
theorem Ext.less (h : S'.le S) : Ext S w S' w := by
  refine ⟨rfl, rfl, rfl, Nat.le_refl _, ?_, ?_, fun _ _ _ _ => rfl, fun _ _ _ _ _ _ _ => rfl, fun _ _ _ h => h⟩
  · intro b _ ho
    cases hc : S'.obj b with
    | none => rfl
    | some x => rw [h.1 b x hc] at ho; cases ho
  · intro b _ _ hw' ht
    exact ⟨hw', h.2 b hw' ht, Nat.le_refl _⟩
end

def EntRel (S : St) (w : World) (es : List (AV × AV × Nat)) (E : List MapEntry) : Prop :=
  es.length = E.length ∧ ∀ (i : Nat) k v n (e : MapEntry), es[i]? = some (k, v, n) → E[i]? = some e → Rel S w k e.key ∧ Rel S w v e.val ∧ e.born = n

/-- No cell of a row is one that a string may share. -/
def Fz (C : Array Value) (fz : Nat × Nat) : Prop := ∀ off, off < C.size → ¬ (fz.1 ≤ off ∧ off < fz.2)
theorem Fz.zero (C : Array Value) : Fz C (0, 0) := fun off _ h => by omega
theorem Fz.size {C C' : Array Value} {fz : Nat × Nat} (h : Fz C fz) (hs : C'.size = C.size) : Fz C' fz := fun off ho => h off (by omega)
def ObjOk (S : St) (w : World) (b : Nat) : AObj → Prop
  | .cells cs => ∃ C e fz, w.heap[b]? = some (.cells C e fz) ∧ Fz C fz ∧ RelL S w cs C.toList
  | .vec cs => ∃ C e fz, w.heap[b]? = some (.cells C e fz) ∧ Fz C fz ∧ cs.length ≤ C.size ∧ RelL S w cs (C.toList.take cs.length)
  | .map es clock => ∃ E, w.heap[b]? = some (.map E clock) ∧ EntRel S w es E.toList
  | .miter m since seen stepped => w.heap[b]? = some (.mapIter m since seen.toArray stepped)
  | .siter s pos => w.heap[b]? = some (.stringIter s pos)

def TokOk (S : St) (w : World) (b hw : Nat) : Prop :=
  S.obj b = none ∧ ∃ C e fz, w.heap[b]? = some (.cells C e fz) ∧ hw ≤ C.size ∧ ∀ off, hw ≤ off → off < C.size → ¬ (fz.1 ≤ off ∧ off < fz.2)

structure WR (S : St) (w : World) : Prop where
  obj : ∀ b o, S.obj b = some o → ObjOk S w b o
  tok : ∀ b hw, S.tok b = some hw → TokOk S w b hw

section
variable {S S' : St} {w w' : World}
theorem EntRel.ext (h : Ext S w S' w') {es : List (AV × AV × Nat)} {E : List MapEntry} (r : EntRel S w es E) : EntRel S' w' es E :=
  ⟨r.1, fun i k v n e hx hy => let ⟨a, b, c⟩ := r.2 i k v n e hx hy; ⟨h.rel a, h.rel b, c⟩⟩
theorem ObjOk.ext (h : Ext S w S' w') {b : Nat} {o : AObj} (hb : w'.heap[b]? = w.heap[b]?) (k : ObjOk S w b o) : ObjOk S' w' b o := by
  cases o with
  | cells cs => obtain ⟨C, e, fz, h1, hf, h2⟩ := k; exact ⟨C, e, fz, hb.trans h1, hf, h.relL h2⟩
  | vec cs => obtain ⟨C, e, fz, h1, hf, h2, h3⟩ := k; exact ⟨C, e, fz, hb.trans h1, hf, h2, h.relL h3⟩
  | map es clock => obtain ⟨E, h1, h2⟩ := k; exact ⟨E, hb.trans h1, h2.ext h⟩
  | miter m a b c => exact hb.trans k
  | siter s p => exact hb.trans k
/-- A step of the world: each owned thing is as it was, or is right anew. -/
theorem WR.step (hw : WR S w) (h : Ext S w S' w') (ho : ∀ b o, S'.obj b = some o → (S.obj b = some o ∧ w'.heap[b]? = w.heap[b]?) ∨ ObjOk S' w' b o)
    (ht : ∀ b x, S'.tok b = some x → (S.tok b = some x ∧ S'.obj b = none ∧ w'.heap[b]? = w.heap[b]?) ∨ TokOk S' w' b x) : WR S' w' := by
  refine ⟨fun b o hb => ?_, fun b x hb => ?_⟩
  · rcases ho b o hb with ⟨h1, h2⟩ | h1
    · exact (hw.obj b o h1).ext h h2
    · exact h1
  · rcases ht b x hb with ⟨h1, h2, h3⟩ | h1
    · obtain ⟨_, C, e, fz, h4, h5⟩ := hw.tok b x h1
      exact ⟨h2, C, e, fz, h3.trans h4, h5⟩
    · exact h1
theorem WR.less (hw : WR S w) (h : S'.le S) : WR S' w :=
  hw.step (Ext.less h) (fun b o hb => .inl ⟨h.1 b o hb, rfl⟩) fun b x hb => .inl ⟨h.2 b x hb, (by
    have := (hw.tok b x (h.2 b x hb)).1
    cases hc : S'.obj b with
    | none => rfl
    | some y => rw [h.1 b y hc] at this; cases this), rfl⟩
theorem WR.lt_obj (hw : WR S w) {b : Nat} {o : AObj} (h : S.obj b = some o) : b < w.heap.size := by
  have := hw.obj b o h
  rcases Nat.lt_or_ge b w.heap.size with hb | hb
  · exact hb
  · have hn : w.heap[b]? = none := Array.getElem?_eq_none hb
    cases o <;> simp [ObjOk, hn] at this
theorem WR.lt_tok (hw : WR S w) {b x : Nat} (h : S.tok b = some x) : b < w.heap.size := by
  obtain ⟨_, C, e, fz, h4, _⟩ := hw.tok b x h
  rcases Nat.lt_or_ge b w.heap.size with hb | hb
  · exact hb
  · simp [Array.getElem?_eq_none hb] at h4
theorem WR.fresh (hw : WR S w) : S.obj w.heap.size = none ∧ S.tok w.heap.size = none := by
  constructor
  · cases h : S.obj w.heap.size with
    | none => rfl
    | some o => exact absurd (hw.lt_obj h) (Nat.lt_irrefl _)
  · cases h : S.tok w.heap.size with
    | none => rfl
    | some o => exact absurd (hw.lt_tok h) (Nat.lt_irrefl _)
theorem WR.none (w : World) : WR St.none w := ⟨fun _ _ h => (by cases h), fun _ _ h => (by cases h)⟩
end

/-! ## Worlds that move on -/
section
variable {S : St} {w : World}
theorem heap_alloc_old (w : World) (o : Obj) (b : Nat) (hb : b < w.heap.size) : (w.alloc o).heap[b]? = w.heap[b]? := by
  show (w.heap.push o)[b]? = _
  rw [Array.getElem?_push, if_neg (Nat.ne_of_lt hb)]
theorem shape?_alloc (w : World) (o : Obj) (b : Nat) (hb : b < w.heap.size) : (w.alloc o).shape? b = w.shape? b := by
  have := heap_alloc_old w o b hb
  simp only [World.shape?, this]
@[simp] theorem heap_alloc_new (w : World) (o : Obj) : (w.alloc o).heap[w.heap.size]? = some o := by
  show (w.heap.push o)[w.heap.size]? = _
  simp
theorem lt_of_shape {w : World} {b e N : Nat} (h : w.shape? b = some (e, N)) : b < w.heap.size := by
  rcases Nat.lt_or_ge b w.heap.size with hb | hb
  · exact hb
  · simp [World.shape?, Array.getElem?_eq_none hb] at h
theorem Ext.drew (w : World) : Ext S w S w.drew := ⟨rfl, rfl, rfl, Nat.le_refl _, fun _ _ h => h, fun _ _ _ hw h => ⟨hw, h, Nat.le_refl _⟩, fun _ _ _ _ => rfl, fun _ _ _ _ _ _ _ => rfl, fun _ _ _ h => h⟩
theorem WR.drew (h : WR S w) : WR S w.drew := h.step (Ext.drew w) (fun b o hb => .inl ⟨hb, rfl⟩) (fun b x hb => .inl ⟨hb, (h.tok b x hb).1, rfl⟩)
/-- A new block, owned or not. -/
theorem Ext.alloc (o : Obj) {S' : St} (ho : ∀ b, b < w.heap.size → S'.obj b = S.obj b) (ht : ∀ b, b < w.heap.size → S'.tok b = S.tok b) : Ext S w S' (w.alloc o) := by
  refine ⟨rfl, rfl, rfl, by simp, fun b hb h => (ho b hb).trans h, fun b hb _ hw h => ⟨hw, (ht b hb).symm.trans h, Nat.le_refl _⟩, fun b hb _ _ => heap_alloc_old w o b hb, ?_, ?_⟩
  · intro b hw hb _ _ off _
    exact cell?_of_heap (heap_alloc_old w o b hb)
  · intro b e N h
    rw [shape?_alloc w o b (lt_of_shape h)]; exact h
theorem WR.alloc (h : WR S w) (o : Obj) : WR S (w.alloc o) :=
  h.step (Ext.alloc o (fun _ _ => rfl) (fun _ _ => rfl)) (fun b o' hb => .inl ⟨hb, heap_alloc_old _ _ _ (h.lt_obj hb)⟩) (fun b x hb => .inl ⟨hb, (h.tok b x hb).1, heap_alloc_old _ _ _ (h.lt_tok hb)⟩)
/-- A new block that is owned. -/
theorem WR.alloc_obj (h : WR S w) (o : Obj) (ao : AObj) (hok : ObjOk (S.setObj w.heap.size ao) (w.alloc o) w.heap.size ao) : WR (S.setObj w.heap.size ao) (w.alloc o) := by
  refine h.step (Ext.alloc o (fun b hb => by simp [Nat.ne_of_lt hb]) (fun b hb => rfl)) (fun b o' hb => ?_) (fun b x hb => ?_)
  · by_cases hs : b = w.heap.size
    · subst hs; simp at hb; subst hb; exact .inr hok
    · simp [hs] at hb; exact .inl ⟨hb, heap_alloc_old _ _ _ (h.lt_obj hb)⟩
  · have hb' : S.tok b = some x := hb
    have hlt := h.lt_tok hb'
    exact .inl ⟨hb', by simp [Nat.ne_of_lt hlt]; exact (h.tok b x hb').1, heap_alloc_old _ _ _ hlt⟩
end
end Go.AM
/-
  WHAT THE OPERATIONS DO TO ABSTRACT VALUES AND TO THE OWNED HEAP.
-/
namespace Go.AM

/-! ## Values -/

/-- A constant. -/
def ofS : Value → AV
  | .bool b => .bool b
  | .int k n => .int k n
  | .string s => .str s
  | .pointer none => .ptr none
  | .slice none 0 0 => .slice [] 0 .nil
  | .map none => .map none
  | .nilFunc => .nilFunc
  | .nilIface => .nilIface
  | _ => .dead
def ofV : Value → AV
  | .agg cs => .agg (cs.toList.map ofS)
  | .iface t v => .iface t (ofS v)
  | .tuple ⟨[]⟩ => .tuple []
  | v => ofS v

abbrev Fr := List AV

def aeval (fr : Fr) : Operand → AV
  | .tmp t => fr.getD t .dead
  | .const v => ofV v
  | .global g => .ptr (some (g, 0))
  | .func f => .func (.func f) [] []

/-- The cells of a value that is not dead. -/
def xcells : AV → Option (List AV)
  | .agg cs => some cs
  | .tuple _ => none
  | .dead => none
  | v => some [v]

/-- May it lie in one cell? -/
def AV.ok1 : AV → Bool
  | .agg _ => false
  | .tuple _ => false
  | .dead => false
  | _ => true

def obind {α : Type} (x : Option α) (k : α → Prop) : Prop := match x with | some v => k v | none => False

def setList (cs : List AV) (o : Nat) : List AV → List AV
  | [] => cs
  | v :: vs => setList (cs.set o v) (o + 1) vs

def getCells (ag : Bool) (n : Nat) (cs : List AV) (o : Nat) : Option AV :=
  if ag then (if o + n ≤ cs.length then some (.agg ((cs.drop o).take n)) else none) else cs[o]?

def xload (ag : Bool) (n : Nat) (a : AV) (S : St) : Option AV :=
  match a with
  | .ptr (some (b, o)) => match S.obj b with
    | some (.cells cs) => getCells ag n cs o
    | some (.vec cs) => getCells ag n cs o
    | _ => none
  | .ref cs => getCells ag n cs 0
  | _ => none

def xfaddr (off : Nat) : AV → Option AV
  | .ptr (some (b, o)) => some (.ptr (some (b, o + off)))
  | .ref cs => some (.ref (cs.drop off))
  | _ => none

def xfield (ag : Bool) (n off : Nat) : AV → Option AV
  | .agg cs => getCells ag n cs off
  | _ => none

def xix : AV → Option (IntKind × Int)
  | .int k n => some (k, n)
  | _ => none

/-- The address of an element of a slice. -/
def xiaddr (sz : Nat) (x i : AV) : Option AV :=
  match x, i with
  | .slice cs n _, .int _ i => if 0 ≤ i ∧ i < (n : Int) then some (.ref ((cs.drop (i.toNat * sz)).take sz)) else none
  | .msl b off n _ _, .int _ i => if 0 ≤ i ∧ i < (n : Int) then some (.ptr (some (b, off + i.toNat * sz))) else none
  | _, _ => none
/-- The address of an element of an array. -/
def xaaddr (len sz : Nat) (x i : AV) : Option AV :=
  match x, i with
  | .ptr (some (b, o)), .int _ i => if 0 ≤ i ∧ i < (len : Int) then some (.ptr (some (b, o + i.toNat * sz))) else none
  | .ref cs, .int _ i => if 0 ≤ i ∧ i < (len : Int) then some (.ref ((cs.drop (i.toNat * sz)).take sz)) else none
  | _, _ => none
def xaindex (ag : Bool) (len n : Nat) (x i : AV) : Option AV :=
  match x, i with
  | .agg cs, .int _ i => if 0 ≤ i ∧ i < (len : Int) then getCells ag n cs (i.toNat * n) else none
  | _, _ => none
def xsindex (x i : AV) : Option AV :=
  match x, i with
  | .str s, .int _ i => if 0 ≤ i then (s.data.toList[i.toNat]?).map fun b => .int .u8 b.toNat else none
  | _, _ => none

def xbound (d : Nat) : Option AV → Option Int
  | none => some d
  | some (.int _ n) => some n
  | some _ => none

def xsslice (x : AV) (lo hi : Option AV) : Option AV :=
  match x with
  | .str s => match xbound 0 lo, xbound s.size hi with
    | some l, some h => if 0 ≤ l ∧ l ≤ h ∧ h ≤ (s.size : Int) then some (.str (s.extract l.toNat h.toNat)) else none
    | _, _ => none
  | _ => none

def ownSub (sz : Nat) (own : Own) (h n : Nat) (mx : Option Nat) : Own :=
  match mx with
  | some m => if m = h then .full else .ro
  | none => if h = n then (match own with
    | .tok b hw s => if s = sz then .tok b hw s else .ro
    | o => o) else .ro

def xslice (sz : Nat) (x : AV) (lo hi mx : Option AV) : Option AV :=
  match x with
  | .slice cs n own => match xbound 0 lo, xbound n hi with
    | some l, some h =>
      if 0 ≤ l ∧ l ≤ h ∧ h ≤ (n : Int) then
        match mx with
        | none => if own = .nil then some x else some (.slice ((cs.drop (l.toNat * sz)).take ((h.toNat - l.toNat) * sz)) (h.toNat - l.toNat) (ownSub sz own h.toNat n none))
        | some (.int _ m) => if hi.isSome = true ∧ h ≤ m ∧ m ≤ (n : Int) then (if own = .nil then some x else some (.slice ((cs.drop (l.toNat * sz)).take ((h.toNat - l.toNat) * sz)) (h.toNat - l.toNat) (ownSub sz own h.toNat n (some m.toNat)))) else none
        | some _ => none
      else none
    | _, _ => none
  | .msl b off n (some cap) s => match xbound 0 lo, xbound n hi with
    | some l, some h =>
      if 0 ≤ l ∧ l ≤ h ∧ h ≤ (cap : Int) ∧ s = sz then
        match mx with
        | none => some (.msl b (if cap = l.toNat then off else off + l.toNat * sz) (h.toNat - l.toNat) (some (cap - l.toNat)) s)
        | _ => none
      else none
    | _, _ => none
  | _ => none

def xslen : AV → Option AV
  | .str s => some (.int .i64 s.size)
  | _ => none
def xlen : AV → Option AV
  | .slice _ n _ => some (.int .i64 n)
  | .msl _ _ n _ _ => some (.int .i64 n)
  | _ => none
def xcap : AV → Option AV
  | .slice _ n .full => some (.int .i64 n)
  | .slice _ _ .nil => some (.int .i64 0)
  | .msl _ _ _ (some c) _ => some (.int .i64 c)
  | _ => none

def xintbits (op : BinOp) (k : IntKind) (x y : Int) : Option AV :=
  let a := BitVec.ofInt k.bits x
  let b := BitVec.ofInt k.bits y
  match op with
  | .and => some (.int k (k.wrap (a &&& b).toNat))
  | .or => some (.int k (k.wrap (a ||| b).toNat))
  | .xor => some (.int k (k.wrap (a ^^^ b).toNat))
  | .andNot => some (.int k (k.wrap (a &&& ~~~b).toNat))
  | _ => none

def xint (op : BinOp) (k : IntKind) (x y : Int) : Option AV :=
  match op with
  | .add => some (.int k (k.wrap (x + y)))
  | .sub => some (.int k (k.wrap (x - y)))
  | .mul => some (.int k (k.wrap (x * y)))
  | .quo => if y = 0 then none else some (.int k (k.wrap (x.tdiv y)))
  | .rem => if y = 0 then none else some (.int k (x.tmod y))
  | .eql => some (.bool (x == y))
  | .neq => some (.bool (x != y))
  | .lss => some (.bool (decide (x < y)))
  | .leq => some (.bool (decide (x ≤ y)))
  | .gtr => some (.bool (decide (x > y)))
  | .geq => some (.bool (decide (x ≥ y)))
  | .shl => if y < 0 then none else some (.int k (k.wrap (x * 2 ^ (min y.toNat k.bits))))
  | .shr => if y < 0 then none else some (.int k (x.fdiv (2 ^ (min y.toNat k.bits))))
  | op => xintbits op k x y

def xstr (op : BinOp) (x y : ByteArray) : Option AV :=
  match op with
  | .add => if x.size + y.size ≤ 9223372036854775807 then some (.str (x ++ y)) else none
  | .eql => some (.bool (x.data.toList == y.data.toList))
  | .neq => some (.bool !(x.data.toList == y.data.toList))
  | _ => none

/-- Is it nil? -/
def xnilp : AV → Option Bool
  | .ptr a => some a.isNone
  | .ref _ => some false
  | _ => none
def xnils : AV → Option Bool
  | .slice _ _ o => some (o == .nil)
  | .msl .. => some false
  | _ => none
def xnilm : AV → Option Bool
  | .map r => some r.isNone
  | _ => none
def xnilf : AV → Option Bool
  | .nilFunc => some true
  | .func .. => some false
  | _ => none
def xnili : AV → Option Bool
  | .nilIface => some true
  | .iface .. => some false
  | _ => none

/-- nil, as a constant of a type. -/
def isNilConst (d : TypeDesc) : Operand → Bool
  | .const (.pointer none) => (match d with | .pointer _ => true | _ => false)
  | .const (.slice none 0 0) => (match d with | .slice _ => true | _ => false)
  | .const (.map none) => (match d with | .map _ _ => true | _ => false)
  | .const .nilFunc => (match d with | .func _ _ _ => true | _ => false)
  | .const .nilIface => (match d with | .interface _ => true | _ => false)
  | _ => false
def xnil (d : TypeDesc) (x : AV) : Option Bool :=
  match d with
  | .pointer _ => xnilp x
  | .slice _ => xnils x
  | .map _ _ => xnilm x
  | .func _ _ _ => xnilf x
  | .interface _ => xnili x
  | _ => none

/-- Operators on two integers, strings, bools. -/
def xbini (op : BinOp) (x y : AV) : Option AV :=
  match x, y with
  | .int k a, .int k' b => match op with
    | .shl => xint .shl k a b
    | .shr => xint .shr k a b
    | op => if k = k' then xint op k a b else none
  | _, _ => none
def xbins (op : BinOp) (x y : AV) : Option AV :=
  match x, y with
  | .str a, .str b => xstr op a b
  | _, _ => none
def xbinb (op : BinOp) (x y : AV) : Option AV :=
  match x, y with
  | .bool a, .bool b => match op with
    | .eql => some (.bool (a == b))
    | .neq => some (.bool !(a == b))
    | _ => none
  | _, _ => none
def xisnil (neg : Bool) (x : Option Bool) : Option AV := x.map fun b => .bool (if neg then !b else b)

def xun (op : UnOp) (x : AV) : Option AV :=
  match op, x with
  | .not, .bool b => some (.bool !b)
  | .neg, .int k n => some (.int k (k.wrap (0 - n)))
  | .xor, .int k n => xintbits .xor k (if k.signed then -1 else k.max) n
  | _, _ => none

def bytesOf : List AV → Option (List UInt8)
  | [] => some []
  | .int .u8 n :: cs => (bytesOf cs).map (UInt8.ofNat n.toNat :: ·)
  | _ :: _ => none
def ofBytes (l : List UInt8) : List AV := l.map fun b => .int .u8 b.toNat

def xint2int (k : IntKind) : AV → Option AV
  | .int _ n => some (.int k (k.wrap n))
  | _ => none
def xstr2str : AV → Option AV
  | .str s => some (.str s)
  | _ => none
def xbytes2str (x : AV) (S : St) : Option AV :=
  match x with
  | .slice cs n own => if own = .nil then some (.str .empty) else if cs.length = n then (bytesOf cs).map fun l => .str ⟨l.toArray⟩ else none
  | .msl b off n _ _ => match S.obj b with
    | some (.cells cs) => if off + n ≤ cs.length then (bytesOf ((cs.drop off).take n)).map fun l => .str ⟨l.toArray⟩ else none
    | _ => none
  | _ => none
def xstr2bytes : AV → Option AV
  | .str s => some (.slice (ofBytes s.data.toList) s.size .ro)
  | _ => none

def xfill (cells : List AV) : List (Nat × Nat × AV) → Option (List AV)
  | [] => some cells
  | (off, n, v) :: rest => match xcells v with
    | some cs => if cs.length = n ∧ off + n ≤ cells.length then xfill (setList cells off cs) rest else none
    | none => none
def xbuild (zero : List AV) (parts : List (Nat × Nat × AV)) : Option AV := (xfill zero parts).map .agg
def xbslice (zero : List AV) (len : Nat) (parts : List (Nat × Nat × AV)) : Option AV := (xfill zero parts).map fun cs => .slice cs len .full

def xpick (c a b : AV) : Option AV :=
  match c with
  | .bool t => some (if t then a else b)
  | _ => none
def xextract (t : AV) (i : Nat) : Option AV :=
  match t with
  | .tuple vs => vs[i]?
  | _ => none
def xnilck : AV → Option AV
  | .ptr (some a) => some (.ptr (some a))
  | .ref cs => some (.ref cs)
  | _ => none

/-- Keys that are strings (true), that are integers (false). -/
def keyEq (st : Bool) (x y : AV) : Option Bool :=
  match x, y with
  | .str a, .str b => if st then some (a.data.toList == b.data.toList) else none
  | .int k a, .int k' b => if st = false ∧ k = k' then some (a == b) else none
  | _, _ => none
/-- The place of a key in a map. -/
def xfind (st : Bool) (k : AV) : List (AV × AV × Nat) → Nat → Option (Option (Nat × AV))
  | [], _ => some none
  | (k', v, _) :: es, i => match keyEq st k k' with
    | some true => some (some (i, v))
    | some false => xfind st k es (i + 1)
    | none => none
def xentries (m : AV) (S : St) : Option (List (AV × AV × Nat)) :=
  match m with
  | .map none => some []
  | .map (some r) => match S.obj r with
    | some (.map es _) => some es
    | _ => none
  | _ => none
def xlookup (st : Bool) (zero : AV) (ok : Bool) (m k : AV) (S : St) : Option AV :=
  match xentries m S with
  | some es => match xfind st k es 0 with
    | some (some (_, v)) => some (if ok then .tuple [v, .bool true] else v)
    | some none => some (if ok then .tuple [zero, .bool false] else zero)
    | none => none
  | none => none
def xmlen (m : AV) (S : St) : Option AV := (xentries m S).map fun es => .int .i64 es.length
def xentry (it : AV) (S : St) : Option AV :=
  match it with
  | .ptr (some (r, 0)) => match S.obj r with
    | some (.miter (some m) _ seen stepped) => match S.obj m with
      | some (.map es clock) => if clock = stepped then (match seen.getLast? with
        | some stamp => match es.find? (·.2.2 == stamp) with
          | some (k, v, _) => some (.tuple [k, v])
          | none => none
        | none => none) else none
      | _ => none
    | _ => none
  | _ => none

/-! ## What acts -/

inductive En where
  | ret (v : AV)
  | pan (v : AV)

abbrev Spec := List AV → St → (En → St → Prop) → Prop

def xalloc (zero : List AV) (S : St) (K : AV → St → Prop) : Prop :=
  ∀ b, S.obj b = none → S.tok b = none → K (.ptr (some (b, 0))) (S.setObj b (.cells zero))
def xbox (n : Nat) (v : AV) (S : St) (K : AV → St → Prop) : Prop :=
  obind (xcells v) fun cs => cs.length = n ∧ ∀ b, S.obj b = none → S.tok b = none → K (.ptr (some (b, 0))) (S.setObj b (.cells cs))
def xstore (n : Nat) (a v : AV) (S : St) (K : AV → St → Prop) : Prop :=
  match a with
  | .ptr (some (b, o)) => match S.obj b with
    | some (.cells cs) => obind (xcells v) fun vs => vs.length = n ∧ vs.all AV.ok1 = true ∧ o + n ≤ cs.length ∧ K (.tuple []) (S.setObj b (.cells (setList cs o vs)))
    | some (.vec cs) => obind (xcells v) fun vs => vs.length = n ∧ vs.all AV.ok1 = true ∧ o + n ≤ cs.length ∧ K (.tuple []) (S.setObj b (.vec (setList cs o vs)))
    | _ => False
  | _ => False
def xmkslice (zero : List AV) (ez bz : Nat) (len cap : AV) (S : St) (K : AV → St → Prop) : Prop :=
  match len, cap with
  | .int _ l, .int _ c => 0 ≤ l ∧ l ≤ c ∧ c * bz ≤ 140737488355328 ∧ c ≤ 140737488355328 ∧ zero.length = ez ∧ 0 < ez ∧
      ∀ b, S.obj b = none → S.tok b = none → K (.msl b 0 l.toNat (some c.toNat) ez) (S.setObj b (.cells ((List.range (c.toNat * ez)).map fun i => zero.getD (i % ez) .dead)))
  | _, _ => False
def xmkmap (S : St) (K : AV → St → Prop) : Prop :=
  ∀ b, S.obj b = none → S.tok b = none → K (.map (some b)) (S.setObj b (.map [] 0))
def xmapset (st : Bool) (m k v : AV) (S : St) (K : AV → St → Prop) : Prop :=
  match m with
  | .map (some r) => match S.obj r with
    | some (.map es clock) => match xfind st k es 0 with
      | some (some (i, _)) => K (.tuple []) (S.setObj r (.map (es.modify i fun e => (k, v, e.2.2)) clock))
      | some none => K (.tuple []) (S.setObj r (.map (es ++ [(k, v, clock)]) (clock + 1)))
      | none => False
    | _ => False
  | _ => False
def xmapdel (st : Bool) (m k : AV) (S : St) (K : AV → St → Prop) : Prop :=
  match m with
  | .map none => K (.tuple []) S
  | .map (some r) => match S.obj r with
    | some (.map es clock) => match xfind st k es 0 with
      | some (some (i, _)) => K (.tuple []) (S.setObj r (.map (es.eraseIdx i) clock))
      | some none => K (.tuple []) S
      | none => False
    | _ => False
  | _ => False
def xranges (x : AV) (S : St) (K : AV → St → Prop) : Prop :=
  match x with
  | .str s => ∀ b, S.obj b = none → S.tok b = none → K (.ptr (some (b, 0))) (S.setObj b (.siter s 0))
  | _ => False
def xrange (x : AV) (S : St) (K : AV → St → Prop) : Prop :=
  match x with
  | .map none => ∀ b, S.obj b = none → S.tok b = none → K (.ptr (some (b, 0))) (S.setObj b (.miter none 0 [] 0))
  | .map (some m) => match S.obj m with
    | some (.map _ clock) => ∀ b, S.obj b = none → S.tok b = none → K (.ptr (some (b, 0))) (S.setObj b (.miter (some m) clock [] clock))
    | _ => False
  | _ => False
/-- The next entry of a map: whichever. -/
def xnextm (it : AV) (S : St) (K : AV → St → Prop) : Prop :=
  match it with
  | .ptr (some (r, 0)) => match S.obj r with
    | some (.miter none _ _ _) => K (.tuple [.bool false]) S
    | some (.miter (some m) since seen last) => match S.obj m with
      | some (.map es clock) =>
        (seen = [] ∨ es = [] ∨ es.any (·.2.2 < last) = true) ∧
        ((∀ k v n, (k, v, n) ∈ es → n < since → n ∈ seen) → K (.tuple [.bool false]) S) ∧
        ∀ k v n, (k, v, n) ∈ es → n ∉ seen → K (.tuple [.bool true, k, v]) (S.setObj r (.miter (some m) since (seen ++ [n]) clock))
      | _ => False
    | _ => False
  | _ => False

/-- What is appended. -/
def xnews (ez : Nat) (x : AV) (S : St) : Option (List AV × Nat) :=
  match x with
  | .slice cs n _ => if cs.length = n * ez then some (cs, n) else none
  | .str s => if ez = 1 then some (ofBytes s.data.toList, s.size) else none
  | .msl b off n _ sz => if sz = ez then (match S.obj b with
    | some (.cells cs) => if off + n * ez ≤ cs.length then some ((cs.drop off).take (n * ez), n) else none
    | some (.vec cs) => if off + n * ez ≤ cs.length then some ((cs.drop off).take (n * ez), n) else none
    | _ => none) else none
  | _ => none

def freshTok (S : St) (cs : List AV) (n hw ez : Nat) (K : AV → St → Prop) : Prop :=
  ∀ b, S.obj b = none → S.tok b = none → K (.slice cs n (.tok b hw ez)) (S.setTok b hw)

def xappend (own : Bool) (ez bz : Nat) (s x : AV) (S : St) (K : AV → St → Prop) : Prop :=
  obind (xnews ez x S) fun (new, m) =>
    0 < ez ∧ new.all AV.ok1 = true ∧
    if m = 0 then (match s with | .slice .. => K s S | .msl .. => K s S | _ => False) else
    match s with
    | .slice cs n o =>
      cs.length = n * ez ∧ (n + m) * bz ≤ 70368744177664 ∧ n + m ≤ 70368744177664 ∧
      match o with
      | .nil => if own then (∀ b, S.obj b = none → S.tok b = none → K (.msl b 0 m none ez) (S.setObj b (.vec new)))
          else freshTok S new m (m * ez) ez K
      | .full => freshTok S (cs ++ new) (n + m) ((n + m) * ez) ez K
      | .tok t hw sz => sz = ez ∧ S.tok t = some hw ∧
          ∀ b hw', S.obj b = none → (b = t ∨ S.tok b = none) → K (.slice (cs ++ new) (n + m) (.tok b hw' ez)) ((S.delTok t).setTok b hw')
      | .ro => False
    | .msl b off n cap sz => sz = ez ∧ (n + m) * bz ≤ 70368744177664 ∧ n + m ≤ 70368744177664 ∧
      match cap, S.obj b with
      | some c, some (.cells cs) => off + c * ez ≤ cs.length ∧ n ≤ c ∧
        (if n + m ≤ c then K (.msl b off (n + m) (some c) ez) (S.setObj b (.cells (setList cs (off + n * ez) new)))
         else freshTok S ((cs.drop off).take (n * ez) ++ new) (n + m) ((n + m) * ez) ez K)
      | none, some (.vec cs) => off = 0 ∧ cs.length = n * ez ∧
        ∀ b', (b' = b ∨ (S.obj b' = none ∧ S.tok b' = none)) → K (.msl b' 0 (n + m) none ez) ((S.delObj b).setObj b' (.vec (cs ++ new)))
      | _, _ => False
    | _ => False

def xcopy (ez : Nat) (d x : AV) (S : St) (K : AV → St → Prop) : Prop :=
  obind (xnews ez x S) fun (new, m) =>
    0 < ez ∧ new.all AV.ok1 = true ∧
    match d with
    | .msl b off n (some c) sz => match S.obj b with
      | some (.cells cs) => sz = ez ∧ off + n * ez ≤ cs.length ∧ K (.int .i64 ((min m n : Nat) : Int)) (S.setObj b (.cells (setList cs off (new.take (min m n * ez)))))
      | _ => False
    | .slice [] 0 .nil => K (.int .i64 0) S
    | _ => False

def ccall (Sp : Spec) (args : List AV) (S : St) (K X : AV → St → Prop) : Prop :=
  Sp args S fun e S' => match e with
    | .ret v => K v S'
    | .pan v => X v S'
def xcall (Φ : FuncId → Spec) (f : FuncId) (args : List AV) (S : St) (K X : AV → St → Prop) : Prop := ccall (Φ f) args S K X
/-- A literal that is owned. -/
def xmslice (zero : List AV) (len sz : Nat) (parts : List (Nat × Nat × AV)) (S : St) (K : AV → St → Prop) : Prop :=
  obind (xfill zero parts) fun cs => ∀ b, S.obj b = none → S.tok b = none → K (.msl b 0 len (some len) sz) (S.setObj b (.cells cs))
/-- A text's bytes in a row of one's own. -/
def xs2bo (x : AV) (S : St) (K : AV → St → Prop) : Prop :=
  match x with
  | .str s => ∀ b cap, s.size ≤ cap → (s.size ≤ 9223372036854775807 → cap ≤ 9223372036854775807) → S.obj b = none → S.tok b = none → K (.msl b 0 s.size (some cap) 1) (S.setObj b (.cells (ofBytes s.data.toList ++ List.replicate (cap - s.size) (.int .u8 0))))
  | _ => False
/-- A literal of bytes that is marked as a text's: nobody changes it any more. -/
def xmark (x : AV) (S : St) (K : AV → St → Prop) : Prop :=
  match x with
  | .msl b 0 n (some c) 1 => match S.obj b with
    | some (.cells cs) => cs.length = n ∧ c = n ∧ K (.slice cs n .full) (S.delObj b)
    | _ => False
  | _ => False
def xcallv (Φ : FuncId → Spec) (f : AV) (args : List AV) (S : St) (K X : AV → St → Prop) : Prop :=
  match f with
  | .func (.func f) first cap => xcall Φ f (first ++ args ++ cap) S K X
  | _ => False

end Go.AM
/-
  THE OPERATIONS OF THE PROGRAM, READ AS ABSTRACT ONES; REGIONS; CODE; FUNCTIONS: the weakest condition on the owned heap under which code ends as it is to end.
-/
namespace Go.AM

def xmm (isMax : Bool) : AV → AV → Option AV
  | .int k x, .int k' y => if k = k' then some (.int k (if isMax then (if y > x then y else x) else (if y < x then y else x))) else none
  | _, _ => none

def agD : TypeDesc → Bool
  | .struct _ => true
  | .array _ _ => true
  | _ => false

/-- The zero value's cells. -/
def zc (P : Program) (t : TypeId) : Option (List AV) :=
  match P.info? t with
  | some i => match i.zero with
    | some v => xcells (ofV v)
    | none => none
  | none => none

/-- A key's type: a string, an integer. -/
def keyT : TypeDesc → Option Bool
  | .int _ => some false
  | .string => some true
  | _ => none

/-- Places of a struct's fields: offset and size. -/
def fplace (P : Program) (fields : Array Field) (i : Nat) : Option (Nat × Nat) :=
  match fields[i]? with
  | some f => match P.info? f.type with
    | some j => some (f.offset, j.size)
    | none => none
  | none => none

/-- All fields' types are known. -/
def fieldsOk (P : Program) (fields : Array Field) : Bool := fields.toList.all fun f => (P.info? f.type).isSome

def placed (place : Nat → Option (Nat × Nat)) (fr : Fr) : List (Nat × Operand) → Option (List (Nat × Nat × AV))
  | [] => some []
  | (i, x) :: rest => match place i, placed place fr rest with
    | some (o, n), some r => some ((o, n, aeval fr x) :: r)
    | _, _ => none

def isEq : BinOp → Bool
  | .eql => true
  | .neq => true
  | _ => false
def isNeq : BinOp → Bool
  | .neq => true
  | _ => false

/-- Operations that yield a value and change nothing that is owned. -/
def isVal (own : Nat → Bool) (o : Oper) : Bool := match o.op with
  | .move _ | .assign _ | .pick .. | .build .. | .load .. | .nilCheck _ | .binOp .. | .unOp .. | .makeInterface .. | .makeFunc .. | .slice .. | .fieldAddr .. | .field .. | .indexAddr .. | .index ..
  | .lookup .. | .entry _ | .extract .. => true
  | .buildSlice .. => !own (o.dst.getD 0)
  | .convert s d _ => s != d && !own (o.dst.getD 0)
  | .call c => match c.callee with
    | .builtin .len | .builtin .cap | .builtin .min | .builtin .max => true
    | _ => false
  | _ => false
/-- .. and hang on what is owned. -/
def isRd : Op → Bool
  | .load .. | .lookup .. | .entry _ | .convert .. => true
  | .call c => match c.callee with
    | .builtin .len => true
    | _ => false
  | _ => false

def aval (P : Program) (fr : Fr) (S : St) : Op → Option AV
  | .move x => some (aeval fr x)
  | .assign x => some (aeval fr x)
  | .pick c a b => xpick (aeval fr c) (aeval fr a) (aeval fr b)
  | .build t parts => match P.underlying t, zc P t with
    | some (.struct fields), some z => if fieldsOk P fields then (match placed (fplace P fields) fr parts.toList with
      | some ps => xbuild z ps
      | none => none) else none
    | some (.array _ e), some z => match P.info? e with
      | some j => match placed (fun i => some (i * j.size, j.size)) fr parts.toList with
        | some ps => xbuild z ps
        | none => none
      | none => none
    | _, _ => none
  | .buildSlice t len parts => match P.underlying t with
    | some (.slice e) => match P.info? e, zc P e with
      | some j, some z => if z.length = j.size ∧ len * j.size ≤ 16777216 then (match placed (fun i => some (i * j.size, j.size)) fr parts.toList with
        | some ps => xbslice ((List.range (len * j.size)).map fun i => z.getD (i % z.length) .dead) len ps
        | none => none) else none
      | _, _ => none
    | _ => none
  | .load t a => match P.underlying t, P.info? t with
    | some d, some i => xload (agD d) i.size (aeval fr a) S
    | _, _ => none
  | .nilCheck x => xnilck (aeval fr x)
  | .binOp op t x y _ => match P.underlying t with
    | some d =>
      if isEq op && isNilConst d y then xisnil (isNeq op) (xnil d (aeval fr x))
      else if isEq op && isNilConst d x then xisnil (isNeq op) (xnil d (aeval fr y))
      else match d with
        | .bool => xbinb op (aeval fr x) (aeval fr y)
        | .int _ => xbini op (aeval fr x) (aeval fr y)
        | .string => xbins op (aeval fr x) (aeval fr y)
        | _ => none
    | none => none
  | .unOp op _ x => xun op (aeval fr x)
  | .convert src dst x => match P.underlying src, P.underlying dst with
    | some _, some (.int k) => xint2int k (aeval fr x)
    | some .string, some .string => xstr2str (aeval fr x)
    | some (.slice e), some .string => match P.underlying e with
      | some (.int .u8) => xbytes2str (aeval fr x) S
      | _ => none
    | some .string, some (.slice e) => match P.underlying e with
      | some (.int .u8) => xstr2bytes (aeval fr x)
      | _ => none
    | _, _ => none
  | .makeInterface t x => match P.underlying t with
    | some (.interface _) => none
    | some _ => some (.iface t (aeval fr x))
    | none => none
  | .makeFunc fn first cap => some (.func fn (first.toList.map (aeval fr)) (cap.toList.map (aeval fr)))
  | .slice t x lo hi mx => match P.underlying t with
    | some .string => match mx with
      | none => xsslice (aeval fr x) (lo.map (aeval fr)) (hi.map (aeval fr))
      | some _ => none
    | some (.slice e) => match P.info? e with
      | some j => xslice j.size (aeval fr x) (lo.map (aeval fr)) (hi.map (aeval fr)) (mx.map (aeval fr))
      | none => none
    | _ => none
  | .fieldAddr s x f => match P.underlying s with
    | some (.struct fields) => match fplace P fields f with
      | some (off, n) => if n = 0 then none else xfaddr off (aeval fr x)
      | none => none
    | _ => none
  | .field t x f => match P.underlying t with
    | some (.struct fields) => match fields[f]? with
      | some fl => match P.underlying fl.type, P.info? fl.type with
        | some d, some j => xfield (agD d) j.size fl.offset (aeval fr x)
        | _, _ => none
      | none => none
    | _ => none
  | .indexAddr t x i => match P.underlying t with
    | some (.slice e) => match P.info? e with
      | some j => xiaddr j.size (aeval fr x) (aeval fr i)
      | none => none
    | some (.array n e) => match P.info? e with
      | some j => xaaddr n j.size (aeval fr x) (aeval fr i)
      | none => none
    | _ => none
  | .index t x i => match P.underlying t with
    | some (.array n e) => match P.underlying e, P.info? e with
      | some d, some j => xaindex (agD d) n j.size (aeval fr x) (aeval fr i)
      | _, _ => none
    | some .string => xsindex (aeval fr x) (aeval fr i)
    | _ => none
  | .lookup t m k ok => match P.underlying t with
    | some (.map kt et) => match P.underlying kt, P.info? et with
      | some kd, some j => match j.zero, keyT kd with
        | some z, some st => xlookup st (ofV z) ok (aeval fr m) (aeval fr k) S
        | _, _ => none
      | _, _ => none
    | _ => none
  | .entry it => xentry (aeval fr it) S
  | .extract t i => xextract (aeval fr t) i
  | .call c => match c.callee, c.argTypes.toList, c.args.toList with
    | .builtin .len, [t], [x] => match P.underlying t with
      | some .string => xslen (aeval fr x)
      | some (.slice _) => xlen (aeval fr x)
      | some (.array n _) => some (.int .i64 n)
      | some (.map _ _) => xmlen (aeval fr x) S
      | _ => none
    | .builtin .cap, [t], [x] => match P.underlying t with
      | some (.slice _) => xcap (aeval fr x)
      | some (.array n _) => some (.int .i64 n)
      | _ => none
    | .builtin .min, _, [x, y] => xmm false (aeval fr x) (aeval fr y)
    | .builtin .max, _, [x, y] => xmm true (aeval fr x) (aeval fr y)
    | _, _, _ => none
  | _ => none

def aeff (P : Program) (Φ : FuncId → Spec) (own : Nat → Bool) (fr : Fr) (S : St) (K X : AV → St → Prop) (o : Oper) : Prop :=
  match o.op with
  | .alloc t => obind (zc P t) fun z => xalloc z S K
  | .box t v => match P.info? t with
    | some i => xbox i.size (aeval fr v) S K
    | none => False
  | .store t a v => match P.info? t with
    | some i => xstore i.size (aeval fr a) (aeval fr v) S K
    | none => False
  | .makeSlice t l c => match P.underlying t with
    | some (.slice e) => match P.info? e, zc P e with
      | some i, some z => xmkslice z i.size i.bytes (aeval fr l) (aeval fr c) S K
      | _, _ => False
    | _ => False
  | .makeMap _ none => xmkmap S K
  | .mapUpdate t m k v => match P.underlying t with
    | some (.map kt _) => match P.underlying kt with
      | some kd => match keyT kd with
        | some st => xmapset st (aeval fr m) (aeval fr k) (aeval fr v) S K
        | none => False
      | none => False
    | _ => False
  | .insert t m k v => match P.underlying t with
    | some (.map kt _) => match P.underlying kt with
      | some kd => match keyT kd with
        | some st => xmapset st (aeval fr m) (aeval fr k) (aeval fr v) S K
        | none => False
      | none => False
    | _ => False
  | .range t x => match P.underlying t with
    | some .string => xranges (aeval fr x) S K
    | some (.map _ _) => xrange (aeval fr x) S K
    | _ => False
  | .next it false => xnextm (aeval fr it) S K
  | .buildSlice t len parts => match P.underlying t with
    | some (.slice e) => match P.info? e, zc P e with
      | some j, some z => if z.length = j.size ∧ len * j.size ≤ 16777216 ∧ 0 < len * j.size then (match placed (fun i => some (i * j.size, j.size)) fr parts.toList with
        | some ps => xmslice ((List.range (len * j.size)).map fun i => z.getD (i % z.length) .dead) len j.size ps S K
        | none => False) else False
      | _, _ => False
    | _ => False
  | .convert s d x => if s = d then (match P.underlying s with
    | some (.slice e) => match P.underlying e with
      | some (.int .u8) => xmark (aeval fr x) S K
      | _ => False
    | _ => False) else (match P.underlying s, P.underlying d with
    | some .string, some (.slice e) => match P.underlying e with
      | some (.int .u8) => xs2bo (aeval fr x) S K
      | _ => False
    | _, _ => False)
  | .panic x => match aeval fr x with
    | .iface t v => X (.iface t v) S
    | _ => False
  | .call c => match c.callee, c.argTypes.toList, c.args.toList with
    | .builtin .append, [t, u], [s, x] => match P.underlying t, P.underlying u with
      | some (.slice e), some ud => match P.info? e, zc P e, ud with
        | some i, some z, .slice _ => if z.length = i.size then xappend (own (o.dst.getD 0)) i.size i.bytes (aeval fr s) (aeval fr x) S K else False
        | some i, some z, .string => if z.length = i.size then xappend (own (o.dst.getD 0)) i.size i.bytes (aeval fr s) (aeval fr x) S K else False
        | _, _, _ => False
      | _, _ => False
    | .builtin .copy, [t, _], [d, x] => match P.underlying t with
      | some (.slice e) => match P.info? e with
        | some i => xcopy i.size (aeval fr d) (aeval fr x) S K
        | none => False
      | _ => False
    | .builtin .delete, [t, _], [m, k] => match P.underlying t with
      | some (.map kt _) => match P.underlying kt with
        | some kd => match keyT kd with
          | some st => xmapdel st (aeval fr m) (aeval fr k) S K
          | none => False
        | none => False
      | _ => False
    | .value (.func f), _, args => xcall Φ f (args.map (aeval fr)) S K X
    | .value f, _, args => xcallv Φ (aeval fr f) (args.map (aeval fr)) S K X
    | _, _, _ => False
  | _ => False

/-! ## Regions -/

def aput (fr : Fr) (d : Option Tmp) (v : AV) : Fr := match d with
  | some d => fr.set d v
  | none => fr

/-- The slot on which an operation's guard looks. -/
def gslot (ops : Array Oper) (fr : Fr) (j : Nat) : AV := match (ops[j]?).bind (·.dst) with
  | some d => fr.getD d .dead
  | none => .tuple []

def gv (g : AV) (want : Bool) (x : Option AV) : Option AV := match g with
  | .bool b => if b = want then x else some (.tuple [])
  | .tuple [] => some (.tuple [])
  | _ => none
def gif (g : AV) (want : Bool) (yes : (AV → St → Prop) → Prop) (S : St) (K : AV → St → Prop) : Prop := match g with
  | .bool b => if b = want then yes K else K (.tuple []) S
  | .tuple [] => K (.tuple []) S
  | _ => False

section
variable (P : Program) (Φ : FuncId → Spec) (own : Nat → Bool) (ops : Array Oper)

def gval (fr : Fr) (S : St) (o : Oper) : Option AV := match o.guard with
  | none => aval P fr S o.op
  | some (j, want) => gv (gslot ops fr j) want (aval P fr S o.op)
def geff (fr : Fr) (S : St) (K X : AV → St → Prop) (o : Oper) : Prop := match o.guard with
  | none => aeff P Φ own fr S K X o
  | some (j, want) => gif (gslot ops fr j) want (fun k => aeff P Φ own fr S k X o) S K

/-- One operation. -/
def aop (i : Nat) (X : AV → St → Prop) (K : Fr → St → Prop) (fr : Fr) (S : St) : Prop :=
  match ops[i]? with
  | none => K fr S
  | some o => if isVal own o then obind (gval P ops fr S o) fun v => K (aput fr o.dst v) S
    else geff P Φ own ops fr S (fun v S' => K (aput fr o.dst v) S') X o

def aops (X : AV → St → Prop) (K : Fr → St → Prop) : List Nat → Fr → St → Prop
  | [], fr, S => K fr S
  | i :: rest, fr, S => aop P Φ own ops i X (aops X K rest) fr S

/-- What stands ahead of each operation, by bits. -/
def befs : List Oper → List Nat → List Nat
  | [], acc => acc
  | o :: os, acc => befs os (acc ++ [o.after.toList.foldl (fun s e => if Region.binds .any e then s ||| 2 ^ e.on ||| acc.getD e.on 0 else s) 0])
def waits (i g : Nat) : Bool := ((befs ops.toList []).getD i 0).testBit g

def gchk (i : Nat) (S : St) : List (Nat × (St → Prop)) → Prop → Prop
  | [], K => K
  | (g, p) :: G, K => if waits ops i g then gchk i S G K else p S ∧ gchk i S G K

/-- An operation that may be taken ahead of all that are left. -/
def okVal (listed : Array Bool) (i : Nat) : Bool := (Region.ready .any ops listed).contains i && Region.free .any ops listed i
def okEff (listed : Array Bool) (i : Nat) : Bool := Region.ready .any ops listed == [i]

def acanon (X : AV → St → Prop) (K : Fr → St → Prop) : List Nat → Array Bool → List (Nat × (St → Prop)) → Fr → St → Prop
  | [], listed, _, fr, S => if Region.ready .any ops listed == [] then K fr S else False
  | i :: rest, listed, G, fr, S =>
    match ops[i]? with
    | none => False
    | some o =>
      if isVal own o then
        if okVal ops listed i then
          obind (gval P ops fr S o) fun v => acanon X K rest (listed.setIfInBounds i true) (if isRd o.op then (i, fun S' => gval P ops fr S' o = some v) :: G else G) (aput fr o.dst v) S
        else False
      else
        if okEff ops listed i then
          geff P Φ own ops fr S (fun v S' => gchk ops i S' G (acanon X K rest (listed.setIfInBounds i true) G (aput fr o.dst v) S')) X o
        else False
end

/-! ## Code -/

inductive Ex where
  | normal
  | exit (id : Nat)
  | ret
  | pan (v : AV)

def asplit (v : AV) (x y : Prop) : Prop := match v with
  | .bool b => if b then x else y
  | _ => False

def Ex.then (y : Fr → St → Prop) (K : Ex → Fr → St → Prop) : Ex → Fr → St → Prop
  | .normal => y
  | e => K e
def Ex.inBlock (id : Nat) (K : Ex → Fr → St → Prop) : Ex → Fr → St → Prop
  | .exit i => if i = id then K .normal else K (.exit i)
  | e => K e

/-- The slots that code writes. -/
def cwrites : Code → List Nat
  | .region _ ops _ => ops.toList.filterMap (·.dst)
  | .seq x y => cwrites x ++ cwrites y
  | .cond _ x y => cwrites x ++ cwrites y
  | .block _ c => cwrites c
  | .loop c => cwrites c
  | _ => []
/-- The first region in code: a loop's name. -/
def ckey : Code → Nat
  | .region id _ _ => id
  | .seq x _ => ckey x
  | .block _ c => ckey c
  | .loop c => ckey c
  | _ => 0
/-- A list's element. -/
def g (l : List AV) (i : Nat) : AV := l.getD i .dead
def deads : List Nat → Fr → Fr
  | [], fr => fr
  | j :: js, fr => deads js (fr.set j .dead)
def putm (l : List AV) : List Nat → Nat → Fr → Fr
  | [], _, fr => fr
  | j :: js, i, fr => putm l js (i + 1) (fr.set j (g l i))
/-- The frame at a loop's head: what the body writes is dead, but for the slots 'mods', which hold l. -/
def headFr (ws mods : List Nat) (fr : Fr) (l : List AV) : Fr := putm l mods 0 (deads ws fr)
def getm (mods : List Nat) (fr : Fr) : List AV := mods.map fun j => fr.getD j .dead

def aiter (B : (List AV → St → Prop) → List AV → St → Prop) : Nat → List AV → St → Prop
  | 0, _, _ => False
  | n + 1, l, S => B (aiter B n) l S
def aloop (B : (List AV → St → Prop) → List AV → St → Prop) (l : List AV) (S : St) : Prop := ∃ n, aiter B n l S

def aexec (P : Program) (Φ : FuncId → Spec) (own : Nat → Bool) (ord lh : Nat → List Nat) : Code → (Ex → Fr → St → Prop) → Fr → St → Prop
  | .skip, K, fr, S => K .normal fr S
  | .label _, K, fr, S => K .normal fr S
  | .region id ops draw, K, fr, S =>
    if draw then (if (ord id).length ≤ ops.size then acanon P Φ own ops (fun v S' => K (.pan v) fr S') (K .normal) (ord id) (Array.replicate ops.size false) [] fr S else False)
    else aops P Φ own ops (fun v S' => K (.pan v) fr S') (K .normal) (List.range ops.size) fr S
  | .seq x y, K, fr, S => aexec P Φ own ord lh x (Ex.then (aexec P Φ own ord lh y K) K) fr S
  | .cond c x y, K, fr, S => asplit (aeval fr c) (aexec P Φ own ord lh x K fr S) (aexec P Φ own ord lh y K fr S)
  | .block id c, K, fr, S => aexec P Φ own ord lh c (Ex.inBlock id K) fr S
  | .loop c, K, fr, S =>
    aloop (fun rec l S => aexec P Φ own ord lh c (Ex.then (fun fr' S' => ∃ S'', S''.le S' ∧ rec (getm (lh (ckey c)) fr') S'') K) (headFr (cwrites c) (lh (ckey c)) fr l) S) (getm (lh (ckey c)) fr) S
  | .exit id, K, fr, S => K (.exit id) fr S
  | .ret, K, fr, S => K .ret fr S
  | _, _, _, _ => False

/-! ## Functions -/

/-- A result: a slot, or a variable in memory. -/
def ares (P : Program) (fr : Fr) (S : St) : ResultVar → Option AV
  | .tmp t => some (fr.getD t .dead)
  | .cell t ty => match P.underlying ty, P.info? ty with
    | some d, some i => xload (agD d) i.size (fr.getD t .dead) S
    | _, _ => none
def aresK (P : Program) (fr : Fr) (S : St) : List ResultVar → (List AV → Prop) → Prop
  | [], k => k []
  | r :: rs, k => obind (ares P fr S r) fun v => aresK P fr S rs fun vs => k (v :: vs)
/-- One result, or a tuple. -/
def packed : List AV → AV
  | [v] => v
  | vs => .tuple vs

def Ex.end (P : Program) (fn : Func) (K : En → St → Prop) : Ex → Fr → St → Prop
  | .normal, fr, S => aresK P fr S fn.results.toList fun vs => K (.ret (packed vs)) S
  | .ret, fr, S => aresK P fr S fn.results.toList fun vs => K (.ret (packed vs)) S
  | .pan v, _, S => K (.pan v) S
  | .exit _, _, _ => False

def acall (P : Program) (Φ : FuncId → Spec) (own : Nat → Bool) (ord lh : Nat → List Nat) (fn : Func) (args : List AV) (S : St) (K : En → St → Prop) : Prop :=
  match fn.body with
  | some c => args.length = fn.params.size + fn.nfree ∧ aexec P Φ own ord lh c (Ex.end P fn K) (args ++ List.replicate (fn.ntmps - args.length) (.tuple [])) S
  | none => False
end Go.AM
/-
  THE OPERATIONS THAT YIELD A VALUE DO WHAT THEIR ABSTRACT READINGS SAY.
-/
namespace Go.AM

section
variable {S : St} {w : World}

theorem ofS_rel (v : Value) : Rel S w (ofS v) v := by
  unfold ofS
  split <;> first
    | exact .bool _
    | exact .int _ _
    | exact .str _
    | exact .pnil
    | exact .snil
    | exact .map _
    | exact .nilFunc
    | exact .nilIface
    | exact .dead _

theorem ofV_rel (v : Value) : Rel S w (ofV v) v := by
  unfold ofV
  split
  · rename_i cs
    have : Value.agg cs = .agg cs.toList.toArray := by simp
    rw [this]
    refine .agg _ _ (by simp) fun i a v hx hy => ?_
    simp only [List.getElem?_map, Option.map_eq_some_iff] at hx
    obtain ⟨y, h1, rfl⟩ := hx
    have : y = v := by have := h1.symm.trans hy; simpa using this
    subst this
    exact ofS_rel _
  · exact .iface _ _ _ (ofS_rel _)
  · exact .tuple [] [] rfl fun i a v h => by simp at h
  · exact ofS_rel _

theorem aeval_rel {fr : Fr} {a : Act} (h : RelL S w fr a.tmps.toList) (x : Operand) : Rel S w (aeval fr x) (a.eval x) := by
  cases x with
  | tmp t =>
    simp only [aeval, Act.eval]
    rw [List.getD_eq_getElem?_getD, Array.getD_eq_getD_getElem?]
    cases hx : fr[t]? with
    | none => exact .dead _
    | some y =>
      obtain ⟨v, h1, h2⟩ := h.get hx
      rw [Array.getElem?_toList] at h1
      rw [h1]; exact h2
  | const v => exact ofV_rel v
  | global g => exact .ptr g 0
  | func f => exact .func _ [] [] [] [] rfl rfl (fun i a v h => by simp at h) (fun i a v h => by simp at h)

/-! Readings turned round. -/
theorem Rel.int_inv {k : IntKind} {n : Int} {V : Value} (h : Rel S w (.int k n) V) : V = .int k n := by cases h; rfl
theorem Rel.bool_inv {b : Bool} {V : Value} (h : Rel S w (.bool b) V) : V = .bool b := by cases h; rfl
theorem Rel.str_inv {s : ByteArray} {V : Value} (h : Rel S w (.str s) V) : V = .string s := by cases h; rfl
theorem Rel.ptr_inv {b o : Nat} {V : Value} (h : Rel S w (.ptr (some (b, o))) V) : V = .pointer (some ⟨b, o, none⟩) := by cases h; rfl
theorem Rel.pnil_inv {V : Value} (h : Rel S w (.ptr none) V) : V = .pointer none := by cases h; rfl
theorem Rel.map_inv {r : Option Nat} {V : Value} (h : Rel S w (.map r) V) : V = .map r := by cases h; rfl
theorem Rel.agg_inv {cs : List AV} {V : Value} (h : Rel S w (.agg cs) V) : ∃ vs : List Value, V = .agg vs.toArray ∧ RelL S w cs vs := by cases h with | agg _ vs hl hr => exact ⟨vs, rfl, hl, hr⟩
theorem Rel.tuple_inv {cs : List AV} {V : Value} (h : Rel S w (.tuple cs) V) : ∃ vs : List Value, V = .tuple vs.toArray ∧ RelL S w cs vs := by cases h with | tuple _ vs hl hr => exact ⟨vs, rfl, hl, hr⟩
theorem Rel.iface_inv {t : TypeId} {v : AV} {V : Value} (h : Rel S w (.iface t v) V) : ∃ U, V = .iface t U ∧ Rel S w v U := by cases h with | iface _ _ U h => exact ⟨U, rfl, h⟩
theorem Rel.func_inv {fn : Fn} {fs cs : List AV} {V : Value} (h : Rel S w (.func fn fs cs) V) : ∃ fv cv : List Value, V = .func fn fv.toArray cv.toArray ∧ RelL S w fs fv ∧ RelL S w cs cv := by
  cases h with | func _ _ _ fv cv hf hc h1 h2 => exact ⟨fv, cv, rfl, ⟨hf, h1⟩, ⟨hc, h2⟩⟩
theorem Rel.ref_inv {cs : List AV} {V : Value} (h : Rel S w (.ref cs) V) : ∃ (vs : List Value) (b o : Nat), V = .pointer (some ⟨b, o, none⟩) ∧ (∀ (i : Nat) v, vs[i]? = some v → Imm S w b (o + i) v) ∧ RelL S w cs vs := by
  cases h with | ref _ vs b o hi hl hr => exact ⟨vs, b, o, rfl, hi, hl, hr⟩

theorem xcells_rel {v : AV} {cs : List AV} {V : Value} (hc : xcells v = some cs) (h : Rel S w v V) : RelL S w cs V.cells.toList := by
  cases h <;> simp only [xcells, Option.some.injEq, reduceCtorEq] at hc <;> try (subst hc; exact .cons (by constructor <;> assumption) .nil)
  case agg cs' vs hl hr => subst hc; simpa [Value.cells] using (⟨hl, hr⟩ : RelL S w cs' vs)

theorem cells_size {v : AV} {cs : List AV} {V : Value} (hc : xcells v = some cs) (h : Rel S w v V) : V.cells.size = cs.length := by
  rw [(xcells_rel hc h).len]; simp

theorem getCells_rel {ag : Bool} {n o : Nat} {cs : List AV} {vs : List Value} {v : AV} (h : RelL S w cs vs) (hg : getCells ag n cs o = some v) :
    (ag = true ∧ o + n ≤ vs.length ∧ Rel S w v (.agg ((vs.drop o).take n).toArray)) ∨ (ag = false ∧ ∃ u, vs[o]? = some u ∧ Rel S w v u) := by
  unfold getCells at hg
  cases ag with
  | true =>
    simp only [if_true] at hg
    split at hg
    · rename_i hle
      cases hg
      exact .inl ⟨rfl, h.len ▸ hle, .agg' ((h.drop o).take n)⟩
    · cases hg
  | false =>
    simp only [Bool.false_eq_true, if_false] at hg
    exact .inr ⟨rfl, h.get hg⟩
end

/-! ## Running -/
section
variable {P : Program}

theorem run_under {t : TypeId} {d : TypeDesc} (h : P.underlying t = some d) (w : World) : (underlying t).run P w = .ok d w := by
  simp only [underlying, Sem.run_bind, run_program, Result.andThen_ok, h]; rfl
theorem run_info {t : TypeId} {i : TypeInfo} (h : P.info? t = some i) (w : World) : (typeInfo t).run P w = .ok i w := by
  simp only [typeInfo, Sem.run_bind, run_program, Result.andThen_ok, h]; rfl
theorem run_size {t : TypeId} {i : TypeInfo} (h : P.info? t = some i) (w : World) : (sizeOf t).run P w = .ok i.size w := by
  simp only [sizeOf, Sem.run_bind, run_info h, Result.andThen_ok]; rfl
theorem run_zero {t : TypeId} {i : TypeInfo} {z : Value} (h : P.info? t = some i) (hz : i.zero = some z) (w : World) : (zeroValue t).run P w = .ok z w := by
  simp only [zeroValue, Sem.run_bind, run_info h, Result.andThen_ok, hz]; rfl
theorem run_isAgg {t : TypeId} {d : TypeDesc} (h : P.underlying t = some d) (w : World) : (isAgg t).run P w = .ok (agD d) w := by
  simp only [isAgg, Sem.run_bind, run_under h, Result.andThen_ok]
  cases d <;> rfl

theorem add_mk (b o n : Nat) : Addr.add ⟨b, o, none⟩ n = ⟨b, o + n, none⟩ := by
  unfold Addr.add
  split
  · subst_vars; rfl
  · rfl

/-- Cells that are there are loaded. -/
theorem run_loadVar {t : TypeId} {d : TypeDesc} {i : TypeInfo} (h : P.underlying t = some d) (hi : P.info? t = some i) {w : World} {b o : Nat} {vs : List Value}
    (hc : ∀ (j : Nat) v, vs[j]? = some v → w.cell? ⟨b, o + j, none⟩ = some v) (V : Value)
    (hV : (agD d = true ∧ i.size ≤ vs.length ∧ V = .agg (vs.take i.size).toArray) ∨ (agD d = false ∧ vs[0]? = some V)) :
    (loadVar t ⟨b, o, none⟩).run P w = .ok V w := by
  simp only [loadVar, Sem.run_bind, run_isAgg h, Result.andThen_ok]
  rcases hV with ⟨h1, h2, rfl⟩ | ⟨h1, h2⟩
  · simp only [h1, if_true, Sem.run_bind, run_size hi, Result.andThen_ok]
    have hl := run_loadCells_list (P := P) w ⟨b, o, none⟩ (vs.take i.size) (fun j v hj => by
      rw [add_mk]; refine hc j v ?_
      rw [List.getElem?_take] at hj; split at hj
      · exact hj
      · cases hj)
    have e : (vs.take i.size).length = i.size := by simp; omega
    rw [e] at hl
    rw [hl]; rfl
  · have := hc 0 V h2
    simp only [Nat.add_zero] at this
    simp only [h1, Bool.false_eq_true, if_false, run_load, this]

/-- The cells of an owned object in the world. -/
theorem WR.cells {S : St} {w : World} (hw : WR S w) {b : Nat} {cs : List AV} (h : S.obj b = some (.cells cs) ∨ S.obj b = some (.vec cs)) :
    ∃ (C : Array Value) (e : TypeId) (fz : Nat × Nat), w.heap[b]? = some (.cells C e fz) ∧ cs.length ≤ C.size ∧ RelL S w cs (C.toList.take cs.length) := by
  rcases h with h | h
  · obtain ⟨C, e, fz, h1, hf, h2⟩ := hw.obj b _ h
    have hl := h2.len
    simp only [Array.length_toList] at hl
    exact ⟨C, e, fz, h1, by omega, by rw [List.take_of_length_le (by simp; omega)]; exact h2⟩
  · obtain ⟨C, e, fz, h1, hf, h2, h3⟩ := hw.obj b _ h
    exact ⟨C, e, fz, h1, h2, h3⟩
theorem cell_of {w : World} {b e o n : Nat} {C : Array Value} {v : Value} {fz : Nat × Nat} (h : w.heap[b]? = some (.cells C e fz)) (hv : (C.toList.take n)[o]? = some v) : w.cell? ⟨b, o, none⟩ = some v := by
  simp only [World.cell?, h, Option.isSome_none, Bool.false_eq_true, if_false]
  rw [List.getElem?_take] at hv
  split at hv
  · simpa using hv
  · cases hv

theorem run_load_sound {t : TypeId} {d : TypeDesc} {i : TypeInfo} (h : P.underlying t = some d) (hi : P.info? t = some i) {S : St} {w : World} (hw : WR S w) {a : AV} {A : Value} (ha : Rel S w a A)
    {v : AV} (hx : xload (agD d) i.size a S = some v) : ∃ V, (Instr.loadAt t A).run P w = .ok V w ∧ Rel S w v V := by
  have key : ∀ (b o : Nat) (cs : List AV) (vs : List Value), RelL S w cs vs → (∀ (j : Nat) u, vs[j]? = some u → w.cell? ⟨b, j, none⟩ = some u) → getCells (agD d) i.size cs o = some v →
      ∃ V, (loadVar t ⟨b, o, none⟩).run P w = .ok V w ∧ Rel S w v V := by
    intro b o cs vs hr hc hg
    rcases getCells_rel hr hg with ⟨h1, h2, h3⟩ | ⟨h1, u, h2, h3⟩
    · refine ⟨_, run_loadVar h hi (vs := vs.drop o) (fun j u hj => hc _ u (by simpa using hj)) _ (.inl ⟨h1, by simp; omega, rfl⟩), h3⟩
    · exact ⟨u, run_loadVar h hi (vs := vs.drop o) (fun j u hj => hc _ u (by simpa using hj)) _ (.inr ⟨h1, by simpa using h2⟩), h3⟩
  unfold xload at hx
  split at hx
  · rename_i b o
    cases ha
    simp only [Instr.loadAt, Instr.sureAddr, Sem.run_bind, Sem.run_pure, Result.andThen_ok]
    split at hx
    · rename_i cs hb
      obtain ⟨C, e, fz, h1, h2, h3⟩ := hw.cells (.inl hb)
      exact key b o cs _ h3 (fun j u hj => cell_of h1 hj) hx
    · rename_i cs hb
      obtain ⟨C, e, fz, h1, h2, h3⟩ := hw.cells (.inr hb)
      exact key b o cs _ h3 (fun j u hj => cell_of h1 hj) hx
    · cases hx
  · rename_i cs
    obtain ⟨vs, b, o, rfl, hi', hr⟩ := ha.ref_inv
    simp only [Instr.loadAt, Instr.sureAddr, Sem.run_bind, Sem.run_pure, Result.andThen_ok]
    rcases getCells_rel hr hx with ⟨h1, h2, h3⟩ | ⟨h1, u, h2, h3⟩
    · exact ⟨_, run_loadVar h hi (vs := vs) (fun j u hj => (hi' j u hj).cell) _ (.inl ⟨h1, by omega, rfl⟩), by simpa using h3⟩
    · exact ⟨u, run_loadVar h hi (vs := vs) (fun j u hj => (hi' j u hj).cell) _ (.inr ⟨h1, h2⟩), h3⟩
  · cases hx

end
end Go.AM
/-
  FIELDS, ELEMENTS, SLICES: the operations do what their abstract readings say.
-/
namespace Go.AM
section
variable {P : Program} {S : St} {w : World}

theorem run_part {t : TypeId} {d : TypeDesc} {i : TypeInfo} (h : P.underlying t = some d) (hi : P.info? t = some i) (w : World) {vs : List Value} {o : Nat} (V : Value)
    (hV : (agD d = true ∧ V = .agg ((vs.drop o).take i.size).toArray) ∨ (agD d = false ∧ vs[o]? = some V)) : (part t vs.toArray o).run P w = .ok V w := by
  simp only [part, Sem.run_bind, run_isAgg h, Result.andThen_ok]
  rcases hV with ⟨h1, rfl⟩ | ⟨h1, h2⟩
  · simp only [h1, if_true, Sem.run_bind, run_size hi, Result.andThen_ok, Sem.run_pure]
    congr 2
    apply Array.ext'
    simp [List.take_drop]
  · simp [h1, h2]

theorem fieldAt_sound {s : TypeId} {fields : Array Field} (h : P.underlying s = some (.struct fields)) {f off n : Nat} (hf : fplace P fields f = some (off, n)) (hn : n ≠ 0)
    {a v : AV} {A : Value} (ha : Rel S w a A) (hx : xfaddr off a = some v) : ∃ V, (Instr.fieldAt s A f).run P w = .ok V w ∧ Rel S w v V := by
  unfold fplace at hf
  split at hf
  · rename_i fl hfl
    split at hf
    · rename_i j hj
      cases hf
      have key : ∀ b o, (Instr.fieldAt s (.pointer (some ⟨b, o, none⟩)) f).run P w = .ok (.pointer (some ⟨b, o + fl.offset, none⟩)) w := by
        intro b o
        simp only [Instr.fieldAt, Sem.run_bind, run_under h, Result.andThen_ok, hfl, Instr.sureAddr, Sem.run_pure, fieldPlace, run_size hj, hn, if_false, add_mk, Bool.false_eq_true, beq_iff_eq, decide_false]
      unfold xfaddr at hx
      split at hx
      · rename_i b o; cases hx; cases ha
        exact ⟨_, key b o, .ptr _ _⟩
      · rename_i cs; cases hx
        obtain ⟨vs, b, o, rfl, hi, hr⟩ := ha.ref_inv
        have hr' := hr.drop fl.offset
        refine ⟨_, key b o, .ref _ (vs.drop fl.offset) _ _ (fun i u hu => ?_) hr'.len hr'.rel⟩
        have := hi (fl.offset + i) u (by simpa using hu)
        rw [← Nat.add_assoc] at this; exact this
      · cases hx
    · cases hf
  · cases hf

theorem field_sound {t : TypeId} {fields : Array Field} (h : P.underlying t = some (.struct fields)) {f : Nat} {fl : Field} (hf : fields[f]? = some fl) {d : TypeDesc} {j : TypeInfo}
    (hd : P.underlying fl.type = some d) (hj : P.info? fl.type = some j) {a v : AV} {A : Value} (ha : Rel S w a A) (hx : xfield (agD d) j.size fl.offset a = some v) :
    ∃ V, (Instr.field t A f).run P w = .ok V w ∧ Rel S w v V := by
  unfold xfield at hx
  split at hx
  · rename_i cs
    obtain ⟨vs, rfl, hr⟩ := ha.agg_inv
    simp only [Instr.field, Sem.run_bind, run_under h, Result.andThen_ok, hf, asAgg, Sem.run_pure]
    rcases getCells_rel hr hx with ⟨h1, h2, h3⟩ | ⟨h1, u, h2, h3⟩
    · exact ⟨_, run_part hd hj w _ (.inl ⟨h1, rfl⟩), h3⟩
    · exact ⟨u, run_part hd hj w _ (.inr ⟨h1, h2⟩), h3⟩
  · cases hx

theorem Rel.slice_inv {cs : List AV} {n : Nat} {own : Own} {V : Value} (h : Rel S w (.slice cs n own) V) :
    (cs = [] ∧ n = 0 ∧ own = .nil ∧ V = .slice none 0 0) ∨ (∃ a, cs = [] ∧ n = 0 ∧ (own = .ro ∨ own = .full) ∧ V = .slice (some a) 0 0) ∨
    ∃ (vs : List Value) (b o cap : Nat), V = .slice (some ⟨b, o, none⟩) n cap ∧ (∀ (i : Nat) v, vs[i]? = some v → Imm S w b (o + i) v) ∧ RelL S w cs vs ∧ n ≤ cap ∧ OwnOk w own b o n cap cs.length := by
  cases h with
  | snil => exact .inl ⟨rfl, rfl, rfl, rfl⟩
  | semp a own h => exact .inr (.inl ⟨a, rfl, rfl, h, rfl⟩)
  | slice _ vs _ _ b o cap hi hl hr hn ho => exact .inr (.inr ⟨vs, b, o, cap, rfl, hi, ⟨hl, hr⟩, hn, ho⟩)

/-- A part of cells that stay. -/
theorem ref_part {cs : List AV} {vs : List Value} {b o : Nat} (hi : ∀ (i : Nat) v, vs[i]? = some v → Imm S w b (o + i) v) (hr : RelL S w cs vs) (k m : Nat) :
    Rel S w (.ref ((cs.drop k).take m)) (.pointer (some ⟨b, o + k, none⟩)) := by
  have h' := (hr.drop k).take m
  refine .ref _ ((vs.drop k).take m) _ _ (fun i u hu => ?_) h'.len h'.rel
  rw [List.getElem?_take] at hu
  split at hu
  · have := hi (k + i) u (by simpa using hu)
    rw [← Nat.add_assoc] at this; exact this
  · cases hu

theorem indexAt_slice {t e : TypeId} {j : TypeInfo} (h : P.underlying t = some (.slice e)) (hj : P.info? e = some j) {x i v : AV} {X I : Value} (hx : Rel S w x X) (hi : Rel S w i I)
    (hv : xiaddr j.size x i = some v) : ∃ V, (Instr.indexAt t X I).run P w = .ok V w ∧ Rel S w v V := by
  have key : ∀ (b o n cap : Nat) (k : IntKind) (q : Int), 0 ≤ q → q < (n : Int) →
      (Instr.indexAt t (.slice (some ⟨b, o, none⟩) n cap) (.int k q)).run P w = .ok (.pointer (some ⟨b, o + q.toNat * j.size, none⟩)) w := by
    intro b o n cap k q h0 h1
    simp only [Instr.indexAt, Sem.run_bind, asIntOf, Sem.run_pure, Result.andThen_ok, run_under h, and_self, h0, h1, if_true, run_size hj, add_mk]
  unfold xiaddr at hv
  split at hv
  · rename_i cs n own k q
    have := hi.int_inv; subst this
    split at hv
    · rename_i hq
      cases hv
      rcases hx.slice_inv with ⟨rfl, rfl, rfl, rfl⟩ | ⟨a, rfl, rfl, _, rfl⟩ | ⟨vs, b, o, cap, rfl, hi', hr, hn, ho⟩
      · exact absurd hq.2 (by simp; omega)
      · exact absurd hq.2 (by simp; omega)
      · exact ⟨_, key b o n cap k q hq.1 hq.2, ref_part hi' hr _ _⟩
    · cases hv
  · rename_i b off n cap sz k q
    have := hi.int_inv; subst this
    split at hv
    · rename_i hq
      cases hv
      cases hx
      · exact ⟨_, key b off n _ k q hq.1 hq.2, .ptr _ _⟩
      · exact ⟨_, key b off n _ k q hq.1 hq.2, .ptr _ _⟩
    · cases hv
  · cases hv

theorem indexAt_array {t e : TypeId} {len : Nat} {j : TypeInfo} (h : P.underlying t = some (.array len e)) (hj : P.info? e = some j) {x i v : AV} {X I : Value} (hx : Rel S w x X) (hi : Rel S w i I)
    (hv : xaaddr len j.size x i = some v) : ∃ V, (Instr.indexAt t X I).run P w = .ok V w ∧ Rel S w v V := by
  have key : ∀ (b o : Nat) (k : IntKind) (q : Int), 0 ≤ q → q < (len : Int) →
      (Instr.indexAt t (.pointer (some ⟨b, o, none⟩)) (.int k q)).run P w = .ok (.pointer (some ⟨b, o + q.toNat * j.size, none⟩)) w := by
    intro b o k q h0 h1
    simp only [Instr.indexAt, Sem.run_bind, asIntOf, Sem.run_pure, Result.andThen_ok, run_under h, Instr.sureAddr, and_self, h0, h1, if_true, run_size hj, add_mk]
  unfold xaaddr at hv
  split at hv
  · rename_i b o k q
    have := hi.int_inv; subst this
    split at hv
    · rename_i hq
      cases hv; cases hx
      exact ⟨_, key b o k q hq.1 hq.2, .ptr _ _⟩
    · cases hv
  · rename_i cs k q
    have := hi.int_inv; subst this
    split at hv
    · rename_i hq
      cases hv
      obtain ⟨vs, b, o, rfl, hi', hr⟩ := hx.ref_inv
      exact ⟨_, key b o k q hq.1 hq.2, ref_part hi' hr _ _⟩
    · cases hv
  · cases hv

theorem index_array {t e : TypeId} {len : Nat} {d : TypeDesc} {j : TypeInfo} (h : P.underlying t = some (.array len e)) (hd : P.underlying e = some d) (hj : P.info? e = some j) {x i v : AV} {X I : Value}
    (hx : Rel S w x X) (hi : Rel S w i I) (hv : xaindex (agD d) len j.size x i = some v) : ∃ V, (Instr.index t X I).run P w = .ok V w ∧ Rel S w v V := by
  unfold xaindex at hv
  split at hv
  · rename_i cs k q
    have := hi.int_inv; subst this
    obtain ⟨vs, rfl, hr⟩ := hx.agg_inv
    split at hv
    · rename_i hq
      simp only [Instr.index, Sem.run_bind, asIntOf, Sem.run_pure, Result.andThen_ok, run_under h, hq.1, hq.2, and_self, if_true, run_size hj]
      rcases getCells_rel hr hv with ⟨h1, h2, h3⟩ | ⟨h1, u, h2, h3⟩
      · exact ⟨_, run_part hd hj w _ (.inl ⟨h1, rfl⟩), h3⟩
      · exact ⟨u, run_part hd hj w _ (.inr ⟨h1, h2⟩), h3⟩
    · cases hv
  · cases hv

theorem index_string {t : TypeId} (h : P.underlying t = some .string) {x i v : AV} {X I : Value}
    (hx : Rel S w x X) (hi : Rel S w i I) (hv : xsindex x i = some v) : ∃ V, (Instr.index t X I).run P w = .ok V w ∧ Rel S w v V := by
  unfold xsindex at hv
  split at hv
  · rename_i s k q
    have := hi.int_inv; subst this
    have := hx.str_inv; subst this
    split at hv
    · rename_i hq
      simp only [Option.map_eq_some_iff] at hv
      obtain ⟨y, hy, rfl⟩ := hv
      refine ⟨.int .u8 y.toNat, ?_, .int _ _⟩
      have hs : s[q.toNat]? = some y := by
        have hlt : q.toNat < s.data.toList.length := by
          rcases Nat.lt_or_ge q.toNat s.data.toList.length with hh | hh
          · exact hh
          · rw [List.getElem?_eq_none hh] at hy; cases hy
        rw [List.getElem?_eq_getElem hlt] at hy
        have hlt' : q.toNat < s.size := by rw [Array.length_toList] at hlt; exact hlt
        rw [getElem?_pos s q.toNat hlt']
        rw [Option.some.injEq] at hy
        rw [← hy]
        rfl
      simp only [Instr.index, Sem.run_bind, asIntOf, Sem.run_pure, Result.andThen_ok, run_under h, hq, if_true]
      rw [hs]; rfl
    · cases hv
  · cases hv

/-! Slices of slices. -/
theorem run_bound {k : IntKind} {q : Int} {y : Nat} {code : BoundsCode} (h0 : 0 ≤ q) (h1 : q ≤ (y : Int)) (w : World) : (Instr.sliceBound (.int k q) y code).run P w = .ok q.toNat w := by
  simp only [Instr.sliceBound, Sem.run_bind, asIntOf, Sem.run_pure, Result.andThen_ok, h0, h1, and_self, if_true]

theorem xbound_rel {d : Nat} {x : Option AV} {X : Option Value} {l : Int} (h : ∀ a, x = some a → ∃ A, X = some A ∧ Rel S w a A) (hn : x = none → X = none) (hl : xbound d x = some l) :
    (X = none ∧ l = d) ∨ ∃ k, X = some (.int k l) := by
  cases x with
  | none => simp [xbound] at hl; exact .inl ⟨hn rfl, hl.symm⟩
  | some a =>
    obtain ⟨A, h1, h2⟩ := h a rfl
    cases a <;> simp [xbound] at hl
    rename_i k n
    subst hl
    exact .inr ⟨k, by rw [h1, h2.int_inv]⟩

theorem run_bounds2 {b : Bool} {len cap : Nat} {lo hi : Option Value} {l h : Int} (hl : (lo = none ∧ l = 0) ∨ ∃ k, lo = some (.int k l)) (hh : (hi = none ∧ h = len) ∨ ∃ k, hi = some (.int k h))
    (h0 : 0 ≤ l) (h1 : l ≤ h) (h2 : h ≤ (cap : Int)) (w : World) : (Instr.sliceBounds b len cap lo hi none).run P w = .ok (l.toNat, h.toNat, cap) w := by
  have r1 : ∀ k c, (Instr.sliceBound (.int k l) h.toNat c).run P w = .ok l.toNat w := fun k c => run_bound h0 (by omega) w
  have r2 : ∀ k c, (Instr.sliceBound (.int k h) cap c).run P w = .ok h.toNat w := fun k c => run_bound (by omega) h2 w
  rcases hl with ⟨rfl, hl⟩ | ⟨k, rfl⟩ <;> rcases hh with ⟨rfl, hh⟩ | ⟨k', rfl⟩
  · subst hl hh; rfl
  · simp only [Instr.sliceBounds, Sem.run_bind, Sem.run_pure, Result.andThen_ok, r2]; rw [hl]; rfl
  · have e : h.toNat = len := by omega
    rw [e] at r1
    simp only [Instr.sliceBounds, Sem.run_bind, Sem.run_pure, Result.andThen_ok, r1, e]
  · simp only [Instr.sliceBounds, Sem.run_bind, Sem.run_pure, Result.andThen_ok, r1, r2]
theorem run_bounds3 {len cap : Nat} {lo hi mx : Option Value} {l h m : Int} (hl : (lo = none ∧ l = 0) ∨ ∃ k, lo = some (.int k l)) (hh : ∃ k, hi = some (.int k h)) (hm : ∃ k, mx = some (.int k m))
    (h0 : 0 ≤ l) (h1 : l ≤ h) (h2 : h ≤ m) (h3 : m ≤ (cap : Int)) (w : World) : (Instr.sliceBounds true len cap lo hi mx).run P w = .ok (l.toNat, h.toNat, m.toNat) w := by
  have r1 : ∀ k c, (Instr.sliceBound (.int k l) h.toNat c).run P w = .ok l.toNat w := fun k c => run_bound h0 (by omega) w
  have r2 : ∀ k c, (Instr.sliceBound (.int k h) m.toNat c).run P w = .ok h.toNat w := fun k c => run_bound (by omega) (by omega) w
  have r3 : ∀ k c, (Instr.sliceBound (.int k m) cap c).run P w = .ok m.toNat w := fun k c => run_bound (by omega) h3 w
  obtain ⟨k', rfl⟩ := hh
  obtain ⟨k'', rfl⟩ := hm
  rcases hl with ⟨rfl, hl⟩ | ⟨k, rfl⟩
  · simp only [Instr.sliceBounds, Sem.run_bind, Sem.run_pure, Result.andThen_ok, r2, r3]; rw [hl]; rfl
  · simp only [Instr.sliceBounds, Sem.run_bind, Sem.run_pure, Result.andThen_ok, r1, r2, r3]

theorem sslice_sound {t : TypeId} (h : P.underlying t = some .string) {x v : AV} {X : Value} {lo hi : Option AV} {LO HI : Option Value} (hx : Rel S w x X)
    (hlo : ∀ a, lo = some a → ∃ A, LO = some A ∧ Rel S w a A) (hlo' : lo = none → LO = none) (hhi : ∀ a, hi = some a → ∃ A, HI = some A ∧ Rel S w a A) (hhi' : hi = none → HI = none)
    (hv : xsslice x lo hi = some v) : ∃ V, (Instr.sliceAt t X LO HI none).run P w = .ok V w ∧ Rel S w v V := by
  unfold xsslice at hv
  split at hv
  · rename_i s
    have := hx.str_inv; subst this
    split at hv
    · rename_i l hh' e1 e2
      split at hv
      · rename_i hb
        cases hv
        refine ⟨_, ?_, .str _⟩
        simp only [Instr.sliceAt, Instr.slice, Sem.run_bind, run_under h, Result.andThen_ok, Option.isSome_none, Bool.false_eq_true, if_false, Sem.run_pure,
          run_bounds2 (P := P) (xbound_rel hlo hlo' e1) (xbound_rel hhi hhi' e2) hb.1 hb.2.1 hb.2.2 w]
      · cases hv
    · cases hv
  · cases hv

theorem slice_sound {t e : TypeId} {j : TypeInfo} (h : P.underlying t = some (.slice e)) (hj : P.info? e = some j) {x v : AV} {X : Value} {lo hi mx : Option AV} {LO HI MX : Option Value} (hx : Rel S w x X)
    (hlo : ∀ a, lo = some a → ∃ A, LO = some A ∧ Rel S w a A) (hlo' : lo = none → LO = none) (hhi : ∀ a, hi = some a → ∃ A, HI = some A ∧ Rel S w a A) (hhi' : hi = none → HI = none)
    (hmx : ∀ a, mx = some a → ∃ A, MX = some A ∧ Rel S w a A) (hmx' : mx = none → MX = none)
    (hv : xslice j.size x lo hi mx = some v) : ∃ V, (Instr.sliceAt t X LO HI MX).run P w = .ok V w ∧ Rel S w v V := by
  unfold xslice at hv
  split at hv
  · rename_i cs n own
    split at hv
    · rename_i l hh e1 e2
      have b1 := xbound_rel hlo hlo' e1
      have b2 := xbound_rel hhi hhi' e2
      split at hv
      · rename_i hb
        have part : ∀ (own' : Own) (b o : Nat) (vs : List Value) (c m : Nat), (∀ (i : Nat) v, vs[i]? = some v → Imm S w b (o + i) v) → RelL S w cs vs → hh.toNat - l.toNat ≤ m - l.toNat →
            l.toNat ≤ m → OwnOk w own' b (if m = l.toNat then o else o + l.toNat * j.size) (hh.toNat - l.toNat) (m - l.toNat) ((cs.drop (l.toNat * j.size)).take ((hh.toNat - l.toNat) * j.size)).length →
            Rel S w (.slice ((cs.drop (l.toNat * j.size)).take ((hh.toNat - l.toNat) * j.size)) (hh.toNat - l.toNat) own')
              (.slice (if m = l.toNat then (some ⟨b, o, none⟩) else (some ⟨b, o + l.toNat * j.size, none⟩)) (hh.toNat - l.toNat) (m - l.toNat)) := by
          intro own' b o vs c m hi' hr hle hlm ho
          have hr' := (hr.drop (l.toNat * j.size)).take ((hh.toNat - l.toNat) * j.size)
          by_cases hm : m = l.toNat
          · simp only [hm, if_true] at ho ⊢
            have hz : hh.toNat - l.toNat = 0 := by omega
            simp only [hz, Nat.zero_mul, List.take_zero, Nat.sub_self] at ho ⊢
            exact .slice [] [] _ _ _ _ _ (fun i v h => by simp at h) rfl (fun i a v h => by simp at h) (Nat.le_refl _) ho
          · simp only [hm, if_false] at ho ⊢
            refine .slice _ ((vs.drop (l.toNat * j.size)).take ((hh.toNat - l.toNat) * j.size)) _ _ _ _ _ (fun i u hu => ?_) hr'.len hr'.rel hle ho
            rw [List.getElem?_take] at hu
            split at hu
            · have := hi' (l.toNat * j.size + i) u (by simpa using hu)
              rw [← Nat.add_assoc] at this; exact this
            · cases hu
        rcases hx.slice_inv with ⟨rfl, rfl, rfl, rfl⟩ | ⟨ad, rfl, rfl, how, rfl⟩ | ⟨vs, b, o, cap, rfl, hi', hr, hn, ho⟩
        · have hl0 : l = 0 := by omega
          have hh0 : hh = 0 := by omega
          subst hl0 hh0
          cases mx with
          | none =>
            simp only [if_true, Option.some.injEq] at hv
            subst hv
            have := hmx' rfl; subst this
            refine ⟨.slice none 0 0, ?_, .snil⟩
            simp only [Instr.sliceAt, Instr.slice, Sem.run_bind, run_under h, Result.andThen_ok, run_bounds2 (P := P) b1 b2 (Int.le_refl 0) (Int.le_refl 0) (by simp) w, run_size hj, Sem.run_pure]
            rfl
          | some mv =>
            obtain ⟨M, rfl, hM⟩ := hmx mv rfl
            cases mv <;> simp only [reduceCtorEq] at hv
            rename_i k m
            have := hM.int_inv; subst this
            simp only [if_true] at hv
            split at hv
            · rename_i hm
              obtain ⟨hm3, hm⟩ := hm
              simp only [Option.some.injEq] at hv
              subst hv
              have hm0 : m = 0 := by omega
              subst hm0
              have b2' : ∃ k, HI = some (.int k 0) := b2.resolve_left (fun hc => by
                cases hhi'' : hi with
                | none => rw [hhi''] at hm3; cases hm3
                | some y => obtain ⟨A, hA, _⟩ := hhi y hhi''; rw [hc.1] at hA; cases hA)
              refine ⟨.slice none 0 0, ?_, .snil⟩
              simp only [Instr.sliceAt, Instr.slice, Sem.run_bind, run_under h, Result.andThen_ok, run_bounds3 (P := P) (len := 0) (cap := 0) b1 b2' ⟨k, rfl⟩ (Int.le_refl 0) (Int.le_refl 0) (Int.le_refl 0) (by simp) w, run_size hj, Sem.run_pure]
              rfl
            · cases hv
        · have hl0 : l = 0 := by omega
          have hh0 : hh = 0 := by omega
          subst hl0 hh0
          have hnn : own ≠ .nil := by rcases how with rfl | rfl <;> simp
          simp only [hnn, if_false] at hv
          cases mx with
          | none =>
            simp only [Option.some.injEq] at hv
            subst hv
            have := hmx' rfl; subst this
            refine ⟨.slice (some ad) 0 0, ?_, by simpa using (Rel.semp ad (ownSub j.size own 0 0 none) (by rcases how with rfl | rfl; exact .inl rfl; exact .inr rfl) : Rel S w (.slice [] 0 _) _)⟩
            simp only [Instr.sliceAt, Instr.slice, Sem.run_bind, run_under h, Result.andThen_ok, run_bounds2 (P := P) b1 b2 (Int.le_refl 0) (Int.le_refl 0) (by simp) w, run_size hj, Sem.run_pure]
            rfl
          | some mv =>
            obtain ⟨M, rfl, hM⟩ := hmx mv rfl
            cases mv <;> simp only [reduceCtorEq] at hv
            rename_i k m
            have := hM.int_inv; subst this
            split at hv
            · rename_i hm
              obtain ⟨hm3, hm⟩ := hm
              simp only [Option.some.injEq] at hv
              subst hv
              have hm0 : m = 0 := by omega
              subst hm0
              have b2' : ∃ k, HI = some (.int k 0) := b2.resolve_left (fun hc => by
                cases hhi'' : hi with
                | none => rw [hhi''] at hm3; cases hm3
                | some y => obtain ⟨A, hA, _⟩ := hhi y hhi''; rw [hc.1] at hA; cases hA)
              refine ⟨.slice (some ad) 0 0, ?_, by simpa using (Rel.semp ad (ownSub j.size own 0 0 (some 0)) (.inr rfl) : Rel S w (.slice [] 0 _) _)⟩
              simp only [Instr.sliceAt, Instr.slice, Sem.run_bind, run_under h, Result.andThen_ok, run_bounds3 (P := P) (len := 0) (cap := 0) b1 b2' ⟨k, rfl⟩ (Int.le_refl 0) (Int.le_refl 0) (Int.le_refl 0) (by simp) w, run_size hj, Sem.run_pure]
              rfl
            · cases hv
        · have hnn : own ≠ .nil := by rintro rfl; exact ho
          simp only [hnn, if_false] at hv
          cases mx with
          | none =>
            have := hmx' rfl; subst this
            simp only [Option.some.injEq] at hv
            subst hv
            refine ⟨_, ?_, part _ b o vs n cap hi' hr (by omega) (by omega) ?_⟩
            · simp only [Instr.sliceAt, Instr.slice, Sem.run_bind, run_under h, Result.andThen_ok, run_bounds2 (P := P) b1 b2 hb.1 hb.2.1 (show hh ≤ (cap : Int) by omega) w, run_size hj, Sem.run_pure, Option.map_some, add_mk]
            · unfold ownSub
              dsimp only
              split
              · rename_i hhn
                cases own with
                | nil => exact absurd rfl hnn
                | ro => trivial
                | full => simp only [OwnOk] at ho ⊢; omega
                | tok b' hw sz =>
                  obtain ⟨h1, h2⟩ := ho
                  dsimp only
                  split
                  · rename_i hs
                    subst hs
                    have hc2 : hh.toNat = n := hhn
                    have hle2 : l.toNat ≤ n := by omega
                    refine ⟨?_, ?_⟩
                    · simp only [List.length_take, List.length_drop, h1, hc2, ← Nat.sub_mul]; omega
                    · rcases h2 with h2 | ⟨h2, h3, e', N, h4, h5⟩
                      · exact .inl (by omega)
                      · by_cases hcl : cap = l.toNat
                        · exact .inl (by omega)
                        · refine .inr ⟨h2, ?_, e', N, h4, ?_⟩
                          · simp only [hcl, if_false, List.length_take, List.length_drop, h1, hc2, ← Nat.sub_mul, Nat.min_self]
                            have : l.toNat * j.size ≤ n * j.size := Nat.mul_le_mul_right _ hle2
                            rw [Nat.sub_mul]; omega
                          · simp only [hcl, if_false]
                            have : l.toNat * j.size ≤ cap * j.size := Nat.mul_le_mul_right _ (by omega)
                            rw [Nat.sub_mul]; omega
                  · trivial
              · trivial
          | some mv =>
            obtain ⟨M, rfl, hM⟩ := hmx mv rfl
            cases mv <;> simp only [reduceCtorEq] at hv
            rename_i k m
            have := hM.int_inv; subst this
            split at hv
            · rename_i hm
              obtain ⟨hm3, hm⟩ := hm
              simp only [Option.some.injEq] at hv
              subst hv
              have b2' : ∃ k, HI = some (.int k hh) := b2.resolve_left (fun hc => by
                cases hhi'' : hi with
                | none => rw [hhi''] at hm3; cases hm3
                | some y => obtain ⟨A, hA, _⟩ := hhi y hhi''; rw [hc.1] at hA; cases hA)
              refine ⟨_, ?_, part _ b o vs m.toNat m.toNat hi' hr (by omega) (by omega) ?_⟩
              · simp only [Instr.sliceAt, Instr.slice, Sem.run_bind, run_under h, Result.andThen_ok, run_bounds3 (P := P) (len := n) (cap := cap) b1 b2' ⟨k, rfl⟩ hb.1 hb.2.1 hm.1 (by omega) w, run_size hj, Sem.run_pure, Option.map_some, add_mk]
              · unfold ownSub
                dsimp only
                split
                · simp only [OwnOk]; omega
                · trivial
            · cases hv
      · cases hv
    · cases hv
  · rename_i b off n cap s
    split at hv
    · rename_i l hh e1 e2
      have b1 := xbound_rel hlo hlo' e1
      have b2 := xbound_rel hhi hhi' e2
      split at hv
      · rename_i hb
        obtain ⟨h0, h1, h2, rfl⟩ := hb
        cases mx with
        | some _ => cases hv
        | none =>
          have := hmx' rfl; subst this
          simp only [Option.some.injEq] at hv
          subst hv
          cases hx
          refine ⟨.slice (some ⟨b, if cap = l.toNat then off else off + l.toNat * j.size, none⟩) (hh.toNat - l.toNat) (cap - l.toNat), ?_, .msl _ _ _ _ _ (by omega)⟩
          simp only [Instr.sliceAt, Instr.slice, Sem.run_bind, run_under h, Result.andThen_ok, run_bounds2 (P := P) b1 b2 h0 h1 h2 w, run_size hj, Sem.run_pure, Option.map_some, add_mk]
          by_cases hc : cap = l.toNat <;> simp [hc]
      · cases hv
    · cases hv
  · cases hv
end
end Go.AM
/-
  OPERATORS, CONVERSIONS, AGGREGATES, LOOK-UPS; and all value operations together.
-/
namespace Go.AM
section
variable {P : Program} {S : St} {w : World}

theorem intbits_run {op : BinOp} {k : IntKind} {a b : Int} {v : AV} (h : xintbits op k a b = some v) : ∃ V, (Op.intBits op k a b).run P w = .ok V w ∧ Rel S w v V := by
  unfold xintbits at h
  cases op <;> simp only [Option.some.injEq, reduceCtorEq] at h <;> subst h <;> exact ⟨_, rfl, .int _ _⟩

theorem xbini_run {t : TypeId} {op : BinOp} {x y v : AV} {X Y : Value} (hx : Rel S w x X) (hy : Rel S w y Y) (hv : xbini op x y = some v) : ∃ V, (binOp op t X Y).run P w = .ok V w ∧ Rel S w v V := by
  unfold xbini at hv
  split at hv
  · rename_i k a k' b
    have := hx.int_inv; subst this
    have := hy.int_inv; subst this
    have sh : ∀ op, (op = .shl ∨ op = .shr) → xint op k a b = some v → ∃ V, (binOp op t (.int k a) (.int k' b)).run P w = .ok V w ∧ Rel S w v V := by
      rintro op (rfl | rfl) h
      · simp only [xint] at h
        split at h
        · cases h
        · rename_i hb
          cases h
          refine ⟨.int k _, ?_, .int _ _⟩
          simp [binOp, Op.shift, hb]
      · simp only [xint] at h
        split at h
        · cases h
        · rename_i hb
          cases h
          refine ⟨.int k _, ?_, .int _ _⟩
          simp [binOp, Op.shift, hb]
    cases op <;> dsimp only at hv
    case shl => exact sh _ (.inl rfl) hv
    case shr => exact sh _ (.inr rfl) hv
    all_goals
      split at hv
      case isFalse => cases hv
      rename_i hk
      subst hk
      simp only [xint] at hv
      first
        | (simp only [Option.some.injEq] at hv; subst hv; refine ⟨_, ?_, by constructor⟩; simp [binOp, Op.intArith, Op.intCmp]; done)
        | (split at hv; · cases hv
           rename_i hz
           simp only [Option.some.injEq] at hv; subst hv; refine ⟨_, ?_, by constructor⟩; simp [binOp, Op.intDiv, hz]; done)
        | (obtain ⟨V, h1, h2⟩ := intbits_run (P := P) (S := S) (w := w) hv; exact ⟨V, by simpa [binOp] using h1, h2⟩)
  · cases hv
theorem xbins_run {t : TypeId} {op : BinOp} {x y v : AV} {X Y : Value} (hx : Rel S w x X) (hy : Rel S w y Y) (hv : xbins op x y = some v) : ∃ V, (binOp op t X Y).run P w = .ok V w ∧ Rel S w v V := by
  unfold xbins at hv
  split at hv
  · rename_i a b
    have := hx.str_inv; subst this
    have := hy.str_inv; subst this
    cases op <;> simp only [xstr, reduceCtorEq] at hv
    · split at hv
      · rename_i hl
        cases hv
        refine ⟨_, ?_, .str _⟩
        have hn : ¬ ((9223372036854775807 : Int) < ((a.size + b.size : Nat) : Int)) := by omega
        simp only [binOp, Op.stringOp, IntKind.max_i64, gt_iff_lt, hn, if_false, Sem.run_pure]
      · cases hv
    · cases hv
      exact ⟨_, by simp [binOp, Op.stringOp, ByteArray.toList_eq], .bool _⟩
    · cases hv
      exact ⟨_, by simp [binOp, Op.stringOp, ByteArray.toList_eq], .bool _⟩
  · cases hv
theorem xbinb_run {t : TypeId} (h : P.underlying t = some .bool) {op : BinOp} {x y v : AV} {X Y : Value} (hx : Rel S w x X) (hy : Rel S w y Y) (hv : xbinb op x y = some v) : ∃ V, (binOp op t X Y).run P w = .ok V w ∧ Rel S w v V := by
  unfold xbinb at hv
  split at hv
  · rename_i a b
    have := hx.bool_inv; subst this
    have := hy.bool_inv; subst this
    cases op <;> simp only [reduceCtorEq] at hv
    · cases hv
      exact ⟨_, by simp only [binOp, Sem.run_bind, run_equal_bool w t a b h, Result.andThen_ok, Sem.run_pure], .bool _⟩
    · cases hv
      exact ⟨_, by simp only [binOp, Sem.run_bind, run_equal_bool w t a b h, Result.andThen_ok, Sem.run_pure], .bool _⟩
  · cases hv

theorem eqn_ptr {t e : TypeId} (h : P.underlying t = some (.pointer e)) (n : Nat) (p : Option Addr) :
    (Op.equalIn (n + 1) t (.pointer p) (.pointer none)).run P w = .ok p.isNone w ∧ (Op.equalIn (n + 1) t (.pointer none) (.pointer p)).run P w = .ok p.isNone w := by
  cases p <;> simp [Op.equalIn, run_under h]
theorem eqn_slice {t e : TypeId} (h : P.underlying t = some (.slice e)) (n : Nat) (p : Option Addr) (l c : Nat) :
    (Op.equalIn (n + 1) t (.slice p l c) (.slice none 0 0)).run P w = .ok p.isNone w ∧ (Op.equalIn (n + 1) t (.slice none 0 0) (.slice p l c)).run P w = .ok p.isNone w := by
  cases p <;> simp [Op.equalIn, run_under h]
theorem eqn_map {t k e : TypeId} (h : P.underlying t = some (.map k e)) (n : Nat) (p : Option Nat) :
    (Op.equalIn (n + 1) t (.map p) (.map none)).run P w = .ok p.isNone w ∧ (Op.equalIn (n + 1) t (.map none) (.map p)).run P w = .ok p.isNone w := by
  cases p <;> simp [Op.equalIn, run_under h]
theorem eqn_func {t : TypeId} {p r : Array TypeId} {v : Bool} (h : P.underlying t = some (.func p r v)) (n : Nat) (fn : Fn) (f c : Array Value) :
    (Op.equalIn (n + 1) t (.func fn f c) .nilFunc).run P w = .ok false w ∧ (Op.equalIn (n + 1) t .nilFunc (.func fn f c)).run P w = .ok false w ∧ (Op.equalIn (n + 1) t .nilFunc .nilFunc).run P w = .ok true w := by
  simp [Op.equalIn, run_under h]
theorem eqn_iface {t : TypeId} {m : Array (String × TypeId)} (h : P.underlying t = some (.interface m)) (n : Nat) (d : TypeId) (v : Value) :
    (Op.equalIn (n + 1) t (.iface d v) .nilIface).run P w = .ok false w ∧ (Op.equalIn (n + 1) t .nilIface (.iface d v)).run P w = .ok false w ∧ (Op.equalIn (n + 1) t .nilIface .nilIface).run P w = .ok true w := by
  simp [Op.equalIn, run_under h]

theorem xnilp_rel {x : AV} {X : Value} (hx : Rel S w x X) {b : Bool} (hb : xnilp x = some b) : ∃ p, X = .pointer p ∧ p.isNone = b := by
  cases x <;> simp only [xnilp, reduceCtorEq, Option.some.injEq] at hb
  · subst hb; cases hx <;> exact ⟨_, rfl, rfl⟩
  · subst hb; cases hx; exact ⟨_, rfl, rfl⟩
theorem ownOk_beq {own : Own} {b o n cap len : Nat} {a : Addr} (ho : OwnOk w own b o n cap len) : (some a).isNone = (own == .nil) := by
  cases own <;> first | exact ho.elim | rfl
theorem xnils_rel {x : AV} {X : Value} (hx : Rel S w x X) {b : Bool} (hb : xnils x = some b) : ∃ p l c, X = .slice p l c ∧ p.isNone = b := by
  cases x <;> simp only [xnils, reduceCtorEq, Option.some.injEq] at hb
  · subst hb
    cases hx with
    | snil => exact ⟨_, _, _, rfl, rfl⟩
    | semp a own h => exact ⟨_, _, _, rfl, by rcases h with rfl | rfl <;> rfl⟩
    | slice _ _ _ _ _ _ _ _ _ _ _ ho => exact ⟨_, _, _, rfl, ownOk_beq ho⟩
  · subst hb; cases hx <;> exact ⟨_, _, _, rfl, rfl⟩

/-- What is held against nil. -/
theorem equal_nil {t : TypeId} {d : TypeDesc} (h : P.underlying t = some d) {c : Value} (hc : isNilConst d (.const c) = true) {x : AV} {X : Value} (hx : Rel S w x X) {b : Bool} (hb : xnil d x = some b) :
    (Op.equal t X c).run P w = .ok b w ∧ (Op.equal t c X).run P w = .ok b w := by
  have key : ∀ n, (Op.equalIn (n + 1) t X c).run P w = .ok b w ∧ (Op.equalIn (n + 1) t c X).run P w = .ok b w := by
    intro n
    cases d <;> simp only [xnil, reduceCtorEq] at hb
    · have : c = .pointer none := by unfold isNilConst at hc; split at hc <;> simp_all
      subst this
      obtain ⟨p, rfl, rfl⟩ := xnilp_rel hx hb; exact eqn_ptr h n p
    · have : c = .slice none 0 0 := by unfold isNilConst at hc; split at hc <;> simp_all
      subst this
      obtain ⟨p, l, c, rfl, rfl⟩ := xnils_rel hx hb; exact eqn_slice h n p l c
    · have : c = .map none := by unfold isNilConst at hc; split at hc <;> simp_all
      subst this
      cases x <;> simp only [xnilm, reduceCtorEq, Option.some.injEq] at hb
      subst hb; cases hx; exact eqn_map h n _
    · have : c = .nilFunc := by unfold isNilConst at hc; split at hc <;> simp_all
      subst this
      cases x <;> simp only [xnilf, reduceCtorEq, Option.some.injEq] at hb
      · subst hb; cases hx; exact ⟨(eqn_func h n _ _ _).1, (eqn_func h n _ _ _).2.1⟩
      · subst hb; cases hx; exact ⟨(eqn_func h n (.func 0) #[] #[]).2.2, (eqn_func h n (.func 0) #[] #[]).2.2⟩
    · have : c = .nilIface := by unfold isNilConst at hc; split at hc <;> simp_all
      subst this
      cases x <;> simp only [xnili, reduceCtorEq, Option.some.injEq] at hb
      · subst hb; cases hx; exact ⟨(eqn_iface h n _ _).1, (eqn_iface h n _ _).2.1⟩
      · subst hb; cases hx; exact ⟨(eqn_iface h n 0 .nilIface).2.2, (eqn_iface h n 0 .nilIface).2.2⟩
  exact key 9999

theorem eqGuard_const {op : BinOp} {t : TypeId} {x y : Operand} {c A B : Value} (hc : x = .const c ∨ y = .const c) (h2 : ∀ u, A ≠ .agg u) : eqGuard op t x y A B = pure () := by
  cases op
  case eql => 
    rcases hc with rfl | rfl
    · cases A <;> cases B <;> first | rfl | exact absurd rfl (h2 _)
    · cases A <;> cases B <;> first | rfl | (cases x <;> rfl) | exact absurd rfl (h2 _)
  case neq => 
    rcases hc with rfl | rfl
    · cases A <;> cases B <;> first | rfl | exact absurd rfl (h2 _)
    · cases A <;> cases B <;> first | rfl | (cases x <;> rfl) | exact absurd rfl (h2 _)
  all_goals rfl

theorem isNil_notagg {d : TypeDesc} {c : Value} (hc : isNilConst d (.const c) = true) : ∀ u, c ≠ .agg u := by
  rintro u rfl; simp [isNilConst] at hc
theorem xnil_notagg {d : TypeDesc} {x : AV} {X : Value} (hx : Rel S w x X) {b : Bool} (hb : xnil d x = some b) : ∀ u, X ≠ .agg u := by
  rintro u rfl
  cases d <;> simp only [xnil, reduceCtorEq] at hb <;> cases hx <;> simp [xnilp, xnils, xnilm, xnilf, xnili] at hb

theorem isEq_cases {op : BinOp} (h : isEq op = true) : op = .eql ∨ op = .neq := by cases op <;> simp [isEq] at h <;> simp

theorem binOp_eq_run {t : TypeId} {op : BinOp} (ho : isEq op = true) {X Y : Value} {b : Bool} (h : (Op.equal t X Y).run P w = .ok b w)
    (hX : ∀ k n, X ≠ .int k n) (hX2 : ∀ k n, X ≠ .float k n) (hX3 : ∀ k n m, X ≠ .complex k n m) (hX4 : ∀ s, X ≠ .string s) : (binOp op t X Y).run P w = .ok (.bool (if isNeq op then !b else b)) w := by
  rcases isEq_cases ho with rfl | rfl
  · cases X <;> simp_all [binOp, isNeq]
  · cases X <;> simp_all [binOp, isNeq]

/-- An operator of the program. -/
theorem bin_sound {op : BinOp} {t yt : TypeId} {x y : Operand} {fr : Fr} {a : Act} (hf : RelL S w fr a.tmps.toList) {v : AV} (h : aval P fr S (.binOp op t x y yt) = some v) :
    ∃ V, ((do eqGuard op t x y (a.eval x) (a.eval y); binOp op t (a.eval x) (a.eval y)) : Sem Value).run P w = .ok V w ∧ Rel S w v V := by
  have hx := aeval_rel hf x
  have hy := aeval_rel hf y
  simp only [aval] at h
  split at h
  case h_2 => cases h
  rename_i d hd
  have eqcase : ∀ (c : Operand) (z : AV) (Z : Value), isEq op = true → isNilConst d c = true → Rel S w z Z → xisnil (isNeq op) (xnil d z) = some v →
      ∃ cv b, c = .const cv ∧ v = .bool (if isNeq op then !b else b) ∧ (Op.equal t Z cv).run P w = .ok b w ∧ (Op.equal t cv Z).run P w = .ok b w ∧ (∀ u, Z ≠ .agg u) ∧ (∀ u, cv ≠ .agg u) ∧
        (∀ k n, Z ≠ .int k n) ∧ (∀ k n, Z ≠ .float k n) ∧ (∀ k n m, Z ≠ .complex k n m) ∧ (∀ s, Z ≠ .string s) := by
    intro c z Z ho hc hz hv
    cases c <;> simp only [isNilConst, Bool.false_eq_true] at hc
    rename_i cv
    simp only [xisnil, Option.map_eq_some_iff] at hv
    obtain ⟨b, hb, rfl⟩ := hv
    obtain ⟨h1, h2⟩ := equal_nil hd hc hz hb
    refine ⟨cv, b, rfl, rfl, h1, h2, xnil_notagg hz hb, isNil_notagg hc, ?_, ?_, ?_, ?_⟩
    all_goals
      intros
      rintro rfl
      cases d <;> simp only [xnil, reduceCtorEq] at hb <;> cases hz <;> simp [xnilp, xnils, xnilm, xnilf, xnili] at hb
  split at h
  · rename_i hc
    simp only [Bool.and_eq_true] at hc
    obtain ⟨cv, b, rfl, rfl, h1, h2, h3, h4, h5, h6, h7, h8⟩ := eqcase y _ _ hc.1 hc.2 hx h
    refine ⟨_, ?_, .bool _⟩
    simp only [eqGuard_const (op := op) (t := t) (x := x) (B := a.eval (.const cv)) (.inr rfl) h3, Sem.run_bind, Sem.run_pure, Result.andThen_ok]
    exact binOp_eq_run hc.1 h1 h5 h6 h7 h8
  · split at h
    · rename_i hc
      simp only [Bool.and_eq_true] at hc
      obtain ⟨cv, b, rfl, rfl, h1, h2, h3, h4, h5, h6, h7, h8⟩ := eqcase x _ _ hc.1 hc.2 hy h
      refine ⟨_, ?_, .bool _⟩
      have h4' : ∀ u, a.eval (.const cv) ≠ .agg u := h4
      simp only [eqGuard_const (op := op) (t := t) (y := y) (B := a.eval y) (.inl rfl) h4', Sem.run_bind, Sem.run_pure, Result.andThen_ok]
      have hn : isNilConst d (.const cv) = true := hc.2
      refine binOp_eq_run hc.1 h2 ?_ ?_ ?_ ?_
      all_goals
        intros
        intro hh
        have hh' : cv = _ := hh
        subst hh'
        simp [isNilConst] at hn
    · have plain : (∃ V, (binOp op t (a.eval x) (a.eval y)).run P w = .ok V w ∧ Rel S w v V) → eqGuard op t x y (a.eval x) (a.eval y) = pure () →
          ∃ V, ((do eqGuard op t x y (a.eval x) (a.eval y); binOp op t (a.eval x) (a.eval y)) : Sem Value).run P w = .ok V w ∧ Rel S w v V := by
        rintro ⟨V, h1, h2⟩ hg
        exact ⟨V, by simp only [hg, Sem.run_bind, Sem.run_pure, Result.andThen_ok, h1], h2⟩
      split at h
      · refine plain (xbinb_run hd hx hy h) ?_
        generalize aeval fr x = xa at *
        cases xa <;> simp only [xbinb, reduceCtorEq] at h
        rw [hx.bool_inv]; cases op <;> rfl
      · refine plain (xbini_run hx hy h) ?_
        generalize aeval fr x = xa at *
        cases xa <;> simp only [xbini, reduceCtorEq] at h
        rw [hx.int_inv]; cases op <;> rfl
      · refine plain (xbins_run hx hy h) ?_
        generalize aeval fr x = xa at *
        cases xa <;> simp only [xbins, reduceCtorEq] at h
        rw [hx.str_inv]; cases op <;> rfl
      · cases h
end
end Go.AM
/-
  CONVERSIONS, AGGREGATES, LOOK-UPS; and all value operations together.
-/
namespace Go.AM
section
variable {P : Program} {S : St} {w : World}

theorem xun_run {op : UnOp} {x v : AV} {X : Value} (hx : Rel S w x X) (hv : xun op x = some v) : ∃ V, (Op.unary op X).run P w = .ok V w ∧ Rel S w v V := by
  unfold xun at hv
  split at hv
  · cases hv; rw [hx.bool_inv]; exact ⟨_, rfl, .bool _⟩
  · cases hv; rw [hx.int_inv]; exact ⟨_, rfl, .int _ _⟩
  · rw [hx.int_inv]; exact intbits_run hv
  · cases hv

theorem bytesOf_rel : ∀ {cs : List AV} {l : List UInt8} {vs : List Value}, bytesOf cs = some l → RelL S w cs vs → ∃ ns : List Int, vs = ns.map (Value.int .u8) ∧ ns.map (fun n => UInt8.ofNat n.toNat) = l
  | [], l, vs, h, hr => by
    simp only [bytesOf, Option.some.injEq] at h; subst h
    exact ⟨[], by rw [hr.nil_inv]; rfl, rfl⟩
  | a :: cs, l, vs, h, hr => by
    obtain ⟨v, vs', rfl, h1, h2⟩ := hr.cons_inv
    unfold bytesOf at h
    split at h
    · rename_i heq; simp at heq
    · rename_i n cs' heq
      simp only [List.cons.injEq] at heq
      obtain ⟨rfl, rfl⟩ := heq
      simp only [Option.map_eq_some_iff] at h
      obtain ⟨l', h3, rfl⟩ := h
      obtain ⟨ns, rfl, rfl⟩ := bytesOf_rel h3 h2
      exact ⟨n :: ns, by rw [h1.int_inv]; rfl, rfl⟩
    · cases h

theorem ofBytes_rel (l : List UInt8) : RelL S w (ofBytes l) (l.map fun b => Value.int .u8 b.toNat) := by
  induction l with
  | nil => exact .nil
  | cons b l ih => exact .cons (.int _ _) ih

theorem run_b2s {a : Addr} {len cap : Nat} {ns : List Int} (hl : ns.length = len) (hc : ∀ (j : Nat) v, (ns.map (Value.int .u8))[j]? = some v → w.cell? (a.add j) = some v) :
    (Conv.bytesToString (.slice (some a) len cap)).run P w = .ok (.string ⟨(ns.map fun n => UInt8.ofNat n.toNat).toArray⟩) w := by
  have := run_loadCells_list (P := P) w a (ns.map (Value.int .u8)) hc
  rw [List.length_map, hl] at this
  rw [run_bytesToString w a len cap ns this, foldl_push_bytes]
  congr 2
  show (⟨#[] ++ _⟩ : ByteArray) = _
  simp

theorem bytes2str_run {x v : AV} {X : Value} (hw : WR S w) (hx : Rel S w x X) (hv : xbytes2str x S = some v) : ∃ V, (Conv.bytesToString X).run P w = .ok V w ∧ Rel S w v V := by
  unfold xbytes2str at hv
  split at hv
  · rename_i cs n own
    split at hv
    · rename_i ho
      subst ho
      cases hv
      rcases hx.slice_inv with ⟨rfl, rfl, _, rfl⟩ | ⟨_, _, _, h3, _⟩ | ⟨vs, b, o, cap, rfl, hi, hr, hn, ho⟩
      · exact ⟨_, rfl, .str _⟩
      · rcases h3 with h3 | h3 <;> cases h3
      · exact ho.elim
    · rename_i ho
      split at hv
      case isFalse => cases hv
      rename_i hlen
      simp only [Option.map_eq_some_iff] at hv
      obtain ⟨l, h1, rfl⟩ := hv
      rcases hx.slice_inv with ⟨rfl, rfl, rfl, rfl⟩ | ⟨a, rfl, rfl, _, rfl⟩ | ⟨vs, b, o, cap, rfl, hi, hr, hn, ho⟩
      · exact absurd rfl ho
      · cases h1
        exact ⟨_, rfl, .str _⟩
      · obtain ⟨ns, rfl, rfl⟩ := bytesOf_rel h1 hr
        have hl := hr.len
        rw [List.length_map] at hl
        exact ⟨_, run_b2s (by omega) (fun j u hu => by rw [add_mk]; exact (hi j u hu).cell), .str _⟩
  · rename_i b off n cap sz
    split at hv
    · rename_i cs hb
      split at hv
      · rename_i hle
        simp only [Option.map_eq_some_iff] at hv
        obtain ⟨l, h1, rfl⟩ := hv
        obtain ⟨C, e, fz, h2, h3, h4⟩ := hw.cells (.inl hb)
        obtain ⟨ns, h5, rfl⟩ := bytesOf_rel h1 ((h4.drop off).take n)
        have hl : ns.length = n := by
          have := congrArg List.length h5
          simp at this; omega
        have hcell : ∀ (j : Nat) v, (ns.map (Value.int .u8))[j]? = some v → w.cell? (Addr.add ⟨b, off, none⟩ j) = some v := by
          intro j u hu
          rw [add_mk]
          rw [← h5, List.getElem?_take] at hu
          split at hu
          · exact cell_of h2 (by simpa using hu)
          · cases hu
        cases hx
        · exact ⟨_, run_b2s hl hcell, .str _⟩
        · exact ⟨_, run_b2s hl hcell, .str _⟩
      · cases hv
    · cases hv
  · cases hv

theorem s2b_sound (hw : WR S w) (e : TypeId) (s : ByteArray) : ∃ V w', (Conv.stringToBytes e s).run P w = .ok V w' ∧ Rel S w' (.slice (ofBytes s.data.toList) s.size .ro) V ∧ WR S w' ∧ Ext S w S w' := by
  generalize hcap : (Question.appendCap s.size 0 e).cut (w.tape w.drawn (.appendCap s.size 0 e)) = cap
  have hle : s.size ≤ cap := by rw [← hcap]; simp [Question.cut]
  let C : Array Value := (s.data.map fun b => Value.int .u8 b.toNat) ++ Array.replicate (cap - s.size) (.int .u8 0)
  have hC : C.size = cap := by
    have hs : s.data.size = s.size := rfl
    simp only [C, Array.size_append, Array.size_map, Array.size_replicate]; omega
  refine ⟨.slice (some ⟨w.heap.size, 0, none⟩) s.size cap, (w.drew.alloc (.cells C e)).freeze { block := w.heap.size, off := C.size } 1, ?_, ?_, ?_, ?_⟩
  · have h1 : (choose (.appendCap s.size 0 e)).run P w = .ok cap w.drew := by rw [run_choose, hcap]; rfl
    simp only [Conv.stringToBytes, Sem.run_bind, h1, Result.andThen_ok, newRow, run_newObj, Sem.run_pure, markStringish, run_shape]
    have h2 : World.shape? { w.drew with heap := w.drew.heap.push (.cells C e) } w.drew.heap.size = some (e, C.size) := by
      show (match (w.heap.push (.cells C e))[w.heap.size]? with | some (.cells c elem _) => some (elem, c.size) | _ => none) = _
      rw [Array.getElem?_push_size]
    simp only [C] at h2
    rw [h2]
    rfl
  all_goals
    have hfz : (w.drew.alloc (.cells C e)).freeze { block := w.heap.size, off := C.size } 1 = w.drew.alloc (.cells C e (C.size, C.size + 1)) := by
      have hh : ((w.heap.push (.cells C e)).modify w.heap.size fun
          | .cells c elem (lo, hi) => .cells c elem (if lo == hi then (C.size, C.size + 1) else (min lo C.size, max hi (C.size + 1)))
          | o => o) = w.heap.push (.cells C e (C.size, C.size + 1)) := by
        apply Array.ext_getElem?
        intro i
        rw [Array.getElem?_modify, Array.getElem?_push, Array.getElem?_push]
        by_cases hi : i = w.heap.size
        · subst hi; simp
        · simp [hi, Ne.symm hi]
      unfold World.freeze
      rw [if_neg (by decide)]
      show ({ w.drew with heap := (w.heap.push (.cells C e)).modify w.heap.size fun
          | .cells c elem (lo, hi) => .cells c elem (if lo == hi then (C.size, C.size + 1) else (min lo C.size, max hi (C.size + 1)))
          | o => o } : World) = _
      rw [hh]; rfl
    rw [hfz]
  · have hE : Ext S w S (w.drew.alloc (.cells C e (C.size, C.size + 1))) := (Ext.drew w).trans (.alloc _ (fun _ _ => rfl) (fun _ _ => rfl))
    have hr : RelL S (w.drew.alloc (.cells C e (C.size, C.size + 1))) (ofBytes s.data.toList) (s.data.toList.map fun b => Value.int .u8 b.toNat) := ofBytes_rel _
    refine .slice _ _ _ _ _ 0 _ (fun i v hv => ⟨hw.fresh.1, fun x hx => ?_, ?_⟩) hr.len hr.rel hle trivial
    · rw [hw.fresh.2] at hx; cases hx
    · have hblk : (w.drew.alloc (.cells C e (C.size, C.size + 1))).heap[w.heap.size]? = some (.cells C e (C.size, C.size + 1)) := heap_alloc_new w.drew _
      simp only [World.cell?, hblk, Option.isSome_none, Bool.false_eq_true, if_false, Nat.zero_add]
      have hi : i < s.data.size := by
        rcases Nat.lt_or_ge i s.data.size with h | h
        · exact h
        · rw [List.getElem?_eq_none (by simpa using h)] at hv; cases hv
      rw [Array.getElem?_append_left (by simpa using hi)]
      rw [← hv]
      simp
  · exact hw.drew.alloc _
  · exact (Ext.drew w).trans (.alloc _ (fun _ _ => rfl) (fun _ _ => rfl))

/-! Aggregates. -/
theorem setList_rel : ∀ {us : List AV} {vs : List Value} {cs : List AV} {ds : List Value} (o : Nat), RelL S w cs ds → RelL S w us vs →
    RelL S w (setList cs o us) (vs.zipIdx.foldl (fun cs (c, j) => cs.set (o + j) c) ds)
  | [], vs, cs, ds, o, h, hu => by rw [hu.nil_inv]; exact h
  | u :: us, vs, cs, ds, o, h, hu => by
    obtain ⟨v, vs', rfl, h1, h2⟩ := hu.cons_inv
    have := setList_rel (o + 1) (h.set o h1) h2
    simp only [setList, List.zipIdx_cons, List.foldl_cons, Nat.add_zero]
    rw [List.zipIdx_succ, List.foldl_map]
    simpa [Nat.add_assoc, Nat.add_comm 1] using this
theorem setList_length (us : List AV) : ∀ (cs : List AV) (o : Nat), (setList cs o us).length = cs.length := by
  induction us with
  | nil => intros; rfl
  | cons u us ih => intro cs o; simp [setList, ih]

theorem foldl_sets : ∀ (l : List (Value × Nat)) (a : Array Value) (o : Nat), (l.foldl (fun cs (x : Value × Nat) => cs.setIfInBounds (o + x.2) x.1) a).toList = l.foldl (fun cs (x : Value × Nat) => cs.set (o + x.2) x.1) a.toList
  | [], a, o => rfl
  | x :: l, a, o => by simp only [List.foldl_cons]; rw [foldl_sets l]; simp

theorem fill_rel {place : Nat → Option (Nat × Nat)} {fr : Fr} {a : Act} (hf : RelL S w fr a.tmps.toList) : ∀ {ps : List (Nat × Operand)} {qs : List (Nat × Nat × AV)} {cs cs' : List AV} {ds : Array Value},
    placed place fr ps = some qs → xfill cs qs = some cs' → RelL S w cs ds.toList → ∃ ds', Instr.fill place ds (ps.map fun (i, x) => (i, a.eval x)) = some ds' ∧ RelL S w cs' ds'.toList
  | [], qs, cs, cs', ds, hp, hx, hr => by
    simp only [placed, Option.some.injEq] at hp; subst hp
    simp only [xfill, Option.some.injEq] at hx; subst hx
    exact ⟨ds, rfl, hr⟩
  | (i, x) :: ps, qs, cs, cs', ds, hp, hx, hr => by
    simp only [placed] at hp
    split at hp
    case h_2 => cases hp
    rename_i o n r hpl hr2
    cases hp
    simp only [xfill] at hx
    split at hx
    case h_2 => cases hx
    rename_i us hus
    split at hx
    case isFalse => cases hx
    rename_i hb
    have hv := aeval_rel hf x
    have hcl := xcells_rel hus hv
    have hsz := cells_size hus hv
    have hl := hr.len
    simp only [Array.length_toList] at hl
    have h2 := setList_rel o hr hcl
    have e : (a.eval x).cells.zipIdx.foldl (fun cs (c, j) => cs.setIfInBounds (o + j) c) ds = ((a.eval x).cells.zipIdx.toList.foldl (fun cs (x : Value × Nat) => cs.setIfInBounds (o + x.2) x.1) ds) := by
      rw [← Array.foldl_toList]
    obtain ⟨ds', h3, h4⟩ := fill_rel hf hr2 hx (ds := (a.eval x).cells.zipIdx.foldl (fun cs (c, j) => cs.setIfInBounds (o + j) c) ds) (by
      rw [e, foldl_sets]; simpa using h2)
    refine ⟨ds', ?_, h4⟩
    simp only [List.map_cons, Instr.fill, hpl]
    obtain ⟨hb1, hb2⟩ := hb
    rw [if_neg (by
      have e1 : decide ((a.eval x).cells.size ≠ n) = false := by simp [hsz, hb1]
      have e2 : decide (o + (a.eval x).cells.size > ds.size) = false := by rw [hsz]; simp; omega
      rw [e1, e2]; decide)]
    exact h3

end
end Go.AM
/-
  ALL VALUE OPERATIONS TOGETHER.
-/
namespace Go.AM
section
variable {P : Program} {S : St} {w : World}

theorem zc_zero {t : TypeId} {z : List AV} (h : zc P t = some z) : ∃ i v, P.info? t = some i ∧ i.zero = some v ∧ RelL S w z v.cells.toList := by
  unfold zc at h
  split at h
  · rename_i i hi
    split at h
    · rename_i v hv
      exact ⟨i, v, hi, hv, xcells_rel h (ofV_rel v)⟩
    · cases h
  · cases h

theorem run_mapM_places (fields : Array Field) (w : World) (hp : ∀ f ∈ fields.toList, ∃ j, P.info? f.type = some j) :
    (fields.mapM fun f => do pure (f.offset, ← sizeOf f.type) : Sem (Array (Nat × Nat))).run P w = .ok (fields.map fun f => (f.offset, ((P.info? f.type).map (·.size)).getD 0)) w := by
  obtain ⟨l⟩ := fields
  rw [List.mapM_toArray]
  have : (l.mapM fun f => do pure (f.offset, ← sizeOf f.type) : Sem (List (Nat × Nat))).run P w = .ok (l.map fun f => (f.offset, ((P.info? f.type).map (·.size)).getD 0)) w := by
    induction l with
    | nil => simp
    | cons f l ih =>
      obtain ⟨j, hj⟩ := hp f (by simp)
      have ih' := ih (fun g hg => hp g (by simpa using Or.inr hg))
      simp only [List.mapM_cons, Sem.run_bind, run_size hj, Result.andThen_ok, Sem.run_pure, ih', List.map_cons, hj, Option.map_some, Option.getD_some]
  rw [Sem.run_map, this]
  simp

theorem pick_run {c a b v : AV} {C A B : Value} (hc : Rel S w c C) (ha : Rel S w a A) (hb : Rel S w b B) (hv : xpick c a b = some v) :
    ∃ V, ((do pure (.value (if ← asBool C then A else B))) : Sem Next).run P w = .ok (.value V) w ∧ Rel S w v V := by
  unfold xpick at hv
  split at hv
  · rename_i t
    have := hc.bool_inv; subst this
    cases hv
    cases t
    · exact ⟨B, rfl, hb⟩
    · exact ⟨A, rfl, ha⟩
  · cases hv

theorem extract_run {t v : AV} {T : Value} {i : Nat} (ht : Rel S w t T) (hv : xextract t i = some v) : ∃ V, (Instr.extract T i).run P w = .ok V w ∧ Rel S w v V := by
  unfold xextract at hv
  split at hv
  · obtain ⟨vs, rfl, hr⟩ := ht.tuple_inv
    obtain ⟨u, h1, h2⟩ := hr.get hv
    refine ⟨u, ?_, h2⟩
    have : vs.toArray[i]? = some u := by simpa using h1
    simp only [Instr.extract, this]; rfl
  · cases hv

theorem slen_run {t : TypeId} (h : P.underlying t = some .string) {ty : TypeId} {x v : AV} {X : Value} (hx : Rel S w x X) (hv : xslen x = some v) : ∃ V, (Builtin.len_ #[t] ty #[X]).run P w = .ok V w ∧ Rel S w v V := by
  unfold xslen at hv
  split at hv
  · cases hv
    have := hx.str_inv; subst this
    exact ⟨_, by simp [Builtin.len_, run_under h, goInt], .int _ _⟩
  · cases hv
theorem len_run {t e : TypeId} (h : P.underlying t = some (.slice e)) {ty : TypeId} {x v : AV} {X : Value} (hx : Rel S w x X) (hv : xlen x = some v) : ∃ V, (Builtin.len_ #[t] ty #[X]).run P w = .ok V w ∧ Rel S w v V := by
  have hl : ∀ a n c, X = .slice a n c → (Builtin.len_ #[t] ty #[X]).run P w = .ok (.int .i64 n) w := by
    rintro a n c rfl
    simp [Builtin.len_, run_under h, goInt]
  unfold xlen at hv
  split at hv
  · cases hv
    rcases hx.slice_inv with ⟨rfl, rfl, rfl, rfl⟩ | ⟨a, rfl, rfl, _, rfl⟩ | ⟨vs, b, o, cap, rfl, _⟩
    · exact ⟨_, hl _ _ _ rfl, .int _ _⟩
    · exact ⟨_, hl _ _ _ rfl, .int _ _⟩
    · exact ⟨_, hl _ _ _ rfl, .int _ _⟩
  · cases hv
    cases hx
    · exact ⟨_, hl _ _ _ rfl, .int _ _⟩
    · exact ⟨_, hl _ _ _ rfl, .int _ _⟩
  · cases hv
theorem cap_run {t e : TypeId} (h : P.underlying t = some (.slice e)) {ty : TypeId} {x v : AV} {X : Value} (hx : Rel S w x X) (hv : xcap x = some v) : ∃ V, (Builtin.cap_ #[t] ty #[X]).run P w = .ok V w ∧ Rel S w v V := by
  have hl : ∀ a n c, X = .slice a n c → (Builtin.cap_ #[t] ty #[X]).run P w = .ok (.int .i64 c) w := by
    rintro a n c rfl
    simp [Builtin.cap_, run_under h, goInt]
  unfold xcap at hv
  split at hv
  · cases hv
    rcases hx.slice_inv with ⟨_, _, h3, _⟩ | ⟨_, rfl, rfl, h3, rfl⟩ | ⟨vs, b, o, cap, rfl, _, _, _, ho⟩
    · cases h3
    · exact ⟨_, hl _ _ _ rfl, .int _ _⟩
    · have : cap = _ := ho
      subst this
      exact ⟨_, hl _ _ _ rfl, .int _ _⟩
  · cases hv
    rcases hx.slice_inv with ⟨_, _, _, rfl⟩ | ⟨_, _, _, h3, _⟩ | ⟨vs, b, o, cap, rfl, _, _, _, ho⟩
    · exact ⟨_, hl _ _ _ rfl, .int _ _⟩
    · rcases h3 with h3 | h3 <;> cases h3
    · exact ho.elim
  · cases hv
    cases hx
    exact ⟨_, hl _ _ _ rfl, .int _ _⟩
  · cases hv

theorem mm_run {isMax : Bool} {x y v : AV} {X Y : Value} (hx : Rel S w x X) (hy : Rel S w y Y) (hv : xmm isMax x y = some v) : ∃ V, ((if isMax then Builtin.max2 else Builtin.min2) X Y).run P w = .ok V w ∧ Rel S w v V := by
  unfold xmm at hv
  split at hv
  · have h1 := hx.int_inv; have h2 := hy.int_inv; subst h1 h2
    split at hv
    · cases hv
      cases isMax <;> exact ⟨_, rfl, .int _ _⟩
    · cases hv
  · cases hv

/-! Maps. -/
theorem checkKey_simple {kt : TypeId} {kd : TypeDesc} (h : P.underlying kt = some kd) {st : Bool} (hk : keyT kd = some st) (e : Bool) (k : Value) (w : World) : (Instr.checkKey e 10000 kt k).run P w = .ok () w := by
  have key : ∀ n, (Instr.checkKey e (n + 1) kt k).run P w = .ok () w := by
    intro n
    simp only [Instr.checkKey, Sem.run_bind, run_under h, Result.andThen_ok]
    cases kd <;> simp [keyT] at hk <;> rfl
  exact key 9999

theorem keyEq_rel {st : Bool} {k k' : AV} {K K' : Value} {b : Bool} (h1 : Rel S w k K) (h2 : Rel S w k' K') (hb : keyEq st k k' = some b) {kd : TypeDesc} (hk : keyT kd = some st) : Instr.sameNow kd K K' = some b := by
  unfold keyEq at hb
  split at hb
  · rename_i a c
    have e1 := h1.str_inv; have e2 := h2.str_inv; subst e1 e2
    split at hb
    · rename_i hst
      subst hst
      cases hb
      cases kd <;> simp [keyT] at hk
      simp only [Instr.sameNow, beq_toListBytes, ByteArray.toList_eq]
    · cases hb
  · rename_i j n j' n'
    have e1 := h1.int_inv; have e2 := h2.int_inv; subst e1 e2
    split at hb
    · rename_i hj
      obtain ⟨hst, hj⟩ := hj
      subst hst
      cases hb
      cases kd <;> simp [keyT] at hk
      simp only [Instr.sameNow, hj, if_true]
    · cases hb
  · cases hb

theorem find_rel {st : Bool} {k : AV} {K : Value} (hk : Rel S w k K) {kd : TypeDesc} (hf : keyT kd = some st) : ∀ {es : List (AV × AV × Nat)} {E : List MapEntry} {i : Nat} {r : Option (Nat × AV)},
    EntRel S w es E → xfind st k es i = some r → ∃ R, Instr.findNow kd K E i = some R ∧ (match r, R with
      | none, none => True
      | some (j, v), some (j', V) => j = j' ∧ Rel S w v V ∧ i ≤ j ∧ j < i + es.length
      | _, _ => False)
  | [], E, i, r, he, hx => by
    simp only [xfind, Option.some.injEq] at hx; subst hx
    have := he.1; simp at this
    have : E = [] := List.eq_nil_of_length_eq_zero this.symm
    subst this
    exact ⟨none, rfl, trivial⟩
  | (k', v, n) :: es, [], i, r, he, hx => by have := he.1; simp at this
  | (k', v, n) :: es, e :: E, i, r, he, hx => by
    obtain ⟨h1, h2, h3⟩ := he.2 0 k' v n e rfl rfl
    have he' : EntRel S w es E := ⟨by have := he.1; simpa using this, fun j a b c d hx hy => he.2 (j + 1) a b c d (by simpa using hx) (by simpa using hy)⟩
    unfold xfind at hx
    split at hx
    · rename_i hb
      cases hx
      exact ⟨some (i, e.val), by simp only [Instr.findNow, keyEq_rel hk h1 hb hf], rfl, h2, Nat.le_refl _, by simp⟩
    · rename_i hb
      obtain ⟨R, h4, h5⟩ := find_rel hk hf he' hx
      refine ⟨R, by simp only [Instr.findNow, keyEq_rel hk h1 hb hf]; exact h4, ?_⟩
      cases r with
      | none => cases R with
        | none => trivial
        | some x => exact h5.elim
      | some x => cases R with
        | none => exact h5.elim
        | some y => obtain ⟨a, b⟩ := x; obtain ⟨c, d⟩ := y; obtain ⟨q1, q2, q3, q4⟩ := h5; exact ⟨q1, q2, by omega, by simp; omega⟩
    · cases hx

theorem find_run {st : Bool} {k : AV} {K : Value} (hk : Rel S w k K) {kt : TypeId} {kd : TypeDesc} (h : P.underlying kt = some kd) (hf : keyT kd = some st) {es : List (AV × AV × Nat)} {E : List MapEntry} {r : Option (Nat × AV)}
    (he : EntRel S w es E) (hx : xfind st k es 0 = some r) : ∃ R, (Instr.findKey kt K E).run P w = .ok R w ∧ (match r, R with
      | none, none => True
      | some (j, v), some (j', V) => j = j' ∧ Rel S w v V ∧ j < es.length
      | _, _ => False) := by
  obtain ⟨R, h1, h2⟩ := find_rel hk hf he hx
  refine ⟨R, by simp only [Instr.findKey, Sem.run_bind, run_under h, Result.andThen_ok, h1, Sem.run_pure], ?_⟩
  cases r with
  | none => cases R with
    | none => trivial
    | some x => exact h2.elim
  | some x => cases R with
    | none => exact h2.elim
    | some y => obtain ⟨a, b⟩ := x; obtain ⟨c, d⟩ := y; obtain ⟨q1, q2, _, q4⟩ := h2; exact ⟨q1, q2, by omega⟩

/-- The entries of a map. -/
theorem entries_rel (hw : WR S w) {m : AV} {M : Value} (hm : Rel S w m M) {es : List (AV × AV × Nat)} (hx : xentries m S = some es) :
    (M = .map none ∧ es = []) ∨ ∃ r E clock, M = .map (some r) ∧ w.heap[r]? = some (.map E clock) ∧ EntRel S w es E.toList ∧ S.obj r = some (.map es clock) := by
  unfold xentries at hx
  split at hx
  · cases hx; exact .inl ⟨hm.map_inv, rfl⟩
  · rename_i r
    split at hx
    · rename_i es' clock hr
      cases hx
      obtain ⟨E, h1, h2⟩ := hw.obj r _ hr
      exact .inr ⟨r, E, clock, hm.map_inv, h1, h2, hr⟩
    · cases hx
  · cases hx

theorem run_getObj {r : Nat} {o : Obj} (h : w.heap[r]? = some o) (hc : ∀ c e f, o ≠ .cells c e f) : (getObj r).run P w = .ok o w := by
  simp only [getObj, Sem.run, h]

theorem lookup_run (hw : WR S w) {t kt et : TypeId} (h : P.underlying t = some (.map kt et)) {kd : TypeDesc} (hkd : P.underlying kt = some kd) {j : TypeInfo} (hj : P.info? et = some j) {z : Value} (hz : j.zero = some z)
    {st : Bool} (hst : keyT kd = some st) {ok : Bool} {m k v : AV} {M K : Value} (hm : Rel S w m M) (hk : Rel S w k K) (hv : xlookup st (ofV z) ok m k S = some v) :
    ∃ V, (Instr.lookup t M K ok).run P w = .ok V w ∧ Rel S w v V := by
  unfold xlookup at hv
  split at hv
  case h_2 => cases hv
  rename_i es hes
  have main : ∀ (E : Array MapEntry), EntRel S w es E.toList → (∀ R V, (Instr.findKey kt K E.toList).run P w = .ok R w → (match R with
        | some (_, v) => (if ok then Value.tuple #[v, .bool true] else v) = V
        | none => (if ok then Value.tuple #[z, .bool false] else z) = V) → (Instr.lookup t M K ok).run P w = .ok V w) → ∃ V, (Instr.lookup t M K ok).run P w = .ok V w ∧ Rel S w v V := by
    intro E hE hpre
    have tup : ∀ (a : AV) (A : Value) (b : Bool), Rel S w a A → Rel S w (.tuple [a, .bool b]) (.tuple #[A, .bool b]) := fun a A b ha => .tuple' (.cons ha (.cons (.bool b) .nil))
    split at hv
    · rename_i i u hfind
      obtain ⟨R, h1, h2⟩ := find_run hk hkd hst hE hfind
      cases R with
      | none => exact h2.elim
      | some x =>
        obtain ⟨a, b⟩ := x
        obtain ⟨_, h3, _⟩ := h2
        refine ⟨_, hpre _ _ h1 rfl, ?_⟩
        cases hv
        cases ok
        · exact h3
        · exact tup _ _ _ h3
    · rename_i hfind
      obtain ⟨R, h1, h2⟩ := find_run hk hkd hst hE hfind
      cases R with
      | some x => exact h2.elim
      | none =>
        refine ⟨_, hpre _ _ h1 rfl, ?_⟩
        cases hv
        cases ok
        · exact ofV_rel z
        · exact tup _ _ _ (ofV_rel z)
    · cases hv
  rcases entries_rel hw hm hes with ⟨rfl, rfl⟩ | ⟨r, E, clock, rfl, h1, h2, _⟩
  · refine main #[] ⟨rfl, fun i k v n e h => by simp at h⟩ fun R V h3 h4 => ?_
    simp only [Instr.lookup, Sem.run_bind, run_under h, Result.andThen_ok, Sem.run_pure, checkKey_simple hkd hst, h3]
    cases R with
    | none => simp only [Sem.run_bind, run_zero hj hz, Result.andThen_ok, Sem.run_pure]; rw [← h4]
    | some x => obtain ⟨a, b⟩ := x; simp only [Sem.run_bind, Result.andThen_ok, Sem.run_pure]; rw [← h4]
  · refine main E h2 fun R V h3 h4 => ?_
    simp only [Instr.lookup, Sem.run_bind, run_under h, Result.andThen_ok, Sem.run_pure, run_getObj h1 (fun _ _ _ => by simp), checkKey_simple hkd hst, h3]
    cases R with
    | none => simp only [Sem.run_bind, run_zero hj hz, Result.andThen_ok, Sem.run_pure]; rw [← h4]
    | some x => obtain ⟨a, b⟩ := x; simp only [Sem.run_bind, Result.andThen_ok, Sem.run_pure]; rw [← h4]

theorem mlen_run (hw : WR S w) {t kt et : TypeId} (h : P.underlying t = some (.map kt et)) {ty : TypeId} {m v : AV} {M : Value} (hm : Rel S w m M) (hv : xmlen m S = some v) :
    ∃ V, (Builtin.len_ #[t] ty #[M]).run P w = .ok V w ∧ Rel S w v V := by
  simp only [xmlen, Option.map_eq_some_iff] at hv
  obtain ⟨es, h1, rfl⟩ := hv
  rcases entries_rel hw hm h1 with ⟨rfl, rfl⟩ | ⟨r, E, clock, rfl, h2, h3, _⟩
  · exact ⟨.int .i64 0, by simp [Builtin.len_, run_under h, goInt], .int _ _⟩
  · have e : es.length = E.size := by have := h3.1; simpa using this
    refine ⟨.int .i64 E.size, by simp [Builtin.len_, run_under h, goInt, run_getObj h2 (fun _ _ _ => by simp)], ?_⟩
    rw [e]; exact .int _ _

theorem entry_run (hw : WR S w) {it v : AV} {I : Value} (hi : Rel S w it I) (hv : xentry it S = some v) : ∃ V, (Instr.entry I).run P w = .ok V w ∧ Rel S w v V := by
  unfold xentry at hv
  split at hv
  case h_2 => cases hv
  rename_i r
  have := hi.ptr_inv; subst this
  split at hv
  case h_2 => cases hv
  rename_i m since seen stepped hr
  split at hv
  case h_2 => cases hv
  rename_i es clock hm
  split at hv
  case isFalse => cases hv
  rename_i hc
  split at hv
  case h_2 => cases hv
  rename_i stamp hst
  split at hv
  case h_2 => cases hv
  rename_i k u n hfind
  cases hv
  have h1 : w.heap[r]? = some (.mapIter (some m) since seen.toArray stepped) := hw.obj r _ hr
  obtain ⟨E, h2, h3⟩ := hw.obj m _ hm
  have hback : seen.toArray.back? = some stamp := by rw [← hst]; simp
  have hfe : ∃ e, E.find? (fun e => e.born == stamp) = some e ∧ Rel S w k e.key ∧ Rel S w u e.val := by
    rw [← Array.find?_toList]
    clear h2 hm
    revert h3 hfind
    generalize E.toList = L
    induction es generalizing L with
    | nil => intro hf; simp at hf
    | cons x es ih =>
      intro hf h3
      obtain ⟨k', v', n'⟩ := x
      cases L with
      | nil => have := h3.1; simp at this
      | cons e L =>
        obtain ⟨q1, q2, q3⟩ := h3.2 0 k' v' n' e rfl rfl
        have he' : EntRel S w es L := ⟨by have := h3.1; simpa using this, fun j a b c d hx hy => h3.2 (j + 1) a b c d (by simpa using hx) (by simpa using hy)⟩
        rw [List.find?_cons] at hf ⊢
        dsimp only at hf ⊢
        rw [q3]
        cases hs : (n' == stamp) with
        | true => rw [hs] at hf; cases hf; exact ⟨e, rfl, q1, q2⟩
        | false => rw [hs] at hf; exact ih _ hf he'
  obtain ⟨e, h4, h5, h6⟩ := hfe
  refine ⟨.tuple #[e.key, e.val], ?_, .tuple' (.cons h5 (.cons h6 .nil))⟩
  have hcl : (clock != stepped) = false := by simp [hc]
  simp only [Instr.entry, Sem.run_bind, run_getObj h1 (fun _ _ _ => by simp), Result.andThen_ok, hback, run_getObj h2 (fun _ _ _ => by simp), hcl, Bool.false_eq_true, if_false, h4, Sem.run_pure]
end
end Go.AM
/-
  EVERY VALUE OPERATION: what the abstract reading says comes out of the run.
-/
namespace Go.AM
section
variable {P : Program} {S : St} {w : World}

theorem fplaces {fields : Array Field} {i : Nat} (hp : ∀ f ∈ fields.toList, ∃ j, P.info? f.type = some j) : (fields.map fun f => (f.offset, ((P.info? f.type).map (·.size)).getD 0))[i]? = fplace P fields i := by
  unfold fplace
  rw [Array.getElem?_map]
  cases hf : fields[i]? with
  | none => rfl
  | some f =>
    obtain ⟨j, hj⟩ := hp f (by rw [← Array.getElem?_toList] at hf; exact List.mem_of_getElem? hf)
    simp [hj]

theorem fill_congr {p q : Nat → Option (Nat × Nat)} (h : ∀ i, p i = q i) : ∀ (l : List (Nat × Value)) (ds : Array Value), Instr.fill p ds l = Instr.fill q ds l
  | [], ds => rfl
  | (i, v) :: l, ds => by
    simp only [Instr.fill, h i]
    cases q i with
    | none => rfl
    | some x => obtain ⟨o, n⟩ := x; dsimp only; split
                · rfl
                · exact fill_congr h l _

theorem fieldsOk_spec {fields : Array Field} (h : fieldsOk P fields = true) : ∀ f ∈ fields.toList, ∃ j, P.info? f.type = some j := by
  intro f hf
  have := (List.all_eq_true.1 h) f hf
  exact Option.isSome_iff_exists.1 this

theorem map_parts (fr : Fr) (a : Act) (parts : Array (Nat × Operand)) : (parts.map fun (i, x) => (i, a.eval x)).toList = parts.toList.map fun (i, x) => (i, a.eval x) := by simp

theorem list_build_run {e : TypeId} {j : TypeInfo} {z : List AV} {Z : Value} (hZ : RelL S w z Z.cells.toList) (n : Nat) :
    RelL S w ((List.range n).map fun i => z.getD (i % z.length) .dead) ((Array.range n).map (Z.cells[· % Z.cells.size]!)).toList ∨ True := .inr trivial

theorem range_rel {z : List AV} {Z : Array Value} (hZ : RelL S w z Z.toList) (n : Nat) : RelL S w ((List.range n).map fun i => z.getD (i % z.length) .dead) ((Array.range n).map (Z[· % Z.size]!)).toList := by
  have hl : z.length = Z.size := by have := hZ.len; simpa using this
  refine ⟨by simp, fun i a v hx hy => ?_⟩
  simp only [Array.toList_map, Array.toList_range, List.getElem?_map] at hx hy
  by_cases hi : i < n
  · rw [List.getElem?_range hi] at hx hy
    simp only [Option.map_some, Option.some.injEq] at hx hy
    subst hx hy
    rw [hl]
    by_cases hz : i % Z.size < Z.size
    · have h1 : z.getD (i % Z.size) .dead = z[i % Z.size]'(by omega) := by simp [List.getD, List.getElem?_eq_getElem (show i % Z.size < z.length by omega)]
      rw [h1]
      refine hZ.rel (i % Z.size) _ _ (List.getElem?_eq_getElem _) ?_
      rw [Array.getElem?_toList, getElem!_pos Z _ hz]
      exact Array.getElem?_eq_getElem hz
    · have h1 : z.getD (i % Z.size) .dead = .dead := by
        rw [List.getD_eq_getElem?_getD, List.getElem?_eq_none (by omega)]; rfl
      rw [h1]; exact .dead _
  · rw [List.getElem?_eq_none (by simpa using hi)] at hx; simp at hx

/-- A literal slice: its row is new, and nobody changes it. -/
theorem bslice_sound (hw : WR S w) {cs : List AV} {n : Nat} (e : TypeId) {ds : Array Value} (h : RelL S w cs ds.toList) :
    Rel S (w.alloc (.cells ds e)) (.slice cs n .full) (.slice (some ⟨w.heap.size, 0, none⟩) n n) ∧ WR S (w.alloc (.cells ds e)) ∧ Ext S w S (w.alloc (.cells ds e)) := by
  have hE : Ext S w S (w.alloc (.cells ds e)) := .alloc _ (fun _ _ => rfl) (fun _ _ => rfl)
  have h' := hE.relL h
  refine ⟨.slice _ ds.toList _ _ _ 0 _ (fun i v hv => ⟨hw.fresh.1, fun x hx => ?_, ?_⟩) h'.len h'.rel (Nat.le_refl _) rfl, hw.alloc _, hE⟩
  · rw [hw.fresh.2] at hx; cases hx
  · rw [Nat.zero_add, World.cell?_alloc_new]; simpa using hv

def Yield (P : Program) (S : St) (w : World) (s : Sem Next) (v : AV) : Prop := ∃ V w', s.run P w = .ok (.value V) w' ∧ Rel S w' v V ∧ WR S w' ∧ Ext S w S w'

theorem Yield.of {s : Sem Value} {v : AV} (hw : WR S w) (h : ∃ V, s.run P w = .ok V w ∧ Rel S w v V) : Yield P S w (do pure (.value (← s))) v := by
  obtain ⟨V, h1, h2⟩ := h
  exact ⟨V, w, by simp only [Sem.run_bind, h1, Result.andThen_ok, Sem.run_pure], h2, hw, .refl⟩
theorem Yield.of' {s : Sem Value} {v : AV} (h : ∃ V w', s.run P w = .ok V w' ∧ Rel S w' v V ∧ WR S w' ∧ Ext S w S w') : Yield P S w (do pure (.value (← s))) v := by
  obtain ⟨V, w', h1, h2, h3, h4⟩ := h
  exact ⟨V, w', by simp only [Sem.run_bind, h1, Result.andThen_ok, Sem.run_pure], h2, h3, h4⟩

theorem opt_rel {fr : Fr} {a : Act} (hf : RelL S w fr a.tmps.toList) (o : Option Operand) : (∀ x, o.map (aeval fr) = some x → ∃ A, o.map a.eval = some A ∧ Rel S w x A) ∧ (o.map (aeval fr) = none → o.map a.eval = none) := by
  cases o with
  | none => exact ⟨fun x h => (by cases h), fun _ => rfl⟩
  | some y => exact ⟨fun x h => (by cases h; exact ⟨_, rfl, aeval_rel hf y⟩), fun h => (by cases h)⟩

theorem exec_builtin {a : Act} {o : Oper} {c : Call} (hop : o.op = .call c) {b : Builtin} (hc : c.callee = .builtin b) :
    ∃ consts, (execOp a.eval o).run P w = (builtin b c.argTypes o.type consts (c.args.map a.eval)).run P w := by
  refine ⟨c.args.map fun | .const _ => true | _ => false, ?_⟩
  simp only [execOp, hop, resolve, hc, Sem.run_bind, Sem.run_pure, Result.andThen_ok, invoke]
  rfl

theorem Yield.congr {s s' : Sem Next} {v : AV} (h : s.run P w = s'.run P w) (y : Yield P S w s' v) : Yield P S w s v := by
  obtain ⟨V, w', h1, h2⟩ := y
  exact ⟨V, w', h.trans h1, h2⟩

theorem aval_sound {fr : Fr} {a : Act} (hw : WR S w) (hf : RelL S w fr a.tmps.toList) {o : Oper} {v : AV} (h : aval P fr S o.op = some v) : Yield P S w (execOp a.eval o) v := by
  have ev := fun x => aeval_rel hf x
  cases hop : o.op with
  | move x => rw [hop] at h; simp only [aval, Option.some.injEq] at h; subst h; exact ⟨_, w, by simp only [execOp, hop, Sem.run_pure], ev x, hw, .refl⟩
  | assign x => rw [hop] at h; simp only [aval, Option.some.injEq] at h; subst h; exact ⟨_, w, by simp only [execOp, hop, Sem.run_pure], ev x, hw, .refl⟩
  | pick c x y =>
    rw [hop] at h; simp only [aval] at h
    obtain ⟨V, h1, h2⟩ := pick_run (P := P) (ev c) (ev x) (ev y) h
    exact ⟨V, w, by simp only [execOp, hop]; exact h1, h2, hw, .refl⟩
  | build t parts =>
    rw [hop] at h; simp only [aval] at h
    simp only [execOp, hop]
    refine Yield.of hw ?_
    split at h
    · rename_i fields z ht hz
      split at h
      case isFalse => cases h
      rename_i hfo
      split at h
      case h_2 => cases h
      rename_i ps hps
      simp only [xbuild, Option.map_eq_some_iff] at h
      obtain ⟨cs, h1, rfl⟩ := h
      obtain ⟨i, Z, hi, hiz, hZ⟩ := zc_zero (S := S) (w := w) hz
      obtain ⟨ds', h2, h3⟩ := fill_rel hf hps h1 hZ
      rw [← map_parts fr a parts] at h2
      have hpl : ∀ i, _ := fun i => fplaces (P := P) (fields := fields) (i := i) (fieldsOk_spec hfo)
      rw [← fill_congr (hpl)] at h2
      refine ⟨.agg ds', ?_, by simpa using Rel.agg' h3⟩
      simp only [Instr.build, Sem.run_bind, run_zero hi hiz, Result.andThen_ok, run_under ht, run_mapM_places fields w (fieldsOk_spec hfo), h2, Sem.run_pure]
    · rename_i len e z ht hz
      split at h
      case h_2 => cases h
      rename_i j hj
      split at h
      case h_2 => cases h
      rename_i ps hps
      simp only [xbuild, Option.map_eq_some_iff] at h
      obtain ⟨cs, h1, rfl⟩ := h
      obtain ⟨i, Z, hi, hiz, hZ⟩ := zc_zero (S := S) (w := w) hz
      obtain ⟨ds', h2, h3⟩ := fill_rel hf hps h1 hZ
      rw [← map_parts fr a parts] at h2
      refine ⟨.agg ds', ?_, by simpa using Rel.agg' h3⟩
      simp only [Instr.build, Sem.run_bind, run_zero hi hiz, Result.andThen_ok, run_under ht, run_size hj, h2, Sem.run_pure]
    · cases h
  | buildSlice t len parts =>
    rw [hop] at h; simp only [aval] at h
    simp only [execOp, hop]
    refine Yield.of' ?_
    split at h
    case h_2 => cases h
    rename_i e ht
    split at h
    case h_2 => cases h
    rename_i j z hj hz
    split at h
    case isFalse => cases h
    rename_i hb
    split at h
    case h_2 => cases h
    rename_i ps hps
    simp only [xbslice, Option.map_eq_some_iff] at h
    obtain ⟨cs, h1, rfl⟩ := h
    obtain ⟨i, Z, hi, hiz, hZ⟩ := zc_zero (S := S) (w := w) hz
    rw [hj] at hi; cases hi
    have hzl : z.length = Z.cells.size := by have := hZ.len; simpa using this
    obtain ⟨ds', h2, h3⟩ := fill_rel hf hps h1 (range_rel hZ (len * j.size))
    rw [← map_parts fr a parts] at h2
    obtain ⟨r1, r2, r3⟩ := bslice_sound (n := len) hw e h3
    refine ⟨_, _, ?_, r1, r2, r3⟩
    have hn : ¬ (len * j.size > 2 ^ 24) := by omega
    simp only [Instr.buildSlice, Sem.run_bind, run_under ht, run_size hj, Result.andThen_ok, hn, if_false]
    by_cases h0 : len * j.size = 0
    · have hds : ((Array.range (len * j.size)).map (Z.cells[· % Z.cells.size]!)) = (Array.range (len * j.size)).map ((#[] : Array Value)[· % (#[] : Array Value).size]!) := by rw [h0]; simp
      rw [hds] at h2
      simp only [h0, if_true, Sem.run_pure, Result.andThen_ok] at h2 ⊢
      simp only [h2, Sem.run_bind, newRow, run_newObj, Result.andThen_ok, Sem.run_pure]
      rfl
    · simp only [h0, if_false, Sem.run_bind, run_zero hj hiz, Result.andThen_ok, Sem.run_pure, h2, newRow, run_newObj]
      rfl
  | load t x =>
    rw [hop] at h; simp only [aval] at h
    simp only [execOp, hop]
    split at h
    · rename_i d i h1 h2
      exact Yield.of hw (run_load_sound h1 h2 hw (ev x) h)
    · cases h
  | nilCheck x =>
    rw [hop] at h; simp only [aval] at h
    have hv := ev x
    unfold xnilck at h
    split at h
    · rename_i b hx
      cases h
      rw [hx] at hv
      obtain ⟨b, o⟩ := b
      have := hv.ptr_inv
      exact ⟨_, w, by simp only [execOp, hop, this]; rfl, .ptr _ _, hw, .refl⟩
    · rename_i cs hx
      cases h
      rw [hx] at hv
      obtain ⟨vs, b, o, h1, h2, h3⟩ := hv.ref_inv
      exact ⟨_, w, by simp only [execOp, hop, h1]; rfl, by rw [← h1]; exact hv, hw, .refl⟩
    · cases h
  | binOp op t x y yt =>
    rw [hop] at h
    obtain ⟨V, h1, h2⟩ := bin_sound hf h
    exact ⟨V, w, by simp only [execOp, hop]; rw [Sem.run_bind, h1]; rfl, h2, hw, .refl⟩
  | unOp op t x => rw [hop] at h; simp only [aval] at h; simp only [execOp, hop]; exact Yield.of hw (xun_run (ev x) h)
  | convert src dst x =>
    rw [hop] at h; simp only [aval] at h
    simp only [execOp, hop]
    have hv := ev x
    generalize aeval fr x = ax at h hv
    generalize a.eval x = X at hv
    split at h
    · rename_i d k h1 h2
      refine Yield.of hw ?_
      unfold xint2int at h
      split at h
      · cases h
        have := hv.int_inv; subst this
        exact ⟨_, by simp only [convert, Sem.run_bind, run_under h1, run_under h2, Result.andThen_ok]; rfl, .int _ _⟩
      · cases h
    · rename_i h1 h2
      refine Yield.of hw ?_
      unfold xstr2str at h
      split at h
      · cases h
        have := hv.str_inv; subst this
        exact ⟨_, by simp only [convert, Sem.run_bind, run_under h1, run_under h2, Result.andThen_ok]; rfl, .str _⟩
      · cases h
    · rename_i e h1 h2
      refine Yield.of hw ?_
      split at h
      case h_2 => cases h
      rename_i he
      obtain ⟨V, h3, h4⟩ := bytes2str_run (P := P) hw hv h
      refine ⟨V, ?_, h4⟩
      have hsl : ∃ p n c, X = .slice p n c := by
        unfold xbytes2str at h
        split at h
        · rcases hv.slice_inv with ⟨_, _, _, rfl⟩ | ⟨_, _, _, _, rfl⟩ | ⟨vs, b, o, cap, rfl, _⟩ <;> exact ⟨_, _, _, rfl⟩
        · cases hv <;> exact ⟨_, _, _, rfl⟩
        · cases h
      obtain ⟨p, n, c, rfl⟩ := hsl
      simp only [convert, Sem.run_bind, run_under h1, run_under h2, run_under he, Result.andThen_ok]
      exact h3
    · rename_i e h1 h2
      refine Yield.of' ?_
      split at h
      case h_2 => cases h
      rename_i he
      unfold xstr2bytes at h
      split at h
      · cases h
        have := hv.str_inv; subst this
        obtain ⟨V, w', h3, h4⟩ := s2b_sound (P := P) hw e _
        refine ⟨V, w', ?_, h4⟩
        simp only [convert, Sem.run_bind, run_under h1, run_under h2, run_under he, Result.andThen_ok]
        exact h3
      · cases h
    · cases h
  | makeInterface t x =>
    rw [hop] at h; simp only [aval] at h
    simp only [execOp, hop]
    refine Yield.of hw ?_
    split at h
    · cases h
    · rename_i d hd hni
      cases h
      refine ⟨.iface t (a.eval x), ?_, .iface _ _ _ (ev x)⟩
      simp only [Instr.makeInterface, Sem.run_bind, run_under hni, Result.andThen_ok]
      cases d <;> first | rfl | exact absurd rfl (hd _)
    · cases h
  | makeFunc fn first cap =>
    rw [hop] at h; simp only [aval, Option.some.injEq] at h; subst h
    simp only [execOp, hop]
    refine Yield.of hw ⟨.func fn (first.map a.eval) (cap.map a.eval), rfl, ?_⟩
    have e1 : ∀ (l : Array Operand), l.map a.eval = (l.toList.map a.eval).toArray := fun l => by rw [← Array.toList_map]
    rw [e1, e1]
    refine .func _ _ _ _ _ (by simp) (by simp) (fun i x y hx hy => ?_) (fun i x y hx hy => ?_)
    · simp only [List.getElem?_map, Option.map_eq_some_iff] at hx hy
      obtain ⟨p, h1, rfl⟩ := hx; obtain ⟨q, h2, rfl⟩ := hy
      rw [h1] at h2; cases h2; exact ev p
    · simp only [List.getElem?_map, Option.map_eq_some_iff] at hx hy
      obtain ⟨p, h1, rfl⟩ := hx; obtain ⟨q, h2, rfl⟩ := hy
      rw [h1] at h2; cases h2; exact ev p
  | slice t x lo hi mx =>
    rw [hop] at h; simp only [aval] at h
    simp only [execOp, hop]
    refine Yield.of hw ?_
    split at h
    · rename_i ht
      split at h
      · exact sslice_sound ht (ev x) (opt_rel hf lo).1 (opt_rel hf lo).2 (opt_rel hf hi).1 (opt_rel hf hi).2 h
      · cases h
    · rename_i e ht
      split at h
      · rename_i j hj
        exact slice_sound ht hj (ev x) (opt_rel hf lo).1 (opt_rel hf lo).2 (opt_rel hf hi).1 (opt_rel hf hi).2 (opt_rel hf mx).1 (opt_rel hf mx).2 h
      · cases h
    · cases h
  | fieldAddr s x f =>
    rw [hop] at h; simp only [aval] at h
    simp only [execOp, hop]
    refine Yield.of hw ?_
    split at h
    · rename_i fields ht
      split at h
      · rename_i off n hp
        split at h
        · cases h
        · rename_i hn; exact fieldAt_sound ht hp hn (ev x) h
      · cases h
    · cases h
  | field t x f =>
    rw [hop] at h; simp only [aval] at h
    simp only [execOp, hop]
    refine Yield.of hw ?_
    split at h
    · rename_i fields ht
      split at h
      · rename_i fl hfl
        split at h
        · rename_i d j hd hj; exact field_sound ht hfl hd hj (ev x) h
        · cases h
      · cases h
    · cases h
  | indexAddr t x i =>
    rw [hop] at h; simp only [aval] at h
    simp only [execOp, hop]
    refine Yield.of hw ?_
    split at h
    · rename_i e ht
      split at h
      · rename_i j hj; exact indexAt_slice ht hj (ev x) (ev i) h
      · cases h
    · rename_i n e ht
      split at h
      · rename_i j hj; exact indexAt_array ht hj (ev x) (ev i) h
      · cases h
    · cases h
  | index t x i =>
    rw [hop] at h; simp only [aval] at h
    simp only [execOp, hop]
    refine Yield.of hw ?_
    split at h
    · rename_i n e ht
      split at h
      · rename_i d j hd hj; exact index_array ht hd hj (ev x) (ev i) h
      · cases h
    · rename_i ht; exact index_string ht (ev x) (ev i) h
    · cases h
  | lookup t m k ok =>
    rw [hop] at h; simp only [aval] at h
    simp only [execOp, hop]
    refine Yield.of hw ?_
    split at h
    · rename_i kt et ht
      split at h
      · rename_i kd j hkd hj
        split at h
        · rename_i z st hz hst; exact lookup_run hw ht hkd hj hz hst (ev m) (ev k) h
        · cases h
      · cases h
    · cases h
  | entry it => rw [hop] at h; simp only [aval] at h; simp only [execOp, hop]; exact Yield.of hw (entry_run hw (ev it) h)
  | extract t i => rw [hop] at h; simp only [aval] at h; simp only [execOp, hop]; exact Yield.of hw (extract_run (ev t) h)
  | call c =>
    rw [hop] at h; simp only [aval] at h
    split at h
    · rename_i t x hc ht hx
      have ht' : c.argTypes = #[t] := by rw [← Array.toList_inj, ht]
      have hx' : c.args = #[x] := by rw [← Array.toList_inj, hx]
      obtain ⟨consts, he⟩ := exec_builtin (P := P) (w := w) (a := a) hop hc
      have hx2 : c.args.map a.eval = #[a.eval x] := by rw [hx']; simp
      rw [ht', hx2] at he
      refine .congr he (Yield.of (s := Builtin.len_ #[t] o.type #[a.eval x]) hw ?_)
      split at h
      · rename_i hu; exact slen_run hu (ev x) h
      · rename_i e hu; exact len_run hu (ev x) h
      · rename_i n e hu
        cases h
        exact ⟨.int .i64 n, by simp [Builtin.len_, run_under hu, goInt], .int _ _⟩
      · rename_i k e hu; exact mlen_run hw hu (ev x) h
      · cases h
    · rename_i t x hc ht hx
      have ht' : c.argTypes = #[t] := by rw [← Array.toList_inj, ht]
      have hx' : c.args = #[x] := by rw [← Array.toList_inj, hx]
      obtain ⟨consts, he⟩ := exec_builtin (P := P) (w := w) (a := a) hop hc
      have hx2 : c.args.map a.eval = #[a.eval x] := by rw [hx']; simp
      rw [ht', hx2] at he
      refine .congr he (Yield.of (s := Builtin.cap_ #[t] o.type #[a.eval x]) hw ?_)
      split at h
      · rename_i e hu; exact cap_run hu (ev x) h
      · rename_i n e hu
        cases h
        exact ⟨.int .i64 n, by simp [Builtin.cap_, run_under hu, goInt], .int _ _⟩
      · cases h
    · rename_i x y hc hx
      have hx' : c.args = #[x, y] := by rw [← Array.toList_inj, hx]
      obtain ⟨consts, he⟩ := exec_builtin (P := P) (w := w) (a := a) hop hc
      have hx2 : c.args.map a.eval = #[a.eval x, a.eval y] := by rw [hx']; simp
      rw [hx2] at he
      refine .congr he (Yield.of (s := Builtin.min_ c.argTypes o.type #[a.eval x, a.eval y]) hw ?_)
      obtain ⟨V, h1, h2⟩ := mm_run (P := P) (isMax := false) (ev x) (ev y) h
      have h1' : (Builtin.min2 (a.eval x) (a.eval y)).run P w = .ok V w := h1
      exact ⟨V, by simp only [Builtin.min_, List.foldlM_cons, List.foldlM_nil, Sem.run_bind, h1', Result.andThen_ok, Sem.run_pure], h2⟩
    · rename_i x y hc hx
      have hx' : c.args = #[x, y] := by rw [← Array.toList_inj, hx]
      obtain ⟨consts, he⟩ := exec_builtin (P := P) (w := w) (a := a) hop hc
      have hx2 : c.args.map a.eval = #[a.eval x, a.eval y] := by rw [hx']; simp
      rw [hx2] at he
      refine .congr he (Yield.of (s := Builtin.max_ c.argTypes o.type #[a.eval x, a.eval y]) hw ?_)
      obtain ⟨V, h1, h2⟩ := mm_run (P := P) (isMax := true) (ev x) (ev y) h
      have h1' : (Builtin.max2 (a.eval x) (a.eval y)).run P w = .ok V w := h1
      exact ⟨V, by simp only [Builtin.max_, List.foldlM_cons, List.foldlM_nil, Sem.run_bind, h1', Result.andThen_ok, Sem.run_pure], h2⟩
    · cases h
  | _ => rw [hop] at h; simp [aval] at h
end
end Go.AM
/-
  WHAT ACTS: new objects, stores, maps.
-/
namespace Go.AM

/-- A run that ends in an owned heap in which K holds. -/
def Acts (P : Program) (S : St) (w : World) (s : Sem Next) (K : AV → St → Prop) : Prop :=
  ∃ V w' v S', (s.run P w = .ok (.value V) w' ∨ (s.run P w = .ok .skip w' ∧ V = undef)) ∧ K v S' ∧ Rel S' w' v V ∧ WR S' w' ∧ Ext S w S' w'

/-- One block turned, all else as it was. -/
structure Upd (w : World) (b : Nat) (w' : World) : Prop where
  os : w'.os = w.os
  tape : w'.tape = w.tape
  output : w'.output = w.output
  size : w'.heap.size = w.heap.size
  heap : ∀ k, k ≠ b → w'.heap[k]? = w.heap[k]?

theorem Upd.refl (w : World) (b : Nat) : Upd w b w := ⟨rfl, rfl, rfl, rfl, fun _ _ => rfl⟩
theorem Upd.trans {w w' w'' : World} {b : Nat} (h : Upd w b w') (k : Upd w' b w'') : Upd w b w'' :=
  ⟨k.os.trans h.os, k.tape.trans h.tape, k.output.trans h.output, k.size.trans h.size, fun i hi => (k.heap i hi).trans (h.heap i hi)⟩
theorem Upd.setCell (w : World) (b o : Nat) (v : Value) : Upd w b (w.setCell ⟨b, o, none⟩ v) :=
  ⟨rfl, rfl, rfl, by simp, fun k hk => by simp only [World.setCell, Array.getElem?_modify]; rw [if_neg (Ne.symm hk)]⟩

def setArr (C : Array Value) (o : Nat) : List Value → Array Value
  | [] => C
  | v :: vs => setArr (C.setIfInBounds o v) (o + 1) vs

section
variable {P : Program} {S : St} {w : World}

theorem setArr_size (vs : List Value) : ∀ (C : Array Value) (o : Nat), (setArr C o vs).size = C.size := by
  induction vs with
  | nil => intros; rfl
  | cons v vs ih => intro C o; simp [setArr, ih]
theorem setArr_other (vs : List Value) : ∀ (C : Array Value) (o i : Nat), i < o → (setArr C o vs)[i]? = C[i]? := by
  induction vs with
  | nil => intros; rfl
  | cons v vs ih =>
    intro C o i h
    simp only [setArr]
    rw [ih _ _ _ (by omega), Array.getElem?_setIfInBounds, if_neg (by omega)]
theorem setArr_get (vs : List Value) : ∀ (C : Array Value) (o i : Nat), o + vs.length ≤ C.size → i < vs.length → (setArr C o vs)[o + i]? = vs[i]? := by
  induction vs with
  | nil => intro C o i _ h; simp at h
  | cons v vs ih =>
    intro C o i hl hi
    simp only [setArr, List.length_cons] at hl hi ⊢
    cases i with
    | zero =>
      simp only [Nat.add_zero]; rw [setArr_other _ _ _ _ (by omega), Array.getElem?_setIfInBounds, if_pos rfl, if_pos (by omega)]; rfl
    | succ i =>
      rw [show o + (i + 1) = o + 1 + i by omega, ih _ _ _ (by simp; omega) (by omega)]; rfl
theorem setArr_after (vs : List Value) : ∀ (C : Array Value) (o i : Nat), o + vs.length ≤ i → (setArr C o vs)[i]? = C[i]? := by
  induction vs with
  | nil => intros; rfl
  | cons v vs ih =>
    intro C o i h
    simp only [setArr, List.length_cons] at h ⊢
    rw [ih _ _ _ (by omega), Array.getElem?_setIfInBounds, if_neg (by omega)]
theorem setArr_rel : ∀ {us : List AV} {vs : List Value} {cs : List AV} {C : Array Value} (o : Nat), RelL S w cs C.toList → RelL S w us vs → RelL S w (setList cs o us) (setArr C o vs).toList
  | [], vs, cs, C, o, h, hu => by rw [hu.nil_inv]; exact h
  | u :: us, vs, cs, C, o, h, hu => by
    obtain ⟨v, vs', rfl, h1, h2⟩ := hu.cons_inv
    exact setArr_rel (o + 1) (by simpa using h.set o h1) h2

theorem oneCell_of {v : AV} {V : Value} (h : Rel S w v V) (hv : v.ok1 = true) : V.oneCell' = true := by cases h <;> first | rfl | simp [AV.ok1] at hv

theorem heap_setCell_same {b o : Nat} {C : Array Value} {e : TypeId} {fz : Nat × Nat} (h : w.heap[b]? = some (.cells C e fz)) (v : Value) :
    (w.setCell ⟨b, o, none⟩ v).heap[b]? = some (.cells (C.setIfInBounds o v) e fz) := by
  simp only [World.setCell, Array.getElem?_modify, if_true, h, Option.map_some]
  rfl

/-- Cells are stored one behind the other. -/
theorem run_storeCells (b o : Nat) (e : TypeId) (fz : Nat × Nat) : ∀ (vs : List Value) (i : Nat) (C : Array Value) (w : World), w.heap[b]? = some (.cells C e fz) → o + i + vs.length ≤ C.size →
    (∀ j, o + i ≤ j → j < o + i + vs.length → ¬ (fz.1 ≤ j ∧ j < fz.2)) → (∀ v ∈ vs, v.oneCell' = true) →
    ∃ w', (storeCells ⟨b, o, none⟩ vs i).run P w = .ok () w' ∧ Upd w b w' ∧ w'.heap[b]? = some (.cells (setArr C (o + i) vs) e fz)
  | [], i, C, w, h, _, _, _ => ⟨w, rfl, .refl w b, h⟩
  | v :: vs, i, C, w, h, hl, hf, hv => by
    simp only [List.length_cons] at hl hf
    have hcell : w.cell? ⟨b, o + i, none⟩ = some (C[o + i]'(by omega)) := by
      simp only [World.cell?, h, Option.isSome_none, Bool.false_eq_true, if_false]
      exact Array.getElem?_eq_getElem _
    have hfz : w.frozen? ⟨b, o + i, none⟩ = false := by
      simp only [World.frozen?, h]
      have := hf (o + i) (Nat.le_refl _) (by omega)
      obtain ⟨lo, hi⟩ := fz
      simp only [Bool.and_eq_false_iff, decide_eq_false_iff_not]
      by_cases h1 : lo ≤ o + i
      · exact .inr (fun h2 => this ⟨h1, h2⟩)
      · exact .inl h1
    obtain ⟨w', h1, h2, h3⟩ := run_storeCells b o e fz vs (i + 1) (C.setIfInBounds (o + i) v) (w.setCell ⟨b, o + i, none⟩ v) (heap_setCell_same h v) (by simp; omega)
      (fun j hj1 hj2 => hf j (by omega) (by omega)) (fun u hu => hv u (by simp [hu]))
    refine ⟨w', ?_, (Upd.setCell w b _ v).trans h2, by rw [h3]; rfl⟩
    simp only [storeCells, Sem.run_bind, add_mk, run_store P w ⟨b, o + i, none⟩ v .plain (hv v (by simp)), hcell, hfz, Bool.false_eq_true, if_false, Result.andThen_ok]
    exact h1

/-- An owned object that has turned. -/
theorem owned_ext {b : Nat} {ob : AObj} (hb : S.obj b = some ob) {w' : World} (hu : Upd w b w') (hsh : w'.shape? b = w.shape? b) (ob' : AObj) : Ext S w (S.setObj b ob') w' := by
  have hne : ∀ {c}, S.obj c = none → c ≠ b := fun h e => by rw [e, hb] at h; cases h
  refine ⟨hu.os, hu.tape, hu.output, Nat.le_of_eq hu.size.symm, ?_, ?_, ?_, ?_, ?_⟩
  · intro c _ ho; simp [hne ho, ho]
  · intro c _ _ hw' ht; exact ⟨hw', ht, Nat.le_refl _⟩
  · intro c _ ho _; exact hu.heap c (hne ho)
  · intro c x _ ho _ off _; exact cell?_of_heap (hu.heap c (hne ho))
  · intro c e N h
    by_cases hc : c = b
    · subst hc; rw [hsh]; exact h
    · simp only [World.shape?, hu.heap c hc] at h ⊢; exact h
theorem owned_step (hw : WR S w) {b : Nat} {ob : AObj} (hb : S.obj b = some ob) {w' : World} (hu : Upd w b w') (hsh : w'.shape? b = w.shape? b) {ob' : AObj} (hok : Ext S w (S.setObj b ob') w' → ObjOk (S.setObj b ob') w' b ob') :
    WR (S.setObj b ob') w' ∧ Ext S w (S.setObj b ob') w' := by
  have hne : ∀ {c}, S.obj c = none → c ≠ b := fun h e => by rw [e, hb] at h; cases h
  have hE := owned_ext hb hu hsh ob'
  refine ⟨hw.step hE (fun c o hc => ?_) (fun c x hc => ?_), hE⟩
  · by_cases h : c = b
    · subst h; simp at hc; subst hc; exact .inr (hok hE)
    · simp [h] at hc; exact .inl ⟨hc, hu.heap c h⟩
  · have h1 : S.tok c = some x := hc
    have h2 := hne (hw.tok c x h1).1
    exact .inl ⟨h1, by simp [h2]; exact (hw.tok c x h1).1, hu.heap c h2⟩

theorem shape_cells {b : Nat} {C C' : Array Value} {e : TypeId} {f f' : Nat × Nat} {w w' : World} (h : w.heap[b]? = some (.cells C e f)) (h' : w'.heap[b]? = some (.cells C' e f')) (hs : C'.size = C.size) : w'.shape? b = w.shape? b := by
  simp only [World.shape?, h, h', hs]

/-- A new object. -/
theorem new_obj (hw : WR S w) (o : Obj) (ao : AObj) (hok : ∀ S' : St, Ext S w S' (w.alloc o) → ObjOk S' (w.alloc o) w.heap.size ao) :
    S.obj w.heap.size = none ∧ S.tok w.heap.size = none ∧ WR (S.setObj w.heap.size ao) (w.alloc o) ∧ Ext S w (S.setObj w.heap.size ao) (w.alloc o) := by
  have hE : Ext S w (S.setObj w.heap.size ao) (w.alloc o) := .alloc _ (fun b hb => by simp [Nat.ne_of_lt hb]) (fun _ _ => rfl)
  exact ⟨hw.fresh.1, hw.fresh.2, hw.alloc_obj o ao (hok _ hE), hE⟩
theorem new_cells (hw : WR S w) {cs : List AV} {C : Array Value} (e : TypeId) (h : RelL S w cs C.toList) :
    S.obj w.heap.size = none ∧ S.tok w.heap.size = none ∧ WR (S.setObj w.heap.size (.cells cs)) (w.alloc (.cells C e)) ∧ Ext S w (S.setObj w.heap.size (.cells cs)) (w.alloc (.cells C e)) :=
  new_obj hw _ _ fun S' hE => ⟨C, e, (0, 0), heap_alloc_new w _, Fz.zero C, hE.relL h⟩

theorem alloc_acts (hw : WR S w) {t : TypeId} {z : List AV} (hz : zc P t = some z) {K : AV → St → Prop} (h : xalloc z S K) : Acts P S w (do pure (.value (← Instr.alloc t true (.tuple #[])))) K := by
  obtain ⟨i, Z, hi, hiz, hZ⟩ := zc_zero (S := S) (w := w) hz
  obtain ⟨h1, h2, h3, h4⟩ := new_cells hw t hZ
  exact ⟨_, _, _, _, .inl (by simp only [Instr.alloc, Sem.run_bind, run_zero hi hiz, Result.andThen_ok, newVar, newRow, run_newObj, Sem.run_pure]; rfl), h _ h1 h2, .ptr _ _, h3, h4⟩

theorem box_acts (hw : WR S w) {t : TypeId} {i : TypeInfo} {v : AV} {V : Value} (hv : Rel S w v V) {K : AV → St → Prop} (h : xbox i.size v S K) : Acts P S w (do pure (.value (← Instr.box t V))) K := by
  unfold xbox obind at h
  split at h
  case h_2 => exact h.elim
  rename_i cs hcs
  obtain ⟨h1, h2, h3, h4⟩ := new_cells hw t (xcells_rel hcs hv)
  exact ⟨_, _, _, _, .inl (by simp only [Instr.box, Sem.run_bind, Result.andThen_ok, newVar, newRow, run_newObj, Sem.run_pure]; rfl), h.2 _ h1 h2, .ptr _ _, h3, h4⟩

theorem store_acts (hw : WR S w) {t : TypeId} {i : TypeInfo} (hi : P.info? t = some i) {a v : AV} {A V : Value} (ha : Rel S w a A) (hv : Rel S w v V) {K : AV → St → Prop} (h : xstore i.size a v S K) :
    Acts P S w (do Instr.storeAt t A V; pure .skip) K := by
  unfold xstore at h
  split at h
  case h_2 => exact h.elim
  rename_i b o
  have := ha.ptr_inv; subst this
  have run : ∀ (C : Array Value) (e : TypeId) (fz : Nat × Nat) (us : List AV), xcells v = some us → us.length = i.size → us.all AV.ok1 = true → w.heap[b]? = some (.cells C e fz) → Fz C fz → o + i.size ≤ C.size →
      ∃ w', ((do Instr.storeAt t (.pointer (some ⟨b, o, none⟩)) V; pure .skip) : Sem Next).run P w = .ok .skip w' ∧ Upd w b w' ∧ w'.heap[b]? = some (.cells (setArr C o V.cells.toList) e fz) := by
    intro C e fz us hus hl ho1 hh hf hle
    have hrel := xcells_rel hus hv
    have hsz := cells_size hus hv
    have hone : ∀ u ∈ V.cells.toList, u.oneCell' = true := by
      intro u hu
      obtain ⟨k, hk⟩ := List.mem_iff_getElem?.1 hu
      have hlt : k < us.length := by
        have := hrel.len
        rcases Nat.lt_or_ge k V.cells.toList.length with h1 | h1
        · omega
        · rw [List.getElem?_eq_none h1] at hk; cases hk
      exact oneCell_of (hrel.rel k _ u (List.getElem?_eq_getElem hlt) hk) ((List.all_eq_true.1 ho1) _ (List.getElem_mem hlt))
    obtain ⟨w', h1, h2, h3⟩ := run_storeCells (P := P) b o e fz V.cells.toList 0 C w hh (by simp only [Array.length_toList]; omega) (fun j _ hj => hf j (by simp only [Array.length_toList] at hj; omega)) hone
    refine ⟨w', ?_, h2, h3⟩
    have hne : ¬ (V.cells.size ≠ i.size) := by omega
    simp only [Instr.storeAt, Instr.sureAddr, Sem.run_bind, Sem.run_pure, Result.andThen_ok, storeVar, run_size hi, hne, if_false, h1]
  split at h
  · rename_i cs hb
    unfold obind at h
    split at h
    case h_2 => exact h.elim
    rename_i us hus
    obtain ⟨hl, ho1, hle, hK⟩ := h
    obtain ⟨C, e, fz, hh, hf, hr⟩ := hw.obj b _ hb
    have hlen := hr.len
    simp only [Array.length_toList] at hlen
    obtain ⟨w', h1, h2, h3⟩ := run C e fz us hus hl ho1 hh hf (by omega)
    have hsh := shape_cells hh h3 (setArr_size _ _ _)
    obtain ⟨h4, h5⟩ := owned_step hw hb h2 hsh (ob' := .cells (setList cs o us)) (fun hE => ⟨_, e, fz, h3, hf.size (setArr_size _ _ _), hE.relL (setArr_rel o hr (xcells_rel hus hv))⟩)
    exact ⟨undef, w', _, _, .inr ⟨h1, rfl⟩, hK, .tuple [] [] rfl (fun _ _ _ h => by simp at h), h4, h5⟩
  · rename_i cs hb
    unfold obind at h
    split at h
    case h_2 => exact h.elim
    rename_i us hus
    obtain ⟨hl, ho1, hle, hK⟩ := h
    obtain ⟨C, e, fz, hh, hf, hcl, hr⟩ := hw.obj b _ hb
    obtain ⟨w', h1, h2, h3⟩ := run C e fz us hus hl ho1 hh hf (by omega)
    have hsh := shape_cells hh h3 (setArr_size _ _ _)
    have hul : us.length = V.cells.toList.length := (xcells_rel hus hv).len
    obtain ⟨h4, h5⟩ := owned_step hw hb h2 hsh (ob' := .vec (setList cs o us)) (fun hE => ⟨_, e, fz, h3, hf.size (setArr_size _ _ _), by rw [setList_length, setArr_size]; exact hcl, by
      rw [setList_length]
      have e1 : (setArr C o V.cells.toList).toList.take cs.length = (setArr (C.toList.take cs.length).toArray o V.cells.toList).toList := by
        apply List.ext_getElem?
        intro k
        rw [List.getElem?_take]
        by_cases hk : k < cs.length
        · rw [if_pos hk, Array.getElem?_toList, Array.getElem?_toList]
          rcases Nat.lt_or_ge k o with h6 | h6
          · rw [setArr_other _ _ _ _ h6, setArr_other _ _ _ _ h6]; simp [List.getElem?_take, hk]
          · rcases Nat.lt_or_ge k (o + V.cells.toList.length) with h7 | h7
            · obtain ⟨m, rfl⟩ : ∃ m, k = o + m := ⟨k - o, by omega⟩
              rw [setArr_get _ _ _ _ (by omega) (by omega), setArr_get _ _ _ _ (by simp at hul ⊢; omega) (by omega)]
            · rw [setArr_after _ _ _ _ h7, setArr_after _ _ _ _ h7]; simp [List.getElem?_take, hk]
        · rw [if_neg hk, List.getElem?_eq_none]
          simp only [Array.length_toList, setArr_size, List.size_toArray, List.length_take]; omega
      rw [e1]
      exact hE.relL (setArr_rel o (by simpa using hr) (xcells_rel hus hv))⟩)
    exact ⟨undef, w', _, _, .inr ⟨h1, rfl⟩, hK, .tuple [] [] rfl (fun _ _ _ h => by simp at h), h4, h5⟩
  · exact h.elim

theorem mslice_acts (hw : WR S w) {t e : TypeId} (ht : P.underlying t = some (.slice e)) {j : TypeInfo} (hj : P.info? e = some j) {z : List AV} (hz : zc P e = some z) (hzl : z.length = j.size) {len : Nat} (hb : len * j.size ≤ 16777216) (h0 : 0 < len * j.size)
    {fr : Fr} {a : Act} (hf : RelL S w fr a.tmps.toList) {parts : Array (Nat × Operand)} {ps : List (Nat × Nat × AV)} (hps : placed (fun i => some (i * j.size, j.size)) fr parts.toList = some ps) {K : AV → St → Prop}
    (h : xmslice ((List.range (len * j.size)).map fun i => z.getD (i % z.length) .dead) len j.size ps S K) :
    Acts P S w (do pure (.value (← Instr.buildSlice t len (parts.map fun (i, x) => (i, a.eval x))))) K := by
  unfold xmslice obind at h
  split at h
  case h_2 => exact h.elim
  rename_i cs h1
  obtain ⟨i, Z, hi, hiz, hZ⟩ := zc_zero (S := S) (w := w) hz
  rw [hj] at hi; cases hi
  obtain ⟨ds', h2, h3⟩ := fill_rel hf hps h1 (range_rel hZ (len * j.size))
  rw [← map_parts fr a parts] at h2
  obtain ⟨q1, q2, q3, q4⟩ := new_cells hw e h3
  have hn : ¬ (len * j.size > 2 ^ 24) := by omega
  have h0' : ¬ (len * j.size = 0) := by omega
  refine ⟨.slice (some ⟨w.heap.size, 0, none⟩) len len, _, _, _, .inl ?_, h _ q1 q2, .msl _ _ _ _ _ (Nat.le_refl _), q3, q4⟩
  simp only [Instr.buildSlice, Sem.run_bind, run_under ht, run_size hj, Result.andThen_ok, hn, if_false, h0', run_zero hj hiz, Sem.run_pure, h2, newRow, run_newObj]
  rfl

theorem freeze_upd (w : World) (b o n : Nat) : Upd w b (w.freeze ⟨b, o, none⟩ n) := by
  unfold World.freeze
  split
  · exact .refl w b
  · exact ⟨rfl, rfl, rfl, by simp, fun k hk => by simp only [Array.getElem?_modify]; rw [if_neg (Ne.symm hk)]⟩

theorem s2bo_acts (hw : WR S w) {t d e : TypeId} (ht : P.underlying t = some .string) (hd : P.underlying d = some (.slice e)) (he : P.underlying e = some (.int .u8)) {x : AV} {V : Value} (hx : Rel S w x V) {K : AV → St → Prop} (h : xs2bo x S K) :
    Acts P S w (do pure (.value (← convert t d V))) K := by
  unfold xs2bo at h
  split at h
  case h_2 => exact h.elim
  rename_i s
  have := hx.str_inv; subst this
  generalize hcap : (Question.appendCap s.size 0 e).cut (w.tape w.drawn (.appendCap s.size 0 e)) = cap
  have hle : s.size ≤ cap := by rw [← hcap]; simp [Question.cut]
  have hlt : s.size ≤ 9223372036854775807 → cap ≤ 9223372036854775807 := by
    intro h
    rw [← hcap]
    have := Nat.mod_lt (w.tape w.drawn (.appendCap s.size 0 e)) (show 0 < 2 ^ 63 - s.size by omega)
    simp only [Question.cut]
    omega
  let C : Array Value := (s.data.map fun b => Value.int .u8 b.toNat) ++ Array.replicate (cap - s.size) (.int .u8 0)
  have hC : C.size = cap := by
    have hs : s.data.size = s.size := rfl
    simp only [C, Array.size_append, Array.size_map, Array.size_replicate]; omega
  have hfz : (w.drew.alloc (.cells C e)).freeze { block := w.heap.size, off := C.size } 1 = w.drew.alloc (.cells C e (C.size, C.size + 1)) := by
    have hh : ((w.heap.push (.cells C e)).modify w.heap.size fun
        | .cells c elem (lo, hi) => .cells c elem (if lo == hi then (C.size, C.size + 1) else (min lo C.size, max hi (C.size + 1)))
        | o => o) = w.heap.push (.cells C e (C.size, C.size + 1)) := by
      apply Array.ext_getElem?
      intro i
      rw [Array.getElem?_modify, Array.getElem?_push, Array.getElem?_push]
      by_cases hi : i = w.heap.size
      · subst hi; simp
      · simp [hi, Ne.symm hi]
    unfold World.freeze
    rw [if_neg (by decide)]
    show ({ w.drew with heap := (w.heap.push (.cells C e)).modify w.heap.size fun
        | .cells c elem (lo, hi) => .cells c elem (if lo == hi then (C.size, C.size + 1) else (min lo C.size, max hi (C.size + 1)))
        | o => o } : World) = _
    rw [hh]; rfl
  have hrun : (Conv.stringToBytes e s).run P w = .ok (.slice (some ⟨w.heap.size, 0, none⟩) s.size cap) (w.drew.alloc (.cells C e (C.size, C.size + 1))) := by
    rw [← hfz]
    have h1 : (choose (.appendCap s.size 0 e)).run P w = .ok cap w.drew := by rw [run_choose, hcap]; rfl
    simp only [Conv.stringToBytes, Sem.run_bind, h1, Result.andThen_ok, newRow, run_newObj, Sem.run_pure, markStringish, run_shape]
    have h2 : World.shape? { w.drew with heap := w.drew.heap.push (.cells C e) } w.drew.heap.size = some (e, C.size) := by
      show (match (w.heap.push (.cells C e))[w.heap.size]? with | some (.cells c elem _) => some (elem, c.size) | _ => none) = _
      rw [Array.getElem?_push_size]
    simp only [C] at h2
    rw [h2]
    rfl
  have hrel : ∀ w' : World, RelL S w' (ofBytes s.data.toList ++ List.replicate (cap - s.size) (.int .u8 0)) C.toList := by
    intro w'
    have e1 : C.toList = (s.data.toList.map fun b => Value.int .u8 b.toNat) ++ List.replicate (cap - s.size) (.int .u8 0) := by simp [C]
    rw [e1]
    exact (ofBytes_rel _).append (.replicate (.int _ _) _)
  obtain ⟨q1, q2, q3, q4⟩ := new_obj hw.drew (.cells C e (C.size, C.size + 1)) (.cells (ofBytes s.data.toList ++ List.replicate (cap - s.size) (.int .u8 0)))
    fun S' hE => ⟨C, e, (C.size, C.size + 1), heap_alloc_new w.drew _, fun off ho => by simp only; omega, hE.relL (hrel _)⟩
  refine ⟨.slice (some ⟨w.heap.size, 0, none⟩) s.size cap, _, _, _, .inl ?_, h w.heap.size cap hle hlt hw.fresh.1 hw.fresh.2, .msl _ _ _ _ _ hle, q3, (Ext.drew w).trans q4⟩
  simp only [convert, Sem.run_bind, run_under ht, run_under hd, run_under he, Result.andThen_ok]
  rw [hrun]
  rfl
theorem mark_acts (hw : WR S w) {t e : TypeId} (ht : P.underlying t = some (.slice e)) (he : P.underlying e = some (.int .u8)) {x : AV} {V : Value} (hx : Rel S w x V) {K : AV → St → Prop} (h : xmark x S K) :
    Acts P S w (do pure (.value (← convert t t V))) K := by
  unfold xmark at h
  split at h
  case h_2 => exact h.elim
  rename_i b n c
  split at h
  case h_2 => exact h.elim
  rename_i cs hb
  obtain ⟨hl, rfl, hK⟩ := h
  cases hx with
  | msl _ _ _ _ _ hn =>
  obtain ⟨C, ty, fz0, hh, hf0, hr⟩ := hw.obj b _ hb
  have hu := freeze_upd w b C.size 1
  have hcells : ∃ fz, (w.freeze ⟨b, C.size, none⟩ 1).heap[b]? = some (.cells C ty fz) := by
    unfold World.freeze
    rw [if_neg (by decide)]
    obtain ⟨lo, hi⟩ := fz0
    simp only [Array.getElem?_modify, if_true, hh, Option.map_some]
    exact ⟨_, rfl⟩
  obtain ⟨fz, hfz⟩ := hcells
  have hsh := shape_cells hh hfz rfl
  have hle : (S.delObj b).le S := ⟨fun k o h => by
    by_cases hk : k = b
    · subst hk; simp at h
    · simpa [hk] using h, fun k x h => h⟩
  have hne : ∀ {k}, S.obj k = none → k ≠ b := fun h e => by rw [e, hb] at h; cases h
  have hE : Ext S w (S.delObj b) (w.freeze ⟨b, C.size, none⟩ 1) := by
    refine ⟨hu.os, hu.tape, hu.output, Nat.le_of_eq hu.size.symm, ?_, ?_, ?_, ?_, ?_⟩
    · intro k _ ho; simp [hne ho, ho]
    · intro k _ _ y ht; exact ⟨y, ht, Nat.le_refl _⟩
    · intro k _ ho _; exact hu.heap k (hne ho)
    · intro k y _ ho _ off _; exact cell?_of_heap (hu.heap k (hne ho))
    · intro k e' N h
      by_cases hc : k = b
      · subst hc; rw [hsh]; exact h
      · simp only [World.shape?, hu.heap k hc] at h ⊢; exact h
  have hwr : WR (S.delObj b) (w.freeze ⟨b, C.size, none⟩ 1) := by
    refine hw.step hE (fun k o hk => ?_) (fun k y hk => ?_)
    · by_cases hc : k = b
      · subst hc; simp at hk
      · simp [hc] at hk; exact .inl ⟨hk, hu.heap k hc⟩
    · have hk' : S.tok k = some y := hk
      have h2 := hne (hw.tok k y hk').1
      exact .inl ⟨hk', by simp [h2]; exact (hw.tok k y hk').1, hu.heap k h2⟩
  have hbt : S.tok b = none := by
    cases hc : S.tok b with
    | none => rfl
    | some y => have := (hw.tok b y hc).1; rw [hb] at this; cases this
  have hr' := hE.relL hr
  refine ⟨.slice (some ⟨b, 0, none⟩) c c, _, _, _, .inl ?_, hK, .slice _ C.toList _ _ b 0 _ (fun i v hv => ⟨by simp, fun y hy => ?_, ?_⟩) hr'.len hr'.rel (Nat.le_refl _) rfl, hwr, hE⟩
  · have hs : w.shape? b = some (ty, C.size) := by simp only [World.shape?, hh]
    simp only [convert, Sem.run_bind, run_under ht, run_under he, Result.andThen_ok, beq_self_eq_true, markStringish, run_shape, hs, run_freeze, Sem.run_pure]
  · have : S.tok b = some y := hy
    rw [hbt] at this; cases this
  · rw [Nat.zero_add]
    simp only [World.cell?, hfz, Option.isSome_none, Bool.false_eq_true, if_false]
    simpa using hv
end
end Go.AM
