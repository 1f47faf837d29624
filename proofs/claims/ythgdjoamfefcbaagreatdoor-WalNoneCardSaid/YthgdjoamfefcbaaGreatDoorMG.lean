/- Own texts G1, G2, G3, G4, G5, G6, G7 of this claim, joined. -/
import Derived.Test.YthgdjoamfefcbaaGreatDoorMC
import Derived.Test.YthgdjoamfefcbaaGreatDoorMB7
import Derived.Test.YthgdjoamfefcbaaGreatDoorME
import Derived.Test.YthgdjoamfefcbaaGreatDoorMB2
set_option linter.all false
set_option linter.unusedVariables false
set_option linter.unusedSimpArgs false
set_option linter.unnecessarySimpa false
/-
  next, with an answer that is one's own.
-/
namespace Go.AM
open Go
set_option maxRecDepth 20000

def Sp32o : Spec := rspec (fun (x : (List UInt8 × Own) × Option (Nat × List UInt8 × List UInt8)) args _ => args = [bsl x.1.1 x.1.2] ∧ (x.1.2 = .nil → x.1.1 = []) ∧ x.1.1.length ≤ 1073741824 ∧ (match x.2 with
    | some (k, s, rest) => x.1.1 = frameB k s ++ rest ∧ k ≤ 2 ∧ s.length ≤ 60000
    | none => Partial x.1.1))
  fun x S v S' => match x.2 with
    | some (k, s, _) => ∃ nb cap, s.length ≤ cap ∧ cap ≤ 9223372036854775807 ∧ v = .tuple [.int .i64 k, .msl nb 0 s.length (some cap) 1, .int .i64 (frameB k s).length] ∧ S.obj nb = none ∧ S.tok nb = none ∧ S' = S.setObj nb (.cells (ofBytes s ++ List.replicate (cap - s.length) (.int .u8 0)))
    | none => v = nextV none ∧ S' = S
theorem s32o : Sound PR 32 Sp32o := by
  refine sound_r PR_mixed (sounds_cons s48 (sounds_cons s49 (sounds_cons s50 (sounds_cons s51 sounds_nil)))) (monos_cons (rspec_mono _ _) (monos_cons (rspec_mono _ _) (monos_cons (rspec_mono _ _) (monos_cons (rspec_mono _ _) monos_nil)))) (own := own [62]) (ord := O32o) (lh := H32o) (fn := Go.Proofs.Tryz.f32) (by kernel_rfl) (by kernel_rfl) ?_
  rintro ⟨⟨b, o⟩, x⟩ args S ⟨rfl, hon, hb, hx⟩
  rw [W32o_eq]
  refine ⟨rfl, ?_⟩
  unfold W32o
  dsimp only at hon hb hx ⊢
  simp only [obind_some, k_lss, k_len_bsl]
  refine asplit_of _ ?_ ?_
  · intro hlt
    cases x with
    | none => exact done' ⟨rfl, rfl⟩
    | some y =>
      obtain ⟨k, s, rest⟩ := y
      obtain ⟨rfl, h1, h2⟩ := hx
      have := frameB_length k s
      simp at hlt; omega
  · intro hge
    have ho : o ≠ .nil := by intro h; rw [hon h] at hge; simp at hge
    obtain ⟨n, tl, hbe, hn, hnx⟩ : ∃ n tl, b = be4 n ++ tl ∧ n ≤ 60006 ∧ (match x with
        | some (k, s, _) => n = (body k s).length
        | none => b.length < n + 8) := by
      cases x with
      | some y =>
        obtain ⟨k, s, rest⟩ := y
        obtain ⟨rfl, h1, h2⟩ := hx
        exact ⟨(body k s).length, be4 (crc (body k s)) ++ (body k s ++ rest), by simp only [frameB, around, List.append_assoc], (body_length k s h1 h2).2, rfl⟩
      | none =>
        obtain ⟨k, s, t, ht, he, h1, h2⟩ := hx
        have htl : 0 < t.length := List.length_pos_iff.2 ht
        have hl := congrArg List.length he
        rw [frameB_length, List.length_append] at hl
        refine ⟨(body k s).length, b.drop 4, ?_, (body_length k s h1 h2).2, by dsimp only; omega⟩
        have h3 : (b ++ t).take 4 = be4 (body k s).length := by rw [he]; rfl
        rw [List.take_append_of_le_length (by omega)] at h3
        rw [← h3, List.take_append_drop]
    have g0 := get_load (l := b) (o := o) (j := 0) (b := UInt8.ofNat (n / 16777216)) 0 .i64 rfl (by rw [hbe]; rfl)
    have g1 := get_load (l := b) (o := o) (j := 1) (b := UInt8.ofNat (n / 65536)) 1 .i64 rfl (by rw [hbe]; rfl)
    have g2 := get_load (l := b) (o := o) (j := 2) (b := UInt8.ofNat (n / 256)) 2 .i64 rfl (by rw [hbe]; rfl)
    have g3 := get_load (l := b) (o := o) (j := 3) (b := UInt8.ofNat n) 3 .i64 rfl (by rw [hbe]; rfl)
    have w : ∀ m : Nat, m < 256 → IntKind.i64.wrap (m : Int) = m := fun m h => IntWalk.i64_in _ (by omega)
    have q0 : IntKind.i64.wrap ((UInt8.ofNat (n / 16777216)).toNat : Int) = ((0 : Nat) : Int) := by rw [u8n, w _ (by omega)]; omega
    have q1 : IntKind.i64.wrap ((UInt8.ofNat (n / 65536)).toNat : Int) = ((0 : Nat) : Int) := by rw [u8n, w _ (by omega)]; omega
    have q2 : IntKind.i64.wrap ((UInt8.ofNat (n / 256)).toNat : Int) = ((n / 256 : Nat) : Int) := by rw [u8n, w _ (by omega)]; omega
    have q3 : IntKind.i64.wrap ((UInt8.ofNat n).toNat : Int) = ((n % 256 : Nat) : Int) := by rw [u8n, w _ (by omega)]
    have s0 : xint .shl .i64 ((0 : Nat) : Int) 24 = some (.int .i64 0) := rfl
    have s1 : xint .shl .i64 ((0 : Nat) : Int) 16 = some (.int .i64 0) := rfl
    have s2 := shl_i64 (n / 256) 8 256 (c := 8) rfl (by omega) rfl (by omega)
    have a0 : IntKind.i64.wrap (8 + 0) = 8 := by decide
    have a2 : IntKind.i64.wrap (8 + ((256 * (n / 256) : Nat) : Int)) = ((8 + 256 * (n / 256) : Nat) : Int) := by rw [IntWalk.i64_in _ (by omega)]; simp
    have a3 : IntKind.i64.wrap (((8 + 256 * (n / 256) : Nat) : Int) + ((n % 256 : Nat) : Int)) = ((n + 8 : Nat) : Int) := by rw [IntWalk.i64_in _ (by omega)]; omega
    simp only [obind_some, List.drop, k_add, k_conv, k_gtr, k_load_r, k_d0, k_t0, k_shl, k_get1, g0.1, g0.2, g1.1, g1.2, g2.1, g2.2, g3.1, g3.2, q0, q1, q2, q3, s0, s1, s2, a0, a2, a3]
    cases x with
    | none =>
      dsimp only at hnx
      have hgt : ((n + 8 : Nat) : Int) > b.length := by omega
      simp only [asplit_true, decide_true, hgt]
      exact done' ⟨rfl, rfl⟩
    | some y =>
      obtain ⟨k, s, rest⟩ := y
      obtain ⟨hb2, h1, h2⟩ := hx
      dsimp only at hnx
      have hfl := frameB_length k s
      have hbl := body_length k s h1 h2
      have hgt : ¬ (((n + 8 : Nat) : Int) > b.length) := by rw [hb2]; simp; omega
      have st := slice_to (l := b) (o := o) (k := n + 8) .i64 (by omega) ho
      have htk : b.take (n + 8) = around (body k s) := by rw [hb2, hnx, ← hfl, List.take_left]; rfl
      rw [htk] at st
      simp only [obind_some, asplit_false, decide_false, hgt, st]
      refine ccall_r (body k s, ownSub 1 o (n + 8) b.length none) ⟨rfl, ownSub_ne ho, hbl.1, by dsimp only; omega⟩ ?_
      rintro _ S1 ⟨r, rfl, hR⟩
      dsimp only at hR
      have hR' : RdAt S S1 r (uv k ++ (uv s.length ++ (s ++ []))) := by simpa [body] using hR
      simp only [obind_some, asplit_false, List.getElem?_cons_zero, List.getElem?_cons_succ, eq_self, ne_eq, not_true, decide_false, k_extract, k_neq]
      refine ccall_r (S, r, k, uv s.length ++ (s ++ [])) ⟨rfl, by dsimp only; omega, hR'⟩ ?_
      rintro _ S2 ⟨rfl, hR2⟩
      refine ccall_r (S, r, s, []) ⟨rfl, by dsimp only; omega, hR2⟩ ?_
      rintro _ S3 ⟨rfl, hR3⟩
      refine ccall_r (S, r) ⟨rfl, hR3⟩ ?_
      rintro _ S3 ⟨rfl, rfl⟩
      have hk2 : ¬ ((k : Int) > 2) := by omega
      dsimp only
      simp only [obind_some, asplit_false, if_false, if_pos, eq_self, ne_eq, not_true, Bool.false_eq_true, decide_false, k_gtr, k_gv_b, k_neq, k_pick, hk2, xs2bo]
      intro nb cap hcap hcp hn1 hn2
      have hsz : (⟨s.toArray⟩ : ByteArray).size = s.length := rfl
      have hS1 : S.obj nb = none := stle_obj hR3.2.1 hn1
      have hS2 : S.tok nb = none := by
        cases hc : S.tok nb with
        | none => rfl
        | some y => rw [hR3.2.1.2 _ _ hc] at hn2; cases hn2
      refine done (S.setObj nb (.cells (ofBytes s ++ List.replicate (cap - s.length) (.int .u8 0)))) (stle_both hR3.2.1 _ _) ⟨nb, cap, hcap, hcp (by rw [hsz]; omega), ?_, hS1, hS2, rfl⟩
      rw [hfl, hnx]
      rfl
end Go.AM
/-
  wal: a file's frames, with answers that are one's own.
-/
namespace Go.AM
open Go
set_option maxRecDepth 20000
variable {R R1 S : St} {w p : Nat} {W : WalS} {D : DS} {v vb vr gd g2 : AV} {o2 : Own} {i : Nat} {rec1 : List AV → St → Prop} {K : En → St → Prop} {pre post : List F} {f : F} {ad : AV}

/-- Rows of one's own, all apart, none of them there before. -/
inductive Owns (B R : St) : List AV → List (List UInt8) → Prop
  | nil : Owns B R [] []
  | cons {v : AV} {b : Nat} {s : List UInt8} {vs : List AV} {ss : List (List UInt8)} (h : ∃ cap, s.length ≤ cap ∧ cap ≤ 9223372036854775807 ∧ v = .msl b 0 s.length (some cap) 1 ∧ R.obj b = some (.cells (ofBytes s ++ List.replicate (cap - s.length) (.int .u8 0)))) (hB : B.obj b = none)
      (hb : ∀ u ∈ vs, ∀ c n cap, u = .msl c 0 n (some cap) 1 → c ≠ b) (t : Owns B R vs ss) : Owns B R (v :: vs) (s :: ss)
theorem Owns.le {B R R' : St} (hl : R.le R') {vs : List AV} {ss : List (List UInt8)} (h : Owns B R vs ss) : Owns B R' vs ss := by
  induction h with
  | nil => exact .nil
  | cons h hB hb _ ih => obtain ⟨cap, h1, h1', h2, h3⟩ := h; exact .cons ⟨cap, h1, h1', h2, hl.1 _ _ h3⟩ hB hb ih
theorem Owns.base {B B' R : St} (hl : B.le B') {vs : List AV} {ss : List (List UInt8)} (h : Owns B' R vs ss) : Owns B R vs ss := by
  induction h with
  | nil => exact .nil
  | cons h hB hb _ ih => exact .cons h (stle_obj hl hB) hb ih
theorem Owns.len {B R : St} {vs : List AV} {ss : List (List UInt8)} (h : Owns B R vs ss) : vs.length = ss.length := by
  induction h with
  | nil => rfl
  | cons _ _ _ _ ih => simp [ih]
theorem Owns.snoc {B R : St} {vs : List AV} {ss : List (List UInt8)} (h : Owns B R vs ss) {v : AV} {nb cap : Nat} {s : List UInt8} (hBn : B.obj nb = none) (hn : R.obj nb = none) (hc : s.length ≤ cap) (hc' : cap ≤ 9223372036854775807) (hv : v = .msl nb 0 s.length (some cap) 1) :
    Owns B (R.setObj nb (.cells (ofBytes s ++ List.replicate (cap - s.length) (.int .u8 0)))) (vs ++ [v]) (ss ++ [s]) := by
  have hl := stle_setObj (St.le_refl R) hn (.cells (ofBytes s ++ List.replicate (cap - s.length) (.int .u8 0)))
  induction h with
  | nil => exact .cons ⟨cap, hc, hc', hv, by simp⟩ hBn (by simp) .nil
  | @cons v0 b0 s0 vs ss h hB0 hb _ ih =>
    obtain ⟨cap0, h1, h1', h2, h3⟩ := h
    refine .cons ⟨cap0, h1, h1', h2, hl.1 _ _ h3⟩ hB0 ?_ ih
    intro u hu c n cp hcp
    rcases List.mem_append.1 hu with hu | hu
    · exact hb u hu c n cp hcp
    · simp at hu
      subst hu
      rw [hv] at hcp
      cases hcp
      rintro rfl
      rw [hn] at h3; cases h3
theorem Tl.obj {R0 R1 : St} {o : Own} {b : Nat} (h : Tl 1 R0 R1 o) (hb : R1.obj b = none) (c : AObj) : Tl 1 (R0.setObj b c) (R1.setObj b c) o :=
  ⟨stle_both h.1 _ _, h.2⟩
theorem call_next_own {E : AV → St → Prop} {K : AV → St → Prop} {o : Own} {b : List UInt8} (k : Nat) (s rest : List UInt8) (hb : b = frameB k s ++ rest) (hk : k ≤ 2) (hs : s.length ≤ 60000) (hon : o ≠ .nil) (hl : b.length ≤ 1073741824)
    (K1 : ∀ nb cap, s.length ≤ cap → cap ≤ 9223372036854775807 → S.obj nb = none → S.tok nb = none → K (.tuple [.int .i64 k, .msl nb 0 s.length (some cap) 1, .int .i64 (frameB k s).length]) (S.setObj nb (.cells (ofBytes s ++ List.replicate (cap - s.length) (.int .u8 0))))) : ccall Sp32o [bsl b o] S K E := by
  refine ccall_r ((b, o), some (k, s, rest)) ⟨rfl, fun h => absurd h hon, hl, hb, hk, hs⟩ ?_
  rintro _ S' ⟨nb, cap, h1, h1', rfl, h2, h3, rfl⟩
  exact K1 nb cap h1 h1' h2 h3
theorem call_next_own_none {E : AV → St → Prop} {K : AV → St → Prop} {o : Own} {b : List UInt8} (hb : Partial b) (hon : o = .nil → b = []) (hl : b.length ≤ 1073741824)
    (K1 : K (.tuple [.int .i64 0, .slice [] 0 .nil, .int .i64 0]) S) : ccall Sp32o [bsl b o] S K E := by
  refine ccall_r ((b, o), none) ⟨rfl, hon, hl, hb⟩ ?_
  rintro _ S' ⟨rfl, rfl⟩
  exact K1
theorem app_own {K : AV → St → Prop} {R0 : St} {rc : List AV} {v x : AV} {o : Own} (h : WkAt R1 S w p W D) (hT : Tl 1 R0 R1 o) (hn : o = .nil → rc.length = 0) (hx : xnews 1 x S = some ([v], 1)) (hv : v.ok1 = true) (hb : rc.length < 1073741824)
    (hK : ∀ o' S' R3 R1', R0.le R3 → Tl 1 R3 R1' o' → o' ≠ .nil → WkAt R1' S' w p W D → K (.slice (rc ++ [v]) (rc ++ [v]).length o') S') : xappend false 1 24 (.slice rc rc.length o) x S K := by
  obtain ⟨S0, h0, hT0⟩ := tl_split h hT
  refine app_tl (S0 := S0) (m := 1) hx (by omega) rfl (by simp [hv]) (by omega) hn (by omega) (by omega) hT0 ?_
  intro o' S' hS hT' hn'
  obtain ⟨R1', k1, k2⟩ := tl_join h0 hT'
  have := hK o' S' R0 R1' (St.le_refl _) k2 (fun h => by have := hn' h; omega) k1
  simpa using this
/-- A file of the chain. -/
theorem i35_own {A1 A2 : List AV → St → Prop} {c : C} {vb0 : AV} {rc0 : List AV} {R0 : St} {b : List UInt8} {pr : List (List UInt8)} {o : Own} {from' : Nat} (hhd : (i = from' ∧ c.k = 0 ∧ c.b = b ∧ rc0 = [] ∧ pr = []) ∨
      (from' < i ∧ c.k = 1 ∧ Owns R R0 (vb0 :: rc0) (b :: pr) ∧ ∃ ad1 ad2 n, xiaddr 1 v (.int .i64 (i - 1 : Nat)) = some ad1 ∧ xiaddr 1 v (.int .i64 i) = some ad2 ∧ n < 1000 ∧ ∀ S', R.le S' → xload false 1 ad1 S' = some (.int .i64 (n : Nat)) ∧ xload false 1 ad2 S' = some (.int .i64 (n + 1 : Nat))))
    (hi : i < 1000) (hcb : c.b.length ≤ 60000) (hcr : ∀ r ∈ c.rs, r.length ≤ 60000) (hp : Partial c.tail) (hl : c.d.length ≤ 268435456) (hpr : pr.length + c.rs.length < 1073741824) (ho : o2 = .nil → c.d = [])
    (hR0 : R.le R0) (hrl : rc0.length = pr.length) (hT : Tl 1 R0 R1 o) (hno : o = .nil → pr = []) (h : WkAt R1 S w p W D)
    (k1 : c.tail ≠ [] → ∀ S' vb rc R0 R1 o, R.le R0 → Owns R R0 (vb :: rc) (b :: (pr ++ c.rs)) → Tl 1 R0 R1 o → (o = .nil → pr ++ c.rs = []) → WkAt R1 S' w p W D → A1 [vb, .slice rc rc.length o, .bool true, .int .i64 (c.good.length : Nat)] S')
    (k2 : c.tail = [] → ∀ S' vb rc R0 R1 o, R.le R0 → Owns R R0 (vb :: rc) (b :: (pr ++ c.rs)) → Tl 1 R0 R1 o → (o = .nil → pr ++ c.rs = []) → WkAt R1 S' w p W D → A2 [vb, .slice rc rc.length o, .bool true, .int .i64 (c.good.length : Nat)] S') :
    I35 Sp32o v (.int .i64 from') (bsl c.d o2) (.int .i64 i) A1 A2 [vb0, .slice rc0 rc0.length o, .bool true, .int .i64 0] S K := by
  unfold I35
  have hhne : c.hd ≠ [] := frameB_ne _ _
  have ho2' : o2 ≠ .nil := by
    intro hc; have := ho hc
    simp only [C.d, C.good, List.append_eq_nil_iff] at this
    exact hhne this.1.1
  have hck : c.k ≤ 2 := by rcases hhd with ⟨_, h, _⟩ | ⟨_, h, _⟩ <;> omega
  have hgl : c.good.length ≤ c.d.length := by simp [C.d]
  have n02 : ¬ ((0 : Int) = 2) := by omega
  have n10 : ¬ ((1 : Int) = 0) := by omega
  have n12 : ¬ ((1 : Int) = 2) := by omega
  have n20 : ¬ (((2 : Nat) : Int) = 0) := by omega
  have z2 : ((2 : Nat) : Int) = 2 := rfl
  have g00 : ¬ ((0 : Int) > 0) := by omega
  refine aloop_inv (fun m l S' => (m = c.rs.length + 2 ∧ ∃ R1 o, l = [vb0, .slice rc0 rc0.length o, .bool true, .int .i64 0] ∧ Tl 1 R0 R1 o ∧ (o = .nil → pr = []) ∧ WkAt R1 S' w p W D) ∨
      (∃ q vb rc R2 R1 o, q ≤ c.rs.length ∧ m = c.rs.length - q + 1 ∧ l = [vb, .slice rc rc.length o, .bool true, .int .i64 ((c.hd ++ recs (c.rs.take q)).length : Nat)] ∧ R.le R2 ∧ Owns R R2 (vb :: rc) (b :: (pr ++ c.rs.take q)) ∧ Tl 1 R2 R1 o ∧ (o = .nil → pr ++ c.rs.take q = []) ∧ WkAt R1 S' w p W D))
    (c.rs.length + 2) (.inl ⟨rfl, R1, o, rfl, hT, hno, h⟩) ?_
  rintro m l S hI rec2 hrec2
  rcases hI with ⟨rfl, R1, o, rfl, hT, hno, h1⟩ | ⟨q, vb, rc, R2, R1, o, hq, rfl, rfl, hR2, hOw, hT, hno, h1⟩
  · -- the head
    have g0 : (0 : Int) < ((c.d.length : Nat) : Int) := by
      have : 0 < c.d.length := List.length_pos_iff.2 (by intro hc; simp only [C.d, C.good, List.append_eq_nil_iff] at hc; exact hhne hc.1.1)
      omega
    have sl : xslice 1 (bsl c.d o2) (some (.int .i64 0)) none none = some (bsl c.d (ownSub 1 o2 c.d.length c.d.length none)) := slice_from (k := 0) .i64 (by omega) ho2'
    simp only [ob_s, as_t, gv_tt, pick_t, g, xfill, xbslice, List.length, List.getD_cons_zero, List.getD_cons_succ, and_true, Nat.zero_add, Nat.le_refl, decide_true, k_lss, k_len_bsl, g0, sl]
    refine call_next_own c.k c.b (recs c.rs ++ c.tail) (by simp [C.d, C.good, C.hd]) hck hcb (ownSub_ne ho2') (by omega) ?_
    intro nb cap hcap hcp hnb hnt
    have h1' := h1.frame (o := .cells (ofBytes c.b ++ List.replicate (cap - c.b.length) (.int .u8 0))) hnb
    have hT' := Tl.obj (b := nb) hT (stle_obj h1.rle hnb) (.cells (ofBytes c.b ++ List.replicate (cap - c.b.length) (.int .u8 0)))
    have hR0n : R0.obj nb = none := stle_obj hT.1 (stle_obj h1.rle hnb)
    have hRn := St.le_trans hR0 (stle_setObj (St.le_refl R0) hR0n (.cells (ofBytes c.b ++ List.replicate (cap - c.b.length) (.int .u8 0))))
    have hfl0 := frame_len c.k c.b hck hcb
    have wz : IntKind.i64.wrap (0 + ((frameB c.k c.b).length : Int)) = (((frameB c.k c.b).length : Nat) : Int) := by rw [IntWalk.i64_in _ (by omega)]; omega
    have z0 : ((0 : Nat) : Int) = 0 := rfl
    have z1 : ((1 : Nat) : Int) = 1 := rfl
    rcases hhd with ⟨hif, hk0, hb0, hr0, hp0⟩ | ⟨hif, hk0, hOw0, ad1, ad2, n, ha1, ha2, hn, hld⟩
    · subst hif hr0 hp0
      simp only [ob_s, setList, Option.map_some, List.set, List.length, List.getElem?_cons_zero, List.getElem?_cons_succ, if_pos, eq_self, Nat.zero_add, k_add, k_cells_ms, k_eql, k_extract]
      rw [hk0] at wz hfl0 ⊢
      refine n35_base (by omega) ?_
      simp only [as_t, as_f, eq_self, decide_true, decide_false, z0, n02, wz]
      refine ⟨_, St.le_refl _, hrec2 (c.rs.length - 0 + 1) _ _ (by omega) (.inr ⟨0, .msl nb 0 c.b.length (some cap) 1, [], _, _, o, Nat.zero_le _, rfl, ?_, hRn, ?_, hT', by simp, h1'⟩)⟩
      · simp [recs, C.hd, hk0]
      · rw [← hb0]
        exact .cons ⟨cap, hcap, hcp, rfl, by simp⟩ (stle_obj hR0 hR0n) (by simp) .nil
    · obtain ⟨hb1, hb2⟩ := hld _ (St.le_trans hRn (St.le_trans hT'.1 h1'.rle))
      simp only [ob_s, setList, Option.map_some, List.set, List.length, List.getElem?_cons_zero, List.getElem?_cons_succ, if_pos, eq_self, Nat.zero_add, k_add, k_cells_ms, k_eql, k_extract]
      rw [hk0] at wz hfl0 ⊢
      refine n35_on (by omega) hif hi hn ha1 ha2 hb1 hb2 ?_
      simp only [as_f, decide_false, z1, n10, n12, wz]
      refine ⟨_, St.le_refl _, hrec2 (c.rs.length - 0 + 1) _ _ (by omega) (.inr ⟨0, vb0, rc0, _, _, o, by omega, rfl, ?_, hRn, ?_, hT', by simpa using hno, h1'⟩)⟩
      · simp [recs, C.hd, hk0]
      · have := hOw0.le (stle_setObj (St.le_refl R0) hR0n (.cells (ofBytes c.b ++ List.replicate (cap - c.b.length) (.int .u8 0))))
        simpa using this
  · -- the records
    have hd0 : 0 < c.hd.length := List.length_pos_iff.2 hhne
    generalize hat : (c.hd ++ recs (c.rs.take q)).length = at'
    have hat0 : 0 < at' := by rw [← hat, List.length_append]; omega
    have hcd : c.d = (c.hd ++ recs (c.rs.take q)) ++ (recs (c.rs.drop q) ++ c.tail) := by
      have : recs c.rs = recs (c.rs.take q) ++ recs (c.rs.drop q) := by rw [← recs_append, List.take_append_drop]
      simp [C.d, C.good, this]
    have hdrop : c.d.drop at' = recs (c.rs.drop q) ++ c.tail := by rw [hcd, ← hat, List.drop_left]
    have hlen : c.d.length = at' + (recs (c.rs.drop q) ++ c.tail).length := by rw [hcd, List.length_append, hat]
    have sl : at' ≤ c.d.length → xslice 1 (bsl c.d o2) (some (.int .i64 at')) none none = some (bsl (recs (c.rs.drop q) ++ c.tail) (ownSub 1 o2 c.d.length c.d.length none)) := by
      intro hle; rw [← hdrop]; exact slice_from (k := at') .i64 hle ho2'
    have ss := sl (by omega)
    have gat : (at' : Int) > 0 := by omega
    rcases Nat.lt_or_ge q c.rs.length with hql | hqe
    · -- one more
      obtain ⟨r, hr⟩ : ∃ r, c.rs[q]? = some r := ⟨c.rs[q], List.getElem?_eq_getElem hql⟩
      have hdr : c.rs.drop q = r :: c.rs.drop (q + 1) := by
        rw [List.drop_eq_getElem_cons hql]
        rw [List.getElem?_eq_getElem hql] at hr
        cases hr; rfl
      have hrm : r ∈ c.rs := List.mem_of_getElem? hr
      have hbd : recs (c.rs.drop q) ++ c.tail = frameB 2 r ++ (recs (c.rs.drop (q + 1)) ++ c.tail) := by rw [hdr]; simp [recs]
      have hfr := frame_len 2 r (by omega) (hcr r hrm)
      have hlb : (recs (c.rs.drop q) ++ c.tail).length = (frameB 2 r).length + (recs (c.rs.drop (q + 1)) ++ c.tail).length := by rw [hbd, List.length_append]
      have lt : (at' : Int) < ((c.d.length : Nat) : Int) := by omega
      simp only [ob_s, as_t, gv_tt, pick_t, g, xfill, xbslice, List.length, List.getD_cons_zero, List.getD_cons_succ, and_true, Nat.zero_add, Nat.le_refl, decide_true, k_lss, k_len_bsl, lt, ss]
      refine call_next_own 2 r (recs (c.rs.drop (q + 1)) ++ c.tail) hbd (by omega) (hcr r hrm) (ownSub_ne ho2') (by omega) ?_
      intro nb cap hcap hcp hnb hnt
      have h1' := h1.frame (o := .cells (ofBytes r ++ List.replicate (cap - r.length) (.int .u8 0))) hnb
      have hT' := Tl.obj (b := nb) hT (stle_obj h1.rle hnb) (.cells (ofBytes r ++ List.replicate (cap - r.length) (.int .u8 0)))
      have hR0n : R2.obj nb = none := stle_obj hT.1 (stle_obj h1.rle hnb)
      have hRn := St.le_trans hR2 (stle_setObj (St.le_refl R2) hR0n (.cells (ofBytes r ++ List.replicate (cap - r.length) (.int .u8 0))))
      have hOn := hOw.snoc (stle_obj hR2 hR0n) hR0n (v := .msl nb 0 r.length (some cap) 1) (s := r) hcap hcp rfl
      simp only [ob_s, setList, Option.map_some, List.set, List.length, List.getElem?_cons_zero, List.getElem?_cons_succ, if_pos, eq_self, Nat.zero_add, k_add, k_cells_ms, k_eql, k_extract]
      refine n35_rec hat0 (by omega) ?_
      have wz : IntKind.i64.wrap ((at' : Int) + ((frameB 2 r).length : Int)) = ((at' + (frameB 2 r).length : Nat) : Int) := by rw [IntWalk.i64_in _ (by omega)]; omega
      simp only [as_t, as_f, eq_self, decide_true, z2]
      have n20' : ¬ ((2 : Int) = 0) := by omega
      simp only [as_f, decide_false, n20']
      have hrcl : rc.length = (pr ++ c.rs.take q).length := by have := hOw.len; simpa using this
      refine app_own (v := .msl nb 0 r.length (some cap) 1) h1' hT' (fun h => by have := hno h; rw [hrcl, this]; rfl) ?_ rfl ?_ ?_
      · simp [xnews]
      · rw [hrcl]; simp; omega
      · intro o' S' R3 R1' hRR hT2 hno' h2
        have htk : c.rs.take (q + 1) = c.rs.take q ++ [r] := by rw [List.take_add_one, hr]; rfl
        simp only [wz]
        refine ⟨S', St.le_refl _, hrec2 (c.rs.length - (q + 1) + 1) _ _ (by omega) (.inr ⟨q + 1, vb, rc ++ [.msl nb 0 r.length (some cap) 1], R3, R1', o', by omega, rfl, ?_, St.le_trans hRn hRR, ?_, hT2, ?_, h2⟩)⟩
        · have e : (c.hd ++ recs (c.rs.take q) ++ frameB 2 r).length = at' + (frameB 2 r).length := by rw [List.length_append, hat]
          rw [htk, recs_append, ← List.append_assoc, recs_one, e]
        · rw [htk, ← List.append_assoc]
          exact hOn.le hRR
        · intro h; exact absurd h hno'
    · -- no more
      have hqe' : q = c.rs.length := by omega
      subst hqe'
      rw [List.take_length] at hat hno hOw
      rw [List.drop_length] at hlen ss hdrop
      have hg : c.good.length = at' := hat
      have hrn : recs ([] : List (List UInt8)) = [] := rfl
      rw [hrn, List.nil_append] at hlen ss
      by_cases ht : c.tail = []
      · have nlt : ¬ ((at' : Int) < ((c.d.length : Nat) : Int)) := by rw [hlen, ht]; simp
        simp only [ob_s, as_f, gv_tt, pick_t, g, xfill, xbslice, List.length, List.getD_cons_zero, List.getD_cons_succ, and_true, Nat.zero_add, Nat.le_refl, decide_false, k_lss, k_len_bsl, nlt]
        rw [← hg]
        exact k2 ht S vb rc R2 R1 o hR2 hOw hT hno h1
      · have htl : 0 < c.tail.length := List.length_pos_iff.2 ht
        have lt : (at' : Int) < ((c.d.length : Nat) : Int) := by omega
        simp only [ob_s, as_t, gv_tt, pick_t, g, xfill, xbslice, List.length, List.getD_cons_zero, List.getD_cons_succ, and_true, Nat.zero_add, Nat.le_refl, decide_true, k_lss, k_len_bsl, lt, ss]
        refine call_next_own_none hp (fun h => absurd h (ownSub_ne ho2')) (by omega) ?_
        simp only [ob_s, as_t, setList, Option.map_some, List.set, List.length, List.getElem?_cons_zero, List.getElem?_cons_succ, if_pos, eq_self, Nat.zero_add, decide_true, k_add, k_cells_sl, k_eql, k_extract]
        refine n35_none ?_
        simp only [as_t]
        rw [← hg]
        exact k1 ht S vb rc R2 R1 o hR2 hOw hT hno h1
end Go.AM
/-
  wal: replay of a log that is whole, with answers that are one's own.
-/
namespace Go.AM
open Go
set_option maxRecDepth 20000

structure XRo where
  R : St
  w : Nat
  p : Nat
  W : WalS
  D : DS
  v : AV
  a : Nat
  base : List UInt8
  ini : List C
  la : C
def XRo.all (x : XRo) : List (List UInt8) := (x.ini ++ [x.la]).flatMap (·.rs)
def XRo.Done (x : XRo) (v : AV) (S' : St) : Prop := ∃ vb rc o R' D', v = .tuple [vb, .slice rc rc.length o, .int .i64 (0 : Nat)] ∧ x.R.le R' ∧ Owns x.R R' (vb :: rc) (x.base :: x.all) ∧
  WkAt R' S' x.w x.p { x.W with num := x.a + x.ini.length, size := x.la.good.length, count := x.all.length } D' ∧ Ok x.D D' (chainF x.a (x.ini ++ [{ x.la with tail := [], s := x.la.good.length }]))
def Sp35o : Spec := rspec (fun (x : XRo) args S => args = [.ptr (some (x.w, 0)), x.v, .int .i64 (0 : Nat)] ∧ WkAt x.R S x.w x.p x.W x.D ∧ IsVec x.R x.v (x.D.fl.map fun f => avI f.n) ∧ Shape x.D.fl [] x.a x.base x.ini x.la [] ∧ x.la.tail = [] ∧ x.D.down = false ∧ x.D.armed = false ∧ x.all.length < 1073741824)
  fun x _ v S' => x.Done v S'
theorem s35o : Sound PR 35 Sp35o := by
  refine sound_r PR_mixed (sounds_cons s30 (sounds_cons s31 (sounds_cons s32o (sounds_cons s33 (sounds_cons s37 (sounds_cons s38 (sounds_cons s52 sounds_nil))))))) (by repeat' first | exact monos_nil | refine monos_cons (rspec_mono _ _) ?_) (own := own []) (ord := O35) (lh := H35) (fn := Go.Proofs.Tryz.f35) (by kernel_rfl) (by kernel_rfl) ?_
  rintro x args S ⟨rfl, h, hvec, hsh, htail, hdown, harm, hall⟩
  rw [W35_eq]
  refine ⟨rfl, ?_⟩
  rw [W35_parts]
  unfold W35P
  obtain ⟨R, w, p, W, D, v, a, base, ini, la⟩ := x
  dsimp only at h hvec hsh htail hdown harm ⊢
  have hsm := h.small
  have hfew := h.few
  have hlen : D.fl.length = ini.length + 1 := by rw [hsh.fl]; simp [chainF_length]
  obtain ⟨hv1, hv2⟩ := hvec
  simp only [List.length_map] at hv1
  have hch : ∀ (cs1 : List C) (c : C) (cs2 : List C), ini ++ [la] = cs1 ++ c :: cs2 → (D.fl.map fun f => avI f.n)[cs1.length]? = some (avI ((a + cs1.length : Nat) : Int)) := by
    intro cs1 c cs2 hc
    rw [List.getElem?_map, hsh.fl, List.nil_append, List.append_nil, hc, chainF_append]
    rw [show cs1.length = (chainF a cs1).length by rw [chainF_length]]
    simp [chainF, chainF_length]
  have w0 : IntKind.i64.wrap ((D.fl.length : Int) - 1) = (D.fl.length : Int) - 1 := IntWalk.i64_in _ (by omega)
  simp only [ob_s, g, k_sub, hv1, w0]
  have z0 : ((0 : Nat) : Int) = 0 := rfl
  refine aloop_inv (fun m l S' => l = [.slice [] 0 .nil, .slice [] 0 .nil, .int .i64 ((m : Int) - 1)] ∧ m ≤ D.fl.length ∧ S' = S) D.fl.length ⟨rfl, Nat.le_refl _, rfl⟩ ?_
  rintro m _ S1 ⟨rfl, hm, rfl⟩ rec hrec
  simp only [ob_s, List.getD_cons_zero, List.getD_cons_succ, k_geq, k_lss, k_sub]
  refine asplit_of _ ?_ ?_
  · intro hge
    obtain ⟨m, rfl⟩ : ∃ m', m = m' + 1 := ⟨m - 1, by omega⟩
    have em : ((m + 1 : Nat) : Int) - 1 = (m : Int) := by omega
    have em2 : IntKind.i64.wrap ((m : Int) - 1) = (m : Int) - 1 := IntWalk.i64_in _ (by omega)
    have hn0 : ¬ ((m : Int) < 0) := by omega
    rw [em]
    simp only [as_f, decide_false, em2, z0, hn0]
    exact ⟨_, St.le_refl _, hrec m _ _ (by omega) ⟨rfl, by omega, rfl⟩⟩
  · intro hlt
    clear hrec rec hlt hm
    have hok0 : Ok D D (chainF a (ini ++ [la])) := ⟨by rw [hsh.fl]; simp, rfl, rfl, hdown⟩
    refine aloop_inv (fun m l S' => (∃ cs1 c cs2 vb rc R0 R1 o D' nu si, ini ++ [la] = cs1 ++ c :: cs2 ∧ m = cs2.length + 2 ∧ l = [vb, .slice rc rc.length o, .bool true, .int .i64 (cs1.length : Nat)] ∧
          (cs1 = [] → vb = .slice [] 0 .nil ∧ rc = []) ∧ (cs1 ≠ [] → Owns R R0 (vb :: rc) (base :: cs1.flatMap (·.rs))) ∧ R.le R0 ∧ Tl 1 R0 R1 o ∧ (o = .nil → cs1.flatMap (·.rs) = []) ∧ WkAt R1 S' w p { W with num := nu, size := si } D' ∧ Ok D D' (chainF a (ini ++ [la]))) ∨
        (∃ vb rc R0 R1 o D', m = 1 ∧ l = [vb, .slice rc rc.length o, .bool true, .int .i64 (ini.length + 1 : Nat)] ∧ R.le R0 ∧ Owns R R0 (vb :: rc) (base :: (ini ++ [la]).flatMap (·.rs)) ∧
          Tl 1 R0 R1 o ∧ WkAt R1 S' w p { W with num := a + ini.length, size := la.good.length } D' ∧ Ok D D' (chainF a (ini ++ [la]))))
      (ini.length + 2) ?_ ?_
    · obtain ⟨c0, rest, hc0, _⟩ := hsh.heads
      refine .inl ⟨[], c0, rest, .slice [] 0 .nil, [], R, R, .nil, D, W.num, W.size, hc0, ?_, rfl, fun _ => ⟨rfl, rfl⟩, fun h => absurd rfl h, St.le_refl _, ⟨St.le_refl _, .inl rfl⟩, fun _ => rfl, h, hok0⟩
      have := congrArg List.length hc0
      simp at this; omega
    clear h S1 hok0
    rintro m l S1 hI rec hrec
    rcases hI with ⟨cs1, c, cs2, vb, rc, R0, R1, o, D1, nu, si, hcs, rfl, rfl, hfst, hown, hR0, hT, hno, h1, hok⟩ | ⟨vb, rc, R0, R1, o, D1, rfl, rfl, hR0, hown, hT, h1, hok⟩
    · -- a file of the chain
      have hcl : cs1.length + cs2.length = ini.length := by have := congrArg List.length hcs; simp at this; omega
      have hcin : c ∈ ini ++ [la] := by rw [hcs]; simp
      have hfl : D1.fl = chainF a cs1 ++ ⟨a + cs1.length, c.d, c.s⟩ :: (chainF (a + cs1.length + 1) cs2) := by rw [hok.fl, hcs, chainF_append]; simp [chainF]
      have hnum : 0 < a + cs1.length ∧ a + cs1.length < 100 := h1.small ⟨a + cs1.length, c.d, c.s⟩ (by rw [hfl]; simp)
      have hdat : datL D1.fl (a + cs1.length) = c.d := by have := h1.sorted; rw [hfl] at this ⊢; exact (datL_mid this).1
      have hdl := h1.len (n := a + cs1.length) hnum.2
      rw [hdat] at hdl
      have hlt : (((cs1.length : Nat) : Int) < (D.fl.length : Nat)) := by omega
      obtain ⟨ad, ha1, ha2⟩ := hv2 S1 (St.le_trans hR0 (St.le_trans hT.1 h1.rle)) _ _ (hch cs1 c cs2 hcs)
      have hload : ∀ S', R.le S' → xload false 1 ad S' = some (.int .i64 ((a + cs1.length : Nat) : Int)) := by
        intro S' hS'
        obtain ⟨ad2, hb1, hb2⟩ := hv2 S' hS' _ _ (hch cs1 c cs2 hcs)
        rw [ha1] at hb1; cases hb1; exact hb2
      have hck : (cs1 = [] → c.k = 0 ∧ c.b = base) ∧ (cs1 ≠ [] → c.k = 1 ∧ c.b = []) := by
        obtain ⟨c0, rest, hc0, hk0, hb0, hr⟩ := hsh.heads
        rw [hcs] at hc0
        cases cs1 with
        | nil =>
          simp only [List.nil_append, List.cons.injEq] at hc0
          rw [hc0.1]; exact ⟨fun _ => ⟨hk0, hb0⟩, fun h => absurd rfl h⟩
        | cons d ds =>
          simp only [List.cons_append, List.cons.injEq] at hc0
          exact ⟨fun h => absurd h (by simp), fun _ => hr c (by rw [← hc0.2]; simp)⟩
      have hcr := hsh.recs c hcin
      have hcb : c.b.length ≤ 60000 := by
        by_cases hc1 : cs1 = []
        · rw [(hck.1 hc1).2]; exact hsh.base
        · rw [(hck.2 hc1).2]; simp
      have hct : c.tail = [] := by
        rcases List.mem_append.1 hcin with hc | hc
        · exact (hsh.full c hc).1
        · simp at hc; rw [hc]; exact htail
      have hpart : Partial c.tail := by rw [hct]; exact ⟨0, [], frameB 0 [], frameB_ne _ _, rfl, by omega, by simp⟩
      have hcnt : (cs1.flatMap (·.rs)).length + c.rs.length < 1073741824 := by
        have : XRo.all ⟨R, w, p, W, D, v, a, base, ini, la⟩ = cs1.flatMap (·.rs) ++ c.rs ++ cs2.flatMap (·.rs) := by simp only [XRo.all, hcs]; simp
        rw [this] at hall
        simp only [List.length_append] at hall
        omega
      have hrl : rc.length = (cs1.flatMap (·.rs)).length := by
        by_cases hc1 : cs1 = []
        · rw [(hfst hc1).2, hc1]; rfl
        · have := (hown hc1).len; simpa using this
      unfold L35
      simp only [ob_s, as_t, g, List.getD_cons_zero, List.getD_cons_succ, Nat.add_zero, decide_true, k_faddr_p, k_load_p, k_lss, k_nilck_p, k_get1, hv1, hlt, ha1, ha2, avI]
      refine call_file h1 hnum.2 ?_
      have hw := h1.obj
      simp only [ob_s, List.getElem?_cons_zero, hw, wcells]
      refine call_read h1.plate hnum hok.down ?_
      intro o2 ho2
      rw [hdat] at ho2 ⊢
      simp only [ob_s, List.getElem?_cons_zero, List.getElem?_cons_succ, k_extract]
      have hsl := split_last hcs
      have hi : cs1.length < 1000 := by omega
      have hne0 : 0 < c.good.length := by
        have : 0 < c.hd.length := List.length_pos_iff.2 (frameB_ne _ _)
        simp only [C.good, List.length_append]; omega
      have hcg : c.d = c.good := by simp [C.d, hct]
      refine i35_own (R := R) (R0 := R0) (rc0 := rc) (vb0 := vb) (from' := 0) (b := base) (pr := cs1.flatMap (·.rs)) ?_ hi hcb hcr hpart (by omega) hcnt ho2 hR0 hrl hT hno h1 (fun ht => absurd hct ht) ?_
      · by_cases hc1 : cs1 = []
        · left
          have := hck.1 hc1
          refine ⟨by rw [hc1]; rfl, this.1, this.2, (hfst hc1).2, by rw [hc1]; rfl⟩
        · right
          have := hck.2 hc1
          obtain ⟨cs1', d, hcd⟩ : ∃ cs1' d, cs1 = cs1' ++ [d] := ⟨cs1.dropLast, cs1.getLast hc1, (List.dropLast_concat_getLast hc1).symm⟩
          have hl1 : cs1.length = cs1'.length + 1 := by rw [hcd]; simp
          obtain ⟨ad', hb1, _⟩ := hv2 S1 (St.le_trans hR0 (St.le_trans hT.1 h1.rle)) _ _ (hch cs1' d (c :: cs2) (by rw [hcs, hcd]; simp))
          have e1 : cs1.length - 1 = cs1'.length := by omega
          refine ⟨by omega, this.1, hown hc1, ad', ad, a + cs1'.length, by rw [e1]; exact hb1, ha1, by omega, fun S' hS' => ⟨?_, ?_⟩⟩
          · obtain ⟨ad2, hb3, hb4⟩ := hv2 S' hS' _ _ (hch cs1' d (c :: cs2) (by rw [hcs, hcd]; simp))
            rw [hb1] at hb3; cases hb3; exact hb4
          · have := hload S' hS'
            rw [hl1] at this
            exact this
      · intro _ S' vb' rc' R0' R1' o' hR0' hOw' hT' hno' h'
        refine a35_good (W := { W with num := nu, size := si }) (f := ⟨a + cs1.length, c.d, c.s⟩) (gd := .bool true) h' hfl ha1 (hload S' (St.le_trans hR0' (St.le_trans hT'.1 h'.rle))) hne0 (by dsimp only; rw [hcg]; exact Nat.le_refl _) hi hok.down ?_ ?_ ?_
        · intro _ S2 h2
          rcases hsl with ⟨h3, h4, h5⟩ | ⟨h3, _⟩
          · subst h3 h4 h5
            exact hrec 1 _ _ (by simp) (.inr ⟨vb', rc', R0', R1', o', D1, rfl, rfl, hR0', by simpa using hOw', hT', h2, hok⟩)
          · cases cs2 with
            | nil => exact absurd rfl h3
            | cons d ds =>
              refine hrec (ds.length + 2) _ _ (by simp) (.inl ⟨cs1 ++ [c], d, ds, vb', rc', R0', R1', o', D1, a + cs1.length, c.good.length, by rw [hcs]; simp, rfl, by simp, fun h => absurd h (by simp), fun _ => by simpa using hOw', hR0', hT', by simpa using hno', h2, hok⟩)
        · intro hk; dsimp only at hk; rw [hcg] at hk; exact absurd rfl hk
        · intro S2 D2 W2 h2 hn hout
          have := hout.was
          rw [hok.armed, harm] at this; cases this
    · -- behind the chain
      unfold L35
      have nlt : ¬ (((ini.length + 1 : Nat) : Int) < ((D.fl.length : Nat) : Int)) := by omega
      simp only [ob_s, as_f, g, List.getD_cons_zero, List.getD_cons_succ, Nat.add_zero, decide_false, k_faddr_p, k_load_p, k_lss, k_nilck_p, k_get1, hv1, nlt]
      have hlg : la.d = la.good := by simp [C.d, htail]
      have hfl : D1.fl = chainF a ini ++ [⟨a + ini.length, la.good, la.s⟩] := by
        rw [hok.fl, chainF_append]; simp [chainF, hlg]
      have hcl : rc.length = ((ini ++ [la]).flatMap (·.rs)).length := by have := hown.len; simpa using this
      refine f35_ok (W := { W with num := a + ini.length, size := la.good.length }) h1 hfl rfl hok.down ?_ ?_
      · intro S2 D2 h2 hok2
        rw [hcl] at h2
        refine done' ⟨vb, rc, o, R0, D2, rfl, hR0, hown, h2.weaken hT.1, ?_⟩
        have := hok.trans hok2
        refine ⟨?_, this.room, this.armed, this.down⟩
        rw [this.fl, chainF_append]; simp [chainF, C.d, C.good, C.hd]
      · intro S2 D2 W2 h2 hn hout
        have := hout.was
        rw [hok.armed, harm] at this; cases this
end Go.AM
/-
  wal: Open of a log that is whole, with answers that are one's own.
-/
namespace Go.AM
open Go
set_option maxRecDepth 20000

structure XOo where
  R : St
  p : Nat
  D : DS
  name : List UInt8
  most : Int
  a : Nat
  base : List UInt8
  ini : List C
  la : C
def Sp11o : Spec := rspec (fun (x : XOo) args S => args = [.ptr (some (x.p, 0)), .str (bstr x.name), .int .i64 x.most] ∧ DkAt x.R S x.p x.name x.D ∧ 1 ≤ x.most ∧ x.most ≤ 1048576 ∧ x.D.down = false ∧ x.D.armed = false ∧ Shape x.D.fl [] x.a x.base x.ini x.la [] ∧ x.la.tail = [])
  fun x _ v S' => ∃ w vb rc o R' D', v = .tuple [.ptr (some (w, 0)), vb, .slice rc rc.length o, .int .i64 (0 : Nat)] ∧ x.R.le R' ∧ Owns x.R R' (vb :: rc) (x.base :: (x.ini ++ [x.la]).flatMap (·.rs)) ∧
    WkAt R' S' w x.p ⟨x.name, x.most, x.a + x.ini.length, x.la.good.length, ((x.ini ++ [x.la]).flatMap (·.rs)).length, false⟩ D' ∧ Ok x.D D' (chainF x.a (x.ini ++ [{ x.la with tail := [], s := x.la.good.length }]))
theorem s11o : Sound PR 11 Sp11o := by
  refine sound_r PR_mixed (sounds_cons s21 (sounds_cons s29 (sounds_cons s30 (sounds_cons s31 (sounds_cons s32 (sounds_cons s33 (sounds_cons s34 (sounds_cons s35o sounds_nil)))))))) (by repeat' first | exact monos_nil | refine monos_cons (rspec_mono _ _) ?_) (own := own []) (ord := O11) (lh := H11) (fn := Go.Proofs.Tryz.f11) (by kernel_rfl) (by kernel_rfl) ?_
  rintro ⟨R, p, D, name, most, a, base, ini, la⟩ args S hpre
  obtain ⟨rfl, hD, hm1, hm2, hd, harm, hsh, htail⟩ := hpre
  dsimp only at hD hm1 hm2 hd harm hsh htail ⊢
  rw [W11_eq]
  refine ⟨rfl, ?_⟩
  unfold W11
  obtain ⟨P, hP, hrp⟩ := hD
  have hnm := hrp.nm
  have h1 : ¬ ((name.length : Int) < 1) := by omega
  have h2 : ¬ ((name.length : Int) > 32) := by omega
  have h3 : ¬ (most < 1) := by omega
  have h4 : ¬ (most > 1048576) := by omega
  simp only [ob_s, as_f, gv_ff, pick_f, g, setList, xbuild, xfill, Option.map_some, List.set, List.length, List.length_cons, if_false, if_pos, and_self, Bool.not_false, eq_self, Nat.zero_add, Nat.reduceAdd, Nat.reduceLeDiff, Option.isNone_some, Bool.false_eq_true, decide_false, k_cells_i, k_cells_p, k_cells_s, k_gtr, k_isnil, k_lss, k_nilp_p, k_slen, bstr_size, h1, h2, h3, h4]
  refine ccall_r (R, p, P) ⟨rfl, hP⟩ ?_
  rintro _ S ⟨rfl, rfl⟩
  dsimp only at hP ⊢
  rw [hrp.down, hd]
  simp only [ob_s, as_f, List.length, true_and, eq_self, Nat.zero_add, Nat.reduceAdd, k_cells_a, xbox]
  intro w hw ht
  have hRw : R.obj w = none := stle_obj hP.rle hw
  have h : WkAt R (S.setObj w (.cells (wcells p ⟨name, most, 0, 0, 0, false⟩))) w p ⟨name, most, 0, 0, 0, false⟩ D :=
    ⟨hRw, P, hP.frame (stle_setObj (St.le_refl _) hw _) (by simp) hw, hrp⟩
  refine call_nums (W := ⟨name, most, 0, 0, 0, false⟩) h ?_
  intro v5 S5 hV
  obtain ⟨R', hRR, h6, hlv, hread⟩ := hV.readW h
  have hfew := h6.few
  have hcnt := hrp.few hsh.fl
  have hlen : D.fl.length = 0 + ((ini.length + 1) + 0) := by rw [hsh.fl]; simp [chainF_length]
  rw [List.length_map] at hlv
  simp only [ob_s, hlv]
  have z0 : ((0 : Nat) : Int) = 0 := rfl
  have n00 : ¬ (((0 : Nat) : Int) > 0) := by omega
  refine aloop_inv (fun m l S' => ∃ (z : Int) (i : Nat), S' = S5 ∧ l = [.int .i64 z, .int .i64 i] ∧ i ≤ D.fl.length ∧ m = D.fl.length - i ∧ (0 < i → z = (0 : Nat))) D.fl.length ⟨-1, 0, rfl, rfl, by omega, by omega, by omega⟩ ?_
  rintro m _ S5 ⟨z, i, rfl, rfl, hi, rfl, hz⟩ rec hrec
  simp only [ob_s, List.getD_cons_zero, List.getD_cons_succ, k_add, k_lss]
  refine asplit_of _ ?_ ?_
  · intro hlt
    have hi' : i < D.fl.length := by omega
    generalize hf0 : D.fl[i] = f
    have hf : D.fl[i]? = some f := by rw [List.getElem?_eq_getElem hi', hf0]
    have hfm : f ∈ D.fl := List.mem_of_getElem? hf
    have hnum := h6.small f hfm
    have hdat : datL D.fl f.n = f.d := by
      obtain ⟨x, y, hxy⟩ := List.append_of_mem hfm
      have := h6.sorted
      rw [hxy] at this ⊢
      exact (datL_mid this).1
    have hdl := h6.len (n := f.n) hnum.2
    rw [hdat] at hdl
    obtain ⟨ad, ha1, ha2⟩ := hread S5 h6.rle i (avI f.n) (by rw [List.getElem?_map, hf]; rfl)
    have hi1 : IntKind.i64.wrap ((i : Int) + 1) = ((i + 1 : Nat) : Int) := by rw [IntWalk.i64_in _ (by omega)]; omega
    simp only [ob_s, ha1, ha2, avI]
    refine call_file (W := ⟨name, most, 0, 0, 0, false⟩) h6 hnum.2 ?_
    refine call_read h6.plate hnum hd ?_
    intro o2 ho2
    rw [hdat] at ho2 ⊢
    have hfd := h6.full f hfm
    have ho2' : o2 ≠ .nil := fun h => hfd (ho2 h)
    simp only [ob_s, List.getElem?_cons_zero, List.getElem?_cons_succ, k_extract]
    have hfr0 := hsh.front hf
    simp only [List.length_nil] at hfr0
    rcases hfr0 with ⟨k, s, rest, e1, e2, e3, e4, e5⟩ | ⟨e1, e2⟩
    · refine call_next_some k s rest e1 e2 e3 ho2' (by omega) ?_
      have hfr := frame_len k s e2 e3
      have g0 : ((frameB k s).length : Int) > 0 := by omega
      by_cases hk : k = 0
      · subst hk
        simp only [ob_s, as_t, gv_tt, pick_t, List.getElem?_cons_zero, List.getElem?_cons_succ, eq_self, decide_true, k_eql, k_extract, k_gtr, g0, z0, hi1]
        refine ⟨S5, St.le_refl _, hrec (D.fl.length - (i + 1)) _ _ (by omega) ⟨i, i + 1, rfl, rfl, by omega, rfl, fun h => ?_⟩⟩
        rcases Nat.lt_or_ge 0 i with h5 | h5
        · exact absurd rfl (e5 h5)
        · have : i = 0 := by omega
          rw [this]
      · have nk : ¬ ((k : Int) = 0) := by omega
        simp only [ob_s, as_f, gv_tt, pick_t, List.getElem?_cons_zero, List.getElem?_cons_succ, decide_true, decide_false, k_eql, k_extract, k_gtr, g0, nk, hi1]
        refine ⟨S5, St.le_refl _, hrec (D.fl.length - (i + 1)) _ _ (by omega) ⟨z, i + 1, rfl, rfl, by omega, rfl, fun h => ?_⟩⟩
        rcases Nat.lt_or_ge 0 i with h5 | h5
        · exact hz h5
        · exact absurd (e4 (by omega)) hk
    · refine call_next_none e1 ho2 (by omega) ?_
      have n00' : ¬ ((0 : Int) > 0) := by omega
      simp only [ob_s, as_f, gv_ft, pick_f, List.getElem?_cons_zero, List.getElem?_cons_succ, decide_false, k_extract, k_gtr, n00', hi1]
      refine ⟨S5, St.le_refl _, hrec (D.fl.length - (i + 1)) _ _ (by omega) ⟨z, i + 1, rfl, rfl, by omega, rfl, fun h => hz (by omega)⟩⟩
  · intro hge
    have hzz := hz (by omega)
    subst hzz
    have nneg : ¬ ((0 : Int) < 0) := by omega
    simp only [as_f, decide_false, z0, nneg]
    refine ccall_r (⟨R', w, p, ⟨name, most, 0, 0, 0, false⟩, D, v5, a, base, ini, la⟩ : XRo) ⟨rfl, h6, ⟨by rw [hlv]; simp, hread⟩, hsh, htail, hd, harm, by simp only [XRo.all]; omega⟩ ?_
    rintro v6 S6 ⟨vb, rc, o, R2, D', rfl, k1, k2, k3, k4⟩
    simp only [ob_s, as_f, List.getElem?_cons_zero, List.getElem?_cons_succ, eq_self, ne_eq, not_true, decide_false, k_extract, k_neq, z0]
    exact done' ⟨w, vb, rc, o, R2, D', rfl, St.le_trans hRR k1, k2.base hRR, k3, k4⟩
end Go.AM
/-
  WalNone: a nil log; a copy with room behind it; lists that share no memory.
-/
namespace Go.AM
open Go
set_option maxRecDepth 20000

@[congr] theorem gif_congr {v v' : AV} {w : Bool} {f : (AV → St → Prop) → Prop} {S : St} {K : AV → St → Prop} (h : v = v') : gif v w f S K = gif v' w f S K := by rw [h]
theorem gif_ff (f : (AV → St → Prop) → Prop) (S : St) (K : AV → St → Prop) : gif (.bool false) false f S K = f K := Eq.trans (Eq.refl _) (Eq.refl _)
theorem gif_tt (f : (AV → St → Prop) → Prop) (S : St) (K : AV → St → Prop) : gif (.bool true) true f S K = f K := Eq.trans (Eq.refl _) (Eq.refl _)
theorem gif_tf (f : (AV → St → Prop) → Prop) (S : St) (K : AV → St → Prop) : gif (.bool true) false f S K = K (.tuple []) S := Eq.trans (Eq.refl _) (Eq.refl _)
theorem gif_ft (f : (AV → St → Prop) → Prop) (S : St) (K : AV → St → Prop) : gif (.bool false) true f S K = K (.tuple []) S := Eq.trans (Eq.refl _) (Eq.refl _)
/-- One or the other. -/
def orS (A B : Spec) : Spec := fun args S K => A args S K ∨ B args S K
theorem orS_mono {A B : Spec} (ha : Mono A) (hb : Mono B) : Mono (orS A B) := fun args S Q Q' h k => k.elim (fun x => .inl (ha _ _ _ _ h x)) fun x => .inr (hb _ _ _ _ h x)
theorem orS_sound {P : Program} {f : FuncId} {A B : Spec} (ha : Sound P f A) (hb : Sound P f B) : Sound P f (orS A B) :=
  ⟨ha.1, fun args vals S w Q hw hr h => h.elim (fun x => ha.2 args vals S w Q hw hr x) fun x => hb.2 args vals S w Q hw hr x⟩
theorem ccall_inl {A B : Spec} {args : List AV} {S : St} {K E : AV → St → Prop} (h : ccall A args S K E) : ccall (orS A B) args S K E := Or.inl h
theorem ccall_inr {A B : Spec} {args : List AV} {S : St} {K E : AV → St → Prop} (h : ccall B args S K E) : ccall (orS A B) args S K E := Or.inr h

def Sp12n : Spec := rspec (fun (x : AV) args _ => args = [.ptr none, x]) fun _ S v S' => v = .int .i64 12 ∧ S' = S
theorem s12n : Sound PR 12 Sp12n := by
  refine sound_r PR_mixed (sounds_cons s31 (sounds_cons s36 (sounds_cons s37 (sounds_cons s38 (sounds_cons s39 sounds_nil))))) (by repeat' first | exact monos_nil | refine monos_cons (rspec_mono _ _) ?_) (own := own []) (ord := O12) (lh := H12) (fn := Go.Proofs.Tryz.f12) (by kernel_rfl) (by kernel_rfl) ?_
  rintro x args S rfl
  rw [W12_eq]
  refine ⟨rfl, ?_⟩
  unfold W12
  simp only [ob_s, as_t, xfill, xbslice, List.length, if_false, and_true, Bool.not_true, Nat.zero_add, Nat.le_refl, Option.isNone_none, Bool.false_eq_true, k_isnil, k_nilp_p]
  exact done' ⟨rfl, rfl⟩
def Sp13n : Spec := rspec (fun (_ : Unit) args _ => args = [.ptr none]) fun _ S v S' => v = .int .i64 12 ∧ S' = S
theorem s13n : Sound PR 13 Sp13n := by
  refine sound_r PR_mixed (sounds_cons s31 (sounds_cons s37 (sounds_cons s38 sounds_nil))) (by repeat' first | exact monos_nil | refine monos_cons (rspec_mono _ _) ?_) (own := own []) (ord := O13) (lh := H13) (fn := Go.Proofs.Tryz.f13) (by kernel_rfl) (by kernel_rfl) ?_
  rintro x args S rfl
  rw [W13_eq]
  refine ⟨rfl, ?_⟩
  unfold W13
  simp only [ob_s, as_t, xfill, xbslice, List.length, if_false, and_true, Bool.not_true, Nat.zero_add, Nat.le_refl, Option.isNone_none, Bool.false_eq_true, k_isnil, k_nilp_p]
  exact done' ⟨rfl, rfl⟩
def Sp14n : Spec := rspec (fun (x : AV) args _ => args = [.ptr none, x]) fun _ S v S' => v = .int .i64 12 ∧ S' = S
theorem s14n : Sound PR 14 Sp14n := by
  refine sound_r PR_mixed (sounds_cons s34 sounds_nil) (by repeat' first | exact monos_nil | refine monos_cons (rspec_mono _ _) ?_) (own := own []) (ord := O14) (lh := H14) (fn := Go.Proofs.Tryz.f14) (by kernel_rfl) (by kernel_rfl) ?_
  rintro x args S rfl
  rw [W14_eq]
  refine ⟨rfl, ?_⟩
  unfold W14
  simp only [ob_s, as_t, if_false, Bool.not_true, Option.isNone_none, Bool.false_eq_true, k_isnil, k_nilp_p]
  exact done' ⟨rfl, rfl⟩
def Sp15n : Spec := rspec (fun (_ : Unit) args _ => args = [.ptr none]) fun _ S v S' => v = .int .i64 0 ∧ S' = S
theorem s15n : Sound PR 15 Sp15n := by
  refine sound_r PR_mixed sounds_nil monos_nil (own := own []) (ord := O15) (lh := H15) (fn := Go.Proofs.Tryz.f15) (by kernel_rfl) (by kernel_rfl) ?_
  rintro x args S rfl
  rw [W15_eq]
  refine ⟨rfl, ?_⟩
  unfold W15
  simp only [ob_s, as_t, if_false, Bool.not_true, Option.isNone_none, Bool.false_eq_true, k_isnil, k_nilp_p]
  exact done' ⟨rfl, rfl⟩

theorem xstore_at {S : St} {b i : Nat} {v : AV} {cs : List AV} {K : AV → St → Prop} (hb : S.obj b = some (.cells cs)) (hi : i < cs.length) (hv : xcells v = some [v]) (ho : v.ok1 = true) (k : K (.tuple []) (S.setObj b (.cells (cs.set i v)))) :
    xstore 1 (.ptr (some (b, i))) v S K := by
  unfold xstore
  simp only [hb, hv, ob_s, setList]
  exact ⟨rfl, by simp [ho], by omega, k⟩
theorem msl_at {b off n : Nat} {cap : Option Nat} {i : Nat} (h : i < n) : xiaddr 1 (.msl b off n cap 1) (.int .i64 (i : Nat)) = some (.ptr (some (b, off + i))) := by
  have h2 : (0 : Int) ≤ (i : Nat) ∧ ((i : Nat) : Int) < (n : Nat) := ⟨by omega, by omega⟩
  simp only [xiaddr, h2, and_self, if_true, Int.toNat_natCast, Nat.mul_one]
theorem msl_load {S : St} {b i : Nat} {cs : List AV} {v : AV} (hb : S.obj b = some (.cells cs)) (h : cs[i]? = some v) : xload false 1 (.ptr (some (b, i))) S = some v := by
  simp only [xload, hb, getCells, Bool.false_eq_true, if_false, h]
theorem msl_to {b n c k : Nat} (h : k ≤ c) : xslice 1 (.msl b 0 n (some c) 1) none (some (.int .i64 (k : Nat))) none = some (.msl b 0 k (some c) 1) := by
  have h3 : ((k : Nat) : Int) ≤ (c : Nat) := by omega
  have h4 : (0 : Int) ≤ (k : Nat) := by omega
  simp [xslice, xbound, h3, h4]

/-- What is behind the copy. -/
def tail77 (j : Nat) : List AV := List.replicate j (.int .u8 77) ++ List.replicate (3 - j) (.int .u8 0)
def roomC (b : List UInt8) : List AV := ofBytes b ++ [.int .u8 77, .int .u8 77, .int .u8 77]
def Sp16 : Spec := rspec (fun (x : AV × List UInt8) args S => args = [x.1] ∧ Byt S x.1 x.2 ∧ x.2.length ≤ 1073741824)
  fun x S v S' => ∃ nb, S.obj nb = none ∧ S.tok nb = none ∧ v = .msl nb 0 x.2.length (some (x.2.length + 3)) 1 ∧ S' = S.setObj nb (.cells (roomC x.2))
theorem s16 : Sound PR 16 Sp16 := by
  refine sound_r PR_mixed sounds_nil monos_nil (own := own []) (ord := O16) (lh := H16) (fn := Go.Proofs.Tryz.f16) (by kernel_rfl) (by kernel_rfl) ?_
  rintro ⟨v, s⟩ args S ⟨rfl, hB, hl⟩
  rw [W16_eq]
  refine ⟨rfl, ?_⟩
  unfold W16
  dsimp only at hB hl ⊢
  have w3 : IntKind.i64.wrap (((s.length : Nat) : Int) + 3) = ((s.length + 3 : Nat) : Int) := by rw [IntWalk.i64_in _ (by omega)]; omega
  simp only [ob_s, g, List.length, true_and, eq_self, Nat.zero_add, Nat.reduceLT, Nat.mul_one, k_add, k_len_m, hB.len, w3, xmkslice]
  repeat' (refine And.intro (by omega) ?_)
  intro b hb ht
  have hB1 := hB.le (stle_setObj (St.le_refl S) hb (.cells ((List.range (s.length + 3)).map fun i => [AV.int .u8 0].getD (i % 1) .dead)))
  simp only [Int.toNat_natCast] at *
  have hmin : min s.length (s.length + 3) = s.length := by omega
  simp only [xcopy, hB1.news, ob_s, St.obj_setObj, if_true, ofBytes_ok, true_and, Nat.mul_one, hmin]
  refine ⟨by omega, by simp, ?_⟩
  have e1 : setList ((List.range (s.length + 3)).map fun i => [AV.int .u8 0].getD (i % 1) .dead) 0 ((ofBytes s).take s.length) = ofBytes s ++ tail77 0 := by
    rw [List.take_of_length_le (by simp)]
    have e2 : ((List.range (s.length + 3)).map fun i => [AV.int .u8 0].getD (i % 1) .dead) = List.replicate s.length (.int .u8 0) ++ tail77 0 := by
      apply List.ext_getElem?
      intro i
      simp only [tail77, List.replicate_zero, List.nil_append, List.getElem?_map, Nat.mod_one, List.getD_cons_zero, List.replicate_append_replicate, Nat.sub_zero, List.getElem?_replicate]
      by_cases hi : i < s.length + 3
      · simp [hi]
      · simp [hi]
    rw [e2]
    have h1 := setList_at (ofBytes s) (List.replicate s.length (.int .u8 0) ++ tail77 0) 0 (by simp)
    have h2 : ∀ (vs cs ds : List AV) (o : Nat), o + vs.length ≤ cs.length → setList (cs ++ ds) o vs = setList cs o vs ++ ds := by
      intro vs
      induction vs with
      | nil => intro cs ds o _; rfl
      | cons v vs ih =>
        intro cs ds o ho
        simp only [List.length_cons] at ho
        simp only [setList]
        rw [List.set_append_left _ _ (by omega), ih _ _ _ (by simp; omega)]
    rw [h2 _ _ _ _ (by simp), setList_all _ _ (by simp)]
  rw [setObj_setObj, e1]
  refine aloop_inv (fun m l S' => ∃ j, j ≤ 3 ∧ m = 3 - j ∧ l = [.int .i64 (s.length + j : Nat)] ∧ S' = S.setObj b (.cells (ofBytes s ++ tail77 j))) 3 ⟨0, by omega, by omega, rfl, rfl⟩ ?_
  rintro m _ _ ⟨j, hj, rfl, rfl, rfl⟩ rec hrec
  simp only [ob_s, List.getD_cons_zero, k_add, k_lss]
  refine asplit_of _ ?_ ?_
  · intro hlt
    have hj3 : j < 3 := by omega
    have hat := msl_at (b := b) (off := 0) (n := s.length + 3) (cap := some (s.length + 3)) (i := s.length + j) (by omega)
    have w1 : IntKind.i64.wrap (((s.length + j : Nat) : Int) + 1) = ((s.length + (j + 1) : Nat) : Int) := by rw [IntWalk.i64_in _ (by omega)]; omega
    rw [Nat.zero_add] at hat
    rw [hat, ob_s]
    have ht77 : (tail77 j).length = 3 := by simp [tail77]; omega
    refine xstore_at (cs := ofBytes s ++ tail77 j) (by simp) (by simp [ht77]; omega) rfl rfl ?_
    have e3 : (ofBytes s ++ tail77 j).set (s.length + j) (.int .u8 77) = ofBytes s ++ tail77 (j + 1) := by
      rw [List.set_append_right _ _ (by simp)]
      congr 1
      simp only [ofBytes_length, Nat.add_sub_cancel_left]
      have : j = 0 ∨ j = 1 ∨ j = 2 := by omega
      rcases this with rfl | rfl | rfl <;> rfl
    rw [e3, setObj_setObj]
    simp only [w1]
    exact ⟨_, St.le_refl _, hrec (3 - (j + 1)) _ _ (by omega) ⟨j + 1, by omega, rfl, rfl, rfl⟩⟩
  · intro hge
    have hj3 : j = 3 := by omega
    subst hj3
    have hB2 := hB.le (stle_setObj (St.le_refl S) hb (.cells (ofBytes s ++ tail77 3)))
    have hto := msl_to (b := b) (n := s.length + 3) (c := s.length + 3) (k := s.length) (by omega)
    rw [hto]
    simp only [ob_s]
    exact done' ⟨b, hb, ht, rfl, rfl⟩

def Sp17 : Spec := rspec (fun (x : Nat × AV × List UInt8) args S => args = [.msl x.1 0 x.2.2.length (some (x.2.2.length + 3)) 1, x.2.1] ∧ S.obj x.1 = some (.cells (roomC x.2.2)) ∧ Byt S x.2.1 x.2.2 ∧ x.2.2.length ≤ 1073741824)
  fun _ S v S' => v = .bool true ∧ S' = S
theorem s17 : Sound PR 17 Sp17 := by
  refine sound_r PR_mixed (sounds_cons s18 sounds_nil) (by repeat' first | exact monos_nil | refine monos_cons (rspec_mono _ _) ?_) (own := own []) (ord := O17) (lh := H17) (fn := Go.Proofs.Tryz.f17) (by kernel_rfl) (by kernel_rfl) ?_
  rintro ⟨nb, v, s⟩ args S ⟨rfl, ho, hB, hl⟩
  rw [W17_eq]
  refine ⟨rfl, ?_⟩
  unfold W17
  dsimp only at ho hB hl ⊢
  have nne : ¬ (((s.length : Nat) : Int) ≠ ((s.length : Nat) : Int)) := by simp
  have hC : Byt S (.msl nb 0 s.length (some (s.length + 3)) 1) s := .inr ⟨nb, 0, some (s.length + 3), roomC s, rfl, ho, by simp [roomC], by simp [roomC]⟩
  have w : ∀ k : Nat, k ≤ 3 → IntKind.i64.wrap (((s.length : Nat) : Int) + (k : Nat)) = ((s.length + k : Nat) : Int) := by intro k hk; rw [IntWalk.i64_in _ (by omega)]; omega
  have w1 : IntKind.i64.wrap (((s.length : Nat) : Int) + 1) = ((s.length + 1 : Nat) : Int) := w 1 (by omega)
  have w2 : IntKind.i64.wrap (((s.length : Nat) : Int) + 2) = ((s.length + 2 : Nat) : Int) := w 2 (by omega)
  have w3 : IntKind.i64.wrap (((s.length : Nat) : Int) + 3) = ((s.length + 3 : Nat) : Int) := w 3 (by omega)
  have hat : ∀ k, k < 3 → xiaddr 1 (.msl nb 0 (s.length + 3) (some (s.length + 3)) 1) (.int .i64 (s.length + k : Nat)) = some (.ptr (some (nb, s.length + k))) := by
    intro k hk
    have := msl_at (b := nb) (off := 0) (n := s.length + 3) (cap := some (s.length + 3)) (i := s.length + k) (by omega)
    rwa [Nat.zero_add] at this
  have hld : ∀ k, k < 3 → xload false 1 (.ptr (some (nb, s.length + k))) S = some (.int .u8 77) := by
    intro k hk
    refine msl_load ho ?_
    rw [roomC, List.getElem?_append_right (by simp)]
    simp only [ofBytes_length, Nat.add_sub_cancel_left]
    have : k = 0 ∨ k = 1 ∨ k = 2 := by omega
    rcases this with rfl | rfl | rfl <;> rfl
  have hto := msl_to (b := nb) (n := s.length) (c := s.length + 3) (k := s.length + 3) (by omega)
  have hat0 := hat 0 (by omega)
  have hld0 := hld 0 (by omega)
  simp only [Nat.add_zero] at hat0 hld0
  simp only [ob_s, gv_ff, pick_f, if_pos, eq_self, decide_false, k_add, k_gif_b, k_len_m, k_neq, hB.len, nne]
  refine ccall_r (_, v, s, s) ⟨rfl, hC, hB, hl, hl⟩ ?_
  rintro _ S1 ⟨rfl, rfl⟩
  simp only [ob_s, as_f, gv_tt, pick_t, Bool.not_true, eq_self, decide_true, k_add, k_eql, k_not, hB.len, w1, w2, w3, hto, hat0, hld0, hat 1 (by omega), hat 2 (by omega), hld 1 (by omega), hld 2 (by omega)]
  exact done' ⟨rfl, rfl⟩
end Go.AM
/-
  WalNone: lists that share no memory.
-/
namespace Go.AM
open Go
set_option maxRecDepth 20000

/-- A list of one's own: its block, its length, its room. -/
structure Ls where
  b : Nat
  n : Nat
  c : Nat
def Ls.av (l : Ls) : AV := .msl l.b 0 l.n (some l.c) 1
def valA (k : Nat) : AV := .int .u8 ((k + 1 : Nat) : Int)
/-- The lists up to one are written over, of that one the first cells. -/
def LsAt (ls : List Ls) (i j : Nat) (S : St) : Prop := ∀ k l, ls[k]? = some l → ∃ cs, S.obj l.b = some (.cells cs) ∧ cs.length = l.c ∧ ∀ q, (k < i ∨ (k = i ∧ q < j)) → q < l.c → cs[q]? = some (valA k)
def Sp19 : Spec := rspec (fun (x : List Ls × Own) args S => args = [.slice (x.1.map Ls.av) x.1.length x.2] ∧ x.1.length ≤ 100 ∧ LsAt x.1 0 0 S ∧ (∀ l ∈ x.1, l.c ≤ 9223372036854775807) ∧ (∀ (i j : Nat) l m, x.1[i]? = some l → x.1[j]? = some m → i ≠ j → l.b ≠ m.b))
  fun _ _ v _ => v = .bool true
theorem ls_at {ls : List Ls} {o : Own} {i : Nat} {l : Ls} (h : ls[i]? = some l) : ∃ ad, xiaddr 1 (.slice (ls.map Ls.av) ls.length o) (.int .i64 (i : Nat)) = some ad ∧ ∀ S, xload false 1 ad S = some l.av := by
  have hi : i < ls.length := by
    rcases Nat.lt_or_ge i ls.length with h1 | h1
    · exact h1
    · rw [List.getElem?_eq_none h1] at h; cases h
  refine ⟨_, k_iaddr_s _ _ _ _ _ _ ⟨by omega, by omega⟩, fun S => ?_⟩
  rw [Nat.mul_one, k_ref1, Int.toNat_natCast, List.getElem?_map, h]; rfl
theorem s19 : Sound PR 19 Sp19 := by
  refine sound_r PR_mixed sounds_nil monos_nil (own := own []) (ord := O19) (lh := H19) (fn := Go.Proofs.Tryz.f19) (by kernel_rfl) (by kernel_rfl) ?_
  rintro ⟨ls, o⟩ args S ⟨rfl, hlen, hat, hcap, hap⟩
  rw [W19_eq]
  refine ⟨rfl, ?_⟩
  unfold W19
  dsimp only at hlen hat hcap hap ⊢
  have hxl : xlen (.slice (ls.map Ls.av) ls.length o) = some (.int .i64 (ls.length : Nat)) := rfl
  have wi : ∀ i : Nat, i ≤ 100 → IntKind.i64.wrap ((i : Int) + 1) = ((i + 1 : Nat) : Int) := by intro i hi; rw [IntWalk.i64_in _ (by omega)]; omega
  have wb : ∀ i : Nat, i ≤ 100 → IntKind.u8.wrap ((i + 1 : Nat) : Int) = ((i + 1 : Nat) : Int) := by intro i hi; rw [IntKind.wrap_u8]; omega
  refine aloop_inv (fun m l S' => ∃ i, i ≤ ls.length ∧ m = ls.length - i ∧ l = [.int .i64 (i : Nat)] ∧ LsAt ls i 0 S') ls.length ⟨0, by omega, by omega, rfl, hat⟩ ?_
  rintro m _ S1 ⟨i, hi, rfl, rfl, h1⟩ rec hrec
  simp only [ob_s, g, List.getD_cons_zero, k_add, k_conv, k_lss, hxl]
  refine asplit_of _ ?_ ?_
  · intro hlt
    have hi' : i < ls.length := by omega
    generalize hl0 : ls[i] = l
    have hl : ls[i]? = some l := by rw [List.getElem?_eq_getElem hi', hl0]
    obtain ⟨ad, ha1, ha2⟩ := ls_at (o := o) hl
    have hto := msl_to (b := l.b) (n := l.n) (c := l.c) (k := l.c) (Nat.le_refl _)
    have hcl := hcap l (List.mem_of_getElem? hl)
    simp only [ob_s, k_cap_m, k_len_m, ha1, ha2, Ls.av, hto]
    refine aloop_inv (fun m l' S' => ∃ j, j ≤ l.c ∧ m = l.c - j ∧ l' = [.int .i64 (j : Nat)] ∧ LsAt ls i j S') l.c ⟨0, by omega, by omega, rfl, h1⟩ ?_
    rintro m _ S2 ⟨j, hj, rfl, rfl, h2⟩ rec1 hrec1
    simp only [ob_s, List.getD_cons_zero, k_add, k_lss]
    refine asplit_of _ ?_ ?_
    · intro hlt2
      have hj' : j < l.c := by omega
      have hm := msl_at (b := l.b) (off := 0) (n := l.c) (cap := some l.c) hj'
      rw [Nat.zero_add] at hm
      have wj : IntKind.i64.wrap ((j : Int) + 1) = ((j + 1 : Nat) : Int) := by rw [IntWalk.i64_in _ (by omega)]; omega
      obtain ⟨cs, hc1, hc2, hc3⟩ := h2 i l hl
      simp only [ob_s, setList, List.length, List.all, true_and, Bool.and_self, eq_self, Nat.zero_add, k_cells_i, k_ok_i, k_store_p, wi i (by omega), wb i (by omega), hm, hc1, wj]
      refine ⟨by omega, _, St.le_refl _, hrec1 (l.c - (j + 1)) _ _ (by omega) ⟨j + 1, by omega, rfl, rfl, ?_⟩⟩
      intro k m hk
      by_cases hki : k = i
      · subst hki
        rw [hl] at hk; cases hk
        refine ⟨cs.set j (valA k), by simp [valA], by simpa using hc2, ?_⟩
        intro q hq hqc
        rw [List.getElem?_set]
        by_cases hqj : j = q
        · subst hqj; simp; omega
        · rw [if_neg hqj]
          exact hc3 q (by omega) hqc
      · obtain ⟨ds, hd1, hd2, hd3⟩ := h2 k m hk
        have hne := hap k i m l hk hl hki
        refine ⟨ds, by simp [hne, hd1], hd2, ?_⟩
        intro q hq hqc
        exact hd3 q (by omega) hqc
    · intro hge
      have hjc : j = l.c := by omega
      subst hjc
      simp only [wi i (by omega)]
      refine ⟨_, St.le_refl _, hrec (ls.length - (i + 1)) _ _ (by omega) ⟨i + 1, by omega, rfl, rfl, ?_⟩⟩
      intro k m hk
      obtain ⟨ds, hd1, hd2, hd3⟩ := h2 k m hk
      refine ⟨ds, hd1, hd2, ?_⟩
      intro q hq hqc
      by_cases hki : k = i
      · subst hki
        rw [hl] at hk; cases hk
        exact hd3 q (.inr ⟨rfl, hqc⟩) hqc
      · exact hd3 q (.inl (by omega)) hqc
  · intro hge
    have hil : i = ls.length := by omega
    subst hil
    clear hrec rec hge hi
    refine aloop_inv (fun m l S' => ∃ i, i ≤ ls.length ∧ m = ls.length - i ∧ l = [.int .i64 (i : Nat)] ∧ S' = S1) ls.length ⟨0, by omega, by omega, rfl, rfl⟩ ?_
    rintro m _ S1 ⟨i, hi, rfl, rfl, rfl⟩ rec hrec
    simp only [ob_s, List.getD_cons_zero, k_add, k_conv, k_lss]
    refine asplit_of _ ?_ ?_
    · intro hlt
      have hi' : i < ls.length := by omega
      generalize hl0 : ls[i] = l
      have hl : ls[i]? = some l := by rw [List.getElem?_eq_getElem hi', hl0]
      obtain ⟨ad, ha1, ha2⟩ := ls_at (o := o) hl
      have hto := msl_to (b := l.b) (n := l.n) (c := l.c) (k := l.c) (Nat.le_refl _)
      have hcl := hcap l (List.mem_of_getElem? hl)
      obtain ⟨cs, hc1, hc2, hc3⟩ := h1 i l hl
      simp only [ob_s, k_cap_m, k_len_m, ha1, ha2, Ls.av, hto]
      refine aloop_inv (fun m l' S' => ∃ j, j ≤ l.c ∧ m = l.c - j ∧ l' = [.int .i64 (j : Nat)] ∧ S' = S1) l.c ⟨0, by omega, by omega, rfl, rfl⟩ ?_
      rintro m _ S1 ⟨j, hj, rfl, rfl, rfl⟩ rec1 hrec1
      simp only [ob_s, List.getD_cons_zero, k_add, k_lss]
      refine asplit_of _ ?_ ?_
      · intro hlt2
        have hj' : j < l.c := by omega
        have hm := msl_at (b := l.b) (off := 0) (n := l.c) (cap := some l.c) hj'
        rw [Nat.zero_add] at hm
        have wj : IntKind.i64.wrap ((j : Int) + 1) = ((j + 1 : Nat) : Int) := by rw [IntWalk.i64_in _ (by omega)]; omega
        have hld := msl_load hc1 (hc3 j (.inl hi') hj')
        have nne : ¬ (((i + 1 : Nat) : Int) ≠ ((i + 1 : Nat) : Int)) := by simp
        simp only [ob_s, as_f, eq_self, ne_eq, not_true, decide_false, k_neq, hm, hld, wi i (by omega), wb i (by omega), valA, wj]
        exact ⟨_, St.le_refl _, hrec1 (l.c - (j + 1)) _ _ (by omega) ⟨j + 1, by omega, rfl, rfl, rfl⟩⟩
      · intro hge
        simp only [wi i (by omega)]
        exact ⟨_, St.le_refl _, hrec (ls.length - (i + 1)) _ _ (by omega) ⟨i + 1, by omega, rfl, rfl, rfl⟩⟩
    · intro hge
      exact done' rfl
end Go.AM
/-
  WalNone, walked.
-/
namespace Go.AM
open Go
set_option maxRecDepth 20000

theorem good_calc {name : List UInt8} {size : Int} {k : AV → Prop} {gg : Bool} (hg : gg = true ↔ goodArg name size) (h : k (.bool gg)) :
    obind (xslen (.str (bstr name))) fun t41 =>
      obind (xbini .geq t41 (.int .i64 1)) fun t42 =>
      obind (gv t42 true (some (.str (bstr name)))) fun t44 =>
      obind (gv t42 true (xslen t44)) fun t45 =>
      obind (gv t42 true (xbini .leq t45 (.int .i64 32))) fun t46 =>
      obind (xpick t42 t46 (.bool false)) fun t47 =>
      obind (gv t47 true (some (.int .i64 size))) fun t49 =>
      obind (gv t47 true (xbini .geq t49 (.int .i64 1))) fun t50 =>
      obind (xpick t47 t50 (.bool false)) fun t51 =>
      obind (gv t51 true (some (.int .i64 size))) fun t53 =>
      obind (gv t51 true (xbini .leq t53 (.int .i64 1048576))) fun t54 =>
      obind (xpick t51 t54 (.bool false)) fun t55 => k t55 := by
  have hf : ¬ goodArg name size → k (.bool false) := by
    intro h0
    have : gg = false := by
      cases gg
      · rfl
      · exact absurd (hg.1 rfl) h0
    rwa [this] at h
  by_cases h1 : (name.length : Int) ≥ 1
  · by_cases h2 : (name.length : Int) ≤ 32
    · by_cases h3 : size ≥ 1
      · by_cases h4 : size ≤ 1048576
        · simp only [ob_s, gv_tt, pick_t, decide_true, k_geq, k_leq, k_slen, bstr_size, h1, h2, h3, h4]
          have : gg = true := hg.2 ⟨by omega, by omega, h3, h4⟩
          rwa [this] at h
        · simp only [ob_s, gv_tt, pick_t, decide_true, decide_false, k_geq, k_leq, k_slen, bstr_size, h1, h2, h3, h4]
          exact hf (fun h => h4 h.2.2.2)
      · simp only [ob_s, gv_tt, gv_ft, pick_t, pick_f, decide_true, decide_false, k_geq, k_leq, k_slen, bstr_size, h1, h2, h3]
        exact hf (fun h => h3 h.2.2.1)
    · simp only [ob_s, gv_tt, gv_ft, pick_t, pick_f, decide_true, decide_false, k_geq, k_leq, k_slen, bstr_size, h1, h2]
      exact hf (fun h => h2 (by have := h.2.1; omega))
  · simp only [ob_s, gv_ft, pick_f, decide_false, k_geq, k_slen, bstr_size, h1]
    exact hf (fun h => h1 (by have := h.1; omega))
/-- Bytes, whichever. -/
def Bytes (n : Nat) (cs : List AV) : Prop := cs.length = n ∧ ∀ q, q < n → ∃ z, cs[q]? = some (.int .u8 z)
theorem room_bytes (b : List UInt8) : Bytes (b.length + 3) (roomC b) := by
  refine ⟨by simp [roomC], fun q hq => ?_⟩
  rcases Nat.lt_or_ge q b.length with h | h
  · refine ⟨(b[q].toNat : Int), ?_⟩
    rw [roomC, List.getElem?_append_left (by simpa using h), ofBytes_get, List.getElem?_eq_getElem h]; rfl
  · refine ⟨77, ?_⟩
    rw [roomC, List.getElem?_append_right (by simpa using h)]
    simp only [ofBytes_length]
    have : q - b.length = 0 ∨ q - b.length = 1 ∨ q - b.length = 2 := by omega
    rcases this with h | h | h <;> rw [h] <;> rfl
theorem Ch.shape {fl : List F} {l : LogR} {a : Nat} {ini : List C} {la : C} (h : Ch fl l a ini la) : Shape fl [] a l.base ini la [] :=
  ⟨by rw [h.fl]; simp, h.heads, h.base, h.recs, h.full, by rw [h.tail]; exact ⟨0, [], frameB 0 [], frameB_ne _ _, rfl, by omega, by simp⟩, by simp, by simp⟩
theorem Ch.again {fl : List F} {l : LogR} {a : Nat} {ini : List C} {la : C} (h : Ch fl l a ini la) {fl' : List F} (hf : fl' = chainF a (ini ++ [{ la with tail := [], s := la.good.length }])) : Shape fl' [] a l.base ini { la with tail := [], s := la.good.length } [] :=
  ⟨by rw [hf]; simp, Heads.last h.heads rfl rfl, h.base, fun c hc => by
    rcases List.mem_append.1 hc with hc | hc
    · exact h.recs c (by simp [hc])
    · simp at hc; subst hc; exact h.recs la (by simp), h.full, ⟨0, [], frameB 0 [], frameB_ne _ _, rfl, by omega, by simp⟩, by simp, by simp⟩

structure NoX where
  name : List UInt8
  size : Int
  v : AV
  b : List UInt8
def Sp4 : Spec := rspec (fun (y : NoX) args S => args = [.str (bstr y.name), .int .i64 y.size, y.v] ∧ Byt S y.v y.b ∧ y.b.length ≤ 9223372036854775807)
  fun _ _ v _ => v = .bool true
theorem s4 : Sound PR 4 Sp4 := by
  refine sound_r PR_mixed
    (sounds_cons s6 (sounds_cons s8 (sounds_cons (orS_sound s11 s11o) (sounds_cons (orS_sound s12n s12) (sounds_cons s13n (sounds_cons s14n (sounds_cons s15n (sounds_cons s16 (sounds_cons s17 (sounds_cons s18 (sounds_cons s19 sounds_nil)))))))))))
    (by repeat' first | exact monos_nil | refine monos_cons (orS_mono (rspec_mono _ _) (rspec_mono _ _)) ?_ | refine monos_cons (rspec_mono _ _) ?_)
    (own := own []) (ord := O4) (lh := H4) (fn := Go.Proofs.Tryz.f4) (by kernel_rfl) (by kernel_rfl) ?_
  rintro ⟨name, size, v, b⟩ args S ⟨rfl, hB, hbl⟩
  rw [W4_eq]
  refine ⟨rfl, ?_⟩
  unfold W4
  dsimp only at hB hbl ⊢
  have z0 : ((0 : Nat) : Int) = 0 := rfl
  have z1 : ((1 : Nat) : Int) = 1 := rfl
  have z12 : ((12 : Nat) : Int) = 12 := rfl
  have n10 : ¬ ((1 : Int) = 0) := by omega
  refine ccall_r (1048576 : Int) ⟨rfl, by omega, by omega⟩ ?_
  rintro _ S1 ⟨p, rfl, hP⟩
  simp only [ob_s, g, xfill, xbslice, List.length, List.getElem?_cons_zero, List.getElem?_cons_succ, and_true, Nat.zero_add, Nat.reduceAdd, Nat.reduceLeDiff, k_extract, k_geq, k_slen]
  by_cases hg : goodArg name size
  · obtain ⟨hg1, hg2, hg3, hg4⟩ := id hg
    have hD := emptyS_dk (n := 1048576) (name := name) ⟨hg1, hg2⟩ (by omega) hP
    refine ccall_inl (ccall_r (XOp.fresh S p _ name size) ⟨rfl, hD, hg3, hg4, rfl, rfl⟩ ?_)
    rintro v1 S2 hpost
    have hlf := live_fresh (D := ⟨[], 1048576, false, 0, false⟩) (name := name) (most := size) rfl rfl (by show 14 ≤ 1048576; omega)
    rcases hlf with ⟨he0, hlive, hroom, harm⟩ | ⟨_, h⟩
    rotate_left
    · cases h
    rcases hpost with ⟨_, w, rfl, h1⟩ | ⟨he, _⟩
    rotate_left
    · exact absurd he0 he
    generalize hD1 : (DS.begin ⟨[], 1048576, false, 0, false⟩ 1 []).2 = D1 at h1 hlive hroom harm
    simp only [ob_s, List.getElem?_cons_zero, List.getElem?_cons_succ, k_extract]
    refine good_calc (gg := true) ⟨fun _ => hg, fun _ => rfl⟩ ?_
    refine ccall_inl (ccall_r (XOp.none name size) rfl ?_)
    rintro _ S3 ⟨rfl, rfl⟩
    simp only [ob_s, gv_ff, pick_f, List.getElem?_cons_zero, List.getElem?_cons_succ, Bool.not_true, k_extract, k_not, noneV]
    refine ccall_r () rfl ?_
    rintro _ S4 ⟨rfl, rfl⟩
    simp only [ob_s, gv_ff, pick_f, Bool.not_true, eq_self, decide_true, k_bneq, k_eql, k_not, z0, z12]
    refine ccall_inl (ccall_r v rfl ?_)
    rintro _ S5 ⟨rfl, rfl⟩
    simp only [ob_s, gv_ff, pick_f, if_false, if_pos, eq_self, ne_eq, not_true, Bool.false_eq_true, decide_false, k_gif_b, k_neq, bne_self_eq_false]
    refine ccall_r () rfl ?_
    rintro _ S6 ⟨rfl, rfl⟩
    simp only [ob_s, gv_ff, pick_f, if_pos, eq_self, ne_eq, not_true, decide_false, k_gif_b, k_neq]
    refine ccall_r v rfl ?_
    rintro _ S7 ⟨rfl, rfl⟩
    simp only [ob_s, gv_ff, pick_f, if_pos, eq_self, ne_eq, not_true, decide_false, k_gif_b, k_neq]
    refine ccall_r () rfl ?_
    rintro _ S8 ⟨rfl, rfl⟩
    simp only [ob_s, as_f, eq_self, ne_eq, not_true, decide_false, k_gtr, k_neq, hB.len]
    by_cases hlong : b.length > 60000
    · have hlong' : ((b.length : Nat) : Int) > 60000 := by omega
      simp only [as_t, decide_true, hlong']
      exact done' rfl
    have hlong' : ¬ ((b.length : Nat) : Int) > 60000 := by omega
    simp only [as_f, decide_false, hlong']
    refine ccall_r (v, b) ⟨rfl, hB.le h1.rle, by dsimp only; omega⟩ ?_
    rintro _ S9 ⟨nb, hnb, hnt, rfl, rfl⟩
    dsimp only
    have h2 := h1.frame (o := .cells (roomC b)) hnb
    have hSn : S.obj nb = none := stle_obj h1.rle hnb
    have hSS : S.le (S.setObj nb (.cells (roomC b))) := stle_setObj (St.le_refl _) hSn _
    refine ccall_inr (ccall_r (S.setObj nb (.cells (roomC b)), w, p, _, D1, _, b) ⟨rfl, h2, .inr ⟨nb, 0, some (b.length + 3), roomC b, rfl, by simp, by simp [roomC], by simp [roomC]⟩, .inr ⟨by dsimp only; omega, by dsimp only; omega, by dsimp only; omega, ?_, by dsimp only; omega, by dsimp only; omega⟩⟩ ?_)
    · have := frame_len 0 [] (by omega) (by simp)
      dsimp only; simp at this; omega
    intro v10 S10 hpost
    dsimp only at hpost
    rw [if_neg hlong, if_neg (by simp)] at hpost
    obtain ⟨rfl, W2, h3, h4, h5, _⟩ := hpost
    rcases live_put hlive h2.sorted (r := b) (by omega) (by rw [hroom]; dsimp only; omega) with ⟨e1, e2, e3, e4, _⟩ | ⟨_, e2⟩
    rotate_left
    · have := e2.was; rw [harm] at this; cases this
    rw [e1] at h5 ⊢
    have hW := h5 rfl
    clear h5
    generalize hD2 : (D1.put _ b).2.2 = D2 at h3 e2 e3 e4
    rw [← hW] at e2
    simp only [ob_s, gv_ff, pick_f, if_pos, eq_self, ne_eq, not_true, decide_false, k_gif_b, k_len_m, k_neq, z0]
    have hS10n : S10.obj nb = some (.cells (roomC b)) := h3.rle.1 nb _ (by simp)
    refine ccall_r (nb, v, b) ⟨rfl, hS10n, hB.le (St.le_trans hSS h3.rle), by dsimp only; omega⟩ ?_
    rintro _ S11 ⟨rfl, rfl⟩
    simp only [ob_s, as_f, Bool.not_true, k_not]
    have hbl3 : b.length ≤ 60000 := by omega
    refine aloop_inv (fun m l S' => ∃ (i : Nat) (cs : List AV), i ≤ b.length ∧ m = b.length - i ∧ l = [.int .i64 (i : Nat)] ∧ Bytes (b.length + 3) cs ∧ WkAt (S.setObj nb (.cells cs)) S' w p W2 D2) b.length ⟨0, roomC b, by omega, by omega, rfl, room_bytes b, h3⟩ ?_
    rintro m _ S12 ⟨i, cs, hi, rfl, rfl, hby, h6⟩ rec hrec
    have hS12n : S12.obj nb = some (.cells cs) := h6.rle.1 nb _ (by simp)
    simp only [ob_s, List.getD_cons_zero, k_add, k_lss]
    refine asplit_of _ ?_ ?_
    · intro hlt
      have hi' : i < b.length := by omega
      have hm := msl_at (b := nb) (off := 0) (n := b.length) (cap := some (b.length + 3)) hi'
      rw [Nat.zero_add] at hm
      obtain ⟨z, hz⟩ := hby.2 i (by omega)
      have hld := msl_load hS12n hz
      have wi : IntKind.i64.wrap ((i : Int) + 1) = ((i + 1 : Nat) : Int) := by rw [IntWalk.i64_in _ (by omega)]; omega
      have hcl := hby.1
      simp only [ob_s, setList, List.length, List.all, true_and, Bool.and_self, eq_self, Nat.zero_add, k_add, k_cells_i, k_ok_i, k_store_p, hm, hld, hS12n, wi]
      refine ⟨by omega, _, St.le_refl _, hrec (b.length - (i + 1)) _ _ (by omega) ⟨i + 1, cs.set i (.int .u8 (IntKind.u8.wrap (z + 1))), by omega, rfl, rfl, ⟨by simpa using hcl, fun q hq => ?_⟩, h6.both _⟩⟩
      rw [List.getElem?_set]
      by_cases hqi : i = q
      · subst hqi; exact ⟨IntKind.u8.wrap (z + 1), by simp; omega⟩
      · rw [if_neg hqi]; exact hby.2 q hq
    · intro hge
      clear hrec rec
      have hSc : S.le (S.setObj nb (.cells cs)) := stle_setObj (St.le_refl _) hSn _
      have hWn : W2.name = name := h4
      have h7 := h6.plate
      rw [hWn] at h7
      have harm2 : D2.armed = false := e4.trans harm
      obtain ⟨a, ini, la, hch, ha, haN, hnum, hsz⟩ := e2.ch
      have hrs : (ini ++ [la]).flatMap (·.rs) = [b] := hch.rs.symm
      refine ccall_inr (ccall_r (⟨S.setObj nb (.cells cs), p, D2, name, size, a, [], ini, la⟩ : XOo) ⟨rfl, h7, hg3, hg4, e2.down, harm2, hch.shape, hch.tail⟩ ?_)
      rintro _ S13 ⟨w1, vb1, rc1, o1, R1, D3, rfl, k1, k2, k3, k4⟩
      dsimp only at k1 k2 k3 k4
      rw [hrs] at k2 k3
      simp only [ob_s, List.getElem?_cons_zero, List.getElem?_cons_succ, ne_eq, k_extract, k_neq]
      have h8 := k3.plate
      dsimp only at h8
      refine ccall_inr (ccall_r (⟨R1, p, D3, name, size, a, [], ini, { la with tail := [], s := la.good.length }⟩ : XOo) ⟨rfl, h8, hg3, hg4, k4.down, k4.armed.trans harm2, hch.again k4.fl, rfl⟩ ?_)
      rintro _ S14 ⟨w2, vb2, rc2, o2, R2, D4, rfl, m1, m2, m3, m4⟩
      dsimp only at m1 m2 m3 m4
      have hrs2 : (ini ++ [({ la with tail := [], s := la.good.length } : C)]).flatMap (fun c : C => c.rs) = [b] := by rw [← hrs, List.flatMap_append, List.flatMap_append]; rfl
      rw [hrs2] at m2 m3
      obtain ⟨_, _, _, q1, q2⟩ : ∃ (x : Nat) (y : Nat) (z : Nat), rc1.length = 1 ∧ rc2.length = 1 := ⟨0, 0, 0, by have := k2.len; simpa using this, by have := m2.len; simpa using this⟩
      cases k2 with
      | @cons _ b0 _ _ _ hx hxB hxb k2 =>
      cases k2 with
      | @cons v1 b1 _ vs1 _ hl hlB hlb k2 =>
      cases k2
      cases m2 with
      | @cons _ b2 _ _ _ hx2 hx2B hx2b m2 =>
      cases m2 with
      | @cons v3 b3 _ vs3 _ hm hmB hmb m2 =>
      cases m2
      obtain ⟨c0, hc0, hk0, rfl, ho0⟩ := hx
      obtain ⟨c1, hc1, hk1, rfl, ho1⟩ := hl
      obtain ⟨c3, hc3, hk3, rfl, ho3⟩ := hm
      have ll : ∀ (x : AV) (o : Own), xiaddr 1 (.slice [x] 1 o) (.int .i64 0) = some (.ref [x]) := fun x o => rfl
      have l0 : ∀ (x : AV) (S : St), xload false 1 (.ref [x]) S = some x := fun x S => rfl
      have xl : ∀ (x : AV) (o : Own), xlen (.slice [x] 1 o) = some (.int .i64 1) := fun x o => rfl
      simp only [ob_s, as_f, gv_ff, pick_f, List.length, List.getElem?_cons_zero, List.getElem?_cons_succ, eq_self, ne_eq, not_true, Nat.zero_add, decide_false, k_extract, k_neq, z0, xl, ll, l0]
      have hR12 := m1
      have hS14 := m3.rle
      have ho0' := hS14.1 _ _ (hR12.1 _ _ ho0)
      have ho1' := hS14.1 _ _ (hR12.1 _ _ ho1)
      have ho3' := hS14.1 _ _ ho3
      refine ccall_r (_, v, b, b) ⟨rfl, .inr ⟨b1, 0, some c1, _, rfl, ho1', by simp, by simp⟩, hB.le (St.le_trans hSc (St.le_trans k1 (St.le_trans hR12 hS14))), by dsimp only; omega, by dsimp only; omega⟩ ?_
      rintro _ S15 ⟨rfl, rfl⟩
      simp only [ob_s, gv_tt, pick_t, setList, Option.map_some, List.set, List.length, List.length_cons, if_pos, and_self, eq_self, Nat.zero_add, Nat.reduceAdd, Nat.reduceLeDiff, Nat.le_refl, decide_true, k_cells_ms, k_gif_b, ll, l0, Nat.reduceAdd, Nat.reduceLeDiff]
      have hd : decide (b = b) = true := by simp
      have d01 : b1 ≠ b0 := hxb (.msl b1 0 b.length (some c1) 1) (by simp) b1 b.length c1 rfl
      have d03 : b0 ≠ b3 := by rintro rfl; rw [hmB] at ho0; cases ho0
      have d13 : b1 ≠ b3 := by rintro rfl; rw [hmB] at ho1; cases ho1
      refine ccall_r (X := List Ls × Own) ([⟨b0, 0, c0⟩, ⟨b1, b.length, c1⟩, ⟨b3, b.length, c3⟩], Own.full) ⟨rfl, by simp, ?_, ?_, ?_⟩ ?_
      · intro k l hk
        match k, hk with
        | 0, hk => cases hk; exact ⟨_, ho0', by simp, fun q hq => by omega⟩
        | 1, hk => cases hk; exact ⟨_, ho1', by simp; omega, fun q hq => by omega⟩
        | 2, hk => cases hk; exact ⟨_, ho3', by simp; omega, fun q hq => by omega⟩
        | (k + 3), hk => cases hk
      · intro l hl
        simp only [List.mem_cons, List.not_mem_nil, or_false] at hl
        rcases hl with rfl | rfl | rfl
        · exact hk0
        · exact hk1
        · exact hk3
      · intro i j l m hi hj hij
        match i, j, hi, hj with
        | 0, 0, _, _ => exact absurd rfl hij
        | 0, 1, hi, hj => cases hi; cases hj; exact d01.symm
        | 0, 2, hi, hj => cases hi; cases hj; exact d03
        | 1, 0, hi, hj => cases hi; cases hj; exact d01
        | 1, 1, _, _ => exact absurd rfl hij
        | 1, 2, hi, hj => cases hi; cases hj; exact d13
        | 2, 0, hi, hj => cases hi; cases hj; exact d03.symm
        | 2, 1, hi, hj => cases hi; cases hj; exact d13.symm
        | 2, 2, _, _ => exact absurd rfl hij
        | (i + 3), _, hi, _ => cases hi
        | 0, (j + 3), _, hj => cases hj
        | 1, (j + 3), _, hj => cases hj
        | 2, (j + 3), _, hj => cases hj
      rintro _ S16 rfl
      exact done' rfl
  · refine ccall_inl (ccall_r (XOp.arg p name size) ⟨rfl, hg⟩ ?_)
    rintro _ S2 ⟨rfl, rfl⟩
    simp only [ob_s, List.getElem?_cons_zero, List.getElem?_cons_succ, k_extract, noneV]
    refine good_calc (gg := false) ⟨(fun h => nomatch h), fun h => absurd h hg⟩ ?_
    refine ccall_inl (ccall_r (XOp.none name size) rfl ?_)
    rintro _ S3 ⟨rfl, rfl⟩
    simp only [ob_s, as_t, gv_tf, pick_t, List.getElem?_cons_zero, List.getElem?_cons_succ, Bool.not_false, k_extract, k_not, noneV]
    refine ccall_r () rfl ?_
    rintro _ S4 ⟨rfl, rfl⟩
    simp only [ob_s, gv_ff, pick_f, Bool.not_true, decide_false, k_bneq, k_eql, k_not, z1, z12, n10]
    refine ccall_inl (ccall_r v rfl ?_)
    rintro _ S5 ⟨rfl, rfl⟩
    simp only [ob_s, gv_ff, pick_f, if_false, if_pos, Bool.not_true, eq_self, ne_eq, not_true, Option.isNone_none, Bool.false_eq_true, decide_false, k_gif_b, k_neq, bne_self_eq_false]
    refine ccall_r () rfl ?_
    rintro _ S6 ⟨rfl, rfl⟩
    simp only [ob_s, gv_ff, pick_f, if_pos, eq_self, ne_eq, not_true, decide_false, k_gif_b, k_neq]
    refine ccall_r v rfl ?_
    rintro _ S7 ⟨rfl, rfl⟩
    simp only [ob_s, gv_ff, pick_f, if_pos, eq_self, ne_eq, not_true, decide_false, k_gif_b, k_neq]
    refine ccall_r () rfl ?_
    rintro _ S8 ⟨rfl, rfl⟩
    simp only [ob_s, as_f, eq_self, ne_eq, not_true, decide_false, k_neq]
    exact done' rfl
end Go.AM
