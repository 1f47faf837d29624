/- Own texts C1, C2, C3, C4, C5, C6, C7, C8, C9, C10, C11, C12, C13, C14, C15, C16, C17, C18, C19, C20, C21 of this claim, joined. -/
import Derived.Test.YthgdjoamfefcbaaGreatDoorMB1
import Derived.Test.YthgdjoamfefcbaaGreatDoorMS
import Derived.Test.YthgdjoamfefcbaaGreatDoorMB2
set_option linter.all false
set_option linter.unusedVariables false
set_option linter.unusedSimpArgs false
set_option linter.unnecessarySimpa false
/-
  crc: the specs of its functions.
-/
namespace Go.AM
open Go

noncomputable abbrev PR : Program := Go.Proofs.Tryz.prog
theorem PR_mixed : PR.follows .mixedOrders = true := by kernel_rfl

def xr (x y : Int) : Int := IntKind.u32.wrap (BitVec.ofInt 32 x ^^^ BitVec.ofInt 32 y).toNat
def an (x : Int) : Nat := (BitVec.ofInt 32 x &&& 15#32).toNat
def crcTab : List Int := [0, 274646895, 549293790, 820201905, 1098587580, 1361435347, 1640403810, 1905808397, 2197175160, 2460548119, 2722870694, 2987750089, 3280807620, 3553878443, 3811616794, 4084100981]
def crcHalf (a : Int) : Int := xr (a.fdiv 16) (crcTab.getD (an a) 0)
def crcStep (s : Int) (b : UInt8) : Int := crcHalf (crcHalf (xr s b.toNat))
def crcL (l : List UInt8) : Int := l.foldl crcStep (xr 4294967295 0)
/-- The sum of bytes. -/
def crc (l : List UInt8) : Nat := (xr 4294967295 (crcL l)).toNat
theorem xr_range (x y : Int) : 0 ≤ xr x y ∧ xr x y ≤ 4294967295 := by
  unfold xr
  rw [IntKind.wrap_u32]
  omega
theorem crc_lt (l : List UInt8) : crc l < 4294967296 := by have := xr_range 4294967295 (crcL l); unfold crc; omega
theorem crc_int (l : List UInt8) : xr 4294967295 (crcL l) = (crc l : Int) := by have := xr_range 4294967295 (crcL l); unfold crc; omega
theorem an_lt (x : Int) : an x < 16 := by
  unfold an
  rw [BitVec.toNat_and]
  exact Nat.lt_of_le_of_lt Nat.and_le_right (by decide)
theorem xor_u32 (x y : Int) : xint .xor .u32 x y = some (.int .u32 (xr x y)) := rfl
theorem not_u32 (x : Int) : xun .xor (.int .u32 x) = some (.int .u32 (xr 4294967295 x)) := by
  simp only [xun, xintbits, xr]
  rfl
theorem and_u32 (x : Int) : xint .and .u32 x 15 = some (.int .u32 (an x : Int)) := by
  simp only [xint, xintbits, an]
  have h := an_lt x
  unfold an at h
  rw [IntWalk.u32_in]
  · rfl
  · exact ⟨Int.natCast_nonneg _, Int.le_trans (Int.ofNat_le.2 (Nat.le_of_lt h)) (by decide)⟩
theorem shr4_u32 (x : Int) : xint .shr .u32 x 4 = some (.int .u32 (x.fdiv 16)) := rfl

def Sp113 : Spec := rspec (fun (_ : Unit) args _ => args = []) fun _ S v S' => v = .agg (crcTab.map (.int .u32)) ∧ S' = S
theorem s113 : Sound PR 113 Sp113 := by
  refine sound_r PR_mixed sounds_nil monos_nil (own := own []) (ord := O113) (lh := H113) (fn := Go.Proofs.Tryz.f113) (by kernel_rfl) (by kernel_rfl) ?_
  rintro _ args S rfl
  rw [W113_eq]
  refine ⟨rfl, ?_⟩
  unfold W113 xalloc
  intro b hb ht
  simp only [obind_some, setList, xbuild, xfill, Option.map_some, List.set, List.length, List.length_cons, List.take, List.drop, List.take_succ_cons, List.all, St.obj_setObj, if_pos, and_self, true_and, Bool.and_self, eq_self, Nat.zero_add, Nat.reduceAdd, Nat.reduceLeDiff, Nat.le_refl, k_cells_a, k_cells_i, k_load_p, k_ok_i, k_store_p, k_getn]
  exact done S (stle_setObj (stle_setObj (St.le_refl _) hb _) hb _) ⟨rfl, rfl⟩

def Sp90 : Spec := rspec (fun (x : List UInt8 × Own) args _ => x.1.length ≤ 1073741824 ∧ args = [.int .u32 0, bsl x.1 x.2]) fun x S v S' => v = .int .u32 (crc x.1) ∧ S' = S
theorem s90 : Sound PR 90 Sp90 := by
  refine sound_r PR_mixed (sounds_cons s113 sounds_nil) (monos_cons (rspec_mono _ _) monos_nil) (own := own []) (ord := O90) (lh := H90) (fn := Go.Proofs.Tryz.f90) (by kernel_rfl) (by kernel_rfl) ?_
  rintro ⟨l, o⟩ args S ⟨hlen, rfl⟩
  rw [W90_eq]
  refine ⟨rfl, ?_⟩
  unfold W90
  refine ccall_r () rfl ?_
  rintro _ S ⟨rfl, rfl⟩
  unfold xalloc
  intro b hb ht
  rw [not_u32]
  simp only [obind_some, g, setList, List.set, List.length, List.all, St.obj_setObj, if_pos, true_and, Bool.and_self, eq_self, Nat.zero_add, Nat.reduceAdd, Nat.le_refl, k_cells_a, k_len_s, k_ok_i, k_store_p, crcTab, List.map, bsl]
  rw [setObj_setObj]
  refine aloop_inv (fun n l' S' => S' = S.setObj b (.cells (crcTab.map (.int .u32))) ∧ ∃ i, i ≤ l.length ∧ n = l.length - i ∧ l' = [.int .u32 ((l.take i).foldl crcStep (xr 4294967295 0)), .int .i64 i]) l.length ⟨rfl, 0, by simp, by simp, by simp⟩ ?_
  rintro n _ _ ⟨rfl, i, hi, rfl, rfl⟩ rec hrec
  have htab : ∀ x : Int, (crcTab.map (AV.int .u32))[an x]? = some (.int .u32 (crcTab.getD (an x) 0)) := by
    intro x
    have h := an_lt x
    have h16 : crcTab.length = 16 := rfl
    simp [List.getD, List.getElem?_eq_getElem (show an x < crcTab.length by omega)]
  have hix : ∀ x : Int, xaaddr 16 1 (.ptr (some (b, 0))) (.int .u32 (an x : Int)) = some (.ptr (some (b, 0 + (an x : Int).toNat * 1))) := fun x => k_aaddr_p _ _ _ _ _ _ (by have := an_lt x; omega)
  simp only [obind_some, List.getD_cons_zero, List.getD_cons_succ, k_add, k_lss]
  refine asplit_of _ ?_ ?_
  · intro hlt
    have hi' : i < l.length := by omega
    have hget : (ofBytes l)[i]? = some (.int .u8 l[i].toNat) := by rw [ofBytes_get, List.getElem?_eq_getElem hi']; rfl
    have h32 : IntKind.u32.wrap (l[i].toNat : Int) = (l[i].toNat : Int) := IntWalk.u32_in _ (by have := l[i].toNat_lt; omega)
    have h64 : IntKind.i64.wrap ((i : Int) + 1) = ((i + 1 : Nat) : Int) := by rw [IntWalk.i64_in _ (by dsimp only at hlen; omega)]; simp
    rw [k_iaddr_s _ _ _ _ _ _ (by omega)]
    simp only [obind_some, St.obj_setObj, if_pos, eq_self, Nat.zero_add, Nat.mul_one, k_and, k_conv, k_load_p, k_load_r, k_d0, k_t0, k_shr, k_xor, k_get1, Int.toNat_natCast, hget, h32, xor_u32, shr4_u32, and_u32, hix, htab, h64]
    refine ⟨_, St.le_refl _, hrec (l.length - (i + 1)) _ _ (by omega) ⟨rfl, i + 1, by omega, rfl, ?_⟩⟩
    have e1 : l.take (i + 1) = l.take i ++ [l[i]] := by simp
    rw [e1, List.foldl_append]
    rfl
  · intro hge
    have hie : i = l.length := by omega
    subst hie
    rw [not_u32]
    simp only [obind_some]
    refine done S (stle_setObj (St.le_refl _) hb _) ⟨?_, rfl⟩
    rw [List.take_length]
    have := crc_int l
    unfold crcL at this
    rw [this]

def Sp66 : Spec := rspec (fun (x : List UInt8 × Own) args _ => x.1.length ≤ 1073741824 ∧ args = [bsl x.1 x.2]) fun x S v S' => v = .int .u32 (crc x.1) ∧ S' = S
theorem s66 : Sound PR 66 Sp66 := by
  refine sound_r PR_mixed (sounds_cons s90 sounds_nil) (monos_cons (rspec_mono _ _) monos_nil) (own := own []) (ord := O66) (lh := H66) (fn := Go.Proofs.Tryz.f66) (by kernel_rfl) (by kernel_rfl) ?_
  rintro ⟨l, o⟩ args S ⟨hlen, rfl⟩
  rw [W66_eq]
  refine ⟨rfl, ?_⟩
  unfold W66
  refine ccall_r (l, o) ⟨hlen, rfl⟩ ?_
  rintro _ S ⟨rfl, rfl⟩
  exact done' ⟨rfl, rfl⟩
end Go.AM
/-
  wire, the writer: a frame's bytes.
-/
namespace Go.AM
open Go

/-- A number's bytes. -/
def uv (n : Nat) : List UInt8 := if n < 128 then [UInt8.ofNat n] else UInt8.ofNat (n % 128 + 128) :: uv (n / 128)
def be4 (n : Nat) : List UInt8 := [UInt8.ofNat (n / 16777216), UInt8.ofNat (n / 65536), UInt8.ofNat (n / 256), UInt8.ofNat n]
theorem be4_length (n : Nat) : (be4 n).length = 4 := rfl
/-- A frame around bytes. -/
def around (l : List UInt8) : List UInt8 := be4 l.length ++ be4 (crc l) ++ l
def body (kind : Nat) (s : List UInt8) : List UInt8 := uv kind ++ uv s.length ++ s
def frameB (kind : Nat) (s : List UInt8) : List UInt8 := around (body kind s)

theorem u8_ofNat (n : Nat) : IntKind.u8.wrap (n : Int) = ((UInt8.ofNat n).toNat : Int) := by
  rw [IntKind.wrap_u8, UInt8.toNat_ofNat']
  omega
theorem u8_fdiv (n k : Nat) (hk : 0 < k) : IntKind.u8.wrap ((n : Int).fdiv (k : Int)) = ((UInt8.ofNat (n / k)).toNat : Int) := by
  rw [← u8_ofNat, Int.fdiv_eq_ediv_of_nonneg _ (by omega)]
  simp

/-- A writer's state, in a heap that holds S0. -/
def WrAt (S0 S : St) (r : Nat) (l : List UInt8) : Prop := S0.obj r = none ∧ ∃ o, S.obj r = some (.cells [bsl l o, .int .i64 0]) ∧ Tl 1 S0 S o ∧ (o = .nil → l.length = 0)

theorem app_w {S0 S : St} {r : Nat} {l m : List UInt8} {x : AV} {o : Own} {K : AV → St → Prop} (h0 : S0.obj r = none) (ho : S.obj r = some (.cells [bsl l o, .int .i64 0])) (hT : Tl 1 S0 S o) (hn : o = .nil → l.length = 0)
    (hx : xnews 1 x S = some (ofBytes m, m.length)) (hb : l.length + m.length ≤ 70368744177664)
    (hK : ∀ o' S', S'.obj = S.obj → (WrAt S0 (S'.setObj r (.cells [bsl (l ++ m) o', .int .i64 0])) r (l ++ m)) → K (bsl (l ++ m) o') S') : xappend false 1 1 (bsl l o) x S K := by
  refine app_tl (n := l.length) (m := m.length) (S0 := S0) hx (by omega) (by simp) (ofBytes_ok m) (by simp) hn (by omega) hb hT ?_
  intro o' S' hS hT' hn'
  have e : AV.slice (ofBytes l ++ ofBytes m) (l.length + m.length) o' = bsl (l ++ m) o' := by simp [bsl]
  rw [e]
  refine hK o' S' hS ⟨h0, o', by simp, ⟨stle_setObj hT'.1 h0 _, hT'.2⟩, fun h => by simpa using hn' h⟩

def Sp68 : Spec := rspec (fun (_ : Unit) _ _ => False) fun _ _ _ _ => False
theorem or128_n : ∀ n : Nat, n < 256 → IntKind.u8.wrap (BitVec.ofInt 8 (n : Int) ||| BitVec.ofInt 8 128).toNat = ((n % 128 + 128 : Nat) : Int) := by decide +kernel
theorem or128 (k : Nat) : xint .or .u8 ((UInt8.ofNat k).toNat : Int) 128 = some (.int .u8 ((UInt8.ofNat (k % 128 + 128)).toNat : Int)) := by
  have h := or128_n (UInt8.ofNat k).toNat (UInt8.ofNat k).toNat_lt
  have e : xint .or .u8 ((UInt8.ofNat k).toNat : Int) 128 = some (.int .u8 (IntKind.u8.wrap (BitVec.ofInt 8 ((UInt8.ofNat k).toNat : Int) ||| BitVec.ofInt 8 128).toNat)) := rfl
  rw [e, h, UInt8.toNat_ofNat', UInt8.toNat_ofNat']
  congr 2
  omega
theorem shr7_u64 (k : Nat) : xint .shr .u64 (k : Int) 7 = some (.int .u64 ((k / 128 : Nat) : Int)) := by
  have e : xint .shr .u64 (k : Int) 7 = some (.int .u64 ((k : Int).fdiv 128)) := rfl
  rw [e, Int.fdiv_eq_ediv_of_nonneg _ (by omega)]
  rfl

def Sp69 : Spec := rspec (fun (x : St × Nat × List UInt8 × Nat) args S => args = [.ptr (some (x.2.1, 0)), .int .u64 x.2.2.2] ∧ x.2.2.2 < 1073741824 ∧ x.2.2.1.length ≤ 1073741824 ∧ WrAt x.1 S x.2.1 x.2.2.1)
  fun x S v S' => v = .tuple [] ∧ WrAt x.1 S' x.2.1 (x.2.2.1 ++ uv x.2.2.2)
theorem s69 : Sound PR 69 Sp69 := by
  refine sound_r PR_mixed sounds_nil monos_nil (own := own []) (ord := O69) (lh := H69) (fn := Go.Proofs.Tryz.f69) (by kernel_rfl) (by kernel_rfl) ?_
  rintro ⟨S0, r, l, n⟩ args S ⟨rfl, hn, hl, hw⟩
  rw [W69_eq]
  refine ⟨rfl, ?_⟩
  unfold W69
  dsimp only at hn hl hw ⊢
  refine aloop_inv (fun k l' S' => ∃ q, l' = [.int .u64 k] ∧ q.length + k ≤ 1073741824 + n ∧ WrAt S0 S' r q ∧ l ++ uv n = q ++ uv k) n ⟨l, rfl, by omega, hw, rfl⟩ ?_
  rintro k _ S ⟨q, rfl, hq, ⟨h0, o, ho, hT, ho0⟩, he⟩ rec hrec
  simp only [obind_some, g, setList, xfill, xbslice, Option.map_some, List.set, List.length, List.getD_cons_zero, if_pos, and_true, eq_self, Nat.zero_add, Nat.add_zero, Nat.le_refl, k_cells_i, k_conv, k_faddr_p, k_geq, k_load_p, k_nilck_p, k_or, k_shr, k_store_p, k_get1]
  refine asplit_of _ ?_ ?_
  · intro hge
    have hk' : ¬ k < 128 := by omega
    simp only [obind_some, setList, Option.map_some, List.set, List.length, List.getElem?_cons_zero, if_pos, eq_self, Nat.zero_add, k_cells_i, ho, u8_ofNat, or128]
    refine app_w (m := [UInt8.ofNat (k % 128 + 128)]) h0 ho hT ho0 ?_ ?_ ?_
    · simp [xnews]
    · simp; omega
    · intro o' S' hS hW
      simp only [obind_some, setList, List.set, List.length, List.all, true_and, Bool.and_self, eq_self, Nat.zero_add, Nat.reduceAdd, Nat.reduceLeDiff, k_cells_bsl, k_ok_bsl, hS, ho, shr7_u64]
      refine ⟨_, St.le_refl _, hrec (k / 128) _ _ (by omega) ⟨_, rfl, ?_, hW, ?_⟩⟩
      · simp; omega
      · rw [he, uv, if_neg hk']; simp
  · intro hlt
    have hk' : k < 128 := by omega
    simp only [obind_some, List.getElem?_cons_zero, ho, u8_ofNat]
    refine app_w (m := [UInt8.ofNat k]) h0 ho hT ho0 ?_ ?_ ?_
    · simp [xnews]
    · simp; omega
    · intro o' S' hS hW
      simp only [obind_some, setList, List.set, List.length, List.all, true_and, Bool.and_self, eq_self, Nat.zero_add, Nat.reduceAdd, Nat.reduceLeDiff, k_cells_bsl, k_ok_bsl, hS, ho]
      refine done' ⟨rfl, ?_⟩
      rw [he, uv, if_pos hk']
      exact hW

def Sp53 : Spec := rspec (fun (_ : Unit) args _ => args = []) fun _ S v S' => ∃ r, v = .ptr (some (r, 0)) ∧ WrAt S S' r []
theorem s53 : Sound PR 53 Sp53 := by
  refine sound_r PR_mixed sounds_nil monos_nil (own := own []) (ord := O53) (lh := H53) (fn := Go.Proofs.Tryz.f53) (by kernel_rfl) (by kernel_rfl) ?_
  rintro _ args S rfl
  rw [W53_eq]
  refine ⟨rfl, ?_⟩
  unfold W53 xbox
  simp only [obind_some, xbuild, xfill, Option.map_some, List.length, true_and, eq_self, Nat.zero_add, Nat.reduceAdd, k_cells_a]
  intro b hb ht
  exact done' ⟨b, rfl, hb, .nil, by simp [bsl], ⟨stle_setObj (St.le_refl _) hb _, .inl rfl⟩, fun _ => rfl⟩

def Sp54 : Spec := rspec (fun (x : St × Nat × List UInt8 × Nat) args S => args = [.ptr (some (x.2.1, 0)), .int .i64 x.2.2.2] ∧ x.2.2.2 ≤ 4096 ∧ x.2.2.1.length ≤ 1073741824 ∧ WrAt x.1 S x.2.1 x.2.2.1)
  fun x S v S' => v = .tuple [] ∧ WrAt x.1 S' x.2.1 (x.2.2.1 ++ uv x.2.2.2)
theorem s68 : Sound PR 68 Sp68 := ⟨by kernel_rfl, fun args vals S w Q _ _ h => by obtain ⟨_, h, _⟩ := h; exact h.elim⟩
theorem s54 : Sound PR 54 Sp54 := by
  refine sound_r PR_mixed (sounds_cons s68 (sounds_cons s69 sounds_nil)) (monos_cons (rspec_mono _ _) (monos_cons (rspec_mono _ _) monos_nil)) (own := own []) (ord := O54) (lh := H54) (fn := Go.Proofs.Tryz.f54) (by kernel_rfl) (by kernel_rfl) ?_
  rintro ⟨S0, r, l, n⟩ args S ⟨rfl, hn, hl, hw⟩
  rw [W54_eq]
  refine ⟨rfl, ?_⟩
  unfold W54
  dsimp only at hn hl hw ⊢
  have h1 : ¬ ((n : Int) < 0) := by omega
  have h2 : ¬ ((n : Int) > 4096) := by omega
  have h3 : IntKind.u64.wrap (n : Int) = n := IntWalk.u64_in _ (by omega)
  simp only [obind_some, asplit_false, if_false, if_pos, Bool.not_false, eq_self, Nat.add_zero, Option.isNone_some, Bool.false_eq_true, decide_false, k_conv, k_faddr_p, k_gtr, k_gv_b, k_isnil, k_lss, k_nilck_p, k_nilp_p, k_pick, h1, h2, h3]
  refine ccall_r (S0, r, l, n) ⟨rfl, by dsimp only; omega, hl, hw⟩ ?_
  rintro _ S ⟨rfl, h⟩
  exact done' ⟨rfl, h⟩

def Sp55 : Spec := rspec (fun (x : St × Nat × List UInt8 × List UInt8) args S => args = [.ptr (some (x.2.1, 0)), .str ⟨x.2.2.2.toArray⟩] ∧ x.2.2.2.length ≤ 65536 ∧ x.2.2.1.length ≤ 1048576 ∧ WrAt x.1 S x.2.1 x.2.2.1)
  fun x S v S' => v = .tuple [] ∧ WrAt x.1 S' x.2.1 (x.2.2.1 ++ uv x.2.2.2.length ++ x.2.2.2)
theorem uv_length (n : Nat) : (uv n).length ≤ n + 1 := by
  induction n using Nat.strongRecOn with
  | ind n ih =>
    rw [uv]
    split
    · simp
    · have := ih (n / 128) (by omega); simp; omega
theorem s55 : Sound PR 55 Sp55 := by
  refine sound_r PR_mixed (sounds_cons s69 sounds_nil) (monos_cons (rspec_mono _ _) monos_nil) (own := own []) (ord := O55) (lh := H55) (fn := Go.Proofs.Tryz.f55) (by kernel_rfl) (by kernel_rfl) ?_
  rintro ⟨S0, r, l, s⟩ args S ⟨rfl, hn, hl, hw⟩
  rw [W55_eq]
  refine ⟨rfl, ?_⟩
  unfold W55
  dsimp only at hn hl hw ⊢
  have hs : (ByteArray.mk s.toArray).size = s.length := by simp [ByteArray.size]
  have h3 : IntKind.u64.wrap (s.length : Int) = s.length := IntWalk.u64_in _ (by omega)
  simp only [obind_some, asplit_true, if_pos, Bool.not_false, eq_self, Nat.zero_add, Nat.add_zero, Option.isNone_some, k_conv, k_faddr_p, k_isnil, k_load_p, k_nilck_p, k_nilp_p, k_slen, k_store_p, k_get1, hs, h3]
  refine ccall_r (S0, r, l, s.length) ⟨rfl, by dsimp only; omega, by dsimp only; omega, hw⟩ ?_
  rintro _ S ⟨rfl, h0, o, ho, hT, ho0⟩
  have hu := uv_length s.length
  have hmin : xmm false (.int .i64 (s.length : Int)) (.int .i64 65536) = some (.int .i64 (s.length : Int)) := by
    simp only [xmm, if_true, Bool.false_eq_true, if_false]
    split
    · omega
    · rfl
  have hcut : xsslice (.str ⟨s.toArray⟩) none (some (.int .i64 (s.length : Int))) = some (.str ⟨s.toArray⟩) := by
    simp only [xsslice, xbound, hs]
    rw [if_pos (by omega)]
    simp only [Int.toNat_natCast]
    congr 2
    rw [← hs]
    exact ByteArray.extract_zero_size
  dsimp only at ho
  simp only [obind_some, List.getElem?_cons_zero, ho, hmin, hcut]
  refine app_w (m := s) h0 ho hT ho0 ?_ ?_ ?_
  · simp [xnews, hs]
  · simp; omega
  · intro o' S' hS hW
    simp only [obind_some, setList, List.set, List.length, List.all, true_and, Bool.and_self, eq_self, Nat.zero_add, Nat.reduceAdd, Nat.reduceLeDiff, k_cells_bsl, k_ok_bsl, hS, ho]
    exact done' ⟨rfl, hW⟩
end Go.AM
/-
  wire, the frame of what was written; wal's frame.
-/
namespace Go.AM
open Go

theorem byte_shr (n k : Nat) (p : Nat) (hp : p = 2 ^ k) (hk : k < 32) : (do let x ← xint .shr .u32 (n : Int) (k : Int); xint2int .u8 x) = some (.int .u8 ((UInt8.ofNat (n / p)).toNat : Int)) := by
  have hs : ¬ ((k : Int) < 0) := by omega
  have hm : min (k : Int).toNat IntKind.u32.bits = k := by
    have : IntKind.u32.bits = 32 := rfl
    rw [this]; simp; omega
  have e : xint .shr .u32 (n : Int) (k : Int) = some (.int .u32 ((n : Int).fdiv (2 ^ k))) := by
    simp only [xint, hs, if_false, hm]
  rw [e]
  show xint2int .u8 (.int .u32 ((n : Int).fdiv (2 ^ k))) = _
  have h2 : ((2 : Int) ^ k) = ((2 ^ k : Nat) : Int) := by simp
  rw [k_conv, h2, u8_fdiv _ _ (Nat.two_pow_pos k), hp]
theorem shr_u32_24 (n : Nat) : xint .shr .u32 (n : Int) 24 = some (.int .u32 ((n / 16777216 : Nat) : Int)) := by
  have e : xint .shr .u32 (n : Int) 24 = some (.int .u32 ((n : Int).fdiv 16777216)) := rfl
  rw [e, Int.fdiv_eq_ediv_of_nonneg _ (by omega)]; rfl
theorem shr_u32_16 (n : Nat) : xint .shr .u32 (n : Int) 16 = some (.int .u32 ((n / 65536 : Nat) : Int)) := by
  have e : xint .shr .u32 (n : Int) 16 = some (.int .u32 ((n : Int).fdiv 65536)) := rfl
  rw [e, Int.fdiv_eq_ediv_of_nonneg _ (by omega)]; rfl
theorem shr_u32_8 (n : Nat) : xint .shr .u32 (n : Int) 8 = some (.int .u32 ((n / 256 : Nat) : Int)) := by
  have e : xint .shr .u32 (n : Int) 8 = some (.int .u32 ((n : Int).fdiv 256)) := rfl
  rw [e, Int.fdiv_eq_ediv_of_nonneg _ (by omega)]; rfl

/-- A list that was made with room, of which l is written. -/
def MkAt (S : St) (b c : Nat) (l : List UInt8) : Prop := ∃ cs, S.obj b = some (.cells cs) ∧ cs.length = c ∧ l.length ≤ c ∧ cs.take l.length = ofBytes l

theorem app_mk {S : St} {b c : Nat} {l m : List UInt8} {x : AV} {K : AV → St → Prop} (h : MkAt S b c l) (hx : xnews 1 x S = some (ofBytes m, m.length)) (hc : l.length + m.length ≤ c) (hb : c ≤ 70368744177664)
    (hK : ∀ cs', MkAt (S.setObj b (.cells cs')) b c (l ++ m) → K (.msl b 0 (l ++ m).length (some c) 1) (S.setObj b (.cells cs'))) : xappend false 1 1 (.msl b 0 l.length (some c) 1) x S K := by
  obtain ⟨cs, ho, hcs, hl, ht⟩ := h
  unfold xappend
  rw [hx, obind_some]
  refine ⟨by omega, ofBytes_ok m, ?_⟩
  by_cases h0 : m.length = 0
  · have : m = [] := List.eq_nil_of_length_eq_zero h0
    subst this
    have e := hK cs
    rw [List.append_nil] at e
    have hSe : S.setObj b (.cells cs) = S := by
      cases S with | mk obj tok =>
      simp only [St.setObj, St.mk.injEq, and_true]
      funext i
      by_cases h : i = b
      · simp [h]; exact ho.symm
      · simp [h]
    rw [hSe] at e
    simpa using e ⟨cs, ho, hcs, hl, ht⟩
  · rw [if_neg h0]
    simp only [ho, Nat.mul_one, true_and]
    refine ⟨by omega, by omega, by omega, hl, ?_⟩
    rw [if_pos hc]
    have e2 : (setList cs (0 + l.length) (ofBytes m)).take (l ++ m).length = ofBytes (l ++ m) := by
      have := setList_at (ofBytes m) cs l.length (by simp; omega)
      simp only [ofBytes_length] at this
      rw [Nat.zero_add, List.length_append, this, ht]; simp
    have := hK (setList cs (0 + l.length) (ofBytes m)) ⟨_, by simp, by rw [setList_len, hcs], by simp; omega, e2⟩
    simpa using this

def Sp70 : Spec := rspec (fun (x : Nat × Nat × List UInt8 × Nat) args S => args = [.msl x.1 0 x.2.2.1.length (some x.2.1) 1, .int .u32 x.2.2.2] ∧ x.2.2.1.length + 4 ≤ x.2.1 ∧ x.2.1 ≤ 1073741824 ∧ MkAt S x.1 x.2.1 x.2.2.1)
  fun x S v S' => v = .msl x.1 0 (x.2.2.1.length + 4) (some x.2.1) 1 ∧ ∃ cs', S' = S.setObj x.1 (.cells cs') ∧ MkAt S' x.1 x.2.1 (x.2.2.1 ++ be4 x.2.2.2)
theorem s70 : Sound PR 70 Sp70 := by
  refine sound_r PR_mixed sounds_nil monos_nil (own := own []) (ord := O70) (lh := H70) (fn := Go.Proofs.Tryz.f70) (by kernel_rfl) (by kernel_rfl) ?_
  rintro ⟨b, c, l, n⟩ args S ⟨rfl, hc, hb, h⟩
  rw [W70_eq]
  refine ⟨rfl, ?_⟩
  unfold W70
  dsimp only at hc hb h ⊢
  simp only [obind_some, setList, xfill, xbslice, Option.map_some, List.set, List.length, List.length_cons, if_pos, and_true, true_and, eq_self, Nat.zero_add, Nat.reduceAdd, Nat.reduceLeDiff, Nat.le_refl, k_cells_i, k_conv, k_shr, shr_u32_24, shr_u32_16, shr_u32_8, u8_ofNat]
  refine app_mk (m := be4 n) h (by simp [xnews, be4]) (by rw [be4_length]; omega) (by omega) ?_
  intro cs' hM
  refine done' ⟨?_, cs', rfl, hM⟩
  simp [be4_length]

def Sp56 : Spec := rspec (fun (x : St × Nat × List UInt8) args S => args = [.ptr (some (x.2.1, 0))] ∧ x.2.2.length ≤ 65536 ∧ WrAt x.1 S x.2.1 x.2.2)
  fun x S v S' => v = .tuple [bsl (around x.2.2) .ro, .int .i64 0] ∧ S' = x.1
theorem s56 : Sound PR 56 Sp56 := by
  refine sound_r PR_mixed (sounds_cons s66 (sounds_cons s70 sounds_nil)) (monos_cons (rspec_mono _ _) (monos_cons (rspec_mono _ _) monos_nil)) (own := own []) (ord := O56) (lh := H56) (fn := Go.Proofs.Tryz.f56) (by kernel_rfl) (by kernel_rfl) ?_
  rintro ⟨S0, r, l⟩ args S ⟨rfl, hl, h0, o, ho, hT, ho0⟩
  rw [W56_eq]
  refine ⟨rfl, ?_⟩
  unfold W56
  dsimp only at hl h0 ho hT ho0 ⊢
  have h1 : ¬ ((l.length : Int) > 65536) := by omega
  have h2 : IntKind.i64.wrap ((l.length : Int) + 8) = ((l.length + 8 : Nat) : Int) := by rw [IntWalk.i64_in _ (by omega)]; simp
  have h3 : IntKind.u32.wrap (l.length : Int) = l.length := IntWalk.u32_in _ (by omega)
  simp only [obind_some, asplit_false, List.length, List.getElem?_cons_zero, List.getElem?_cons_succ, St.obj_setObj, if_false, true_and, Bool.not_false, eq_self, ne_eq, not_true, Nat.zero_add, Nat.add_zero, Nat.reduceLT, Option.isNone_some, Bool.false_eq_true, decide_false, Nat.mul_one, k_add, k_conv, k_faddr_p, k_gtr, k_isnil, k_load_p, k_neq, k_nilck_p, k_nilp_p, k_len_bsl, k_get1, ho, h1, h2, h3, xmkslice]
  refine ⟨by omega, by omega, by omega, by omega, ?_⟩
  intro b hb ht
  have hrb : r ≠ b := by rintro rfl; rw [ho] at hb; cases hb
  have hbr : b ≠ r := fun h => hrb h.symm
  simp only [List.getElem?_cons_zero, if_false, true_and, eq_self, hrb]
  have hz : ∀ z : List AV, z.length = l.length + 8 → MkAt (S.setObj b (.cells z)) b (l.length + 8) [] := fun z hz => ⟨z, by simp, hz, by simp, by simp⟩
  have hM := hz ((List.range ((l.length + 8 : Nat) : Int).toNat).map fun i => [AV.int .u8 0].getD (i % 1) .dead) (by rw [List.length_map, List.length_range, Int.toNat_natCast])
  refine ccall_r (b, l.length + 8, [], l.length) ⟨rfl, by simp, by simp; omega, hM⟩ ?_
  rintro _ S1 ⟨rfl, cs1, rfl, hM1⟩
  simp only [obind_some, List.length, List.getElem?_cons_zero, St.obj_setObj, if_false, Nat.zero_add, hrb, ho]
  refine ccall_r (l, o) ⟨by simp; omega, rfl⟩ ?_
  rintro _ _ ⟨rfl, rfl⟩
  refine ccall_r (b, l.length + 8, be4 l.length, crc l) ⟨rfl, by simp [be4_length], by simp; omega, hM1⟩ ?_
  rintro _ S2 ⟨rfl, cs2, rfl, hM2⟩
  simp only [obind_some, List.getElem?_cons_zero, St.obj_setObj, if_false, hrb, ho]
  have hnl : (o = .nil → l = []) := fun h => List.eq_nil_of_length_eq_zero (ho0 h)
  refine app_mk (m := l) (l := be4 l.length ++ be4 (crc l)) hM2 (by simp [xnews, bsl]) (by simp [be4_length]; omega) (by omega) ?_
  intro cs3 hM3
  obtain ⟨cs, e1, e2, e3, e4⟩ := hM3
  simp only [St.obj_setObj, if_true, Option.some.injEq, AObj.cells.injEq] at e1
  subst e1
  have hlen : (be4 l.length ++ be4 (crc l) ++ l).length = l.length + 8 := by simp [be4_length]; omega
  have hcs : cs3 = ofBytes (around l) := by
    rw [hlen, ← e2, List.take_length] at e4
    exact e4
  refine done_imp (.tuple [bsl (around l) .ro, .int .i64 0]) S0 ?_ ⟨rfl, rfl⟩
  refine Imp.trans (Imp.tuple2 (Imp.freeze (cs := cs3) (.inl (by simp)) (by rw [e2, hlen]; simp))) ?_
  have ee : AV.slice cs3 (be4 l.length ++ be4 (crc l) ++ l).length .ro = bsl (around l) .ro := by rw [hcs]; rfl
  rw [ee]
  exact Imp.le (stle_delObj (stle_setObj (stle_setObj (stle_setObj (stle_setObj hT.1 (stle_obj hT.1 hb) _) (stle_obj hT.1 hb) _) (stle_obj hT.1 hb) _) (stle_obj hT.1 hb) _) (stle_obj hT.1 hb)) _

def Sp36 : Spec := rspec (fun (x : Nat × AV × List UInt8) args S => args = [.int .i64 x.1, x.2.1] ∧ x.1 ≤ 4096 ∧ x.2.2.length ≤ 60000 ∧ Byt S x.2.1 x.2.2)
  fun x S v S' => v = bsl (frameB x.1 x.2.2) .ro ∧ S' = S
theorem uv_small (n : Nat) (h : n < 2097152) : (uv n).length ≤ 3 := by
  rw [uv]; split
  · simp
  · rw [uv]; split
    · simp
    · rw [uv]; split
      · simp
      · omega
theorem s36 : Sound PR 36 Sp36 := by
  refine sound_r PR_mixed (sounds_cons s53 (sounds_cons s54 (sounds_cons s55 (sounds_cons s56 sounds_nil)))) (monos_cons (rspec_mono _ _) (monos_cons (rspec_mono _ _) (monos_cons (rspec_mono _ _) (monos_cons (rspec_mono _ _) monos_nil)))) (own := own []) (ord := O36) (lh := H36) (fn := Go.Proofs.Tryz.f36) (by kernel_rfl) (by kernel_rfl) ?_
  rintro ⟨k, v, s⟩ args S ⟨rfl, hk, hs, hB⟩
  rw [W36_eq]
  refine ⟨rfl, ?_⟩
  unfold W36
  dsimp only at hk hs hB ⊢
  have u1 := uv_small k (by omega)
  have u2 := uv_small s.length (by omega)
  refine ccall_r () rfl ?_
  rintro _ S1 ⟨r, rfl, h1⟩
  refine ccall_r (S, r, [], k) ⟨rfl, by dsimp only; omega, by simp, h1⟩ ?_
  rintro _ S2 ⟨rfl, h2⟩
  have hT : Tl 1 S S2 _ := h2.2.choose_spec.2.1
  rw [(hB.le hT.1).str, obind_some]
  refine ccall_r (S, r, uv k, s) ⟨rfl, by dsimp only; omega, by dsimp only; omega, h2⟩ ?_
  rintro _ S3 ⟨rfl, h3⟩
  refine ccall_r (S, r, uv k ++ uv s.length ++ s, ) ⟨rfl, by simp; omega, h3⟩ ?_
  rintro _ S4 ⟨rfl, rfl⟩
  simp only [obind_some, List.getElem?_cons_zero, List.getElem?_cons_succ, k_extract]
  exact done' ⟨rfl, rfl⟩
end Go.AM
/-
  wire, the reader; wal's next.
-/
namespace Go.AM
set_option maxRecDepth 20000
open Go

theorem ownSub_ne {sz : Nat} {o : Own} {h n : Nat} (ho : o ≠ .nil) : ownSub sz o h n none ≠ .nil := by
  unfold ownSub
  simp only
  split
  · cases o with
    | nil => exact absurd rfl ho
    | full => simp
    | ro => simp
    | tok b hw s => simp only; split <;> simp
  · simp
theorem slice_from {l : List UInt8} {o : Own} {k : Nat} (kk : IntKind) (hk : k ≤ l.length) (ho : o ≠ .nil) :
    xslice 1 (bsl l o) (some (.int kk k)) none none = some (bsl (l.drop k) (ownSub 1 o l.length l.length none)) := by
  simp only [xslice, bsl, xbound]
  rw [if_pos (by omega)]
  simp only [ho, if_false, Int.toNat_natCast, Nat.mul_one]
  have e : ((ofBytes l).drop k).take (l.length - k) = ofBytes (l.drop k) := by rw [ofBytes_drop, ofBytes_take, List.take_of_length_le (by simp)]
  rw [e]; simp
theorem slice_to {l : List UInt8} {o : Own} {k : Nat} (kk : IntKind) (hk : k ≤ l.length) (ho : o ≠ .nil) :
    xslice 1 (bsl l o) none (some (.int kk k)) none = some (bsl (l.take k) (ownSub 1 o k l.length none)) := by
  simp only [xslice, bsl, xbound]
  rw [if_pos (by omega)]
  simp only [ho, if_false, Int.toNat_natCast, Nat.mul_one, List.drop_zero, Nat.sub_zero, ofBytes_take]
  simp [Nat.min_eq_left hk]
theorem get_load {l : List UInt8} {o : Own} (i : Nat) {j : Int} {b : UInt8} (kk : IntKind) (hj : j = i) (h : l[i]? = some b) : xiaddr 1 (bsl l o) (.int kk j) = some (.ref (((ofBytes l).drop i).take 1)) ∧ (ofBytes l)[i]? = some (.int .u8 b.toNat) := by
  have hi : i < l.length := by
    rcases Nat.lt_or_ge i l.length with h' | h'
    · exact h'
    · rw [List.getElem?_eq_none h'] at h; cases h
  subst hj
  refine ⟨?_, by rw [ofBytes_get, h]; rfl⟩
  unfold bsl
  rw [k_iaddr_s _ _ _ _ _ _ (by omega)]
  simp

theorem or_bits (w x y k : Nat) (hy : y < 2 ^ k) (h : 2 ^ k * x + y < 2 ^ w) : (BitVec.ofInt w ((2 ^ k * x : Nat) : Int) ||| BitVec.ofInt w (y : Int)).toNat = 2 ^ k * x + y := by
  rw [BitVec.toNat_or]
  have h1 : (BitVec.ofInt w ((2 ^ k * x : Nat) : Int)).toNat = 2 ^ k * x := by
    rw [BitVec.ofInt_natCast, BitVec.toNat_ofNat, Nat.mod_eq_of_lt (by omega)]
  have h2 : (BitVec.ofInt w (y : Int)).toNat = y := by
    rw [BitVec.ofInt_natCast, BitVec.toNat_ofNat, Nat.mod_eq_of_lt (by omega)]
  rw [h1, h2, Nat.two_pow_add_eq_or_of_lt hy]
theorem or_u32 (x y k : Nat) (hy : y < 2 ^ k) (h : 2 ^ k * x + y < 4294967296) : xint .or .u32 ((2 ^ k * x : Nat) : Int) (y : Int) = some (.int .u32 ((2 ^ k * x + y : Nat) : Int)) := by
  have e : xint .or .u32 ((2 ^ k * x : Nat) : Int) (y : Int) = some (.int .u32 (IntKind.u32.wrap (BitVec.ofInt 32 ((2 ^ k * x : Nat) : Int) ||| BitVec.ofInt 32 (y : Int)).toNat)) := rfl
  rw [e, or_bits 32 x y k hy h, IntWalk.u32_in _ (by omega)]
theorem or_u64 (x y k : Nat) (hy : y < 2 ^ k) (h : 2 ^ k * x + y < 18446744073709551616) : xint .or .u64 (y : Int) ((2 ^ k * x : Nat) : Int) = some (.int .u64 ((2 ^ k * x + y : Nat) : Int)) := by
  have e : xint .or .u64 (y : Int) ((2 ^ k * x : Nat) : Int) = some (.int .u64 (IntKind.u64.wrap (BitVec.ofInt 64 (y : Int) ||| BitVec.ofInt 64 ((2 ^ k * x : Nat) : Int)).toNat)) := rfl
  have c : (BitVec.ofInt 64 (y : Int) ||| BitVec.ofInt 64 ((2 ^ k * x : Nat) : Int)) = (BitVec.ofInt 64 ((2 ^ k * x : Nat) : Int) ||| BitVec.ofInt 64 (y : Int)) := BitVec.or_comm _ _
  rw [e, c, or_bits 64 x y k hy h, IntWalk.u64_in _ (by omega)]
theorem shl_u32 (x k : Nat) (p : Nat) {c : Int} (hc : c = k) (hk : k < 32) (hp : p = 2 ^ k) (h : x * p < 4294967296) : xint .shl .u32 (x : Int) c = some (.int .u32 ((p * x : Nat) : Int)) := by
  subst hc
  have hs : ¬ ((k : Int) < 0) := by omega
  have hm : min (k : Int).toNat IntKind.u32.bits = k := by
    have : IntKind.u32.bits = 32 := rfl
    rw [this]; simp; omega
  simp only [xint, hs, if_false, hm]
  have h2 : ((2 : Int) ^ k) = ((2 ^ k : Nat) : Int) := by simp
  rw [h2, ← hp, ← Int.natCast_mul, IntWalk.u32_in _ (by omega), Nat.mul_comm]
theorem shl_u64 (x k : Nat) (p : Nat) {c : Int} (hc : c = k) (hk : k < 64) (hp : p = 2 ^ k) (h : x * p < 18446744073709551616) : xint .shl .u64 (x : Int) c = some (.int .u64 ((p * x : Nat) : Int)) := by
  subst hc
  have hs : ¬ ((k : Int) < 0) := by omega
  have hm : min (k : Int).toNat IntKind.u64.bits = k := by
    have : IntKind.u64.bits = 64 := rfl
    rw [this]; simp; omega
  simp only [xint, hs, if_false, hm]
  have h2 : ((2 : Int) ^ k) = ((2 ^ k : Nat) : Int) := by simp
  rw [h2, ← hp, ← Int.natCast_mul, IntWalk.u64_in _ (by omega), Nat.mul_comm]
theorem shl_i64 (x k : Nat) (p : Nat) {c : Int} (hc : c = k) (hk : k < 64) (hp : p = 2 ^ k) (h : x * p < 9223372036854775808) : xint .shl .i64 (x : Int) c = some (.int .i64 ((p * x : Nat) : Int)) := by
  subst hc
  have hs : ¬ ((k : Int) < 0) := by omega
  have hm : min (k : Int).toNat IntKind.i64.bits = k := by
    have : IntKind.i64.bits = 64 := rfl
    rw [this]; simp; omega
  simp only [xint, hs, if_false, hm]
  have h2 : ((2 : Int) ^ k) = ((2 ^ k : Nat) : Int) := by simp
  rw [h2, ← hp, ← Int.natCast_mul, IntWalk.i64_in _ (by omega), Nat.mul_comm]
theorem and127_n : ∀ n : Nat, n < 256 → IntKind.u8.wrap (BitVec.ofInt 8 (n : Int) &&& BitVec.ofInt 8 127).toNat = ((n % 128 : Nat) : Int) := by decide +kernel
theorem and127 (n : Nat) (h : n < 256) : xint .and .u8 (n : Int) 127 = some (.int .u8 ((n % 128 : Nat) : Int)) := by
  have e : xint .and .u8 (n : Int) 127 = some (.int .u8 (IntKind.u8.wrap (BitVec.ofInt 8 (n : Int) &&& BitVec.ofInt 8 127).toNat)) := rfl
  rw [e, and127_n n h]

theorem u8n (n : Nat) : (UInt8.ofNat n).toNat = n % 256 := UInt8.toNat_ofNat'

def Sp65 : Spec := rspec (fun (x : Nat × List UInt8 × Own) args _ => x.1 < 4294967296 ∧ args = [bsl (be4 x.1 ++ x.2.1) x.2.2]) fun x S v S' => v = .int .u32 x.1 ∧ S' = S
theorem s65 : Sound PR 65 Sp65 := by
  refine sound_r PR_mixed sounds_nil monos_nil (own := own []) (ord := O65) (lh := H65) (fn := Go.Proofs.Tryz.f65) (by kernel_rfl) (by kernel_rfl) ?_
  rintro ⟨n, l, o⟩ args S ⟨hn, rfl⟩
  rw [W65_eq]
  refine ⟨rfl, ?_⟩
  unfold W65
  dsimp only at hn ⊢
  have g0 := get_load (l := be4 n ++ l) (o := o) (j := 0) 0 .i64 rfl rfl
  have g1 := get_load (l := be4 n ++ l) (o := o) (j := 1) 1 .i64 rfl rfl
  have g2 := get_load (l := be4 n ++ l) (o := o) (j := 2) 2 .i64 rfl rfl
  have g3 := get_load (l := be4 n ++ l) (o := o) (j := 3) 3 .i64 rfl rfl
  have w32 : ∀ m : Nat, m < 256 → IntKind.u32.wrap (m : Int) = m := fun m h => IntWalk.u32_in _ (by omega)
  have c0 : (n / 16777216) % 256 = n / 16777216 := by omega
  have q0 : IntKind.u32.wrap ((UInt8.ofNat (n / 16777216)).toNat : Int) = ((n / 16777216 : Nat) : Int) := by rw [u8n, w32 _ (by omega), c0]
  have q1 : IntKind.u32.wrap ((UInt8.ofNat (n / 65536)).toNat : Int) = ((n / 65536 % 256 : Nat) : Int) := by rw [u8n, w32 _ (by omega)]
  have q2 : IntKind.u32.wrap ((UInt8.ofNat (n / 256)).toNat : Int) = ((n / 256 % 256 : Nat) : Int) := by rw [u8n, w32 _ (by omega)]
  have q3 : IntKind.u32.wrap ((UInt8.ofNat n).toNat : Int) = ((n % 256 : Nat) : Int) := by rw [u8n, w32 _ (by omega)]
  have s0 := shl_u32 (n / 16777216) 24 16777216 (c := 24) rfl (by omega) rfl (by omega)
  have s1 := shl_u32 (n / 65536 % 256) 16 65536 (c := 16) rfl (by omega) rfl (by omega)
  have s2 := shl_u32 (n / 256 % 256) 8 256 (c := 8) rfl (by omega) rfl (by omega)
  have o1 := or_u32 (n / 16777216) (65536 * (n / 65536 % 256)) 24 (by omega) (by omega)
  have o2 := or_u32 (256 * (n / 16777216) + n / 65536 % 256) (256 * (n / 256 % 256)) 16 (by omega) (by omega)
  have o3 := or_u32 (65536 * (n / 16777216) + 256 * (n / 65536 % 256) + n / 256 % 256) (n % 256) 8 (by omega) (by omega)
  have e1 : (2 ^ 24 * (n / 16777216) + 65536 * (n / 65536 % 256)) = 2 ^ 16 * (256 * (n / 16777216) + n / 65536 % 256) := by omega
  have e2 : (2 ^ 16 * (256 * (n / 16777216) + n / 65536 % 256) + 256 * (n / 256 % 256)) = 2 ^ 8 * (65536 * (n / 16777216) + 256 * (n / 65536 % 256) + n / 256 % 256) := by omega
  have e3 : (2 ^ 8 * (65536 * (n / 16777216) + 256 * (n / 65536 % 256) + n / 256 % 256) + n % 256) = n := by omega
  rw [e1] at o1
  rw [e2] at o2
  rw [e3] at o3
  simp only [Nat.reducePow] at o1 o2 o3
  simp only [obind_some, List.drop, k_conv, k_load_r, k_or, k_d0, k_t0, k_shl, k_get1, g0.1, g0.2, g1.1, g1.2, g2.1, g2.2, g3.1, g3.2, q0, q1, q2, q3, s0, s1, s2, o1, o2, o3]
  exact done' ⟨rfl, rfl⟩

/-- A reader's state, in a heap that holds S0. -/
def RdAt (S0 S : St) (r : Nat) (l : List UInt8) : Prop := S0.obj r = none ∧ S0.le S ∧ ∃ o, S.obj r = some (.cells [bsl l o, .int .i64 0]) ∧ o ≠ .nil

theorem uv_ne (n : Nat) : uv n ≠ [] := by rw [uv]; split <;> simp

def Sp67 : Spec := rspec (fun (x : St × Nat × Nat × List UInt8 × Nat) args S => args = [.ptr (some (x.2.1, 0)), .int .u64 x.2.2.2.2] ∧ x.2.2.1 < 268435456 ∧ x.2.2.1 ≤ x.2.2.2.2 ∧ RdAt x.1 S x.2.1 (uv x.2.2.1 ++ x.2.2.2.1))
  fun x S v S' => v = .int .u64 x.2.2.1 ∧ RdAt x.1 S' x.2.1 x.2.2.2.1
theorem s67 : Sound PR 67 Sp67 := by
  refine sound_r PR_mixed (sounds_cons s68 sounds_nil) (monos_cons (rspec_mono _ _) monos_nil) (own := own []) (ord := O67) (lh := H67) (fn := Go.Proofs.Tryz.f67) (by kernel_rfl) (by kernel_rfl) ?_
  rintro ⟨S0, r, n, rest, most⟩ args S ⟨rfl, hn, hm, hR⟩
  rw [W67_eq]
  refine ⟨rfl, ?_⟩
  unfold W67
  dsimp only at hn hm hR ⊢
  refine aloop_inv (fun m l' S' => ∃ k acc : Nat, l' = [.int .u64 acc, .int .i64 k] ∧ RdAt S0 S' r (uv m ++ rest) ∧ acc + m * 2 ^ (7 * k) = n ∧ acc < 2 ^ (7 * k) ∧ (0 < k → 0 < m)) n ⟨0, 0, rfl, hR, by simp, by simp, by simp⟩ ?_
  rintro m _ S ⟨k, acc, rfl, ⟨h0, hle, o, ho, hon⟩, hv, hacc, hkm⟩ rec hrec
  have hk4 : k < 4 := by
    rcases Nat.lt_or_ge k 4 with h | h
    · exact h
    · exfalso
      have h1 : 2 ^ (7 * 4) ≤ 2 ^ (7 * k) := Nat.pow_le_pow_right (by omega) (by omega)
      have h2 : 2 ^ (7 * k) ≤ m * 2 ^ (7 * k) := Nat.le_mul_of_pos_left _ (hkm (by omega))
      omega
  have hp : 2 ^ (7 * k) ≤ 2097152 := Nat.pow_le_pow_right (n := 2) (i := 7 * k) (j := 21) (by omega) (by omega)
  obtain ⟨d, tl, hd, hdn, htl⟩ : ∃ d tl, uv m ++ rest = d :: tl ∧ d.toNat = (if m < 128 then m else m % 128 + 128) ∧ tl = (if m < 128 then rest else uv (m / 128) ++ rest) := by
    rw [uv]
    split
    · exact ⟨_, _, rfl, by rw [u8n]; omega, rfl⟩
    · exact ⟨_, _, rfl, by rw [u8n]; omega, rfl⟩
  rw [hd] at ho
  have g0 := get_load (l := d :: tl) (o := o) (j := 0) 0 .i64 rfl rfl
  have sl := slice_from (l := d :: tl) (o := o) (k := 1) .i64 (by simp) hon
  have hlen : ¬ (((d :: tl).length : Int) = 0) := by simp; omega
  have hd256 : d.toNat < 256 := d.toNat_lt
  have hk9 : ¬ ((k : Int) = 9) := by omega
  have sl' : xslice 1 (bsl (d :: tl) o) (some (.int .i64 1)) none none = some (bsl tl (ownSub 1 o (d :: tl).length (d :: tl).length none)) := sl
  have hlen' : ¬ (((tl.length + 1 : Nat) : Int) = 0) := by omega
  have hdk : 0 < k → ¬ ((d.toNat : Int) = 0) := by
    intro h; have := hkm h; rw [hdn]; split <;> omega
  have ha := and127 d.toNat hd256
  have h64 : IntKind.u64.wrap ((d.toNat % 128 : Nat) : Int) = ((d.toNat % 128 : Nat) : Int) := IntWalk.u64_in _ (by omega)
  have h7 : IntKind.i64.wrap (7 * (k : Int)) = ((7 * k : Nat) : Int) := by rw [IntWalk.i64_in _ (by omega)]; simp
  have hx : d.toNat % 128 * 2 ^ (7 * k) ≤ 127 * 2097152 := Nat.mul_le_mul (by omega) hp
  have hs := shl_u64 (d.toNat % 128) (7 * k) (2 ^ (7 * k)) (c := ((7 * k : Nat) : Int)) rfl (by omega) rfl (by omega)
  have hor := or_u64 (d.toNat % 128) acc (7 * k) hacc (by rw [Nat.mul_comm]; omega)
  have hS : RdAt S0 (S.setObj r (.cells [bsl tl (ownSub 1 o (tl.length + 1) (tl.length + 1) none), .int .i64 0])) r tl := ⟨h0, stle_setObj hle h0 _, ownSub 1 o (tl.length + 1) (tl.length + 1) none, by simp, ownSub_ne hon⟩
  have fin : asplit (AV.bool (decide ((d.toNat : Int) < 128)))
      (obind (xbini .leq (.int .u64 ((2 ^ (7 * k) * (d.toNat % 128) + acc : Nat) : Int)) (AV.int IntKind.u64 most)) fun t65 =>
        asplit t65
          (Done (fun v S' => v = AV.int IntKind.u64 n ∧ RdAt S0 S' r rest) (En.ret (.int .u64 ((2 ^ (7 * k) * (d.toNat % 128) + acc : Nat) : Int))) (S.setObj r (.cells [bsl tl (ownSub 1 o (tl.length + 1) (tl.length + 1) none), .int .i64 0])))
          (ccall Sp68 [AV.ptr (some (r, 0)), AV.int IntKind.i64 3] (S.setObj r (.cells [bsl tl (ownSub 1 o (tl.length + 1) (tl.length + 1) none), .int .i64 0]))
            (fun t68 S_5 => ∃ S'', S''.le S_5 ∧ rec [.int .u64 ((2 ^ (7 * k) * (d.toNat % 128) + acc : Nat) : Int), AV.int IntKind.i64 (IntKind.i64.wrap (k + 1))] S'')
            fun v S' => Done (fun v S' => v = AV.int IntKind.u64 n ∧ RdAt S0 S' r rest) (En.pan v) S'))
      (∃ S'', S''.le (S.setObj r (.cells [bsl tl (ownSub 1 o (tl.length + 1) (tl.length + 1) none), .int .i64 0])) ∧ rec [.int .u64 ((2 ^ (7 * k) * (d.toNat % 128) + acc : Nat) : Int), AV.int IntKind.i64 (IntKind.i64.wrap (k + 1))] S'') := by
    refine asplit_of _ ?_ ?_
    · intro hlt
      have hm128 : m < 128 := by
        rcases Nat.lt_or_ge m 128 with h | h
        · exact h
        · rw [if_neg (by omega)] at hdn; omega
      rw [if_pos hm128] at hdn htl
      have hval : 2 ^ (7 * k) * (d.toNat % 128) + acc = n := by rw [hdn, Nat.mod_eq_of_lt hm128, Nat.mul_comm]; omega
      rw [hval]
      have hle : (n : Int) ≤ most := by omega
      simp only [obind_some, asplit_true, decide_true, k_leq, hle]
      rw [htl] at hS ⊢
      exact done' ⟨rfl, hS⟩
    · intro hge
      have hm128 : ¬ m < 128 := by
        intro h; rw [if_pos h] at hdn; omega
      rw [if_neg hm128] at hdn htl
      have hk1 : IntKind.i64.wrap ((k : Int) + 1) = ((k + 1 : Nat) : Int) := by rw [IntWalk.i64_in _ (by omega)]; simp
      have e7 : 2 ^ (7 * (k + 1)) = 128 * 2 ^ (7 * k) := by rw [Nat.mul_add, Nat.pow_add, Nat.mul_comm]
      have hd2 : d.toNat % 128 = m % 128 := by omega
      rw [hk1]
      refine ⟨_, St.le_refl _, hrec (m / 128) _ _ (by omega) ⟨k + 1, 2 ^ (7 * k) * (d.toNat % 128) + acc, rfl, by rw [← htl]; exact hS, ?_, ?_, by omega⟩⟩
      · rw [e7, hd2, ← hv]
        have h1 : m / 128 * (128 * 2 ^ (7 * k)) = (128 * (m / 128)) * 2 ^ (7 * k) := by rw [← Nat.mul_assoc, Nat.mul_comm (m / 128)]
        have h2 : m * 2 ^ (7 * k) = (128 * (m / 128)) * 2 ^ (7 * k) + (m % 128) * 2 ^ (7 * k) := by rw [← Nat.add_mul, Nat.div_add_mod]
        have h3 : 2 ^ (7 * k) * (m % 128) = (m % 128) * 2 ^ (7 * k) := Nat.mul_comm _ _
        rw [h1, h2, h3]; omega
      · rw [e7]
        have h1 : 2 ^ (7 * k) * (d.toNat % 128) ≤ 2 ^ (7 * k) * 127 := Nat.mul_le_mul_left _ (by omega)
        omega
  simp only [obind_some, asplit_true, asplit_false, g, setList, List.set, List.length, List.drop, List.getD_cons_zero, List.getD_cons_succ, List.getElem?_cons_zero, List.getElem?_cons_succ, List.all, if_false, if_pos, true_and, Bool.and_self, eq_self, Nat.zero_add, Nat.add_zero, Nat.reduceAdd, Nat.reduceLeDiff, Bool.false_eq_true, decide_true, decide_false, k_add, k_and, k_conv, k_eql, k_faddr_p, k_gtr, k_gv_b, k_leq, k_load_p, k_load_r, k_lss, k_mul, k_nilck_p, k_or, k_pick, k_t0, k_cells_bsl, k_ok_bsl, k_len_bsl, k_shl, k_store_p, k_get1, ho, g0.1, g0.2, sl', hk9, hlen', ha, h64, h7, hs, hor]
  by_cases hk0 : 0 < k
  · have h1 : (k : Int) > 0 := by omega
    simp only [obind_some, asplit_false, if_pos, eq_self, decide_true, decide_false, k_eql, h1, hdk hk0]
    exact fin
  · have h1 : ¬ ((k : Int) > 0) := by omega
    simp only [obind_some, asplit_false, if_false, Bool.false_eq_true, decide_false, h1]
    exact fin
end Go.AM
/-
  wire, the reader's calls; wal's next.
-/
namespace Go.AM
open Go
set_option maxRecDepth 20000

def Sp48 : Spec := rspec (fun (x : List UInt8 × Own) args _ => args = [bsl (around x.1) x.2] ∧ x.2 ≠ .nil ∧ 1 ≤ x.1.length ∧ x.1.length ≤ 65536)
  fun x S v S' => ∃ r, v = .tuple [.ptr (some (r, 0)), .int .i64 0] ∧ RdAt S S' r x.1
theorem s48 : Sound PR 48 Sp48 := by
  refine sound_r PR_mixed (sounds_cons s65 (sounds_cons s66 sounds_nil)) (monos_cons (rspec_mono _ _) (monos_cons (rspec_mono _ _) monos_nil)) (own := own []) (ord := O48) (lh := H48) (fn := Go.Proofs.Tryz.f48) (by kernel_rfl) (by kernel_rfl) ?_
  rintro ⟨l, o⟩ args S ⟨rfl, ho, h1, h2⟩
  rw [W48_eq]
  refine ⟨rfl, ?_⟩
  unfold W48
  dsimp only at ho h1 h2 ⊢
  have hlen : (around l).length = l.length + 8 := by simp [around, be4_length]; omega
  have s8 : xslice 1 (bsl (around l) o) (some (.int .i64 8)) none none = some (bsl l (ownSub 1 o (around l).length (around l).length none)) := slice_from (k := 8) .i64 (by omega) ho
  have s4 : xslice 1 (bsl (around l) o) (some (.int .i64 4)) none none = some (bsl (be4 (crc l) ++ l) (ownSub 1 o (around l).length (around l).length none)) := slice_from (k := 4) .i64 (by omega) ho
  have q0 : ¬ (((around l).length : Int) < 8) := by omega
  have q1 : IntKind.u64.wrap (l.length : Int) = l.length := IntWalk.u64_in _ (by omega)
  have q2 : ¬ ((l.length : Int) > 65536) := by omega
  have q3 : ¬ ((l.length : Int) < l.length) := by omega
  have q4 : ¬ ((l.length : Int) > l.length) := by omega
  simp only [obind_some, asplit_false, xbuild, xfill, List.length, and_true, Nat.zero_add, Nat.reduceAdd, Nat.reduceLeDiff, Nat.le_refl, decide_false, k_conv, k_lss, k_len_bsl, q0, s8, s4]
  refine ccall_r (l.length, be4 (crc l) ++ l, o) ⟨by dsimp only; omega, by simp only [around, List.append_assoc]⟩ ?_
  rintro _ S ⟨rfl, rfl⟩
  dsimp only
  simp only [obind_some, asplit_false, decide_false, k_conv, k_gtr, k_lss, q1, q2, q3]
  refine ccall_r (l, ownSub 1 o (around l).length (around l).length none) ⟨by dsimp only; omega, rfl⟩ ?_
  rintro _ S ⟨rfl, rfl⟩
  refine ccall_r (crc l, l, ownSub 1 o (around l).length (around l).length none) ⟨crc_lt l, rfl⟩ ?_
  rintro _ S ⟨rfl, rfl⟩
  simp only [obind_some, asplit_false, eq_self, ne_eq, not_true, decide_false, k_neq]
  have e : AV.slice [] 0 .nil = bsl [] .nil := rfl
  rw [e]
  refine app_tl (S0 := S) (n := 0) (cs := []) (o := .nil) (new := ofBytes l) (m := l.length) (by simp [xnews, bsl]) (by omega) (by simp) (ofBytes_ok l) rfl (fun _ => rfl) (by omega) (by omega) ⟨St.le_refl _, .inl rfl⟩ ?_
  intro o' S' hS hT hn
  have e2 : AV.slice ([] ++ ofBytes l) (0 + l.length) o' = bsl l o' := by simp [bsl]
  rw [e2]
  simp only [obind_some, setList, Option.map_some, List.set, List.length, if_pos, true_and, eq_self, Nat.zero_add, Nat.reduceAdd, k_cells_a, k_cells_bsl, xbox]
  intro b hb ht
  refine done' ⟨b, rfl, stle_obj hT.1 hb, stle_setObj hT.1 (stle_obj hT.1 hb) _, o', by simp, ?_⟩
  intro hc; have := hn hc; omega

def Sp49 : Spec := rspec (fun (x : St × Nat × Nat × List UInt8) args S => args = [.ptr (some (x.2.1, 0))] ∧ x.2.2.1 ≤ 4096 ∧ RdAt x.1 S x.2.1 (uv x.2.2.1 ++ x.2.2.2))
  fun x S v S' => v = .int .i64 x.2.2.1 ∧ RdAt x.1 S' x.2.1 x.2.2.2
theorem s49 : Sound PR 49 Sp49 := by
  refine sound_r PR_mixed (sounds_cons s67 sounds_nil) (monos_cons (rspec_mono _ _) monos_nil) (own := own []) (ord := O49) (lh := H49) (fn := Go.Proofs.Tryz.f49) (by kernel_rfl) (by kernel_rfl) ?_
  rintro ⟨S0, r, n, rest⟩ args S ⟨rfl, hn, hR⟩
  rw [W49_eq]
  refine ⟨rfl, ?_⟩
  unfold W49
  dsimp only at hn hR ⊢
  simp only [obind_some, asplit_false, if_false, Bool.not_false, Nat.add_zero, Option.isNone_some, Bool.false_eq_true, k_faddr_p, k_isnil, k_nilck_p, k_nilp_p]
  refine ccall_r (S0, r, n, rest, 4096) ⟨rfl, by dsimp only; omega, hn, hR⟩ ?_
  rintro _ S ⟨rfl, h⟩
  have q1 : IntKind.i64.wrap (n : Int) = n := IntWalk.i64_in _ (by omega)
  dsimp only
  simp only [obind_some, k_conv, q1]
  exact done' ⟨rfl, h⟩

def Sp50 : Spec := rspec (fun (x : St × Nat × List UInt8 × List UInt8) args S => args = [.ptr (some (x.2.1, 0))] ∧ x.2.2.1.length ≤ 65536 ∧ RdAt x.1 S x.2.1 (uv x.2.2.1.length ++ (x.2.2.1 ++ x.2.2.2)))
  fun x S v S' => v = .str ⟨x.2.2.1.toArray⟩ ∧ RdAt x.1 S' x.2.1 x.2.2.2
theorem s50 : Sound PR 50 Sp50 := by
  refine sound_r PR_mixed (sounds_cons s67 (sounds_cons s68 sounds_nil)) (monos_cons (rspec_mono _ _) (monos_cons (rspec_mono _ _) monos_nil)) (own := own []) (ord := O50) (lh := H50) (fn := Go.Proofs.Tryz.f50) (by kernel_rfl) (by kernel_rfl) ?_
  rintro ⟨S0, r, s, rest⟩ args S ⟨rfl, hn, hR⟩
  rw [W50_eq]
  refine ⟨rfl, ?_⟩
  unfold W50
  dsimp only at hn hR ⊢
  simp only [obind_some, asplit_false, if_false, Bool.not_false, Nat.zero_add, Nat.add_zero, Option.isNone_some, Bool.false_eq_true, k_faddr_p, k_isnil, k_load_p, k_nilck_p, k_nilp_p, k_store_p, k_get1]
  refine ccall_r (S0, r, s.length, s ++ rest, 65536) ⟨rfl, by dsimp only; omega, hn, hR⟩ ?_
  rintro _ S ⟨rfl, h0, hle, o, ho, hon⟩
  have q1 : IntKind.i64.wrap (s.length : Int) = s.length := IntWalk.i64_in _ (by omega)
  have q2 : ¬ ((s.length : Int) > ((s ++ rest).length : Nat)) := by simp; omega
  have st := slice_to (l := s ++ rest) (o := o) (k := s.length) .i64 (by simp) hon
  have sf := slice_from (l := s ++ rest) (o := o) (k := s.length) .i64 (by simp) hon
  rw [List.take_left] at st
  rw [List.drop_left] at sf
  have hs : ∀ S, xbytes2str (bsl s (ownSub 1 o s.length (s ++ rest).length none)) S = some (.str ⟨s.toArray⟩) := fun S => (Byt.str (S := S) (.inl ⟨_, rfl, fun h => absurd h (ownSub_ne hon)⟩))
  dsimp only at h0 ho
  dsimp only
  simp only [obind_some, asplit_false, setList, List.set, List.length, List.getElem?_cons_zero, List.getElem?_cons_succ, List.all, true_and, Bool.and_self, eq_self, ne_eq, not_true, Nat.zero_add, Nat.reduceAdd, Nat.reduceLeDiff, decide_false, k_conv, k_gtr, k_neq, k_cells_bsl, k_ok_bsl, k_len_bsl, q1, q2, ho, st, sf, hs]
  exact done' ⟨rfl, h0, stle_setObj hle h0 _, ownSub 1 o (s ++ rest).length (s ++ rest).length none, by simp, ownSub_ne hon⟩

def Sp51 : Spec := rspec (fun (x : St × Nat) args S => args = [.ptr (some (x.2, 0))] ∧ RdAt x.1 S x.2 [])
  fun _ S v S' => v = .int .i64 0 ∧ S' = S
theorem s51 : Sound PR 51 Sp51 := by
  refine sound_r PR_mixed sounds_nil monos_nil (own := own []) (ord := O51) (lh := H51) (fn := Go.Proofs.Tryz.f51) (by kernel_rfl) (by kernel_rfl) ?_
  rintro ⟨S0, r⟩ args S ⟨rfl, h0, hle, o, ho, hon⟩
  rw [W51_eq]
  refine ⟨rfl, ?_⟩
  unfold W51
  dsimp only at ho h0 ⊢
  have q : ¬ ((([] : List UInt8).length : Int) > 0) := by simp
  simp only [obind_some, asplit_false, List.length, List.getElem?_cons_zero, List.getElem?_cons_succ, if_false, if_pos, Bool.not_false, eq_self, Nat.zero_add, Nat.add_zero, Option.isNone_some, Bool.false_eq_true, decide_true, k_eql, k_faddr_p, k_gtr, k_gv_b, k_isnil, k_load_p, k_nilck_p, k_nilp_p, k_pick, k_len_bsl, k_get1, ho]
  exact done' ⟨rfl, rfl⟩

/-- A beginning of a frame that is not all of it. -/
def Partial (b : List UInt8) : Prop := ∃ k s t, t ≠ [] ∧ b ++ t = frameB k s ∧ k ≤ 2 ∧ s.length ≤ 60000

/-- What next answers. -/
def nextV : Option (Nat × List UInt8 × List UInt8) → AV
  | some (k, s, _) => .tuple [.int .i64 k, bsl s .ro, .int .i64 (frameB k s).length]
  | none => .tuple [.int .i64 0, bsl [] .nil, .int .i64 0]
def Sp32 : Spec := rspec (fun (x : (List UInt8 × Own) × Option (Nat × List UInt8 × List UInt8)) args _ => args = [bsl x.1.1 x.1.2] ∧ (x.1.2 = .nil → x.1.1 = []) ∧ x.1.1.length ≤ 1073741824 ∧ (match x.2 with
    | some (k, s, rest) => x.1.1 = frameB k s ++ rest ∧ k ≤ 2 ∧ s.length ≤ 60000
    | none => Partial x.1.1))
  fun x S v S' => v = nextV x.2 ∧ S' = S
theorem body_length (k : Nat) (s : List UInt8) (hk : k ≤ 2) (hs : s.length ≤ 60000) : 1 ≤ (body k s).length ∧ (body k s).length ≤ 60006 := by
  have u1 := uv_small k (by omega)
  have u2 := uv_small s.length (by omega)
  have u3 : 0 < (uv k).length := List.length_pos_iff.2 (uv_ne k)
  simp [body]; omega
theorem frameB_length (k : Nat) (s : List UInt8) : (frameB k s).length = (body k s).length + 8 := by simp [frameB, around, be4_length]; omega
theorem s32 : Sound PR 32 Sp32 := by
  refine sound_r PR_mixed (sounds_cons s48 (sounds_cons s49 (sounds_cons s50 (sounds_cons s51 sounds_nil)))) (monos_cons (rspec_mono _ _) (monos_cons (rspec_mono _ _) (monos_cons (rspec_mono _ _) (monos_cons (rspec_mono _ _) monos_nil)))) (own := own []) (ord := O32) (lh := H32) (fn := Go.Proofs.Tryz.f32) (by kernel_rfl) (by kernel_rfl) ?_
  rintro ⟨⟨b, o⟩, x⟩ args S ⟨rfl, hon, hb, hx⟩
  rw [W32_eq]
  refine ⟨rfl, ?_⟩
  unfold W32
  dsimp only at hon hb hx ⊢
  simp only [obind_some, k_lss, k_len_bsl]
  refine asplit_of _ ?_ ?_
  · intro hlt
    cases x with
    | none => exact done' ⟨rfl, rfl⟩
    | some y =>
      obtain ⟨k, s, rest⟩ := y
      obtain ⟨rfl, h1, h2⟩ := hx
      have := frameB_length k s
      simp at hlt; omega
  · intro hge
    have ho : o ≠ .nil := by intro h; rw [hon h] at hge; simp at hge
    obtain ⟨n, tl, hbe, hn, hnx⟩ : ∃ n tl, b = be4 n ++ tl ∧ n ≤ 60006 ∧ (match x with
        | some (k, s, _) => n = (body k s).length
        | none => b.length < n + 8) := by
      cases x with
      | some y =>
        obtain ⟨k, s, rest⟩ := y
        obtain ⟨rfl, h1, h2⟩ := hx
        exact ⟨(body k s).length, be4 (crc (body k s)) ++ (body k s ++ rest), by simp only [frameB, around, List.append_assoc], (body_length k s h1 h2).2, rfl⟩
      | none =>
        obtain ⟨k, s, t, ht, he, h1, h2⟩ := hx
        have htl : 0 < t.length := List.length_pos_iff.2 ht
        have hl := congrArg List.length he
        rw [frameB_length, List.length_append] at hl
        refine ⟨(body k s).length, b.drop 4, ?_, (body_length k s h1 h2).2, by dsimp only; omega⟩
        have h3 : (b ++ t).take 4 = be4 (body k s).length := by rw [he]; rfl
        rw [List.take_append_of_le_length (by omega)] at h3
        rw [← h3, List.take_append_drop]
    have g0 := get_load (l := b) (o := o) (j := 0) (b := UInt8.ofNat (n / 16777216)) 0 .i64 rfl (by rw [hbe]; rfl)
    have g1 := get_load (l := b) (o := o) (j := 1) (b := UInt8.ofNat (n / 65536)) 1 .i64 rfl (by rw [hbe]; rfl)
    have g2 := get_load (l := b) (o := o) (j := 2) (b := UInt8.ofNat (n / 256)) 2 .i64 rfl (by rw [hbe]; rfl)
    have g3 := get_load (l := b) (o := o) (j := 3) (b := UInt8.ofNat n) 3 .i64 rfl (by rw [hbe]; rfl)
    have w : ∀ m : Nat, m < 256 → IntKind.i64.wrap (m : Int) = m := fun m h => IntWalk.i64_in _ (by omega)
    have q0 : IntKind.i64.wrap ((UInt8.ofNat (n / 16777216)).toNat : Int) = ((0 : Nat) : Int) := by rw [u8n, w _ (by omega)]; omega
    have q1 : IntKind.i64.wrap ((UInt8.ofNat (n / 65536)).toNat : Int) = ((0 : Nat) : Int) := by rw [u8n, w _ (by omega)]; omega
    have q2 : IntKind.i64.wrap ((UInt8.ofNat (n / 256)).toNat : Int) = ((n / 256 : Nat) : Int) := by rw [u8n, w _ (by omega)]; omega
    have q3 : IntKind.i64.wrap ((UInt8.ofNat n).toNat : Int) = ((n % 256 : Nat) : Int) := by rw [u8n, w _ (by omega)]
    have s0 : xint .shl .i64 ((0 : Nat) : Int) 24 = some (.int .i64 0) := rfl
    have s1 : xint .shl .i64 ((0 : Nat) : Int) 16 = some (.int .i64 0) := rfl
    have s2 := shl_i64 (n / 256) 8 256 (c := 8) rfl (by omega) rfl (by omega)
    have a0 : IntKind.i64.wrap (8 + 0) = 8 := by decide
    have a2 : IntKind.i64.wrap (8 + ((256 * (n / 256) : Nat) : Int)) = ((8 + 256 * (n / 256) : Nat) : Int) := by rw [IntWalk.i64_in _ (by omega)]; simp
    have a3 : IntKind.i64.wrap (((8 + 256 * (n / 256) : Nat) : Int) + ((n % 256 : Nat) : Int)) = ((n + 8 : Nat) : Int) := by rw [IntWalk.i64_in _ (by omega)]; omega
    simp only [obind_some, List.drop, k_add, k_conv, k_gtr, k_load_r, k_d0, k_t0, k_shl, k_get1, g0.1, g0.2, g1.1, g1.2, g2.1, g2.2, g3.1, g3.2, q0, q1, q2, q3, s0, s1, s2, a0, a2, a3]
    cases x with
    | none =>
      dsimp only at hnx
      have hgt : ((n + 8 : Nat) : Int) > b.length := by omega
      simp only [asplit_true, decide_true, hgt]
      exact done' ⟨rfl, rfl⟩
    | some y =>
      obtain ⟨k, s, rest⟩ := y
      obtain ⟨hb2, h1, h2⟩ := hx
      dsimp only at hnx
      have hfl := frameB_length k s
      have hbl := body_length k s h1 h2
      have hgt : ¬ (((n + 8 : Nat) : Int) > b.length) := by rw [hb2]; simp; omega
      have st := slice_to (l := b) (o := o) (k := n + 8) .i64 (by omega) ho
      have htk : b.take (n + 8) = around (body k s) := by rw [hb2, hnx, ← hfl, List.take_left]; rfl
      rw [htk] at st
      simp only [obind_some, asplit_false, decide_false, hgt, st]
      refine ccall_r (body k s, ownSub 1 o (n + 8) b.length none) ⟨rfl, ownSub_ne ho, hbl.1, by dsimp only; omega⟩ ?_
      rintro _ S1 ⟨r, rfl, hR⟩
      dsimp only at hR
      have hR' : RdAt S S1 r (uv k ++ (uv s.length ++ (s ++ []))) := by simpa [body] using hR
      simp only [obind_some, asplit_false, List.getElem?_cons_zero, List.getElem?_cons_succ, eq_self, ne_eq, not_true, decide_false, k_extract, k_neq]
      refine ccall_r (S, r, k, uv s.length ++ (s ++ [])) ⟨rfl, by dsimp only; omega, hR'⟩ ?_
      rintro _ S2 ⟨rfl, hR2⟩
      refine ccall_r (S, r, s, []) ⟨rfl, by dsimp only; omega, hR2⟩ ?_
      rintro _ S3 ⟨rfl, hR3⟩
      refine ccall_r (S, r) ⟨rfl, hR3⟩ ?_
      rintro _ S3 ⟨rfl, rfl⟩
      have hk2 : ¬ ((k : Int) > 2) := by omega
      dsimp only
      simp only [obind_some, asplit_false, if_false, if_pos, eq_self, ne_eq, not_true, Bool.false_eq_true, decide_false, k_gtr, k_gv_b, k_neq, k_pick, k_s2b, hk2]
      refine done S hR3.2.1 ⟨?_, rfl⟩
      simp only [nextV, hfl, hnx]
      rfl
end Go.AM
/-
  plate: files in a map, read in the owned heap; lay.
-/
namespace Go.AM
open Go
set_option maxRecDepth 20000

def bstr (l : List UInt8) : ByteArray := ⟨l.toArray⟩
theorem bstr_list (l : List UInt8) : (bstr l).data.toList = l := by simp [bstr]
theorem bstr_size (l : List UInt8) : (bstr l).size = l.length := by simp [bstr, ByteArray.size]
theorem bstr_append (a b : List UInt8) : bstr a ++ bstr b = bstr (a ++ b) := by
  apply ByteArray.ext
  simp [bstr, ByteArray.data_append]

structure FileS where
  name : List UInt8
  data : List UInt8
  safe : Nat
structure PlateS where
  files : List FileS
  room : Int
  used : Int
  armed : Bool
  left : Int
  down : Bool

def putF (fs : List FileS) (f : FileS) : List FileS := if fs.any (fun x => x.name == f.name) then fs.map (fun x => if x.name = f.name then f else x) else fs ++ [f]
def delF (fs : List FileS) (n : List UInt8) : List FileS := fs.filter fun x => x.name != n
def getF (fs : List FileS) (n : List UInt8) : Option FileS := fs.find? fun x => x.name == n
def dataF (fs : List FileS) (n : List UInt8) : List UInt8 := ((getF fs n).map (·.data)).getD []
def safeF (fs : List FileS) (n : List UInt8) : Nat := ((getF fs n).map (·.safe)).getD 0

/-- A file is this one. -/
def PlateS.lay (P : PlateS) (f : FileS) : PlateS :=
  { P with used := P.used + ((f.data.length : Int) - (dataF P.files f.name).length), files := if f.data = [] then delF (putF P.files f) f.name else putF P.files f }

abbrev FE := FileS × Own × Nat
def entry (x : FE) : AV × AV × Nat := (.str (bstr x.1.name), .agg [bsl x.1.data x.2.1, .int .i64 x.1.safe], x.2.2)
def pcells (m : Nat) (P : PlateS) : List AV := [.map (some m), .int .i64 P.room, .int .i64 P.used, .bool P.armed, .int .i64 P.left, .bool P.down]
def tkOf : Own → Option Nat
  | .tok t _ _ => some t
  | _ => none
def OwnIn (R S : St) (o : Own) : Prop := o = .nil ∨ o = .full ∨ ∃ t hw, o = .tok t hw 1 ∧ S.tok t = some hw ∧ R.tok t = none

structure PlX (R S : St) (p : Nat) (P : PlateS) (ex : Option (List UInt8)) (m clock : Nat) (fe : List FE) : Prop where
  rle : R.le S
  rp : R.obj p = none
  rm : R.obj m = none
  op : S.obj p = some (.cells (pcells m P))
  om : S.obj m = some (.map (fe.map entry) clock)
  files : P.files = fe.map (·.1)
  names : (P.files.map (·.name)).Nodup
  nil : ∀ x ∈ fe, x.2.1 = .nil → x.1.data = []
  own : ∀ x ∈ fe, ex ≠ some x.1.name → OwnIn R S x.2.1
  dist : ∀ x ∈ fe, ∀ y ∈ fe, x.1.name ≠ y.1.name → ∀ t, tkOf x.2.1 = some t → tkOf y.2.1 ≠ some t
  born : fe.Pairwise fun x y => x.2.2 < y.2.2
  clk : ∀ x ∈ fe, x.2.2 < clock
/-- A plate, beside a heap R. -/
def PlAt (R S : St) (p : Nat) (P : PlateS) : Prop := ∃ m clock fe, PlX R S p P none m clock fe

theorem key_bstr (a b : List UInt8) : keyEq true (.str (bstr a)) (.str (bstr b)) = some (a == b) := by simp [keyEq, bstr_list]
theorem find_none {n : List UInt8} : ∀ {fe : List FE} (i : Nat), (∀ x ∈ fe, x.1.name ≠ n) → xfind true (.str (bstr n)) (fe.map entry) i = some none
  | [], _, _ => rfl
  | x :: fe, i, h => by
    have h1 : (n == x.1.name) = false := by simpa using fun hc => h x (by simp) hc.symm
    simp only [List.map_cons, entry, xfind, key_bstr, h1]
    exact find_none (i + 1) fun y hy => h y (by simp [hy])
theorem find_some {n : List UInt8} {x : FE} {b : List FE} (hx : x.1.name = n) : ∀ {a : List FE} (i : Nat), (∀ y ∈ a, y.1.name ≠ n) →
    xfind true (.str (bstr n)) ((a ++ x :: b).map entry) i = some (some (i + a.length, (entry x).2.1))
  | [], i, _ => by
    subst hx
    simp [entry, xfind, key_bstr]
  | y :: a, i, h => by
    have h1 : (n == y.1.name) = false := by simpa using fun hc => h y (by simp) hc.symm
    have := find_some hx (a := a) (b := b) (i + 1) fun z hz => h z (by simp [hz])
    simp only [List.cons_append, List.map_cons, entry, xfind, key_bstr, h1] at this ⊢
    rw [this]
    simp; omega
/-- A file is there or not. -/
theorem split_name (fe : List FE) (n : List UInt8) : (∀ x ∈ fe, x.1.name ≠ n) ∨ ∃ a x b, fe = a ++ x :: b ∧ x.1.name = n ∧ ∀ y ∈ a, y.1.name ≠ n := by
  induction fe with
  | nil => left; simp
  | cons x fe ih =>
    by_cases hx : x.1.name = n
    · right; exact ⟨[], x, fe, rfl, hx, by simp⟩
    · rcases ih with ih | ⟨a, y, b, rfl, hy, ha⟩
      · left; intro z hz; rcases List.mem_cons.1 hz with rfl | hz
        · exact hx
        · exact ih z hz
      · right; refine ⟨x :: a, y, b, rfl, hy, ?_⟩
        intro z hz; rcases List.mem_cons.1 hz with rfl | hz
        · exact hx
        · exact ha z hz

theorem modify_mid {α : Type} (g : α → α) (x : α) (b : List α) : ∀ a : List α, (a ++ x :: b).modify a.length g = a ++ g x :: b
  | [] => by simp
  | y :: a => by simpa using modify_mid g x b a
theorem erase_mid {α : Type} (x : α) (b : List α) : ∀ a : List α, (a ++ x :: b).eraseIdx a.length = a ++ b
  | [] => by simp
  | y :: a => by simpa using erase_mid x b a

theorem getF_none {fs : List FileS} {n : List UInt8} (h : ∀ x ∈ fs, x.name ≠ n) : getF fs n = none := by
  simp only [getF, List.find?_eq_none]
  intro x hx; simpa using h x hx
theorem getF_mid {a b : List FileS} {x : FileS} {n : List UInt8} (hx : x.name = n) (ha : ∀ y ∈ a, y.name ≠ n) : getF (a ++ x :: b) n = some x := by
  simp only [getF, List.find?_append]
  have := getF_none ha
  simp only [getF] at this
  rw [this]
  simp [hx]
theorem putF_none {fs : List FileS} {f : FileS} (h : ∀ x ∈ fs, x.name ≠ f.name) : putF fs f = fs ++ [f] := by
  unfold putF
  rw [if_neg]
  simpa using h
theorem map_id_of {fs : List FileS} {f : FileS} (h : ∀ x ∈ fs, x.name ≠ f.name) : fs.map (fun x => if x.name = f.name then f else x) = fs := by
  induction fs with
  | nil => rfl
  | cons x fs ih => simp [h x (by simp), ih fun y hy => h y (by simp [hy])]
theorem putF_mid {a b : List FileS} {x f : FileS} (hx : x.name = f.name) (ha : ∀ y ∈ a, y.name ≠ f.name) (hb : ∀ y ∈ b, y.name ≠ f.name) : putF (a ++ x :: b) f = a ++ f :: b := by
  unfold putF
  rw [if_pos (by simp [hx])]
  simp [hx, map_id_of ha, map_id_of hb]
theorem filter_id_of {fs : List FileS} {n : List UInt8} (h : ∀ x ∈ fs, x.name ≠ n) : delF fs n = fs := by
  unfold delF
  rw [List.filter_eq_self]
  intro x hx; simpa using h x hx
theorem delF_mid {a b : List FileS} {x : FileS} {n : List UInt8} (hx : x.name = n) (ha : ∀ y ∈ a, y.name ≠ n) (hb : ∀ y ∈ b, y.name ≠ n) : delF (a ++ x :: b) n = a ++ b := by
  have h1 := filter_id_of ha
  have h2 := filter_id_of hb
  unfold delF at h1 h2 ⊢
  rw [List.filter_append, List.filter_cons, h1, h2]
  simp [hx]
theorem nodup_mid {a b : List FE} {x : FE} {P : PlateS} (hf : P.files = (a ++ x :: b).map (·.1)) (hn : (P.files.map (·.name)).Nodup) : (∀ y ∈ a, y.1.name ≠ x.1.name) ∧ (∀ y ∈ b, y.1.name ≠ x.1.name) := by
  rw [hf] at hn
  simp only [List.map_append, List.map_cons, List.map_map, List.nodup_append, List.nodup_cons, List.mem_map, List.mem_cons, Function.comp] at hn
  obtain ⟨_, ⟨h1, _⟩, h2⟩ := hn
  refine ⟨fun y hy => h2 _ ⟨y, hy, rfl⟩ _ (.inl rfl), fun y hy hc => h1 ⟨y, hy, hc⟩⟩

variable {R S S0 : St} {p m clock : Nat} {P : PlateS} {ex : Option (List UInt8)} {fe : List FE}

theorem PlX.pm (h : PlX R S p P ex m clock fe) : p ≠ m := by
  rintro rfl
  have h1 := h.op; rw [h.om] at h1; cases h1
/-- Looking a file up. -/
theorem PlX.look (h : PlX R S p P ex m clock fe) (n : List UInt8) : ∃ o, xlookup true (.agg [.slice [] 0 .nil, .int .i64 0]) false (.map (some m)) (.str (bstr n)) S = some (.agg [bsl (dataF P.files n) o, .int .i64 (safeF P.files n)]) ∧
    (o = .nil → dataF P.files n = []) ∧ (ex ≠ some n → OwnIn R S o) ∧ (∀ x ∈ fe, x.1.name ≠ n → ∀ t, tkOf x.2.1 = some t → tkOf o ≠ some t) := by
  simp only [xlookup, xentries, h.om]
  rcases split_name fe n with hn | ⟨a, x, b, rfl, hx, ha⟩
  · have hg : getF P.files n = none := getF_none (by rw [h.files]; intro y hy; obtain ⟨z, hz, rfl⟩ := List.mem_map.1 hy; exact hn z hz)
    refine ⟨.nil, ?_, by simp [dataF, hg], fun _ => .inl rfl, fun _ _ _ t _ hc => by cases hc⟩
    rw [find_none 0 hn]
    simp [dataF, safeF, hg, bsl]
  · obtain ⟨h1, h2⟩ := nodup_mid h.files h.names
    have hg : getF P.files n = some x.1 := by
      rw [h.files, List.map_append, List.map_cons]
      exact getF_mid hx (by intro y hy; obtain ⟨z, hz, rfl⟩ := List.mem_map.1 hy; exact ha z hz)
    refine ⟨x.2.1, ?_, fun hc => by simp [dataF, hg, h.nil x (by simp) hc], fun hc => h.own x (by simp) (by rw [hx]; exact hc), fun y hy hne t ht => h.dist y hy x (by simp) (by rw [hx]; exact hne) t ht⟩
    rw [find_some hx 0 ha]
    simp [dataF, safeF, hg, entry]
/-- A part of the heap beside a file. -/
theorem PlX.but (h : PlX R S p P none m clock fe) (n : List UInt8) {o : Own} (hd : ∀ x ∈ fe, x.1.name ≠ n → ∀ t, tkOf x.2.1 = some t → tkOf o ≠ some t) (ho : OwnIn R S o) :
    ∃ S0, PlX R S0 p P (some n) m clock fe ∧ Tl 1 S0 S o := by
  rcases ho with rfl | rfl | ⟨t, hw, rfl, ht, hR⟩
  · exact ⟨S, { h with own := fun x hx _ => h.own x hx (by simp) }, St.le_refl _, .inl rfl⟩
  · exact ⟨S, { h with own := fun x hx _ => h.own x hx (by simp) }, St.le_refl _, .inr (.inl rfl)⟩
  · refine ⟨S.delTok t, { h with rle := stle_delTok h.rle hR, op := h.op, om := h.om, own := ?_ }, stle_delTok' S t, .inr (.inr ⟨t, hw, rfl, ht, by simp⟩)⟩
    intro x hx hne
    have hne' : x.1.name ≠ n := fun hc => hne (by rw [hc])
    rcases h.own x hx (by simp) with h1 | h1 | ⟨t', hw', h1, h2, h3⟩
    · exact .inl h1
    · exact .inr (.inl h1)
    · refine .inr (.inr ⟨t', hw', h1, ?_, h3⟩)
      have : t' ≠ t := by
        rintro rfl
        exact hd x hx hne' t' (by rw [h1]; rfl) rfl
      simp [this, h2]

theorem PlX.grow (h : PlX R S0 p P ex m clock fe) (hl : S0.le S) : PlX R S p P ex m clock fe :=
  { h with rle := St.le_trans h.rle hl, op := hl.1 _ _ h.op, om := hl.1 _ _ h.om, own := fun x hx he => (h.own x hx he).imp id (Or.imp id fun ⟨t, hw, a, b, c⟩ => ⟨t, hw, a, hl.2 _ _ b, c⟩) }
/-- The plate's numbers change. -/
theorem PlX.upd (h : PlX R S p P ex m clock fe) (P' : PlateS) (hf : P'.files = P.files) : PlX R (S.setObj p (.cells (pcells m P'))) p P' ex m clock fe :=
  { h with rle := stle_setObj h.rle h.rp _, op := by simp, om := by simp [h.pm.symm, h.om], files := by rw [hf]; exact h.files, names := by rw [hf]; exact h.names,
           own := fun x hx he => h.own x hx he }
end Go.AM
/-
  plate: lay.
-/
namespace Go.AM
open Go
set_option maxRecDepth 20000
variable {R S S0 : St} {p m clock : Nat} {P : PlateS} {ex : Option (List UInt8)} {fe : List FE}

/-- The tail of the file that is laid is nobody else's. -/
theorem tl_own {S0 S : St} (hR : R.le S0) {o : Own} (hT : Tl 1 S0 S o) : OwnIn R S o := by
  rcases hT.2 with h | h | ⟨t, hw, h1, h2, h3⟩
  · exact .inl h
  · exact .inr (.inl h)
  · exact .inr (.inr ⟨t, hw, h1, h2, stle_tok hR h3⟩)
theorem tl_dist {S0 S : St} {o : Own} (h : PlX R S0 p P ex m clock fe) (hT : Tl 1 S0 S o) {x : FE} (hx : x ∈ fe) (he : ex ≠ some x.1.name) {t : Nat} (ht : tkOf x.2.1 = some t) : tkOf o ≠ some t := by
  intro hc
  rcases h.own x hx he with h1 | h1 | ⟨t', hw', h1, h2, h3⟩
  · rw [h1] at ht; cases ht
  · rw [h1] at ht; cases ht
  · rw [h1] at ht; cases ht
    rcases hT.2 with h4 | h4 | ⟨t2, hw2, h4, h5, h6⟩
    · rw [h4] at hc; cases hc
    · rw [h4] at hc; cases hc
    · rw [h4] at hc; cases hc; rw [h6] at h2; cases h2
theorem nodup_put {fs : List FileS} {f : FileS} (h : (fs.map (·.name)).Nodup) (hn : ∀ x ∈ fs, x.name ≠ f.name) : ((fs ++ [f]).map (·.name)).Nodup := by
  rw [List.map_append, List.nodup_append]
  refine ⟨h, by simp, ?_⟩
  intro a ha b hb
  obtain ⟨x, hx, rfl⟩ := List.mem_map.1 ha
  simp at hb; subst hb
  exact hn x hx

theorem set_step {f : FileS} {o : Own} {K : AV → St → Prop} (h : PlX R S0 p P (some f.name) m clock fe) (hT : Tl 1 S0 S o) (hnil : o = .nil → f.data = [])
    (hK : ∀ fe' clock' E, PlX R (S.setObj m (.map E clock')) p { P with files := putF P.files f } none m clock' fe' → K (.tuple []) (S.setObj m (.map E clock'))) :
    xmapset true (.map (some m)) (.str (bstr f.name)) (.agg [bsl f.data o, .int .i64 f.safe]) S K := by
  have hg := h.grow hT.1
  have hpm := h.pm
  simp only [xmapset, hg.om]
  rcases split_name fe f.name with hn | ⟨a, x, b, rfl, hx, ha⟩
  · rw [find_none 0 hn]
    dsimp only
    have hfn : ∀ x ∈ P.files, x.name ≠ f.name := by rw [h.files]; intro y hy; obtain ⟨z, hz, rfl⟩ := List.mem_map.1 hy; exact hn z hz
    have he : (fe.map entry ++ [(AV.str (bstr f.name), AV.agg [bsl f.data o, .int .i64 f.safe], clock)]) = (fe ++ [(f, o, clock)]).map entry := by simp [entry]
    rw [he]
    refine hK (fe ++ [(f, o, clock)]) (clock + 1) _ ?_
    refine { rle := stle_setObj hg.rle h.rm _, rp := h.rp, rm := h.rm, op := by simp [hpm, hg.op, pcells], om := by simp, files := ?_, names := ?_, nil := ?_, own := ?_, dist := ?_, born := ?_, clk := ?_ }
    · rw [putF_none hfn, h.files]; simp
    · rw [putF_none hfn]; exact nodup_put h.names hfn
    · intro y hy hc
      rcases List.mem_append.1 hy with hy | hy
      · exact h.nil y hy hc
      · simp at hy; subst hy; exact hnil hc
    · intro y hy _
      rcases List.mem_append.1 hy with hy | hy
      · exact hg.own y hy (by simpa using fun hc => hn y hy hc.symm)
      · simp at hy; subst hy; have q : OwnIn R S o := tl_own h.rle hT; exact q
    · intro y hy z hz hne t ht
      rcases List.mem_append.1 hy with hy | hy <;> rcases List.mem_append.1 hz with hz | hz
      · exact h.dist y hy z hz hne t ht
      · simp at hz; subst hz; exact tl_dist h hT hy (by simpa using fun hc => hn y hy hc.symm) ht
      · simp at hy; subst hy; intro hc; exact tl_dist h hT hz (by simpa using fun hc => hn z hz hc.symm) hc ht
      · simp at hy hz; subst hy hz; exact absurd rfl hne
    · rw [List.pairwise_append]
      refine ⟨h.born, by simp, ?_⟩
      intro y hy z hz
      simp at hz; subst hz; exact h.clk y hy
    · intro y hy
      rcases List.mem_append.1 hy with hy | hy
      · exact Nat.lt_succ_of_lt (h.clk y hy)
      · simp at hy; subst hy; exact Nat.lt_succ_self _
  · rw [find_some hx 0 ha]
    dsimp only
    obtain ⟨h1, h2⟩ := nodup_mid h.files h.names
    rw [hx] at h1 h2
    have he : ((a ++ x :: b).map entry).modify (0 + a.length) (fun e => (AV.str (bstr f.name), AV.agg [bsl f.data o, .int .i64 f.safe], e.2.2)) = (a ++ (f, o, x.2.2) :: b).map entry := by
      rw [Nat.zero_add, List.map_append, List.map_cons]
      have := modify_mid (fun e : AV × AV × Nat => (AV.str (bstr f.name), AV.agg [bsl f.data o, .int .i64 f.safe], e.2.2)) (entry x) (b.map entry) (a.map entry)
      rw [List.length_map] at this
      rw [this]; simp [entry]
    rw [he]
    have hp : putF P.files f = (a ++ (f, o, x.2.2) :: b).map (·.1) := by
      rw [h.files, List.map_append, List.map_cons, putF_mid hx (by intro y hy; obtain ⟨z, hz, rfl⟩ := List.mem_map.1 hy; exact h1 z hz) (by intro y hy; obtain ⟨z, hz, rfl⟩ := List.mem_map.1 hy; exact h2 z hz)]
      simp
    have hne : ∀ y, y ∈ a ∨ y ∈ b → y.1.name ≠ f.name := fun y hy => hy.elim (h1 y) (h2 y)
    have hmem : ∀ y, y ∈ a ++ (f, o, x.2.2) :: b → y = (f, o, x.2.2) ∨ (y ∈ a ++ x :: b ∧ y.1.name ≠ f.name) := by
      intro y hy
      rcases List.mem_append.1 hy with hy | hy
      · exact .inr ⟨by simp [hy], h1 y hy⟩
      · rcases List.mem_cons.1 hy with hy | hy
        · exact .inl hy
        · exact .inr ⟨by simp [hy], h2 y hy⟩
    refine hK (a ++ (f, o, x.2.2) :: b) clock _ ?_
    refine { rle := stle_setObj hg.rle h.rm _, rp := h.rp, rm := h.rm, op := by simp [hpm, hg.op, pcells], om := by simp, files := hp, names := ?_, nil := ?_, own := ?_, dist := ?_, born := ?_, clk := ?_ }
    · rw [hp]
      have := h.names
      rw [h.files] at this
      simpa [hx] using this
    · intro y hy hc
      rcases hmem y hy with rfl | ⟨hy, _⟩
      · exact hnil hc
      · exact h.nil y hy hc
    · intro y hy _
      rcases hmem y hy with rfl | ⟨hy, hyn⟩
      · have q : OwnIn R S o := tl_own h.rle hT; exact q
      · exact hg.own y hy (by simpa using fun hc => hyn hc.symm)
    · intro y hy z hz hne t ht
      rcases hmem y hy with rfl | ⟨hy, hyn⟩ <;> rcases hmem z hz with rfl | ⟨hz, hzn⟩
      · exact absurd rfl hne
      · intro hc; exact tl_dist h hT hz (by simpa using fun hc => hzn hc.symm) hc ht
      · exact tl_dist h hT hy (by simpa using fun hc => hyn hc.symm) ht
      · exact h.dist y hy z hz hne t ht
    · have := h.born
      rw [List.pairwise_append, List.pairwise_cons] at this ⊢
      obtain ⟨b1, ⟨b2, b3⟩, b4⟩ := this
      refine ⟨b1, ⟨b2, b3⟩, ?_⟩
      intro y hy z hz
      rcases List.mem_cons.1 hz with rfl | hz
      · exact b4 y hy x (by simp)
      · exact b4 y hy z (by simp [hz])
    · intro y hy
      rcases hmem y hy with rfl | ⟨hy, _⟩
      · exact h.clk x (by simp)
      · exact h.clk y hy

theorem del_step {n : List UInt8} {K : AV → St → Prop} (h : PlX R S p P none m clock fe)
    (hK : ∀ fe' E, PlX R (S.setObj m (.map E clock)) p { P with files := delF P.files n } none m clock fe' → K (.tuple []) (S.setObj m (.map E clock))) (hin : ∃ x ∈ fe, x.1.name = n) :
    xmapdel true (.map (some m)) (.str (bstr n)) S K := by
  simp only [xmapdel, h.om]
  rcases split_name fe n with hn | ⟨a, x, b, rfl, hx, ha⟩
  · obtain ⟨x, hx, hxn⟩ := hin; exact absurd hxn (hn x hx)
  · rw [find_some hx 0 ha]
    dsimp only
    obtain ⟨h1, h2⟩ := nodup_mid h.files h.names
    rw [hx] at h1 h2
    have he : ((a ++ x :: b).map entry).eraseIdx (0 + a.length) = (a ++ b).map entry := by
      rw [Nat.zero_add, List.map_append, List.map_cons]
      have := erase_mid (entry x) (b.map entry) (a.map entry)
      rw [List.length_map] at this
      rw [this]; simp
    rw [he]
    have hp : delF P.files n = (a ++ b).map (·.1) := by
      rw [h.files, List.map_append, List.map_cons, delF_mid hx (by intro y hy; obtain ⟨z, hz, rfl⟩ := List.mem_map.1 hy; exact h1 z hz) (by intro y hy; obtain ⟨z, hz, rfl⟩ := List.mem_map.1 hy; exact h2 z hz)]
      simp
    have hsub : ∀ y, y ∈ a ++ b → y ∈ a ++ x :: b := by
      intro y hy
      rcases List.mem_append.1 hy with hy | hy <;> simp [hy]
    refine hK (a ++ b) _ ?_
    refine { rle := stle_setObj h.rle h.rm _, rp := h.rp, rm := h.rm, op := by simp [h.pm, h.op, pcells], om := by simp, files := hp, names := ?_, nil := fun y hy => h.nil y (hsub y hy), own := fun y hy => h.own y (hsub y hy), dist := fun y hy z hz => h.dist y (hsub y hy) z (hsub z hz), born := ?_, clk := fun y hy => h.clk y (hsub y hy) }
    · have hs : (delF P.files n).Sublist P.files := List.filter_sublist
      exact h.names.sublist (hs.map _)
    · exact h.born.sublist (by simp)
end Go.AM
/-
  plate: lay, asked, change.
-/
namespace Go.AM
open Go
set_option maxRecDepth 20000

structure XLay where
  R : St
  S0 : St
  p : Nat
  P : PlateS
  m : Nat
  clock : Nat
  fe : List FE
  f : FileS
  o : Own
/-- No number of the plate is near the greatest. -/
def Calm (P : PlateS) : Prop := -1099511627776 ≤ P.used ∧ P.used ≤ 1099511627776 ∧ 0 ≤ P.room ∧ P.room ≤ 1099511627776 ∧ 0 ≤ P.left ∧ P.left ≤ 1099511627776 ∧ ∀ n, (dataF P.files n).length ≤ 1073741824

theorem stle_both {S T : St} (h : S.le T) (b : Nat) (o : AObj) : (S.setObj b o).le (T.setObj b o) := by
  refine ⟨fun c x hx => ?_, h.2⟩
  simp only [St.obj_setObj] at hx ⊢
  split at hx
  · rename_i hc; rw [if_pos hc]; exact hx
  · rename_i hc; rw [if_neg hc]; exact h.1 c x hx
theorem Tl.both {ez : Nat} {S0 S : St} {o : Own} (h : Tl ez S0 S o) (b : Nat) (x : AObj) : Tl ez (S0.setObj b x) (S.setObj b x) o := ⟨stle_both h.1 b x, h.2⟩
theorem mem_putF (fs : List FileS) (f : FileS) : f ∈ putF fs f := by
  unfold putF
  split
  · rename_i h
    obtain ⟨x, hx, hn⟩ := List.any_eq_true.1 h
    exact List.mem_map.2 ⟨x, hx, by simp at hn; simp [hn]⟩
  · simp

def Sp41 : Spec := rspec (fun (x : XLay) args S => args = [.ptr (some (x.p, 0)), .str (bstr x.f.name), .agg [bsl x.f.data x.o, .int .i64 x.f.safe]] ∧ PlX x.R x.S0 x.p x.P (some x.f.name) x.m x.clock x.fe ∧ Tl 1 x.S0 S x.o ∧
    (x.o = .nil → x.f.data = []) ∧ Calm x.P ∧ x.f.data.length ≤ 1073741824)
  fun x _ v S' => v = .tuple [] ∧ PlAt x.R S' x.p (x.P.lay x.f)
theorem s41 : Sound PR 41 Sp41 := by
  refine sound_r PR_mixed sounds_nil monos_nil (own := own []) (ord := O41) (lh := H41) (fn := Go.Proofs.Tryz.f41) (by kernel_rfl) (by kernel_rfl) ?_
  rintro ⟨R, S0, p, P, m, clock, fe, f, o⟩ args S ⟨rfl, h, hT, hnil, hc, hl⟩
  rw [W41_eq]
  refine ⟨rfl, ?_⟩
  unfold W41 xbox
  dsimp only at h hT hnil hc hl ⊢
  simp only [obind_some, List.length, List.drop, List.getElem?_cons_zero, St.obj_setObj, if_pos, true_and, eq_self, Nat.zero_add, Nat.add_zero, Nat.reduceAdd, k_cells_a, k_faddr_p, k_load_p, k_nilck_p, k_len_bsl, k_store_p, k_get1, k_getn]
  intro b hb ht
  have hg := h.grow hT.1
  have hpb : p ≠ b := by rintro rfl; rw [hg.op] at hb; cases hb
  have hmb : m ≠ b := by rintro rfl; rw [hg.om] at hb; cases hb
  have hpm := h.pm
  have hb0 : S0.obj b = none := stle_obj hT.1 hb
  have hT1 : Tl 1 S0 (S.setObj b (.cells [bsl f.data o, .int .i64 f.safe])) o := ⟨stle_setObj hT.1 hb0 _, hT.2⟩
  have h1 := h.grow hT1.1
  obtain ⟨ol, hlook, _, _, _⟩ := h1.look f.name
  have hcd := hc.2.2.2.2.2.2 f.name
  have w1 : IntKind.i64.wrap ((f.data.length : Int) - ((dataF P.files f.name).length : Int)) = (f.data.length : Int) - ((dataF P.files f.name).length : Int) := IntWalk.i64_in _ (by omega)
  have hu := hc.1
  have hu2 := hc.2.1
  have w2 : IntKind.i64.wrap (P.used + ((f.data.length : Int) - ((dataF P.files f.name).length : Int))) = P.used + ((f.data.length : Int) - ((dataF P.files f.name).length : Int)) := IntWalk.i64_in _ (by omega)
  have hbp := hpb.symm
  have hbm := hmb.symm
  have hmp := hpm.symm
  simp only [obind_some, setList, List.set, List.length, List.take, List.getElem?_cons_zero, List.getElem?_cons_succ, List.all, if_false, if_pos, true_and, Bool.and_self, eq_self, Nat.zero_add, Nat.reduceAdd, Nat.reduceLeDiff, Nat.le_refl, k_add, k_cells_i, k_field1, k_ok_i, k_len_bsl, k_sub, hpb, hbp, hg.op, pcells, hlook, w1, w2]
  have hX := h.upd { P with used := P.used + ((f.data.length : Int) - ((dataF P.files f.name).length : Int)) } rfl
  have hTb := hT1.both p (.cells (pcells m { P with used := P.used + ((f.data.length : Int) - ((dataF P.files f.name).length : Int)) }))
  refine set_step hX hTb hnil ?_
  intro fe' clock' E h3
  simp only [obind_some, List.getElem?_cons_zero, St.obj_setObj, if_false, if_pos, eq_self, k_eql, k_len_bsl, hpb, hbp, hbm, hpm]
  refine asplit_of _ ?_ ?_
  · intro h0
    have hd : f.data = [] := List.eq_nil_of_length_eq_zero (by omega)
    have hin : ∃ x ∈ fe', x.1.name = f.name := by
      have hm := mem_putF P.files f
      have hf := h3.files
      dsimp only at hf
      rw [hf] at hm
      obtain ⟨x, hx, hxf⟩ := List.mem_map.1 hm
      exact ⟨x, hx, by rw [hxf]⟩
    refine del_step h3 ?_ hin
    intro fe2 E2 h4
    refine done' ⟨rfl, m, clock', fe2, ?_⟩
    have e : P.lay f = { P with used := P.used + ((f.data.length : Int) - ((dataF P.files f.name).length : Int)), files := delF (putF P.files f) f.name } := by
      simp only [PlateS.lay, if_pos hd]
    rw [e]
    exact h4
  · intro h0
    have hd : f.data ≠ [] := by intro hc; rw [hc] at h0; exact h0 rfl
    refine done' ⟨rfl, m, clock', fe', ?_⟩
    have e : P.lay f = { P with used := P.used + ((f.data.length : Int) - ((dataF P.files f.name).length : Int)), files := putF P.files f } := by
      simp only [PlateS.lay, if_neg hd]
    rw [e]
    exact h3

/-- Errors of the plate, as numbers. -/
def PlateS.asked (P : PlateS) (n : List UInt8) : Nat := if n.length < 1 ∨ n.length > 64 then 1 else if P.down then 9 else 0
def Sp45 : Spec := rspec (fun (x : St × Nat × PlateS × List UInt8) args S => args = [.ptr (some (x.2.1, 0)), .str (bstr x.2.2.2)] ∧ PlAt x.1 S x.2.1 x.2.2.1)
  fun x S v S' => v = .int .i64 (x.2.2.1.asked x.2.2.2) ∧ S' = S
theorem s45 : Sound PR 45 Sp45 := by
  refine sound_r PR_mixed sounds_nil monos_nil (own := own []) (ord := O45) (lh := H45) (fn := Go.Proofs.Tryz.f45) (by kernel_rfl) (by kernel_rfl) ?_
  rintro ⟨R, p, P, n⟩ args S ⟨rfl, m, clock, fe, h⟩
  rw [W45_eq]
  refine ⟨rfl, ?_⟩
  unfold W45
  dsimp only at h ⊢
  have hop := h.op
  have hs := bstr_size n
  simp only [obind_some, asplit_false, List.getElem?_cons_zero, List.getElem?_cons_succ, if_false, Bool.not_false, Nat.zero_add, Option.isNone_some, Bool.false_eq_true, k_faddr_p, k_gv_b, k_isnil, k_load_p, k_lss, k_nilck_p, k_nilp_p, k_pick, k_slen, k_get1, hop, pcells, hs]
  by_cases h1 : (n.length : Int) < 1
  · simp only [obind_some, asplit_true, if_false, if_pos, eq_self, reduceCtorEq, decide_true, h1]
    exact done' ⟨by simp only [PlateS.asked]; rw [if_pos (by omega)]; rfl, rfl⟩
  · by_cases h2 : (n.length : Int) > 64
    · simp only [obind_some, asplit_true, if_false, if_pos, eq_self, Bool.false_eq_true, decide_true, decide_false, k_gtr, k_slen, h1, h2, hs]
      exact done' ⟨by simp only [PlateS.asked]; rw [if_pos (by omega)]; rfl, rfl⟩
    · have h3 : ¬ (n.length < 1 ∨ n.length > 64) := by omega
      simp only [obind_some, asplit_false, if_false, if_pos, eq_self, Bool.false_eq_true, decide_false, k_gtr, k_slen, h1, h2, hs]
      refine asplit_ofb _ ?_ ?_
      · intro hd
        exact done' ⟨by simp only [PlateS.asked]; rw [if_neg h3, hd]; rfl, rfl⟩
      · intro hd
        exact done' ⟨by simp only [PlateS.asked]; rw [if_neg h3, hd]; rfl, rfl⟩

/-- May a change be done? -/
def PlateS.change (P : PlateS) (n : List UInt8) : Nat × PlateS :=
  if P.asked n ≠ 0 then (P.asked n, P) else if P.armed = false then (0, P) else if P.left = 0 then (9, { P with down := true }) else (0, { P with left := P.left - 1 })
def Sp57 : Spec := rspec (fun (x : St × Nat × PlateS × List UInt8) args S => args = [.ptr (some (x.2.1, 0)), .str (bstr x.2.2.2)] ∧ PlAt x.1 S x.2.1 x.2.2.1 ∧ Calm x.2.2.1)
  fun x _ v S' => v = .int .i64 (x.2.2.1.change x.2.2.2).1 ∧ PlAt x.1 S' x.2.1 (x.2.2.1.change x.2.2.2).2
theorem s57 : Sound PR 57 Sp57 := by
  refine sound_r PR_mixed (sounds_cons s45 sounds_nil) (monos_cons (rspec_mono _ _) monos_nil) (own := own []) (ord := O57) (lh := H57) (fn := Go.Proofs.Tryz.f57) (by kernel_rfl) (by kernel_rfl) ?_
  rintro ⟨R, p, P, n⟩ args S ⟨rfl, hP, hc⟩
  rw [W57_eq]
  refine ⟨rfl, ?_⟩
  unfold W57
  dsimp only at hP hc ⊢
  refine ccall_r (R, p, P, n) ⟨rfl, hP⟩ ?_
  rintro _ S ⟨rfl, rfl⟩
  have hP' := hP
  obtain ⟨m, clock, fe, h⟩ := hP
  have hop := h.op
  dsimp only
  by_cases h1 : P.asked n = 0
  · have e1 : ((P.asked n : Nat) : Int) = 0 := by omega
    simp only [obind_some, setList, List.set, List.length, List.getElem?_cons_zero, List.getElem?_cons_succ, List.all, if_false, if_pos, true_and, Bool.and_self, eq_self, ne_eq, not_true, Nat.zero_add, Nat.reduceAdd, Nat.reduceLeDiff, Nat.le_refl, Bool.false_eq_true, decide_false, k_cells_b, k_cells_i, k_eql, k_faddr_p, k_gv_b, k_load_p, k_neq, k_nilck_p, k_not, k_ok_b, k_ok_i, k_pick, k_store_p, k_sub, k_get1, hop, pcells, e1]
    cases ha : P.armed with
    | false =>
      simp only [asplit_true, Bool.not_false]
      refine done' ⟨?_, ?_⟩
      · simp only [PlateS.change, h1]; simp [ha]
      · have e : (P.change n).2 = P := by simp [PlateS.change, h1, ha]
        rw [e]; exact hP'
    | true =>
      simp only [asplit_false, Bool.not_true]
      refine asplit_of _ ?_ ?_
      · intro h0
        have e : P.change n = (9, { P with down := true }) := by simp [PlateS.change, h1, ha, h0]
        rw [e]
        refine done' ⟨rfl, m, clock, fe, ?_⟩
        have := h.upd { P with down := true } rfl
        simpa [pcells, ha] using this
      · intro h0
        have e : P.change n = (0, { P with left := P.left - 1 }) := by simp [PlateS.change, h1, ha, h0]
        obtain ⟨_, _, _, _, hl1, hl2, _⟩ := hc
        have w : IntKind.i64.wrap (P.left - 1) = P.left - 1 := IntWalk.i64_in _ (by omega)
        simp only [w]
        rw [e]
        refine done' ⟨rfl, m, clock, fe, ?_⟩
        have := h.upd { P with left := P.left - 1 } rfl
        simpa [pcells, ha] using this
  · have e1 : ¬ (((P.asked n : Nat) : Int) = 0) := by omega
    have e : P.change n = (P.asked n, P) := by simp [PlateS.change, h1]
    simp only [obind_some, asplit_true, setList, List.length, List.all, if_false, if_pos, true_and, Bool.and_self, eq_self, ne_eq, not_false_eq_true, Nat.zero_add, Nat.reduceAdd, reduceCtorEq, decide_true, k_cells_b, k_faddr_p, k_gv_b, k_load_p, k_neq, k_nilck_p, k_ok_b, k_pick, k_store_p, k_get1, e1]
    rw [e]
    exact done' ⟨rfl, hP'⟩
end Go.AM
/-
  plate: Append, Sync, Cut, Read.
-/
namespace Go.AM
open Go
set_option maxRecDepth 20000

theorem change_same (P : PlateS) (n : List UInt8) : (P.change n).2.files = P.files ∧ (P.change n).2.room = P.room ∧ (P.change n).2.used = P.used := by
  unfold PlateS.change
  split
  · simp
  · split
    · simp
    · split <;> simp
theorem calm_change {P : PlateS} (h : Calm P) (n : List UInt8) : Calm (P.change n).2 := by
  obtain ⟨h1, h2, h3, h4, h5, h6, h7⟩ := h
  have hs := change_same P n
  refine ⟨by rw [hs.2.2]; exact h1, by rw [hs.2.2]; exact h2, by rw [hs.2.1]; exact h3, by rw [hs.2.1]; exact h4, ?_, ?_, by rw [hs.1]; exact h7⟩
  all_goals
    unfold PlateS.change
    split
    · assumption
    · split
      · assumption
      · split
        · assumption
        · dsimp only; omega

def PlateS.append (P : PlateS) (n d : List UInt8) : Nat × PlateS :=
  if (P.change n).1 ≠ 0 then P.change n else if (d.length : Int) > P.room - P.used then (8, (P.change n).2) else
  (0, (P.change n).2.lay ⟨n, dataF P.files n ++ d, safeF P.files n⟩)
def Sp39 : Spec := rspec (fun (x : St × Nat × PlateS × List UInt8 × AV × List UInt8) args S => args = [.ptr (some (x.2.1, 0)), .str (bstr x.2.2.2.1), x.2.2.2.2.1] ∧ PlAt x.1 S x.2.1 x.2.2.1 ∧ Calm x.2.2.1 ∧ Byt x.1 x.2.2.2.2.1 x.2.2.2.2.2 ∧
    (dataF x.2.2.1.files x.2.2.2.1).length + x.2.2.2.2.2.length ≤ 1073741824)
  fun x _ v S' => v = .int .i64 (x.2.2.1.append x.2.2.2.1 x.2.2.2.2.2).1 ∧ PlAt x.1 S' x.2.1 (x.2.2.1.append x.2.2.2.1 x.2.2.2.2.2).2
theorem s39 : Sound PR 39 Sp39 := by
  refine sound_r PR_mixed (sounds_cons s41 (sounds_cons s57 sounds_nil)) (monos_cons (rspec_mono _ _) (monos_cons (rspec_mono _ _) monos_nil)) (own := own []) (ord := O39) (lh := H39) (fn := Go.Proofs.Tryz.f39) (by kernel_rfl) (by kernel_rfl) ?_
  rintro ⟨R, p, P, n, v, d⟩ args S ⟨rfl, hP, hc, hB, hlen⟩
  rw [W39_eq]
  refine ⟨rfl, ?_⟩
  unfold W39
  dsimp only at hP hc hB hlen ⊢
  refine ccall_r (R, p, P, n) ⟨rfl, hP, hc⟩ ?_
  rintro _ S ⟨rfl, hP⟩
  dsimp only at hP ⊢
  have hs := change_same P n
  have hc1 := calm_change hc n
  by_cases h1 : (P.change n).1 = 0
  case neg =>
    have e1 : ¬ (((P.change n).1 : Int) = 0) := by omega
    have e : P.append n d = P.change n := by simp [PlateS.append, h1]
    simp only [obind_some, asplit_true, xbuild, xfill, List.length, and_true, ne_eq, not_false_eq_true, Nat.zero_add, Nat.add_zero, Nat.reduceAdd, Nat.reduceLeDiff, decide_true, k_faddr_p, k_load_p, k_neq, k_nilck_p, k_get1, e1]
    rw [e]
    exact done' ⟨rfl, hP⟩
  case pos =>
    have e1 : (((P.change n).1 : Nat) : Int) = 0 := by omega
    obtain ⟨m, clock, fe, h⟩ := hP
    have hop := h.op
    have hB1 : Byt S v d := hB.le h.rle
    have w1 : IntKind.i64.wrap ((P.change n).2.room - (P.change n).2.used) = P.room - P.used := by
      rw [hs.2.1, hs.2.2]; exact IntWalk.i64_in _ (by obtain ⟨_, _, _, _, _, _, _⟩ := hc; omega)
    simp only [obind_some, asplit_false, xbuild, xfill, List.length, List.getElem?_cons_zero, List.getElem?_cons_succ, and_true, eq_self, ne_eq, not_true, Nat.zero_add, Nat.add_zero, Nat.reduceAdd, Nat.reduceLeDiff, decide_false, k_faddr_p, k_gtr, k_load_p, k_neq, k_nilck_p, k_sub, k_get1, hop, pcells, e1, hB1.len, w1]
    refine asplit_of _ ?_ ?_
    · intro hf
      have e : P.append n d = (8, (P.change n).2) := by simp [PlateS.append, h1]; omega
      rw [e]
      exact done' ⟨rfl, m, clock, fe, h⟩
    · intro hf
      have e : P.append n d = (0, (P.change n).2.lay ⟨n, dataF P.files n ++ d, safeF P.files n⟩) := by simp only [PlateS.append, h1]; rw [if_neg (by simp), if_neg hf]
      rw [e]
      obtain ⟨o, hlook, hon, hoi, hod⟩ := h.look n
      rw [hs.1] at hlook hon
      obtain ⟨S0, hX, hT⟩ := h.but n hod (hoi (by simp))
      simp only [obind_some, setList, List.set, List.length, List.getElem?_cons_zero, List.getElem?_cons_succ, List.all, St.obj_setObj, if_pos, true_and, Bool.and_self, eq_self, Nat.zero_add, Nat.add_zero, Nat.reduceAdd, Nat.le_refl, k_cells_a, k_cells_i, k_faddr_p, k_load_p, k_ok_i, k_ok_bsl, k_store_p, k_get1, hlook, xalloc]
      intro b hb ht
      have hb0 : S0.obj b = none := stle_obj hT.1 hb
      rw [setObj_setObj]
      have hT1 : Tl 1 S0 (S.setObj b (.cells [bsl (dataF P.files n) o, .int .i64 (safeF P.files n)])) o := ⟨stle_setObj hT.1 hb0 _, hT.2⟩
      have hSb : S.le (S.setObj b (.cells [bsl (dataF P.files n) o, .int .i64 (safeF P.files n)])) := stle_setObj (St.le_refl _) hb _
      refine app_tl (S0 := S0) (n := (dataF P.files n).length) (m := d.length) (hB1.le hSb).news (by omega) (by simp) (ofBytes_ok d) (by simp) (fun h => by rw [hon h]; rfl) (by omega) (by omega) hT1 ?_
      intro o' S' hS hT' hn'
      have eb : AV.slice (ofBytes (dataF P.files n) ++ ofBytes d) ((dataF P.files n).length + d.length) o' = bsl (dataF P.files n ++ d) o' := by simp [bsl]
      rw [eb]
      simp only [obind_some, setList, Option.map_some, List.set, List.length, List.length_cons, List.getElem?_cons_zero, List.getElem?_cons_succ, St.obj_setObj, if_pos, true_and, eq_self, Nat.zero_add, Nat.reduceAdd, Nat.le_refl, k_cells_bsl, hS]
      refine ccall_r ⟨R, S0, p, (P.change n).2, m, clock, fe, ⟨n, dataF P.files n ++ d, safeF P.files n⟩, o'⟩ ⟨rfl, hX, hT', ?_, hc1, ?_⟩ ?_
      · intro h; have := hn' h; exact List.eq_nil_of_length_eq_zero (by rw [List.length_append]; exact this)
      · simp; omega
      · rintro _ S2 ⟨rfl, h2⟩
        exact done' ⟨rfl, h2⟩
end Go.AM
/-
  plate: Sync, Cut, Read, New, Arm, Down.
-/
namespace Go.AM
open Go
set_option maxRecDepth 20000

def PlateS.sync (P : PlateS) (n : List UInt8) : Nat × PlateS :=
  if (P.change n).1 ≠ 0 then P.change n else (0, (P.change n).2.lay ⟨n, dataF P.files n, (dataF P.files n).length⟩)
def Sp38 : Spec := rspec (fun (x : St × Nat × PlateS × List UInt8) args S => args = [.ptr (some (x.2.1, 0)), .str (bstr x.2.2.2)] ∧ PlAt x.1 S x.2.1 x.2.2.1 ∧ Calm x.2.2.1)
  fun x _ v S' => v = .int .i64 (x.2.2.1.sync x.2.2.2).1 ∧ PlAt x.1 S' x.2.1 (x.2.2.1.sync x.2.2.2).2
theorem s38 : Sound PR 38 Sp38 := by
  refine sound_r PR_mixed (sounds_cons s41 (sounds_cons s57 sounds_nil)) (monos_cons (rspec_mono _ _) (monos_cons (rspec_mono _ _) monos_nil)) (own := own []) (ord := O38) (lh := H38) (fn := Go.Proofs.Tryz.f38) (by kernel_rfl) (by kernel_rfl) ?_
  rintro ⟨R, p, P, n⟩ args S ⟨rfl, hP, hc⟩
  rw [W38_eq]
  refine ⟨rfl, ?_⟩
  unfold W38
  dsimp only at hP hc ⊢
  refine ccall_r (R, p, P, n) ⟨rfl, hP, hc⟩ ?_
  rintro _ S ⟨rfl, hP⟩
  dsimp only at hP ⊢
  have hs := change_same P n
  have hc1 := calm_change hc n
  by_cases h1 : (P.change n).1 = 0
  case neg =>
    have e1 : ¬ (((P.change n).1 : Int) = 0) := by omega
    have e : P.sync n = P.change n := by simp [PlateS.sync, h1]
    simp only [obind_some, asplit_false, xbuild, xfill, List.length, and_true, Nat.zero_add, Nat.add_zero, Nat.reduceAdd, Nat.reduceLeDiff, decide_false, k_eql, k_faddr_p, k_load_p, k_nilck_p, k_get1, e1]
    rw [e]
    exact done' ⟨rfl, hP⟩
  case pos =>
    have e1 : (((P.change n).1 : Nat) : Int) = 0 := by omega
    obtain ⟨m, clock, fe, h⟩ := hP
    have hop := h.op
    have e : P.sync n = (0, (P.change n).2.lay ⟨n, dataF P.files n, (dataF P.files n).length⟩) := by simp only [PlateS.sync, h1]; rw [if_neg (by simp)]
    rw [e]
    obtain ⟨o, hlook, hon, hoi, hod⟩ := h.look n
    rw [hs.1] at hlook hon
    obtain ⟨S0, hX, hT⟩ := h.but n hod (hoi (by simp))
    simp only [obind_some, asplit_true, setList, xbuild, xfill, Option.map_some, List.set, List.length, List.length_cons, List.getElem?_cons_zero, List.all, St.obj_setObj, if_pos, and_true, true_and, Bool.and_self, eq_self, Nat.zero_add, Nat.add_zero, Nat.reduceAdd, Nat.reduceLeDiff, Nat.le_refl, decide_true, k_cells_a, k_cells_i, k_eql, k_faddr_p, k_load_p, k_nilck_p, k_ok_i, k_cells_bsl, k_ok_bsl, k_len_bsl, k_store_p, k_get1, hop, pcells, e1, hlook, xalloc]
    intro b hb ht
    have hb0 : S0.obj b = none := stle_obj hT.1 hb
    rw [setObj_setObj]
    have hT1 : Tl 1 S0 (S.setObj b (.cells [bsl (dataF P.files n) o, .int .i64 (safeF P.files n)])) o := ⟨stle_setObj hT.1 hb0 _, hT.2⟩
    have hd := hc.2.2.2.2.2.2 n
    refine ccall_r ⟨R, S0, p, (P.change n).2, m, clock, fe, ⟨n, dataF P.files n, (dataF P.files n).length⟩, o⟩ ⟨rfl, hX, hT1, hon, hc1, hd⟩ ?_
    rintro _ S2 ⟨rfl, h2⟩
    exact done' ⟨rfl, h2⟩

theorem slice3 {l : List UInt8} {o : Own} {k : Nat} (kk k' : IntKind) (hk : k ≤ l.length) (hn : o = .nil → l = []) :
    xslice 1 (bsl l o) none (some (.int kk k)) (some (.int k' k)) = some (bsl (l.take k) (if o = .nil then .nil else .full)) := by
  simp only [xslice, bsl, xbound]
  rw [if_pos (by omega)]
  simp only [Int.toNat_natCast, Nat.mul_one, List.drop_zero, Nat.sub_zero, ofBytes_take, Option.isSome_some]
  rw [if_pos ⟨trivial, by omega, by omega⟩]
  by_cases ho : o = .nil
  · have := hn ho
    subst this
    simp [ho]
  · simp [ho, ownSub, Nat.min_eq_left hk]

def PlateS.cut (P : PlateS) (n : List UInt8) (k : Nat) : Nat × PlateS :=
  if (P.change n).1 ≠ 0 then P.change n else (0, (P.change n).2.lay ⟨n, (dataF P.files n).take k, min (safeF P.files n) k⟩)
def Sp52 : Spec := rspec (fun (x : St × Nat × PlateS × List UInt8 × Nat) args S => args = [.ptr (some (x.2.1, 0)), .str (bstr x.2.2.2.1), .int .i64 x.2.2.2.2] ∧ PlAt x.1 S x.2.1 x.2.2.1 ∧ Calm x.2.2.1 ∧ x.2.2.2.2 ≤ (dataF x.2.2.1.files x.2.2.2.1).length)
  fun x _ v S' => v = .int .i64 (x.2.2.1.cut x.2.2.2.1 x.2.2.2.2).1 ∧ PlAt x.1 S' x.2.1 (x.2.2.1.cut x.2.2.2.1 x.2.2.2.2).2
theorem s52 : Sound PR 52 Sp52 := by
  refine sound_r PR_mixed (sounds_cons s41 (sounds_cons s57 sounds_nil)) (monos_cons (rspec_mono _ _) (monos_cons (rspec_mono _ _) monos_nil)) (own := own []) (ord := O52) (lh := H52) (fn := Go.Proofs.Tryz.f52) (by kernel_rfl) (by kernel_rfl) ?_
  rintro ⟨R, p, P, n, k⟩ args S ⟨rfl, hP, hc, hk⟩
  rw [W52_eq]
  refine ⟨rfl, ?_⟩
  unfold W52
  dsimp only at hP hc hk ⊢
  refine ccall_r (R, p, P, n) ⟨rfl, hP, hc⟩ ?_
  rintro _ S ⟨rfl, hP⟩
  dsimp only at hP ⊢
  have hs := change_same P n
  have hc1 := calm_change hc n
  by_cases h1 : (P.change n).1 = 0
  case neg =>
    have e1 : ¬ (((P.change n).1 : Int) = 0) := by omega
    have e : P.cut n k = P.change n := by simp [PlateS.cut, h1]
    simp only [obind_some, asplit_true, xbuild, xfill, List.length, and_true, ne_eq, not_false_eq_true, Nat.zero_add, Nat.add_zero, Nat.reduceAdd, Nat.reduceLeDiff, decide_true, k_faddr_p, k_gv_b, k_load_p, k_lss, k_neq, k_nilck_p, k_pick, k_get1, e1]
    rw [e]
    exact done' ⟨rfl, hP⟩
  case pos =>
    have e1 : (((P.change n).1 : Nat) : Int) = 0 := by omega
    obtain ⟨m, clock, fe, h⟩ := hP
    have hop := h.op
    have e : P.cut n k = (0, (P.change n).2.lay ⟨n, (dataF P.files n).take k, min (safeF P.files n) k⟩) := by simp only [PlateS.cut, h1]; rw [if_neg (by simp)]
    rw [e]
    obtain ⟨o, hlook, hon, hoi, hod⟩ := h.look n
    rw [hs.1] at hlook hon
    obtain ⟨S0, hX, hT⟩ := h.but n hod (hoi (by simp))
    simp only [obind_some, asplit_false, setList, xbuild, xfill, List.set, List.length, List.getElem?_cons_zero, List.getElem?_cons_succ, List.all, St.obj_setObj, if_pos, and_true, true_and, Bool.and_self, eq_self, ne_eq, not_true, Nat.zero_add, Nat.add_zero, Nat.reduceAdd, Nat.reduceLeDiff, Nat.le_refl, decide_false, k_cells_a, k_faddr_p, k_gv_b, k_load_p, k_lss, k_neq, k_nilck_p, k_ok_i, k_pick, k_ok_bsl, k_store_p, k_get1, hop, pcells, e1, hlook, xalloc]
    intro b hb ht
    have hb0 : S0.obj b = none := stle_obj hT.1 hb
    rw [setObj_setObj]
    have hd := hc.2.2.2.2.2.2 n
    have k0 : ¬ ((k : Int) < 0) := by omega
    have k1 : ¬ ((k : Int) > (dataF P.files n).length) := by omega
    have hmm : xmm false (.int .i64 (safeF P.files n : Int)) (.int .i64 (k : Int)) = some (.int .i64 ((min (safeF P.files n) k : Nat) : Int)) := by
      simp only [xmm, if_true, Bool.false_eq_true, if_false]
      split
      · congr 2; omega
      · congr 2; omega
    simp only [obind_some, asplit_false, setList, Option.map_some, List.set, List.length, List.length_cons, List.getElem?_cons_zero, St.obj_setObj, if_false, if_pos, true_and, eq_self, Nat.zero_add, Nat.reduceAdd, Nat.le_refl, Bool.false_eq_true, decide_false, k_cells_i, k_gtr, k_load_p, k_cells_bsl, k_len_bsl, k_get1, k0, k1, slice3 .i64 .i64 hk hon, hmm]
    have hT1 : Tl 1 S0 (S.setObj b (.cells [bsl (dataF P.files n) o, .int .i64 (safeF P.files n)])) (if o = .nil then .nil else .full) := by
      refine ⟨stle_setObj hT.1 hb0 _, ?_⟩
      split
      · exact .inl rfl
      · exact .inr (.inl rfl)
    refine ccall_r ⟨R, S0, p, (P.change n).2, m, clock, fe, ⟨n, (dataF P.files n).take k, min (safeF P.files n) k⟩, if o = .nil then .nil else .full⟩ ⟨rfl, hX, hT1, ?_, hc1, by simp; omega⟩ ?_
    · dsimp only
      split
      · rename_i h; intro _; rw [hon h]; simp
      · intro h; cases h
    · rintro _ S2 ⟨rfl, h2⟩
      exact done' ⟨rfl, h2⟩

def Sp46 : Spec := rspec (fun (x : List UInt8 × Own) args _ => args = [bsl x.1 x.2] ∧ (x.2 = .nil → x.1 = []) ∧ x.1.length ≤ 1073741824)
  fun x S v S' => ∃ o, v = bsl x.1 o ∧ (o = .nil → x.1 = []) ∧ S' = S
theorem s46 : Sound PR 46 Sp46 := by
  refine sound_r PR_mixed sounds_nil monos_nil (own := own []) (ord := O46) (lh := H46) (fn := Go.Proofs.Tryz.f46) (by kernel_rfl) (by kernel_rfl) ?_
  rintro ⟨l, o⟩ args S ⟨rfl, hn, hl⟩
  rw [W46_eq]
  refine ⟨rfl, ?_⟩
  unfold W46
  dsimp only at hn hl ⊢
  simp only [obind_some, xfill, xbslice, Option.map_some, if_false, Bool.false_eq_true, k_isnil, k_nils_bsl]
  refine asplit_ofb _ ?_ ?_
  · intro ho
    have ho' : o = .nil := by simpa using ho
    rw [hn ho']
    exact done' ⟨.nil, rfl, fun _ => rfl, rfl⟩
  · intro ho
    have ho' : o ≠ .nil := by simpa using ho
    have e0 : AV.slice [] 0 .full = bsl [] .full := rfl
    refine app_tl (S0 := S) (n := 0) (m := l.length) (cs := []) (o := .full) (new := ofBytes l) (Byt.news (.inl ⟨o, rfl, hn⟩)) (by omega) (by simp) (ofBytes_ok l) rfl (fun h => by cases h) (by omega) (by omega) ⟨St.le_refl _, .inr (.inl rfl)⟩ ?_
    intro o' S' hS hT hn'
    have eb : AV.slice ([] ++ ofBytes l) (0 + l.length) o' = bsl l o' := by simp [bsl]
    rw [eb]
    exact done S hT.1 ⟨o', rfl, fun h => List.eq_nil_of_length_eq_zero (by simpa using hn' h), rfl⟩

def Sp30 : Spec := rspec (fun (x : St × Nat × PlateS × List UInt8) args S => args = [.ptr (some (x.2.1, 0)), .str (bstr x.2.2.2)] ∧ PlAt x.1 S x.2.1 x.2.2.1 ∧ Calm x.2.2.1)
  fun x S v S' => S' = S ∧ (if x.2.2.1.asked x.2.2.2 = 0 then ∃ o, v = .tuple [bsl (dataF x.2.2.1.files x.2.2.2) o, .int .i64 0] ∧ (o = .nil → dataF x.2.2.1.files x.2.2.2 = []) else v = .tuple [bsl [] .nil, .int .i64 (x.2.2.1.asked x.2.2.2)])
theorem s30 : Sound PR 30 Sp30 := by
  refine sound_r PR_mixed (sounds_cons s45 (sounds_cons s46 sounds_nil)) (monos_cons (rspec_mono _ _) (monos_cons (rspec_mono _ _) monos_nil)) (own := own []) (ord := O30) (lh := H30) (fn := Go.Proofs.Tryz.f30) (by kernel_rfl) (by kernel_rfl) ?_
  rintro ⟨R, p, P, n⟩ args S ⟨rfl, hP, hc⟩
  rw [W30_eq]
  refine ⟨rfl, ?_⟩
  unfold W30
  dsimp only at hP hc ⊢
  refine ccall_r (R, p, P, n) ⟨rfl, hP⟩ ?_
  rintro _ S ⟨rfl, rfl⟩
  obtain ⟨m, clock, fe, h⟩ := hP
  have hop := h.op
  dsimp only
  by_cases h1 : P.asked n = 0
  · have e1 : ((P.asked n : Nat) : Int) = 0 := by omega
    obtain ⟨o, hlook, hon, _, _⟩ := h.look n
    simp only [obind_some, asplit_false, List.getElem?_cons_zero, eq_self, ne_eq, not_true, Nat.add_zero, decide_false, k_faddr_p, k_field1, k_load_p, k_neq, k_nilck_p, k_get1, hop, pcells, e1, hlook]
    refine ccall_r (dataF P.files n, o) ⟨rfl, hon, hc.2.2.2.2.2.2 n⟩ ?_
    rintro _ S ⟨o', rfl, ho', rfl⟩
    refine done' ⟨rfl, ?_⟩
    rw [if_pos h1]
    exact ⟨o', rfl, ho'⟩
  · have e1 : ¬ (((P.asked n : Nat) : Int) = 0) := by omega
    simp only [obind_some, asplit_true, ne_eq, not_false_eq_true, Nat.add_zero, decide_true, k_faddr_p, k_load_p, k_neq, k_nilck_p, k_get1, e1]
    refine done' ⟨rfl, ?_⟩
    rw [if_neg h1]
    rfl
end Go.AM
/-
  plate: New, Arm, Down; wal: Count.
-/
namespace Go.AM
open Go
set_option maxRecDepth 20000

def emptyP (room : Int) : PlateS := ⟨[], room, 0, false, 0, false⟩
def Sp6 : Spec := rspec (fun (x : Int) args _ => args = [.int .i64 x] ∧ 0 ≤ x ∧ x ≤ 268435456) fun x S v S' => ∃ p, v = .tuple [.ptr (some (p, 0)), .int .i64 0] ∧ PlAt S S' p (emptyP x)
theorem s6 : Sound PR 6 Sp6 := by
  refine sound_r PR_mixed sounds_nil monos_nil (own := own []) (ord := O6) (lh := H6) (fn := Go.Proofs.Tryz.f6) (by kernel_rfl) (by kernel_rfl) ?_
  rintro x args S ⟨rfl, h1, h2⟩
  rw [W6_eq]
  refine ⟨rfl, ?_⟩
  unfold W6
  have q1 : ¬ x < 0 := by omega
  have q2 : ¬ x > 268435456 := by omega
  simp only [obind_some, asplit_false, setList, xbuild, xfill, Option.map_some, List.set, List.length, List.length_cons, St.obj_setObj, St.tok_setObj, if_false, if_pos, and_self, true_and, eq_self, Nat.zero_add, Nat.reduceAdd, Nat.reduceLeDiff, Bool.false_eq_true, decide_false, k_cells_a, k_cells_i, k_cells_m, k_gtr, k_gv_b, k_lss, k_pick, q1, q2, xmkmap, xbox]
  intro m hm htm
  intro p hp htp
  have hpm : p ≠ m := by rintro rfl; simp at hp
  simp only [hpm, if_false] at hp
  refine done' ⟨p, rfl, m, 0, [], ?_⟩
  refine { rle := stle_setObj (stle_setObj (St.le_refl _) hm _) hp _, rp := hp, rm := hm, op := by simp [pcells, emptyP], om := by simp [hpm.symm], files := rfl, names := by simp [emptyP], nil := by simp, own := by simp, dist := by simp, born := by simp, clk := by simp }

def Sp21 : Spec := rspec (fun (x : St × Nat × PlateS) args S => args = [.ptr (some (x.2.1, 0))] ∧ PlAt x.1 S x.2.1 x.2.2) fun x S v S' => v = .bool x.2.2.down ∧ S' = S
theorem s21 : Sound PR 21 Sp21 := by
  refine sound_r PR_mixed sounds_nil monos_nil (own := own []) (ord := O21) (lh := H21) (fn := Go.Proofs.Tryz.f21) (by kernel_rfl) (by kernel_rfl) ?_
  rintro ⟨R, p, P⟩ args S ⟨rfl, m, clock, fe, h⟩
  rw [W21_eq]
  refine ⟨rfl, ?_⟩
  unfold W21
  have hop := h.op
  dsimp only at hop ⊢
  simp only [obind_some, List.getElem?_cons_zero, List.getElem?_cons_succ, if_pos, Bool.not_false, eq_self, Nat.zero_add, Option.isNone_some, k_faddr_p, k_gv_b, k_isnil, k_load_p, k_nilck_p, k_nilp_p, k_pick, k_get1, hop, pcells]
  exact done' ⟨rfl, rfl⟩

def PlateS.arm (P : PlateS) (n : Int) : PlateS := if P.down then P else { P with armed := decide (n ≥ 0), left := if 0 > n then 0 else n }
def Sp20 : Spec := rspec (fun (x : St × Nat × PlateS × Int) args S => args = [.ptr (some (x.2.1, 0)), .int .i64 x.2.2.2] ∧ PlAt x.1 S x.2.1 x.2.2.1) fun x _ v S' => v = .tuple [] ∧ PlAt x.1 S' x.2.1 (x.2.2.1.arm x.2.2.2)
theorem s20 : Sound PR 20 Sp20 := by
  refine sound_r PR_mixed sounds_nil monos_nil (own := own []) (ord := O20) (lh := H20) (fn := Go.Proofs.Tryz.f20) (by kernel_rfl) (by kernel_rfl) ?_
  rintro ⟨R, p, P, n⟩ args S ⟨rfl, m, clock, fe, h⟩
  rw [W20_eq]
  refine ⟨rfl, ?_⟩
  unfold W20
  have hop := h.op
  dsimp only at h hop ⊢
  simp only [obind_some, setList, List.set, List.length, List.length_cons, List.getElem?_cons_zero, List.getElem?_cons_succ, List.all, St.obj_setObj, if_pos, true_and, Bool.and_self, Bool.not_false, eq_self, Nat.zero_add, Nat.reduceAdd, Nat.reduceLeDiff, Option.isNone_some, k_cells_b, k_faddr_p, k_geq, k_gv_b, k_isnil, k_load_p, k_nilck_p, k_nilp_p, k_not, k_ok_b, k_pick, k_store_p, k_get1, hop, pcells]
  cases hd : P.down with
  | true =>
    simp only [asplit_false, Bool.not_true]
    have e : P.arm n = P := by simp [PlateS.arm, hd]
    rw [e]
    exact done' ⟨rfl, m, clock, fe, h⟩
  | false =>
    have e : P.arm n = { P with armed := decide (n ≥ 0), left := if 0 > n then 0 else n } := by simp [PlateS.arm, hd]
    have hm : xmm true (.int .i64 n) (.int .i64 0) = some (.int .i64 (if 0 > n then 0 else n)) := by simp only [xmm, if_true]
    simp only [obind_some, asplit_true, setList, List.set, List.length, List.all, true_and, Bool.and_self, Bool.not_false, eq_self, Nat.zero_add, k_cells_i, k_ok_i, hm]
    rw [e]
    have := h.upd { P with armed := decide (n ≥ 0), left := if 0 > n then 0 else n } rfl
    refine done' ⟨rfl, m, clock, fe, ?_⟩
    simpa [pcells, hd, setObj_setObj] using this
end Go.AM
/-
  strconv.Itoa and a log's file names.
-/
namespace Go.AM
open Go
set_option maxRecDepth 20000

theorem RelL.one_int {S : St} {w : World} {k : IntKind} {n : Int} {vs : List Value} (h : RelL S w [.int k n] vs) : vs = [.int k n] := by
  obtain ⟨v, vs', rfl, h1, h2⟩ := h.cons_inv
  rw [h2.nil_inv]
  cases h1; rfl

def Sp47 : Spec := rspec (fun (n : Nat) args _ => args = [.int .i64 n] ∧ n < 100) fun n S v S' => v = .str (bstr (Lib.decDigits n)) ∧ S' = S
theorem s47 : Sound PR 47 Sp47 := by
  refine ⟨by kernel_rfl, ?_⟩
  rintro args vals S w Q hw hr ⟨n, ⟨rfl, hn⟩, hq⟩
  have hv : vals = #[.int .i64 n] := by rw [← Array.toList_inj]; exact hr.one_int
  subst hv
  refine (Go.Proofs.Tryz.strconv_Itoa_small n hn w).mono ?_
  rintro e w' ⟨rfl, rfl⟩
  exact ⟨.ret (.str (bstr (Lib.decDigits n))), S, hq _ _ ⟨rfl, rfl⟩, hw, .refl, .str _⟩
end Go.AM
/-
  wal: a log in the heap; file.
-/
namespace Go.AM
open Go
set_option maxRecDepth 20000

structure WalS where
  name : List UInt8
  most : Int
  num : Nat
  size : Int
  count : Int
  dead : Bool
def wcells (p : Nat) (W : WalS) : List AV := [.ptr (some (p, 0)), .str (bstr W.name), .int .i64 W.most, .int .i64 W.num, .int .i64 W.size, .int .i64 W.count, .bool W.dead]
/-- A file's name. -/
def fname (name : List UInt8) (n : Nat) : List UInt8 := name ++ [45] ++ Lib.decDigits n

theorem digits_small : ∀ n : Nat, n < 100 → (Lib.decDigits n).length ≤ 2 := by
  intro n h
  rw [Lib.decDigits]
  split
  · simp
  · rw [Lib.decDigits]
    rw [dif_pos (by omega)]
    simp
def Sp31 : Spec := rspec (fun (x : Nat × Nat × WalS × Nat) args S => args = [.ptr (some (x.1, 0)), .int .i64 x.2.2.2] ∧ x.2.2.2 < 100 ∧ S.obj x.1 = some (.cells (wcells x.2.1 x.2.2.1)) ∧ x.2.2.1.name.length ≤ 1000)
  fun x S v S' => v = .str (bstr (fname x.2.2.1.name x.2.2.2)) ∧ S' = S
theorem s31 : Sound PR 31 Sp31 := by
  refine sound_r PR_mixed (sounds_cons s47 sounds_nil) (monos_cons (rspec_mono _ _) monos_nil) (own := own []) (ord := O31) (lh := H31) (fn := Go.Proofs.Tryz.f31) (by kernel_rfl) (by kernel_rfl) ?_
  rintro ⟨w, p, W, n⟩ args S ⟨rfl, hn, hw, hl⟩
  rw [W31_eq]
  refine ⟨rfl, ?_⟩
  unfold W31
  dsimp only at hn hw hl ⊢
  have hd := digits_small n hn
  have e45 : (⟨#[45]⟩ : ByteArray) = bstr [45] := rfl
  have a1 : xbins .add (.str (bstr W.name)) (.str (bstr [45])) = some (.str (bstr (W.name ++ [45]))) := by rw [k_sadd _ _ (by rw [bstr_size, bstr_size]; simp; omega), bstr_append]
  have a2 : xbins .add (.str (bstr (W.name ++ [45]))) (.str (bstr (Lib.decDigits n))) = some (.str (bstr (fname W.name n))) := by rw [k_sadd _ _ (by rw [bstr_size, bstr_size]; simp; omega), bstr_append]; rfl
  simp only [obind_some, List.getElem?_cons_zero, List.getElem?_cons_succ, Nat.zero_add, k_faddr_p, k_load_p, k_nilck_p, k_get1, hw, wcells, e45, a1]
  refine ccall_r n ⟨rfl, hn⟩ ?_
  rintro _ S ⟨rfl, rfl⟩
  simp only [obind_some, List.getElem?_cons_zero, List.getElem?_cons_succ, true_and, eq_self, hw, wcells, a2]
  exact done' ⟨rfl, rfl⟩
end Go.AM
/-
  slices.Sort by the library's contract.
-/
namespace Go.AM
open Go
open Go.Sort (grow putRow putCells Holds mapBlock onCells)
set_option maxRecDepth 20000
variable {S : St} {w : World}

theorem Ext.ahead (n : Nat) : Ext S w S (Sort.ahead w n) := ⟨rfl, rfl, rfl, Nat.le_refl _, fun _ _ h => h, fun _ _ _ hw h => ⟨hw, h, Nat.le_refl _⟩, fun _ _ _ _ => rfl, fun _ _ _ _ _ _ _ => rfl, fun _ _ _ h => h⟩
theorem WR.ahead (h : WR S w) (n : Nat) : WR S (Sort.ahead w n) := h.step (Ext.ahead n) (fun b o hb => .inl ⟨hb, rfl⟩) (fun b x hb => .inl ⟨hb, (h.tok b x hb).1, rfl⟩)
theorem heap_grow_old (w : World) (os : Array Obj) (b : Nat) (hb : b < w.heap.size) : (grow w os).heap[b]? = w.heap[b]? := by
  show (w.heap ++ os)[b]? = _
  rw [Array.getElem?_append_left hb]
theorem Ext.grow (os : Array Obj) : Ext S w S (grow w os) := by
  refine ⟨rfl, rfl, rfl, by simp, fun _ _ h => h, fun _ _ _ hw h => ⟨hw, h, Nat.le_refl _⟩, fun b hb _ _ => heap_grow_old w os b hb, fun b hw hb _ _ off _ => cell?_of_heap (heap_grow_old w os b hb), ?_⟩
  intro b e N h
  have hb := lt_of_shape h
  have := heap_grow_old w os b hb
  simp only [World.shape?, this] at h ⊢
  exact h
theorem WR.grow (h : WR S w) (os : Array Obj) : WR S (grow w os) :=
  h.step (Ext.grow os) (fun b o hb => .inl ⟨hb, heap_grow_old _ _ _ (h.lt_obj hb)⟩) (fun b x hb => .inl ⟨hb, (h.tok b x hb).1, heap_grow_old _ _ _ (h.lt_tok hb)⟩)

theorem upd_putRow {α : Type} [Inhabited α] (enc : α → Value) (w : World) (b off : Nat) (d : Array α) : Upd w b (putRow enc w b off d) := by
  refine ⟨rfl, rfl, rfl, by simp [putRow, mapBlock], fun k hk => ?_⟩
  show (w.heap.modify b _)[k]? = _
  rw [Array.getElem?_modify, if_neg (Ne.symm hk)]
theorem heap_putRow {α : Type} [Inhabited α] (enc : α → Value) {w : World} {b : Nat} {C : Array Value} {e : TypeId} {fz : Nat × Nat} (h : w.heap[b]? = some (.cells C e fz)) (off : Nat) (d : Array α) :
    (putRow enc w b off d).heap[b]? = some (.cells (putCells enc off d C) e fz) := by
  show (w.heap.modify b _)[b]? = _
  rw [Array.getElem?_modify, if_pos rfl, h]; rfl

theorem sort_step {α : Type} [Inhabited α] {enc : α → Value} {f : α → AV} (hf : ∀ S w x, Rel S w (f x) (enc x)) (hw : WR S w) {b : Nat} {d d' : List α} (hd : d'.length = d.length) (hb : S.obj b = some (.vec (d.map f))) (n : Nat) (os : Array Obj) :
    WR (S.setObj b (.vec (d'.map f))) (grow (putRow enc (Sort.ahead w n) b 0 d'.toArray) os) ∧ Ext S w (S.setObj b (.vec (d'.map f))) (grow (putRow enc (Sort.ahead w n) b 0 d'.toArray) os) := by
  have h1 : WR S (Sort.ahead w n) := hw.ahead n
  obtain ⟨C, e, fz, hh, hf0, hl, hr⟩ := h1.obj b _ hb
  have hh2 := heap_putRow enc hh 0 d'.toArray
  have hsz : (putCells enc 0 d'.toArray C).size = C.size := by simp [putCells]
  obtain ⟨h2, h3⟩ := owned_step (ob' := .vec (d'.map f)) h1 hb (upd_putRow enc _ b 0 d'.toArray) (shape_cells hh hh2 hsz) (fun hE => by
    refine ⟨_, e, fz, hh2, hf0.size hsz, by rw [hsz]; simpa [hd] using hl, ?_, ?_⟩
    · simp only [List.length_map, List.length_take, Array.length_toList, hsz]
      simp at hl; omega
    · intro i a v ha hv
      simp only [List.getElem?_map, Option.map_eq_some_iff] at ha
      obtain ⟨x, hx, rfl⟩ := ha
      have hi : i < d'.length := by
        rcases Nat.lt_or_ge i d'.length with h | h
        · exact h
        · rw [List.getElem?_eq_none h] at hx; cases hx
      have hv2 : (putCells enc 0 d'.toArray C)[i]? = some v := by
        rw [List.getElem?_take, List.length_map, if_pos hi] at hv
        simpa using hv
      simp only [putCells, Array.getElem?_mapIdx, Option.map_eq_some_iff] at hv2
      obtain ⟨y, hy, rfl⟩ := hv2
      rw [if_pos ⟨by omega, by simpa using hi⟩]
      have : d'.toArray[i - 0]! = x := by
        rw [Nat.sub_zero, getElem!_pos _ i (by simpa using hi)]
        rw [List.getElem?_eq_getElem hi] at hx
        simpa using hx
      rw [this]
      exact hf _ _ x)
  exact ⟨h2.grow os, (Ext.ahead n).trans (h3.trans (Ext.grow os))⟩
theorem vec_holds {α : Type} [Inhabited α] {enc : α → Value} {f : α → AV} (hi : ∀ S w x v, Rel S w (f x) v → v = enc x) (hw : WR S w) {b : Nat} {d : List α} (hb : S.obj b = some (.vec (d.map f))) : Holds enc w b 0 d.toArray := by
  obtain ⟨C, e, fz, hh, hf0, hl, hr⟩ := hw.obj b _ hb
  intro j hj
  have hj' : j < d.length := by simpa using hj
  have hjC : j < C.size := by simp at hl; omega
  constructor
  · simp only [World.cell?, hh, Nat.zero_add]
    have h1 : (d.map f)[j]? = some (f d[j]) := by simp [hj']
    have h2 : (C.toList.take (d.map f).length)[j]? = some C[j] := by
      rw [List.getElem?_take, List.length_map, if_pos hj']; simp [hjC]
    have := hi S w _ _ (hr.rel j _ _ h1 h2)
    rw [getElem!_pos _ j hj]
    simp [hjC, this]
  · have := hf0 j hjC
    obtain ⟨lo, hi⟩ := fz
    simp only [World.frozen?, hh, Nat.zero_add]
    simp only [Bool.and_eq_false_iff, decide_eq_false_iff_not]
    by_cases h1 : lo ≤ j
    · exact .inr (fun h2 => this ⟨h1, h2⟩)
    · exact .inl h1

def avS (l : List UInt8) : AV := .str (bstr l)
def avI (n : Int) : AV := .int .i64 n
def Sp58 : Spec := rspec (fun (x : Option (Nat × List (List UInt8))) args S => match x with
    | some (b, ss) => args = [.msl b 0 ss.length none 1] ∧ S.obj b = some (.vec (ss.map avS)) ∧ ss.length < 4611686018427387904
    | none => args = [.slice [] 0 .nil])
  fun x S v S' => v = .tuple [] ∧ (match x with
    | some (b, ss) => S' = S.setObj b (.vec ((ss.mergeSort fun x y => decide (x ≤ y)).map avS))
    | none => S' = S)
theorem s58 : Sound PR 58 Sp58 := by
  refine ⟨by kernel_rfl, ?_⟩
  rintro args vals S w Q hw hr ⟨x, hp, hq⟩
  cases x with
  | none =>
    dsimp only at hp
    subst hp
    obtain ⟨v, vs', hv, h1, h2⟩ := hr.cons_inv
    have hv' : vals = #[v] := by rw [← Array.toList_inj, hv, h2.nil_inv]
    subst hv'
    cases h1 with
    | snil =>
      refine (Go.Proofs.Tryz.slices_Sort_string_none none 0 w).mono ?_
      rintro e w' ⟨rfl, rfl⟩
      exact ⟨.ret (.tuple []), S, hq _ _ ⟨rfl, rfl⟩, hw, .refl, .tuple' .nil⟩
    | semp a own h3 => rcases h3 with h3 | h3 <;> cases h3
    | slice _ _ _ _ _ _ _ _ _ _ _ ho => exact ho.elim
  | some y =>
    obtain ⟨b, ss⟩ := y
    obtain ⟨rfl, hb, hlen⟩ := hp
    obtain ⟨v, vs', hv, h1, h2⟩ := hr.cons_inv
    have hv' : vals = #[v] := by rw [← Array.toList_inj, hv, h2.nil_inv]
    subst hv'
    cases h1 with
    | vsl _ _ _ cap _ hn hs =>
      have hH : Holds Go.Proofs.encStr w b 0 ss.toArray := vec_holds (f := avS) (fun S w x v h => by cases h; rfl) hw hb
      refine (Go.Proofs.Tryz.slices_Sort_string b 0 cap ss w hH (hw.lt_obj hb) hlen).mono ?_
      rintro e w' ⟨rfl, n, os, rfl⟩
      obtain ⟨h3, h4⟩ := sort_step (enc := Go.Proofs.encStr) (f := avS) (fun S w x => .str _) hw (d' := ss.mergeSort fun x y => decide (x ≤ y)) (by simp) hb n os
      exact ⟨.ret (.tuple []), _, hq _ _ ⟨rfl, rfl⟩, h3, h4, .tuple' .nil⟩

def Sp44 : Spec := rspec (fun (x : Option (Nat × List Int)) args S => match x with
    | some (b, ss) => args = [.msl b 0 ss.length none 1] ∧ S.obj b = some (.vec (ss.map avI)) ∧ ss.length < 4611686018427387904
    | none => args = [.slice [] 0 .nil])
  fun x S v S' => v = .tuple [] ∧ (match x with
    | some (b, ss) => S' = S.setObj b (.vec ((ss.mergeSort fun x y => decide (x ≤ y)).map avI))
    | none => S' = S)
theorem s44 : Sound PR 44 Sp44 := by
  refine ⟨by kernel_rfl, ?_⟩
  rintro args vals S w Q hw hr ⟨x, hp, hq⟩
  cases x with
  | none =>
    dsimp only at hp
    subst hp
    obtain ⟨v, vs', hv, h1, h2⟩ := hr.cons_inv
    have hv' : vals = #[v] := by rw [← Array.toList_inj, hv, h2.nil_inv]
    subst hv'
    cases h1 with
    | snil =>
      refine (Go.Proofs.Tryz.slices_Sort_int_none none 0 w).mono ?_
      rintro e w' ⟨rfl, rfl⟩
      exact ⟨.ret (.tuple []), S, hq _ _ ⟨rfl, rfl⟩, hw, .refl, .tuple' .nil⟩
    | semp a own h3 => rcases h3 with h3 | h3 <;> cases h3
    | slice _ _ _ _ _ _ _ _ _ _ _ ho => exact ho.elim
  | some y =>
    obtain ⟨b, ss⟩ := y
    obtain ⟨rfl, hb, hlen⟩ := hp
    obtain ⟨v, vs', hv, h1, h2⟩ := hr.cons_inv
    have hv' : vals = #[v] := by rw [← Array.toList_inj, hv, h2.nil_inv]
    subst hv'
    cases h1 with
    | vsl _ _ _ cap _ hn hs =>
      have hH : Holds (Value.int .i64) w b 0 ss.toArray := vec_holds (f := avI) (fun S w x v h => by cases h; rfl) hw hb
      refine (Go.Proofs.Tryz.slices_Sort_int b 0 cap ss w hH (hw.lt_obj hb) hlen).mono ?_
      rintro e w' ⟨rfl, n, os, rfl⟩
      obtain ⟨h3, h4⟩ := sort_step (enc := Value.int .i64) (f := avI) (fun S w x => .int _ _) hw (d' := ss.mergeSort fun x y => decide (x ≤ y)) (by simp) hb n os
      exact ⟨.ret (.tuple []), _, hq _ _ ⟨rfl, rfl⟩, h3, h4, .tuple' .nil⟩
end Go.AM
/-
  plate: Names.
-/
namespace Go.AM
open Go
set_option maxRecDepth 20000

/-- A list that is owned and grows, beside a heap S0. -/
def VecAt (S0 S : St) (v : AV) (cs : List AV) : Prop := S0.le S ∧ ((v = .slice [] 0 .nil ∧ cs = []) ∨ ∃ b, v = .msl b 0 cs.length none 1 ∧ S.obj b = some (.vec cs) ∧ S0.obj b = none)
theorem app_vec {S0 S : St} {v x : AV} {cs : List AV} {a : AV} {bz : Nat} {K : AV → St → Prop} (h : VecAt S0 S v cs) (hx : xnews 1 x S = some ([a], 1)) (ha : a.ok1 = true) (hb1 : (cs.length + 1) * bz ≤ 70368744177664) (hb2 : cs.length + 1 ≤ 70368744177664)
    (hK : ∀ v' S', VecAt S0 S' v' (cs ++ [a]) → K v' S') : xappend true 1 bz v x S K := by
  unfold xappend
  rw [hx, obind_some]
  refine ⟨by omega, by simp [ha], ?_⟩
  rw [if_neg (by omega)]
  obtain ⟨hle, ⟨rfl, rfl⟩ | ⟨b, rfl, ho, h0⟩⟩ := h
  · refine ⟨rfl, by simpa using hb1, by simpa using hb2, ?_⟩
    dsimp only
    rw [if_pos rfl]
    intro b hb ht
    exact hK _ _ ⟨stle_setObj hle (stle_obj hle hb) _, .inr ⟨b, rfl, by simp, stle_obj hle hb⟩⟩
  · refine ⟨rfl, hb1, hb2, ?_⟩
    simp only [ho]
    refine ⟨trivial, by simp, fun b' hb' => ?_⟩
    have h0' : S0.obj b' = none := by
      rcases hb' with rfl | ⟨h1, _⟩
      · exact h0
      · exact stle_obj hle h1
    refine hK _ _ ⟨stle_setObj (stle_delObj hle h0) h0' _, .inr ⟨b', by simp, by simp, h0'⟩⟩

def leS (x y : List UInt8) : Bool := decide (x ≤ y)
/-- The names, sorted. -/
def namesF (fs : List FileS) : List (List UInt8) := (fs.map (·.name)).mergeSort leS
theorem leS_trans : ∀ a b c : List UInt8, leS a b = true → leS b c = true → leS a c = true := by
  intro a b c h1 h2
  simp only [leS, decide_eq_true_eq] at *
  exact List.le_trans h1 h2
theorem leS_total : ∀ a b : List UInt8, (leS a b || leS b a) = true := by
  intro a b
  simp only [leS, Bool.or_eq_true, decide_eq_true_eq]
  exact List.le_total a b
theorem sort_perm {a b : List (List UInt8)} (h : a.Perm b) : a.mergeSort leS = b.mergeSort leS := by
  refine List.Perm.eq_of_pairwise (le := fun x y => leS x y = true) ?_ (List.pairwise_mergeSort leS_trans leS_total a) (List.pairwise_mergeSort leS_trans leS_total b) ((List.mergeSort_perm a leS).trans (h.trans (List.mergeSort_perm b leS).symm))
  intro x y _ _ h1 h2
  simp only [leS, decide_eq_true_eq] at h1 h2
  exact List.le_antisymm h1 h2

theorem nodup_of_map {α β : Type} (f : α → β) {l : List α} (h : (l.map f).Nodup) : l.Nodup := by
  induction l with
  | nil => simp
  | cons a l ih =>
    rw [List.map_cons, List.nodup_cons] at h
    rw [List.nodup_cons]
    exact ⟨fun hc => h.1 (List.mem_map.2 ⟨a, hc, rfl⟩), ih h.2⟩
theorem entry_inj {R S : St} {p m clock : Nat} {P : PlateS} {ex : Option (List UInt8)} {fe : List FE} (h : PlX R S p P ex m clock fe) {x y : FE} (hx : x ∈ fe) (hy : y ∈ fe) (he : x.2.2 = y.2.2) : x = y := by
  have hb := h.born
  rw [List.pairwise_iff_getElem] at hb
  obtain ⟨i, hi, rfl⟩ := List.mem_iff_getElem.1 hx
  obtain ⟨j, hj, rfl⟩ := List.mem_iff_getElem.1 hy
  rcases Nat.lt_trichotomy i j with hlt | rfl | hlt
  · have := hb i j hi hj hlt; omega
  · rfl
  · have := hb j i hj hi hlt; omega
theorem find_stamp {R S : St} {p m clock : Nat} {P : PlateS} {ex : Option (List UInt8)} {fe : List FE} (h : PlX R S p P ex m clock fe) {x : FE} (hx : x ∈ fe) : (fe.map entry).find? (·.2.2 == x.2.2) = some (entry x) := by
  rw [List.find?_map]
  have : fe.find? ((fun e : AV × AV × Nat => e.2.2 == x.2.2) ∘ entry) = some x := by
    rw [List.find?_eq_some_iff_getElem]
    obtain ⟨i, hi, hxi⟩ := List.mem_iff_getElem.1 hx
    refine ⟨by simp [entry], i, hi, hxi, ?_⟩
    intro j hj
    have hb := h.born
    rw [List.pairwise_iff_getElem] at hb
    have := hb j i (by omega) hi hj
    rw [hxi] at this
    simp [entry]; omega
  rw [this]; rfl

def Sp40 : Spec := rspec (fun (x : St × Nat × PlateS) args S => args = [.ptr (some (x.2.1, 0))] ∧ PlAt x.1 S x.2.1 x.2.2 ∧ x.2.2.files.length ≤ 1073741824)
  fun x S v S' => VecAt S S' v ((namesF x.2.2.files).map avS)
theorem s40 : Sound PR 40 Sp40 := by
  refine sound_r PR_mixed (sounds_cons s58 sounds_nil) (monos_cons (rspec_mono _ _) monos_nil) (own := own [19]) (ord := O40) (lh := H40) (fn := Go.Proofs.Tryz.f40) (by kernel_rfl) (by kernel_rfl) ?_
  rintro ⟨R, p, P⟩ args S ⟨rfl, ⟨m, clock, fe, h⟩, hlen⟩
  rw [W40_eq]
  refine ⟨rfl, ?_⟩
  unfold W40
  have hop := h.op
  have hom := h.om
  dsimp only at hop hom h hlen ⊢
  simp only [obind_some, asplit_false, g, xfill, xbslice, List.length, List.getElem?_cons_zero, if_false, and_true, Bool.not_false, Nat.zero_add, Nat.add_zero, Nat.le_refl, Option.isNone_some, Bool.false_eq_true, k_faddr_p, k_isnil, k_load_p, k_nilck_p, k_nilp_p, k_get1, hop, pcells, xrange, hom]
  intro r hr htr
  have hmr : m ≠ r := by rintro rfl; rw [hom] at hr; cases hr
  have hfl : fe.length ≤ 1073741824 := by rw [h.files] at hlen; simpa using hlen
  refine aloop_inv (fun n l S' => ∃ done seen last v, l = [v] ∧ VecAt (S.setObj r (.miter (some m) clock seen last)) S' v ((done.map (fun x : FE => x.1.name)).map avS) ∧ seen = done.map (·.2.2) ∧ (∀ x ∈ done, x ∈ fe) ∧ seen.Nodup ∧ (seen ≠ [] → last = clock) ∧ n = fe.length - done.length ∧ done.length ≤ fe.length)
    fe.length ⟨[], [], clock, .slice [] 0 .nil, rfl, ⟨St.le_refl _, .inl ⟨rfl, rfl⟩⟩, rfl, by simp, by simp, by simp, by simp, by simp⟩ ?_
  rintro n _ S1 ⟨dn, seen, last, v, rfl, hV, hseen, hsub, hnd, hlast, rfl, hdl⟩ rec hrec
  have hor : S1.obj r = some (.miter (some m) clock seen last) := hV.1.1 r _ (by simp)
  have hm1 : S1.obj m = some (.map (fe.map entry) clock) := hV.1.1 m _ (by simp [hmr, hom])
  have hnodup : dn.Nodup := by
    have : (dn.map (·.2.2)).Nodup := by rw [← hseen]; exact hnd
    exact nodup_of_map (fun x : FE => x.2.2) this
  simp only [obind_some, asplit_true, asplit_false, List.getD_cons_zero, List.getElem?_cons_zero, k_extract, xnextm, hor, hm1]
  refine ⟨?_, ?_, ?_⟩
  · by_cases hs : seen = []
    · exact .inl hs
    · right
      cases fe with
      | nil => left; rfl
      | cons x fe =>
        right
        rw [hlast hs]
        simp only [List.map_cons, List.any_cons, entry, Bool.or_eq_true, decide_eq_true_eq]
        exact .inl (h.clk x (by simp))
  · intro hall
    have hperm : dn.Perm fe := by
      have hfn : fe.Nodup := nodup_of_map (fun x : FE => x.1.name) (by have := h.names; rw [h.files, List.map_map] at this; exact this)
      rw [List.perm_ext_iff_of_nodup hnodup hfn]
      intro x
      refine ⟨hsub x, fun hx => ?_⟩
      have := hall (entry x).1 (entry x).2.1 (entry x).2.2 (List.mem_map.2 ⟨x, hx, rfl⟩) (h.clk x hx)
      rw [hseen] at this
      obtain ⟨y, hy, hyx⟩ := List.mem_map.1 this
      have : y = x := entry_inj h (hsub y hy) hx hyx
      rw [← this]; exact hy
    have hnames : (dn.map (fun x : FE => x.1.name)).mergeSort leS = namesF P.files := by
      unfold namesF
      rw [h.files, List.map_map]
      exact sort_perm (hperm.map _)
    obtain ⟨hle, ⟨rfl, hcs⟩ | ⟨b, rfl, hob, hb0⟩⟩ := hV
    · refine ccall_r none rfl ?_
      rintro _ S2 ⟨rfl, rfl⟩
      have hdn : dn.map (fun x : FE => x.1.name) = [] := by simpa using hcs
      rw [hdn] at hnames
      refine done S (St.le_trans (stle_setObj (St.le_refl _) hr _) hle) ⟨St.le_refl _, .inl ⟨rfl, ?_⟩⟩
      rw [← hnames]; simp
    · refine ccall_r (some (b, dn.map (fun x : FE => x.1.name))) ⟨by simp, hob, by simp; omega⟩ ?_
      rintro _ S2 ⟨rfl, rfl⟩
      have hbr : b ≠ r := by rintro rfl; simp at hb0
      simp only [St.obj_setObj, if_neg hbr] at hb0
      refine done' ⟨stle_setObj (St.le_trans (stle_setObj (St.le_refl _) hr _) hle) hb0 _, .inr ⟨b, ?_, by simp only [St.obj_setObj, if_true]; rw [← hnames]; rfl, hb0⟩⟩
      rw [← hnames]; simp
  · intro k v' st hmem hnot
    obtain ⟨x, hx, hxe⟩ := List.mem_map.1 hmem
    obtain ⟨rfl, rfl, rfl⟩ : k = (entry x).1 ∧ v' = (entry x).2.1 ∧ st = (entry x).2.2 := by rw [hxe]; exact ⟨rfl, rfl, rfl⟩
    have hlt : dn.length < fe.length := by
      have hfn : (x :: dn).Nodup := List.nodup_cons.2 ⟨fun hc => hnot (by rw [hseen]; exact List.mem_map.2 ⟨x, hc, rfl⟩), hnodup⟩
      have := List.Nodup.length_le_of_subset hfn (l₂ := fe) (by intro y hy; rcases List.mem_cons.1 hy with rfl | hy; exact hx; exact hsub y hy)
      simp at this; omega
    have hent : xentry (.ptr (some (r, 0))) (S1.setObj r (.miter (some m) clock (seen ++ [(entry x).2.2]) clock)) = some (.tuple [(entry x).1, (entry x).2.1]) := by
      have hf := find_stamp h hx
      have : (entry x).2.2 = x.2.2 := rfl
      simp only [xentry, St.obj_setObj, if_true, hmr, if_false, hm1, List.getLast?_append, List.getLast?_singleton, Option.some_or, this, hf]
    have hec : xcells (entry x).1 = some [avS x.1.name] := rfl
    simp only [obind_some, setList, Option.map_some, List.set, List.length, List.getElem?_cons_zero, if_pos, eq_self, Nat.zero_add, k_extract, hent, hec]
    have hV' : VecAt (S.setObj r (.miter (some m) clock (seen ++ [(entry x).2.2]) clock)) (S1.setObj r (.miter (some m) clock (seen ++ [(entry x).2.2]) clock)) v ((dn.map (fun x : FE => x.1.name)).map avS) := by
      obtain ⟨hle, hv⟩ := hV
      refine ⟨?_, ?_⟩
      · have := stle_both hle r (.miter (some m) clock (seen ++ [(entry x).2.2]) clock)
        rw [setObj_setObj] at this
        exact this
      · rcases hv with hv | ⟨b, h1, h2, h3⟩
        · exact .inl hv
        · have hbr : b ≠ r := by rintro rfl; simp at h3
          refine .inr ⟨b, h1, by simp [hbr, h2], ?_⟩
          simpa [hbr] using h3
    refine app_vec (a := avS x.1.name) hV' ?_ rfl ?_ ?_ ?_
    · simp [xnews, avS]
    · simp; omega
    · simp; omega
    intro v2 S2 hV2
    refine ⟨S2, St.le_refl _, hrec (fe.length - (dn.length + 1)) _ _ (by omega) ⟨dn ++ [x], seen ++ [x.2.2], clock, v2, rfl, ?_, by simp [hseen], ?_, ?_, fun _ => rfl, by simp, by simp; omega⟩⟩
    · rw [List.map_append, List.map_append]; exact hV2
    · intro y hy
      rcases List.mem_append.1 hy with hy | hy
      · exact hsub y hy
      · simp at hy; subst hy; exact hx
    · rw [List.nodup_append]
      refine ⟨hnd, by simp, ?_⟩
      intro a ha b hb hab
      simp at hb; subst hb; subst hab
      exact hnot ha
end Go.AM
/-
  plate: Crash.
-/
namespace Go.AM
open Go
set_option maxRecDepth 20000
variable {R R' S S1 : St} {p : Nat} {P : PlateS}

theorem PlAt.grow (h : PlAt R S p P) (hl : S.le S1) : PlAt R S1 p P := let ⟨m, c, fe, h⟩ := h; ⟨m, c, fe, h.grow hl⟩
theorem PlAt.rle (h : PlAt R S p P) : R.le S := let ⟨_, _, _, h⟩ := h; h.rle
theorem PlAt.weaken (h : PlAt R' S p P) (hl : R.le R') : PlAt R S p P := by
  obtain ⟨m, c, fe, h⟩ := h
  exact ⟨m, c, fe, { h with rle := St.le_trans hl h.rle, rp := stle_obj hl h.rp, rm := stle_obj hl h.rm, own := fun x hx he => (h.own x hx he).imp id (Or.imp id fun ⟨t, hw, a, b, d⟩ => ⟨t, hw, a, b, stle_tok hl d⟩) }⟩
/-- An object more that stays. -/
theorem PlAt.frame (h : PlAt R S p P) (hl : S.le S1) {b : Nat} {o : AObj} (hb : S1.obj b = some o) (hn : S.obj b = none) : PlAt (R.setObj b o) S1 p P := by
  obtain ⟨m, c, fe, h⟩ := h
  have hg := h.grow hl
  have hpb : p ≠ b := by rintro rfl; rw [h.op] at hn; cases hn
  have hmb : m ≠ b := by rintro rfl; rw [h.om] at hn; cases hn
  refine ⟨m, c, fe, { hg with rle := ⟨fun d x hx => ?_, hg.rle.2⟩, rp := by simp [hpb, h.rp], rm := by simp [hmb, h.rm] }⟩
  simp only [St.obj_setObj] at hx
  split at hx
  · rename_i hd; subst hd; rw [hb]; exact hx
  · exact hg.rle.1 d x hx
/-- An object of the rest changes. -/
theorem PlAt.both {b : Nat} {o : AObj} (h : PlAt (R.setObj b o) S p P) (o' : AObj) : PlAt (R.setObj b o') (S.setObj b o') p P := by
  obtain ⟨m, c, fe, h⟩ := h
  have hpb : p ≠ b := by rintro rfl; have := h.rp; simp at this
  have hmb : m ≠ b := by rintro rfl; have := h.rm; simp at this
  have hrp := h.rp; have hrm := h.rm
  simp only [St.obj_setObj, if_neg hpb] at hrp
  simp only [St.obj_setObj, if_neg hmb] at hrm
  have hle := stle_both h.rle b o'
  rw [setObj_setObj] at hle
  exact ⟨m, c, fe, { h with rle := hle, rp := by simp [hpb, hrp], rm := by simp [hmb, hrm], op := by simp [hpb, h.op], om := by simp [hmb, h.om], own := fun x hx he => h.own x hx he }⟩

/-- How much of a file stays. -/
def keepN (ks : List Int) (i len safe : Nat) : Nat := safe + (match ks[i]? with
  | some k => min (max k 0).toNat (len - safe)
  | none => 0)
def crashGo (ks : List Int) : Nat → List (List UInt8) → PlateS → PlateS
  | _, [], P => P
  | i, n :: ns, P => crashGo ks (i + 1) ns (P.lay ⟨n, (dataF P.files n).take (keepN ks i (dataF P.files n).length (safeF P.files n)), keepN ks i (dataF P.files n).length (safeF P.files n)⟩)
def PlateS.crash (P : PlateS) (ks : List Int) : PlateS := { crashGo ks 0 (namesF P.files) P with armed := false, down := false }
/-- What is synced of a file is of it. -/
def SafeOk (P : PlateS) : Prop := ∀ n, safeF P.files n ≤ (dataF P.files n).length

/-! ## What lay makes of files -/
theorem getF_putF (fs : List FileS) (f : FileS) (n : List UInt8) : getF (putF fs f) n = if n = f.name then some f else getF fs n := by
  unfold putF
  split
  · rename_i h
    obtain ⟨x, hx, hxn⟩ := List.any_eq_true.1 h
    have hxn' : x.name = f.name := by simpa using hxn
    clear h
    induction fs generalizing x with
    | nil => cases hx
    | cons y fs ih =>
      by_cases hy : y.name = f.name
      · by_cases hn : n = f.name
        · subst hn; simp [getF, hy]
        · have hfn : (f.name == n) = false := by simpa using fun h => hn h.symm
          have hyn : (y.name == n) = false := by rw [hy]; exact hfn
          simp only [getF, List.map_cons, if_pos hy, List.find?_cons, hfn, hyn, if_neg hn]
          by_cases hin : ∃ z ∈ fs, z.name = f.name
          · obtain ⟨z, hz, hzn⟩ := hin
            have := ih z hz (by simpa using hzn) hzn
            simpa [getF, hn] using this
          · rw [map_id_of (fun z hz hzn => hin ⟨z, hz, hzn⟩)]
      · have hx' : x ∈ fs := by
          rcases List.mem_cons.1 hx with rfl | h
          · exact absurd hxn' hy
          · exact h
        have := ih x hx' hxn hxn'
        simp only [getF, List.map_cons, if_neg hy, List.find?_cons] at this ⊢
        by_cases hyn : y.name = n
        · have hne : ¬ n = f.name := fun hc => hy (hyn.trans hc)
          simp [hyn, hne]
        · have : (y.name == n) = false := by simpa using hyn
          simp only [this]
          assumption
  · rename_i h
    have hno : ∀ x ∈ fs, x.name ≠ f.name := by simpa using h
    simp only [getF, List.find?_append]
    by_cases hn : n = f.name
    · subst hn
      have := getF_none hno
      simp only [getF] at this
      simp [this]
    · have hfn : (f.name == n) = false := by simpa using fun h => hn h.symm
      simp [hn, hfn]
theorem getF_delF (fs : List FileS) (m n : List UInt8) : getF (delF fs m) n = if n = m then none else getF fs n := by
  induction fs with
  | nil => simp [getF, delF]
  | cons y fs ih =>
    simp only [getF, delF, List.filter_cons, List.find?_cons] at ih ⊢
    by_cases hy : y.name = m
    · subst hy
      by_cases hn : n = y.name
      · subst hn
        simpa using ih
      · have : (y.name == n) = false := by simpa using fun h => hn h.symm
        simp only [this, if_neg hn] at ih ⊢
        simpa using ih
    · have h1 : (y.name != m) = true := by simpa using hy
      simp only [h1, if_true, List.find?_cons]
      by_cases hyn : y.name = n
      · have : ¬ n = m := fun hc => hy (hyn.trans hc)
        simp [hyn, this]
      · have : (y.name == n) = false := by simpa using hyn
        simp only [this]
        exact ih
theorem getF_lay (P : PlateS) (f : FileS) (n : List UInt8) : getF (P.lay f).files n = if n = f.name then (if f.data = [] then none else some f) else getF P.files n := by
  simp only [PlateS.lay]
  by_cases hd : f.data = []
  · simp only [if_pos hd, getF_delF, getF_putF]
    by_cases hn : n = f.name <;> simp [hn]
  · simp only [if_neg hd, getF_putF]
theorem dataF_lay (P : PlateS) (f : FileS) (n : List UInt8) : dataF (P.lay f).files n = if n = f.name then f.data else dataF P.files n := by
  simp only [dataF, getF_lay]
  by_cases hn : n = f.name
  · by_cases hd : f.data = [] <;> simp [hn, hd]
  · simp [hn]
theorem safeF_lay (P : PlateS) (f : FileS) (n : List UInt8) : safeF (P.lay f).files n = if n = f.name then (if f.data = [] then 0 else f.safe) else safeF P.files n := by
  simp only [safeF, getF_lay]
  by_cases hn : n = f.name
  · by_cases hd : f.data = [] <;> simp [hn, hd]
  · simp [hn]
end Go.AM
/-
  plate: what always holds of it.
-/
namespace Go.AM
open Go
set_option maxRecDepth 20000

def sumLen (fs : List FileS) : Nat := (fs.map (·.data.length)).sum
theorem split_files (fs : List FileS) (n : List UInt8) (hn : (fs.map (·.name)).Nodup) : (∀ x ∈ fs, x.name ≠ n) ∨ ∃ a x b, fs = a ++ x :: b ∧ x.name = n ∧ (∀ y ∈ a, y.name ≠ n) ∧ (∀ y ∈ b, y.name ≠ n) := by
  induction fs with
  | nil => left; simp
  | cons x fs ih =>
    rw [List.map_cons, List.nodup_cons] at hn
    by_cases hx : x.name = n
    · right
      refine ⟨[], x, fs, rfl, hx, by simp, ?_⟩
      intro y hy hc
      exact hn.1 (List.mem_map.2 ⟨y, hy, by rw [hc, hx]⟩)
    · rcases ih hn.2 with ih | ⟨a, y, b, rfl, hy, ha, hb⟩
      · left; intro z hz; rcases List.mem_cons.1 hz with rfl | hz
        · exact hx
        · exact ih z hz
      · right; refine ⟨x :: a, y, b, rfl, hy, ?_, hb⟩
        intro z hz; rcases List.mem_cons.1 hz with rfl | hz
        · exact hx
        · exact ha z hz
theorem sum_put (fs : List FileS) (f : FileS) (hn : (fs.map (·.name)).Nodup) : sumLen (putF fs f) + (dataF fs f.name).length = sumLen fs + f.data.length := by
  rcases split_files fs f.name hn with h | ⟨a, x, b, rfl, hx, ha, hb⟩
  · rw [putF_none h]; simp [sumLen, dataF, getF_none h]
  · rw [putF_mid hx ha hb]; simp [sumLen, dataF, getF_mid hx ha]; omega
theorem sum_del (fs : List FileS) (n : List UInt8) (hn : (fs.map (·.name)).Nodup) : sumLen (delF fs n) + (dataF fs n).length = sumLen fs := by
  rcases split_files fs n hn with h | ⟨a, x, b, rfl, hx, ha, hb⟩
  · rw [filter_id_of h]; simp [dataF, getF_none h]
  · rw [delF_mid hx ha hb]; simp [sumLen, dataF, getF_mid hx ha]; omega
theorem nodup_putF (fs : List FileS) (f : FileS) (hn : (fs.map (·.name)).Nodup) : ((putF fs f).map (·.name)).Nodup := by
  rcases split_files fs f.name hn with h | ⟨a, x, b, rfl, hx, ha, hb⟩
  · rw [putF_none h]; exact nodup_put hn h
  · rw [putF_mid hx ha hb]; simpa [hx] using hn
theorem nodup_delF (fs : List FileS) (n : List UInt8) (hn : (fs.map (·.name)).Nodup) : ((delF fs n).map (·.name)).Nodup := by
  have hs : (delF fs n).Sublist fs := List.filter_sublist
  exact hn.sublist (hs.map _)

structure WF (P : PlateS) : Prop where
  names : (P.files.map (·.name)).Nodup
  used : P.used = sumLen P.files
  cap : P.used ≤ P.room
  room : P.room ≤ 268435456
  left : 0 ≤ P.left ∧ P.left ≤ 1099511627776
  safe : SafeOk P
theorem data_le (fs : List FileS) (n : List UInt8) (hn : (fs.map (·.name)).Nodup) : (dataF fs n).length ≤ sumLen fs := by have := sum_del fs n hn; omega
theorem WF.data {P : PlateS} (h : WF P) (n : List UInt8) : ((dataF P.files n).length : Int) ≤ P.used := by have := data_le P.files n h.names; rw [h.used]; omega
theorem WF.calm {P : PlateS} (h : WF P) : Calm P := by
  have h1 := h.used; have h2 := h.cap; have h3 := h.room; have h4 := h.left
  refine ⟨by omega, by omega, by omega, by omega, h4.1, h4.2, fun n => ?_⟩
  have := h.data n; omega
theorem WF.change {P : PlateS} (h : WF P) (n : List UInt8) : WF (P.change n).2 := by
  have hs := change_same P n
  have hc := calm_change h.calm n
  exact ⟨by rw [hs.1]; exact h.names, by rw [hs.1, hs.2.2]; exact h.used, by rw [hs.2.1, hs.2.2]; exact h.cap, by rw [hs.2.1]; exact h.room, ⟨hc.2.2.2.2.1, hc.2.2.2.2.2.1⟩, by intro m; rw [hs.1]; exact h.safe m⟩
theorem WF.lay {P : PlateS} (h : WF P) (f : FileS) (hs : f.safe ≤ f.data.length) (hc : P.used + ((f.data.length : Int) - (dataF P.files f.name).length) ≤ P.room) : WF (P.lay f) := by
  have e1 := sum_put P.files f h.names
  have n1 := nodup_putF P.files f h.names
  refine ⟨?_, ?_, hc, h.room, h.left, ?_⟩
  · simp only [PlateS.lay]; split
    · exact nodup_delF _ _ n1
    · exact n1
  · simp only [PlateS.lay]
    have := h.used
    split
    · rename_i hd
      have e2 := sum_del (putF P.files f) f.name n1
      have e3 : (dataF (putF P.files f) f.name).length = 0 := by simp [dataF, getF_putF, hd]
      rw [hd] at e1
      simp at e1
      rw [hd]; simp; omega
    · omega
  · intro n
    rw [dataF_lay, safeF_lay]
    by_cases hn : n = f.name
    · by_cases hd : f.data = [] <;> simp [hn, hd, hs]
    · simp [hn, h.safe n]
end Go.AM
/-
  plate: Crash.
-/
namespace Go.AM
open Go
set_option maxRecDepth 20000

/-- A list that was handed back can be read as long as a part of the heap stays. -/
theorem VecAt.read {R S S1 : St} {p : Nat} {P : PlateS} {v : AV} {cs : List AV} (hV : VecAt S S1 v cs) (hP : PlAt R S p P) : ∃ R', R.le R' ∧ PlAt R' S1 p P ∧ xlen v = some (.int .i64 cs.length) ∧
    ∀ S', R'.le S' → ∀ (i : Nat) a, cs[i]? = some a → ∃ ad, xiaddr 1 v (.int .i64 i) = some ad ∧ xload false 1 ad S' = some a := by
  obtain ⟨hle, ⟨rfl, rfl⟩ | ⟨b, rfl, hb, h0⟩⟩ := hV
  · exact ⟨R, St.le_refl _, hP.grow hle, rfl, fun _ _ i a h => by simp at h⟩
  · have hRb : R.obj b = none := stle_obj hP.rle h0
    refine ⟨R.setObj b (.vec cs), stle_setObj (St.le_refl _) hRb _, hP.frame hle hb h0, rfl, fun S' hS' i a ha => ?_⟩
    have hi : i < cs.length := by
      rcases Nat.lt_or_ge i cs.length with h | h
      · exact h
      · rw [List.getElem?_eq_none h] at ha; cases ha
    refine ⟨.ptr (some (b, 0 + (i : Int).toNat * 1)), k_iaddr_m b 0 0 cs.length 1 i .i64 none ⟨by omega, by omega⟩ |>.trans (by simp), ?_⟩
    have := hS'.1 b (.vec cs) (by simp)
    simp [xload, this, getCells, ha]

def Sp25 : Spec := rspec (fun (x : St × Nat × PlateS × List Int × Own) args S => args = [.ptr (some (x.2.1, 0)), .slice (x.2.2.2.1.map avI) x.2.2.2.1.length x.2.2.2.2] ∧ PlAt x.1 S x.2.1 x.2.2.1 ∧ WF x.2.2.1 ∧ x.2.2.1.files.length ≤ 1073741824)
  fun x _ v S' => v = .tuple [] ∧ PlAt x.1 S' x.2.1 (x.2.2.1.crash x.2.2.2.1)
theorem keepN_le {ks : List Int} {i len safe : Nat} (h : safe ≤ len) : keepN ks i len safe ≤ len := by
  unfold keepN; split
  · rename_i k hk
    exact Nat.le_trans (Nat.add_le_add_left (Nat.min_le_right _ _) safe) (by omega)
  · omega
theorem s25 : Sound PR 25 Sp25 := by
  refine sound_r PR_mixed (sounds_cons s40 (sounds_cons s41 sounds_nil)) (monos_cons (rspec_mono _ _) (monos_cons (rspec_mono _ _) monos_nil)) (own := own []) (ord := O25) (lh := H25) (fn := Go.Proofs.Tryz.f25) (by kernel_rfl) (by kernel_rfl) ?_
  rintro ⟨R, p, P, ks, ow⟩ args S ⟨rfl, hP, hwf, hlen⟩
  rw [W25_eq]
  refine ⟨rfl, ?_⟩
  unfold W25
  dsimp only at hP hwf hlen ⊢
  simp only [obind_some, asplit_false, g, setList, xbuild, xfill, List.length, List.all, St.obj_setObj, if_false, if_pos, and_true, true_and, Bool.and_self, Bool.not_false, eq_self, Nat.zero_add, Nat.add_zero, Nat.reduceAdd, Nat.reduceLeDiff, Option.isNone_some, Bool.false_eq_true, k_cells_b, k_faddr_p, k_isnil, k_len_s, k_load_p, k_nilck_p, k_nilp_p, k_ok_b, k_store_p, k_get1]
  refine ccall_r (R, p, P) ⟨rfl, hP, hlen⟩ ?_
  intro v S1 hV
  dsimp only at hV
  obtain ⟨R', hRR, hP1, hlv, hread⟩ := hV.read hP
  have hnl : (namesF P.files).length ≤ 1073741824 := by unfold namesF; simpa using hlen
  rw [hlv, obind_some]
  simp only [List.length_map]
  refine aloop_inv (fun n l S' => ∃ i P', l = [.int .i64 (i : Nat)] ∧ i ≤ (namesF P.files).length ∧ n = (namesF P.files).length - i ∧ PlAt R' S' p P' ∧ WF P' ∧ crashGo ks i ((namesF P.files).drop i) P' = crashGo ks 0 (namesF P.files) P) (namesF P.files).length
    ⟨0, P, rfl, by omega, by omega, hP1, hwf, rfl⟩ ?_
  rintro n _ S2 ⟨i, P', rfl, hi, rfl, hP2, hwf2, hgo⟩ rec hrec
  have hP2' := hP2
  obtain ⟨m, clock, fe, h⟩ := hP2
  have hop := h.op
  simp only [obind_some, List.getD_cons_zero, k_add, k_lss]
  refine asplit_of _ ?_ ?_
  · intro hlt
    have hi' : i < (namesF P.files).length := by omega
    generalize hnm : (namesF P.files)[i] = nm
    have hget : ((namesF P.files).map avS)[i]? = some (avS nm) := by simp [List.getElem?_eq_getElem hi', hnm]
    obtain ⟨ad, ha1, ha2⟩ := hread S2 h.rle i _ hget
    obtain ⟨o, hlook, hon, hoi, hod⟩ := h.look nm
    obtain ⟨S0, hX, hT⟩ := h.but nm hod (hoi (by simp))
    have hsafe := hwf2.safe nm
    have hdl := hwf2.calm.2.2.2.2.2.2 nm
    have hdrop : (namesF P.files).drop i = nm :: (namesF P.files).drop (i + 1) := by rw [List.drop_eq_getElem_cons hi', hnm]
    rw [hdrop] at hgo
    have hkl := keepN_le (ks := ks) (i := i) hsafe
    have hi1 : IntKind.i64.wrap ((i : Int) + 1) = ((i + 1 : Nat) : Int) := by rw [IntWalk.i64_in _ (by omega)]; simp
    simp only [obind_some, setList, List.set, List.length, List.getElem?_cons_zero, List.getElem?_cons_succ, List.all, St.obj_setObj, if_pos, true_and, Bool.and_self, eq_self, Nat.zero_add, Nat.add_zero, Nat.reduceAdd, Nat.le_refl, k_cells_a, k_cells_i, k_faddr_p, k_load_p, k_ok_i, k_ok_bsl, k_len_bsl, k_store_p, k_sub, k_get1, ha1, ha2, hop, pcells, avS, hlook, xalloc]
    intro b hb ht
    have hb0 : S0.obj b = none := stle_obj hT.1 hb
    rw [setObj_setObj]
    have hwf3 : WF (P'.lay ⟨nm, (dataF P'.files nm).take (keepN ks i (dataF P'.files nm).length (safeF P'.files nm)), keepN ks i (dataF P'.files nm).length (safeF P'.files nm)⟩) := by
      refine hwf2.lay _ (by simp; omega) ?_
      have := hwf2.cap
      simp; omega
    have hT1 : Tl 1 S0 (S2.setObj b (.cells [bsl (dataF P'.files nm) o, .int .i64 (safeF P'.files nm)])) (if o = .nil then .nil else .full) := by
      refine ⟨stle_setObj hT.1 hb0 _, ?_⟩
      split
      · exact .inl rfl
      · exact .inr (.inl rfl)
    have key : ∀ k, k = keepN ks i (dataF P'.files nm).length (safeF P'.files nm) → ccall Sp41 [AV.ptr (some (p, 0)), AV.str (bstr nm), AV.agg [bsl ((dataF P'.files nm).take k) (if o = .nil then .nil else .full), AV.int .i64 (k : Nat)]] (S2.setObj b (.cells [bsl (dataF P'.files nm) o, .int .i64 (safeF P'.files nm)]))
        (fun t53 S_5 => ∃ S'', S''.le S_5 ∧ rec [.int .i64 ((i + 1 : Nat) : Int)] S'') (fun v S' => Done (fun v S' => v = AV.tuple [] ∧ PlAt R S' p (P.crash ks)) (En.pan v) S') := by
      rintro k rfl
      refine ccall_r ⟨R', S0, p, P', m, clock, fe, ⟨nm, (dataF P'.files nm).take (keepN ks i (dataF P'.files nm).length (safeF P'.files nm)), keepN ks i (dataF P'.files nm).length (safeF P'.files nm)⟩, if o = .nil then .nil else .full⟩ ⟨rfl, hX, hT1, ?_, hwf2.calm, by simp; omega⟩ ?_
      · dsimp only
        split
        · rename_i h; intro _; rw [hon h]; simp
        · intro h; cases h
      · rintro _ S3 ⟨rfl, h3⟩
        exact ⟨S3, St.le_refl _, hrec ((namesF P.files).length - (i + 1)) _ _ (by omega) ⟨i + 1, _, rfl, by omega, rfl, h3, hwf3, hgo⟩⟩
    refine asplit_of _ ?_ ?_
    · intro hk
      have hik : i < ks.length := by omega
      have hks : ks[i]? = some ks[i] := List.getElem?_eq_getElem hik
      rw [k_iaddr_s _ _ _ _ _ _ (by omega)]
      have hks2 : (ks.map avI)[i]? = some (avI ks[i]) := by simp [hks]
      have hsub : IntKind.i64.wrap (((dataF P'.files nm).length : Int) - (safeF P'.files nm : Int)) = (((dataF P'.files nm).length - safeF P'.files nm : Nat) : Int) := by rw [IntWalk.i64_in _ (by omega)]; omega
      have hmx : xmm true (.int .i64 ks[i]) (.int .i64 0) = some (.int .i64 (if 0 > ks[i] then 0 else ks[i])) := by simp only [xmm, if_true]
      have hmn : xmm false (.int .i64 (if 0 > ks[i] then 0 else ks[i])) (.int .i64 (((dataF P'.files nm).length - safeF P'.files nm : Nat) : Int)) = some (.int .i64 ((min (max ks[i] 0).toNat ((dataF P'.files nm).length - safeF P'.files nm) : Nat) : Int)) := by
        simp only [xmm, if_true, Bool.false_eq_true, if_false]
        congr 2
        split <;> split <;> omega
      have hk2 : keepN ks i (dataF P'.files nm).length (safeF P'.files nm) = safeF P'.files nm + min (max ks[i] 0).toNat ((dataF P'.files nm).length - safeF P'.files nm) := by simp only [keepN, hks]
      have hadd : IntKind.i64.wrap ((safeF P'.files nm : Int) + ((min (max ks[i] 0).toNat ((dataF P'.files nm).length - safeF P'.files nm) : Nat) : Int)) = ((keepN ks i (dataF P'.files nm).length (safeF P'.files nm) : Nat) : Int) := by rw [IntWalk.i64_in _ (by omega), hk2]; simp
      simp only [obind_some, setList, Option.map_some, List.set, List.length, List.length_cons, if_pos, true_and, eq_self, Nat.zero_add, Nat.reduceAdd, Nat.le_refl, Nat.mul_one, k_add, k_cells_i, k_load_r, k_d0, k_t0, k_cells_bsl, k_get1, Int.toNat_natCast, hks2, avI, hmx, hmn, hsub, hadd, slice3 .i64 .i64 hkl hon, hi1]
      exact key _ rfl
    · intro hk
      have hks : ks[i]? = none := List.getElem?_eq_none (by omega)
      have hk2 : safeF P'.files nm = keepN ks i (dataF P'.files nm).length (safeF P'.files nm) := by simp only [keepN, hks]; omega
      simp only [obind_some, setList, Option.map_some, List.set, List.length, List.length_cons, if_pos, eq_self, Nat.zero_add, Nat.reduceAdd, Nat.le_refl, k_cells_bsl, slice3 .i64 .i64 hsafe hon, hi1]
      exact key _ hk2
  · intro hge
    have hie : i = (namesF P.files).length := by omega
    rw [hie, List.drop_length] at hgo
    have hgo' : P' = crashGo ks 0 (namesF P.files) P := hgo
    simp only [List.set, List.length, List.length_cons, true_and, Nat.zero_add, Nat.reduceAdd, Nat.reduceLeDiff, Nat.le_refl, hop, pcells]
    have h1 := (h.upd { P' with armed := false } rfl).upd { P' with armed := false, down := false } rfl
    refine done' ⟨rfl, ?_⟩
    have e : P.crash ks = { P' with armed := false, down := false } := by rw [hgo']; rfl
    rw [e]
    refine PlAt.weaken ⟨m, clock, fe, ?_⟩ hRR
    simpa [pcells] using h1
end Go.AM
/-
  strings.CutPrefix where the prefix is there; strconv.Atoi at small numerals.
-/
namespace Go.AM
open Go
set_option maxRecDepth 20000

theorem bstr_extract (l : List UInt8) (a b : Nat) : (bstr l).extract a b = bstr ((l.take b).drop a) := by
  apply ByteArray.ext
  rw [← Array.toList_inj]
  simp [bstr, List.drop_take]
theorem sslice_to (l : List UInt8) (k : Nat) (hk : k ≤ l.length) : xsslice (.str (bstr l)) none (some (.int .i64 k)) = some (.str (bstr (l.take k))) := by
  simp only [xsslice, xbound, bstr_size]
  rw [if_pos (by omega), bstr_extract]; simp
theorem sslice_from (l : List UInt8) (k : Nat) (hk : k ≤ l.length) : xsslice (.str (bstr l)) (some (.int .i64 k)) none = some (.str (bstr (l.drop k))) := by
  simp only [xsslice, xbound, bstr_size]
  rw [if_pos (by omega), bstr_extract]; simp

def Sp72 : Spec := rspec (fun (x : List UInt8 × List UInt8) args _ => args = [.str (bstr (x.1 ++ x.2)), .str (bstr x.1)]) fun _ S v S' => v = .bool true ∧ S' = S
theorem s72 : Sound PR 72 Sp72 := by
  refine sound_r PR_mixed sounds_nil monos_nil (own := own []) (ord := O72) (lh := H72) (fn := Go.Proofs.Tryz.f72) (by kernel_rfl) (by kernel_rfl) ?_
  rintro ⟨a, b⟩ args S rfl
  rw [W72_eq]
  refine ⟨rfl, ?_⟩
  unfold W72
  dsimp only
  have h1 : ((a ++ b).length : Int) ≥ a.length := by simp; omega
  have h2 := sslice_to (a ++ b) a.length (by simp)
  rw [List.take_left] at h2
  simp only [obind_some, if_pos, eq_self, decide_true, k_geq, k_gv_b, k_pick, k_seql, k_slen, bstr_size, h1, h2, bstr_list]
  exact done' ⟨by simp, rfl⟩
def Sp59 : Spec := rspec (fun (x : List UInt8 × List UInt8) args _ => args = [.str (bstr (x.1 ++ x.2)), .str (bstr x.1)]) fun x S v S' => v = .tuple [.str (bstr x.2), .bool true] ∧ S' = S
theorem s59 : Sound PR 59 Sp59 := by
  refine sound_r PR_mixed (sounds_cons s72 sounds_nil) (monos_cons (rspec_mono _ _) monos_nil) (own := own []) (ord := O59) (lh := H59) (fn := Go.Proofs.Tryz.f59) (by kernel_rfl) (by kernel_rfl) ?_
  rintro ⟨a, b⟩ args S rfl
  rw [W59_eq]
  refine ⟨rfl, ?_⟩
  unfold W59
  dsimp only
  refine ccall_r (a, b) rfl ?_
  rintro _ S ⟨rfl, rfl⟩
  have h2 := sslice_from (a ++ b) a.length (by simp)
  rw [List.drop_left] at h2
  simp only [obind_some, asplit_false, Bool.not_true, k_not, k_slen, bstr_size, h2]
  exact done' ⟨rfl, rfl⟩
theorem s42 : Sound PR 42 Sp59 := by
  refine sound_r PR_mixed (sounds_cons s59 sounds_nil) (monos_cons (rspec_mono _ _) monos_nil) (own := own []) (ord := O42) (lh := H42) (fn := Go.Proofs.Tryz.f42) (by kernel_rfl) (by kernel_rfl) ?_
  rintro ⟨a, b⟩ args S rfl
  rw [W42_eq]
  refine ⟨rfl, ?_⟩
  unfold W42
  dsimp only
  refine ccall_r (a, b) rfl ?_
  rintro _ S ⟨rfl, rfl⟩
  simp only [obind_some, List.getElem?_cons_zero, List.getElem?_cons_succ, k_extract]
  exact done' ⟨rfl, rfl⟩
end Go.AM
/-
  strconv.Atoi at small numerals.
-/
namespace Go.AM
open Go
set_option maxRecDepth 20000

/-- Digits, and what they are worth. -/
def digs (ds : List Nat) : List UInt8 := ds.map fun d => UInt8.ofNat (48 + d)
def worth (ds : List Nat) : Nat := ds.foldl (fun a d => a * 10 + d) 0
theorem worth_lt : ∀ ds : List Nat, (∀ d ∈ ds, d < 10) → ds.length ≤ 2 → worth ds < 100
  | [], _, _ => by simp [worth]
  | [a], h, _ => by have := h a (by simp); simp [worth]; omega
  | [a, b], h, _ => by have := h a (by simp); have := h b (by simp); simp [worth]; omega
  | _ :: _ :: _ :: _, _, h => by simp at h
theorem digits_of (n : Nat) (h : n < 100) : ∃ ds, Lib.decDigits n = digs ds ∧ worth ds = n ∧ (∀ d ∈ ds, d < 10) ∧ 1 ≤ ds.length ∧ ds.length ≤ 2 := by
  by_cases h10 : n < 10
  · refine ⟨[n], ?_, by simp [worth], by simpa using h10, by simp, by simp⟩
    rw [Lib.decDigits, dif_pos h10]; rfl
  · refine ⟨[n / 10, n % 10], ?_, by simp [worth]; omega, ?_, by simp, by simp⟩
    · rw [Lib.decDigits, dif_neg h10, Lib.decDigits, dif_pos (by omega)]; rfl
    · intro d hd; simp at hd; omega

def Sp60 : Spec := rspec (fun (ds : List Nat) args _ => args = [.str (bstr (digs ds))] ∧ (∀ d ∈ ds, d < 10) ∧ 1 ≤ ds.length ∧ ds.length ≤ 2) fun ds S v S' => v = .tuple [.int .i64 (worth ds), .nilIface] ∧ S' = S
def Sp73 : Spec := rspec (fun (_ : Unit) _ _ => False) fun _ _ _ _ => False
theorem s73 : Sound PR 73 Sp73 := ⟨by kernel_rfl, fun args vals S w Q _ _ h => by obtain ⟨_, h, _⟩ := h; exact h.elim⟩
theorem s60 : Sound PR 60 Sp60 := by
  refine sound_r PR_mixed (sounds_cons s73 sounds_nil) (monos_cons (rspec_mono _ _) monos_nil) (own := own []) (ord := O60) (lh := H60) (fn := Go.Proofs.Tryz.f60) (by kernel_rfl) (by kernel_rfl) ?_
  rintro ds args S ⟨rfl, hd, h1, h2⟩
  rw [W60_eq]
  refine ⟨rfl, ?_⟩
  unfold W60
  have hsl : (digs ds).length = ds.length := by simp [digs]
  have q1 : (0 : Int) < ds.length := by omega
  have q2 : (ds.length : Int) < 19 := by omega
  have hb : ∀ i, i < ds.length → ∃ d, ds[i]? = some d ∧ d < 10 ∧ (digs ds)[i]? = some (UInt8.ofNat (48 + d)) := by
    intro i hi
    exact ⟨ds[i], List.getElem?_eq_getElem hi, hd _ (List.getElem_mem hi), by simp [digs, List.getElem?_eq_getElem hi]⟩
  obtain ⟨d0, _, hd0, hb0⟩ := hb 0 (by omega)
  have hix : xsindex (.str (bstr (digs ds))) (.int .i64 0) = some (.int .u8 ((48 + d0 : Nat) : Int)) := by
    simp only [xsindex, bstr_list, Int.toNat_zero, hb0]
    rw [if_pos (by omega)]
    simp only [Option.map_some, u8n]
    congr 3; omega
  have n45 : ¬ (((48 + d0 : Nat) : Int) = 45) := by omega
  have n43 : ¬ (((48 + d0 : Nat) : Int) = 43) := by omega
  simp only [obind_some, asplit_true, asplit_false, g, if_false, if_pos, eq_self, Bool.false_eq_true, decide_true, decide_false, k_eql, k_gv_b, k_gv_t, k_len_s, k_lss, k_pick, k_s2b, k_slen, bstr_size, hsl, q1, q2, hix, n45, n43, bstr_list]
  refine aloop_inv (fun n l S' => S' = S ∧ ∃ i, i ≤ ds.length ∧ n = ds.length - i ∧ l = [.int .i64 (worth (ds.take i) : Nat), .int .i64 (i : Nat)]) ds.length ⟨rfl, 0, by omega, by omega, by simp [worth]⟩ ?_
  rintro n _ _ ⟨rfl, i, hi, rfl, rfl⟩ rec hrec
  simp only [obind_some, List.getD_cons_zero, List.getD_cons_succ, k_add, k_lss, k_mul]
  refine asplit_of _ ?_ ?_
  · intro hlt
    have hi' : i < ds.length := by omega
    obtain ⟨d, hdi, hdl, hbi⟩ := hb i hi'
    have e8 : (UInt8.ofNat (48 + d)).toNat = 48 + d := by rw [u8n]; omega
    have hget : (ofBytes (digs ds))[i]? = some (.int .u8 ((48 + d : Nat) : Int)) := by rw [ofBytes_get, hbi, Option.map_some, e8]
    have w8 : IntKind.u8.wrap (((48 + d : Nat) : Int) - 48) = (d : Int) := by rw [IntWalk.u8_in _ (by omega)]; omega
    have n9 : ¬ ((d : Int) > 9) := by omega
    have hw := worth_lt (ds.take i) (fun x hx => hd x (List.mem_of_mem_take hx)) (by simp; omega)
    have wm : IntKind.i64.wrap ((worth (ds.take i) : Int) * 10) = ((worth (ds.take i) * 10 : Nat) : Int) := by rw [IntWalk.i64_in _ (by omega)]; simp
    have wd : IntKind.i64.wrap (d : Int) = d := IntWalk.i64_in _ (by omega)
    have wa : IntKind.i64.wrap (((worth (ds.take i) * 10 : Nat) : Int) + (d : Int)) = ((worth (ds.take i) * 10 + d : Nat) : Int) := by rw [IntWalk.i64_in _ (by omega)]; simp
    have wi : IntKind.i64.wrap ((i : Int) + 1) = ((i + 1 : Nat) : Int) := by rw [IntWalk.i64_in _ (by omega)]; simp
    rw [k_iaddr_s _ _ _ _ _ _ (by omega)]
    simp only [obind_some, asplit_false, decide_false, Nat.mul_one, k_add, k_conv, k_gtr, k_load_r, k_d0, k_t0, k_sub, k_get1, Int.toNat_natCast, hget, w8, n9, wm, wd, wa, wi]
    refine ⟨_, St.le_refl _, hrec (ds.length - (i + 1)) _ _ (by omega) ⟨rfl, i + 1, by omega, rfl, ?_⟩⟩
    have e1 : ds.take (i + 1) = ds.take i ++ [d] := by rw [List.take_add_one, hdi]; rfl
    have e2 : worth (ds.take (i + 1)) = worth (ds.take i) * 10 + d := by rw [e1]; simp [worth]
    rw [e2]
  · intro hge
    have hie : i = ds.length := by omega
    subst hie
    rw [List.take_length]
    exact done' ⟨rfl, rfl⟩

def Sp61 : Spec := rspec (fun (_ : Unit) _ _ => False) fun _ _ _ _ => False
theorem s61 : Sound PR 61 Sp61 := ⟨by kernel_rfl, fun args vals S w Q _ _ h => by obtain ⟨_, h, _⟩ := h; exact h.elim⟩
theorem s43 : Sound PR 43 Sp60 := by
  refine sound_r PR_mixed (sounds_cons s60 (sounds_cons s61 sounds_nil)) (monos_cons (rspec_mono _ _) (monos_cons (rspec_mono _ _) monos_nil)) (own := own []) (ord := O43) (lh := H43) (fn := Go.Proofs.Tryz.f43) (by kernel_rfl) (by kernel_rfl) ?_
  rintro ds args S ⟨rfl, hd, h1, h2⟩
  rw [W43_eq]
  refine ⟨rfl, ?_⟩
  unfold W43
  refine ccall_r ds ⟨rfl, hd, h1, h2⟩ ?_
  rintro _ S ⟨rfl, rfl⟩
  simp only [obind_some, asplit_false, List.getElem?_cons_zero, List.getElem?_cons_succ, if_pos, Bool.not_true, eq_self, k_extract, k_isnil, k_nili_n]
  exact done' ⟨rfl, rfl⟩
end Go.AM
/-
  wal: numbers.
-/
namespace Go.AM
open Go
set_option maxRecDepth 20000

/-- The plate has the files of these numbers and no other ones. -/
structure Nums (name : List UInt8) (P : PlateS) (ns : List Nat) : Prop where
  perm : (P.files.map (·.name)).Perm (ns.map (fname name))
  sorted : ns.Pairwise (· < ·)
  small : ∀ n ∈ ns, 0 < n ∧ n < 100

theorem perm_map_inv {α β : Type} (f : α → β) {l : List β} {ns : List α} (h : l.Perm (ns.map f)) : ∃ ms : List α, ms.Perm ns ∧ l = ms.map f := by
  generalize hm : ns.map f = k at h
  induction h generalizing ns with
  | nil => cases ns with
    | nil => exact ⟨[], .nil, rfl⟩
    | cons a tl => cases hm
  | cons x h ih => cases ns with
    | nil => cases hm
    | cons a tl =>
      simp only [List.map_cons, List.cons.injEq] at hm
      obtain ⟨ms, h1, h2⟩ := ih hm.2
      exact ⟨a :: ms, h1.cons a, by rw [h2, ← hm.1]; rfl⟩
  | swap x y l => cases ns with
    | nil => cases hm
    | cons a tl => cases tl with
      | nil => simp at hm
      | cons b bs =>
        simp only [List.map_cons, List.cons.injEq] at hm
        exact ⟨b :: a :: bs, .swap _ _ _, by rw [← hm.1, ← hm.2.1, ← hm.2.2]; rfl⟩
  | trans h1 h2 ih1 ih2 =>
    obtain ⟨ms, h3, h4⟩ := ih2 hm
    obtain ⟨ms2, h5, h6⟩ := ih1 h4.symm
    exact ⟨ms2, h5.trans h3, h6⟩

theorem names_of {name : List UInt8} {P : PlateS} {ns : List Nat} (h : Nums name P ns) : ∃ ms : List Nat, ms.Perm ns ∧ namesF P.files = ms.map (fname name) :=
  perm_map_inv (fname name) ((List.mergeSort_perm _ _).trans h.perm)
theorem sort_nums {ms ns : List Nat} (hp : ms.Perm ns) (hs : ns.Pairwise (· < ·)) : (ms.map (fun n : Nat => (n : Int))).mergeSort (fun x y => decide (x ≤ y)) = ns.map (fun n : Nat => (n : Int)) := by
  refine List.Perm.eq_of_pairwise (le := fun x y : Int => x ≤ y) (fun a b _ _ h1 h2 => Int.le_antisymm h1 h2) ?_ ?_ ((List.mergeSort_perm _ _).trans (hp.map _))
  · have := List.pairwise_mergeSort (le := fun x y : Int => decide (x ≤ y)) (by intro a b c; simp; omega) (by intro a b; simp; omega) (ms.map (fun n : Nat => (n : Int)))
    exact this.imp (by intro a b; simp)
  · rw [List.pairwise_map]
    exact hs.imp (by intro a b; omega)

def Sp29 : Spec := rspec (fun (x : St × Nat × Nat × WalS × PlateS × List Nat) args S => args = [.ptr (some (x.2.1, 0))] ∧ x.1.obj x.2.1 = some (.cells (wcells x.2.2.1 x.2.2.2.1)) ∧ PlAt x.1 S x.2.2.1 x.2.2.2.2.1 ∧ Nums x.2.2.2.1.name x.2.2.2.2.1 x.2.2.2.2.2 ∧ x.2.2.2.1.name.length ≤ 1000 ∧ x.2.2.2.2.1.files.length ≤ 1073741824)
  fun x S v S' => VecAt S S' v ((x.2.2.2.2.2.map fun n : Nat => (n : Int)).map avI)
theorem s29 : Sound PR 29 Sp29 := by
  refine sound_r PR_mixed (sounds_cons s31 (sounds_cons s40 (sounds_cons s42 (sounds_cons s43 (sounds_cons s44 sounds_nil))))) (monos_cons (rspec_mono _ _) (monos_cons (rspec_mono _ _) (monos_cons (rspec_mono _ _) (monos_cons (rspec_mono _ _) (monos_cons (rspec_mono _ _) monos_nil))))) (own := own [54]) (ord := O29) (lh := H29) (fn := Go.Proofs.Tryz.f29) (by kernel_rfl) (by kernel_rfl) ?_
  rintro ⟨R, w, p, W, P, ns⟩ args S ⟨rfl, hw, hP, hN, hnl, hlen⟩
  rw [W29_eq]
  refine ⟨rfl, ?_⟩
  unfold W29
  dsimp only at hw hP hN hnl hlen ⊢
  have hwS := hP.rle.1 _ _ hw
  simp only [obind_some, g, xfill, xbslice, List.length, List.getElem?_cons_zero, and_true, Nat.zero_add, Nat.add_zero, Nat.le_refl, k_faddr_p, k_load_p, k_nilck_p, k_get1, hwS, wcells]
  refine ccall_r (R, p, P) ⟨rfl, hP, hlen⟩ ?_
  intro v S1 hV
  dsimp only at hV
  obtain ⟨R', hRR, hP1, hlv, hread⟩ := hV.read hP
  obtain ⟨ms, hperm, hnames⟩ := names_of hN
  have hmlen : ms.length ≤ 1073741824 := by
    have := congrArg List.length hnames
    unfold namesF at this; simp at this; omega
  have hwR : R'.obj w = some (.cells (wcells p W)) := hRR.1 _ _ hw
  rw [hlv, obind_some, hnames]
  simp only [List.length_map]
  refine aloop_inv (fun n l S' => ∃ i v2, l = [v2, .int .i64 (i : Nat)] ∧ i ≤ ms.length ∧ n = ms.length - i ∧ VecAt S1 S' v2 (((ms.take i).map fun n : Nat => (n : Int)).map avI)) ms.length
    ⟨0, .slice [] 0 .nil, rfl, by omega, by omega, St.le_refl _, .inl ⟨rfl, by simp⟩⟩ ?_
  rintro n _ S2 ⟨i, v2, rfl, hi, rfl, hV2⟩ rec hrec
  have hle2 : R'.le S2 := St.le_trans hP1.rle hV2.1
  have hw2 : S2.obj w = some (.cells (wcells p W)) := hle2.1 _ _ hwR
  simp only [obind_some, List.getD_cons_zero, List.getD_cons_succ, k_add, k_lss]
  refine asplit_of _ ?_ ?_
  · intro hlt
    have hi' : i < ms.length := by omega
    generalize hk : ms[i] = k
    have hmi : ms[i]? = some k := by rw [List.getElem?_eq_getElem hi', hk]
    have hks := hN.small k (hperm.subset (by rw [← hk]; exact List.getElem_mem hi'))
    have hget : ((namesF P.files).map avS)[i]? = some (avS (fname W.name k)) := by simp [hnames, hmi]
    obtain ⟨ad, ha1, ha2⟩ := hread S2 hle2 i _ hget
    have e45 : (⟨#[45]⟩ : ByteArray) = bstr [45] := rfl
    have a1 : xbins .add (.str (bstr W.name)) (.str (bstr [45])) = some (.str (bstr (W.name ++ [45]))) := by rw [k_sadd _ _ (by rw [bstr_size, bstr_size]; simp; omega), bstr_append]
    obtain ⟨ds, d1, d2, d3, d4, d5⟩ := digits_of k hks.2
    have hi1 : IntKind.i64.wrap ((i : Int) + 1) = ((i + 1 : Nat) : Int) := by rw [IntWalk.i64_in _ (by omega)]; simp
    simp only [obind_some, List.getElem?_cons_zero, List.getElem?_cons_succ, ha1, ha2, hw2, wcells, e45, a1, avS]
    refine ccall_r (W.name ++ [45], Lib.decDigits k) rfl ?_
    rintro _ S2 ⟨rfl, rfl⟩
    dsimp only
    simp only [obind_some, List.getElem?_cons_zero, List.getElem?_cons_succ, if_pos, eq_self, k_extract, k_gv_b, k_pick]
    refine ccall_r ds ⟨by rw [d1], d3, d4, d5⟩ ?_
    rintro _ S2 ⟨rfl, rfl⟩
    have hgt : ((worth ds : Nat) : Int) > 0 := by rw [d2]; omega
    simp only [obind_some, setList, Option.map_some, List.set, List.length, List.getElem?_cons_zero, List.getElem?_cons_succ, if_false, if_pos, Bool.not_true, eq_self, Nat.zero_add, Bool.false_eq_true, decide_true, k_cells_i, k_extract, k_gif_b, k_gtr, k_gv_b, k_isnil, k_nili_n, k_pick, hgt]
    refine ccall_r (w, p, W, k) ⟨by rw [d2], hks.2, hw2, hnl⟩ ?_
    rintro _ S2 ⟨rfl, rfl⟩
    simp only [obind_some, asplit_true, k_seql, bstr_list, beq_self_eq_true]
    refine app_vec (a := avI k) hV2 ?_ rfl ?_ ?_ ?_
    · simp [xnews, avI, d2]
    · simp; omega
    · simp; omega
    intro v3 S3 hV3
    simp only [hi1]
    refine ⟨S3, St.le_refl _, hrec (ms.length - (i + 1)) _ _ (by omega) ⟨i + 1, v3, rfl, by omega, rfl, ?_⟩⟩
    have e1 : ms.take (i + 1) = ms.take i ++ [k] := by rw [List.take_add_one, hmi]; rfl
    rw [e1, List.map_append, List.map_append]
    exact hV3
  · intro hge
    have hie : i = ms.length := by omega
    subst hie
    rw [List.take_length] at hV2
    have hsort := sort_nums hperm hN.sorted
    obtain ⟨hle, ⟨rfl, hcs⟩ | ⟨b, rfl, hob, hb0⟩⟩ := hV2
    · refine ccall_r none rfl ?_
      rintro _ S3 ⟨rfl, rfl⟩
      have hms : ms = [] := by simpa using hcs
      subst hms
      have hns : ns = [] := hperm.symm.eq_nil
      refine done S ?_ ⟨St.le_refl _, .inl ⟨rfl, by simp [hns]⟩⟩
      exact St.le_trans hV.1 hle
    · refine ccall_r (some (b, ms.map fun n : Nat => (n : Int))) ⟨by simp, hob, by simp; omega⟩ ?_
      rintro _ S3 ⟨rfl, rfl⟩
      have hb00 : S.obj b = none := stle_obj hV.1 hb0
      refine done' ⟨stle_setObj (St.le_trans hV.1 hle) hb00 _, .inr ⟨b, ?_, ?_, hb00⟩⟩
      · have := hperm.length_eq; simp [this]
      · simp only [St.obj_setObj, if_true]; rw [hsort]
end Go.AM
