/- WalNone: for every name, every size and all bytes the law answers true, and its arguments read as they did. -/
import Derived.Test.YthgdjoamfefcbaaGreatDoorMF
import Derived.Test.YthgdjoamfefcbaaGreatDoorMG
import Derived.Test.YthgdjoamfefcbaaGreatDoorCards
import Derived.Test.YthgdjoamfefcbaaGreatDoorTie
import Derived.WalkKit
import Derived.ProofKit
import Derived.OpenShut
import Derived.Deep.DeepHandedRow
import Derived.Lay
set_option linter.all false
set_option linter.unusedVariables false
set_option linter.unusedSimpArgs false
set_option linter.unnecessarySimpa false
namespace Go.Proofs.YthgdjoamfefcbaaGreatDoor.walNone
open Go Go.AM Go.ChangeShapes Go.WideShapes Go.ChangeAt Go.RowKit

theorem own : ownKnob Tryz.prog.godebug = none := by kernel_rfl
theorem simple : ∀ t ∈ Tryz.f4.params.toList, Simple Tryz.prog 8 t = true := by
  intro t ht
  rw [Tryz.params4] at ht
  have hm : t ∈ [9, 3, 32] := by simpa using ht
  have hall : ([9, 3, 32].all fun u => Simple Tryz.prog 8 u) = true := by kernel_rfl
  exact List.all_eq_true.1 hall t hm
set_option maxRecDepth 100000 in
theorem contract (H : Type) (enc : TypeId × Value → H) (W : World) (base : Nat) (args : Array Value) (ds gs : List (DataW H)) (before : List MemPlace)
    (hval : ∀ (j : Nat) t v, Tryz.f4.params[j]? = some t → args[j]? = some v → Value.okWide Tryz.prog W .any base t v)
    (hW : DataW.Whole enc Tryz.prog Tryz.f4.params.toList Rows.walNoneSpec.vars false W args.toList ds gs before) :
    Calls Tryz.prog 4 args W fun e W' => ∃ v, e = .returned v ∧ Rows.walNoneSpec.post enc Tryz.prog Tryz.f4 false true false false W args v W' := by
  have hW' := hW
  obtain ⟨p, q, hA0, hV, rfl, hfz, hnd⟩ := hW
  have hA : DataW.TrodAll enc Tryz.prog W 0 (fun _ => true) true Tryz.f4.params.toList args.toList ds p := hA0
  rw [Tryz.params4] at hA
  obtain ⟨v0, vs0, d0, ds0, p0, q0, hargs, rfl, rfl, ⟨n0, h0⟩, r0⟩ := trodAll_cons hA
  obtain ⟨v1, vs1, d1, ds1, p1, q1, rfl, rfl, rfl, ⟨n1, h1⟩, r1⟩ := trodAll_cons r0
  obtain ⟨v2, vs2, d2, ds2, p2, q2, rfl, rfl, rfl, ⟨n2, h2⟩, r2⟩ := trodAll_cons r1
  obtain ⟨rfl, rfl, rfl⟩ := trodAll_nil r2
  obtain ⟨b, ob, ub, hub, hrelb, hnb, hlb⟩ := rel_bytes (show Tryz.prog.underlying 32 = some (.slice 5) by kernel_rfl) (show Tryz.prog.underlying 5 = some (.int .u8) by kernel_rfl) (by kernel_rfl) h2
  have ea : args = #[v0, v1, v2] := by rw [← Array.toList_inj, hargs]
  rw [Tryz.params4] at hval
  have k0 := hval 0 9 v0 rfl (by rw [ea]; rfl)
  have k1 := hval 1 3 v1 rfl (by rw [ea]; rfl)
  have k2 := hval 2 32 v2 rfl (by rw [ea]; rfl)
  obtain ⟨s, rfl⟩ := okWide_string (show Tryz.prog.underlying 9 = some .string by kernel_rfl) k0
  obtain ⟨m, rfl⟩ := okWide_int (show Tryz.prog.underlying 3 = some (.int .i64) by kernel_rfl) k1
  obtain ⟨a2, len2, cap2, rfl⟩ := okWide_slice (show Tryz.prog.underlying 32 = some (.slice 5) by kernel_rfl) k2
  obtain rfl : ub = .slice a2 len2 cap2 := by simpa [Value.cells] using hub.symm
  have hs : bstr s.data.toList = s := by simp [bstr]
  refine contract_of (tb := 4) s4 Tryz.underlying4 (by kernel_rfl) rfl ?_ simple hW' [.str s, .int .i64 m, bsl b ob] ?_ ⟨⟨s.data.toList, m, bsl b ob, b⟩, ⟨by rw [hs], .inl ⟨ob, rfl, hnb⟩, hlb⟩, ?_⟩
  · intro ds hds
    match ds, hds with
    | [a, b, c], _ => rfl
  · rw [hargs]
    exact .cons (.str _) (.cons (.int _ _) (.cons hrelb .nil))
  · rintro v S' rfl
    rfl

/-- A world in which the tables lie. -/
noncomputable def laidWorld (os : Os) : World := World.laidAll Tryz.prog os Rows.walNoneRow.laid
noncomputable abbrev w0args : Array Value := #[.string ⟨#[]⟩, .int .i64 0, .slice none 0 0]
theorem laid_met (os : Os) : laidMetH Tryz.prog Rows.walNoneRow.laid ((laidWorld os).forCall (fun _ _ => 0) ⟨#[], w0args, []⟩).memory := by
  rw [MakeChecks.laidMetH_plain _ _ _ (by kernel_rfl)]
  exact laidMet_laidAll _ (by kernel_rfl) (by kernel_rfl)
theorem reads (os : Os) {H : Type} (enc : TypeId × Value → H) : ∃ places, DataW.whole enc Tryz.prog ((laidWorld os).forCall (fun _ _ => 0) ⟨#[], w0args, []⟩).memory Tryz.f4.params.toList Rows.walNoneSpec.vars false w0args.toList 8 = some ([.lit (.string []), .lit (.int .i64 0), .nil], [], places) :=
  ⟨[], by kernel_rfl⟩
theorem shaped (os : Os) : ((laidWorld os).forCall (fun _ _ => 0) ⟨#[], w0args, []⟩).Shaped Tryz.prog := World.shaped_of_ZipB (by kernel_rfl) (by kernel_rfl)
set_option maxRecDepth 100000 in
theorem lifted (os : Os) (started : os.Started) (H : Type) (enc : TypeId × Value → H) (F : Stop.Interp) :
    ReturnsInHanded {} Tryz.checked os 4 .any ((OpenSpec.ofChange Rows.walNoneSpec).preRow enc Tryz.prog Tryz.f4 Rows.walNoneRow.domain false Rows.walNoneRow.laid) (((OpenSpec.ofChange Rows.walNoneSpec).at F).post enc Tryz.prog Tryz.f4 false true false false) := by
  obtain ⟨places, hx⟩ := reads os enc
  refine returnsInHanded_of_row (C := Tryz.checked) (s := OpenSpec.ofChange Rows.walNoneSpec) own started (by kernel_rfl) Tryz.func4
    ⟨laidWorld os, fun _ _ => 0, ⟨#[], w0args, []⟩, World.laidAll_os _ _ _, shaped os, rfl, (Input.okWide_of_okWideB (by kernel_rfl)).2, OpenSpec.preRow_of_cond 8 hx (by kernel_rfl) (fun k hk => by cases hk) (by kernel_rfl) (laid_met os), by
      simp only [Assume.holds]
      exact ⟨by simp, by simp, fun _ => Modest.zero, by simp, by simp⟩⟩ ?_
  intro W base args ds gs before hval hW _ _ _ _ _ _
  exact contract H enc W base args ds gs before hval hW
theorem said : Rows.WalNoneSaid :=
  OpenClaim.holds_of_cond 4 Tryz.f4 rfl rfl rfl rfl rfl rfl rfl ⟨rfl, rfl, rfl, rfl, rfl⟩ rfl rfl rfl rfl rfl (by kernel_rfl) Tryz.func4 (by kernel_rfl)
    (of_decide_eq_true (by kernel_rfl)) (by unfold Func.isWrapper; first | (rw [if_pos (by decide +kernel)]; kernel_rfl) | (rw [if_neg (by decide +kernel)]; exact ⟨rfl, rfl⟩))
    (fun os started H enc _ F => by rw [OpenClaim.pre_eq_preRow]; exact lifted os started H enc F)
theorem plain (f : FuncId) (fn : Func) (hf : Tryz.pinned.checked.prog.funcNamed "signet/signetlaw12.WalNone" = some f) (hfn : Tryz.pinned.checked.prog.funcs[f]? = some fn) :
    true = Tryz.pinned.checked.prog.looks [] ∧ ∀ (j : Nat) t, fn.params[j]? = some t → Tryz.pinned.checked.prog.wantsStandIn t = false := by
  obtain rfl : f = 4 := Option.some.inj ((show Tryz.prog.funcNamed "signet/signetlaw12.WalNone" = some 4 by kernel_rfl).symm.trans hf) |>.symm
  obtain rfl : fn = Tryz.f4 := (Option.some.inj (Tryz.func4.symm.trans hfn)).symm
  refine ⟨by kernel_rfl, fun j t ht => ?_⟩
  rw [Tryz.params4] at ht
  have hm : t ∈ [9, 3, 32] := by simpa using Array.mem_of_getElem? ht
  have hall : ([9, 3, 32].all fun u => !Tryz.prog.wantsStandIn u) = true := by kernel_rfl
  exact (show Tryz.prog.wantsStandIn t = false by simpa using List.all_eq_true.1 hall t hm)
/-- The card. -/
theorem card : Rows.WalNoneCardSaid :=
  Claim7.holds_tied_plain_at .later [] _ _ _ _ said (fun _ h => by cases h) (by kernel_rfl) (fun _ h => by cases h) walNone_row_tie rfl ⟨rfl, rfl⟩ (by kernel_rfl) rfl plain (by kernel_rfl)
end Go.Proofs.YthgdjoamfefcbaaGreatDoor.walNone
