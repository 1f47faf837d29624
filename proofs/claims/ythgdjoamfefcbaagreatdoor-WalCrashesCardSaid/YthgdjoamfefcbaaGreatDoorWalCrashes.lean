/- WalCrashes: for every size, every script, all arms and all keeps the law answers true, and its arguments read as they did. -/
import Derived.Test.YthgdjoamfefcbaaGreatDoorMF
import Derived.Test.YthgdjoamfefcbaaGreatDoorMG
import Derived.Test.YthgdjoamfefcbaaGreatDoorCards
import Derived.Test.YthgdjoamfefcbaaGreatDoorTie
import Derived.WalkKit
import Derived.ProofKit
import Derived.OpenShut
import Derived.Deep.DeepHandedRow
import Derived.Lay
set_option linter.all false
set_option linter.unusedVariables false
set_option linter.unusedSimpArgs false
set_option linter.unnecessarySimpa false
namespace Go.Proofs.YthgdjoamfefcbaaGreatDoor.walCrashes
open Go Go.AM Go.ChangeShapes Go.WideShapes Go.ChangeAt Go.RowKit

theorem own : ownKnob Tryz.prog.godebug = none := by kernel_rfl
theorem simple : ∀ t ∈ Tryz.f5.params.toList, Simple Tryz.prog 8 t = true := by
  intro t ht
  rw [Tryz.params5] at ht
  have hm : t ∈ [3, 22, 33, 33] := by simpa using ht
  have hall : ([3, 22, 33, 33].all fun u => Simple Tryz.prog 8 u) = true := by kernel_rfl
  exact List.all_eq_true.1 hall t hm
theorem stepT : StepT Tryz.prog 35 3 32 5 33 :=
  ⟨⟨_, _, _, Tryz.underlying35, rfl, rfl, rfl, rfl, rfl, rfl⟩, by kernel_rfl, by kernel_rfl, by kernel_rfl, by kernel_rfl, by kernel_rfl, by kernel_rfl, by kernel_rfl, by kernel_rfl, by kernel_rfl⟩

set_option maxRecDepth 100000 in
theorem contract (H : Type) (enc : TypeId × Value → H) (W : World) (base : Nat) (args : Array Value) (ds gs : List (DataW H)) (before : List MemPlace)
    (hval : ∀ (j : Nat) t v, Tryz.f5.params[j]? = some t → args[j]? = some v → Value.okWide Tryz.prog W .any base t v)
    (hW : DataW.Whole enc Tryz.prog Tryz.f5.params.toList Rows.walCrashesSpec.vars false W args.toList ds gs before) :
    Calls Tryz.prog 5 args W fun e W' => ∃ v, e = .returned v ∧ Rows.walCrashesSpec.post enc Tryz.prog Tryz.f5 false true false false W args v W' := by
  have hW' := hW
  obtain ⟨p, q, hA0, hV, rfl, hfz, hnd⟩ := hW
  have hA : DataW.TrodAll enc Tryz.prog W 0 (fun _ => true) true Tryz.f5.params.toList args.toList ds p := hA0
  rw [Tryz.params5] at hA
  obtain ⟨v0, vs0, d0, ds0, p0, q0, hargs, rfl, rfl, ⟨n0, h0⟩, r0⟩ := trodAll_cons hA
  obtain ⟨v1, vs1, d1, ds1, p1, q1, rfl, rfl, rfl, ⟨n1, h1⟩, r1⟩ := trodAll_cons r0
  obtain ⟨v2, vs2, d2, ds2, p2, q2, rfl, rfl, rfl, ⟨n2, h2⟩, r2⟩ := trodAll_cons r1
  obtain ⟨v3, vs3, d3, ds3, p3, q3, rfl, rfl, rfl, ⟨n3, h3⟩, r3⟩ := trodAll_cons r2
  obtain ⟨rfl, rfl, rfl⟩ := trodAll_nil r3
  obtain ⟨size, hs, _⟩ := open_i (show Tryz.prog.underlying 3 = some (.int .i64) by kernel_rfl) h0
  obtain ⟨ss, o, u, hu, hrel, hlen, hok⟩ := rel_script (show Tryz.prog.underlying 22 = some (.slice 35) by kernel_rfl) stepT h1
  obtain ⟨arms, oa, ua, hua, hrela, _, _⟩ := rel_ints (show Tryz.prog.underlying 33 = some (.slice 3) by kernel_rfl) (show Tryz.prog.underlying 3 = some (.int .i64) by kernel_rfl) (by kernel_rfl) h2
  obtain ⟨ks, ok, uk, huk, hrelk, _, _⟩ := rel_ints (show Tryz.prog.underlying 33 = some (.slice 3) by kernel_rfl) (show Tryz.prog.underlying 3 = some (.int .i64) by kernel_rfl) (by kernel_rfl) h3
  have ea : args = #[v0, v1, v2, v3] := by rw [← Array.toList_inj, hargs]
  rw [Tryz.params5] at hval
  have k0 := hval 0 3 v0 rfl (by rw [ea]; rfl)
  have k1 := hval 1 22 v1 rfl (by rw [ea]; rfl)
  have k2 := hval 2 33 v2 rfl (by rw [ea]; rfl)
  have k3 := hval 3 33 v3 rfl (by rw [ea]; rfl)
  obtain ⟨m, rfl⟩ := okWide_int (show Tryz.prog.underlying 3 = some (.int .i64) by kernel_rfl) k0
  obtain ⟨a, len, cap, rfl⟩ := okWide_slice (show Tryz.prog.underlying 22 = some (.slice 35) by kernel_rfl) k1
  obtain ⟨a2, len2, cap2, rfl⟩ := okWide_slice (show Tryz.prog.underlying 33 = some (.slice 3) by kernel_rfl) k2
  obtain ⟨a3, len3, cap3, rfl⟩ := okWide_slice (show Tryz.prog.underlying 33 = some (.slice 3) by kernel_rfl) k3
  obtain rfl : m = size := by simpa [Value.cells] using hs
  obtain rfl : u = .slice a len cap := by simpa [Value.cells] using hu.symm
  obtain rfl : ua = .slice a2 len2 cap2 := by simpa [Value.cells] using hua.symm
  obtain rfl : uk = .slice a3 len3 cap3 := by simpa [Value.cells] using huk.symm
  refine contract_of (tb := 4) s5 Tryz.underlying4 (by kernel_rfl) rfl ?_ simple hW' [.int .i64 m, scriptV ss o, .slice (arms.map avI) arms.length oa, .slice (ks.map avI) ks.length ok] ?_ ⟨⟨m, ss, o, arms, oa, ks, ok⟩, ⟨rfl, hlen, hok⟩, ?_⟩
  · intro ds hds
    match ds, hds with
    | [a, b, c, d], _ => rfl
  · rw [hargs]
    exact .cons (.int _ _) (.cons hrel (.cons hrela (.cons hrelk .nil)))
  · rintro v S' ⟨rfl, _⟩
    rfl

/-- A world in which the tables lie. -/
noncomputable def laidWorld (os : Os) : World := World.laidAll Tryz.prog os Rows.walCrashesRow.laid
noncomputable abbrev w0args : Array Value := #[.int .i64 0, .slice none 0 0, .slice none 0 0, .slice none 0 0]
theorem laid_met (os : Os) : laidMetH Tryz.prog Rows.walCrashesRow.laid ((laidWorld os).forCall (fun _ _ => 0) ⟨#[], w0args, []⟩).memory := by
  rw [MakeChecks.laidMetH_plain _ _ _ (by kernel_rfl)]
  exact laidMet_laidAll _ (by kernel_rfl) (by kernel_rfl)
theorem reads (os : Os) {H : Type} (enc : TypeId × Value → H) : ∃ places, DataW.whole enc Tryz.prog ((laidWorld os).forCall (fun _ _ => 0) ⟨#[], w0args, []⟩).memory Tryz.f5.params.toList Rows.walCrashesSpec.vars false w0args.toList 8 = some ([.lit (.int .i64 0), .nil, .nil, .nil], [], places) :=
  ⟨[], by kernel_rfl⟩
theorem shaped (os : Os) : ((laidWorld os).forCall (fun _ _ => 0) ⟨#[], w0args, []⟩).Shaped Tryz.prog := World.shaped_of_ZipB (by kernel_rfl) (by kernel_rfl)
set_option maxRecDepth 100000 in
theorem lifted (os : Os) (started : os.Started) (H : Type) (enc : TypeId × Value → H) (F : Stop.Interp) :
    ReturnsInHanded {} Tryz.checked os 5 .any ((OpenSpec.ofChange Rows.walCrashesSpec).preRow enc Tryz.prog Tryz.f5 Rows.walCrashesRow.domain false Rows.walCrashesRow.laid) (((OpenSpec.ofChange Rows.walCrashesSpec).at F).post enc Tryz.prog Tryz.f5 false true false false) := by
  obtain ⟨places, hx⟩ := reads os enc
  refine returnsInHanded_of_row (C := Tryz.checked) (s := OpenSpec.ofChange Rows.walCrashesSpec) own started (by kernel_rfl) Tryz.func5
    ⟨laidWorld os, fun _ _ => 0, ⟨#[], w0args, []⟩, World.laidAll_os _ _ _, shaped os, rfl, (Input.okWide_of_okWideB (by kernel_rfl)).2, OpenSpec.preRow_of_cond 8 hx (by kernel_rfl) (fun k hk => by cases hk) (by kernel_rfl) (laid_met os), by
      simp only [Assume.holds]
      exact ⟨by simp, by simp, fun _ => Modest.zero, by simp, by simp⟩⟩ ?_
  intro W base args ds gs before hval hW _ _ _ _ _ _
  exact contract H enc W base args ds gs before hval hW
theorem said : Rows.WalCrashesSaid :=
  OpenClaim.holds_of_cond 5 Tryz.f5 rfl rfl rfl rfl rfl rfl rfl ⟨rfl, rfl, rfl, rfl, rfl⟩ rfl rfl rfl rfl rfl (by kernel_rfl) Tryz.func5 (by kernel_rfl)
    (of_decide_eq_true (by kernel_rfl)) (by unfold Func.isWrapper; first | (rw [if_pos (by decide +kernel)]; kernel_rfl) | (rw [if_neg (by decide +kernel)]; exact ⟨rfl, rfl⟩))
    (fun os started H enc _ F => by rw [OpenClaim.pre_eq_preRow]; exact lifted os started H enc F)
theorem plain (f : FuncId) (fn : Func) (hf : Tryz.pinned.checked.prog.funcNamed "signet/signetlaw12.WalCrashes" = some f) (hfn : Tryz.pinned.checked.prog.funcs[f]? = some fn) :
    true = Tryz.pinned.checked.prog.looks [] ∧ ∀ (j : Nat) t, fn.params[j]? = some t → Tryz.pinned.checked.prog.wantsStandIn t = false := by
  obtain rfl : f = 5 := Option.some.inj ((show Tryz.prog.funcNamed "signet/signetlaw12.WalCrashes" = some 5 by kernel_rfl).symm.trans hf) |>.symm
  obtain rfl : fn = Tryz.f5 := (Option.some.inj (Tryz.func5.symm.trans hfn)).symm
  refine ⟨by kernel_rfl, fun j t ht => ?_⟩
  rw [Tryz.params5] at ht
  have hm : t ∈ [3, 22, 33, 33] := by simpa using Array.mem_of_getElem? ht
  have hall : ([3, 22, 33, 33].all fun u => !Tryz.prog.wantsStandIn u) = true := by kernel_rfl
  exact (show Tryz.prog.wantsStandIn t = false by simpa using List.all_eq_true.1 hall t hm)
/-- The card. -/
theorem card : Rows.WalCrashesCardSaid :=
  Claim7.holds_tied_plain_at .later [] _ _ _ _ said (fun _ h => by cases h) (by kernel_rfl) (fun _ h => by cases h) walCrashes_row_tie rfl ⟨rfl, rfl⟩ (by kernel_rfl) rfl plain (by kernel_rfl)
end Go.Proofs.YthgdjoamfefcbaaGreatDoor.walCrashes
