/- Own texts E14, E15, E16, E17, E18 of this claim, joined. -/
import Derived.Test.YthgdjoamfefcbaaGreatDoorME
import Derived.Test.YthgdjoamfefcbaaGreatDoorMB6
set_option linter.all false
set_option linter.unusedVariables false
set_option linter.unusedSimpArgs false
set_option linter.unnecessarySimpa false
/-
  WalCrashes: arming; what is at the end: opened, crashed, opened.
-/
namespace Go.AM
open Go
set_option maxRecDepth 20000
variable {R R' S S' S0 : St} {p w x q : Nat} {W W' : WalS} {D D' : DS} {name : List UInt8} {K E : AV → St → Prop} {l c : LogR} {most : Int} {N U : Nat} {base : List UInt8} {rs : List (List UInt8)}

theorem call_arm (h : DkAt R S p name D) (hd : D.down = false) (n : Nat) (hn : n ≤ 1000) (k : ∀ S', DkAt R S' p name { D with armed := true, left := n } → K (.tuple []) S') : ccall Sp20 [.ptr (some (p, 0)), .int .i64 n] S K E := by
  obtain ⟨P, h1, h2⟩ := h
  refine ccall_r (R, p, P, (n : Int)) ⟨rfl, h1⟩ ?_
  rintro _ S' ⟨rfl, h3⟩
  refine k S' ⟨_, h3, ?_⟩
  have e : P.arm n = { P with armed := true, left := (n : Int) } := by
    unfold PlateS.arm
    rw [h2.down, hd]
    simp
    omega
  rw [e]
  exact ⟨h2.nm, ⟨h2.wf.names, h2.wf.used, h2.wf.cap, h2.wf.room, ⟨by simp, by show (n : Int) ≤ _; omega⟩, h2.wf.safe⟩, ⟨h2.has.perm, h2.has.sorted, h2.has.small, h2.has.full⟩, h2.room, rfl, rfl, h2.down⟩
theorem rem_of (n : Int) (m : Nat) (hm : 0 < m) (hm2 : m ≤ 1000) : ∃ r : Nat, r < m ∧ xbini .rem (.int .u64 (IntKind.u64.wrap n)) (.int .u64 m) = some (.int .u64 (r : Nat)) := by
  have h := IntKind.wrap_u64 n
  have h1 : 0 ≤ IntKind.u64.wrap n := by omega
  refine ⟨((IntKind.u64.wrap n).tmod m).toNat, ?_, ?_⟩
  · rw [Int.tmod_eq_emod_of_nonneg h1]
    have := Int.emod_lt_of_pos (IntKind.u64.wrap n) (show (0 : Int) < m by omega)
    have := Int.emod_nonneg (IntKind.u64.wrap n) (show (m : Int) ≠ 0 by omega)
    omega
  · have : 0 ≤ (IntKind.u64.wrap n).tmod m := Int.tmod_nonneg _ h1
    have hm0 : ¬ ((m : Nat) : Int) = 0 := by omega
    have e : xbini .rem (.int .u64 (IntKind.u64.wrap n)) (.int .u64 m) = if ((m : Nat) : Int) = 0 then none else some (.int .u64 ((IntKind.u64.wrap n).tmod m)) := by simp [xbini, xint]
    rw [e, if_neg hm0]
    congr 2
    omega

theorem Rest.bounds {P : PlateS} (h : Rest D.fl base rs) (hp : Rp name P D) : rs.length ≤ 268435456 ∧ (∀ r ∈ rs, r.length ≤ 60000) ∧ base.length ≤ 60000 := by
  obtain ⟨gs, a, ini, la, xs, hsh, rfl⟩ := h
  refine ⟨hp.few hsh.fl, ?_, hsh.base⟩
  intro r hr
  obtain ⟨c, hc, hrc⟩ := List.mem_flatMap.1 hr
  exact hsh.recs c hc r hrc
/-- The end. -/
theorem j43_ok {isb : Bool} {o1 o2 o3 : Own} (hS0 : S0.le R) (hx : R.obj x = some (.cells (playC p w [119] most l o1 o2))) (hq : R.obj q = some (.cells (LogV c o3 .nil))) (hl : LogOk l o1 o2) (hc : LogOk c o3 .nil) (hm1 : 1 ≤ most) (hm2 : most ≤ 1048576)
    (hD : DkAt R S p [119] D) (hst : Still D base rs N U) (hall : AllS D.fl) (harm : D.armed = false) (hal : allowed l base rs = true ∨ (isb = true ∧ allowed c base rs = true)) :
    J5_43P Sp6 Sp7 Sp8 Sp9 Sp11 Sp12 Sp13 Sp14 Sp18 Sp20 Sp21 Sp22 Sp23 Sp24 Sp25 Sp26 Sp27 (.ptr (some (p, 0))) (.ptr (some (x, 0))) (.ptr (some (q, 0))) (.bool isb) S (Done (fun v S' => v = .bool true ∧ S' = S0)) := by
  unfold J5_43P
  have z0 : ((0 : Nat) : Int) = 0 := rfl
  have hxS := hD.rle.1 _ _ hx
  simp only [playC] at hxS
  simp only [ob_s, List.drop, List.getElem?_cons_zero, List.getElem?_cons_succ, Nat.zero_add, k_faddr_p, k_load_p, k_nilck_p, k_get1, k_getn, hxS]
  obtain ⟨gs, a, ini, la, xs, hsh, hrs⟩ := hst.rest
  have hbnd : rs.length ≤ 268435456 ∧ (∀ r ∈ rs, r.length ≤ 60000) ∧ base.length ≤ 60000 := let ⟨_, _, hp⟩ := hD; hst.rest.bounds hp
  have hsm : ∀ f ∈ D.fl, 0 < f.n ∧ f.n < 100 := let ⟨_, _, hp⟩ := hD; hp.has.small
  refine ccall_r (XOp.shape R p D [119] most gs a base ini la xs) ⟨rfl, hD, hm1, hm2, hst.down, hsh⟩ ?_
  rintro v S1 (⟨w1, ow, D1, rfl, h1, h2⟩ | ⟨_, _, _, _, _, _, h3, _⟩)
  rotate_left
  · rw [h3.was] at harm; cases harm
  obtain ⟨hlive, hall1⟩ := opened (name := [119]) (most := most) hsh (fun f hf => ⟨(hsm f hf).1, hst.num f hf⟩) hst.used h2
  rw [← hrs] at h1 hlive ⊢
  have hx1 := h1.rle.1 _ _ hx
  have hq1 := h1.rle.1 _ _ hq
  simp only [playC] at hx1
  simp only [LogV] at hq1
  simp only [ob_s, gv_ff, pick_f, List.length, List.take, List.drop, List.take_succ_cons, List.getElem?_cons_zero, List.getElem?_cons_succ, if_false, if_pos, Bool.not_false, eq_self, ne_eq, not_true, Nat.zero_add, Nat.reduceAdd, Nat.le_refl, Option.isNone_some, Bool.false_eq_true, decide_false, k_extract, k_faddr_p, k_isnil, k_load_p, k_neq, k_nilck_p, k_nilp_p, k_getn, z0, hx1, gif]
  refine ccall_r (l, o1, o2, base, Own.ro, rs, ow) ⟨rfl, hl, (fun h => nomatch h), (show base.length ≤ 1073741824 by omega), (show rs.length ≤ 1073741824 by omega), fun r hr => by have := hbnd.2.1 r hr; omega⟩ ?_
  rintro _ S2 ⟨rfl, rfl⟩
  dsimp only
  have fin : ccall Sp25 [.ptr (some (p, 0)), .slice [] 0 .nil] S2 (fun t242 S_4 =>
            obind (xnilck (.ptr (some (x, 0)))) fun t246 =>
            obind (xfaddr 3 t246) fun t247 =>
            obind (xload false 1 t247 S_4) fun t248 =>
            ccall Sp11 [.ptr (some (p, 0)), (.str ⟨#[119]⟩), t248] S_4 (fun t249 S_5 =>
              obind (xextract t249 0) fun t250 =>
              obind (xextract t249 1) fun t251 =>
              obind (xextract t249 2) fun t252 =>
              obind (xextract t249 3) fun t253 =>
              obind (xbini .eql t253 (.int .i64 0)) fun t255 =>
              obind (gv t255 true (some (bsl base .ro))) fun t257 =>
              obind (gv t255 true (some t251)) fun t258 =>
              gif t255 true (fun k => ccall Sp18 [t257, t258] S_5 k (fun v S' => Done (fun v S' => v = .bool true ∧ S' = S0) (.pan v) S')) S_5 fun t259 S_6 =>
                obind (xpick t255 t259 (.bool false)) fun t260 =>
                obind (gv t260 true (some (.slice (recCells rs) rs.length ow))) fun t262 =>
                obind (gv t260 true (some t252)) fun t263 =>
                gif t260 true (fun k => ccall Sp27 [t262, t263] S_6 k (fun v S' => Done (fun v S' => v = .bool true ∧ S' = S0) (.pan v) S')) S_6 fun t264 S_7 =>
                  obind (xpick t260 t264 (.bool false)) fun t265 =>
                  Done (fun v S' => v = .bool true ∧ S' = S0) (.ret t265) S_7) (fun v S' => Done (fun v S' => v = .bool true ∧ S' = S0) (.pan v) S')) (fun v S' => Done (fun v S' => v = .bool true ∧ S' = S0) (.pan v) S') := by
    refine call_crash h1.dk ([] : List Int) .nil ?_
    intro S3 D2 hcr m1
    have hfull : ∀ f ∈ D1.fl, f.d ≠ [] := h1.full
    have hfl2 := crash_id hall1 hfull hcr
    have m2 : WkAt R S3 w1 p _ D2 := ⟨h1.1, m1⟩
    have hrest2 : Rest D2.fl base rs := by rw [hfl2]; exact hlive.rest
    have hx3 := m2.rle.1 _ _ hx
    simp only [playC] at hx3
    simp only [ob_s, List.getElem?_cons_zero, List.getElem?_cons_succ, Nat.zero_add, k_faddr_p, k_load_p, k_nilck_p, k_get1, hx3]
    obtain ⟨gs2, a2, ini2, la2, xs2, hsh2, hrs2⟩ := hrest2
    refine ccall_r (XOp.shape R p D2 [119] most gs2 a2 base ini2 la2 xs2) ⟨rfl, m2.plate, hm1, hm2, hcr.down, hsh2⟩ ?_
    rintro v S4 (⟨w2, ow2, D3, rfl, g1, g2⟩ | ⟨_, _, _, _, _, _, g3, _⟩)
    rotate_left
    · have := g3.was; rw [hcr.armed] at this; cases this
    rw [← hrs2]
    simp only [ob_s, gv_tt, gv_n, pick_t, List.getElem?_cons_zero, List.getElem?_cons_succ, if_pos, eq_self, decide_true, k_eql, k_extract, z0, gif]
    refine ccall_r (_, _, base, base) ⟨rfl, .inl ⟨.ro, rfl, fun h => nomatch h⟩, .inl ⟨.ro, rfl, fun h => nomatch h⟩, (show base.length ≤ 1073741824 by omega), (show base.length ≤ 1073741824 by omega)⟩ ?_
    rintro _ S5 ⟨rfl, rfl⟩
    simp only [ob_s, gv_tt, pick_t, if_pos, eq_self, decide_true]
    refine ccall_r (rs, rs.map (fun r => (r, Own.ro)), ow, ow2) ⟨by rw [recO_ro, List.length_map], (show rs.length ≤ 1073741824 by omega), (show (rs.map (fun r => (r, Own.ro))).length ≤ 1073741824 by rw [List.length_map]; omega), fun r hr => by have := hbnd.2.1 r hr; omega, fun r hr => ?_⟩ ?_
    · obtain ⟨r', hr', rfl⟩ := List.mem_map.1 hr
      have := hbnd.2.1 r' hr'
      exact ⟨by dsimp only; omega, fun h => nomatch h⟩
    rintro _ S6 ⟨rfl, rfl⟩
    have e : (rs.map (fun r => (r, Own.ro))).map (·.1) = rs := by rw [List.map_map]; exact List.map_id _
    dsimp only
    rw [e]
    simp only [eq_self, decide_true]
    exact done S0 (St.le_trans hS0 g1.rle) ⟨rfl, rfl⟩
  cases hb : allowed l base rs
  · obtain ⟨rfl, hal2⟩ := hal.resolve_left (by rw [hb]; simp)
    simp only [ob_s, gv_tt, pick_t, List.length, List.take, if_pos, Bool.not_false, eq_self, Nat.zero_add, Nat.reduceAdd, Nat.le_refl, k_not, hq1]
    refine ccall_r (c, o3, .nil, base, Own.ro, rs, ow) ⟨rfl, hc, (fun h => nomatch h), (show base.length ≤ 1073741824 by omega), (show rs.length ≤ 1073741824 by omega), fun r hr => by have := hbnd.2.1 r hr; omega⟩ ?_
    rintro _ S3 ⟨rfl, rfl⟩
    dsimp only
    rw [hal2]
    simp only [ob_s, as_f, Bool.not_true, k_not]
    exact fin
  · simp only [ob_s, as_f, gv_ft, gv_n, pick_f, Bool.not_true, k_not]
    exact fin
end Go.AM
/-
  WalCrashes: the crash behind the calls; behind a call.
-/
namespace Go.AM
open Go
set_option maxRecDepth 20000
variable {R R' S S' S0 : St} {p w x q : Nat} {W W' : WalS} {D D' : DS} {name : List UInt8} {E : AV → St → Prop} {l c : LogR} {most : Int} {N U : Nat} {base : List UInt8} {rs : List (List UInt8)}

/-- Whatever a crash keeps, a log rests there that may be. -/
def Ends (D : DS) (l : LogR) (isb : Bool) (c : LogR) : Prop := ∀ ks D', Crashed ks D D' → ∃ base rs, Rest D'.fl base rs ∧ (allowed l base rs = true ∨ (isb = true ∧ allowed c base rs = true))
theorem allowed_take {l : LogR} {j : Nat} (h1 : l.safe ≤ j) (h2 : j ≤ l.rs.length) : allowed l l.base (l.rs.take j) = true := by
  have hl : (l.rs.take j).length = j := by rw [List.length_take]; omega
  simp only [allowed, hl, decide_true, Bool.true_and, Bool.and_eq_true, decide_eq_true_eq]
  exact ⟨h1, h2, trivial⟩
theorem DkAt.still (h : DkAt R S p name D) (hr : Rest D.fl base rs) (hd : D.down = false) : Still D base rs 99 D.used := by
  obtain ⟨P, _, hp⟩ := h
  exact ⟨hr, fun f hf => by have := (hp.has.small f hf).2; omega, Nat.le_refl _, hd⟩
theorem int_at {l : List Int} {o : Own} {i : Nat} (hi : i < l.length) : xiaddr 1 (.slice (l.map avI) l.length o) (.int .i64 i) = some (.ref (((l.map avI).drop i).take 1)) ∧ (l.map avI)[i]? = some (.int .i64 l[i]) := by
  refine ⟨?_, by simp [List.getElem?_eq_getElem hi, avI]⟩
  rw [k_iaddr_s _ _ _ _ _ _ ⟨by omega, by omega⟩, Int.toNat_natCast, Nat.mul_one]
theorem j38_ok {u64 : AV} {isb : Bool} {o1 o2 o3 oa ok : Own} {arms ks : List Int} (hS0 : S0.le R) (hx : R.obj x = some (.cells (playC p w [119] most l o1 o2))) (hq : R.obj q = some (.cells (LogV c o3 .nil))) (hl : LogOk l o1 o2) (hc : LogOk c o3 .nil) (hm1 : 1 ≤ most) (hm2 : most ≤ 1048576)
    (hD : DkAt R S p [119] D) (hends : Ends D l isb c) :
    J5_38P Sp6 Sp7 Sp8 Sp9 Sp11 Sp12 Sp13 Sp14 Sp18 Sp20 Sp21 Sp22 Sp23 Sp24 Sp25 Sp26 Sp27 (.slice (arms.map avI) arms.length oa) (.slice (ks.map avI) ks.length ok) (.ptr (some (p, 0))) (.ptr (some (x, 0))) (.ptr (some (q, 0))) (.bool isb) u64 S (Done (fun v S' => v = .bool true ∧ S' = S0)) := by
  unfold J5_38P
  refine call_crash hD ks ok ?_
  intro S1 D1 hcr h1
  obtain ⟨base, rs, hrest, hal⟩ := hends ks D1 hcr
  have hst := h1.still hrest hcr.down
  have hall := hcr.allS
  simp only [ob_s, Nat.zero_add, k_faddr_p, k_gtr, k_len_s, k_load_p, k_nilck_p, k_get1]
  refine asplit_of _ ?_ ?_
  · intro hgt
    have h1l : 1 < arms.length := by omega
    obtain ⟨a1, a2⟩ := int_at (o := oa) h1l
    have a1' : xiaddr 1 (.slice (arms.map avI) arms.length oa) (.int .i64 1) = some (.ref (((arms.map avI).drop 1).take 1)) := a1
    obtain ⟨r, hr1, hr2⟩ := rem_of arms[1] 20 (by omega) (by omega)
    have hr2' : xbini .rem (.int .u64 (IntKind.u64.wrap arms[1])) (.int .u64 20) = some (.int .u64 (r : Nat)) := hr2
    have w1 : IntKind.i64.wrap ((r : Nat) : Int) = (r : Nat) := IntWalk.i64_in _ (by omega)
    have hxS := h1.rle.1 _ _ hx
    simp only [playC] at hxS
    simp only [ob_s, k_conv, k_load_r, k_d0, k_t0, k_get1, a1', a2, hr2', w1]
    refine call_arm h1 hcr.down r (by omega) ?_
    intro S2 h2
    have hx2 := h2.rle.1 _ _ hx
    simp only [playC] at hx2
    simp only [ob_s, List.getElem?_cons_zero, List.getElem?_cons_succ, hx2]
    obtain ⟨gs, a, ini, la, xs, hsh, hrs⟩ := hrest
    have hsm : ∀ f ∈ D1.fl, 0 < f.n ∧ f.n < 100 := let ⟨_, _, hp⟩ := h1; hp.has.small
    refine ccall_r (XOp.shape R p { D1 with armed := true, left := r } [119] most gs a base ini la xs) ⟨rfl, h2, hm1, hm2, hcr.down, hsh⟩ ?_
    intro v S3 hpost
    have key : ∃ D3, DkAt R S3 p [119] D3 ∧ Rest D3.fl base rs ∧ AllS D3.fl := by
      rcases hpost with ⟨w1, ow, D3, _, g1, g2⟩ | ⟨D3, gs', la', xs', _, g1, g2, g3, g4, g5⟩
      · obtain ⟨hlive, hall3⟩ := opened (D := { D1 with armed := true, left := r }) (name := [119]) (most := most) (N := 99) (U := D1.used) hsh (fun f hf => by have := hsm f hf; omega) (Nat.le_refl _) g2
        exact ⟨D3, g1.plate, by rw [hrs]; exact hlive.rest, hall3⟩
      · obtain ⟨h5, h6⟩ := open_failed (D := { D1 with armed := true, left := r }) hsh g2 g3 g4 g5
        exact ⟨D3, g1, by rw [hrs]; exact h5, h6 hall⟩
    obtain ⟨D3, h3, hr3, ha3⟩ := key
    refine call_crash h3 ks ok ?_
    intro S4 D4 hcr4 h4
    have hfull : ∀ f ∈ D3.fl, f.d ≠ [] := let ⟨_, _, hp⟩ := h3; hp.has.full
    have hr4 : Rest D4.fl base rs := by rw [crash_id ha3 hfull hcr4]; exact hr3
    exact j43_ok hS0 hx hq hl hc hm1 hm2 h4 (h4.still hr4 hcr4.down) hcr4.allS hcr4.armed hal
  · intro hle
    exact j43_ok hS0 hx hq hl hc hm1 hm2 h1 hst hall hcr.armed hal
theorem t5_ok {e i : Nat} {isv : AV} {o1 o2 : Own} {rec : List AV → St → Prop} {K : En → St → Prop} (h : WkAt R S w p W D) (hx : S.obj x = some (.cells (playC p w name most l o1 o2))) (hi : i ≤ 60) (he : e = 9 → D.down = true ∧ W.dead = true)
    (k : rec [isv, .int .i64 (i + 1 : Nat)] S) : J5_36P Sp6 Sp7 Sp8 Sp9 Sp11 Sp12 Sp13 Sp14 Sp18 Sp20 Sp21 Sp22 Sp23 Sp24 Sp25 Sp26 Sp27 rec (.ptr (some (p, 0))) (.ptr (some (x, 0))) isv (.int .i64 i) (.int .i64 e) S K := by
  unfold J5_36P
  have w1 : IntKind.i64.wrap ((i : Int) + 1) = ((i + 1 : Nat) : Int) := by rw [IntWalk.i64_in _ (by omega)]; omega
  simp only [playC] at hx
  by_cases h9 : e = 9
  · subst h9
    obtain ⟨hd, hdead⟩ := he rfl
    have z9 : ((9 : Nat) : Int) = 9 := rfl
    simp only [ob_s, gv_tt, pick_t, if_pos, eq_self, decide_true, k_add, k_eql, z9, gif]
    have h' := h
    obtain ⟨_, P, hP, hrp⟩ := h'
    refine ccall_r (_, p, P) ⟨rfl, hP⟩ ?_
    rintro _ S1 ⟨rfl, rfl⟩
    dsimp only
    rw [hrp.down, hd]
    simp only [ob_s, gv_ff, pick_f, List.getElem?_cons_zero, List.getElem?_cons_succ, if_pos, Bool.not_true, eq_self, Nat.zero_add, k_faddr_p, k_load_p, k_nilck_p, k_not, k_get1, hx]
    refine ccall_r (R, w, p, W, D) ⟨rfl, h, .inl hdead⟩ ?_
    intro v S2 hpost
    dsimp only at hpost
    rw [if_pos hdead] at hpost
    obtain ⟨rfl, rfl⟩ := hpost
    simp only [ob_s, as_f, eq_self, ne_eq, not_true, decide_false, k_neq, w1]
    exact ⟨_, St.le_refl _, k⟩
  · have n9 : ¬ ((e : Int) = 9) := by omega
    simp only [ob_s, as_f, gv_ft, gv_n, pick_f, if_false, Bool.false_eq_true, decide_false, k_add, k_eql, n9, gif, w1]
    exact ⟨_, St.le_refl _, k⟩
end Go.AM
/-
  WalCrashes: the calls.
-/
namespace Go.AM
open Go
set_option maxRecDepth 20000
variable {R R' S S' S0 : St} {p w x q b : Nat} {W W' : WalS} {D D' D1 : DS} {name : List UInt8} {l c : LogR} {most : Int} {N U : Nat}

theorem Lost.ends {r : List UInt8} {isb : Bool} {ext : Bool} (h : Lost D D' l) : Ends D' { l with rs := if ext then l.rs ++ [r] else l.rs } isb c := by
  intro ks D2 hc
  obtain ⟨j, h1, h2, h3⟩ := lost_crash h hc
  refine ⟨_, _, h3, .inl ?_⟩
  have e : l.rs.take j = (if ext then l.rs ++ [r] else l.rs).take j := by
    split
    · rw [List.take_append_of_le_length h2]
    · rfl
  rw [e]
  refine allowed_take (l := { l with rs := if ext then l.rs ++ [r] else l.rs }) h1 ?_
  dsimp only
  split
  · simp; omega
  · exact h2
theorem Live.ends {isb : Bool} (h : Live D W l N U) : Ends D l isb c := by
  intro ks D2 hc
  obtain ⟨j, h1, h2, h3, _⟩ := live_crash h hc
  exact ⟨_, _, h3.rest, .inl (allowed_take h1 h2)⟩
theorem Broke.ends {bb : List UInt8} (h : Broke D D' l bb) (hb : bb.length ≤ 60000) : Ends D' l true ⟨bb, [], 0⟩ := by
  intro ks D2 hc
  rcases broke_crash h hb hc with ⟨j, h1, h2, h3⟩ | h3
  · exact ⟨_, _, h3, .inl (allowed_take h1 h2)⟩
  · exact ⟨_, _, h3, .inr ⟨rfl, by simp [allowed]⟩⟩
/-- A play beside what a checkpoint was cut off with. -/
theorem PlayAt.setq {cq cq' : AObj} (hqx : q ≠ x) (h : PlayAt (R.setObj q cq) S x p w most l W D) : PlayAt (R.setObj q cq') (S.setObj q cq') x p w most l W D := by
  obtain ⟨h1, o1, o2, h2, h3⟩ := h
  have hxq : x ≠ q := fun h => hqx h.symm
  refine ⟨by simpa [hxq] using h1, o1, o2, h2, ?_⟩
  rw [setObj_comm _ hqx] at h3 ⊢
  exact h3.both _
theorem xalloc_i {cs : List AV} {S : St} {K : AV → St → Prop} (k : ∀ b, S.obj b = none → S.tok b = none → K (.ptr (some (b, 0))) (S.setObj b (.cells cs))) : xalloc cs S K := k
@[congr] theorem xalloc_congr {a b : List AV} {S : St} {K : AV → St → Prop} (h : a = b) : xalloc a S K = xalloc b S K := by rw [h]
@[congr] theorem aloop_congr {B : (List AV → St → Prop) → List AV → St → Prop} {a b : List AV} {S : St} (h : a = b) : aloop B a S = aloop B b S := by rw [h]
theorem xstore_new {S : St} {b n : Nat} {zero vs : List AV} {K : AV → St → Prop} (hz : zero.length = vs.length) (hok : vs.all AV.ok1 = true) (hn : vs.length = n) (k : ∀ S6, S6 = S.setObj b (.cells vs) → K (.tuple []) S6) : xstore n (.ptr (some (b, 0))) (.agg vs) (S.setObj b (.cells zero)) K := by
  unfold xstore
  simp only [St.obj_setObj, if_true, k_cells_a, ob_s]
  refine ⟨hn, hok, by omega, ?_⟩
  rw [setObj_setObj, setList_all _ _ hz.symm]
  exact k _ rfl
/-- The state ahead of a call. -/
structure CrInv (R : St) (q x p : Nat) (most : Int) (ss : List StepS) (lo : List AV) (S : St) (i : Nat) : Prop where
  ex : ∃ (w : Nat) (l c : LogR) (o3 : Own) (W : WalS) (D : DS) (N U : Nat) (isb : Bool), lo = [.bool isb, .int .i64 (i : Nat)] ∧ PlayAt (R.setObj q (.cells (LogV c o3 .nil))) S x p w most l W D ∧ W.name = [119] ∧ LogOk c o3 .nil ∧ l.rs.length ≤ 1 + i ∧
    ((D.down = false ∧ isb = false ∧ Live D W l N U ∧ N = 1 + i ∧ U = 14 + costs ss i ∧ D.room = 16777216) ∨ (D.down = true ∧ Ends D l isb c))
end Go.AM
/-
  WalCrashes: the calls, walked.
-/
namespace Go.AM
open Go
set_option maxRecDepth 20000

theorem j9_ok {R S S0 : St} {x p w : Nat} {m : Int} {W : WalS} {D : DS} {ss : List StepS} {os oa ok : Own} {arms ks : List Int} (hS0 : S0.le R) (h : PlayAt R S x p w m ⟨[], [], 0⟩ W D) (hname : W.name = [119]) (hm1 : 1 ≤ m) (hm2 : m ≤ 2000) (hlive : Live D W ⟨[], [], 0⟩ 1 14) (hroom : D.room = 16777216)
    (hl : ss.length ≤ 9223372036854775807) (hok : ∀ s ∈ ss, s.Ok) (hbulk : bulkN ss ≤ 1048576) :
    J5_9P Sp6 Sp7 Sp8 Sp9 Sp11 Sp12 Sp13 Sp14 Sp18 Sp20 Sp21 Sp22 Sp23 Sp24 Sp25 Sp26 Sp27 (scriptV ss os) (.slice (arms.map avI) arms.length oa) (.slice (ks.map avI) ks.length ok) (.ptr (some (p, 0))) (.ptr (some (x, 0))) S (Done (fun v S' => v = .bool true ∧ S' = S0)) := by
  unfold J5_9P
  have hlen : xlen (scriptV ss os) = some (.int .i64 ss.length) := rfl
  simp only [ob_s, g, xbuild, xfill, Option.map_some, List.length, and_true, Nat.zero_add, Nat.reduceAdd, Nat.reduceLeDiff, k_faddr_p, k_load_p, k_nilck_p, k_store_p, k_get1, k_getn]
  refine xalloc_i ?_
  intro q hq ht
  simp only [ob_s, setList, List.set, List.length, List.all, St.obj_setObj, if_pos, true_and, Bool.and_self, eq_self, Nat.zero_add, Nat.reduceAdd, Nat.le_refl, k_cells_a, k_ok_i, k_ok_sl, k_store_p, setObj_setObj]
  have h0 := h.frame (o := .cells (LogV ⟨[], [], 0⟩ .nil .nil)) hq
  have hq0 : LogOk ⟨[], [], 0⟩ .nil .nil := ⟨fun _ => rfl, fun _ => rfl, by simp, by simp, by simp, by simp⟩
  have hRq : R.obj q = none := stle_obj h.rle hq
  have hqx : q ≠ x := by
    rintro rfl
    obtain ⟨_, _, _, _, h3⟩ := h
    have := h3.rle.1 q _ (by simp; rfl)
    rw [hq] at this; cases this
  have hxq : x ≠ q := fun h => hqx h.symm
  refine aloop_inv (fun n lo S' => ∃ i, n = 60 - i ∧ i ≤ 60 ∧ i ≤ ss.length ∧ CrInv R q x p m ss lo S' i) 60 ⟨0, rfl, by omega, by omega, ⟨w, ⟨[], [], 0⟩, ⟨[], [], 0⟩, .nil, W, D, 1, 14, false, rfl, h0, hname, hq0, by simp, .inl ⟨hlive.down, rfl, hlive, rfl, by simp [costs], hroom⟩⟩⟩ ?_
  clear h0 hname hlive hroom hq ht h W D w
  rintro n _ S1 ⟨i, rfl, hi60, hil, ⟨w, l, c, o3, W, D, N, U, isb, rfl, hplay, hname, hc, hlr, hst⟩⟩ rec hrec
  obtain ⟨hRx, o1, o2, hlog, hwk⟩ := hplay
  have hrleR : R.le ((R.setObj q (.cells (LogV c o3 .nil))).setObj x (.cells (playC p w W.name m l o1 o2))) := stle_setObj (stle_setObj (St.le_refl _) hRq _) (by simpa [hxq] using hRx) _
  have hends : Ends D l isb c := by
    rcases hst with ⟨_, rfl, hlv, _⟩ | ⟨_, he⟩
    · exact hlv.ends
    · exact he
  have hjend : ∀ u64 : AV, J5_38P Sp6 Sp7 Sp8 Sp9 Sp11 Sp12 Sp13 Sp14 Sp18 Sp20 Sp21 Sp22 Sp23 Sp24 Sp25 Sp26 Sp27 (.slice (arms.map avI) arms.length oa) (.slice (ks.map avI) ks.length ok) (.ptr (some (p, 0))) (.ptr (some (x, 0))) (.ptr (some (q, 0))) (.bool isb) u64 S1 (Done (fun v S' => v = .bool true ∧ S' = S0)) := by
    intros
    have hD := hwk.plate
    rw [hname] at hD
    rw [hname] at hrleR
    exact j38_ok (w := w) (St.le_trans hS0 hrleR) (by simp) (by simp [hqx]) hlog hc hm1 (by omega) hD hends
  by_cases c1 : i < ss.length
  · have c1' : ((i : Nat) : Int) < ((ss.length : Nat) : Int) := by omega
    by_cases c2 : i < 60
    · have c2' : ((i : Nat) : Int) < 60 := by omega
      simp only [ob_s, gv_tt, pick_t, List.getD_cons_zero, List.getD_cons_succ, St.obj_setObj, if_pos, eq_self, decide_true, k_lss, hlen, c1', c2', gif]
      have hwk' := hwk
      obtain ⟨_, P, hP, hrp⟩ := hwk'
      refine ccall_r (_, p, P) ⟨rfl, hP⟩ ?_
      rintro _ S2 ⟨rfl, rfl⟩
      dsimp only
      rw [hrp.down]
      rcases hst with ⟨hd, rfl, hlv, hN, hU, hroom⟩ | ⟨hd, he⟩
      · rw [hd]
        have hs : ss[i]? = some ss[i] := List.getElem?_eq_getElem c1
        have hat := script_at os hs
        have hso := hok _ (List.getElem_mem c1)
        have hcs := costs_succ c1
        have hcl := costs_le ss (i + 1) (by omega)
        generalize hsi : ss[i] = s at hat hso hcs
        have hback1 : ∀ S' w' l' W' D', PlayAt (R.setObj q (.cells (LogV c o3 .nil))) S' x p w' m l' W' D' → W'.name = [119] → Live D' W' l' (1 + (i + 1)) (14 + costs ss (i + 1)) → D'.room = 16777216 → l'.rs.length ≤ 1 + (i + 1) → rec [.bool false, .int .i64 (i + 1 : Nat)] S' := by
          intro S' w' l' W' D' k1 k2 k3 k4 k5
          exact hrec (60 - (i + 1)) _ _ (by omega) ⟨i + 1, rfl, by omega, by omega, ⟨w', l', c, o3, W', D', _, _, false, rfl, k1, k2, hc, k5, .inl ⟨k3.down, rfl, k3, rfl, rfl, k4⟩⟩⟩
        have hback2 : ∀ S' w' l' W' D' c' o3' isb', PlayAt (R.setObj q (.cells (LogV c' o3' .nil))) S' x p w' m l' W' D' → W'.name = [119] → LogOk c' o3' .nil → D'.down = true → Ends D' l' isb' c' → l'.rs.length ≤ 1 + (i + 1) → rec [.bool isb', .int .i64 (i + 1 : Nat)] S' := by
          intro S' w' l' W' D' c' o3' isb' k1 k2 k3 k4 k5 k6
          exact hrec (60 - (i + 1)) _ _ (by omega) ⟨i + 1, rfl, by omega, by omega, ⟨w', l', c', o3', W', D', 0, 0, isb', rfl, k1, k2, k3, k6, .inr ⟨k4, k5⟩⟩⟩
        have hplay0 : PlayAt (R.setObj q (.cells (LogV c o3 .nil))) S2 x p w m l W D := ⟨hRx, o1, o2, hlog, hwk⟩
        have hld : ∀ S', xload true 3 (.ref (stepC s)) S' = some (.agg (stepC s)) := fun _ => rfl
        simp only [ob_s, as_t, Bool.not_false, k_not, hat, hld]
        refine xalloc_i ?_
        intro b hb htb
        refine xstore_new (by rfl) (by rfl) (by rfl) ?_
        intro S6 hS6
        have hplay1 := hplay0.frame (o := .cells (stepC s)) hb
        rw [← hS6] at hplay1
        have hRqb : (R.setObj q (.cells (LogV c o3 .nil))).obj b = none := stle_obj hplay0.rle hb
        have hRR : (R.setObj q (.cells (LogV c o3 .nil))).le ((R.setObj q (.cells (LogV c o3 .nil))).setObj b (.cells (stepC s))) := stle_setObj (St.le_refl _) hRqb _
        generalize hRq' : R.setObj q (.cells (LogV c o3 .nil)) = Rq at *
        generalize hRb : Rq.setObj b (.cells (stepC s)) = Rb at *
        have hRbb : Rb.obj b = some (.cells (stepC s)) := by rw [← hRb]; simp
        obtain ⟨hRx, o1, o2, hlog, hwk⟩ := hplay1
        have hbx : b ≠ x := by rintro rfl; rw [hRbb] at hRx; cases hRx
        have hx6 : S6.obj x = some (.cells (playC p w W.name m l o1 o2)) := hwk.rle.1 x _ (by simp)
        have hb6 : S6.obj b = some (.cells (stepC s)) := hwk.rle.1 b _ (by simp [hbx, hRbb])
        have hx6' := hx6
        have hb6' := hb6
        simp only [playC] at hx6'
        simp only [stepC] at hb6'
        obtain ⟨a, ini, la, hch, ha, haN, hnum, hsz⟩ := hlv.ch
        have hcnt := hlv.count
        have hdead : ¬ W.dead = true := by rw [hlv.dead]; simp
        have hgl : la.good.length ≤ 268435456 := by
          have h1 := hwk.len (n := a + ini.length) (by omega)
          have h2 := hwk.sorted
          rw [hch.split] at h1 h2
          rw [(datL_mid (g := ⟨a + ini.length, la.good, la.s⟩) h2).1] at h1
          exact h1
        obtain ⟨k1, k2, k3, k4, k5, k6⟩ := id hlog
        have hcost : s.b.length ≤ 60000 → s.cost = s.b.length + 28 := by intro h; simp [StepS.cost, h]
        have hcost28 : 28 ≤ s.cost := by simp [StepS.cost]
        have z0 : ((0 : Nat) : Int) = 0 := rfl
        have z2 : ((2 : Nat) : Int) = 2 := rfl
        have z9 : ((9 : Nat) : Int) = 9 := rfl
        have n20 : ¬ ((2 : Int) = 0) := by omega
        have n21 : ¬ ((2 : Int) = 1) := by omega
        have n10 : ¬ ((1 : Int) = 0) := by omega
        have n29 : ¬ ((2 : Int) = 9) := by omega
        have n09 : ¬ ((0 : Int) = 9) := by omega
        have n90 : ¬ ((9 : Int) = 0) := by omega
        have hB : Byt (Rb.setObj x (.cells (playC p w W.name m l o1 o2))) (bsl s.b s.ob) s.b := .inl ⟨_, rfl, hso.1⟩
        have hstay : rec [.bool false, .int .i64 (i + 1 : Nat)] S6 :=
          hback1 S6 w l W D (PlayAt.weaken ⟨hRx, o1, o2, hlog, hwk⟩ hRR) hname (hlv.mono (by omega) (by omega)) hroom (by omega)
        have hT0 : ∀ e : Nat, e ≠ 9 → J5_36P Sp6 Sp7 Sp8 Sp9 Sp11 Sp12 Sp13 Sp14 Sp18 Sp20 Sp21 Sp22 Sp23 Sp24 Sp25 Sp26 Sp27 rec (.ptr (some (p, 0))) (.ptr (some (x, 0))) (.bool false) (.int .i64 i) (.int .i64 e) S6 (Done (fun v S' => v = .bool true ∧ S' = S0)) :=
          fun e he => t5_ok hwk hx6 hi60 (fun h => absurd h he) hstay
        by_cases c0 : s.kind = 0
        · simp only [ob_s, as_t, List.getElem?_cons_zero, List.getElem?_cons_succ, St.obj_setObj, eq_self, Nat.zero_add, Nat.add_zero, decide_true, k_eql, k_faddr_p, k_load_p, k_get1, hb6', hx6', c0]
          refine ccall_r (_, w, p, W, D, _, s.b) ⟨rfl, hwk, hB, .inr ⟨by dsimp only; omega, by dsimp only; omega, by dsimp only; omega, by dsimp only; omega, by dsimp only; omega, by dsimp only; omega⟩⟩ ?_
          intro v S7 hpost
          dsimp only at hpost
          by_cases hlg : s.b.length > 60000
          · rw [if_pos hlg] at hpost
            obtain ⟨rfl, rfl⟩ := hpost
            simp only [ob_s, as_f, gv_ff, gv_ft, pick_f, if_false, Bool.false_eq_true, decide_false, k_eql, n20, n29]
            exact hT0 2 (by omega)
          · rw [if_neg hlg, if_neg hdead] at hpost
            have hc1 := hcost (by omega)
            have hu : ∃ (e : Nat) (W1 : WalS) (D1 : DS), v = .int .i64 e ∧ (e = 0 ∨ e = 9) ∧ WkAt (Rb.setObj x (.cells (playC p w W.name m l o1 o2))) S7 w p W1 D1 ∧ W1.name = W.name ∧ (e = 9 → D1.down = true ∧ W1.dead = true) ∧
                ∀ S', PlayAt Rq S' x p w m { l with rs := l.rs ++ [s.b] } W1 D1 → rec [.bool false, .int .i64 (i + 1 : Nat)] S' := by
              obtain ⟨rfl, W', h1, h2, h3, h4⟩ := hpost
              rcases live_put hlv hwk.sorted (r := s.b) (by omega) (by omega) with ⟨e1, e2, e3, e4, _⟩ | ⟨e1, e2⟩
              · rw [e1] at h3 ⊢
                have hW := h3 rfl
                subst hW
                exact ⟨0, _, _, rfl, .inl rfl, h1, h2, (fun h => by omega), fun S' hp => hback1 S' w _ _ _ hp (h2.trans hname) (e2.mono (by omega) (by omega)) (e3.trans hroom) (by simp; omega)⟩
              · rw [e1] at h4 ⊢
                exact ⟨9, W', _, rfl, .inr rfl, h1, h2, fun _ => ⟨e2.down, h4 rfl⟩, fun S' hp => hback2 S' w _ W' _ c o3 false (by rw [hRq']; exact hp) (h2.trans hname) hc e2.down (e2.ends (ext := true)) (by simp; omega)⟩
            obtain ⟨e, W1, D1, rfl, he, h1, hn1, hdd, hfin⟩ := hu
            have hx7 : S7.obj x = some (.cells (playC p w W.name m l o1 o2)) := h1.rle.1 x _ (by simp)
            have hx7' := hx7
            simp only [playC] at hx7'
            have hb7 : S7.obj b = some (.cells (stepC s)) := h1.rle.1 b _ (by simp [hbx, hRbb])
            have hlog' : ∀ o4 : Own, o4 ≠ .nil → LogOk { l with rs := l.rs ++ [s.b] } o1 o4 := by
              intro o4 ho4
              refine ⟨k1, fun h => absurd h ho4, k3, by simp; omega, ?_, k6⟩
              intro r hr
              rcases List.mem_append.1 hr with hr | hr
              · exact k5 r hr
              · simp at hr; subst hr; omega
            have hnlong : ¬ ((s.b.length : Nat) : Int) > 60000 := by omega
            rcases he with rfl | rfl
            · simp only [ob_s, as_t, as_f, gv_tf, gv_ft, pick_t, pick_f, List.length, List.take, List.drop, List.take_succ_cons, if_false, if_pos, eq_self, Nat.zero_add, Nat.reduceAdd, Nat.le_refl, Bool.false_eq_true, decide_true, decide_false, k_eql, z0, hx7', n09]
              refine xalloc_i ?_
              intro b2 hb2 htb2
              refine xstore_new (by rfl) (by rfl) (by rfl) ?_
              intro S9 hS9
              have hS9' : S9 = S7.setObj b2 (.cells (LogV l o1 o2)) := hS9
              have hxb2 : x ≠ b2 := by rintro rfl; rw [hx7] at hb2; cases hb2
              have hbb2 : b ≠ b2 := by rintro rfl; rw [hb7] at hb2; cases hb2
              have h9 := h1.frame (o := .cells (LogV l o1 o2)) hb2
              rw [← hS9', setObj_comm _ hxb2] at h9
              have hRb2 : Rb.obj b2 = none := by
                have := stle_obj h1.rle hb2
                simpa [hxb2.symm] using this
              have hx9 := h9.rle.1 x _ (by simp; rfl)
              have hb9 := h9.rle.1 b _ (by simp [hbx, hbb2]; exact hRbb)
              simp only [playC] at hx9
              simp only [stepC] at hb9
              simp only [ob_s, List.length, List.take, List.drop, List.take_succ_cons, List.getElem?_cons_zero, List.getElem?_cons_succ, if_pos, Nat.zero_add, Nat.reduceAdd, Nat.le_refl, hx9, hb9]
              refine ccall_r (l, o1, o2, bsl s.b s.ob, s.b) ⟨rfl, hlog, .inl ⟨_, rfl, hso.1⟩, by dsimp only; omega⟩ ?_
              rintro _ S10 ⟨⟨o4, rfl, ho4⟩, rfl⟩
              have h11 := h9.both (.cells (playC p w W.name m { l with rs := l.rs ++ [s.b] } o1 o4))
              simp only [ob_s, setList, List.set, List.length, List.all, true_and, Bool.and_self, eq_self, Nat.zero_add, Nat.reduceAdd, Nat.le_refl, k_cells_a, k_ok_i, k_ok_sl, k_ok_bsl, hx9, LogV]
              refine t5_ok (e := 0) (l := { l with rs := l.rs ++ [s.b] }) (name := W.name) (most := m) (o1 := o1) (o2 := o4) h11 (h11.rle.1 x _ (by simp)) hi60 (fun h => by omega) ?_
              exact hfin _ (PlayAt.weaken (PlayAt.mk' (by simpa [hxb2] using hRx) (hlog' o4 ho4) hn1 h11) (St.le_trans hRR (stle_setObj (St.le_refl _) hRb2 _)))
            · obtain ⟨hd1, hdead1⟩ := hdd rfl
              simp only [ob_s, as_t, gv_tt, gv_ff, pick_t, pick_f, List.length, List.take, List.drop, List.take_succ_cons, St.obj_setObj, if_pos, eq_self, Nat.zero_add, Nat.reduceAdd, Nat.le_refl, decide_true, decide_false, k_eql, k_faddr_p, k_load_p, k_nilck_p, k_get1, z9, hx7', n90]
              refine xalloc_i ?_
              intro b2 hb2 htb2
              refine xstore_new (by rfl) (by rfl) (by rfl) ?_
              intro S9 hS9
              have hS9' : S9 = S7.setObj b2 (.cells (LogV l o1 o2)) := hS9
              have hxb2 : x ≠ b2 := by rintro rfl; rw [hx7] at hb2; cases hb2
              have hbb2 : b ≠ b2 := by rintro rfl; rw [hb7] at hb2; cases hb2
              have h9 := h1.frame (o := .cells (LogV l o1 o2)) hb2
              rw [← hS9', setObj_comm _ hxb2] at h9
              have hRb2 : Rb.obj b2 = none := by
                have := stle_obj h1.rle hb2
                simpa [hxb2.symm] using this
              have hx9 := h9.rle.1 x _ (by simp; rfl)
              have hb9 := h9.rle.1 b _ (by simp [hbx, hbb2]; exact hRbb)
              simp only [playC] at hx9
              simp only [stepC] at hb9
              simp only [ob_s, List.length, List.take, List.drop, List.take_succ_cons, List.getElem?_cons_zero, List.getElem?_cons_succ, if_pos, Nat.zero_add, Nat.reduceAdd, Nat.le_refl, k_load_p, k_getn, hx9, hb9]
              refine ccall_r (l, o1, o2, bsl s.b s.ob, s.b) ⟨rfl, hlog, .inl ⟨_, rfl, hso.1⟩, by dsimp only; omega⟩ ?_
              rintro _ S10 ⟨⟨o4, rfl, ho4⟩, rfl⟩
              have h11 := h9.both (.cells (playC p w W.name m { l with rs := l.rs ++ [s.b] } o1 o4))
              simp only [ob_s, setList, List.set, List.length, List.getElem?_cons_zero, List.getElem?_cons_succ, List.all, true_and, Bool.and_self, eq_self, Nat.zero_add, Nat.reduceAdd, Nat.le_refl, k_cells_a, k_ok_i, k_ok_sl, k_ok_bsl, hx9, LogV]
              refine ccall_r (_, w, p, W1, D1, .slice [] 0 .nil, []) ⟨rfl, h11, .inl ⟨.nil, rfl, fun _ => rfl⟩, .inl hdead1⟩ ?_
              intro v S12 hp2
              dsimp only at hp2
              rw [if_neg (by simp), if_pos hdead1] at hp2
              obtain ⟨rfl, rfl⟩ := hp2
              have hb11 := h11.rle.1 b _ (by simp [hbx, hbb2]; exact hRbb)
              simp only [stepC] at hb11
              simp only [playC] at hb11
              simp only [ob_s, as_f, List.length, List.getElem?_cons_zero, List.getElem?_cons_succ, St.obj_setObj, if_false, if_pos, true_and, eq_self, ne_eq, not_true, Nat.zero_add, Nat.reduceAdd, Nat.le_refl, decide_false, k_gtr, k_neq, k_len_bsl, hbx, hb9, hnlong]
              refine t5_ok (e := 9) (l := { l with rs := l.rs ++ [s.b] }) (name := W.name) (most := m) (o1 := o1) (o2 := o4) h11 (h11.rle.1 x _ (by simp)) hi60 (fun _ => ⟨hd1, hdead1⟩) ?_
              exact hfin _ (PlayAt.weaken (PlayAt.mk' (by simpa [hxb2] using hRx) (hlog' o4 ho4) hn1 h11) (St.le_trans hRR (stle_setObj (St.le_refl _) hRb2 _)))
        by_cases c1k : s.kind = 1
        · simp only [ob_s, as_t, as_f, List.getElem?_cons_zero, List.getElem?_cons_succ, St.obj_setObj, eq_self, Nat.zero_add, Nat.add_zero, decide_true, decide_false, k_eql, k_faddr_p, k_load_p, k_get1, hb6', hx6', c1k, n10]
          refine ccall_r (_, w, p, W, D) ⟨rfl, hwk, .inr ⟨by dsimp only; omega, by dsimp only; omega⟩⟩ ?_
          intro v S7 hpost
          dsimp only at hpost
          rw [if_neg hdead] at hpost
          obtain ⟨rfl, h1⟩ := hpost
          rcases live_syn hlv hwk.sorted with ⟨e1, e2, e3, e4⟩ | ⟨e1, e2⟩
          · rw [e1] at h1 ⊢
            rw [fst_zero] at h1
            have hx7 := h1.rle.1 x _ (by simp; rfl)
            simp only [playC] at hx7
            simp only [ob_s, as_t, List.length, List.take, List.drop, List.take_succ_cons, if_pos, eq_self, Nat.zero_add, Nat.reduceAdd, Nat.le_refl, decide_true, k_eql, z0, hx7]
            refine ccall_r (l, o1, o2) rfl ?_
            rintro _ S8 ⟨rfl, rfl⟩
            simp only [ob_s, setList, List.set, List.length, List.all, true_and, Bool.and_self, eq_self, Nat.zero_add, Nat.reduceAdd, Nat.le_refl, k_cells_a, k_ok_i, k_ok_sl, k_ok_bsl, hx7, LogV]
            have h5 := h1.both (.cells (playC p w W.name m { l with safe := l.rs.length } o1 o2))
            refine t5_ok (e := 0) (l := { l with safe := l.rs.length }) (name := W.name) (most := m) (o1 := o1) (o2 := o2) h5 (h5.rle.1 x _ (by simp)) hi60 (fun h => by omega) ?_
            exact hback1 _ w { l with safe := l.rs.length } W _ (PlayAt.weaken (PlayAt.mk' hRx ⟨k1, k2, k3, k4, k5, k4⟩ rfl h5) hRR) hname (e2.mono (by omega) (by omega)) (e3.trans hroom) (by dsimp only; omega)
          · rw [e1] at h1 ⊢
            have hdead1 : (W.fst 9).dead = true := by simp [WalS.fst]
            simp only [ob_s, as_f, decide_false, k_eql, z9, n90]
            refine t5_ok (e := 9) (l := l) (name := W.name) (most := m) (o1 := o1) (o2 := o2) h1 (h1.rle.1 x _ (by simp)) hi60 (fun _ => ⟨e2.down, hdead1⟩) ?_
            exact hback2 _ w l (W.fst 9) _ c o3 false (by rw [hRq']; exact PlayAt.weaken (PlayAt.mk' hRx hlog (fst_name _ _) h1) hRR) ((fst_name _ _).trans hname) hc e2.down (e2.ends (ext := false) (r := [])) (by omega)
        by_cases c2k : s.kind = 2
        · simp only [ob_s, as_t, as_f, List.getElem?_cons_zero, List.getElem?_cons_succ, St.obj_setObj, eq_self, Nat.zero_add, Nat.add_zero, decide_true, decide_false, k_eql, k_faddr_p, k_load_p, k_get1, hb6', hx6', c2k, n20, n21]
          refine ccall_r (_, w, p, W, D, _, s.b) ⟨rfl, hwk, hB, by dsimp only; omega⟩ ?_
          intro v S7 hpost
          dsimp only at hpost
          by_cases hlg : s.b.length > 60000
          · rw [if_pos hlg] at hpost
            obtain ⟨rfl, rfl⟩ := hpost
            simp only [ob_s, as_f, decide_false, k_eql, n20, n29]
            exact hT0 2 (by omega)
          · rw [if_neg hlg, if_neg hdead] at hpost
            have hc1 := hcost (by omega)
            obtain ⟨rfl, W', h1, h2, h3, h4⟩ := hpost
            have hx7 := h1.rle.1 x _ (by simp; rfl)
            have hb7 := h1.rle.1 b _ (by simp [hbx]; exact hRbb)
            simp only [playC] at hx7
            simp only [stepC] at hb7
            rcases live_begin hlv hwk.sorted (b := s.b) (by omega) (by omega) with ⟨e1, e2, e3, e4⟩ | ⟨e1, e2⟩
            · rw [e1] at h3 ⊢
              have hW := h3 rfl
              subst hW
              simp only [ob_s, as_t, List.getElem?_cons_zero, List.getElem?_cons_succ, eq_self, decide_true, k_eql, z0, hb7]
              refine ccall_r (bsl s.b s.ob, s.b) ⟨rfl, .inl ⟨_, rfl, hso.1⟩, by dsimp only; omega⟩ ?_
              rintro _ S8 ⟨rfl, rfl⟩
              simp only [ob_s, as_f, setList, Option.map_some, List.set, List.length, List.all, if_pos, true_and, Bool.and_self, eq_self, Nat.zero_add, Nat.reduceAdd, Nat.le_refl, decide_false, k_cells_a, k_ok_i, k_ok_sl, k_cells_bsl, k_ok_bsl, hx7, n09]
              have h5 := h1.both (.cells (playC p w W.name m ⟨s.b, [], 0⟩ .ro .nil))
              refine t5_ok (e := 0) (l := ⟨s.b, [], 0⟩) (name := W.name) (most := m) (o1 := .ro) (o2 := .nil) h5 (h5.rle.1 x _ (by simp)) hi60 (fun h => by omega) ?_
              exact hback1 _ w ⟨s.b, [], 0⟩ _ _ (PlayAt.weaken (PlayAt.mk' (o1 := .ro) (o2 := .nil) hRx ⟨(fun h => nomatch h), fun _ => rfl, (show s.b.length ≤ 1073741824 by omega), by simp, by simp, by simp⟩ h2 h5) hRR) (h2.trans hname) (e2.mono (by omega) (by omega)) (e3.trans hroom) (Nat.zero_le _)
            · rw [e1] at h4 ⊢
              have hdead1 := h4 rfl
              simp only [ob_s, as_t, as_f, List.getElem?_cons_zero, List.getElem?_cons_succ, eq_self, decide_true, decide_false, k_eql, z9, n90, hb7]
              refine ccall_r (bsl s.b s.ob, s.b) ⟨rfl, .inl ⟨_, rfl, hso.1⟩, by dsimp only; omega⟩ ?_
              rintro _ S8 ⟨rfl, rfl⟩
              have hpl := PlayAt.weaken (PlayAt.mk' hRx hlog h2 h1) hRR
              rw [← hRq'] at hpl
              have hq7 : S8.obj q = some (.cells (LogV c o3 .nil)) := hpl.rle.1 q _ (by simp)
              simp only [LogV] at hq7
              simp only [ob_s, setList, Option.map_some, List.set, List.length, List.all, if_pos, true_and, Bool.and_self, eq_self, Nat.zero_add, Nat.reduceAdd, Nat.le_refl, k_cells_a, k_ok_i, k_ok_sl, k_cells_bsl, k_ok_bsl, hq7]
              have hpl2 := hpl.setq (cq' := .cells (LogV ⟨s.b, [], 0⟩ .ro .nil)) hqx
              have hpl3 := hpl2
              obtain ⟨hRx2, q1, q2, hlog2, h5⟩ := hpl2
              refine t5_ok (e := 9) (l := l) (name := W'.name) (most := m) (o1 := q1) (o2 := q2) h5 (h5.rle.1 x _ (by simp)) hi60 (fun _ => ⟨e2.down, hdead1⟩) ?_
              exact hback2 _ w l W' _ ⟨s.b, [], 0⟩ .ro true hpl3 (h2.trans hname) ⟨(fun h => nomatch h), fun _ => rfl, (show s.b.length ≤ 1073741824 by omega), by simp, by simp, by simp⟩ e2.down (e2.ends (by omega)) (by omega)
        · simp only [ob_s, as_f, List.getElem?_cons_zero, List.getElem?_cons_succ, St.obj_setObj, Nat.zero_add, Nat.add_zero, decide_false, k_eql, k_faddr_p, k_load_p, k_get1, hb6', hx6', c0, c1k, c2k]
          exact hT0 0 (by omega)
      · rw [hd]
        simp only [ob_s, as_f, Bool.not_true, k_not]
        exact hjend _
    · have c2' : ¬ ((i : Nat) : Int) < 60 := by omega
      simp only [ob_s, as_f, gv_tt, gv_ft, pick_t, pick_f, List.getD_cons_zero, List.getD_cons_succ, St.obj_setObj, if_false, if_pos, eq_self, Bool.false_eq_true, decide_true, decide_false, k_lss, hlen, c1', c2', gif]
      exact hjend _
  · have c1' : ¬ ((i : Nat) : Int) < ((ss.length : Nat) : Int) := by omega
    simp only [ob_s, as_f, gv_ft, pick_f, List.getD_cons_zero, List.getD_cons_succ, St.obj_setObj, if_false, if_pos, eq_self, Bool.false_eq_true, decide_false, k_lss, hlen, c1', gif]
    exact hjend _
end Go.AM
/-
  WalCrashes, walked.
-/
namespace Go.AM
open Go
set_option maxRecDepth 20000

structure CrX where
  size : Int
  ss : List StepS
  os : Own
  arms : List Int
  oa : Own
  ks : List Int
  ok : Own
def Sp5 : Spec := rspec (fun (y : CrX) args _ => args = [.int .i64 y.size, scriptV y.ss y.os, .slice (y.arms.map avI) y.arms.length y.oa, .slice (y.ks.map avI) y.ks.length y.ok] ∧ y.ss.length ≤ 9223372036854775807 ∧ ∀ s ∈ y.ss, s.Ok)
  fun _ S v S' => v = .bool true ∧ S' = S
theorem s5 : Sound PR 5 Sp5 := by
  refine sound_r PR_mixed
    (sounds_cons s6 (sounds_cons s7 (sounds_cons s8 (sounds_cons s9 (sounds_cons s11 (sounds_cons s12 (sounds_cons s13 (sounds_cons s14 (sounds_cons s18 (sounds_cons s20 (sounds_cons s21 (sounds_cons s22 (sounds_cons s23 (sounds_cons s24 (sounds_cons s25 (sounds_cons s26 (sounds_cons s27 sounds_nil)))))))))))))))))
    (by repeat' first | exact monos_nil | refine monos_cons (rspec_mono _ _) ?_)
    (own := own []) (ord := O5) (lh := H5) (fn := Go.Proofs.Tryz.f5) (by kernel_rfl) (by kernel_rfl) ?_
  rintro ⟨size, ss, os, arms, oa, ks, ok⟩ args S ⟨rfl, hl, hok⟩
  rw [W5_eqP]
  refine ⟨rfl, ?_⟩
  unfold W5P
  dsimp only at hl hok ⊢
  refine ccall_r (16777216 : Int) ⟨rfl, by omega, by omega⟩ ?_
  rintro _ S1 ⟨p, rfl, hP⟩
  have hD := emptyS_dk (n := 16777216) (name := [119]) (by simp) (by omega) hP
  simp only [ob_s, List.getElem?_cons_zero, List.getElem?_cons_succ, k_extract, k_gtr, k_len_s]
  refine ccall_r (S, p, [119], size, _) ⟨rfl, hD, rfl, rfl, rfl, by show 14 ≤ 16777216; omega⟩ ?_
  rintro _ S2 ⟨x, w, W, D, m, rfl, h1, hname, hm1, hm2, hlive, hroom, harm⟩
  dsimp only at hroom hname
  refine ccall_r () rfl ?_
  rintro _ S3 ⟨rfl, rfl⟩
  simp only [ob_s, as_f, gv_ff, pick_f, if_false, Bool.not_true, Bool.not_false, Option.isNone_some, Bool.false_eq_true, k_isnil, k_nilp_p, k_not]
  refine ccall_r (ss, os) ⟨rfl, hl, hok⟩ ?_
  rintro _ S4 ⟨rfl, rfl⟩
  dsimp only
  refine asplit_of _ ?_ ?_
  · intro _
    exact done S h1.rle ⟨rfl, rfl⟩
  · intro hbulk
    have hb : bulkN ss ≤ 1048576 := by simpa using hbulk
    have hlen : xlen (.slice (arms.map avI) arms.length oa) = some (.int .i64 arms.length) := rfl
    refine asplit_of _ ?_ ?_
    · intro hgt
      have h1l : 0 < arms.length := by omega
      obtain ⟨a1, a2⟩ := int_at (o := oa) h1l
      have a1' : xiaddr 1 (.slice (arms.map avI) arms.length oa) (.int .i64 0) = some (.ref (((arms.map avI).drop 0).take 1)) := a1
      obtain ⟨r, hr1, hr2⟩ := rem_of arms[0] 200 (by omega) (by omega)
      have hr2' : xbini .rem (.int .u64 (IntKind.u64.wrap arms[0])) (.int .u64 200) = some (.int .u64 (r : Nat)) := hr2
      have w1 : IntKind.i64.wrap ((r : Nat) : Int) = (r : Nat) := IntWalk.i64_in _ (by omega)
      simp only [ob_s, List.drop, k_conv, k_load_r, k_t0, k_get1, a1', a2, hr2', w1]
      obtain ⟨hx, o1, o2, hlog, hwk⟩ := h1
      refine call_arm hwk.dk hlive.down r (by omega) ?_
      intro S5 h5
      exact j9_ok (St.le_refl S) (W := W) (D := { D with armed := true, left := r }) ⟨hx, o1, o2, hlog, ⟨hwk.1, h5⟩⟩ hname hm1 hm2 ⟨hlive.ch, hlive.count, hlive.dead, hlive.down, hlive.used⟩ hroom hl hok hb
    · intro _
      exact j9_ok (St.le_refl S) h1 hname hm1 hm2 hlive hroom hl hok hb
end Go.AM
