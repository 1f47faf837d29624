/- Own texts B2, B3, B4 of this claim, joined. -/
import Derived.Test.YthgdjoamfefcbaaGreatDoorMA2
import Derived.Test.YthgdjoamfefcbaaGreatDoorProg
import Derived.KernelRfl
set_option linter.all false
set_option linter.unusedVariables false
set_option linter.unusedSimpArgs false
set_option linter.unnecessarySimpa false
/-
  WHAT EACH FUNCTION DOES, READ FROM ITS TEXT BY A PROGRAM (pr.py), AND CHECKED AGAINST THE LOADED FUNCTION BY THE KERNEL.
-/
namespace Go.AM
open Go
set_option maxRecDepth 100000
set_option linter.unusedVariables false

/-- internal/stringslite.CutPrefix -/
def W59 (Sp72 : Spec) (t0 t1 : AV) (S : St) (K : En → St → Prop) : Prop :=
  ccall Sp72 [t0, t1] S (fun t8 S_1 =>
    obind (xun .not t8) fun t9 =>
    asplit t9 (
      K (.ret (.tuple [t0, ((.bool false))])) S_1) (
      obind (xslen t1) fun t13 =>
      obind (xsslice t0 (some t13) none) fun t14 =>
      K (.ret (.tuple [t14, ((.bool true))])) S_1)) (fun v S' => K (.pan v) S')
def O59 : Nat → List Nat := lk []
def H59 : Nat → List Nat := lk []
theorem W59_eq (Sp72 : Spec) (t0 t1 : AV) (S : St) (K : En → St → Prop) : bcall Go.Proofs.Tryz.prog (tab [(72, Sp72)]) (own []) O59 H59 Go.Proofs.Tryz.f59 [t0, t1] S K = (2 = 2 ∧ W59 Sp72 t0 t1 S K) := by kernel_rfl

/-- internal/stringslite.HasPrefix -/
def W72 (t0 t1 : AV) (S : St) (K : En → St → Prop) : Prop :=
  obind (xslen t0) fun t6 =>
  obind (xslen t1) fun t8 =>
  obind (xbini .geq t6 t8) fun t9 =>
  obind (gv t9 true (some t0)) fun t11 =>
  obind (gv t9 true (some t1)) fun t12 =>
  obind (gv t9 true (xslen t12)) fun t13 =>
  obind (gv t9 true (xsslice t11 none (some t13))) fun t14 =>
  obind (gv t9 true (some t1)) fun t15 =>
  obind (gv t9 true (xbins .eql t14 t15)) fun t16 =>
  obind (xpick t9 t16 (.bool false)) fun t17 =>
  K (.ret t17) S
def O72 : Nat → List Nat := lk []
def H72 : Nat → List Nat := lk []
theorem W72_eq (t0 t1 : AV) (S : St) (K : En → St → Prop) : bcall Go.Proofs.Tryz.prog (tab []) (own []) O72 H72 Go.Proofs.Tryz.f72 [t0, t1] S K = (2 = 2 ∧ W72 t0 t1 S K) := by kernel_rfl

/-- strconv.Atoi -/
def W43 (Sp60 : Spec) (Sp61 : Spec) (t0 : AV) (S : St) (K : En → St → Prop) : Prop :=
  ccall Sp60 [t0] S (fun t8 S_1 =>
    obind (xextract t8 0) fun t9 =>
    obind (xextract t8 1) fun t10 =>
    obind (xisnil true (xnili t10)) fun t12 =>
    asplit t12 (
      ccall Sp61 [(.str ⟨#[65, 116, 111, 105]⟩), t0, (.int .i64 0), (.int .i64 0), t10] S_1 (fun t16 S_2 =>
        K (.ret (.tuple [t9, t16])) S_2) (fun v S' => K (.pan v) S')) (
      K (.ret (.tuple [t9, ((.nilIface))])) S_1)) (fun v S' => K (.pan v) S')
def O43 : Nat → List Nat := lk []
def H43 : Nat → List Nat := lk []
theorem W43_eq (Sp60 : Spec) (Sp61 : Spec) (t0 : AV) (S : St) (K : En → St → Prop) : bcall Go.Proofs.Tryz.prog (tab [(60, Sp60), (61, Sp61)]) (own []) O43 H43 Go.Proofs.Tryz.f43 [t0] S K = (1 = 1 ∧ W43 Sp60 Sp61 t0 S K) := by kernel_rfl

/-- internal/strconv.Atoi -/
def W60 (Sp73 : Spec) (t0 : AV) (S : St) (K : En → St → Prop) : Prop :=
  obind (xslen t0) fun t12 =>
  obind (gv ((.bool false)) true (some t12)) fun t14 =>
  obind (gv ((.bool false)) true (xbini .lss (.int .i64 0) t14)) fun t15 =>
  obind (gv ((.bool false)) true (some t15)) fun t16 =>
  obind (gv t16 true (some t12)) fun t17 =>
  obind (gv t16 true (xbini .lss t17 (.int .i64 10))) fun t18 =>
  obind (gv ((.bool false)) true (xpick t16 t18 (.bool false))) fun t19 =>
  obind (xpick ((.bool false)) t19 (.bool false)) fun t20 =>
  obind (gv t20 false (some (.bool true))) fun t22 =>
  obind (gv t22 true (some t12)) fun t23 =>
  obind (gv t22 true (xbini .lss (.int .i64 0) t23)) fun t24 =>
  obind (gv t22 true (some t24)) fun t25 =>
  obind (gv t25 true (some t12)) fun t26 =>
  obind (gv t25 true (xbini .lss t26 (.int .i64 19))) fun t27 =>
  obind (gv t22 true (xpick t25 t27 (.bool false))) fun t28 =>
  obind (gv t20 false (xpick t22 t28 (.bool false))) fun t29 =>
  obind (xpick t20 (.bool true) t29) fun t30 =>
  asplit t30 (
    obind (xsindex t0 (.int .i64 0)) fun t33 =>
    obind (xbini .eql t33 (.int .u8 45)) fun t34 =>
    obind (gv t34 false (some t0)) fun t36 =>
    obind (gv t34 false (xsindex t36 (.int .i64 0))) fun t37 =>
    obind (gv t34 false (xbini .eql t37 (.int .u8 43))) fun t38 =>
    obind (xpick t34 (.bool true) t38) fun t39 =>
    asplit t39 (
      obind (xsslice t0 (some (.int .i64 1)) none) fun t41 =>
      obind (xslen t41) fun t43 =>
      obind (xbini .lss t43 (.int .i64 1)) fun t44 =>
      asplit t44 (
        K (.ret (.tuple [((.int .i64 0)), (((.iface 119 (.int .i64 2))))])) S) (
        obind (xstr2bytes t41) fun t47 =>
        obind (xlen t47) fun t48 =>
        aloop (fun rec l S_1 =>
          obind (xbini .lss (g l 1) t48) fun t50 =>
          asplit t50 (
            obind (xiaddr 1 t47 (g l 1)) fun t51 =>
            obind (xload false 1 t51 S_1) fun t52 =>
            obind (xbini .sub t52 (.int .u8 48)) fun t54 =>
            obind (xbini .gtr t54 (.int .u8 9)) fun t56 =>
            asplit t56 (
              K (.ret (.tuple [((.int .i64 0)), (((.iface 119 (.int .i64 2))))])) S_1) (
              obind (xbini .mul ((g l 0)) (.int .i64 10)) fun t59 =>
              obind (xint2int .i64 t54) fun t61 =>
              obind (xbini .add t59 t61) fun t62 =>
              obind (xbini .add (g l 1) (.int .i64 1)) fun t63 =>
              ∃ S'', S''.le S_1 ∧ rec [t62, t63] S'')) (
            obind (xsindex t0 (.int .i64 0)) fun t65 =>
            obind (xbini .eql t65 (.int .u8 45)) fun t66 =>
            asplit t66 (
              obind (xun .neg ((g l 0))) fun t68 =>
              K (.ret (.tuple [t68, ((.nilIface))])) S_1) (
              K (.ret (.tuple [(((g l 0))), ((.nilIface))])) S_1))) [((.int .i64 0)), ((.int .i64 0))] S)) (
      obind (xstr2bytes t0) fun t47_1 =>
      obind (xlen t47_1) fun t48_1 =>
      aloop (fun rec_1 l_1 S_2 =>
        obind (xbini .lss (g l_1 1) t48_1) fun t50_1 =>
        asplit t50_1 (
          obind (xiaddr 1 t47_1 (g l_1 1)) fun t51_1 =>
          obind (xload false 1 t51_1 S_2) fun t52_1 =>
          obind (xbini .sub t52_1 (.int .u8 48)) fun t54_1 =>
          obind (xbini .gtr t54_1 (.int .u8 9)) fun t56_1 =>
          asplit t56_1 (
            K (.ret (.tuple [((.int .i64 0)), (((.iface 119 (.int .i64 2))))])) S_2) (
            obind (xbini .mul ((g l_1 0)) (.int .i64 10)) fun t59_1 =>
            obind (xint2int .i64 t54_1) fun t61_1 =>
            obind (xbini .add t59_1 t61_1) fun t62_1 =>
            obind (xbini .add (g l_1 1) (.int .i64 1)) fun t63_1 =>
            ∃ S'', S''.le S_2 ∧ rec_1 [t62_1, t63_1] S'')) (
          obind (xsindex t0 (.int .i64 0)) fun t65_1 =>
          obind (xbini .eql t65_1 (.int .u8 45)) fun t66_1 =>
          asplit t66_1 (
            obind (xun .neg ((g l_1 0))) fun t68_1 =>
            K (.ret (.tuple [t68_1, ((.nilIface))])) S_2) (
            K (.ret (.tuple [(((g l_1 0))), ((.nilIface))])) S_2))) [((.int .i64 0)), ((.int .i64 0))] S)) (
    ccall Sp73 [t0, (.int .i64 10), (.int .i64 0)] S (fun t72 S_3 =>
      obind (xextract t72 0) fun t73 =>
      obind (xextract t72 1) fun t74 =>
      K (.ret (.tuple [t73, t74])) S_3) (fun v S' => K (.pan v) S'))
def O60 : Nat → List Nat := lk []
def H60 : Nat → List Nat := lk [(10, [6, 49])]
theorem W60_eq (Sp73 : Spec) (t0 : AV) (S : St) (K : En → St → Prop) : bcall Go.Proofs.Tryz.prog (tab [(73, Sp73)]) (own []) O60 H60 Go.Proofs.Tryz.f60 [t0] S K = (1 = 1 ∧ W60 Sp73 t0 S K) := by kernel_rfl

end Go.AM
/-
  WHAT EACH FUNCTION DOES, READ FROM ITS TEXT BY A PROGRAM (pr.py), AND CHECKED AGAINST THE LOADED FUNCTION BY THE KERNEL.
-/
namespace Go.AM
open Go
set_option maxRecDepth 100000
set_option linter.unusedVariables false

/-- signet/signetlaw12.WalPlays -/
def W3 (Sp6 : Spec) (Sp7 : Spec) (Sp8 : Spec) (Sp9 : Spec) (Sp10 : Spec) (t0 t1 : AV) (S : St) (K : En → St → Prop) : Prop :=
  ccall Sp6 [(.int .i64 16777216)] S (fun t10 S_1 =>
    obind (xextract t10 0) fun t11 =>
    obind (xextract t10 1) fun t12 =>
    ccall Sp7 [t11, (.str ⟨#[119]⟩), t0] S_1 (fun t15 S_2 =>
      ccall Sp8 [] S_2 (fun t16 S_3 =>
        obind (xun .not t16) fun t17 =>
        obind (gv t17 false (some t15)) fun t19 =>
        obind (gv t17 false (xisnil false (xnilp t19))) fun t20 =>
        obind (xpick t17 (.bool true) t20) fun t21 =>
        asplit t21 (
          K (.ret ((.bool false))) S_3) (
          ccall Sp9 [t1] S_3 (fun t23 S_4 =>
            asplit t23 (
              K (.ret ((.bool true))) S_4) (
              aloop (fun rec l S_5 =>
                obind (xlen t1) fun t26 =>
                obind (xbini .lss ((g l 0)) t26) fun t27 =>
                obind (gv t27 true (some (g l 0))) fun t29 =>
                obind (gv t27 true (xbini .lss t29 (.int .i64 60))) fun t30 =>
                obind (xpick t27 t30 (.bool false)) fun t31 =>
                asplit t31 (
                  obind (xiaddr 3 t1 ((g l 0))) fun t37 =>
                  obind (xload true 3 t37 S_5) fun t38 =>
                  ccall Sp10 [t15, t38] S_5 (fun t39 S_6 =>
                    obind (xun .not t39) fun t40 =>
                    asplit t40 (
                      K (.ret ((.bool false))) S_6) (
                      obind (xbini .add ((g l 0)) (.int .i64 1)) fun t33 =>
                      ∃ S'', S''.le S_6 ∧ rec [t33] S'')) (fun v S' => K (.pan v) S')) (
                  K (.ret ((.bool true))) S_5)) [((.int .i64 0))] S_4)) (fun v S' => K (.pan v) S'))) (fun v S' => K (.pan v) S')) (fun v S' => K (.pan v) S')) (fun v S' => K (.pan v) S')
def O3 : Nat → List Nat := lk []
def H3 : Nat → List Nat := lk [(8, [8])]
theorem W3_eq (Sp6 : Spec) (Sp7 : Spec) (Sp8 : Spec) (Sp9 : Spec) (Sp10 : Spec) (t0 t1 : AV) (S : St) (K : En → St → Prop) : bcall Go.Proofs.Tryz.prog (tab [(6, Sp6), (7, Sp7), (8, Sp8), (9, Sp9), (10, Sp10)]) (own []) O3 H3 Go.Proofs.Tryz.f3 [t0, t1] S K = (2 = 2 ∧ W3 Sp6 Sp7 Sp8 Sp9 Sp10 t0 t1 S K) := by kernel_rfl

/-- signet/signetlaw12.begun -/
def W7 (Sp11 : Spec) (t0 t1 t2 : AV) (S : St) (K : En → St → Prop) : Prop :=
  obind (xint2int .u64 t2) fun t12 =>
  obind (xbini .rem t12 (.int .u64 2000)) fun t13 =>
  obind (xint2int .i64 t13) fun t14 =>
  obind (xbini .add (.int .i64 1) t14) fun t15 =>
  ccall Sp11 [t0, t1, t15] S (fun t20 S_1 =>
    obind (xextract t20 0) fun t21 =>
    obind (xextract t20 1) fun t22 =>
    obind (xextract t20 2) fun t23 =>
    obind (xextract t20 3) fun t24 =>
    obind (xbini .neq t24 (.int .i64 0)) fun t26 =>
    obind (gv t26 false (some t21)) fun t28 =>
    obind (gv t26 false (xisnil false (xnilp t28))) fun t29 =>
    obind (xpick t26 (.bool true) t29) fun t30 =>
    obind (gv t30 false (some t22)) fun t32 =>
    obind (gv t30 false (xlen t32)) fun t33 =>
    obind (gv t30 false (some t23)) fun t34 =>
    obind (gv t30 false (xlen t34)) fun t35 =>
    obind (gv t30 false (xbini .add t33 t35)) fun t36 =>
    obind (gv t30 false (xbini .gtr t36 (.int .i64 0))) fun t37 =>
    obind (xpick t30 (.bool true) t37) fun t38 =>
    asplit t38 (
      K (.ret ((.ptr none))) S_1) (
      obind (xbuild [.ptr none, .ptr none, .str ⟨#[]⟩, .int .i64 0, .slice [] 0 .nil, .slice [] 0 .nil, .int .i64 0] [(0, 1, t0), (1, 1, t21), (2, 1, t1), (3, 1, t15)]) fun t43 =>
      xbox 7 t43 S_1 fun t44 S_2 =>
        K (.ret t44) S_2)) (fun v S' => K (.pan v) S')
def O7 : Nat → List Nat := lk []
def H7 : Nat → List Nat := lk []
theorem W7_eq (Sp11 : Spec) (t0 t1 t2 : AV) (S : St) (K : En → St → Prop) : bcall Go.Proofs.Tryz.prog (tab [(11, Sp11)]) (own []) O7 H7 Go.Proofs.Tryz.f7 [t0, t1, t2] S K = (3 = 3 ∧ W7 Sp11 t0 t1 t2 S K) := by kernel_rfl

/-- signet/signetlaw12.known -/
def W8 (Sp6 : Spec) (Sp11 : Spec) (Sp12 : Spec) (Sp13 : Spec) (Sp15 : Spec) (Sp25 : Spec) (Sp27 : Spec) (S : St) (K : En → St → Prop) : Prop :=
  ccall Sp6 [(.int .i64 10000)] S (fun t10 S_1 =>
    obind (xextract t10 0) fun t11 =>
    obind (xextract t10 1) fun t12 =>
    ccall Sp11 [t11, (.str ⟨#[119]⟩), (.int .i64 9)] S_1 (fun t15 S_2 =>
      obind (xextract t15 0) fun t16 =>
      obind (xextract t15 1) fun t17 =>
      obind (xextract t15 2) fun t18 =>
      obind (xextract t15 3) fun t19 =>
      obind (xbini .neq t19 (.int .i64 0)) fun t21 =>
      obind (gv t21 false (some t16)) fun t23 =>
      obind (gv t21 false (xisnil false (xnilp t23))) fun t24 =>
      obind (xpick t21 (.bool true) t24) fun t25 =>
      obind (gv t25 false (some t16)) fun t27 =>
      gif t25 false (fun k => xmslice [.int .u8 0] 1 1 [(0, 1, (.int .u8 97))] S_2 k) S_2 fun t28 S_3 =>
        gif t25 false (fun k => xmark t28 S_3 k) S_3 fun t29 S_4 =>
          gif t25 false (fun k => ccall Sp12 [t27, t29] S_4 k (fun v S' => K (.pan v) S')) S_4 fun t30 S_5 =>
            obind (gv t25 false (xbini .neq t30 (.int .i64 0))) fun t31 =>
            obind (xpick t25 (.bool true) t31) fun t32 =>
            obind (gv t32 false (some t16)) fun t34 =>
            gif t32 false (fun k => ccall Sp13 [t34] S_5 k (fun v S' => K (.pan v) S')) S_5 fun t35 S_6 =>
              obind (gv t32 false (xbini .neq t35 (.int .i64 0))) fun t36 =>
              obind (xpick t32 (.bool true) t36) fun t37 =>
              asplit t37 (
                K (.ret ((.bool false))) S_6) (
                xmslice [.int .u8 0] 1 1 [(0, 1, (.int .u8 98))] S_6 fun t39 S_7 =>
                  xmark t39 S_7 fun t40 S_8 =>
                    ccall Sp12 [t16, t40] S_8 (fun t41 S_9 =>
                      ccall Sp25 [t11, (.slice [] 0 .nil)] S_9 (fun t43 S_10 =>
                        ccall Sp11 [t11, (.str ⟨#[119]⟩), (.int .i64 9)] S_10 (fun t46 S_11 =>
                          obind (xextract t46 0) fun t47 =>
                          obind (xextract t46 1) fun t48 =>
                          obind (xextract t46 2) fun t49 =>
                          obind (xextract t46 3) fun t50 =>
                          obind (xbini .eql t50 (.int .i64 0)) fun t52 =>
                          obind (gv t52 true (some t49)) fun t54 =>
                          gif t52 true (fun k => xmslice [.int .u8 0] 1 1 [(0, 1, (.int .u8 97))] S_11 k) S_11 fun t55 S_12 =>
                            gif t52 true (fun k => xmark t55 S_12 k) S_12 fun t56 S_13 =>
                              obind (gv t52 true (xbslice [.slice [] 0 .nil] 1 [(0, 1, t56)])) fun t57 =>
                              gif t52 true (fun k => ccall Sp27 [t54, t57] S_13 k (fun v S' => K (.pan v) S')) S_13 fun t58 S_14 =>
                                obind (xpick t52 t58 (.bool false)) fun t59 =>
                                obind (gv t59 true (some t47)) fun t61 =>
                                gif t59 true (fun k => ccall Sp15 [t61] S_14 k (fun v S' => K (.pan v) S')) S_14 fun t62 S_15 =>
                                  obind (gv t59 true (xbini .eql t62 (.int .i64 1))) fun t63 =>
                                  obind (xpick t59 t63 (.bool false)) fun t64 =>
                                  K (.ret t64) S_15) (fun v S' => K (.pan v) S')) (fun v S' => K (.pan v) S')) (fun v S' => K (.pan v) S'))) (fun v S' => K (.pan v) S')) (fun v S' => K (.pan v) S')
def O8 : Nat → List Nat := lk []
def H8 : Nat → List Nat := lk []
theorem W8_eq (Sp6 : Spec) (Sp11 : Spec) (Sp12 : Spec) (Sp13 : Spec) (Sp15 : Spec) (Sp25 : Spec) (Sp27 : Spec) (S : St) (K : En → St → Prop) : bcall Go.Proofs.Tryz.prog (tab [(6, Sp6), (11, Sp11), (12, Sp12), (13, Sp13), (15, Sp15), (25, Sp25), (27, Sp27)]) (own [28, 39, 55]) O8 H8 Go.Proofs.Tryz.f8 [] S K = (0 = 0 ∧ W8 Sp6 Sp11 Sp12 Sp13 Sp15 Sp25 Sp27  S K) := by kernel_rfl

/-- (*signet/signetlaw12.play).step -/
def W10 (Sp12 : Spec) (Sp13 : Spec) (Sp14 : Spec) (Sp15 : Spec) (Sp22 : Spec) (Sp23 : Spec) (Sp24 : Spec) (Sp25 : Spec) (Sp28 : Spec) (t0 t1 : AV) (S : St) (K : En → St → Prop) : Prop :=
  xbox 3 t1 S fun t3 S_1 =>
    obind (xfaddr 0 t3) fun t8 =>
    obind (xload false 1 t8 S_1) fun t9 =>
    obind (xbini .eql t9 (.int .i64 0)) fun t11 =>
    asplit t11 (
      obind (xnilck t0) fun t13 =>
      obind (xfaddr 1 t13) fun t14 =>
      obind (xload false 1 t14 S_1) fun t15 =>
      obind (xfaddr 1 t3) fun t16 =>
      obind (xload false 1 t16 S_1) fun t17 =>
      ccall Sp12 [t15, t17] S_1 (fun t18 S_2 =>
        obind (xbini .eql t18 (.int .i64 0)) fun t20 =>
        asplit t20 (
          obind (xnilck t0) fun t23 =>
          obind (xfaddr 4 t23) fun t24 =>
          obind (xload true 3 t24 S_2) fun t25 =>
          obind (xfaddr 1 t3) fun t26 =>
          obind (xload false 1 t26 S_2) fun t27 =>
          ccall Sp22 [t25, t27] S_2 (fun t28 S_3 =>
            obind (xnilck t0) fun t29 =>
            obind (xfaddr 4 t29) fun t30 =>
            xstore 3 t30 t28 S_3 fun _ S_4 =>
              obind (xfaddr 1 t3) fun t97 =>
              obind (xload false 1 t97 S_4) fun t98 =>
              obind (xlen t98) fun t99 =>
              obind (xbini .gtr t99 (.int .i64 60000)) fun t100 =>
              obind (gv t100 true (xfaddr 0 t3)) fun t102 =>
              obind (gv t100 true (xload false 1 t102 S_4)) fun t103 =>
              obind (gv t100 true (xbini .eql t103 (.int .i64 0))) fun t104 =>
              obind (gv t100 true (some t104)) fun t105 =>
              obind (gv t105 false (xfaddr 0 t3)) fun t106 =>
              obind (gv t105 false (xload false 1 t106 S_4)) fun t107 =>
              obind (gv t105 false (xbini .eql t107 (.int .i64 2))) fun t108 =>
              obind (gv t100 true (xpick t105 (.bool true) t108)) fun t109 =>
              obind (xpick t100 t109 (.bool false)) fun t110 =>
              obind (xbini .eql t18 (.int .i64 2)) fun t112 =>
              obind (xbinb .eql t112 t110) fun t114 =>
              obind (gv t114 true (some t18)) fun t116 =>
              obind (gv t114 true (xbini .eql t116 (.int .i64 0))) fun t117 =>
              obind (gv t114 true (some t117)) fun t118 =>
              obind (gv t118 false (some t110)) fun t119 =>
              obind (gv t114 true (xpick t118 (.bool true) t119)) fun t120 =>
              obind (xpick t114 t120 (.bool false)) fun t121 =>
              obind (gv t121 true (some t0)) fun t123 =>
              obind (gv t121 true (xnilck t123)) fun t124 =>
              obind (gv t121 true (xfaddr 1 t124)) fun t125 =>
              obind (gv t121 true (xload false 1 t125 S_4)) fun t126 =>
              obind (gv t121 true (some t0)) fun t128 =>
              obind (gv t121 true (xnilck t128)) fun t129 =>
              obind (gv t121 true (xfaddr 4 t129)) fun t130 =>
              obind (gv t121 true (xfaddr 1 t130)) fun t131 =>
              obind (gv t121 true (xload false 1 t131 S_4)) fun t132 =>
              obind (gv t121 true (xlen t132)) fun t133 =>
              gif t121 true (fun k => ccall Sp15 [t126] S_4 k (fun v S' => K (.pan v) S')) S_4 fun t127 S_5 =>
                gv t121 true (xlen t132) = some t133 ∧ gv t121 true (xload false 1 t131 S_5) = some t132 ∧ 
                obind (gv t121 true (xbini .eql t127 t133)) fun t134 =>
                obind (xpick t121 t134 (.bool false)) fun t135 =>
                K (.ret t135) S_5) (fun v S' => K (.pan v) S')) (
          obind (xfaddr 1 t3) fun t97_1 =>
          obind (xload false 1 t97_1 S_2) fun t98_1 =>
          obind (xlen t98_1) fun t99_1 =>
          obind (xbini .gtr t99_1 (.int .i64 60000)) fun t100_1 =>
          obind (gv t100_1 true (xfaddr 0 t3)) fun t102_1 =>
          obind (gv t100_1 true (xload false 1 t102_1 S_2)) fun t103_1 =>
          obind (gv t100_1 true (xbini .eql t103_1 (.int .i64 0))) fun t104_1 =>
          obind (gv t100_1 true (some t104_1)) fun t105_1 =>
          obind (gv t105_1 false (xfaddr 0 t3)) fun t106_1 =>
          obind (gv t105_1 false (xload false 1 t106_1 S_2)) fun t107_1 =>
          obind (gv t105_1 false (xbini .eql t107_1 (.int .i64 2))) fun t108_1 =>
          obind (gv t100_1 true (xpick t105_1 (.bool true) t108_1)) fun t109_1 =>
          obind (xpick t100_1 t109_1 (.bool false)) fun t110_1 =>
          obind (xbini .eql t18 (.int .i64 2)) fun t112_1 =>
          obind (xbinb .eql t112_1 t110_1) fun t114_1 =>
          obind (gv t114_1 true (some t18)) fun t116_1 =>
          obind (gv t114_1 true (xbini .eql t116_1 (.int .i64 0))) fun t117_1 =>
          obind (gv t114_1 true (some t117_1)) fun t118_1 =>
          obind (gv t118_1 false (some t110_1)) fun t119_1 =>
          obind (gv t114_1 true (xpick t118_1 (.bool true) t119_1)) fun t120_1 =>
          obind (xpick t114_1 t120_1 (.bool false)) fun t121_1 =>
          obind (gv t121_1 true (some t0)) fun t123_1 =>
          obind (gv t121_1 true (xnilck t123_1)) fun t124_1 =>
          obind (gv t121_1 true (xfaddr 1 t124_1)) fun t125_1 =>
          obind (gv t121_1 true (xload false 1 t125_1 S_2)) fun t126_1 =>
          obind (gv t121_1 true (some t0)) fun t128_1 =>
          obind (gv t121_1 true (xnilck t128_1)) fun t129_1 =>
          obind (gv t121_1 true (xfaddr 4 t129_1)) fun t130_1 =>
          obind (gv t121_1 true (xfaddr 1 t130_1)) fun t131_1 =>
          obind (gv t121_1 true (xload false 1 t131_1 S_2)) fun t132_1 =>
          obind (gv t121_1 true (xlen t132_1)) fun t133_1 =>
          gif t121_1 true (fun k => ccall Sp15 [t126_1] S_2 k (fun v S' => K (.pan v) S')) S_2 fun t127_1 S_6 =>
            gv t121_1 true (xlen t132_1) = some t133_1 ∧ gv t121_1 true (xload false 1 t131_1 S_6) = some t132_1 ∧ 
            obind (gv t121_1 true (xbini .eql t127_1 t133_1)) fun t134_1 =>
            obind (xpick t121_1 t134_1 (.bool false)) fun t135_1 =>
            K (.ret t135_1) S_6)) (fun v S' => K (.pan v) S')) (
      obind (xbini .eql t9 (.int .i64 1)) fun t32 =>
      asplit t32 (
        obind (xnilck t0) fun t34 =>
        obind (xfaddr 1 t34) fun t35 =>
        obind (xload false 1 t35 S_1) fun t36 =>
        ccall Sp13 [t36] S_1 (fun t37 S_7 =>
          obind (xbini .eql t37 (.int .i64 0)) fun t39 =>
          asplit t39 (
            obind (xnilck t0) fun t42 =>
            obind (xfaddr 4 t42) fun t43 =>
            obind (xload true 3 t43 S_7) fun t44 =>
            ccall Sp23 [t44] S_7 (fun t45 S_8 =>
              obind (xnilck t0) fun t46 =>
              obind (xfaddr 4 t46) fun t47 =>
              xstore 3 t47 t45 S_8 fun _ S_9 =>
                obind (xfaddr 1 t3) fun t97_2 =>
                obind (xload false 1 t97_2 S_9) fun t98_2 =>
                obind (xlen t98_2) fun t99_2 =>
                obind (xbini .gtr t99_2 (.int .i64 60000)) fun t100_2 =>
                obind (gv t100_2 true (xfaddr 0 t3)) fun t102_2 =>
                obind (gv t100_2 true (xload false 1 t102_2 S_9)) fun t103_2 =>
                obind (gv t100_2 true (xbini .eql t103_2 (.int .i64 0))) fun t104_2 =>
                obind (gv t100_2 true (some t104_2)) fun t105_2 =>
                obind (gv t105_2 false (xfaddr 0 t3)) fun t106_2 =>
                obind (gv t105_2 false (xload false 1 t106_2 S_9)) fun t107_2 =>
                obind (gv t105_2 false (xbini .eql t107_2 (.int .i64 2))) fun t108_2 =>
                obind (gv t100_2 true (xpick t105_2 (.bool true) t108_2)) fun t109_2 =>
                obind (xpick t100_2 t109_2 (.bool false)) fun t110_2 =>
                obind (xbini .eql t37 (.int .i64 2)) fun t112_2 =>
                obind (xbinb .eql t112_2 t110_2) fun t114_2 =>
                obind (gv t114_2 true (some t37)) fun t116_2 =>
                obind (gv t114_2 true (xbini .eql t116_2 (.int .i64 0))) fun t117_2 =>
                obind (gv t114_2 true (some t117_2)) fun t118_2 =>
                obind (gv t118_2 false (some t110_2)) fun t119_2 =>
                obind (gv t114_2 true (xpick t118_2 (.bool true) t119_2)) fun t120_2 =>
                obind (xpick t114_2 t120_2 (.bool false)) fun t121_2 =>
                obind (gv t121_2 true (some t0)) fun t123_2 =>
                obind (gv t121_2 true (xnilck t123_2)) fun t124_2 =>
                obind (gv t121_2 true (xfaddr 1 t124_2)) fun t125_2 =>
                obind (gv t121_2 true (xload false 1 t125_2 S_9)) fun t126_2 =>
                obind (gv t121_2 true (some t0)) fun t128_2 =>
                obind (gv t121_2 true (xnilck t128_2)) fun t129_2 =>
                obind (gv t121_2 true (xfaddr 4 t129_2)) fun t130_2 =>
                obind (gv t121_2 true (xfaddr 1 t130_2)) fun t131_2 =>
                obind (gv t121_2 true (xload false 1 t131_2 S_9)) fun t132_2 =>
                obind (gv t121_2 true (xlen t132_2)) fun t133_2 =>
                gif t121_2 true (fun k => ccall Sp15 [t126_2] S_9 k (fun v S' => K (.pan v) S')) S_9 fun t127_2 S_10 =>
                  gv t121_2 true (xlen t132_2) = some t133_2 ∧ gv t121_2 true (xload false 1 t131_2 S_10) = some t132_2 ∧ 
                  obind (gv t121_2 true (xbini .eql t127_2 t133_2)) fun t134_2 =>
                  obind (xpick t121_2 t134_2 (.bool false)) fun t135_2 =>
                  K (.ret t135_2) S_10) (fun v S' => K (.pan v) S')) (
            obind (xfaddr 1 t3) fun t97_3 =>
            obind (xload false 1 t97_3 S_7) fun t98_3 =>
            obind (xlen t98_3) fun t99_3 =>
            obind (xbini .gtr t99_3 (.int .i64 60000)) fun t100_3 =>
            obind (gv t100_3 true (xfaddr 0 t3)) fun t102_3 =>
            obind (gv t100_3 true (xload false 1 t102_3 S_7)) fun t103_3 =>
            obind (gv t100_3 true (xbini .eql t103_3 (.int .i64 0))) fun t104_3 =>
            obind (gv t100_3 true (some t104_3)) fun t105_3 =>
            obind (gv t105_3 false (xfaddr 0 t3)) fun t106_3 =>
            obind (gv t105_3 false (xload false 1 t106_3 S_7)) fun t107_3 =>
            obind (gv t105_3 false (xbini .eql t107_3 (.int .i64 2))) fun t108_3 =>
            obind (gv t100_3 true (xpick t105_3 (.bool true) t108_3)) fun t109_3 =>
            obind (xpick t100_3 t109_3 (.bool false)) fun t110_3 =>
            obind (xbini .eql t37 (.int .i64 2)) fun t112_3 =>
            obind (xbinb .eql t112_3 t110_3) fun t114_3 =>
            obind (gv t114_3 true (some t37)) fun t116_3 =>
            obind (gv t114_3 true (xbini .eql t116_3 (.int .i64 0))) fun t117_3 =>
            obind (gv t114_3 true (some t117_3)) fun t118_3 =>
            obind (gv t118_3 false (some t110_3)) fun t119_3 =>
            obind (gv t114_3 true (xpick t118_3 (.bool true) t119_3)) fun t120_3 =>
            obind (xpick t114_3 t120_3 (.bool false)) fun t121_3 =>
            obind (gv t121_3 true (some t0)) fun t123_3 =>
            obind (gv t121_3 true (xnilck t123_3)) fun t124_3 =>
            obind (gv t121_3 true (xfaddr 1 t124_3)) fun t125_3 =>
            obind (gv t121_3 true (xload false 1 t125_3 S_7)) fun t126_3 =>
            obind (gv t121_3 true (some t0)) fun t128_3 =>
            obind (gv t121_3 true (xnilck t128_3)) fun t129_3 =>
            obind (gv t121_3 true (xfaddr 4 t129_3)) fun t130_3 =>
            obind (gv t121_3 true (xfaddr 1 t130_3)) fun t131_3 =>
            obind (gv t121_3 true (xload false 1 t131_3 S_7)) fun t132_3 =>
            obind (gv t121_3 true (xlen t132_3)) fun t133_3 =>
            gif t121_3 true (fun k => ccall Sp15 [t126_3] S_7 k (fun v S' => K (.pan v) S')) S_7 fun t127_3 S_11 =>
              gv t121_3 true (xlen t132_3) = some t133_3 ∧ gv t121_3 true (xload false 1 t131_3 S_11) = some t132_3 ∧ 
              obind (gv t121_3 true (xbini .eql t127_3 t133_3)) fun t134_3 =>
              obind (xpick t121_3 t134_3 (.bool false)) fun t135_3 =>
              K (.ret t135_3) S_11)) (fun v S' => K (.pan v) S')) (
        obind (xbini .eql t9 (.int .i64 2)) fun t49 =>
        asplit t49 (
          obind (xnilck t0) fun t51 =>
          obind (xfaddr 1 t51) fun t52 =>
          obind (xload false 1 t52 S_1) fun t53 =>
          obind (xfaddr 1 t3) fun t54 =>
          obind (xload false 1 t54 S_1) fun t55 =>
          ccall Sp14 [t53, t55] S_1 (fun t56 S_12 =>
            obind (xbini .eql t56 (.int .i64 0)) fun t58 =>
            asplit t58 (
              obind (xfaddr 1 t3) fun t60 =>
              obind (xload false 1 t60 S_12) fun t61 =>
              ccall Sp24 [t61] S_12 (fun t62 S_13 =>
                obind (xbuild [.slice [] 0 .nil, .slice [] 0 .nil, .int .i64 0] [(0, 1, t62)]) fun t63 =>
                obind (xnilck t0) fun t64 =>
                obind (xfaddr 4 t64) fun t65 =>
                xstore 3 t65 t63 S_13 fun _ S_14 =>
                  obind (xfaddr 1 t3) fun t97_4 =>
                  obind (xload false 1 t97_4 S_14) fun t98_4 =>
                  obind (xlen t98_4) fun t99_4 =>
                  obind (xbini .gtr t99_4 (.int .i64 60000)) fun t100_4 =>
                  obind (gv t100_4 true (xfaddr 0 t3)) fun t102_4 =>
                  obind (gv t100_4 true (xload false 1 t102_4 S_14)) fun t103_4 =>
                  obind (gv t100_4 true (xbini .eql t103_4 (.int .i64 0))) fun t104_4 =>
                  obind (gv t100_4 true (some t104_4)) fun t105_4 =>
                  obind (gv t105_4 false (xfaddr 0 t3)) fun t106_4 =>
                  obind (gv t105_4 false (xload false 1 t106_4 S_14)) fun t107_4 =>
                  obind (gv t105_4 false (xbini .eql t107_4 (.int .i64 2))) fun t108_4 =>
                  obind (gv t100_4 true (xpick t105_4 (.bool true) t108_4)) fun t109_4 =>
                  obind (xpick t100_4 t109_4 (.bool false)) fun t110_4 =>
                  obind (xbini .eql t56 (.int .i64 2)) fun t112_4 =>
                  obind (xbinb .eql t112_4 t110_4) fun t114_4 =>
                  obind (gv t114_4 true (some t56)) fun t116_4 =>
                  obind (gv t114_4 true (xbini .eql t116_4 (.int .i64 0))) fun t117_4 =>
                  obind (gv t114_4 true (some t117_4)) fun t118_4 =>
                  obind (gv t118_4 false (some t110_4)) fun t119_4 =>
                  obind (gv t114_4 true (xpick t118_4 (.bool true) t119_4)) fun t120_4 =>
                  obind (xpick t114_4 t120_4 (.bool false)) fun t121_4 =>
                  obind (gv t121_4 true (some t0)) fun t123_4 =>
                  obind (gv t121_4 true (xnilck t123_4)) fun t124_4 =>
                  obind (gv t121_4 true (xfaddr 1 t124_4)) fun t125_4 =>
                  obind (gv t121_4 true (xload false 1 t125_4 S_14)) fun t126_4 =>
                  obind (gv t121_4 true (some t0)) fun t128_4 =>
                  obind (gv t121_4 true (xnilck t128_4)) fun t129_4 =>
                  obind (gv t121_4 true (xfaddr 4 t129_4)) fun t130_4 =>
                  obind (gv t121_4 true (xfaddr 1 t130_4)) fun t131_4 =>
                  obind (gv t121_4 true (xload false 1 t131_4 S_14)) fun t132_4 =>
                  obind (gv t121_4 true (xlen t132_4)) fun t133_4 =>
                  gif t121_4 true (fun k => ccall Sp15 [t126_4] S_14 k (fun v S' => K (.pan v) S')) S_14 fun t127_4 S_15 =>
                    gv t121_4 true (xlen t132_4) = some t133_4 ∧ gv t121_4 true (xload false 1 t131_4 S_15) = some t132_4 ∧ 
                    obind (gv t121_4 true (xbini .eql t127_4 t133_4)) fun t134_4 =>
                    obind (xpick t121_4 t134_4 (.bool false)) fun t135_4 =>
                    K (.ret t135_4) S_15) (fun v S' => K (.pan v) S')) (
              obind (xfaddr 1 t3) fun t97_5 =>
              obind (xload false 1 t97_5 S_12) fun t98_5 =>
              obind (xlen t98_5) fun t99_5 =>
              obind (xbini .gtr t99_5 (.int .i64 60000)) fun t100_5 =>
              obind (gv t100_5 true (xfaddr 0 t3)) fun t102_5 =>
              obind (gv t100_5 true (xload false 1 t102_5 S_12)) fun t103_5 =>
              obind (gv t100_5 true (xbini .eql t103_5 (.int .i64 0))) fun t104_5 =>
              obind (gv t100_5 true (some t104_5)) fun t105_5 =>
              obind (gv t105_5 false (xfaddr 0 t3)) fun t106_5 =>
              obind (gv t105_5 false (xload false 1 t106_5 S_12)) fun t107_5 =>
              obind (gv t105_5 false (xbini .eql t107_5 (.int .i64 2))) fun t108_5 =>
              obind (gv t100_5 true (xpick t105_5 (.bool true) t108_5)) fun t109_5 =>
              obind (xpick t100_5 t109_5 (.bool false)) fun t110_5 =>
              obind (xbini .eql t56 (.int .i64 2)) fun t112_5 =>
              obind (xbinb .eql t112_5 t110_5) fun t114_5 =>
              obind (gv t114_5 true (some t56)) fun t116_5 =>
              obind (gv t114_5 true (xbini .eql t116_5 (.int .i64 0))) fun t117_5 =>
              obind (gv t114_5 true (some t117_5)) fun t118_5 =>
              obind (gv t118_5 false (some t110_5)) fun t119_5 =>
              obind (gv t114_5 true (xpick t118_5 (.bool true) t119_5)) fun t120_5 =>
              obind (xpick t114_5 t120_5 (.bool false)) fun t121_5 =>
              obind (gv t121_5 true (some t0)) fun t123_5 =>
              obind (gv t121_5 true (xnilck t123_5)) fun t124_5 =>
              obind (gv t121_5 true (xfaddr 1 t124_5)) fun t125_5 =>
              obind (gv t121_5 true (xload false 1 t125_5 S_12)) fun t126_5 =>
              obind (gv t121_5 true (some t0)) fun t128_5 =>
              obind (gv t121_5 true (xnilck t128_5)) fun t129_5 =>
              obind (gv t121_5 true (xfaddr 4 t129_5)) fun t130_5 =>
              obind (gv t121_5 true (xfaddr 1 t130_5)) fun t131_5 =>
              obind (gv t121_5 true (xload false 1 t131_5 S_12)) fun t132_5 =>
              obind (gv t121_5 true (xlen t132_5)) fun t133_5 =>
              gif t121_5 true (fun k => ccall Sp15 [t126_5] S_12 k (fun v S' => K (.pan v) S')) S_12 fun t127_5 S_16 =>
                gv t121_5 true (xlen t132_5) = some t133_5 ∧ gv t121_5 true (xload false 1 t131_5 S_16) = some t132_5 ∧ 
                obind (gv t121_5 true (xbini .eql t127_5 t133_5)) fun t134_5 =>
                obind (xpick t121_5 t134_5 (.bool false)) fun t135_5 =>
                K (.ret t135_5) S_16)) (fun v S' => K (.pan v) S')) (
          obind (xbini .eql t9 (.int .i64 3)) fun t67 =>
          asplit t67 (
            obind (xnilck t0) fun t69 =>
            obind (xfaddr 4 t69) fun t70 =>
            obind (xfaddr 1 t70) fun t71 =>
            obind (xload false 1 t71 S_1) fun t72 =>
            obind (xlen t72) fun t73 =>
            ccall Sp28 [t0] S_1 (fun t75 S_17 =>
              obind (gv t75 true (some t0)) fun t77 =>
              obind (gv t75 true (xnilck t77)) fun t78 =>
              obind (gv t75 true (xfaddr 4 t78)) fun t79 =>
              obind (gv t75 true (xfaddr 1 t79)) fun t80 =>
              obind (gv t75 true (xload false 1 t80 S_17)) fun t81 =>
              obind (gv t75 true (xlen t81)) fun t82 =>
              obind (gv t75 true (some t73)) fun t83 =>
              obind (gv t75 true (xbini .eql t82 t83)) fun t84 =>
              obind (xpick t75 t84 (.bool false)) fun t85 =>
              K (.ret t85) S_17) (fun v S' => K (.pan v) S')) (
            obind (xbini .eql t9 (.int .i64 4)) fun t87 =>
            asplit t87 (
              obind (xnilck t0) fun t89 =>
              obind (xfaddr 0 t89) fun t90 =>
              obind (xload false 1 t90 S_1) fun t91 =>
              obind (xfaddr 2 t3) fun t92 =>
              obind (xload false 1 t92 S_1) fun t93 =>
              ccall Sp25 [t91, t93] S_1 (fun t94 S_18 =>
                ccall Sp28 [t0] S_18 (fun t96 S_19 =>
                  K (.ret t96) S_19) (fun v S' => K (.pan v) S')) (fun v S' => K (.pan v) S')) (
              obind (xfaddr 1 t3) fun t97_6 =>
              obind (xload false 1 t97_6 S_1) fun t98_6 =>
              obind (xlen t98_6) fun t99_6 =>
              obind (xbini .gtr t99_6 (.int .i64 60000)) fun t100_6 =>
              obind (gv t100_6 true (xfaddr 0 t3)) fun t102_6 =>
              obind (gv t100_6 true (xload false 1 t102_6 S_1)) fun t103_6 =>
              obind (gv t100_6 true (xbini .eql t103_6 (.int .i64 0))) fun t104_6 =>
              obind (gv t100_6 true (some t104_6)) fun t105_6 =>
              obind (gv t105_6 false (xfaddr 0 t3)) fun t106_6 =>
              obind (gv t105_6 false (xload false 1 t106_6 S_1)) fun t107_6 =>
              obind (gv t105_6 false (xbini .eql t107_6 (.int .i64 2))) fun t108_6 =>
              obind (gv t100_6 true (xpick t105_6 (.bool true) t108_6)) fun t109_6 =>
              obind (xpick t100_6 t109_6 (.bool false)) fun t110_6 =>
              obind (xbini .eql (((.int .i64 0))) (.int .i64 2)) fun t112_6 =>
              obind (xbinb .eql t112_6 t110_6) fun t114_6 =>
              obind (gv t114_6 true (some ((.int .i64 0)))) fun t116_6 =>
              obind (gv t114_6 true (xbini .eql t116_6 (.int .i64 0))) fun t117_6 =>
              obind (gv t114_6 true (some t117_6)) fun t118_6 =>
              obind (gv t118_6 false (some t110_6)) fun t119_6 =>
              obind (gv t114_6 true (xpick t118_6 (.bool true) t119_6)) fun t120_6 =>
              obind (xpick t114_6 t120_6 (.bool false)) fun t121_6 =>
              obind (gv t121_6 true (some t0)) fun t123_6 =>
              obind (gv t121_6 true (xnilck t123_6)) fun t124_6 =>
              obind (gv t121_6 true (xfaddr 1 t124_6)) fun t125_6 =>
              obind (gv t121_6 true (xload false 1 t125_6 S_1)) fun t126_6 =>
              obind (gv t121_6 true (some t0)) fun t128_6 =>
              obind (gv t121_6 true (xnilck t128_6)) fun t129_6 =>
              obind (gv t121_6 true (xfaddr 4 t129_6)) fun t130_6 =>
              obind (gv t121_6 true (xfaddr 1 t130_6)) fun t131_6 =>
              obind (gv t121_6 true (xload false 1 t131_6 S_1)) fun t132_6 =>
              obind (gv t121_6 true (xlen t132_6)) fun t133_6 =>
              gif t121_6 true (fun k => ccall Sp15 [t126_6] S_1 k (fun v S' => K (.pan v) S')) S_1 fun t127_6 S_20 =>
                gv t121_6 true (xlen t132_6) = some t133_6 ∧ gv t121_6 true (xload false 1 t131_6 S_20) = some t132_6 ∧ 
                obind (gv t121_6 true (xbini .eql t127_6 t133_6)) fun t134_6 =>
                obind (xpick t121_6 t134_6 (.bool false)) fun t135_6 =>
                K (.ret t135_6) S_20)))))
def O10 : Nat → List Nat := lk [(4, [0, 1, 2, 3, 4, 5, 6, 7]), (6, [0, 1, 2, 3, 4, 5, 6, 7, 8, 9, 10]), (12, [0, 1, 2, 3, 4, 5, 6, 7]), (19, [0, 1, 2, 3, 4, 5, 6]), (22, [0, 1, 2, 3, 4, 5, 6, 7, 8, 9, 10, 11, 12, 13, 14, 15, 17, 18, 19, 20, 21, 22, 16, 23, 24, 25])]
def H10 : Nat → List Nat := lk []
theorem W10_eq (Sp12 : Spec) (Sp13 : Spec) (Sp14 : Spec) (Sp15 : Spec) (Sp22 : Spec) (Sp23 : Spec) (Sp24 : Spec) (Sp25 : Spec) (Sp28 : Spec) (t0 t1 : AV) (S : St) (K : En → St → Prop) : bcall Go.Proofs.Tryz.prog (tab [(12, Sp12), (13, Sp13), (14, Sp14), (15, Sp15), (22, Sp22), (23, Sp23), (24, Sp24), (25, Sp25), (28, Sp28)]) (own []) O10 H10 Go.Proofs.Tryz.f10 [t0, t1] S K = (2 = 2 ∧ W10 Sp12 Sp13 Sp14 Sp15 Sp22 Sp23 Sp24 Sp25 Sp28 t0 t1 S K) := by kernel_rfl

/-- (*signet/signetlaw12.play).open -/
def W28 (Sp11 : Spec) (Sp15 : Spec) (Sp24 : Spec) (Sp26 : Spec) (t0 : AV) (S : St) (K : En → St → Prop) : Prop :=
  obind (xnilck t0) fun t9 =>
  obind (xfaddr 0 t9) fun t10 =>
  obind (xload false 1 t10 S) fun t11 =>
  obind (xnilck t0) fun t13 =>
  obind (xfaddr 2 t13) fun t14 =>
  obind (xload false 1 t14 S) fun t15 =>
  obind (xnilck t0) fun t17 =>
  obind (xfaddr 3 t17) fun t18 =>
  obind (xload false 1 t18 S) fun t19 =>
  ccall Sp11 [t11, t15, t19] S (fun t20 S_1 =>
    obind (xextract t20 0) fun t21 =>
    obind (xextract t20 1) fun t22 =>
    obind (xextract t20 2) fun t23 =>
    obind (xextract t20 3) fun t24 =>
    obind (xbini .neq t24 (.int .i64 0)) fun t26 =>
    obind (gv t26 false (some t21)) fun t28 =>
    obind (gv t26 false (xisnil false (xnilp t28))) fun t29 =>
    obind (xpick t26 (.bool true) t29) fun t30 =>
    obind (gv t30 false (some t0)) fun t32 =>
    obind (gv t30 false (xnilck t32)) fun t33 =>
    obind (gv t30 false (xfaddr 4 t33)) fun t34 =>
    obind (gv t30 false (xload true 3 t34 S_1)) fun t35 =>
    obind (gv t30 false (some t22)) fun t36 =>
    obind (gv t30 false (some t23)) fun t37 =>
    gif t30 false (fun k => ccall Sp26 [t35, t36, t37] S_1 k (fun v S' => K (.pan v) S')) S_1 fun t38 S_2 =>
      obind (gv t30 false (xun .not t38)) fun t39 =>
      obind (xpick t30 (.bool true) t39) fun t40 =>
      obind (gv t40 false (some t21)) fun t42 =>
      gif t40 false (fun k => ccall Sp15 [t42] S_2 k (fun v S' => K (.pan v) S')) S_2 fun t43 S_3 =>
        obind (gv t40 false (some t23)) fun t44 =>
        obind (gv t40 false (xlen t44)) fun t45 =>
        obind (gv t40 false (xbini .neq t43 t45)) fun t46 =>
        obind (xpick t40 (.bool true) t46) fun t47 =>
        asplit t47 (
          K (.ret ((.bool false))) S_3) (
          obind (xnilck t0) fun t50 =>
          obind (xfaddr 1 t50) fun t51 =>
          xstore 1 t51 t21 S_3 fun _ S_4 =>
            obind (xnilck t0) fun t56 =>
            obind (xfaddr 4 t56) fun t57 =>
            obind (xfaddr 1 t57) fun t58 =>
            obind (xload false 1 t58 S_4) fun t59 =>
            obind (xlen t23) fun t61 =>
            obind (xslice 1 t59 none (some t61) none) fun t62 =>
            obind (xlen t23) fun t64 =>
            ccall Sp24 [t22] S_4 (fun t54 S_5 =>
              xlen t23 = some t64 ∧ xlen t23 = some t61 ∧ xload false 1 t58 S_5 = some t59 ∧ 
              obind (xbuild [.slice [] 0 .nil, .slice [] 0 .nil, .int .i64 0] [(0, 1, t54), (1, 1, t62), (2, 1, t64)]) fun t65 =>
              obind (xnilck t0) fun t66 =>
              obind (xfaddr 4 t66) fun t67 =>
              xstore 3 t67 t65 S_5 fun _ S_6 =>
                K (.ret ((.bool true))) S_6) (fun v S' => K (.pan v) S'))) (fun v S' => K (.pan v) S')
def O28 : Nat → List Nat := lk [(1, [0, 1, 2, 3, 4, 5, 6, 7, 8, 9, 10, 11, 12, 13, 14, 15, 16, 17, 18, 19, 20, 21]), (5, [0, 1, 3, 4, 5, 6, 7, 8, 9, 10, 11, 12, 2, 13, 14, 15, 16])]
def H28 : Nat → List Nat := lk []
theorem W28_eq (Sp11 : Spec) (Sp15 : Spec) (Sp24 : Spec) (Sp26 : Spec) (t0 : AV) (S : St) (K : En → St → Prop) : bcall Go.Proofs.Tryz.prog (tab [(11, Sp11), (15, Sp15), (24, Sp24), (26, Sp26)]) (own []) O28 H28 Go.Proofs.Tryz.f28 [t0] S K = (1 = 1 ∧ W28 Sp11 Sp15 Sp24 Sp26 t0 S K) := by kernel_rfl

end Go.AM
/-
  WHAT EACH FUNCTION DOES, READ FROM ITS TEXT BY A PROGRAM (pr.py), AND CHECKED AGAINST THE LOADED FUNCTION BY THE KERNEL.
-/
namespace Go.AM
open Go
set_option maxRecDepth 100000
set_option linter.unusedVariables false

/-- signet/signetlaw12.WalNone -/
def W4 (Sp6 : Spec) (Sp8 : Spec) (Sp11 : Spec) (Sp12 : Spec) (Sp13 : Spec) (Sp14 : Spec) (Sp15 : Spec) (Sp16 : Spec) (Sp17 : Spec) (Sp18 : Spec) (Sp19 : Spec) (t0 t1 t2 : AV) (S : St) (K : En → St → Prop) : Prop :=
  ccall Sp6 [(.int .i64 1048576)] S (fun t28 S_1 =>
    obind (xextract t28 0) fun t29 =>
    obind (xextract t28 1) fun t30 =>
    ccall Sp11 [t29, t0, t1] S_1 (fun t35 S_2 =>
      obind (xextract t35 0) fun t36 =>
      obind (xextract t35 1) fun t37 =>
      obind (xextract t35 2) fun t38 =>
      obind (xextract t35 3) fun t39 =>
      obind (xslen t0) fun t41 =>
      obind (xbini .geq t41 (.int .i64 1)) fun t42 =>
      obind (gv t42 true (some t0)) fun t44 =>
      obind (gv t42 true (xslen t44)) fun t45 =>
      obind (gv t42 true (xbini .leq t45 (.int .i64 32))) fun t46 =>
      obind (xpick t42 t46 (.bool false)) fun t47 =>
      obind (gv t47 true (some t1)) fun t49 =>
      obind (gv t47 true (xbini .geq t49 (.int .i64 1))) fun t50 =>
      obind (xpick t47 t50 (.bool false)) fun t51 =>
      obind (gv t51 true (some t1)) fun t53 =>
      obind (gv t51 true (xbini .leq t53 (.int .i64 1048576))) fun t54 =>
      obind (xpick t51 t54 (.bool false)) fun t55 =>
      ccall Sp11 [(.ptr none), t0, t1] S_2 (fun t59 S_3 =>
        obind (xextract t59 0) fun t60 =>
        obind (xextract t59 1) fun t61 =>
        obind (xextract t59 2) fun t62 =>
        obind (xextract t59 3) fun t63 =>
        ccall Sp8 [] S_3 (fun t64 S_4 =>
          obind (xun .not t64) fun t65 =>
          obind (gv t65 false (some t39)) fun t67 =>
          obind (gv t65 false (xbini .eql t67 (.int .i64 0))) fun t68 =>
          obind (gv t65 false (some t55)) fun t69 =>
          obind (gv t65 false (xbinb .neq t68 t69)) fun t70 =>
          obind (xpick t65 (.bool true) t70) fun t71 =>
          obind (gv t71 false (some t55)) fun t73 =>
          obind (gv t71 false (xun .not t73)) fun t74 =>
          obind (gv t71 false (some t74)) fun t75 =>
          obind (gv t75 true (some t39)) fun t76 =>
          obind (gv t75 true (xbini .neq t76 (.int .i64 1))) fun t77 =>
          obind (gv t75 true (some t77)) fun t78 =>
          obind (gv t78 false (some t36)) fun t79 =>
          obind (gv t78 false (xisnil true (xnilp t79))) fun t80 =>
          obind (gv t75 true (xpick t78 (.bool true) t80)) fun t81 =>
          obind (gv t71 false (xpick t75 t81 (.bool false))) fun t82 =>
          obind (xpick t71 (.bool true) t82) fun t83 =>
          obind (gv t83 false (some t63)) fun t85 =>
          obind (gv t83 false (xbini .neq t85 (.int .i64 12))) fun t86 =>
          obind (xpick t83 (.bool true) t86) fun t87 =>
          obind (gv t87 false (some ((.ptr none)))) fun t89 =>
          obind (gv t87 false (some t2)) fun t90 =>
          gif t87 false (fun k => ccall Sp12 [t89, t90] S_4 k (fun v S' => K (.pan v) S')) S_4 fun t91 S_5 =>
            obind (gv t87 false (xbini .neq t91 (.int .i64 12))) fun t92 =>
            obind (xpick t87 (.bool true) t92) fun t93 =>
            obind (gv t93 false (some ((.ptr none)))) fun t95 =>
            gif t93 false (fun k => ccall Sp13 [t95] S_5 k (fun v S' => K (.pan v) S')) S_5 fun t96 S_6 =>
              obind (gv t93 false (xbini .neq t96 (.int .i64 12))) fun t97 =>
              obind (xpick t93 (.bool true) t97) fun t98 =>
              obind (gv t98 false (some ((.ptr none)))) fun t100 =>
              obind (gv t98 false (some t2)) fun t101 =>
              gif t98 false (fun k => ccall Sp14 [t100, t101] S_6 k (fun v S' => K (.pan v) S')) S_6 fun t102 S_7 =>
                obind (gv t98 false (xbini .neq t102 (.int .i64 12))) fun t103 =>
                obind (xpick t98 (.bool true) t103) fun t104 =>
                obind (gv t104 false (some ((.ptr none)))) fun t106 =>
                gif t104 false (fun k => ccall Sp15 [t106] S_7 k (fun v S' => K (.pan v) S')) S_7 fun t107 S_8 =>
                  obind (gv t104 false (xbini .neq t107 (.int .i64 0))) fun t108 =>
                  obind (xpick t104 (.bool true) t108) fun t109 =>
                  asplit t109 (
                    K (.ret ((.bool false))) S_8) (
                    obind (xun .not t55) fun t111 =>
                    obind (gv t111 false (some t2)) fun t113 =>
                    obind (gv t111 false (xlen t113)) fun t114 =>
                    obind (gv t111 false (xbini .gtr t114 (.int .i64 60000))) fun t115 =>
                    obind (xpick t111 (.bool true) t115) fun t116 =>
                    asplit t116 (
                      K (.ret ((.bool true))) S_8) (
                      ccall Sp16 [t2] S_8 (fun t118 S_9 =>
                        ccall Sp12 [t36, t118] S_9 (fun t121 S_10 =>
                          obind (xbini .neq t121 (.int .i64 0)) fun t122 =>
                          obind (gv t122 false (some t118)) fun t124 =>
                          obind (gv t122 false (some t2)) fun t125 =>
                          gif t122 false (fun k => ccall Sp17 [t124, t125] S_10 k (fun v S' => K (.pan v) S')) S_10 fun t126 S_11 =>
                            obind (gv t122 false (xun .not t126)) fun t127 =>
                            obind (xpick t122 (.bool true) t127) fun t128 =>
                            asplit t128 (
                              K (.ret ((.bool false))) S_11) (
                              aloop (fun rec l S_12 =>
                                obind (xlen t118) fun t131 =>
                                obind (xbini .lss ((g l 0)) t131) fun t132 =>
                                asplit t132 (
                                  obind (xiaddr 1 t118 ((g l 0))) fun t137 =>
                                  obind (xload false 1 t137 S_12) fun t138 =>
                                  obind (xbini .add t138 (.int .u8 1)) fun t139 =>
                                  obind (xiaddr 1 t118 ((g l 0))) fun t140 =>
                                  xstore 1 t140 t139 S_12 fun _ S_13 =>
                                    obind (xbini .add ((g l 0)) (.int .i64 1)) fun t134 =>
                                    ∃ S'', S''.le S_13 ∧ rec [t134] S'') (
                                  ccall Sp11 [t29, t0, t1] S_12 (fun t145 S_14 =>
                                    obind (xextract t145 0) fun t146 =>
                                    obind (xextract t145 1) fun t147 =>
                                    obind (xextract t145 2) fun t148 =>
                                    obind (xextract t145 3) fun t149 =>
                                    ccall Sp11 [t29, t0, t1] S_14 (fun t154 S_15 =>
                                      obind (xextract t154 0) fun t155 =>
                                      obind (xextract t154 1) fun t156 =>
                                      obind (xextract t154 2) fun t157 =>
                                      obind (xextract t154 3) fun t158 =>
                                      obind (xbini .neq t149 (.int .i64 0)) fun t160 =>
                                      obind (gv t160 false (some t158)) fun t162 =>
                                      obind (gv t160 false (xbini .neq t162 (.int .i64 0))) fun t163 =>
                                      obind (xpick t160 (.bool true) t163) fun t164 =>
                                      obind (gv t164 false (some t148)) fun t166 =>
                                      obind (gv t164 false (xlen t166)) fun t167 =>
                                      obind (gv t164 false (xbini .neq t167 (.int .i64 1))) fun t168 =>
                                      obind (xpick t164 (.bool true) t168) fun t169 =>
                                      obind (gv t169 false (some t157)) fun t171 =>
                                      obind (gv t169 false (xlen t171)) fun t172 =>
                                      obind (gv t169 false (xbini .neq t172 (.int .i64 1))) fun t173 =>
                                      obind (xpick t169 (.bool true) t173) fun t174 =>
                                      asplit t174 (
                                        K (.ret ((.bool false))) S_15) (
                                        obind (xiaddr 1 t148 (.int .i64 0)) fun t176 =>
                                        obind (xload false 1 t176 S_15) fun t177 =>
                                        ccall Sp18 [t177, t2] S_15 (fun t179 S_16 =>
                                          obind (gv t179 true (some t147)) fun t181 =>
                                          obind (gv t179 true (some t148)) fun t182 =>
                                          obind (gv t179 true (xiaddr 1 t182 (.int .i64 0))) fun t183 =>
                                          obind (gv t179 true (xload false 1 t183 S_16)) fun t184 =>
                                          obind (gv t179 true (some t157)) fun t185 =>
                                          obind (gv t179 true (xiaddr 1 t185 (.int .i64 0))) fun t186 =>
                                          obind (gv t179 true (xload false 1 t186 S_16)) fun t187 =>
                                          obind (gv t179 true (xbslice [.slice [] 0 .nil, .slice [] 0 .nil, .slice [] 0 .nil] 3 [(0, 1, t181), (1, 1, t184), (2, 1, t187)])) fun t188 =>
                                          gif t179 true (fun k => ccall Sp19 [t188] S_16 k (fun v S' => K (.pan v) S')) S_16 fun t189 S_17 =>
                                            obind (xpick t179 t189 (.bool false)) fun t190 =>
                                            K (.ret t190) S_17) (fun v S' => K (.pan v) S'))) (fun v S' => K (.pan v) S')) (fun v S' => K (.pan v) S'))) [((.int .i64 0))] S_11)) (fun v S' => K (.pan v) S')) (fun v S' => K (.pan v) S')))) (fun v S' => K (.pan v) S')) (fun v S' => K (.pan v) S')) (fun v S' => K (.pan v) S')) (fun v S' => K (.pan v) S')
def O4 : Nat → List Nat := lk [(21, [0, 1, 2, 3, 4, 5, 6, 7, 8, 9, 10, 11, 12, 13, 14, 15, 16])]
def H4 : Nat → List Nat := lk [(14, [20])]
theorem W4_eq (Sp6 : Spec) (Sp8 : Spec) (Sp11 : Spec) (Sp12 : Spec) (Sp13 : Spec) (Sp14 : Spec) (Sp15 : Spec) (Sp16 : Spec) (Sp17 : Spec) (Sp18 : Spec) (Sp19 : Spec) (t0 t1 t2 : AV) (S : St) (K : En → St → Prop) : bcall Go.Proofs.Tryz.prog (tab [(6, Sp6), (8, Sp8), (11, Sp11), (12, Sp12), (13, Sp13), (14, Sp14), (15, Sp15), (16, Sp16), (17, Sp17), (18, Sp18), (19, Sp19)]) (own []) O4 H4 Go.Proofs.Tryz.f4 [t0, t1, t2] S K = (3 = 3 ∧ W4 Sp6 Sp8 Sp11 Sp12 Sp13 Sp14 Sp15 Sp16 Sp17 Sp18 Sp19 t0 t1 t2 S K) := by kernel_rfl

end Go.AM
