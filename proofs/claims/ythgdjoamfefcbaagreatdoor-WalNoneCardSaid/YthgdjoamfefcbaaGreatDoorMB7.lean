/-
  next, READ FROM ITS TEXT BY A PROGRAM (pr.py), its answer's bytes a row of one's own; CHECKED AGAINST THE LOADED FUNCTION BY THE KERNEL.
-/
import Derived.Test.YthgdjoamfefcbaaGreatDoorMC
set_option linter.all false
set_option linter.unusedVariables false
set_option linter.unusedSimpArgs false
set_option linter.unnecessarySimpa false
namespace Go.AM
open Go
set_option maxRecDepth 100000
/-- signet/wal.next -/
def W32o (Sp48 : Spec) (Sp49 : Spec) (Sp50 : Spec) (Sp51 : Spec) (t0 : AV) (S : St) (K : En → St → Prop) : Prop :=
  obind (xlen t0) fun t11 =>
  obind (xbini .lss t11 (.int .i64 8)) fun t12 =>
  asplit t12 (
    K (.ret (.tuple [((.int .i64 0)), ((.slice [] 0 .nil)), ((.int .i64 0))])) S) (
    obind (xiaddr 1 t0 (.int .i64 0)) fun t14 =>
    obind (xload false 1 t14 S) fun t15 =>
    obind (xint2int .i64 t15) fun t16 =>
    obind (xbini .shl t16 (.int .u64 24)) fun t17 =>
    obind (xbini .add (.int .i64 8) t17) fun t18 =>
    obind (xiaddr 1 t0 (.int .i64 1)) fun t20 =>
    obind (xload false 1 t20 S) fun t21 =>
    obind (xint2int .i64 t21) fun t22 =>
    obind (xbini .shl t22 (.int .u64 16)) fun t23 =>
    obind (xbini .add t18 t23) fun t24 =>
    obind (xiaddr 1 t0 (.int .i64 2)) fun t26 =>
    obind (xload false 1 t26 S) fun t27 =>
    obind (xint2int .i64 t27) fun t28 =>
    obind (xbini .shl t28 (.int .u64 8)) fun t29 =>
    obind (xbini .add t24 t29) fun t30 =>
    obind (xiaddr 1 t0 (.int .i64 3)) fun t32 =>
    obind (xload false 1 t32 S) fun t33 =>
    obind (xint2int .i64 t33) fun t34 =>
    obind (xbini .add t30 t34) fun t35 =>
    obind (xlen t0) fun t38 =>
    obind (xbini .gtr t35 t38) fun t39 =>
    asplit t39 (
      K (.ret (.tuple [((.int .i64 0)), ((.slice [] 0 .nil)), ((.int .i64 0))])) S) (
      obind (xslice 1 t0 none (some t35) none) fun t43 =>
      ccall Sp48 [t43] S (fun t44 S_1 =>
        obind (xextract t44 0) fun t45 =>
        obind (xextract t44 1) fun t46 =>
        obind (xbini .neq t46 (.int .i64 0)) fun t48 =>
        asplit t48 (
          K (.ret (.tuple [((.int .i64 0)), ((.slice [] 0 .nil)), ((.int .i64 0))])) S_1) (
          ccall Sp49 [t45] S_1 (fun t50 S_2 =>
            ccall Sp50 [t45] S_2 (fun t52 S_3 =>
              ccall Sp51 [t45] S_3 (fun t54 S_4 =>
                obind (xbini .neq t54 (.int .i64 0)) fun t55 =>
                obind (gv t55 false (some t50)) fun t57 =>
                obind (gv t55 false (xbini .gtr t57 (.int .i64 2))) fun t58 =>
                obind (xpick t55 (.bool true) t58) fun t59 =>
                asplit t59 (
                  K (.ret (.tuple [((.int .i64 0)), ((.slice [] 0 .nil)), ((.int .i64 0))])) S_4) (
                  xs2bo t52 S_4 fun t62 S_5 =>
                    K (.ret (.tuple [t50, t62, t35])) S_5)) (fun v S' => K (.pan v) S')) (fun v S' => K (.pan v) S')) (fun v S' => K (.pan v) S'))) (fun v S' => K (.pan v) S')))
def O32o : Nat → List Nat := lk [(3, [0, 1, 2, 3, 4, 5, 6, 7, 8, 9, 10, 11, 12, 13, 14, 15, 16, 17, 18, 19, 20, 21, 22, 23])]
def H32o : Nat → List Nat := lk []
theorem W32o_eq (Sp48 : Spec) (Sp49 : Spec) (Sp50 : Spec) (Sp51 : Spec) (t0 : AV) (S : St) (K : En → St → Prop) : bcall Go.Proofs.Tryz.prog (tab [(48, Sp48), (49, Sp49), (50, Sp50), (51, Sp51)]) (own [62]) O32o H32o Go.Proofs.Tryz.f32 [t0] S K = (1 = 1 ∧ W32o Sp48 Sp49 Sp50 Sp51 t0 S K) := by kernel_rfl

end Go.AM
