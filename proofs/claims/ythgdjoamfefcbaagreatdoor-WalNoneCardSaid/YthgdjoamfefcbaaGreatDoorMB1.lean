/-
  WHAT EACH FUNCTION DOES, READ FROM ITS TEXT BY A PROGRAM (pr.py), AND CHECKED AGAINST THE LOADED FUNCTION BY THE KERNEL.
-/
import Derived.Test.YthgdjoamfefcbaaGreatDoorMA2
import Derived.Test.YthgdjoamfefcbaaGreatDoorProg
import Derived.KernelRfl
set_option linter.all false
set_option linter.unusedVariables false
set_option linter.unusedSimpArgs false
set_option linter.unnecessarySimpa false
namespace Go.AM
open Go
set_option maxRecDepth 100000
set_option linter.unusedVariables false

/-- signet/plate.New -/
def W6 (t0 : AV) (S : St) (K : En → St → Prop) : Prop :=
  obind (xbini .lss t0 (.int .i64 0)) fun t5 =>
  obind (gv t5 false (some t0)) fun t7 =>
  obind (gv t5 false (xbini .gtr t7 (.int .i64 268435456))) fun t8 =>
  obind (xpick t5 (.bool true) t8) fun t9 =>
  asplit t9 (
    K (.ret (.tuple [((.ptr none)), ((.int .i64 1))])) S) (
    xmkmap S fun t10 S_1 =>
      obind (xbuild [.map none, .int .i64 0, .int .i64 0, .bool false, .int .i64 0, .bool false] [(0, 1, t10), (1, 1, t0)]) fun t12 =>
      xbox 6 t12 S_1 fun t13 S_2 =>
        K (.ret (.tuple [t13, ((.int .i64 0))])) S_2)
def O6 : Nat → List Nat := lk []
def H6 : Nat → List Nat := lk []
theorem W6_eq (t0 : AV) (S : St) (K : En → St → Prop) : bcall Go.Proofs.Tryz.prog (tab []) (own []) O6 H6 Go.Proofs.Tryz.f6 [t0] S K = (1 = 1 ∧ W6 t0 S K) := by kernel_rfl

/-- signet/signetlaw12.bulk -/
def W9 (t0 : AV) (S : St) (K : En → St → Prop) : Prop :=
  aloop (fun rec l S_1 =>
    obind (xlen t0) fun t7 =>
    obind (xbini .lss ((g l 1)) t7) fun t8 =>
    obind (gv t8 true (some (g l 1))) fun t10 =>
    obind (gv t8 true (xbini .lss t10 (.int .i64 60))) fun t11 =>
    obind (xpick t8 t11 (.bool false)) fun t12 =>
    asplit t12 (
      obind (xiaddr 3 t0 ((g l 1))) fun t17 =>
      obind (xfaddr 1 t17) fun t18 =>
      obind (xload false 1 t18 S_1) fun t19 =>
      obind (xlen t19) fun t20 =>
      obind (xbini .leq t20 (.int .i64 60000)) fun t21 =>
      asplit t21 (
        obind (xiaddr 3 t0 ((g l 1))) fun t25 =>
        obind (xfaddr 1 t25) fun t26 =>
        obind (xload false 1 t26 S_1) fun t27 =>
        obind (xlen t27) fun t28 =>
        obind (xbini .add ((g l 0)) t28) fun t29 =>
        obind (xbini .add ((g l 1)) (.int .i64 1)) fun t14 =>
        ∃ S'', S''.le S_1 ∧ rec [t29, t14] S'') (
        obind (xbini .add ((g l 1)) (.int .i64 1)) fun t14_1 =>
        ∃ S'', S''.le S_1 ∧ rec [(g l 0), t14_1] S'')) (
      obind (xbini .gtr ((g l 0)) (.int .i64 1048576)) fun t31 =>
      K (.ret t31) S_1)) [((.int .i64 0)), ((.int .i64 0))] S
def O9 : Nat → List Nat := lk []
def H9 : Nat → List Nat := lk [(3, [3, 4])]
theorem W9_eq (t0 : AV) (S : St) (K : En → St → Prop) : bcall Go.Proofs.Tryz.prog (tab []) (own []) O9 H9 Go.Proofs.Tryz.f9 [t0] S K = (1 = 1 ∧ W9 t0 S K) := by kernel_rfl

/-- signet/wal.Open -/
def W11 (Sp21 : Spec) (Sp29 : Spec) (Sp30 : Spec) (Sp31 : Spec) (Sp32 : Spec) (Sp33 : Spec) (Sp34 : Spec) (Sp35 : Spec) (t0 t1 t2 : AV) (S : St) (K : En → St → Prop) : Prop :=
  obind (xisnil false (xnilp t0)) fun t25 =>
  asplit t25 (
    K (.ret (.tuple [((.ptr none)), ((.slice [] 0 .nil)), ((.slice [] 0 .nil)), ((.int .i64 12))])) S) (
    obind (xslen t1) fun t28 =>
    obind (xbini .lss t28 (.int .i64 1)) fun t29 =>
    obind (gv t29 false (some t1)) fun t31 =>
    obind (gv t29 false (xslen t31)) fun t32 =>
    obind (gv t29 false (xbini .gtr t32 (.int .i64 32))) fun t33 =>
    obind (xpick t29 (.bool true) t33) fun t34 =>
    obind (gv t34 false (some t2)) fun t36 =>
    obind (gv t34 false (xbini .lss t36 (.int .i64 1))) fun t37 =>
    obind (xpick t34 (.bool true) t37) fun t38 =>
    obind (gv t38 false (some t2)) fun t40 =>
    obind (gv t38 false (xbini .gtr t40 (.int .i64 1048576))) fun t41 =>
    obind (xpick t38 (.bool true) t41) fun t42 =>
    asplit t42 (
      K (.ret (.tuple [((.ptr none)), ((.slice [] 0 .nil)), ((.slice [] 0 .nil)), ((.int .i64 1))])) S) (
      ccall Sp21 [t0] S (fun t45 S_1 =>
        asplit t45 (
          K (.ret (.tuple [((.ptr none)), ((.slice [] 0 .nil)), ((.slice [] 0 .nil)), ((.int .i64 9))])) S_1) (
          obind (xbuild [.ptr none, .str ⟨#[]⟩, .int .i64 0, .int .i64 0, .int .i64 0, .int .i64 0, .bool false] [(0, 1, t0), (1, 1, t1), (2, 1, t2)]) fun t49 =>
          xbox 7 t49 S_1 fun t50 S_2 =>
            ccall Sp29 [t50] S_2 (fun t52 S_3 =>
              obind (xlen t52) fun t54 =>
              aloop (fun rec l S_4 =>
                obind (xbini .lss (g l 1) t54) fun t56 =>
                asplit t56 (
                  obind (xiaddr 1 t52 (g l 1)) fun t58 =>
                  obind (xload false 1 t58 S_4) fun t59 =>
                  ccall Sp31 [t50, t59] S_4 (fun t64 S_5 =>
                    ccall Sp30 [t0, t64] S_5 (fun t65 S_6 =>
                      obind (xextract t65 0) fun t66 =>
                      obind (xextract t65 1) fun t67 =>
                      ccall Sp32 [t66] S_6 (fun t70 S_7 =>
                        obind (xextract t70 0) fun t71 =>
                        obind (xextract t70 1) fun t72 =>
                        obind (xextract t70 2) fun t73 =>
                        obind (xbini .gtr t73 (.int .i64 0)) fun t75 =>
                        obind (gv t75 true (some t71)) fun t77 =>
                        obind (gv t75 true (xbini .eql t77 (.int .i64 0))) fun t78 =>
                        obind (xpick t75 t78 (.bool false)) fun t79 =>
                        asplit t79 (
                          obind (xbini .add (g l 1) (.int .i64 1)) fun t81 =>
                          ∃ S'', S''.le S_7 ∧ rec [(((((g l 1))))), t81] S'') (
                          obind (xbini .add (g l 1) (.int .i64 1)) fun t81_1 =>
                          ∃ S'', S''.le S_7 ∧ rec [(g l 0), t81_1] S'')) (fun v S' => K (.pan v) S')) (fun v S' => K (.pan v) S')) (fun v S' => K (.pan v) S')) (
                  obind (xbini .lss ((g l 0)) (.int .i64 0)) fun t83 =>
                  asplit t83 (
                    obind (xlen t52) fun t85 =>
                    aloop (fun rec_1 l_1 S_8 =>
                      obind (xbini .lss (g l_1 1) t85) fun t87 =>
                      asplit t87 (
                        obind (xiaddr 1 t52 (g l_1 1)) fun t88 =>
                        obind (xload false 1 t88 S_8) fun t89 =>
                        ccall Sp33 [((g l_1 0)), t89] S_8 (fun t92 S_9 =>
                          obind (xbini .neq t92 (.int .i64 0)) fun t94 =>
                          asplit t94 (
                            K (.ret (.tuple [((.ptr none)), ((.slice [] 0 .nil)), ((.slice [] 0 .nil)), t92])) S_9) (
                            obind (xbini .add (g l_1 1) (.int .i64 1)) fun t96 =>
                            ∃ S'', S''.le S_9 ∧ rec_1 [(g l_1 0), t96] S'')) (fun v S' => K (.pan v) S')) (
                        ccall Sp34 [((g l_1 0)), (.int .i64 1), (.slice [] 0 .nil)] S_8 (fun t98 S_10 =>
                          obind (xbini .neq t98 (.int .i64 0)) fun t100 =>
                          asplit t100 (
                            K (.ret (.tuple [((.ptr none)), ((.slice [] 0 .nil)), ((.slice [] 0 .nil)), t98])) S_10) (
                            K (.ret (.tuple [(((g l_1 0))), ((.slice [] 0 .nil)), ((.slice [] 0 .nil)), ((.int .i64 0))])) S_10)) (fun v S' => K (.pan v) S'))) [t50, ((.int .i64 0))] S_4) (
                    ccall Sp35 [t50, t52, ((g l 0))] S_4 (fun t107 S_11 =>
                      obind (xextract t107 0) fun t108 =>
                      obind (xextract t107 1) fun t109 =>
                      obind (xextract t107 2) fun t110 =>
                      obind (xbini .neq t110 (.int .i64 0)) fun t112 =>
                      asplit t112 (
                        K (.ret (.tuple [((.ptr none)), ((.slice [] 0 .nil)), ((.slice [] 0 .nil)), t110])) S_11) (
                        K (.ret (.tuple [t50, t108, t109, ((.int .i64 0))])) S_11)) (fun v S' => K (.pan v) S')))) [((.int .i64 (-1))), ((.int .i64 0))] S_3) (fun v S' => K (.pan v) S'))) (fun v S' => K (.pan v) S')))
def O11 : Nat → List Nat := lk []
def H11 : Nat → List Nat := lk [(11, [11, 55]), (20, [6, 86])]
theorem W11_eq (Sp21 : Spec) (Sp29 : Spec) (Sp30 : Spec) (Sp31 : Spec) (Sp32 : Spec) (Sp33 : Spec) (Sp34 : Spec) (Sp35 : Spec) (t0 t1 t2 : AV) (S : St) (K : En → St → Prop) : bcall Go.Proofs.Tryz.prog (tab [(21, Sp21), (29, Sp29), (30, Sp30), (31, Sp31), (32, Sp32), (33, Sp33), (34, Sp34), (35, Sp35)]) (own []) O11 H11 Go.Proofs.Tryz.f11 [t0, t1, t2] S K = (3 = 3 ∧ W11 Sp21 Sp29 Sp30 Sp31 Sp32 Sp33 Sp34 Sp35 t0 t1 t2 S K) := by kernel_rfl

/-- (*signet/wal.Wal).Append -/
def W12 (Sp31 : Spec) (Sp36 : Spec) (Sp37 : Spec) (Sp38 : Spec) (Sp39 : Spec) (t0 t1 : AV) (S : St) (K : En → St → Prop) : Prop :=
  obind (xisnil false (xnilp t0)) fun t12 =>
  asplit t12 (
    K (.ret ((.int .i64 12))) S) (
    obind (xlen t1) fun t15 =>
    obind (xbini .gtr t15 (.int .i64 60000)) fun t16 =>
    asplit t16 (
      K (.ret ((.int .i64 2))) S) (
      obind (xnilck t0) fun t19 =>
      obind (xfaddr 6 t19) fun t20 =>
      obind (xload false 1 t20 S) fun t21 =>
      asplit t21 (
        K (.ret ((.int .i64 9))) S) (
        obind (xnilck t0) fun t23 =>
        obind (xfaddr 4 t23) fun t24 =>
        obind (xload false 1 t24 S) fun t25 =>
        obind (xnilck t0) fun t27 =>
        obind (xfaddr 2 t27) fun t28 =>
        obind (xload false 1 t28 S) fun t29 =>
        obind (xbini .geq t25 t29) fun t30 =>
        asplit t30 (
          ccall Sp36 [(.int .i64 1), (.slice [] 0 .nil)] S (fun t31 S_1 =>
            obind (xnilck t0) fun t34 =>
            obind (xfaddr 0 t34) fun t35 =>
            obind (xload false 1 t35 S_1) fun t36 =>
            obind (xnilck t0) fun t39 =>
            obind (xfaddr 3 t39) fun t40 =>
            obind (xload false 1 t40 S_1) fun t41 =>
            ccall Sp31 [t0, t41] S_1 (fun t42 S_2 =>
              xload false 1 t35 S_2 = some t36 ∧ 
              ccall Sp38 [t36, t42] S_2 (fun t43 S_3 =>
                obind (xbslice [.int .i64 0] 1 [(0, 1, t43)]) fun t44 =>
                ccall Sp37 [t0, t44] S_3 (fun t45 S_4 =>
                  obind (xbini .neq t45 (.int .i64 0)) fun t47 =>
                  asplit t47 (
                    K (.ret t45) S_4) (
                    obind (xnilck t0) fun t51 =>
                    obind (xfaddr 0 t51) fun t52 =>
                    obind (xload false 1 t52 S_4) fun t53 =>
                    obind (xnilck t0) fun t56 =>
                    obind (xfaddr 3 t56) fun t57 =>
                    obind (xload false 1 t57 S_4) fun t58 =>
                    obind (xbini .add t58 (.int .i64 1)) fun t59 =>
                    ccall Sp31 [t0, t59] S_4 (fun t60 S_5 =>
                      xload false 1 t52 S_5 = some t53 ∧ 
                      ccall Sp39 [t53, t60, t31] S_5 (fun t62 S_6 =>
                        obind (xbslice [.int .i64 0] 1 [(0, 1, t62)]) fun t63 =>
                        ccall Sp37 [t0, t63] S_6 (fun t64 S_7 =>
                          obind (xbini .neq t64 (.int .i64 0)) fun t66 =>
                          asplit t66 (
                            K (.ret t64) S_7) (
                            obind (xnilck t0) fun t71 =>
                            obind (xfaddr 3 t71) fun t72 =>
                            obind (xload false 1 t72 S_7) fun t73 =>
                            obind (xbini .add t73 (.int .i64 1)) fun t74 =>
                            obind (xlen t31) fun t76 =>
                            obind (xnilck t0) fun t77 =>
                            obind (xfaddr 3 t77) fun t78 =>
                            xstore 1 t78 t74 S_7 fun _ S_8 =>
                              obind (xnilck t0) fun t79 =>
                              obind (xfaddr 4 t79) fun t80 =>
                              xstore 1 t80 t76 S_8 fun _ S_9 =>
                                ccall Sp36 [(.int .i64 2), t1] S_9 (fun t82 S_10 =>
                                  obind (xnilck t0) fun t85 =>
                                  obind (xfaddr 0 t85) fun t86 =>
                                  obind (xload false 1 t86 S_10) fun t87 =>
                                  obind (xnilck t0) fun t90 =>
                                  obind (xfaddr 3 t90) fun t91 =>
                                  obind (xload false 1 t91 S_10) fun t92 =>
                                  ccall Sp31 [t0, t92] S_10 (fun t93 S_11 =>
                                    xload false 1 t86 S_11 = some t87 ∧ 
                                    ccall Sp39 [t87, t93, t82] S_11 (fun t95 S_12 =>
                                      obind (xbslice [.int .i64 0] 1 [(0, 1, t95)]) fun t96 =>
                                      ccall Sp37 [t0, t96] S_12 (fun t97 S_13 =>
                                        obind (xbini .eql t97 (.int .i64 0)) fun t99 =>
                                        asplit t99 (
                                          obind (xnilck t0) fun t103 =>
                                          obind (xfaddr 4 t103) fun t104 =>
                                          obind (xload false 1 t104 S_13) fun t105 =>
                                          obind (xlen t82) fun t107 =>
                                          obind (xbini .add t105 t107) fun t108 =>
                                          obind (xnilck t0) fun t110 =>
                                          obind (xfaddr 5 t110) fun t111 =>
                                          obind (xload false 1 t111 S_13) fun t112 =>
                                          obind (xbini .add t112 (.int .i64 1)) fun t113 =>
                                          obind (xnilck t0) fun t114 =>
                                          obind (xfaddr 4 t114) fun t115 =>
                                          xstore 1 t115 t108 S_13 fun _ S_14 =>
                                            obind (xnilck t0) fun t116 =>
                                            obind (xfaddr 5 t116) fun t117 =>
                                            xstore 1 t117 t113 S_14 fun _ S_15 =>
                                              K (.ret t97) S_15) (
                                          K (.ret t97) S_13)) (fun v S' => K (.pan v) S')) (fun v S' => K (.pan v) S')) (fun v S' => K (.pan v) S')) (fun v S' => K (.pan v) S'))) (fun v S' => K (.pan v) S')) (fun v S' => K (.pan v) S')) (fun v S' => K (.pan v) S'))) (fun v S' => K (.pan v) S')) (fun v S' => K (.pan v) S')) (fun v S' => K (.pan v) S')) (fun v S' => K (.pan v) S')) (
          ccall Sp36 [(.int .i64 2), t1] S (fun t82_1 S_16 =>
            obind (xnilck t0) fun t85_1 =>
            obind (xfaddr 0 t85_1) fun t86_1 =>
            obind (xload false 1 t86_1 S_16) fun t87_1 =>
            obind (xnilck t0) fun t90_1 =>
            obind (xfaddr 3 t90_1) fun t91_1 =>
            obind (xload false 1 t91_1 S_16) fun t92_1 =>
            ccall Sp31 [t0, t92_1] S_16 (fun t93_1 S_17 =>
              xload false 1 t86_1 S_17 = some t87_1 ∧ 
              ccall Sp39 [t87_1, t93_1, t82_1] S_17 (fun t95_1 S_18 =>
                obind (xbslice [.int .i64 0] 1 [(0, 1, t95_1)]) fun t96_1 =>
                ccall Sp37 [t0, t96_1] S_18 (fun t97_1 S_19 =>
                  obind (xbini .eql t97_1 (.int .i64 0)) fun t99_1 =>
                  asplit t99_1 (
                    obind (xnilck t0) fun t103_1 =>
                    obind (xfaddr 4 t103_1) fun t104_1 =>
                    obind (xload false 1 t104_1 S_19) fun t105_1 =>
                    obind (xlen t82_1) fun t107_1 =>
                    obind (xbini .add t105_1 t107_1) fun t108_1 =>
                    obind (xnilck t0) fun t110_1 =>
                    obind (xfaddr 5 t110_1) fun t111_1 =>
                    obind (xload false 1 t111_1 S_19) fun t112_1 =>
                    obind (xbini .add t112_1 (.int .i64 1)) fun t113_1 =>
                    obind (xnilck t0) fun t114_1 =>
                    obind (xfaddr 4 t114_1) fun t115_1 =>
                    xstore 1 t115_1 t108_1 S_19 fun _ S_20 =>
                      obind (xnilck t0) fun t116_1 =>
                      obind (xfaddr 5 t116_1) fun t117_1 =>
                      xstore 1 t117_1 t113_1 S_20 fun _ S_21 =>
                        K (.ret t97_1) S_21) (
                    K (.ret t97_1) S_19)) (fun v S' => K (.pan v) S')) (fun v S' => K (.pan v) S')) (fun v S' => K (.pan v) S')) (fun v S' => K (.pan v) S')))))
def O12 : Nat → List Nat := lk [(7, [0, 1, 2, 3, 4, 5, 6, 7, 8]), (9, [0, 1, 2, 3, 4, 5, 6, 7, 8, 9, 10, 11, 12, 13, 14]), (12, [0, 1, 2, 3, 4, 5, 6, 7, 8, 9, 10, 12, 11, 13, 14, 15, 16]), (17, [0, 1, 2, 3, 4, 5, 6, 7, 8, 9, 11, 10, 12, 13, 14, 15]), (19, [0, 1, 2, 3, 4, 5, 6, 7, 8, 9, 10, 11, 12, 13, 14, 15, 16, 17, 18, 19])]
def H12 : Nat → List Nat := lk []
theorem W12_eq (Sp31 : Spec) (Sp36 : Spec) (Sp37 : Spec) (Sp38 : Spec) (Sp39 : Spec) (t0 t1 : AV) (S : St) (K : En → St → Prop) : bcall Go.Proofs.Tryz.prog (tab [(31, Sp31), (36, Sp36), (37, Sp37), (38, Sp38), (39, Sp39)]) (own []) O12 H12 Go.Proofs.Tryz.f12 [t0, t1] S K = (2 = 2 ∧ W12 Sp31 Sp36 Sp37 Sp38 Sp39 t0 t1 S K) := by kernel_rfl

/-- (*signet/wal.Wal).Sync -/
def W13 (Sp31 : Spec) (Sp37 : Spec) (Sp38 : Spec) (t0 : AV) (S : St) (K : En → St → Prop) : Prop :=
  obind (xisnil false (xnilp t0)) fun t5 =>
  asplit t5 (
    K (.ret ((.int .i64 12))) S) (
    obind (xnilck t0) fun t8 =>
    obind (xfaddr 6 t8) fun t9 =>
    obind (xload false 1 t9 S) fun t10 =>
    asplit t10 (
      K (.ret ((.int .i64 9))) S) (
      obind (xnilck t0) fun t13 =>
      obind (xfaddr 0 t13) fun t14 =>
      obind (xload false 1 t14 S) fun t15 =>
      obind (xnilck t0) fun t18 =>
      obind (xfaddr 3 t18) fun t19 =>
      obind (xload false 1 t19 S) fun t20 =>
      ccall Sp31 [t0, t20] S (fun t21 S_1 =>
        xload false 1 t14 S_1 = some t15 ∧ 
        ccall Sp38 [t15, t21] S_1 (fun t22 S_2 =>
          obind (xbslice [.int .i64 0] 1 [(0, 1, t22)]) fun t23 =>
          ccall Sp37 [t0, t23] S_2 (fun t24 S_3 =>
            K (.ret t24) S_3) (fun v S' => K (.pan v) S')) (fun v S' => K (.pan v) S')) (fun v S' => K (.pan v) S')))
def O13 : Nat → List Nat := lk [(5, [0, 1, 2, 3, 4, 5, 6, 7, 8, 9, 10, 11, 12, 13, 14])]
def H13 : Nat → List Nat := lk []
theorem W13_eq (Sp31 : Spec) (Sp37 : Spec) (Sp38 : Spec) (t0 : AV) (S : St) (K : En → St → Prop) : bcall Go.Proofs.Tryz.prog (tab [(31, Sp31), (37, Sp37), (38, Sp38)]) (own []) O13 H13 Go.Proofs.Tryz.f13 [t0] S K = (1 = 1 ∧ W13 Sp31 Sp37 Sp38 t0 S K) := by kernel_rfl

/-- (*signet/wal.Wal).Checkpoint -/
def W14 (Sp34 : Spec) (t0 t1 : AV) (S : St) (K : En → St → Prop) : Prop :=
  obind (xisnil false (xnilp t0)) fun t7 =>
  asplit t7 (
    K (.ret ((.int .i64 12))) S) (
    obind (xlen t1) fun t10 =>
    obind (xbini .gtr t10 (.int .i64 60000)) fun t11 =>
    asplit t11 (
      K (.ret ((.int .i64 2))) S) (
      obind (xnilck t0) fun t14 =>
      obind (xfaddr 6 t14) fun t15 =>
      obind (xload false 1 t15 S) fun t16 =>
      asplit t16 (
        K (.ret ((.int .i64 9))) S) (
        obind (xnilck t0) fun t19 =>
        obind (xfaddr 3 t19) fun t20 =>
        obind (xload false 1 t20 S) fun t21 =>
        obind (xbini .add t21 (.int .i64 1)) fun t22 =>
        ccall Sp34 [t0, t22, t1] S (fun t24 S_1 =>
          K (.ret t24) S_1) (fun v S' => K (.pan v) S'))))
def O14 : Nat → List Nat := lk []
def H14 : Nat → List Nat := lk []
theorem W14_eq (Sp34 : Spec) (t0 t1 : AV) (S : St) (K : En → St → Prop) : bcall Go.Proofs.Tryz.prog (tab [(34, Sp34)]) (own []) O14 H14 Go.Proofs.Tryz.f14 [t0, t1] S K = (2 = 2 ∧ W14 Sp34 t0 t1 S K) := by kernel_rfl

/-- (*signet/wal.Wal).Count -/
def W15 (t0 : AV) (S : St) (K : En → St → Prop) : Prop :=
  obind (xisnil false (xnilp t0)) fun t4 =>
  asplit t4 (
    K (.ret ((.int .i64 0))) S) (
    obind (xnilck t0) fun t6 =>
    obind (xfaddr 5 t6) fun t7 =>
    obind (xload false 1 t7 S) fun t8 =>
    K (.ret t8) S)
def O15 : Nat → List Nat := lk []
def H15 : Nat → List Nat := lk []
theorem W15_eq (t0 : AV) (S : St) (K : En → St → Prop) : bcall Go.Proofs.Tryz.prog (tab []) (own []) O15 H15 Go.Proofs.Tryz.f15 [t0] S K = (1 = 1 ∧ W15 t0 S K) := by kernel_rfl

/-- signet/signetref01.Room -/
def W16 (t0 : AV) (S : St) (K : En → St → Prop) : Prop :=
  obind (xlen t0) fun t6 =>
  obind (xbini .add t6 (.int .i64 3)) fun t7 =>
  xmkslice [.int .u8 0] 1 1 t7 t7 S fun t8 S_1 =>
    xcopy 1 t8 t0 S_1 fun t11 S_2 =>
      obind (xlen t0) fun t13 =>
      aloop (fun rec l S_3 =>
        obind (xlen t8) fun t16 =>
        obind (xbini .lss ((g l 0)) t16) fun t17 =>
        asplit t17 (
          obind (xiaddr 1 t8 ((g l 0))) fun t22 =>
          xstore 1 t22 (.int .u8 77) S_3 fun _ S_4 =>
            obind (xbini .add ((g l 0)) (.int .i64 1)) fun t19 =>
            ∃ S'', S''.le S_4 ∧ rec [t19] S'') (
          obind (xlen t0) fun t25 =>
          obind (xslice 1 t8 none (some t25) none) fun t26 =>
          K (.ret t26) S_3)) [t13] S_2
def O16 : Nat → List Nat := lk []
def H16 : Nat → List Nat := lk [(4, [4])]
theorem W16_eq (t0 : AV) (S : St) (K : En → St → Prop) : bcall Go.Proofs.Tryz.prog (tab []) (own []) O16 H16 Go.Proofs.Tryz.f16 [t0] S K = (1 = 1 ∧ W16 t0 S K) := by kernel_rfl

/-- signet/signetref01.Kept -/
def W17 (Sp18 : Spec) (t0 t1 : AV) (S : St) (K : En → St → Prop) : Prop :=
  obind (xlen t0) fun t7 =>
  obind (xlen t1) fun t9 =>
  obind (xbini .neq t7 t9) fun t10 =>
  obind (gv t10 false (some t0)) fun t12 =>
  obind (gv t10 false (some t1)) fun t13 =>
  gif t10 false (fun k => ccall Sp18 [t12, t13] S k (fun v S' => K (.pan v) S')) S fun t14 S_1 =>
    obind (gv t10 false (xun .not t14)) fun t15 =>
    obind (xpick t10 (.bool true) t15) fun t16 =>
    asplit t16 (
      K (.ret ((.bool false))) S_1) (
      obind (xlen t1) fun t19 =>
      obind (xbini .add t19 (.int .i64 3)) fun t20 =>
      obind (xslice 1 t0 none (some t20) none) fun t21 =>
      obind (xlen t1) fun t24 =>
      obind (xiaddr 1 t21 t24) fun t25 =>
      obind (xload false 1 t25 S_1) fun t26 =>
      obind (xbini .eql t26 (.int .u8 77)) fun t27 =>
      obind (gv t27 true (some t21)) fun t29 =>
      obind (gv t27 true (some t1)) fun t30 =>
      obind (gv t27 true (xlen t30)) fun t31 =>
      obind (gv t27 true (xbini .add t31 (.int .i64 1))) fun t32 =>
      obind (gv t27 true (xiaddr 1 t29 t32)) fun t33 =>
      obind (gv t27 true (xload false 1 t33 S_1)) fun t34 =>
      obind (gv t27 true (xbini .eql t34 (.int .u8 77))) fun t35 =>
      obind (xpick t27 t35 (.bool false)) fun t36 =>
      obind (gv t36 true (some t21)) fun t38 =>
      obind (gv t36 true (some t1)) fun t39 =>
      obind (gv t36 true (xlen t39)) fun t40 =>
      obind (gv t36 true (xbini .add t40 (.int .i64 2))) fun t41 =>
      obind (gv t36 true (xiaddr 1 t38 t41)) fun t42 =>
      obind (gv t36 true (xload false 1 t42 S_1)) fun t43 =>
      obind (gv t36 true (xbini .eql t43 (.int .u8 77))) fun t44 =>
      obind (xpick t36 t44 (.bool false)) fun t45 =>
      K (.ret t45) S_1)
def O17 : Nat → List Nat := lk []
def H17 : Nat → List Nat := lk []
theorem W17_eq (Sp18 : Spec) (t0 t1 : AV) (S : St) (K : En → St → Prop) : bcall Go.Proofs.Tryz.prog (tab [(18, Sp18)]) (own []) O17 H17 Go.Proofs.Tryz.f17 [t0, t1] S K = (2 = 2 ∧ W17 Sp18 t0 t1 S K) := by kernel_rfl

/-- signet/signetref01.Same -/
def W18 (t0 t1 : AV) (S : St) (K : En → St → Prop) : Prop :=
  obind (xlen t0) fun t7 =>
  obind (xlen t1) fun t9 =>
  obind (xbini .neq t7 t9) fun t10 =>
  asplit t10 (
    K (.ret ((.bool false))) S) (
    aloop (fun rec l S_1 =>
      obind (xlen t0) fun t13 =>
      obind (xbini .lss ((g l 0)) t13) fun t14 =>
      asplit t14 (
        obind (xiaddr 1 t0 ((g l 0))) fun t19 =>
        obind (xload false 1 t19 S_1) fun t20 =>
        obind (xiaddr 1 t1 ((g l 0))) fun t23 =>
        obind (xload false 1 t23 S_1) fun t24 =>
        obind (xbini .neq t20 t24) fun t25 =>
        asplit t25 (
          K (.ret ((.bool false))) S_1) (
          obind (xbini .add ((g l 0)) (.int .i64 1)) fun t16 =>
          ∃ S'', S''.le S_1 ∧ rec [t16] S'')) (
        K (.ret ((.bool true))) S_1)) [((.int .i64 0))] S)
def O18 : Nat → List Nat := lk [(6, [0, 1, 2, 3, 4, 5, 6, 7, 8])]
def H18 : Nat → List Nat := lk [(4, [5])]
theorem W18_eq (t0 t1 : AV) (S : St) (K : En → St → Prop) : bcall Go.Proofs.Tryz.prog (tab []) (own []) O18 H18 Go.Proofs.Tryz.f18 [t0, t1] S K = (2 = 2 ∧ W18 t0 t1 S K) := by kernel_rfl

/-- signet/signetref01.Apart -/
def W19 (t0 : AV) (S : St) (K : En → St → Prop) : Prop :=
  aloop (fun rec l S_1 =>
    obind (xlen t0) fun t11 =>
    obind (xbini .lss ((g l 0)) t11) fun t12 =>
    asplit t12 (
      obind (xiaddr 1 t0 ((g l 0))) fun t17 =>
      obind (xload false 1 t17 S_1) fun t18 =>
      obind (xiaddr 1 t0 ((g l 0))) fun t21 =>
      obind (xload false 1 t21 S_1) fun t22 =>
      obind (xcap t22) fun t23 =>
      obind (xslice 1 t18 none (some t23) none) fun t24 =>
      aloop (fun rec_1 l_1 S_2 =>
        obind (xlen t24) fun t27 =>
        obind (xbini .lss ((g l_1 0)) t27) fun t28 =>
        asplit t28 (
          obind (xbini .add ((g l 0)) (.int .i64 1)) fun t34 =>
          obind (xint2int .u8 t34) fun t35 =>
          obind (xiaddr 1 t24 ((g l_1 0))) fun t36 =>
          xstore 1 t36 t35 S_2 fun _ S_3 =>
            obind (xbini .add ((g l_1 0)) (.int .i64 1)) fun t30 =>
            ∃ S'', S''.le S_3 ∧ rec_1 [t30] S'') (
          obind (xbini .add ((g l 0)) (.int .i64 1)) fun t14 =>
          ∃ S'', S''.le S_2 ∧ rec [t14] S'')) [((.int .i64 0))] S_1) (
      aloop (fun rec_2 l_2 S_4 =>
        obind (xlen t0) fun t39 =>
        obind (xbini .lss ((g l_2 0)) t39) fun t40 =>
        asplit t40 (
          obind (xiaddr 1 t0 ((g l_2 0))) fun t45 =>
          obind (xload false 1 t45 S_4) fun t46 =>
          obind (xiaddr 1 t0 ((g l_2 0))) fun t49 =>
          obind (xload false 1 t49 S_4) fun t50 =>
          obind (xcap t50) fun t51 =>
          obind (xslice 1 t46 none (some t51) none) fun t52 =>
          aloop (fun rec_3 l_3 S_5 =>
            obind (xlen t52) fun t55 =>
            obind (xbini .lss ((g l_3 0)) t55) fun t56 =>
            asplit t56 (
              obind (xiaddr 1 t52 ((g l_3 0))) fun t61 =>
              obind (xload false 1 t61 S_5) fun t62 =>
              obind (xbini .add ((g l_2 0)) (.int .i64 1)) fun t64 =>
              obind (xint2int .u8 t64) fun t65 =>
              obind (xbini .neq t62 t65) fun t66 =>
              asplit t66 (
                K (.ret ((.bool false))) S_5) (
                obind (xbini .add ((g l_3 0)) (.int .i64 1)) fun t58 =>
                ∃ S'', S''.le S_5 ∧ rec_3 [t58] S'')) (
              obind (xbini .add ((g l_2 0)) (.int .i64 1)) fun t42 =>
              ∃ S'', S''.le S_5 ∧ rec_2 [t42] S'')) [((.int .i64 0))] S_4) (
          K (.ret ((.bool true))) S_4)) [((.int .i64 0))] S_1)) [((.int .i64 0))] S
def O19 : Nat → List Nat := lk [(4, [0, 1, 2, 3, 4, 5, 6, 7, 8, 9, 10]), (12, [0, 1, 2, 3, 4, 5, 6, 7, 8, 9, 10])]
def H19 : Nat → List Nat := lk [(2, [3]), (6, [5]), (10, [6]), (14, [8])]
theorem W19_eq (t0 : AV) (S : St) (K : En → St → Prop) : bcall Go.Proofs.Tryz.prog (tab []) (own []) O19 H19 Go.Proofs.Tryz.f19 [t0] S K = (1 = 1 ∧ W19 t0 S K) := by kernel_rfl

/-- (*signet/plate.Plate).Arm -/
def W20 (t0 t1 : AV) (S : St) (K : En → St → Prop) : Prop :=
  obind (xisnil true (xnilp t0)) fun t5 =>
  obind (gv t5 true (some t0)) fun t7 =>
  obind (gv t5 true (xnilck t7)) fun t8 =>
  obind (gv t5 true (xfaddr 5 t8)) fun t9 =>
  obind (gv t5 true (xload false 1 t9 S)) fun t10 =>
  obind (gv t5 true (xun .not t10)) fun t11 =>
  obind (xpick t5 t11 (.bool false)) fun t12 =>
  asplit t12 (
    obind (xbini .geq t1 (.int .i64 0)) fun t16 =>
    obind (xmm true t1 (.int .i64 0)) fun t18 =>
    obind (xnilck t0) fun t19 =>
    obind (xfaddr 3 t19) fun t20 =>
    xstore 1 t20 t16 S fun _ S_1 =>
      obind (xnilck t0) fun t21 =>
      obind (xfaddr 4 t21) fun t22 =>
      xstore 1 t22 t18 S_1 fun _ S_2 =>
        K (.ret (.tuple [])) S_2) (
    K (.ret (.tuple [])) S)
def O20 : Nat → List Nat := lk []
def H20 : Nat → List Nat := lk []
theorem W20_eq (t0 t1 : AV) (S : St) (K : En → St → Prop) : bcall Go.Proofs.Tryz.prog (tab []) (own []) O20 H20 Go.Proofs.Tryz.f20 [t0, t1] S K = (2 = 2 ∧ W20 t0 t1 S K) := by kernel_rfl

/-- (*signet/plate.Plate).Down -/
def W21 (t0 : AV) (S : St) (K : En → St → Prop) : Prop :=
  obind (xisnil true (xnilp t0)) fun t4 =>
  obind (gv t4 true (some t0)) fun t6 =>
  obind (gv t4 true (xnilck t6)) fun t7 =>
  obind (gv t4 true (xfaddr 5 t7)) fun t8 =>
  obind (gv t4 true (xload false 1 t8 S)) fun t9 =>
  obind (xpick t4 t9 (.bool false)) fun t10 =>
  K (.ret t10) S
def O21 : Nat → List Nat := lk []
def H21 : Nat → List Nat := lk []
theorem W21_eq (t0 : AV) (S : St) (K : En → St → Prop) : bcall Go.Proofs.Tryz.prog (tab []) (own []) O21 H21 Go.Proofs.Tryz.f21 [t0] S K = (1 = 1 ∧ W21 t0 S K) := by kernel_rfl

/-- signet/signetref12.Append -/
def W22 (Sp24 : Spec) (t0 t1 : AV) (S : St) (K : En → St → Prop) : Prop :=
  xbox 3 t0 S fun t2 S_1 =>
    xalloc [.slice [] 0 .nil, .slice [] 0 .nil, .int .i64 0] S_1 fun t4 S_2 =>
      obind (xfaddr 1 t2) fun t7 =>
      obind (xload false 1 t7 S_2) fun t8 =>
      xappend false 1 24 (((.slice [] 0 .nil))) t8 S_2 fun t9 S_3 =>
        obind (xfaddr 0 t2) fun t10 =>
        obind (xload false 1 t10 S_3) fun t11 =>
        obind (xfaddr 2 t2) fun t17 =>
        obind (xload false 1 t17 S_3) fun t18 =>
        ccall Sp24 [t1] S_3 (fun t14 S_4 =>
          xload false 1 t17 S_4 = some t18 ∧ xload false 1 t10 S_4 = some t11 ∧ 
          obind (xbslice [.slice [] 0 .nil] 1 [(0, 1, t14)]) fun t15 =>
          xappend false 1 24 t9 t15 S_4 fun t16 S_5 =>
            xload false 1 t17 S_5 = some t18 ∧ xload false 1 t10 S_5 = some t11 ∧ 
            obind (xbuild [.slice [] 0 .nil, .slice [] 0 .nil, .int .i64 0] [(0, 1, t11), (1, 1, t16), (2, 1, t18)]) fun t19 =>
            xstore 3 t4 t19 S_5 fun _ S_6 =>
              obind (xload true 3 t4 S_6) fun r4 =>
              K (.ret r4) S_6) (fun v S' => K (.pan v) S')
def O22 : Nat → List Nat := lk [(3, [0, 1, 2, 3, 7, 8, 4, 5, 6, 9, 10])]
def H22 : Nat → List Nat := lk []
theorem W22_eq (Sp24 : Spec) (t0 t1 : AV) (S : St) (K : En → St → Prop) : bcall Go.Proofs.Tryz.prog (tab [(24, Sp24)]) (own []) O22 H22 Go.Proofs.Tryz.f22 [t0, t1] S K = (2 = 2 ∧ W22 Sp24 t0 t1 S K) := by kernel_rfl

/-- signet/signetref12.Sync -/
def W23 (t0 : AV) (S : St) (K : En → St → Prop) : Prop :=
  xbox 3 t0 S fun t1 S_1 =>
    xalloc [.slice [] 0 .nil, .slice [] 0 .nil, .int .i64 0] S_1 fun t2 S_2 =>
      obind (xfaddr 0 t1) fun t3 =>
      obind (xload false 1 t3 S_2) fun t4 =>
      obind (xfaddr 1 t1) fun t5 =>
      obind (xload false 1 t5 S_2) fun t6 =>
      obind (xfaddr 1 t1) fun t7 =>
      obind (xload false 1 t7 S_2) fun t8 =>
      obind (xlen t8) fun t9 =>
      obind (xbuild [.slice [] 0 .nil, .slice [] 0 .nil, .int .i64 0] [(0, 1, t4), (1, 1, t6), (2, 1, t9)]) fun t10 =>
      xstore 3 t2 t10 S_2 fun _ S_3 =>
        obind (xload true 3 t2 S_3) fun r2 =>
        K (.ret r2) S_3
def O23 : Nat → List Nat := lk []
def H23 : Nat → List Nat := lk []
theorem W23_eq (t0 : AV) (S : St) (K : En → St → Prop) : bcall Go.Proofs.Tryz.prog (tab []) (own []) O23 H23 Go.Proofs.Tryz.f23 [t0] S K = (1 = 1 ∧ W23 t0 S K) := by kernel_rfl

/-- signet/signetref01.Copy -/
def W24 (t0 : AV) (S : St) (K : En → St → Prop) : Prop :=
  obind (xlen t0) fun t5 =>
  xmkslice [.int .u8 0] 1 1 t5 t5 S fun t6 S_1 =>
    xcopy 1 t6 t0 S_1 fun t9 S_2 =>
      K (.ret t6) S_2
def O24 : Nat → List Nat := lk []
def H24 : Nat → List Nat := lk []
theorem W24_eq (t0 : AV) (S : St) (K : En → St → Prop) : bcall Go.Proofs.Tryz.prog (tab []) (own []) O24 H24 Go.Proofs.Tryz.f24 [t0] S K = (1 = 1 ∧ W24 t0 S K) := by kernel_rfl

/-- (*signet/plate.Plate).Crash -/
def W25 (Sp40 : Spec) (Sp41 : Spec) (t0 t1 : AV) (S : St) (K : En → St → Prop) : Prop :=
  obind (xisnil false (xnilp t0)) fun t9 =>
  asplit t9 (
    K (.ret (.tuple [])) S) (
    ccall Sp40 [t0] S (fun t11 S_1 =>
      obind (xlen t11) fun t12 =>
      aloop (fun rec l S_2 =>
        obind (xbini .lss (g l 0) t12) fun t14 =>
        asplit t14 (
          obind (xiaddr 1 t11 (g l 0)) fun t16 =>
          obind (xload false 1 t16 S_2) fun t17 =>
          obind (xnilck t0) fun t19 =>
          obind (xfaddr 0 t19) fun t20 =>
          obind (xload false 1 t20 S_2) fun t21 =>
          obind (xlookup true (.agg [.slice [] 0 .nil, .int .i64 0]) false t21 t17 S_2) fun t23 =>
          xalloc [.slice [] 0 .nil, .int .i64 0] S_2 fun t6 S_3 =>
            xstore 2 t6 t23 S_3 fun _ S_4 =>
              obind (xfaddr 1 t6) fun t24 =>
              obind (xload false 1 t24 S_4) fun t25 =>
              obind (xlen t1) fun t28 =>
              obind (xbini .lss ((((g l 0)))) t28) fun t29 =>
              asplit t29 (
                obind (xiaddr 1 t1 ((((g l 0))))) fun t33 =>
                obind (xload false 1 t33 S_4) fun t34 =>
                obind (xmm true t34 (.int .i64 0)) fun t35 =>
                obind (xfaddr 0 t6) fun t36 =>
                obind (xload false 1 t36 S_4) fun t37 =>
                obind (xlen t37) fun t38 =>
                obind (xfaddr 1 t6) fun t39 =>
                obind (xload false 1 t39 S_4) fun t40 =>
                obind (xbini .sub t38 t40) fun t41 =>
                obind (xmm false t35 t41) fun t42 =>
                obind (xbini .add t25 t42) fun t43 =>
                obind (xfaddr 0 t6) fun t46 =>
                obind (xload false 1 t46 S_4) fun t47 =>
                obind (xslice 1 t47 none (some t43) (some t43)) fun t50 =>
                obind (xbuild [.slice [] 0 .nil, .int .i64 0] [(0, 1, t50), (1, 1, t43)]) fun t52 =>
                ccall Sp41 [t0, t17, t52] S_4 (fun t53 S_5 =>
                  obind (xbini .add (g l 0) (.int .i64 1)) fun t54 =>
                  ∃ S'', S''.le S_5 ∧ rec [t54] S'') (fun v S' => K (.pan v) S')) (
                obind (xfaddr 0 t6) fun t46_1 =>
                obind (xload false 1 t46_1 S_4) fun t47_1 =>
                obind (xslice 1 t47_1 none (some t25) (some t25)) fun t50_1 =>
                obind (xbuild [.slice [] 0 .nil, .int .i64 0] [(0, 1, t50_1), (1, 1, t25)]) fun t52_1 =>
                ccall Sp41 [t0, t17, t52_1] S_4 (fun t53_1 S_6 =>
                  obind (xbini .add (g l 0) (.int .i64 1)) fun t54_1 =>
                  ∃ S'', S''.le S_6 ∧ rec [t54_1] S'') (fun v S' => K (.pan v) S'))) (
          obind (xnilck t0) fun t57 =>
          obind (xfaddr 3 t57) fun t58 =>
          xstore 1 t58 (.bool false) S_2 fun _ S_7 =>
            obind (xnilck t0) fun t59 =>
            obind (xfaddr 5 t59) fun t60 =>
            xstore 1 t60 (.bool false) S_7 fun _ S_8 =>
              K (.ret (.tuple [])) S_8)) [((.int .i64 0))] S_1) (fun v S' => K (.pan v) S'))
def O25 : Nat → List Nat := lk [(7, [0, 1, 2, 3, 4, 5, 6, 7, 8, 9, 10, 11, 12, 13, 14])]
def H25 : Nat → List Nat := lk [(2, [13])]
theorem W25_eq (Sp40 : Spec) (Sp41 : Spec) (t0 t1 : AV) (S : St) (K : En → St → Prop) : bcall Go.Proofs.Tryz.prog (tab [(40, Sp40), (41, Sp41)]) (own []) O25 H25 Go.Proofs.Tryz.f25 [t0, t1] S K = (2 = 2 ∧ W25 Sp40 Sp41 t0 t1 S K) := by kernel_rfl

/-- signet/signetref12.Allowed -/
def W26 (Sp18 : Spec) (Sp27 : Spec) (t0 t1 t2 : AV) (S : St) (K : En → St → Prop) : Prop :=
  xbox 3 t0 S fun t3 S_1 =>
    obind (xlen t2) fun t9 =>
    obind (xfaddr 0 t3) fun t10 =>
    obind (xload false 1 t10 S_1) fun t11 =>
    ccall Sp18 [t11, t1] S_1 (fun t13 S_2 =>
      obind (gv t13 true (some t9)) fun t15 =>
      obind (gv t13 true (xfaddr 2 t3)) fun t16 =>
      obind (gv t13 true (xload false 1 t16 S_2)) fun t17 =>
      obind (gv t13 true (xbini .geq t15 t17)) fun t18 =>
      obind (xpick t13 t18 (.bool false)) fun t19 =>
      obind (gv t19 true (some t9)) fun t21 =>
      obind (gv t19 true (xfaddr 1 t3)) fun t22 =>
      obind (gv t19 true (xload false 1 t22 S_2)) fun t23 =>
      obind (gv t19 true (xlen t23)) fun t24 =>
      obind (gv t19 true (xbini .leq t21 t24)) fun t25 =>
      obind (xpick t19 t25 (.bool false)) fun t26 =>
      obind (gv t26 true (some t2)) fun t28 =>
      obind (gv t26 true (xfaddr 1 t3)) fun t29 =>
      obind (gv t26 true (xload false 1 t29 S_2)) fun t30 =>
      obind (gv t26 true (some t9)) fun t31 =>
      obind (gv t26 true (xslice 1 t30 none (some t31) none)) fun t32 =>
      gif t26 true (fun k => ccall Sp27 [t28, t32] S_2 k (fun v S' => K (.pan v) S')) S_2 fun t33 S_3 =>
        obind (xpick t26 t33 (.bool false)) fun t34 =>
        K (.ret t34) S_3) (fun v S' => K (.pan v) S')
def O26 : Nat → List Nat := lk []
def H26 : Nat → List Nat := lk []
theorem W26_eq (Sp18 : Spec) (Sp27 : Spec) (t0 t1 t2 : AV) (S : St) (K : En → St → Prop) : bcall Go.Proofs.Tryz.prog (tab [(18, Sp18), (27, Sp27)]) (own []) O26 H26 Go.Proofs.Tryz.f26 [t0, t1, t2] S K = (3 = 3 ∧ W26 Sp18 Sp27 t0 t1 t2 S K) := by kernel_rfl

/-- signet/signetref12.Lists -/
def W27 (Sp18 : Spec) (t0 t1 : AV) (S : St) (K : En → St → Prop) : Prop :=
  obind (xlen t0) fun t7 =>
  obind (xlen t1) fun t9 =>
  obind (xbini .neq t7 t9) fun t10 =>
  asplit t10 (
    K (.ret ((.bool false))) S) (
    aloop (fun rec l S_1 =>
      obind (xlen t0) fun t13 =>
      obind (xbini .lss ((g l 0)) t13) fun t14 =>
      asplit t14 (
        obind (xiaddr 1 t0 ((g l 0))) fun t19 =>
        obind (xload false 1 t19 S_1) fun t20 =>
        obind (xiaddr 1 t1 ((g l 0))) fun t23 =>
        obind (xload false 1 t23 S_1) fun t24 =>
        ccall Sp18 [t20, t24] S_1 (fun t25 S_2 =>
          obind (xun .not t25) fun t26 =>
          asplit t26 (
            K (.ret ((.bool false))) S_2) (
            obind (xbini .add ((g l 0)) (.int .i64 1)) fun t16 =>
            ∃ S'', S''.le S_2 ∧ rec [t16] S'')) (fun v S' => K (.pan v) S')) (
        K (.ret ((.bool true))) S_1)) [((.int .i64 0))] S)
def O27 : Nat → List Nat := lk [(6, [0, 1, 2, 3, 4, 5, 6, 7, 8, 9])]
def H27 : Nat → List Nat := lk [(4, [5])]
theorem W27_eq (Sp18 : Spec) (t0 t1 : AV) (S : St) (K : En → St → Prop) : bcall Go.Proofs.Tryz.prog (tab [(18, Sp18)]) (own []) O27 H27 Go.Proofs.Tryz.f27 [t0, t1] S K = (2 = 2 ∧ W27 Sp18 t0 t1 S K) := by kernel_rfl

/-- (*signet/wal.Wal).numbers -/
def W29 (Sp31 : Spec) (Sp40 : Spec) (Sp42 : Spec) (Sp43 : Spec) (Sp44 : Spec) (t0 : AV) (S : St) (K : En → St → Prop) : Prop :=
  obind (xnilck t0) fun t11 =>
  obind (xfaddr 0 t11) fun t12 =>
  obind (xload false 1 t12 S) fun t13 =>
  ccall Sp40 [t13] S (fun t14 S_1 =>
    obind (xlen t14) fun t15 =>
    aloop (fun rec l S_2 =>
      obind (xbini .lss (g l 1) t15) fun t17 =>
      asplit t17 (
        obind (xiaddr 1 t14 (g l 1)) fun t18 =>
        obind (xload false 1 t18 S_2) fun t19 =>
        obind (xnilck t0) fun t23 =>
        obind (xfaddr 1 t23) fun t24 =>
        obind (xload false 1 t24 S_2) fun t25 =>
        obind (xbins .add t25 (.str ⟨#[45]⟩)) fun t26 =>
        ccall Sp42 [t19, t26] S_2 (fun t27 S_3 =>
          obind (xextract t27 0) fun t28 =>
          obind (xextract t27 1) fun t29 =>
          ccall Sp43 [t28] S_3 (fun t32 S_4 =>
            obind (xextract t32 0) fun t33 =>
            obind (xextract t32 1) fun t34 =>
            obind (gv t29 true (some t34)) fun t37 =>
            obind (gv t29 true (xisnil false (xnili t37))) fun t38 =>
            obind (xpick t29 t38 (.bool false)) fun t39 =>
            obind (gv t39 true (some t33)) fun t41 =>
            obind (gv t39 true (xbini .gtr t41 (.int .i64 0))) fun t42 =>
            obind (xpick t39 t42 (.bool false)) fun t43 =>
            obind (gv t43 true (some t0)) fun t45 =>
            obind (gv t43 true (some t33)) fun t46 =>
            gif t43 true (fun k => ccall Sp31 [t45, t46] S_4 k (fun v S' => K (.pan v) S')) S_4 fun t47 S_5 =>
              obind (gv t43 true (some t19)) fun t48 =>
              obind (gv t43 true (xbins .eql t47 t48)) fun t49 =>
              obind (xpick t43 t49 (.bool false)) fun t50 =>
              asplit t50 (
                obind (xbslice [.int .i64 0] 1 [(0, 1, t33)]) fun t53 =>
                xappend true 1 8 ((g l 0)) t53 S_5 fun t54 S_6 =>
                  obind (xbini .add (g l 1) (.int .i64 1)) fun t55 =>
                  ∃ S'', S''.le S_6 ∧ rec [t54, t55] S'') (
                obind (xbini .add (g l 1) (.int .i64 1)) fun t55_1 =>
                ∃ S'', S''.le S_5 ∧ rec [(g l 0), t55_1] S'')) (fun v S' => K (.pan v) S')) (fun v S' => K (.pan v) S')) (
        ccall Sp44 [((g l 0))] S_2 (fun t57 S_7 =>
          K (.ret (((g l 0)))) S_7) (fun v S' => K (.pan v) S'))) [((.slice [] 0 .nil)), ((.int .i64 0))] S_1) (fun v S' => K (.pan v) S')
def O29 : Nat → List Nat := lk []
def H29 : Nat → List Nat := lk [(3, [3, 16])]
theorem W29_eq (Sp31 : Spec) (Sp40 : Spec) (Sp42 : Spec) (Sp43 : Spec) (Sp44 : Spec) (t0 : AV) (S : St) (K : En → St → Prop) : bcall Go.Proofs.Tryz.prog (tab [(31, Sp31), (40, Sp40), (42, Sp42), (43, Sp43), (44, Sp44)]) (own [54]) O29 H29 Go.Proofs.Tryz.f29 [t0] S K = (1 = 1 ∧ W29 Sp31 Sp40 Sp42 Sp43 Sp44 t0 S K) := by kernel_rfl

/-- (*signet/plate.Plate).Read -/
def W30 (Sp45 : Spec) (Sp46 : Spec) (t0 t1 : AV) (S : St) (K : En → St → Prop) : Prop :=
  ccall Sp45 [t0, t1] S (fun t9 S_1 =>
    obind (xbini .neq t9 (.int .i64 0)) fun t11 =>
    asplit t11 (
      K (.ret (.tuple [((.slice [] 0 .nil)), t9])) S_1) (
      obind (xnilck t0) fun t14 =>
      obind (xfaddr 0 t14) fun t15 =>
      obind (xload false 1 t15 S_1) fun t16 =>
      obind (xlookup true (.agg [.slice [] 0 .nil, .int .i64 0]) false t16 t1 S_1) fun t18 =>
      obind (xfield false 1 0 t18) fun t19 =>
      ccall Sp46 [t19] S_1 (fun t20 S_2 =>
        K (.ret (.tuple [t20, ((.int .i64 0))])) S_2) (fun v S' => K (.pan v) S'))) (fun v S' => K (.pan v) S')
def O30 : Nat → List Nat := lk []
def H30 : Nat → List Nat := lk []
theorem W30_eq (Sp45 : Spec) (Sp46 : Spec) (t0 t1 : AV) (S : St) (K : En → St → Prop) : bcall Go.Proofs.Tryz.prog (tab [(45, Sp45), (46, Sp46)]) (own []) O30 H30 Go.Proofs.Tryz.f30 [t0, t1] S K = (2 = 2 ∧ W30 Sp45 Sp46 t0 t1 S K) := by kernel_rfl

/-- (*signet/wal.Wal).file -/
def W31 (Sp47 : Spec) (t0 t1 : AV) (S : St) (K : En → St → Prop) : Prop :=
  obind (xnilck t0) fun t6 =>
  obind (xfaddr 1 t6) fun t7 =>
  obind (xload false 1 t7 S) fun t8 =>
  obind (xbins .add t8 (.str ⟨#[45]⟩)) fun t9 =>
  ccall Sp47 [t1] S (fun t11 S_1 =>
    xload false 1 t7 S_1 = some t8 ∧ 
    obind (xbins .add t9 t11) fun t12 =>
    K (.ret t12) S_1) (fun v S' => K (.pan v) S')
def O31 : Nat → List Nat := lk [(1, [0, 1, 2, 3, 4, 5, 6, 7, 8])]
def H31 : Nat → List Nat := lk []
theorem W31_eq (Sp47 : Spec) (t0 t1 : AV) (S : St) (K : En → St → Prop) : bcall Go.Proofs.Tryz.prog (tab [(47, Sp47)]) (own []) O31 H31 Go.Proofs.Tryz.f31 [t0, t1] S K = (2 = 2 ∧ W31 Sp47 t0 t1 S K) := by kernel_rfl

/-- signet/wal.next -/
def W32 (Sp48 : Spec) (Sp49 : Spec) (Sp50 : Spec) (Sp51 : Spec) (t0 : AV) (S : St) (K : En → St → Prop) : Prop :=
  obind (xlen t0) fun t11 =>
  obind (xbini .lss t11 (.int .i64 8)) fun t12 =>
  asplit t12 (
    K (.ret (.tuple [((.int .i64 0)), ((.slice [] 0 .nil)), ((.int .i64 0))])) S) (
    obind (xiaddr 1 t0 (.int .i64 0)) fun t14 =>
    obind (xload false 1 t14 S) fun t15 =>
    obind (xint2int .i64 t15) fun t16 =>
    obind (xbini .shl t16 (.int .u64 24)) fun t17 =>
    obind (xbini .add (.int .i64 8) t17) fun t18 =>
    obind (xiaddr 1 t0 (.int .i64 1)) fun t20 =>
    obind (xload false 1 t20 S) fun t21 =>
    obind (xint2int .i64 t21) fun t22 =>
    obind (xbini .shl t22 (.int .u64 16)) fun t23 =>
    obind (xbini .add t18 t23) fun t24 =>
    obind (xiaddr 1 t0 (.int .i64 2)) fun t26 =>
    obind (xload false 1 t26 S) fun t27 =>
    obind (xint2int .i64 t27) fun t28 =>
    obind (xbini .shl t28 (.int .u64 8)) fun t29 =>
    obind (xbini .add t24 t29) fun t30 =>
    obind (xiaddr 1 t0 (.int .i64 3)) fun t32 =>
    obind (xload false 1 t32 S) fun t33 =>
    obind (xint2int .i64 t33) fun t34 =>
    obind (xbini .add t30 t34) fun t35 =>
    obind (xlen t0) fun t38 =>
    obind (xbini .gtr t35 t38) fun t39 =>
    asplit t39 (
      K (.ret (.tuple [((.int .i64 0)), ((.slice [] 0 .nil)), ((.int .i64 0))])) S) (
      obind (xslice 1 t0 none (some t35) none) fun t43 =>
      ccall Sp48 [t43] S (fun t44 S_1 =>
        obind (xextract t44 0) fun t45 =>
        obind (xextract t44 1) fun t46 =>
        obind (xbini .neq t46 (.int .i64 0)) fun t48 =>
        asplit t48 (
          K (.ret (.tuple [((.int .i64 0)), ((.slice [] 0 .nil)), ((.int .i64 0))])) S_1) (
          ccall Sp49 [t45] S_1 (fun t50 S_2 =>
            ccall Sp50 [t45] S_2 (fun t52 S_3 =>
              ccall Sp51 [t45] S_3 (fun t54 S_4 =>
                obind (xbini .neq t54 (.int .i64 0)) fun t55 =>
                obind (gv t55 false (some t50)) fun t57 =>
                obind (gv t55 false (xbini .gtr t57 (.int .i64 2))) fun t58 =>
                obind (xpick t55 (.bool true) t58) fun t59 =>
                asplit t59 (
                  K (.ret (.tuple [((.int .i64 0)), ((.slice [] 0 .nil)), ((.int .i64 0))])) S_4) (
                  obind (xstr2bytes t52) fun t62 =>
                  K (.ret (.tuple [t50, t62, t35])) S_4)) (fun v S' => K (.pan v) S')) (fun v S' => K (.pan v) S')) (fun v S' => K (.pan v) S'))) (fun v S' => K (.pan v) S')))
def O32 : Nat → List Nat := lk [(3, [0, 1, 2, 3, 4, 5, 6, 7, 8, 9, 10, 11, 12, 13, 14, 15, 16, 17, 18, 19, 20, 21, 22, 23])]
def H32 : Nat → List Nat := lk []
theorem W32_eq (Sp48 : Spec) (Sp49 : Spec) (Sp50 : Spec) (Sp51 : Spec) (t0 : AV) (S : St) (K : En → St → Prop) : bcall Go.Proofs.Tryz.prog (tab [(48, Sp48), (49, Sp49), (50, Sp50), (51, Sp51)]) (own []) O32 H32 Go.Proofs.Tryz.f32 [t0] S K = (1 = 1 ∧ W32 Sp48 Sp49 Sp50 Sp51 t0 S K) := by kernel_rfl

/-- (*signet/wal.Wal).drop -/
def W33 (Sp31 : Spec) (Sp37 : Spec) (Sp52 : Spec) (t0 t1 : AV) (S : St) (K : En → St → Prop) : Prop :=
  obind (xnilck t0) fun t7 =>
  obind (xfaddr 0 t7) fun t8 =>
  obind (xload false 1 t8 S) fun t9 =>
  ccall Sp31 [t0, t1] S (fun t12 S_1 =>
    xload false 1 t8 S_1 = some t9 ∧ 
    ccall Sp52 [t9, t12, (.int .i64 0)] S_1 (fun t13 S_2 =>
      obind (xbslice [.int .i64 0] 1 [(0, 1, t13)]) fun t14 =>
      ccall Sp37 [t0, t14] S_2 (fun t15 S_3 =>
        K (.ret t15) S_3) (fun v S' => K (.pan v) S')) (fun v S' => K (.pan v) S')) (fun v S' => K (.pan v) S')
def O33 : Nat → List Nat := lk [(1, [0, 1, 2, 3, 4, 5, 6, 7, 8, 9, 10, 11])]
def H33 : Nat → List Nat := lk []
theorem W33_eq (Sp31 : Spec) (Sp37 : Spec) (Sp52 : Spec) (t0 t1 : AV) (S : St) (K : En → St → Prop) : bcall Go.Proofs.Tryz.prog (tab [(31, Sp31), (37, Sp37), (52, Sp52)]) (own []) O33 H33 Go.Proofs.Tryz.f33 [t0, t1] S K = (2 = 2 ∧ W33 Sp31 Sp37 Sp52 t0 t1 S K) := by kernel_rfl

/-- (*signet/wal.Wal).begin -/
def W34 (Sp29 : Spec) (Sp31 : Spec) (Sp33 : Spec) (Sp36 : Spec) (Sp37 : Spec) (Sp38 : Spec) (Sp39 : Spec) (t0 t1 t2 : AV) (S : St) (K : En → St → Prop) : Prop :=
  ccall Sp36 [(.int .i64 0), t2] S (fun t14 S_1 =>
    obind (xnilck t0) fun t17 =>
    obind (xfaddr 0 t17) fun t18 =>
    obind (xload false 1 t18 S_1) fun t19 =>
    ccall Sp31 [t0, t1] S_1 (fun t22 S_2 =>
      xload false 1 t18 S_2 = some t19 ∧ 
      ccall Sp39 [t19, t22, t14] S_2 (fun t24 S_3 =>
        obind (xbslice [.int .i64 0] 1 [(0, 1, t24)]) fun t25 =>
        ccall Sp37 [t0, t25] S_3 (fun t26 S_4 =>
          obind (xbini .neq t26 (.int .i64 0)) fun t28 =>
          asplit t28 (
            K (.ret t26) S_4) (
            obind (xnilck t0) fun t32 =>
            obind (xfaddr 0 t32) fun t33 =>
            obind (xload false 1 t33 S_4) fun t34 =>
            ccall Sp31 [t0, t1] S_4 (fun t37 S_5 =>
              xload false 1 t33 S_5 = some t34 ∧ 
              ccall Sp38 [t34, t37] S_5 (fun t38 S_6 =>
                obind (xbslice [.int .i64 0] 1 [(0, 1, t38)]) fun t39 =>
                ccall Sp37 [t0, t39] S_6 (fun t40 S_7 =>
                  obind (xbini .neq t40 (.int .i64 0)) fun t42 =>
                  asplit t42 (
                    K (.ret t40) S_7) (
                    obind (xlen t14) fun t49 =>
                    obind (xnilck t0) fun t50 =>
                    obind (xfaddr 3 t50) fun t51 =>
                    xstore 1 t51 t1 S_7 fun _ S_8 =>
                      obind (xnilck t0) fun t52 =>
                      obind (xfaddr 4 t52) fun t53 =>
                      xstore 1 t53 t49 S_8 fun _ S_9 =>
                        obind (xnilck t0) fun t54 =>
                        obind (xfaddr 5 t54) fun t55 =>
                        xstore 1 t55 (.int .i64 0) S_9 fun _ S_10 =>
                          ccall Sp29 [t0] S_10 (fun t57 S_11 =>
                            obind (xlen t57) fun t58 =>
                            aloop (fun rec l S_12 =>
                              obind (xbini .lss (g l 0) t58) fun t60 =>
                              asplit t60 (
                                obind (xiaddr 1 t57 (g l 0)) fun t61 =>
                                obind (xload false 1 t61 S_12) fun t62 =>
                                obind (xbini .neq t62 t1) fun t65 =>
                                asplit t65 (
                                  ccall Sp33 [t0, t62] S_12 (fun t68 S_13 =>
                                    obind (xbini .neq t68 (.int .i64 0)) fun t70 =>
                                    asplit t70 (
                                      K (.ret t68) S_13) (
                                      obind (xbini .add (g l 0) (.int .i64 1)) fun t72 =>
                                      ∃ S'', S''.le S_13 ∧ rec [t72] S'')) (fun v S' => K (.pan v) S')) (
                                  obind (xbini .add (g l 0) (.int .i64 1)) fun t72_1 =>
                                  ∃ S'', S''.le S_12 ∧ rec [t72_1] S'')) (
                                K (.ret ((.int .i64 0))) S_12)) [((.int .i64 0))] S_11) (fun v S' => K (.pan v) S'))) (fun v S' => K (.pan v) S')) (fun v S' => K (.pan v) S')) (fun v S' => K (.pan v) S'))) (fun v S' => K (.pan v) S')) (fun v S' => K (.pan v) S')) (fun v S' => K (.pan v) S')) (fun v S' => K (.pan v) S')
def O34 : Nat → List Nat := lk [(2, [0, 1, 2, 3, 4, 5, 6, 8, 7, 9, 10, 11, 12]), (5, [0, 1, 2, 3, 4, 5, 6, 7, 8, 9, 10, 11])]
def H34 : Nat → List Nat := lk [(10, [59])]
theorem W34_eq (Sp29 : Spec) (Sp31 : Spec) (Sp33 : Spec) (Sp36 : Spec) (Sp37 : Spec) (Sp38 : Spec) (Sp39 : Spec) (t0 t1 t2 : AV) (S : St) (K : En → St → Prop) : bcall Go.Proofs.Tryz.prog (tab [(29, Sp29), (31, Sp31), (33, Sp33), (36, Sp36), (37, Sp37), (38, Sp38), (39, Sp39)]) (own []) O34 H34 Go.Proofs.Tryz.f34 [t0, t1, t2] S K = (3 = 3 ∧ W34 Sp29 Sp31 Sp33 Sp36 Sp37 Sp38 Sp39 t0 t1 t2 S K) := by kernel_rfl

/-- (*signet/wal.Wal).replay -/
def W35 (Sp30 : Spec) (Sp31 : Spec) (Sp32 : Spec) (Sp33 : Spec) (Sp37 : Spec) (Sp38 : Spec) (Sp52 : Spec) (t0 t1 t2 : AV) (S : St) (K : En → St → Prop) : Prop :=
  obind (xlen t1) fun t22 =>
  obind (xbini .sub t22 (.int .i64 1)) fun t23 =>
  aloop (fun rec l S_1 =>
    obind (xbini .geq ((g l 2)) (.int .i64 0)) fun t25 =>
    asplit t25 (
      obind (xbini .lss ((g l 2)) t2) fun t30 =>
      asplit t30 (
        obind (xiaddr 1 t1 ((g l 2))) fun t34 =>
        obind (xload false 1 t34 S_1) fun t35 =>
        ccall Sp33 [t0, t35] S_1 (fun t36 S_2 =>
          obind (xbini .neq t36 (.int .i64 0)) fun t38 =>
          asplit t38 (
            K (.ret (.tuple [((.slice [] 0 .nil)), ((.slice [] 0 .nil)), t36])) S_2) (
            obind (xbini .sub ((g l 2)) (.int .i64 1)) fun t27 =>
            ∃ S'', S''.le S_2 ∧ rec [(g l 0), (g l 1), t27] S'')) (fun v S' => K (.pan v) S')) (
        obind (xbini .sub ((g l 2)) (.int .i64 1)) fun t27_1 =>
        ∃ S'', S''.le S_1 ∧ rec [(g l 0), (g l 1), t27_1] S'')) (
      aloop (fun rec_1 l_1 S_3 =>
        obind (xlen t1) fun t43 =>
        obind (xbini .lss ((g l_1 3)) t43) fun t44 =>
        asplit t44 (
          obind (xiaddr 1 t1 ((g l_1 3))) fun t50 =>
          obind (xload false 1 t50 S_3) fun t51 =>
          ccall Sp31 [t0, t51] S_3 (fun t52 S_4 =>
            obind (xnilck t0) fun t55 =>
            obind (xfaddr 0 t55) fun t56 =>
            obind (xload false 1 t56 S_4) fun t57 =>
            ccall Sp30 [t57, t52] S_4 (fun t59 S_5 =>
              obind (xextract t59 0) fun t60 =>
              obind (xextract t59 1) fun t61 =>
              aloop (fun rec_2 l_2 S_6 =>
                obind (gv (((g l_2 2))) true (some (g l_2 3))) fun t64 =>
                obind (gv (((g l_2 2))) true (some t60)) fun t65 =>
                obind (gv (((g l_2 2))) true (xlen t65)) fun t66 =>
                obind (gv (((g l_2 2))) true (xbini .lss t64 t66)) fun t67 =>
                obind (xpick (((g l_2 2))) t67 (.bool false)) fun t68 =>
                asplit t68 (
                  obind (xslice 1 t60 (some ((g l_2 3))) none none) fun t72 =>
                  ccall Sp32 [t72] S_6 (fun t73 S_7 =>
                    obind (xextract t73 0) fun t74 =>
                    obind (xextract t73 1) fun t75 =>
                    obind (xextract t73 2) fun t76 =>
                    obind (xbini .eql t76 (.int .i64 0)) fun t78 =>
                    obind (gv t78 false (some (g l_2 3))) fun t80 =>
                    obind (gv t78 false (xbini .eql t80 (.int .i64 0))) fun t81 =>
                    obind (gv t78 false (some t81)) fun t82 =>
                    obind (gv t82 true (some t74)) fun t83 =>
                    obind (gv t82 true (xbini .eql t83 (.int .i64 0))) fun t84 =>
                    obind (gv t82 true (some (g l_1 3))) fun t85 =>
                    obind (gv t82 true (some t2)) fun t86 =>
                    obind (gv t82 true (xbini .eql t85 t86)) fun t87 =>
                    obind (gv t82 true (xbinb .neq t84 t87)) fun t88 =>
                    obind (gv t78 false (xpick t82 t88 (.bool false))) fun t89 =>
                    obind (xpick t78 (.bool true) t89) fun t90 =>
                    obind (gv t90 false (some (g l_2 3))) fun t92 =>
                    obind (gv t90 false (xbini .eql t92 (.int .i64 0))) fun t93 =>
                    obind (gv t90 false (some t93)) fun t94 =>
                    obind (gv t94 true (some t74)) fun t95 =>
                    obind (gv t94 true (xbini .eql t95 (.int .i64 2))) fun t96 =>
                    obind (gv t90 false (xpick t94 t96 (.bool false))) fun t97 =>
                    obind (xpick t90 (.bool true) t97) fun t98 =>
                    obind (gv t98 false (some (g l_2 3))) fun t100 =>
                    obind (gv t98 false (xbini .eql t100 (.int .i64 0))) fun t101 =>
                    obind (gv t98 false (some t101)) fun t102 =>
                    obind (gv t102 true (some (g l_1 3))) fun t103 =>
                    obind (gv t102 true (some t2)) fun t104 =>
                    obind (gv t102 true (xbini .gtr t103 t104)) fun t105 =>
                    obind (gv t98 false (xpick t102 t105 (.bool false))) fun t106 =>
                    obind (gv t98 false (some t106)) fun t107 =>
                    obind (gv t107 true (some t1)) fun t108 =>
                    obind (gv t107 true (some (g l_1 3))) fun t109 =>
                    obind (gv t107 true (xiaddr 1 t108 t109)) fun t110 =>
                    obind (gv t107 true (xload false 1 t110 S_7)) fun t111 =>
                    obind (gv t107 true (some t1)) fun t112 =>
                    obind (gv t107 true (some (g l_1 3))) fun t113 =>
                    obind (gv t107 true (xbini .sub t113 (.int .i64 1))) fun t114 =>
                    obind (gv t107 true (xiaddr 1 t112 t114)) fun t115 =>
                    obind (gv t107 true (xload false 1 t115 S_7)) fun t116 =>
                    obind (gv t107 true (xbini .add t116 (.int .i64 1))) fun t117 =>
                    obind (gv t107 true (xbini .neq t111 t117)) fun t118 =>
                    obind (gv t98 false (xpick t107 t118 (.bool false))) fun t119 =>
                    obind (xpick t98 (.bool true) t119) fun t120 =>
                    obind (gv t120 false (some (g l_2 3))) fun t122 =>
                    obind (gv t120 false (xbini .gtr t122 (.int .i64 0))) fun t123 =>
                    obind (gv t120 false (some t123)) fun t124 =>
                    obind (gv t124 true (some t74)) fun t125 =>
                    obind (gv t124 true (xbini .neq t125 (.int .i64 2))) fun t126 =>
                    obind (gv t120 false (xpick t124 t126 (.bool false))) fun t127 =>
                    obind (xpick t120 (.bool true) t127) fun t128 =>
                    asplit t128 (
                      obind (xbini .gtr ((g l_2 3)) (.int .i64 0)) fun t142 =>
                      asplit t142 (
                        obind (xiaddr 1 t1 ((g l_1 3))) fun t147 =>
                        obind (xload false 1 t147 S_7) fun t148 =>
                        obind (xnilck t0) fun t150 =>
                        obind (xfaddr 3 t150) fun t151 =>
                        xstore 1 t151 t148 S_7 fun _ S_8 =>
                          obind (xnilck t0) fun t152 =>
                          obind (xfaddr 4 t152) fun t153 =>
                          xstore 1 t153 ((g l_2 3)) S_8 fun _ S_9 =>
                            obind (xlen t60) fun t156 =>
                            obind (xbini .lss ((g l_2 3)) t156) fun t157 =>
                            asplit t157 (
                              obind (xnilck t0) fun t160 =>
                              obind (xfaddr 0 t160) fun t161 =>
                              obind (xload false 1 t161 S_9) fun t162 =>
                              ccall Sp52 [t162, t52, ((g l_2 3))] S_9 (fun t165 S_10 =>
                                obind (xbslice [.int .i64 0] 1 [(0, 1, t165)]) fun t166 =>
                                ccall Sp37 [t0, t166] S_10 (fun t167 S_11 =>
                                  obind (xbini .neq t167 (.int .i64 0)) fun t169 =>
                                  asplit t169 (
                                    K (.ret (.tuple [((.slice [] 0 .nil)), ((.slice [] 0 .nil)), t167])) S_11) (
                                    obind (xbini .add ((g l_1 3)) (.int .i64 1)) fun t46 =>
                                    ∃ S'', S''.le S_11 ∧ rec_1 [(g l_2 0), (g l_2 1), ((.bool false)), t46] S'')) (fun v S' => K (.pan v) S')) (fun v S' => K (.pan v) S')) (
                              obind (xbini .add ((g l_1 3)) (.int .i64 1)) fun t46_1 =>
                              ∃ S'', S''.le S_9 ∧ rec_1 [(g l_2 0), (g l_2 1), ((.bool false)), t46_1] S'')) (
                        obind (xlen t60) fun t156_1 =>
                        obind (xbini .lss ((g l_2 3)) t156_1) fun t157_1 =>
                        asplit t157_1 (
                          obind (xnilck t0) fun t160_1 =>
                          obind (xfaddr 0 t160_1) fun t161_1 =>
                          obind (xload false 1 t161_1 S_7) fun t162_1 =>
                          ccall Sp52 [t162_1, t52, ((g l_2 3))] S_7 (fun t165_1 S_12 =>
                            obind (xbslice [.int .i64 0] 1 [(0, 1, t165_1)]) fun t166_1 =>
                            ccall Sp37 [t0, t166_1] S_12 (fun t167_1 S_13 =>
                              obind (xbini .neq t167_1 (.int .i64 0)) fun t169_1 =>
                              asplit t169_1 (
                                K (.ret (.tuple [((.slice [] 0 .nil)), ((.slice [] 0 .nil)), t167_1])) S_13) (
                                obind (xbini .add ((g l_1 3)) (.int .i64 1)) fun t46_2 =>
                                ∃ S'', S''.le S_13 ∧ rec_1 [(g l_2 0), (g l_2 1), ((.bool false)), t46_2] S'')) (fun v S' => K (.pan v) S')) (fun v S' => K (.pan v) S')) (
                          obind (xbini .add ((g l_1 3)) (.int .i64 1)) fun t46_3 =>
                          ∃ S'', S''.le S_7 ∧ rec_1 [(g l_2 0), (g l_2 1), ((.bool false)), t46_3] S''))) (
                      obind (xbini .eql t74 (.int .i64 0)) fun t130 =>
                      asplit t130 (
                        obind (xbini .eql t74 (.int .i64 2)) fun t133 =>
                        asplit t133 (
                          obind (xbslice [.slice [] 0 .nil] 1 [(0, 1, t75)]) fun t136 =>
                          xappend false 1 24 ((g l_2 1)) t136 S_7 fun t137 S_14 =>
                            obind (xbini .add ((g l_2 3)) t76) fun t140 =>
                            ∃ S'', S''.le S_14 ∧ rec_2 [t75, t137, (g l_2 2), t140] S'') (
                          obind (xbini .add ((g l_2 3)) t76) fun t140_1 =>
                          ∃ S'', S''.le S_7 ∧ rec_2 [t75, (g l_2 1), (g l_2 2), t140_1] S'')) (
                        obind (xbini .eql t74 (.int .i64 2)) fun t133_1 =>
                        asplit t133_1 (
                          obind (xbslice [.slice [] 0 .nil] 1 [(0, 1, t75)]) fun t136_1 =>
                          xappend false 1 24 ((g l_2 1)) t136_1 S_7 fun t137_1 S_15 =>
                            obind (xbini .add ((g l_2 3)) t76) fun t140_2 =>
                            ∃ S'', S''.le S_15 ∧ rec_2 [(g l_2 0), t137_1, (g l_2 2), t140_2] S'') (
                          obind (xbini .add ((g l_2 3)) t76) fun t140_3 =>
                          ∃ S'', S''.le S_7 ∧ rec_2 [(g l_2 0), (g l_2 1), (g l_2 2), t140_3] S'')))) (fun v S' => K (.pan v) S')) (
                  obind (xbini .gtr ((g l_2 3)) (.int .i64 0)) fun t142_1 =>
                  asplit t142_1 (
                    obind (xiaddr 1 t1 ((g l_1 3))) fun t147_1 =>
                    obind (xload false 1 t147_1 S_6) fun t148_1 =>
                    obind (xnilck t0) fun t150_1 =>
                    obind (xfaddr 3 t150_1) fun t151_1 =>
                    xstore 1 t151_1 t148_1 S_6 fun _ S_16 =>
                      obind (xnilck t0) fun t152_1 =>
                      obind (xfaddr 4 t152_1) fun t153_1 =>
                      xstore 1 t153_1 ((g l_2 3)) S_16 fun _ S_17 =>
                        obind (xlen t60) fun t156_2 =>
                        obind (xbini .lss ((g l_2 3)) t156_2) fun t157_2 =>
                        asplit t157_2 (
                          obind (xnilck t0) fun t160_2 =>
                          obind (xfaddr 0 t160_2) fun t161_2 =>
                          obind (xload false 1 t161_2 S_17) fun t162_2 =>
                          ccall Sp52 [t162_2, t52, ((g l_2 3))] S_17 (fun t165_2 S_18 =>
                            obind (xbslice [.int .i64 0] 1 [(0, 1, t165_2)]) fun t166_2 =>
                            ccall Sp37 [t0, t166_2] S_18 (fun t167_2 S_19 =>
                              obind (xbini .neq t167_2 (.int .i64 0)) fun t169_2 =>
                              asplit t169_2 (
                                K (.ret (.tuple [((.slice [] 0 .nil)), ((.slice [] 0 .nil)), t167_2])) S_19) (
                                obind (xbini .add ((g l_1 3)) (.int .i64 1)) fun t46_4 =>
                                ∃ S'', S''.le S_19 ∧ rec_1 [(g l_2 0), (g l_2 1), (g l_2 2), t46_4] S'')) (fun v S' => K (.pan v) S')) (fun v S' => K (.pan v) S')) (
                          obind (xbini .add ((g l_1 3)) (.int .i64 1)) fun t46_5 =>
                          ∃ S'', S''.le S_17 ∧ rec_1 [(g l_2 0), (g l_2 1), (g l_2 2), t46_5] S'')) (
                    obind (xlen t60) fun t156_3 =>
                    obind (xbini .lss ((g l_2 3)) t156_3) fun t157_3 =>
                    asplit t157_3 (
                      obind (xnilck t0) fun t160_3 =>
                      obind (xfaddr 0 t160_3) fun t161_3 =>
                      obind (xload false 1 t161_3 S_6) fun t162_3 =>
                      ccall Sp52 [t162_3, t52, ((g l_2 3))] S_6 (fun t165_3 S_20 =>
                        obind (xbslice [.int .i64 0] 1 [(0, 1, t165_3)]) fun t166_3 =>
                        ccall Sp37 [t0, t166_3] S_20 (fun t167_3 S_21 =>
                          obind (xbini .neq t167_3 (.int .i64 0)) fun t169_3 =>
                          asplit t169_3 (
                            K (.ret (.tuple [((.slice [] 0 .nil)), ((.slice [] 0 .nil)), t167_3])) S_21) (
                            obind (xbini .add ((g l_1 3)) (.int .i64 1)) fun t46_6 =>
                            ∃ S'', S''.le S_21 ∧ rec_1 [(g l_2 0), (g l_2 1), (g l_2 2), t46_6] S'')) (fun v S' => K (.pan v) S')) (fun v S' => K (.pan v) S')) (
                      obind (xbini .add ((g l_1 3)) (.int .i64 1)) fun t46_7 =>
                      ∃ S'', S''.le S_6 ∧ rec_1 [(g l_2 0), (g l_2 1), (g l_2 2), t46_7] S'')))) [(g l_1 0), (g l_1 1), (g l_1 2), ((.int .i64 0))] S_5) (fun v S' => K (.pan v) S')) (fun v S' => K (.pan v) S')) (
          obind (xlen ((g l_1 1))) fun t173 =>
          obind (xnilck t0) fun t174 =>
          obind (xfaddr 5 t174) fun t175 =>
          xstore 1 t175 t173 S_3 fun _ S_22 =>
            obind (xnilck t0) fun t180 =>
            obind (xfaddr 0 t180) fun t181 =>
            obind (xload false 1 t181 S_22) fun t182 =>
            obind (xnilck t0) fun t185 =>
            obind (xfaddr 3 t185) fun t186 =>
            obind (xload false 1 t186 S_22) fun t187 =>
            ccall Sp31 [t0, t187] S_22 (fun t188 S_23 =>
              xload false 1 t181 S_23 = some t182 ∧ 
              ccall Sp38 [t182, t188] S_23 (fun t189 S_24 =>
                obind (xbslice [.int .i64 0] 1 [(0, 1, t189)]) fun t190 =>
                ccall Sp37 [t0, t190] S_24 (fun t191 S_25 =>
                  K (.ret (.tuple [(((g l_1 0))), (((g l_1 1))), t191])) S_25) (fun v S' => K (.pan v) S')) (fun v S' => K (.pan v) S')) (fun v S' => K (.pan v) S'))) [(g l 0), (g l 1), ((.bool true)), t2] S_1)) [((.slice [] 0 .nil)), ((.slice [] 0 .nil)), t23] S
def O35 : Nat → List Nat := lk [(17, [0, 1, 2, 3, 4, 5, 6, 7, 8, 9, 10, 11, 12, 13, 14, 15, 16, 17, 18, 19, 20, 21, 22, 23, 24, 25, 26, 27, 28, 29, 30, 31, 32, 33, 34, 35, 36, 37, 38, 39, 40, 41, 42, 43, 44, 45, 46, 47, 48, 49, 50, 51]), (31, [0, 1, 2, 3, 4, 5, 6, 7, 8, 9, 10, 11, 12, 13, 14, 15, 16, 17, 18])]
def H35 : Nat → List Nat := lk [(3, [6, 7, 10]), (10, [6, 7, 9, 12]), (15, [6, 7, 9, 16])]
theorem W35_eq (Sp30 : Spec) (Sp31 : Spec) (Sp32 : Spec) (Sp33 : Spec) (Sp37 : Spec) (Sp38 : Spec) (Sp52 : Spec) (t0 t1 t2 : AV) (S : St) (K : En → St → Prop) : bcall Go.Proofs.Tryz.prog (tab [(30, Sp30), (31, Sp31), (32, Sp32), (33, Sp33), (37, Sp37), (38, Sp38), (52, Sp52)]) (own []) O35 H35 Go.Proofs.Tryz.f35 [t0, t1, t2] S K = (3 = 3 ∧ W35 Sp30 Sp31 Sp32 Sp33 Sp37 Sp38 Sp52 t0 t1 t2 S K) := by kernel_rfl

/-- signet/wal.frame -/
def W36 (Sp53 : Spec) (Sp54 : Spec) (Sp55 : Spec) (Sp56 : Spec) (t0 t1 : AV) (S : St) (K : En → St → Prop) : Prop :=
  ccall Sp53 [] S (fun t8 S_1 =>
    ccall Sp54 [t8, t0] S_1 (fun t11 S_2 =>
      obind (xbytes2str t1 S_2) fun t14 =>
      ccall Sp55 [t8, t14] S_2 (fun t15 S_3 =>
        ccall Sp56 [t8] S_3 (fun t18 S_4 =>
          obind (xextract t18 0) fun t19 =>
          obind (xextract t18 1) fun t20 =>
          K (.ret t19) S_4) (fun v S' => K (.pan v) S')) (fun v S' => K (.pan v) S')) (fun v S' => K (.pan v) S')) (fun v S' => K (.pan v) S')
def O36 : Nat → List Nat := lk []
def H36 : Nat → List Nat := lk []
theorem W36_eq (Sp53 : Spec) (Sp54 : Spec) (Sp55 : Spec) (Sp56 : Spec) (t0 t1 : AV) (S : St) (K : En → St → Prop) : bcall Go.Proofs.Tryz.prog (tab [(53, Sp53), (54, Sp54), (55, Sp55), (56, Sp56)]) (own []) O36 H36 Go.Proofs.Tryz.f36 [t0, t1] S K = (2 = 2 ∧ W36 Sp53 Sp54 Sp55 Sp56 t0 t1 S K) := by kernel_rfl

/-- (*signet/wal.Wal).first -/
def W37 (t0 t1 : AV) (S : St) (K : En → St → Prop) : Prop :=
  obind (xlen t1) fun t8 =>
  aloop (fun rec l S_1 =>
    obind (xbini .lss (g l 0) t8) fun t10 =>
    asplit t10 (
      obind (xiaddr 1 t1 (g l 0)) fun t11 =>
      obind (xload false 1 t11 S_1) fun t12 =>
      obind (xbini .neq t12 (.int .i64 0)) fun t14 =>
      asplit t14 (
        obind (xnilck t0) fun t17 =>
        obind (xfaddr 6 t17) fun t18 =>
        obind (xload false 1 t18 S_1) fun t19 =>
        obind (gv t19 false (some t12)) fun t21 =>
        obind (gv t19 false (xbini .eql t21 (.int .i64 9))) fun t22 =>
        obind (xpick t19 (.bool true) t22) fun t23 =>
        obind (xnilck t0) fun t24 =>
        obind (xfaddr 6 t24) fun t25 =>
        xstore 1 t25 t23 S_1 fun _ S_2 =>
          K (.ret t12) S_2) (
        obind (xbini .add (g l 0) (.int .i64 1)) fun t27 =>
        ∃ S'', S''.le S_1 ∧ rec [t27] S'')) (
      K (.ret ((.int .i64 0))) S_1)) [((.int .i64 0))] S
def O37 : Nat → List Nat := lk []
def H37 : Nat → List Nat := lk [(2, [9])]
theorem W37_eq (t0 t1 : AV) (S : St) (K : En → St → Prop) : bcall Go.Proofs.Tryz.prog (tab []) (own []) O37 H37 Go.Proofs.Tryz.f37 [t0, t1] S K = (2 = 2 ∧ W37 t0 t1 S K) := by kernel_rfl

/-- (*signet/plate.Plate).Sync -/
def W38 (Sp41 : Spec) (Sp57 : Spec) (t0 t1 : AV) (S : St) (K : En → St → Prop) : Prop :=
  ccall Sp57 [t0, t1] S (fun t9 S_1 =>
    obind (xbini .eql t9 (.int .i64 0)) fun t11 =>
    asplit t11 (
      obind (xnilck t0) fun t13 =>
      obind (xfaddr 0 t13) fun t14 =>
      obind (xload false 1 t14 S_1) fun t15 =>
      obind (xlookup true (.agg [.slice [] 0 .nil, .int .i64 0]) false t15 t1 S_1) fun t17 =>
      xalloc [.slice [] 0 .nil, .int .i64 0] S_1 fun t6 S_2 =>
        xstore 2 t6 t17 S_2 fun _ S_3 =>
          obind (xfaddr 0 t6) fun t20 =>
          obind (xload false 1 t20 S_3) fun t21 =>
          obind (xfaddr 0 t6) fun t22 =>
          obind (xload false 1 t22 S_3) fun t23 =>
          obind (xlen t23) fun t24 =>
          obind (xbuild [.slice [] 0 .nil, .int .i64 0] [(0, 1, t21), (1, 1, t24)]) fun t25 =>
          ccall Sp41 [t0, t1, t25] S_3 (fun t26 S_4 =>
            K (.ret t9) S_4) (fun v S' => K (.pan v) S')) (
      K (.ret t9) S_1)) (fun v S' => K (.pan v) S')
def O38 : Nat → List Nat := lk []
def H38 : Nat → List Nat := lk []
theorem W38_eq (Sp41 : Spec) (Sp57 : Spec) (t0 t1 : AV) (S : St) (K : En → St → Prop) : bcall Go.Proofs.Tryz.prog (tab [(41, Sp41), (57, Sp57)]) (own []) O38 H38 Go.Proofs.Tryz.f38 [t0, t1] S K = (2 = 2 ∧ W38 Sp41 Sp57 t0 t1 S K) := by kernel_rfl

/-- (*signet/plate.Plate).Append -/
def W39 (Sp41 : Spec) (Sp57 : Spec) (t0 t1 t2 : AV) (S : St) (K : En → St → Prop) : Prop :=
  ccall Sp57 [t0, t1] S (fun t11 S_1 =>
    obind (xbini .neq t11 (.int .i64 0)) fun t13 =>
    asplit t13 (
      K (.ret t11) S_1) (
      obind (xlen t2) fun t16 =>
      obind (xnilck t0) fun t18 =>
      obind (xfaddr 1 t18) fun t19 =>
      obind (xload false 1 t19 S_1) fun t20 =>
      obind (xnilck t0) fun t22 =>
      obind (xfaddr 2 t22) fun t23 =>
      obind (xload false 1 t23 S_1) fun t24 =>
      obind (xbini .sub t20 t24) fun t25 =>
      obind (xbini .gtr t16 t25) fun t26 =>
      asplit t26 (
        K (.ret ((.int .i64 8))) S_1) (
        obind (xnilck t0) fun t28 =>
        obind (xfaddr 0 t28) fun t29 =>
        obind (xload false 1 t29 S_1) fun t30 =>
        obind (xlookup true (.agg [.slice [] 0 .nil, .int .i64 0]) false t30 t1 S_1) fun t32 =>
        xalloc [.slice [] 0 .nil, .int .i64 0] S_1 fun t8 S_2 =>
          xstore 2 t8 t32 S_2 fun _ S_3 =>
            obind (xfaddr 0 t8) fun t35 =>
            obind (xload false 1 t35 S_3) fun t36 =>
            obind (xfaddr 1 t8) fun t39 =>
            obind (xload false 1 t39 S_3) fun t40 =>
            xappend false 1 1 t36 t2 S_3 fun t38 S_4 =>
              xload false 1 t39 S_4 = some t40 ∧ 
              obind (xbuild [.slice [] 0 .nil, .int .i64 0] [(0, 1, t38), (1, 1, t40)]) fun t41 =>
              ccall Sp41 [t0, t1, t41] S_4 (fun t42 S_5 =>
                K (.ret ((.int .i64 0))) S_5) (fun v S' => K (.pan v) S')))) (fun v S' => K (.pan v) S')
def O39 : Nat → List Nat := lk [(4, [0, 1, 2, 3, 4, 5, 6, 7, 8, 9, 10, 11]), (7, [0, 1, 2, 3, 4, 6, 7, 5, 8, 9])]
def H39 : Nat → List Nat := lk []
theorem W39_eq (Sp41 : Spec) (Sp57 : Spec) (t0 t1 t2 : AV) (S : St) (K : En → St → Prop) : bcall Go.Proofs.Tryz.prog (tab [(41, Sp41), (57, Sp57)]) (own []) O39 H39 Go.Proofs.Tryz.f39 [t0, t1, t2] S K = (3 = 3 ∧ W39 Sp41 Sp57 t0 t1 t2 S K) := by kernel_rfl

/-- (*signet/plate.Plate).Names -/
def W40 (Sp58 : Spec) (t0 : AV) (S : St) (K : En → St → Prop) : Prop :=
  obind (xisnil false (xnilp t0)) fun t6 =>
  asplit t6 (
    K (.ret ((.slice [] 0 .nil))) S) (
    obind (xnilck t0) fun t8 =>
    obind (xfaddr 0 t8) fun t9 =>
    obind (xload false 1 t9 S) fun t10 =>
    xrange t10 S fun t11 S_1 =>
      aloop (fun rec l S_2 =>
        xnextm t11 S_2 fun t12 S_3 =>
          obind (xextract t12 0) fun t13 =>
          asplit t13 (
            obind (xentry t11 S_3) fun t14 =>
            obind (xextract t14 0) fun t15 =>
            obind (xbslice [.str ⟨#[]⟩] 1 [(0, 1, t15)]) fun t18 =>
            xappend true 1 16 ((g l 0)) t18 S_3 fun t19 S_4 =>
              ∃ S'', S''.le S_4 ∧ rec [t19] S'') (
            ccall Sp58 [((g l 0))] S_3 (fun t21 S_5 =>
              K (.ret (((g l 0)))) S_5) (fun v S' => K (.pan v) S'))) [((.slice [] 0 .nil))] S_1)
def O40 : Nat → List Nat := lk []
def H40 : Nat → List Nat := lk [(5, [3])]
theorem W40_eq (Sp58 : Spec) (t0 : AV) (S : St) (K : En → St → Prop) : bcall Go.Proofs.Tryz.prog (tab [(58, Sp58)]) (own [19]) O40 H40 Go.Proofs.Tryz.f40 [t0] S K = (1 = 1 ∧ W40 Sp58 t0 S K) := by kernel_rfl

/-- (*signet/plate.Plate).lay -/
def W41 (t0 t1 t2 : AV) (S : St) (K : En → St → Prop) : Prop :=
  xbox 2 t2 S fun t5 S_1 =>
    obind (xnilck t0) fun t7 =>
    obind (xfaddr 2 t7) fun t8 =>
    obind (xload false 1 t8 S_1) fun t9 =>
    obind (xfaddr 0 t5) fun t10 =>
    obind (xload false 1 t10 S_1) fun t11 =>
    obind (xlen t11) fun t12 =>
    obind (xnilck t0) fun t14 =>
    obind (xfaddr 0 t14) fun t15 =>
    obind (xload false 1 t15 S_1) fun t16 =>
    obind (xlookup true (.agg [.slice [] 0 .nil, .int .i64 0]) false t16 t1 S_1) fun t18 =>
    obind (xfield false 1 0 t18) fun t19 =>
    obind (xlen t19) fun t20 =>
    obind (xbini .sub t12 t20) fun t21 =>
    obind (xbini .add t9 t21) fun t22 =>
    obind (xnilck t0) fun t23 =>
    obind (xfaddr 2 t23) fun t24 =>
    xstore 1 t24 t22 S_1 fun _ S_2 =>
      obind (xnilck t0) fun t26 =>
      obind (xfaddr 0 t26) fun t27 =>
      obind (xload false 1 t27 S_2) fun t28 =>
      obind (xload true 2 t5 S_2) fun t30 =>
      xmapset true t28 t1 t30 S_2 fun _ S_3 =>
        obind (xfaddr 0 t5) fun t31 =>
        obind (xload false 1 t31 S_3) fun t32 =>
        obind (xlen t32) fun t33 =>
        obind (xbini .eql t33 (.int .i64 0)) fun t34 =>
        asplit t34 (
          obind (xnilck t0) fun t36 =>
          obind (xfaddr 0 t36) fun t37 =>
          obind (xload false 1 t37 S_3) fun t38 =>
          xmapdel true t38 t1 S_3 fun _ S_4 =>
            K (.ret (.tuple [])) S_4) (
          K (.ret (.tuple [])) S_3)
def O41 : Nat → List Nat := lk [(1, [0, 1, 2, 3, 4, 5, 6, 7, 8, 9, 10, 11, 12, 13, 14, 15, 16, 17, 18, 19]), (2, [0, 1, 2, 3, 4, 5, 6])]
def H41 : Nat → List Nat := lk []
theorem W41_eq (t0 t1 t2 : AV) (S : St) (K : En → St → Prop) : bcall Go.Proofs.Tryz.prog (tab []) (own []) O41 H41 Go.Proofs.Tryz.f41 [t0, t1, t2] S K = (3 = 3 ∧ W41 t0 t1 t2 S K) := by kernel_rfl

/-- strings.CutPrefix -/
def W42 (Sp59 : Spec) (t0 t1 : AV) (S : St) (K : En → St → Prop) : Prop :=
  ccall Sp59 [t0, t1] S (fun t8 S_1 =>
    obind (xextract t8 0) fun t9 =>
    obind (xextract t8 1) fun t10 =>
    K (.ret (.tuple [t9, t10])) S_1) (fun v S' => K (.pan v) S')
def O42 : Nat → List Nat := lk []
def H42 : Nat → List Nat := lk []
theorem W42_eq (Sp59 : Spec) (t0 t1 : AV) (S : St) (K : En → St → Prop) : bcall Go.Proofs.Tryz.prog (tab [(59, Sp59)]) (own []) O42 H42 Go.Proofs.Tryz.f42 [t0, t1] S K = (2 = 2 ∧ W42 Sp59 t0 t1 S K) := by kernel_rfl

/-- slices.Clone[[]byte,byte] -/
def W46 (t0 : AV) (S : St) (K : En → St → Prop) : Prop :=
  obind (xisnil false (xnils t0)) fun t4 =>
  asplit t4 (
    K (.ret ((.slice [] 0 .nil))) S) (
    obind (xbslice [] 0 []) fun t5 =>
    xappend false 1 1 t5 t0 S fun t7 S_1 =>
      K (.ret t7) S_1)
def O46 : Nat → List Nat := lk []
def H46 : Nat → List Nat := lk []
theorem W46_eq (t0 : AV) (S : St) (K : En → St → Prop) : bcall Go.Proofs.Tryz.prog (tab []) (own []) O46 H46 Go.Proofs.Tryz.f46 [t0] S K = (1 = 1 ∧ W46 t0 S K) := by kernel_rfl

/-- (*signet/plate.Plate).asked -/
def W45 (t0 t1 : AV) (S : St) (K : En → St → Prop) : Prop :=
  obind (xisnil false (xnilp t0)) fun t7 =>
  asplit t7 (
    K (.ret ((.int .i64 12))) S) (
    obind (xslen t1) fun t10 =>
    obind (xbini .lss t10 (.int .i64 1)) fun t11 =>
    obind (gv t11 false (some t1)) fun t13 =>
    obind (gv t11 false (xslen t13)) fun t14 =>
    obind (gv t11 false (xbini .gtr t14 (.int .i64 64))) fun t15 =>
    obind (xpick t11 (.bool true) t15) fun t16 =>
    asplit t16 (
      K (.ret ((.int .i64 1))) S) (
      obind (xnilck t0) fun t19 =>
      obind (xfaddr 5 t19) fun t20 =>
      obind (xload false 1 t20 S) fun t21 =>
      asplit t21 (
        K (.ret ((.int .i64 9))) S) (
        K (.ret ((.int .i64 0))) S)))
def O45 : Nat → List Nat := lk []
def H45 : Nat → List Nat := lk []
theorem W45_eq (t0 t1 : AV) (S : St) (K : En → St → Prop) : bcall Go.Proofs.Tryz.prog (tab []) (own []) O45 H45 Go.Proofs.Tryz.f45 [t0, t1] S K = (2 = 2 ∧ W45 t0 t1 S K) := by kernel_rfl

/-- signet/wire.NewReader -/
def W48 (Sp65 : Spec) (Sp66 : Spec) (t0 : AV) (S : St) (K : En → St → Prop) : Prop :=
  obind (xlen t0) fun t7 =>
  obind (xbini .lss t7 (.int .i64 8)) fun t8 =>
  asplit t8 (
    K (.ret (.tuple [((.ptr none)), ((.int .i64 4))])) S) (
    obind (xslice 1 t0 (some (.int .i64 8)) none none) fun t13 =>
    ccall Sp65 [t0] S (fun t10 S_1 =>
      obind (xint2int .u64 t10) fun t11 =>
      obind (xbini .gtr t11 (.int .u64 65536)) fun t16 =>
      asplit t16 (
        K (.ret (.tuple [((.ptr none)), ((.int .i64 2))])) S_1) (
        obind (xlen t13) fun t19 =>
        obind (xint2int .u64 t19) fun t20 =>
        obind (xbini .lss t20 t11) fun t22 =>
        asplit t22 (
          K (.ret (.tuple [((.ptr none)), ((.int .i64 4))])) S_1) (
          obind (xlen t13) fun t25 =>
          obind (xint2int .u64 t25) fun t26 =>
          obind (xbini .gtr t26 t11) fun t28 =>
          asplit t28 (
            K (.ret (.tuple [((.ptr none)), ((.int .i64 3))])) S_1) (
            obind (xslice 1 t0 (some (.int .i64 4)) none none) fun t33 =>
            ccall Sp66 [t13] S_1 (fun t31 S_2 =>
              ccall Sp65 [t33] S_2 (fun t34 S_3 =>
                obind (xbini .neq t31 t34) fun t35 =>
                asplit t35 (
                  K (.ret (.tuple [((.ptr none)), ((.int .i64 5))])) S_3) (
                  xappend false 1 1 (.slice [] 0 .nil) t13 S_3 fun t37 S_4 =>
                    obind (xbuild [.slice [] 0 .nil, .int .i64 0] [(0, 1, t37)]) fun t38 =>
                    obind (xbuild [.slice [] 0 .nil, .int .i64 0] [(0, 2, t38)]) fun t39 =>
                    xbox 2 t39 S_4 fun t40 S_5 =>
                      K (.ret (.tuple [t40, ((.int .i64 0))])) S_5)) (fun v S' => K (.pan v) S')) (fun v S' => K (.pan v) S'))))) (fun v S' => K (.pan v) S'))
def O48 : Nat → List Nat := lk [(3, [0, 3, 4, 1, 2, 5, 6]), (10, [0, 2, 3, 1, 4, 5, 6])]
def H48 : Nat → List Nat := lk []
theorem W48_eq (Sp65 : Spec) (Sp66 : Spec) (t0 : AV) (S : St) (K : En → St → Prop) : bcall Go.Proofs.Tryz.prog (tab [(65, Sp65), (66, Sp66)]) (own []) O48 H48 Go.Proofs.Tryz.f48 [t0] S K = (1 = 1 ∧ W48 Sp65 Sp66 t0 S K) := by kernel_rfl

/-- (*signet/wire.Reader).Count -/
def W49 (Sp67 : Spec) (t0 : AV) (S : St) (K : En → St → Prop) : Prop :=
  obind (xisnil false (xnilp t0)) fun t4 =>
  asplit t4 (
    K (.ret ((.int .i64 0))) S) (
    obind (xnilck t0) fun t6 =>
    obind (xfaddr 0 t6) fun t7 =>
    ccall Sp67 [t7, (.int .u64 4096)] S (fun t8 S_1 =>
      obind (xint2int .i64 t8) fun t9 =>
      K (.ret t9) S_1) (fun v S' => K (.pan v) S'))
def O49 : Nat → List Nat := lk []
def H49 : Nat → List Nat := lk []
theorem W49_eq (Sp67 : Spec) (t0 : AV) (S : St) (K : En → St → Prop) : bcall Go.Proofs.Tryz.prog (tab [(67, Sp67)]) (own []) O49 H49 Go.Proofs.Tryz.f49 [t0] S K = (1 = 1 ∧ W49 Sp67 t0 S K) := by kernel_rfl

/-- (*signet/wire.Reader).Text -/
def W50 (Sp67 : Spec) (Sp68 : Spec) (t0 : AV) (S : St) (K : En → St → Prop) : Prop :=
  obind (xisnil false (xnilp t0)) fun t6 =>
  asplit t6 (
    K (.ret ((.str ⟨#[]⟩))) S) (
    obind (xnilck t0) fun t8 =>
    obind (xfaddr 0 t8) fun t9 =>
    ccall Sp67 [t9, (.int .u64 65536)] S (fun t10 S_1 =>
      obind (xint2int .i64 t10) fun t11 =>
      obind (xnilck t0) fun t14 =>
      obind (xfaddr 0 t14) fun t15 =>
      obind (xfaddr 0 t15) fun t16 =>
      obind (xload false 1 t16 S_1) fun t17 =>
      obind (xlen t17) fun t18 =>
      obind (xbini .gtr t11 t18) fun t19 =>
      asplit t19 (
        obind (xnilck t0) fun t21 =>
        obind (xfaddr 0 t21) fun t22 =>
        ccall Sp68 [t22, (.int .i64 4)] S_1 (fun t23 S_2 =>
          obind (xnilck t0) fun t25 =>
          obind (xfaddr 0 t25) fun t26 =>
          obind (xfaddr 1 t26) fun t27 =>
          obind (xload false 1 t27 S_2) fun t28 =>
          obind (xbini .neq t28 (.int .i64 0)) fun t29 =>
          asplit t29 (
            K (.ret ((.str ⟨#[]⟩))) S_2) (
            obind (xnilck t0) fun t31 =>
            obind (xfaddr 0 t31) fun t32 =>
            obind (xfaddr 0 t32) fun t33 =>
            obind (xload false 1 t33 S_2) fun t34 =>
            obind (xslice 1 t34 none (some t11) none) fun t36 =>
            obind (xbytes2str t36 S_2) fun t37 =>
            obind (xnilck t0) fun t40 =>
            obind (xfaddr 0 t40) fun t41 =>
            obind (xfaddr 0 t41) fun t42 =>
            obind (xload false 1 t42 S_2) fun t43 =>
            obind (xslice 1 t43 (some t11) none none) fun t45 =>
            obind (xnilck t0) fun t46 =>
            obind (xfaddr 0 t46) fun t47 =>
            obind (xfaddr 0 t47) fun t48 =>
            xstore 1 t48 t45 S_2 fun _ S_3 =>
              K (.ret t37) S_3)) (fun v S' => K (.pan v) S')) (
        obind (xnilck t0) fun t25_1 =>
        obind (xfaddr 0 t25_1) fun t26_1 =>
        obind (xfaddr 1 t26_1) fun t27_1 =>
        obind (xload false 1 t27_1 S_1) fun t28_1 =>
        obind (xbini .neq t28_1 (.int .i64 0)) fun t29_1 =>
        asplit t29_1 (
          K (.ret ((.str ⟨#[]⟩))) S_1) (
          obind (xnilck t0) fun t31_1 =>
          obind (xfaddr 0 t31_1) fun t32_1 =>
          obind (xfaddr 0 t32_1) fun t33_1 =>
          obind (xload false 1 t33_1 S_1) fun t34_1 =>
          obind (xslice 1 t34_1 none (some t11) none) fun t36_1 =>
          obind (xbytes2str t36_1 S_1) fun t37_1 =>
          obind (xnilck t0) fun t40_1 =>
          obind (xfaddr 0 t40_1) fun t41_1 =>
          obind (xfaddr 0 t41_1) fun t42_1 =>
          obind (xload false 1 t42_1 S_1) fun t43_1 =>
          obind (xslice 1 t43_1 (some t11) none none) fun t45_1 =>
          obind (xnilck t0) fun t46_1 =>
          obind (xfaddr 0 t46_1) fun t47_1 =>
          obind (xfaddr 0 t47_1) fun t48_1 =>
          xstore 1 t48_1 t45_1 S_1 fun _ S_4 =>
            K (.ret t37_1) S_4))) (fun v S' => K (.pan v) S'))
def O50 : Nat → List Nat := lk []
def H50 : Nat → List Nat := lk []
theorem W50_eq (Sp67 : Spec) (Sp68 : Spec) (t0 : AV) (S : St) (K : En → St → Prop) : bcall Go.Proofs.Tryz.prog (tab [(67, Sp67), (68, Sp68)]) (own []) O50 H50 Go.Proofs.Tryz.f50 [t0] S K = (1 = 1 ∧ W50 Sp67 Sp68 t0 S K) := by kernel_rfl

/-- (*signet/wire.Reader).End -/
def W51 (t0 : AV) (S : St) (K : En → St → Prop) : Prop :=
  obind (xisnil false (xnilp t0)) fun t5 =>
  asplit t5 (
    K (.ret ((.int .i64 12))) S) (
    obind (xnilck t0) fun t8 =>
    obind (xfaddr 0 t8) fun t9 =>
    obind (xfaddr 1 t9) fun t10 =>
    obind (xload false 1 t10 S) fun t11 =>
    obind (xbini .eql t11 (.int .i64 0)) fun t12 =>
    obind (gv t12 true (some t0)) fun t14 =>
    obind (gv t12 true (xnilck t14)) fun t15 =>
    obind (gv t12 true (xfaddr 0 t15)) fun t16 =>
    obind (gv t12 true (xfaddr 0 t16)) fun t17 =>
    obind (gv t12 true (xload false 1 t17 S)) fun t18 =>
    obind (gv t12 true (xlen t18)) fun t19 =>
    obind (gv t12 true (xbini .gtr t19 (.int .i64 0))) fun t20 =>
    obind (xpick t12 t20 (.bool false)) fun t21 =>
    asplit t21 (
      K (.ret ((.int .i64 3))) S) (
      obind (xnilck t0) fun t23 =>
      obind (xfaddr 0 t23) fun t24 =>
      obind (xfaddr 1 t24) fun t25 =>
      obind (xload false 1 t25 S) fun t26 =>
      K (.ret t26) S))
def O51 : Nat → List Nat := lk []
def H51 : Nat → List Nat := lk []
theorem W51_eq (t0 : AV) (S : St) (K : En → St → Prop) : bcall Go.Proofs.Tryz.prog (tab []) (own []) O51 H51 Go.Proofs.Tryz.f51 [t0] S K = (1 = 1 ∧ W51 t0 S K) := by kernel_rfl

/-- (*signet/plate.Plate).Cut -/
def W52 (Sp41 : Spec) (Sp57 : Spec) (t0 t1 t2 : AV) (S : St) (K : En → St → Prop) : Prop :=
  ccall Sp57 [t0, t1] S (fun t11 S_1 =>
    obind (xbini .neq t11 (.int .i64 0)) fun t13 =>
    asplit t13 (
      K (.ret t11) S_1) (
      obind (xnilck t0) fun t16 =>
      obind (xfaddr 0 t16) fun t17 =>
      obind (xload false 1 t17 S_1) fun t18 =>
      obind (xlookup true (.agg [.slice [] 0 .nil, .int .i64 0]) false t18 t1 S_1) fun t20 =>
      xalloc [.slice [] 0 .nil, .int .i64 0] S_1 fun t8 S_2 =>
        xstore 2 t8 t20 S_2 fun _ S_3 =>
          obind (xbini .lss t2 (.int .i64 0)) fun t22 =>
          obind (gv t22 false (some t2)) fun t24 =>
          obind (gv t22 false (xfaddr 0 t8)) fun t25 =>
          obind (gv t22 false (xload false 1 t25 S_3)) fun t26 =>
          obind (gv t22 false (xlen t26)) fun t27 =>
          obind (gv t22 false (xbini .gtr t24 t27)) fun t28 =>
          obind (xpick t22 (.bool true) t28) fun t29 =>
          asplit t29 (
            K (.ret ((.int .i64 6))) S_3) (
            obind (xfaddr 0 t8) fun t32 =>
            obind (xload false 1 t32 S_3) fun t33 =>
            obind (xslice 1 t33 none (some t2) (some t2)) fun t36 =>
            obind (xfaddr 1 t8) fun t37 =>
            obind (xload false 1 t37 S_3) fun t38 =>
            obind (xmm false t38 t2) fun t40 =>
            obind (xbuild [.slice [] 0 .nil, .int .i64 0] [(0, 1, t36), (1, 1, t40)]) fun t41 =>
            ccall Sp41 [t0, t1, t41] S_3 (fun t42 S_4 =>
              K (.ret ((.int .i64 0))) S_4) (fun v S' => K (.pan v) S')))) (fun v S' => K (.pan v) S')
def O52 : Nat → List Nat := lk [(7, [0, 1, 2, 3, 4, 5, 6, 7, 8, 9, 10, 11, 12])]
def H52 : Nat → List Nat := lk []
theorem W52_eq (Sp41 : Spec) (Sp57 : Spec) (t0 t1 t2 : AV) (S : St) (K : En → St → Prop) : bcall Go.Proofs.Tryz.prog (tab [(41, Sp41), (57, Sp57)]) (own []) O52 H52 Go.Proofs.Tryz.f52 [t0, t1, t2] S K = (3 = 3 ∧ W52 Sp41 Sp57 t0 t1 t2 S K) := by kernel_rfl

/-- signet/wire.NewWriter -/
def W53 (S : St) (K : En → St → Prop) : Prop :=
  obind (xbuild [.slice [] 0 .nil, .int .i64 0] []) fun t1 =>
  xbox 2 t1 S fun t2 S_1 =>
    K (.ret t2) S_1
def O53 : Nat → List Nat := lk []
def H53 : Nat → List Nat := lk []
theorem W53_eq (S : St) (K : En → St → Prop) : bcall Go.Proofs.Tryz.prog (tab []) (own []) O53 H53 Go.Proofs.Tryz.f53 [] S K = (0 = 0 ∧ W53  S K) := by kernel_rfl

/-- (*signet/wire.Writer).Count -/
def W54 (Sp68 : Spec) (Sp69 : Spec) (t0 t1 : AV) (S : St) (K : En → St → Prop) : Prop :=
  obind (xisnil false (xnilp t0)) fun t12 =>
  asplit t12 (
    K (.ret (.tuple [])) S) (
    obind (xbini .lss t1 (.int .i64 0)) fun t15 =>
    obind (gv t15 false (some t1)) fun t17 =>
    obind (gv t15 false (xbini .gtr t17 (.int .i64 4096))) fun t18 =>
    obind (xpick t15 (.bool true) t18) fun t19 =>
    asplit t19 (
      obind (xnilck t0) fun t21 =>
      obind (xfaddr 0 t21) fun t22 =>
      ccall Sp68 [t22, (.int .i64 3)] S (fun t23 S_1 =>
        K (.ret (.tuple [])) S_1) (fun v S' => K (.pan v) S')) (
      obind (xnilck t0) fun t5 =>
      obind (xfaddr 0 t5) fun t6 =>
      obind (xint2int .u64 t1) fun t8 =>
      ccall Sp69 [t6, t8] S (fun t9 S_2 =>
        K (.ret (.tuple [])) S_2) (fun v S' => K (.pan v) S')))
def O54 : Nat → List Nat := lk []
def H54 : Nat → List Nat := lk []
theorem W54_eq (Sp68 : Spec) (Sp69 : Spec) (t0 t1 : AV) (S : St) (K : En → St → Prop) : bcall Go.Proofs.Tryz.prog (tab [(68, Sp68), (69, Sp69)]) (own []) O54 H54 Go.Proofs.Tryz.f54 [t0, t1] S K = (2 = 2 ∧ W54 Sp68 Sp69 t0 t1 S K) := by kernel_rfl

/-- (*signet/wire.Writer).Text -/
def W55 (Sp69 : Spec) (t0 t1 : AV) (S : St) (K : En → St → Prop) : Prop :=
  obind (xisnil true (xnilp t0)) fun t5 =>
  asplit t5 (
    obind (xnilck t0) fun t7 =>
    obind (xfaddr 0 t7) fun t8 =>
    obind (xslen t1) fun t10 =>
    obind (xint2int .u64 t10) fun t11 =>
    ccall Sp69 [t8, t11] S (fun t12 S_1 =>
      obind (xnilck t0) fun t15 =>
      obind (xfaddr 0 t15) fun t16 =>
      obind (xfaddr 0 t16) fun t17 =>
      obind (xload false 1 t17 S_1) fun t18 =>
      obind (xslen t1) fun t21 =>
      obind (xmm false t21 (.int .i64 65536)) fun t22 =>
      obind (xsslice t1 none (some t22)) fun t23 =>
      xappend false 1 1 t18 t23 S_1 fun t24 S_2 =>
        obind (xnilck t0) fun t25 =>
        obind (xfaddr 0 t25) fun t26 =>
        obind (xfaddr 0 t26) fun t27 =>
        xstore 1 t27 t24 S_2 fun _ S_3 =>
          K (.ret (.tuple [])) S_3) (fun v S' => K (.pan v) S')) (
    K (.ret (.tuple [])) S)
def O55 : Nat → List Nat := lk [(2, [0, 1, 2, 3, 4, 5, 6, 7, 8, 9, 10, 11, 12, 13, 14, 15])]
def H55 : Nat → List Nat := lk []
theorem W55_eq (Sp69 : Spec) (t0 t1 : AV) (S : St) (K : En → St → Prop) : bcall Go.Proofs.Tryz.prog (tab [(69, Sp69)]) (own []) O55 H55 Go.Proofs.Tryz.f55 [t0, t1] S K = (2 = 2 ∧ W55 Sp69 t0 t1 S K) := by kernel_rfl

/-- (*signet/wire.Writer).Frame -/
def W56 (Sp66 : Spec) (Sp70 : Spec) (t0 : AV) (S : St) (K : En → St → Prop) : Prop :=
  obind (xisnil false (xnilp t0)) fun t7 =>
  asplit t7 (
    K (.ret (.tuple [((.slice [] 0 .nil)), ((.int .i64 12))])) S) (
    obind (xnilck t0) fun t10 =>
    obind (xfaddr 0 t10) fun t11 =>
    obind (xfaddr 1 t11) fun t12 =>
    obind (xload false 1 t12 S) fun t13 =>
    obind (xbini .neq t13 (.int .i64 0)) fun t14 =>
    asplit t14 (
      obind (xnilck t0) fun t16 =>
      obind (xfaddr 0 t16) fun t17 =>
      obind (xfaddr 1 t17) fun t18 =>
      obind (xload false 1 t18 S) fun t19 =>
      K (.ret (.tuple [((.slice [] 0 .nil)), t19])) S) (
      obind (xnilck t0) fun t22 =>
      obind (xfaddr 0 t22) fun t23 =>
      obind (xfaddr 0 t23) fun t24 =>
      obind (xload false 1 t24 S) fun t25 =>
      obind (xlen t25) fun t26 =>
      obind (xbini .gtr t26 (.int .i64 65536)) fun t27 =>
      asplit t27 (
        K (.ret (.tuple [((.slice [] 0 .nil)), ((.int .i64 2))])) S) (
        obind (xnilck t0) fun t29 =>
        obind (xfaddr 0 t29) fun t30 =>
        obind (xfaddr 0 t30) fun t31 =>
        obind (xload false 1 t31 S) fun t32 =>
        obind (xlen t32) fun t33 =>
        obind (xbini .add t33 (.int .i64 8)) fun t34 =>
        obind (xnilck t0) fun t37 =>
        obind (xfaddr 0 t37) fun t38 =>
        obind (xfaddr 0 t38) fun t39 =>
        obind (xload false 1 t39 S) fun t40 =>
        obind (xlen t40) fun t41 =>
        obind (xint2int .u32 t41) fun t42 =>
        xmkslice [.int .u8 0] 1 1 (.int .i64 0) t34 S fun t35 S_1 =>
          xint2int .u32 t41 = some t42 ∧ xlen t40 = some t41 ∧ xload false 1 t39 S_1 = some t40 ∧ 
          ccall Sp70 [t35, t42] S_1 (fun t43 S_2 =>
            obind (xnilck t0) fun t46 =>
            obind (xfaddr 0 t46) fun t47 =>
            obind (xfaddr 0 t47) fun t48 =>
            obind (xload false 1 t48 S_2) fun t49 =>
            ccall Sp66 [t49] S_2 (fun t50 S_3 =>
              ccall Sp70 [t43, t50] S_3 (fun t51 S_4 =>
                obind (xnilck t0) fun t54 =>
                obind (xfaddr 0 t54) fun t55 =>
                obind (xfaddr 0 t55) fun t56 =>
                obind (xload false 1 t56 S_4) fun t57 =>
                xappend false 1 1 t51 t57 S_4 fun t58 S_5 =>
                  K (.ret (.tuple [t58, ((.int .i64 0))])) S_5) (fun v S' => K (.pan v) S')) (fun v S' => K (.pan v) S')) (fun v S' => K (.pan v) S'))))
def O56 : Nat → List Nat := lk [(4, [0, 1, 2, 3, 4, 5, 6]), (7, [0, 1, 2, 3, 4, 5, 6, 8, 9, 10, 11, 12, 13, 14, 7, 15, 16])]
def H56 : Nat → List Nat := lk []
theorem W56_eq (Sp66 : Spec) (Sp70 : Spec) (t0 : AV) (S : St) (K : En → St → Prop) : bcall Go.Proofs.Tryz.prog (tab [(66, Sp66), (70, Sp70)]) (own []) O56 H56 Go.Proofs.Tryz.f56 [t0] S K = (1 = 1 ∧ W56 Sp66 Sp70 t0 S K) := by kernel_rfl

/-- (*signet/plate.Plate).change -/
def W57 (Sp45 : Spec) (t0 t1 : AV) (S : St) (K : En → St → Prop) : Prop :=
  ccall Sp45 [t0, t1] S (fun t8 S_1 =>
    obind (xbini .neq t8 (.int .i64 0)) fun t10 =>
    obind (gv t10 false (some t0)) fun t12 =>
    obind (gv t10 false (xnilck t12)) fun t13 =>
    obind (gv t10 false (xfaddr 3 t13)) fun t14 =>
    obind (gv t10 false (xload false 1 t14 S_1)) fun t15 =>
    obind (gv t10 false (xun .not t15)) fun t16 =>
    obind (xpick t10 (.bool true) t16) fun t17 =>
    asplit t17 (
      K (.ret t8) S_1) (
      obind (xnilck t0) fun t20 =>
      obind (xfaddr 4 t20) fun t21 =>
      obind (xload false 1 t21 S_1) fun t22 =>
      obind (xbini .eql t22 (.int .i64 0)) fun t23 =>
      asplit t23 (
        obind (xnilck t0) fun t25 =>
        obind (xfaddr 5 t25) fun t26 =>
        xstore 1 t26 (.bool true) S_1 fun _ S_2 =>
          K (.ret ((.int .i64 9))) S_2) (
        obind (xnilck t0) fun t28 =>
        obind (xfaddr 4 t28) fun t29 =>
        obind (xload false 1 t29 S_1) fun t30 =>
        obind (xbini .sub t30 (.int .i64 1)) fun t31 =>
        obind (xnilck t0) fun t32 =>
        obind (xfaddr 4 t32) fun t33 =>
        xstore 1 t33 t31 S_1 fun _ S_3 =>
          K (.ret ((.int .i64 0))) S_3))) (fun v S' => K (.pan v) S')
def O57 : Nat → List Nat := lk []
def H57 : Nat → List Nat := lk []
theorem W57_eq (Sp45 : Spec) (t0 t1 : AV) (S : St) (K : En → St → Prop) : bcall Go.Proofs.Tryz.prog (tab [(45, Sp45)]) (own []) O57 H57 Go.Proofs.Tryz.f57 [t0, t1] S K = (2 = 2 ∧ W57 Sp45 t0 t1 S K) := by kernel_rfl

/-- signet/wire.word -/
def W65 (t0 : AV) (S : St) (K : En → St → Prop) : Prop :=
  obind (xiaddr 1 t0 (.int .i64 0)) fun t4 =>
  obind (xload false 1 t4 S) fun t5 =>
  obind (xint2int .u32 t5) fun t6 =>
  obind (xbini .shl t6 (.int .u64 24)) fun t7 =>
  obind (xiaddr 1 t0 (.int .i64 1)) fun t9 =>
  obind (xload false 1 t9 S) fun t10 =>
  obind (xint2int .u32 t10) fun t11 =>
  obind (xbini .shl t11 (.int .u64 16)) fun t12 =>
  obind (xbini .or t7 t12) fun t13 =>
  obind (xiaddr 1 t0 (.int .i64 2)) fun t15 =>
  obind (xload false 1 t15 S) fun t16 =>
  obind (xint2int .u32 t16) fun t17 =>
  obind (xbini .shl t17 (.int .u64 8)) fun t18 =>
  obind (xbini .or t13 t18) fun t19 =>
  obind (xiaddr 1 t0 (.int .i64 3)) fun t21 =>
  obind (xload false 1 t21 S) fun t22 =>
  obind (xint2int .u32 t22) fun t23 =>
  obind (xbini .or t19 t23) fun t24 =>
  K (.ret t24) S
def O65 : Nat → List Nat := lk [(1, [0, 1, 2, 3, 4, 5, 6, 7, 8, 9, 10, 11, 12, 13, 14, 15, 16, 17, 18, 19, 20, 21, 22])]
def H65 : Nat → List Nat := lk []
theorem W65_eq (t0 : AV) (S : St) (K : En → St → Prop) : bcall Go.Proofs.Tryz.prog (tab []) (own []) O65 H65 Go.Proofs.Tryz.f65 [t0] S K = (1 = 1 ∧ W65 t0 S K) := by kernel_rfl

/-- signet/crc.Sum -/
def W66 (Sp90 : Spec) (t0 : AV) (S : St) (K : En → St → Prop) : Prop :=
  ccall Sp90 [(.int .u32 0), t0] S (fun t4 S_1 =>
    K (.ret t4) S_1) (fun v S' => K (.pan v) S')
def O66 : Nat → List Nat := lk []
def H66 : Nat → List Nat := lk []
theorem W66_eq (Sp90 : Spec) (t0 : AV) (S : St) (K : En → St → Prop) : bcall Go.Proofs.Tryz.prog (tab [(90, Sp90)]) (own []) O66 H66 Go.Proofs.Tryz.f66 [t0] S K = (1 = 1 ∧ W66 Sp90 t0 S K) := by kernel_rfl

/-- (*signet/wire.cursor).next -/
def W67 (Sp68 : Spec) (t0 t1 : AV) (S : St) (K : En → St → Prop) : Prop :=
  aloop (fun rec l S_1 =>
    obind (xnilck t0) fun t9 =>
    obind (xfaddr 1 t9) fun t10 =>
    obind (xload false 1 t10 S_1) fun t11 =>
    obind (xbini .eql t11 (.int .i64 0)) fun t12 =>
    asplit t12 (
      obind (xnilck t0) fun t16 =>
      obind (xfaddr 0 t16) fun t17 =>
      obind (xload false 1 t17 S_1) fun t18 =>
      obind (xlen t18) fun t19 =>
      obind (xbini .eql t19 (.int .i64 0)) fun t20 =>
      asplit t20 (
        ccall Sp68 [t0, (.int .i64 4)] S_1 (fun t22 S_2 =>
          K (.ret ((.int .u64 0))) S_2) (fun v S' => K (.pan v) S')) (
        obind (xnilck t0) fun t24 =>
        obind (xfaddr 0 t24) fun t25 =>
        obind (xload false 1 t25 S_1) fun t26 =>
        obind (xiaddr 1 t26 (.int .i64 0)) fun t27 =>
        obind (xload false 1 t27 S_1) fun t28 =>
        obind (xnilck t0) fun t31 =>
        obind (xfaddr 0 t31) fun t32 =>
        obind (xload false 1 t32 S_1) fun t33 =>
        obind (xslice 1 t33 (some (.int .i64 1)) none none) fun t34 =>
        obind (xnilck t0) fun t35 =>
        obind (xfaddr 0 t35) fun t36 =>
        xstore 1 t36 t34 S_1 fun _ S_3 =>
          obind (xbini .eql ((g l 1)) (.int .i64 9)) fun t38 =>
          obind (gv t38 true (some t28)) fun t40 =>
          obind (gv t38 true (xbini .gtr t40 (.int .u8 1))) fun t41 =>
          obind (xpick t38 t41 (.bool false)) fun t42 =>
          obind (gv t42 false (some (g l 1))) fun t44 =>
          obind (gv t42 false (xbini .gtr t44 (.int .i64 0))) fun t45 =>
          obind (gv t42 false (some t45)) fun t46 =>
          obind (gv t46 true (some t28)) fun t47 =>
          obind (gv t46 true (xbini .eql t47 (.int .u8 0))) fun t48 =>
          obind (gv t42 false (xpick t46 t48 (.bool false))) fun t49 =>
          obind (xpick t42 (.bool true) t49) fun t50 =>
          asplit t50 (
            ccall Sp68 [t0, (.int .i64 3)] S_3 (fun t52 S_4 =>
              K (.ret ((.int .u64 0))) S_4) (fun v S' => K (.pan v) S')) (
            obind (xbini .and t28 (.int .u8 127)) fun t55 =>
            obind (xint2int .u64 t55) fun t56 =>
            obind (xbini .mul (.int .i64 7) ((g l 1))) fun t58 =>
            obind (xbini .shl t56 t58) fun t59 =>
            obind (xbini .or ((g l 0)) t59) fun t60 =>
            obind (xbini .lss t28 (.int .u8 128)) fun t62 =>
            asplit t62 (
              obind (xbini .leq t60 t1) fun t65 =>
              asplit t65 (
                K (.ret t60) S_3) (
                ccall Sp68 [t0, (.int .i64 3)] S_3 (fun t68 S_5 =>
                  obind (xbini .add ((g l 1)) (.int .i64 1)) fun t14 =>
                  ∃ S'', S''.le S_5 ∧ rec [t60, t14] S'') (fun v S' => K (.pan v) S'))) (
              obind (xbini .add ((g l 1)) (.int .i64 1)) fun t14_1 =>
              ∃ S'', S''.le S_3 ∧ rec [t60, t14_1] S'')))) (
      K (.ret ((.int .u64 0))) S_1)) [((.int .u64 0)), ((.int .i64 0))] S
def O67 : Nat → List Nat := lk []
def H67 : Nat → List Nat := lk [(3, [5, 6])]
theorem W67_eq (Sp68 : Spec) (t0 t1 : AV) (S : St) (K : En → St → Prop) : bcall Go.Proofs.Tryz.prog (tab [(68, Sp68)]) (own []) O67 H67 Go.Proofs.Tryz.f67 [t0, t1] S K = (2 = 2 ∧ W67 Sp68 t0 t1 S K) := by kernel_rfl

/-- (*signet/wire.cursor).fail -/
def W68 (t0 t1 : AV) (S : St) (K : En → St → Prop) : Prop :=
  obind (xnilck t0) fun t5 =>
  obind (xfaddr 1 t5) fun t6 =>
  obind (xload false 1 t6 S) fun t7 =>
  obind (xbini .eql t7 (.int .i64 0)) fun t8 =>
  asplit t8 (
    obind (xnilck t0) fun t11 =>
    obind (xfaddr 1 t11) fun t12 =>
    xstore 1 t12 t1 S fun _ S_1 =>
      K (.ret (.tuple [])) S_1) (
    K (.ret (.tuple [])) S)
def O68 : Nat → List Nat := lk []
def H68 : Nat → List Nat := lk []
theorem W68_eq (t0 t1 : AV) (S : St) (K : En → St → Prop) : bcall Go.Proofs.Tryz.prog (tab []) (own []) O68 H68 Go.Proofs.Tryz.f68 [t0, t1] S K = (2 = 2 ∧ W68 t0 t1 S K) := by kernel_rfl

/-- (*signet/wire.cursor).number -/
def W69 (t0 t1 : AV) (S : St) (K : En → St → Prop) : Prop :=
  aloop (fun rec l S_1 =>
    obind (xbini .geq ((g l 0)) (.int .u64 128)) fun t5 =>
    asplit t5 (
      obind (xnilck t0) fun t8 =>
      obind (xfaddr 0 t8) fun t9 =>
      obind (xload false 1 t9 S_1) fun t10 =>
      obind (xint2int .u8 ((g l 0))) fun t12 =>
      obind (xbini .or t12 (.int .u8 128)) fun t13 =>
      obind (xbslice [.int .u8 0] 1 [(0, 1, t13)]) fun t14 =>
      xappend false 1 1 t10 t14 S_1 fun t15 S_2 =>
        obind (xnilck t0) fun t16 =>
        obind (xfaddr 0 t16) fun t17 =>
        xstore 1 t17 t15 S_2 fun _ S_3 =>
          obind (xbini .shr ((g l 0)) (.int .u64 7)) fun t19 =>
          ∃ S'', S''.le S_3 ∧ rec [t19] S'') (
      obind (xnilck t0) fun t22 =>
      obind (xfaddr 0 t22) fun t23 =>
      obind (xload false 1 t23 S_1) fun t24 =>
      obind (xint2int .u8 ((g l 0))) fun t26 =>
      obind (xbslice [.int .u8 0] 1 [(0, 1, t26)]) fun t27 =>
      xappend false 1 1 t24 t27 S_1 fun t28 S_4 =>
        obind (xnilck t0) fun t29 =>
        obind (xfaddr 0 t29) fun t30 =>
        xstore 1 t30 t28 S_4 fun _ S_5 =>
          K (.ret (.tuple [])) S_5)) [t1] S
def O69 : Nat → List Nat := lk []
def H69 : Nat → List Nat := lk [(0, [1])]
theorem W69_eq (t0 t1 : AV) (S : St) (K : En → St → Prop) : bcall Go.Proofs.Tryz.prog (tab []) (own []) O69 H69 Go.Proofs.Tryz.f69 [t0, t1] S K = (2 = 2 ∧ W69 t0 t1 S K) := by kernel_rfl

/-- signet/wire.four -/
def W70 (t0 t1 : AV) (S : St) (K : En → St → Prop) : Prop :=
  obind (xbini .shr t1 (.int .u64 24)) fun t7 =>
  obind (xint2int .u8 t7) fun t8 =>
  obind (xbini .shr t1 (.int .u64 16)) fun t10 =>
  obind (xint2int .u8 t10) fun t11 =>
  obind (xbini .shr t1 (.int .u64 8)) fun t13 =>
  obind (xint2int .u8 t13) fun t14 =>
  obind (xint2int .u8 t1) fun t16 =>
  obind (xbslice [.int .u8 0, .int .u8 0, .int .u8 0, .int .u8 0] 4 [(0, 1, t8), (1, 1, t11), (2, 1, t14), (3, 1, t16)]) fun t17 =>
  xappend false 1 1 t0 t17 S fun t18 S_1 =>
    K (.ret t18) S_1
def O70 : Nat → List Nat := lk []
def H70 : Nat → List Nat := lk []
theorem W70_eq (t0 t1 : AV) (S : St) (K : En → St → Prop) : bcall Go.Proofs.Tryz.prog (tab []) (own []) O70 H70 Go.Proofs.Tryz.f70 [t0, t1] S K = (2 = 2 ∧ W70 t0 t1 S K) := by kernel_rfl

/-- signet/crc.More -/
def W90 (Sp113 : Spec) (t0 t1 : AV) (S : St) (K : En → St → Prop) : Prop :=
  ccall Sp113 [] S (fun t8 S_1 =>
    xalloc [.int .u32 0, .int .u32 0, .int .u32 0, .int .u32 0, .int .u32 0, .int .u32 0, .int .u32 0, .int .u32 0, .int .u32 0, .int .u32 0, .int .u32 0, .int .u32 0, .int .u32 0, .int .u32 0, .int .u32 0, .int .u32 0] S_1 fun t5 S_2 =>
      xstore 16 t5 t8 S_2 fun _ S_3 =>
        obind (xun .xor t0) fun t10 =>
        obind (xlen t1) fun t12 =>
        aloop (fun rec l S_4 =>
          obind (xbini .lss (g l 1) t12) fun t14 =>
          asplit t14 (
            obind (xiaddr 1 t1 (g l 1)) fun t15 =>
            obind (xload false 1 t15 S_4) fun t16 =>
            obind (xint2int .u32 t16) fun t19 =>
            obind (xbini .xor ((g l 0)) t19) fun t20 =>
            obind (xbini .shr t20 (.int .u64 4)) fun t22 =>
            obind (xbini .and t20 (.int .u32 15)) fun t24 =>
            obind (xaaddr 16 1 t5 t24) fun t25 =>
            obind (xload false 1 t25 S_4) fun t26 =>
            obind (xbini .xor t22 t26) fun t27 =>
            obind (xbini .shr t27 (.int .u64 4)) fun t29 =>
            obind (xbini .and t27 (.int .u32 15)) fun t31 =>
            obind (xaaddr 16 1 t5 t31) fun t32 =>
            obind (xload false 1 t32 S_4) fun t33 =>
            obind (xbini .xor t29 t33) fun t34 =>
            obind (xbini .add (g l 1) (.int .i64 1)) fun t35 =>
            ∃ S'', S''.le S_4 ∧ rec [t34, t35] S'') (
            obind (xun .xor ((g l 0))) fun t37 =>
            K (.ret t37) S_4)) [t10, ((.int .i64 0))] S_3) (fun v S' => K (.pan v) S')
def O90 : Nat → List Nat := lk []
def H90 : Nat → List Nat := lk [(4, [0, 13])]
theorem W90_eq (Sp113 : Spec) (t0 t1 : AV) (S : St) (K : En → St → Prop) : bcall Go.Proofs.Tryz.prog (tab [(113, Sp113)]) (own []) O90 H90 Go.Proofs.Tryz.f90 [t0, t1] S K = (2 = 2 ∧ W90 Sp113 t0 t1 S K) := by kernel_rfl

/-- signet/crc.halves -/
def W113 (S : St) (K : En → St → Prop) : Prop :=
  xalloc [.int .u32 0, .int .u32 0, .int .u32 0, .int .u32 0, .int .u32 0, .int .u32 0, .int .u32 0, .int .u32 0, .int .u32 0, .int .u32 0, .int .u32 0, .int .u32 0, .int .u32 0, .int .u32 0, .int .u32 0, .int .u32 0] S fun t0 S_1 =>
    obind (xbuild [.int .u32 0, .int .u32 0, .int .u32 0, .int .u32 0, .int .u32 0, .int .u32 0, .int .u32 0, .int .u32 0, .int .u32 0, .int .u32 0, .int .u32 0, .int .u32 0, .int .u32 0, .int .u32 0, .int .u32 0, .int .u32 0] [(0, 1, (.int .u32 0)), (1, 1, (.int .u32 274646895)), (2, 1, (.int .u32 549293790)), (3, 1, (.int .u32 820201905)), (4, 1, (.int .u32 1098587580)), (5, 1, (.int .u32 1361435347)), (6, 1, (.int .u32 1640403810)), (7, 1, (.int .u32 1905808397)), (8, 1, (.int .u32 2197175160)), (9, 1, (.int .u32 2460548119)), (10, 1, (.int .u32 2722870694)), (11, 1, (.int .u32 2987750089)), (12, 1, (.int .u32 3280807620)), (13, 1, (.int .u32 3553878443)), (14, 1, (.int .u32 3811616794)), (15, 1, (.int .u32 4084100981))]) fun t1 =>
    xstore 16 t0 t1 S_1 fun _ S_2 =>
      obind (xload true 16 t0 S_2) fun r0 =>
      K (.ret r0) S_2
def O113 : Nat → List Nat := lk []
def H113 : Nat → List Nat := lk []
theorem W113_eq (S : St) (K : En → St → Prop) : bcall Go.Proofs.Tryz.prog (tab []) (own []) O113 H113 Go.Proofs.Tryz.f113 [] S K = (0 = 0 ∧ W113  S K) := by kernel_rfl

end Go.AM
