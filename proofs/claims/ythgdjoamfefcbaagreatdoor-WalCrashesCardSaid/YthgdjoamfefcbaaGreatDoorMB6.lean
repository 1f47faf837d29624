/-
  LONG CODE IN PARTS, the parts in short form (written by genB6.py).
-/
import Derived.Test.YthgdjoamfefcbaaGreatDoorMB5
set_option linter.all false
set_option linter.unusedVariables false
set_option linter.unusedSimpArgs false
set_option linter.unnecessarySimpa false
namespace Go.AM
open Go
set_option maxRecDepth 20000
set_option maxHeartbeats 4000000

def J5_43P (Sp6 : Spec) (Sp7 : Spec) (Sp8 : Spec) (Sp9 : Spec) (Sp11 : Spec) (Sp12 : Spec) (Sp13 : Spec) (Sp14 : Spec) (Sp18 : Spec) (Sp20 : Spec) (Sp21 : Spec) (Sp22 : Spec) (Sp23 : Spec) (Sp24 : Spec) (Sp25 : Spec) (Sp26 : Spec) (Sp27 : Spec) (u9 u11 u12 u13 : AV) (S_35 : St) (K : En → St → Prop) : Prop :=
  obind (xnilck u11) fun t207 =>
  obind (xfaddr 3 t207) fun t208 =>
  obind (xload false 1 t208 S_35) fun t209 =>
  ccall Sp11 [u9, (.str ⟨#[119]⟩), t209] S_35 (fun t210 S_36 =>
    obind (xextract t210 0) fun t211 =>
    obind (xextract t210 1) fun t212 =>
    obind (xextract t210 2) fun t213 =>
    obind (xextract t210 3) fun t214 =>
    obind (xbini .neq t214 (.int .i64 0)) fun t216 =>
    obind (gv t216 false (some t211)) fun t218 =>
    obind (gv t216 false (xisnil false (xnilp t218))) fun t219 =>
    obind (xpick t216 (.bool true) t219) fun t220 =>
    obind (gv t220 false (some u11)) fun t222 =>
    obind (gv t220 false (xnilck t222)) fun t223 =>
    obind (gv t220 false (xfaddr 4 t223)) fun t224 =>
    obind (gv t220 false (xload true 3 t224 S_36)) fun t225 =>
    obind (gv t220 false (some t212)) fun t226 =>
    obind (gv t220 false (some t213)) fun t227 =>
    gif t220 false (fun k => ccall Sp26 [t225, t226, t227] S_36 k (fun v S' => K (.pan v) S')) S_36 fun t228 S_37 =>
      obind (gv t220 false (xun .not t228)) fun t229 =>
      obind (gv t220 false (some t229)) fun t230 =>
      obind (gv t230 true (some u13)) fun t231 =>
      obind (gv t230 true (some t231)) fun t232 =>
      obind (gv t232 true (xload true 3 u12 S_37)) fun t233 =>
      obind (gv t232 true (some t212)) fun t234 =>
      obind (gv t232 true (some t213)) fun t235 =>
      gif t232 true (fun k => ccall Sp26 [t233, t234, t235] S_37 k (fun v S' => K (.pan v) S')) S_37 fun t236 S_38 =>
        obind (gv t230 true (xpick t232 t236 (.bool false))) fun t237 =>
        obind (gv t230 true (xun .not t237)) fun t238 =>
        obind (gv t220 false (xpick t230 t238 (.bool false))) fun t239 =>
        obind (xpick t220 (.bool true) t239) fun t240 =>
        asplit t240 (
          K (.ret ((.bool false))) S_38) (
          ccall Sp25 [u9, (.slice [] 0 .nil)] S_38 (fun t242 S_39 =>
            obind (xnilck u11) fun t246 =>
            obind (xfaddr 3 t246) fun t247 =>
            obind (xload false 1 t247 S_39) fun t248 =>
            ccall Sp11 [u9, (.str ⟨#[119]⟩), t248] S_39 (fun t249 S_40 =>
              obind (xextract t249 0) fun t250 =>
              obind (xextract t249 1) fun t251 =>
              obind (xextract t249 2) fun t252 =>
              obind (xextract t249 3) fun t253 =>
              obind (xbini .eql t253 (.int .i64 0)) fun t255 =>
              obind (gv t255 true (some t212)) fun t257 =>
              obind (gv t255 true (some t251)) fun t258 =>
              gif t255 true (fun k => ccall Sp18 [t257, t258] S_40 k (fun v S' => K (.pan v) S')) S_40 fun t259 S_41 =>
                obind (xpick t255 t259 (.bool false)) fun t260 =>
                obind (gv t260 true (some t213)) fun t262 =>
                obind (gv t260 true (some t252)) fun t263 =>
                gif t260 true (fun k => ccall Sp27 [t262, t263] S_41 k (fun v S' => K (.pan v) S')) S_41 fun t264 S_42 =>
                  obind (xpick t260 t264 (.bool false)) fun t265 =>
                  K (.ret t265) S_42) (fun v S' => K (.pan v) S')) (fun v S' => K (.pan v) S'))) (fun v S' => K (.pan v) S')

theorem J5_43_eqP (Sp6 : Spec) (Sp7 : Spec) (Sp8 : Spec) (Sp9 : Spec) (Sp11 : Spec) (Sp12 : Spec) (Sp13 : Spec) (Sp14 : Spec) (Sp18 : Spec) (Sp20 : Spec) (Sp21 : Spec) (Sp22 : Spec) (Sp23 : Spec) (Sp24 : Spec) (Sp25 : Spec) (Sp26 : Spec) (Sp27 : Spec) (u0 u1 u2 u3 u4 u5 u6 u7 u8 u9 u10 u11 u12 u13 u14 u15 u16 u17 u18 u19 u20 u21 u22 u23 u24 u25 u26 u27 u28 u29 u30 u31 u32 u33 u34 u35 u36 u37 u38 u39 u40 u41 u42 u43 u44 u45 u46 u47 u48 u49 u50 u51 u52 u53 u54 u55 u56 u57 u58 u59 u60 u61 u62 u63 u64 u65 u66 u67 u68 u69 u70 u71 u72 u73 u74 u75 u76 u77 u78 u79 u80 u81 u82 u83 u84 u85 u86 u87 u88 u89 u90 u91 u92 u93 u94 u95 u96 u97 u98 u99 u100 u101 u102 u103 u104 u105 u106 u107 u108 u109 u110 u111 u112 u113 u114 u115 u116 u117 u118 u119 u120 u121 u122 u123 u124 u125 u126 u127 u128 u129 u130 u131 u132 u133 u134 u135 u136 u137 u138 u139 u140 u141 u142 u143 u144 u145 u146 u147 u148 u149 u150 u151 u152 u153 u154 u155 u156 u157 u158 u159 u160 u161 u162 u163 u164 u165 u166 u167 u168 u169 u170 u171 u172 u173 u174 u175 u176 u177 u178 u179 u180 u181 u182 u183 u184 u185 u186 u187 u188 u189 u190 u191 u192 u193 u194 u195 u196 u197 u198 u199 u200 u201 u202 u203 u204 u205 u206 u207 u208 u209 u210 u211 u212 u213 u214 u215 u216 u217 u218 u219 u220 u221 u222 u223 u224 u225 u226 u227 u228 u229 u230 u231 u232 u233 u234 u235 u236 u237 u238 u239 u240 u241 u242 u243 u244 u245 u246 u247 u248 u249 u250 u251 u252 u253 u254 u255 u256 u257 u258 u259 u260 u261 u262 u263 u264 u265 : AV) (S_35 : St) (K : En → St → Prop) : (lD Go.Proofs.Tryz.prog (tab [(6, Sp6), (7, Sp7), (8, Sp8), (9, Sp9), (11, Sp11), (12, Sp12), (13, Sp13), (14, Sp14), (18, Sp18), (20, Sp20), (21, Sp21), (22, Sp22), (23, Sp23), (24, Sp24), (25, Sp25), (26, Sp26), (27, Sp27)]) (own []) O5 H5 (Go.Proofs.Tryz.f5.body.getD .skip) C5 (Ex.end Go.Proofs.Tryz.prog Go.Proofs.Tryz.f5 K)) 43 noRec  [u0, u1, u2, u3, u4, u5, u6, u7, u8, u9, u10, u11, u12, u13, u14, u15, u16, u17, u18, u19, u20, u21, u22, u23, u24, u25, u26, u27, u28, u29, u30, u31, u32, u33, u34, u35, u36, u37, u38, u39, u40, u41, u42, u43, u44, u45, u46, u47, u48, u49, u50, u51, u52, u53, u54, u55, u56, u57, u58, u59, u60, u61, u62, u63, u64, u65, u66, u67, u68, u69, u70, u71, u72, u73, u74, u75, u76, u77, u78, u79, u80, u81, u82, u83, u84, u85, u86, u87, u88, u89, u90, u91, u92, u93, u94, u95, u96, u97, u98, u99, u100, u101, u102, u103, u104, u105, u106, u107, u108, u109, u110, u111, u112, u113, u114, u115, u116, u117, u118, u119, u120, u121, u122, u123, u124, u125, u126, u127, u128, u129, u130, u131, u132, u133, u134, u135, u136, u137, u138, u139, u140, u141, u142, u143, u144, u145, u146, u147, u148, u149, u150, u151, u152, u153, u154, u155, u156, u157, u158, u159, u160, u161, u162, u163, u164, u165, u166, u167, u168, u169, u170, u171, u172, u173, u174, u175, u176, u177, u178, u179, u180, u181, u182, u183, u184, u185, u186, u187, u188, u189, u190, u191, u192, u193, u194, u195, u196, u197, u198, u199, u200, u201, u202, u203, u204, u205, u206, u207, u208, u209, u210, u211, u212, u213, u214, u215, u216, u217, u218, u219, u220, u221, u222, u223, u224, u225, u226, u227, u228, u229, u230, u231, u232, u233, u234, u235, u236, u237, u238, u239, u240, u241, u242, u243, u244, u245, u246, u247, u248, u249, u250, u251, u252, u253, u254, u255, u256, u257, u258, u259, u260, u261, u262, u263, u264, u265] S_35 = J5_43P Sp6 Sp7 Sp8 Sp9 Sp11 Sp12 Sp13 Sp14 Sp18 Sp20 Sp21 Sp22 Sp23 Sp24 Sp25 Sp26 Sp27 u9 u11 u12 u13 S_35 K := by
  rw [J5_43_eq]
  unfold J5_43 J5_43P
  rfl

def J5_38P (Sp6 : Spec) (Sp7 : Spec) (Sp8 : Spec) (Sp9 : Spec) (Sp11 : Spec) (Sp12 : Spec) (Sp13 : Spec) (Sp14 : Spec) (Sp18 : Spec) (Sp20 : Spec) (Sp21 : Spec) (Sp22 : Spec) (Sp23 : Spec) (Sp24 : Spec) (Sp25 : Spec) (Sp26 : Spec) (Sp27 : Spec) (u2 u3 u9 u11 u12 u13 u64 : AV) (S_30 : St) (K : En → St → Prop) : Prop :=
  ccall Sp25 [u9, u3] S_30 (fun t183 S_31 =>
    obind (xlen u2) fun t185 =>
    obind (xbini .gtr t185 (.int .i64 1)) fun t186 =>
    asplit t186 (
      obind (xiaddr 1 u2 (.int .i64 1)) fun t189 =>
      obind (xload false 1 t189 S_31) fun t190 =>
      obind (xint2int .u64 t190) fun t191 =>
      obind (xbini .rem t191 (.int .u64 20)) fun t192 =>
      obind (xint2int .i64 t192) fun t193 =>
      ccall Sp20 [u9, t193] S_31 (fun t194 S_32 =>
        obind (xnilck u11) fun t197 =>
        obind (xfaddr 3 t197) fun t198 =>
        obind (xload false 1 t198 S_32) fun t199 =>
        ccall Sp11 [u9, (.str ⟨#[119]⟩), t199] S_32 (fun t200 S_33 =>
          ccall Sp25 [u9, u3] S_33 (fun t203 S_34 =>
            J5_43P Sp6 Sp7 Sp8 Sp9 Sp11 Sp12 Sp13 Sp14 Sp18 Sp20 Sp21 Sp22 Sp23 Sp24 Sp25 Sp26 Sp27 u9 u11 u12 u13 S_34 K) (fun v S' => K (.pan v) S')) (fun v S' => K (.pan v) S')) (fun v S' => K (.pan v) S')) (
      J5_43P Sp6 Sp7 Sp8 Sp9 Sp11 Sp12 Sp13 Sp14 Sp18 Sp20 Sp21 Sp22 Sp23 Sp24 Sp25 Sp26 Sp27 u9 u11 u12 u13 S_31 K)) (fun v S' => K (.pan v) S')

theorem J5_38_eqP (Sp6 : Spec) (Sp7 : Spec) (Sp8 : Spec) (Sp9 : Spec) (Sp11 : Spec) (Sp12 : Spec) (Sp13 : Spec) (Sp14 : Spec) (Sp18 : Spec) (Sp20 : Spec) (Sp21 : Spec) (Sp22 : Spec) (Sp23 : Spec) (Sp24 : Spec) (Sp25 : Spec) (Sp26 : Spec) (Sp27 : Spec) (u0 u1 u2 u3 u4 u5 u6 u7 u8 u9 u10 u11 u12 u13 u14 u15 u16 u17 u18 u19 u20 u21 u22 u23 u24 u25 u26 u27 u28 u29 u30 u31 u32 u33 u34 u35 u36 u37 u38 u39 u40 u41 u42 u43 u44 u45 u46 u47 u48 u49 u50 u51 u52 u53 u54 u55 u56 u57 u58 u59 u60 u61 u62 u63 u64 u65 u66 u67 u68 u69 u70 u71 u72 u73 u74 u75 u76 u77 u78 u79 u80 u81 u82 u83 u84 u85 u86 u87 u88 u89 u90 u91 u92 u93 u94 u95 u96 u97 u98 u99 u100 u101 u102 u103 u104 u105 u106 u107 u108 u109 u110 u111 u112 u113 u114 u115 u116 u117 u118 u119 u120 u121 u122 u123 u124 u125 u126 u127 u128 u129 u130 u131 u132 u133 u134 u135 u136 u137 u138 u139 u140 u141 u142 u143 u144 u145 u146 u147 u148 u149 u150 u151 u152 u153 u154 u155 u156 u157 u158 u159 u160 u161 u162 u163 u164 u165 u166 u167 u168 u169 u170 u171 u172 u173 u174 u175 u176 u177 u178 u179 u180 u181 u182 u183 u184 u185 u186 u187 u188 u189 u190 u191 u192 u193 u194 u195 u196 u197 u198 u199 u200 u201 u202 u203 u204 u205 u206 u207 u208 u209 u210 u211 u212 u213 u214 u215 u216 u217 u218 u219 u220 u221 u222 u223 u224 u225 u226 u227 u228 u229 u230 u231 u232 u233 u234 u235 u236 u237 u238 u239 u240 u241 u242 u243 u244 u245 u246 u247 u248 u249 u250 u251 u252 u253 u254 u255 u256 u257 u258 u259 u260 u261 u262 u263 u264 u265 : AV) (S_30 : St) (K : En → St → Prop) : (lD Go.Proofs.Tryz.prog (tab [(6, Sp6), (7, Sp7), (8, Sp8), (9, Sp9), (11, Sp11), (12, Sp12), (13, Sp13), (14, Sp14), (18, Sp18), (20, Sp20), (21, Sp21), (22, Sp22), (23, Sp23), (24, Sp24), (25, Sp25), (26, Sp26), (27, Sp27)]) (own []) O5 H5 (Go.Proofs.Tryz.f5.body.getD .skip) C5 (Ex.end Go.Proofs.Tryz.prog Go.Proofs.Tryz.f5 K)) 38 noRec  [u0, u1, u2, u3, u4, u5, u6, u7, u8, u9, u10, u11, u12, u13, u14, u15, u16, u17, u18, u19, u20, u21, u22, u23, u24, u25, u26, u27, u28, u29, u30, u31, u32, u33, u34, u35, u36, u37, u38, u39, u40, u41, u42, u43, u44, u45, u46, u47, u48, u49, u50, u51, u52, u53, u54, u55, u56, u57, u58, u59, u60, u61, u62, u63, u64, u65, u66, u67, u68, u69, u70, u71, u72, u73, u74, u75, u76, u77, u78, u79, u80, u81, u82, u83, u84, u85, u86, u87, u88, u89, u90, u91, u92, u93, u94, u95, u96, u97, u98, u99, u100, u101, u102, u103, u104, u105, u106, u107, u108, u109, u110, u111, u112, u113, u114, u115, u116, u117, u118, u119, u120, u121, u122, u123, u124, u125, u126, u127, u128, u129, u130, u131, u132, u133, u134, u135, u136, u137, u138, u139, u140, u141, u142, u143, u144, u145, u146, u147, u148, u149, u150, u151, u152, u153, u154, u155, u156, u157, u158, u159, u160, u161, u162, u163, u164, u165, u166, u167, u168, u169, u170, u171, u172, u173, u174, u175, u176, u177, u178, u179, u180, u181, u182, u183, u184, u185, u186, u187, u188, u189, u190, u191, u192, u193, u194, u195, u196, u197, u198, u199, u200, u201, u202, u203, u204, u205, u206, u207, u208, u209, u210, u211, u212, u213, u214, u215, u216, u217, u218, u219, u220, u221, u222, u223, u224, u225, u226, u227, u228, u229, u230, u231, u232, u233, u234, u235, u236, u237, u238, u239, u240, u241, u242, u243, u244, u245, u246, u247, u248, u249, u250, u251, u252, u253, u254, u255, u256, u257, u258, u259, u260, u261, u262, u263, u264, u265] S_30 = J5_38P Sp6 Sp7 Sp8 Sp9 Sp11 Sp12 Sp13 Sp14 Sp18 Sp20 Sp21 Sp22 Sp23 Sp24 Sp25 Sp26 Sp27 u2 u3 u9 u11 u12 u13 u64 S_30 K := by
  rw [J5_38_eq]
  unfold J5_38 J5_38P
  simp only [J5_43_eqP]

def J5_36P (Sp6 : Spec) (Sp7 : Spec) (Sp8 : Spec) (Sp9 : Spec) (Sp11 : Spec) (Sp12 : Spec) (Sp13 : Spec) (Sp14 : Spec) (Sp18 : Spec) (Sp20 : Spec) (Sp21 : Spec) (Sp22 : Spec) (Sp23 : Spec) (Sp24 : Spec) (Sp25 : Spec) (Sp26 : Spec) (Sp27 : Spec) (rec : Rec) (u9 u11 u13 u14 u16 : AV) (S_20 : St) (K : En → St → Prop) : Prop :=
  obind (xbini .eql u16 (.int .i64 9)) fun t167 =>
  obind (gv t167 true (some u9)) fun t169 =>
  gif t167 true (fun k => ccall Sp21 [t169] S_20 k (fun v S' => K (.pan v) S')) S_20 fun t170 S_21 =>
    obind (gv t167 true (xun .not t170)) fun t171 =>
    obind (gv t167 true (some t171)) fun t172 =>
    obind (gv t172 false (some u11)) fun t173 =>
    obind (gv t172 false (xnilck t173)) fun t174 =>
    obind (gv t172 false (xfaddr 1 t174)) fun t175 =>
    obind (gv t172 false (xload false 1 t175 S_21)) fun t176 =>
    gif t172 false (fun k => ccall Sp13 [t176] S_21 k (fun v S' => K (.pan v) S')) S_21 fun t177 S_22 =>
      obind (gv t172 false (xbini .neq t177 (.int .i64 9))) fun t178 =>
      obind (gv t167 true (xpick t172 (.bool true) t178)) fun t179 =>
      obind (xpick t167 t179 (.bool false)) fun t180 =>
      asplit t180 (
        K (.ret ((.bool false))) S_22) (
        obind (xbini .add u14 (.int .i64 1)) fun t67 =>
        ∃ S'', S''.le S_22 ∧ rec [u13, t67] S'')

theorem J5_36_eqP (Sp6 : Spec) (Sp7 : Spec) (Sp8 : Spec) (Sp9 : Spec) (Sp11 : Spec) (Sp12 : Spec) (Sp13 : Spec) (Sp14 : Spec) (Sp18 : Spec) (Sp20 : Spec) (Sp21 : Spec) (Sp22 : Spec) (Sp23 : Spec) (Sp24 : Spec) (Sp25 : Spec) (Sp26 : Spec) (Sp27 : Spec) (rec : Rec) (u0 u1 u2 u3 u4 u5 u6 u7 u8 u9 u10 u11 u12 u13 u14 u15 u16 u17 u18 u19 u20 u21 u22 u23 u24 u25 u26 u27 u28 u29 u30 u31 u32 u33 u34 u35 u36 u37 u38 u39 u40 u41 u42 u43 u44 u45 u46 u47 u48 u49 u50 u51 u52 u53 u54 u55 u56 u57 u58 u59 u60 u61 u62 u63 u64 u65 u66 u67 u68 u69 u70 u71 u72 u73 u74 u75 u76 u77 u78 u79 u80 u81 u82 u83 u84 u85 u86 u87 u88 u89 u90 u91 u92 u93 u94 u95 u96 u97 u98 u99 u100 u101 u102 u103 u104 u105 u106 u107 u108 u109 u110 u111 u112 u113 u114 u115 u116 u117 u118 u119 u120 u121 u122 u123 u124 u125 u126 u127 u128 u129 u130 u131 u132 u133 u134 u135 u136 u137 u138 u139 u140 u141 u142 u143 u144 u145 u146 u147 u148 u149 u150 u151 u152 u153 u154 u155 u156 u157 u158 u159 u160 u161 u162 u163 u164 u165 u166 u167 u168 u169 u170 u171 u172 u173 u174 u175 u176 u177 u178 u179 u180 u181 u182 u183 u184 u185 u186 u187 u188 u189 u190 u191 u192 u193 u194 u195 u196 u197 u198 u199 u200 u201 u202 u203 u204 u205 u206 u207 u208 u209 u210 u211 u212 u213 u214 u215 u216 u217 u218 u219 u220 u221 u222 u223 u224 u225 u226 u227 u228 u229 u230 u231 u232 u233 u234 u235 u236 u237 u238 u239 u240 u241 u242 u243 u244 u245 u246 u247 u248 u249 u250 u251 u252 u253 u254 u255 u256 u257 u258 u259 u260 u261 u262 u263 u264 u265 : AV) (S_20 : St) (K : En → St → Prop) : (lD Go.Proofs.Tryz.prog (tab [(6, Sp6), (7, Sp7), (8, Sp8), (9, Sp9), (11, Sp11), (12, Sp12), (13, Sp13), (14, Sp14), (18, Sp18), (20, Sp20), (21, Sp21), (22, Sp22), (23, Sp23), (24, Sp24), (25, Sp25), (26, Sp26), (27, Sp27)]) (own []) O5 H5 (Go.Proofs.Tryz.f5.body.getD .skip) C5 (Ex.end Go.Proofs.Tryz.prog Go.Proofs.Tryz.f5 K)) 36 rec  [u0, u1, u2, u3, u4, u5, u6, u7, u8, u9, u10, u11, u12, u13, u14, u15, u16, u17, u18, u19, u20, u21, u22, u23, u24, u25, u26, u27, u28, u29, u30, u31, u32, u33, u34, u35, u36, u37, u38, u39, u40, u41, u42, u43, u44, u45, u46, u47, u48, u49, u50, u51, u52, u53, u54, u55, u56, u57, u58, u59, u60, u61, u62, u63, u64, u65, u66, u67, u68, u69, u70, u71, u72, u73, u74, u75, u76, u77, u78, u79, u80, u81, u82, u83, u84, u85, u86, u87, u88, u89, u90, u91, u92, u93, u94, u95, u96, u97, u98, u99, u100, u101, u102, u103, u104, u105, u106, u107, u108, u109, u110, u111, u112, u113, u114, u115, u116, u117, u118, u119, u120, u121, u122, u123, u124, u125, u126, u127, u128, u129, u130, u131, u132, u133, u134, u135, u136, u137, u138, u139, u140, u141, u142, u143, u144, u145, u146, u147, u148, u149, u150, u151, u152, u153, u154, u155, u156, u157, u158, u159, u160, u161, u162, u163, u164, u165, u166, u167, u168, u169, u170, u171, u172, u173, u174, u175, u176, u177, u178, u179, u180, u181, u182, u183, u184, u185, u186, u187, u188, u189, u190, u191, u192, u193, u194, u195, u196, u197, u198, u199, u200, u201, u202, u203, u204, u205, u206, u207, u208, u209, u210, u211, u212, u213, u214, u215, u216, u217, u218, u219, u220, u221, u222, u223, u224, u225, u226, u227, u228, u229, u230, u231, u232, u233, u234, u235, u236, u237, u238, u239, u240, u241, u242, u243, u244, u245, u246, u247, u248, u249, u250, u251, u252, u253, u254, u255, u256, u257, u258, u259, u260, u261, u262, u263, u264, u265] S_20 = J5_36P Sp6 Sp7 Sp8 Sp9 Sp11 Sp12 Sp13 Sp14 Sp18 Sp20 Sp21 Sp22 Sp23 Sp24 Sp25 Sp26 Sp27 rec u9 u11 u13 u14 u16 S_20 K := by
  rw [J5_36_eq]
  unfold J5_36 J5_36P
  rfl

def J5_9P (Sp6 : Spec) (Sp7 : Spec) (Sp8 : Spec) (Sp9 : Spec) (Sp11 : Spec) (Sp12 : Spec) (Sp13 : Spec) (Sp14 : Spec) (Sp18 : Spec) (Sp20 : Spec) (Sp21 : Spec) (Sp22 : Spec) (Sp23 : Spec) (Sp24 : Spec) (Sp25 : Spec) (Sp26 : Spec) (Sp27 : Spec) (u1 u2 u3 u9 u11 : AV) (S_6 : St) (K : En → St → Prop) : Prop :=
  obind (xbuild [.slice [] 0 .nil, .slice [] 0 .nil, .int .i64 0] []) fun t52 =>
  xalloc [.slice [] 0 .nil, .slice [] 0 .nil, .int .i64 0] S_6 fun t12 S_7 =>
    xstore 3 t12 t52 S_7 fun _ S_8 =>
      aloop (fun rec l S_9 =>
        obind (xlen u1) fun t55 =>
        obind (xbini .lss ((g l 1)) t55) fun t56 =>
        obind (gv t56 true (some (g l 1))) fun t58 =>
        obind (gv t56 true (xbini .lss t58 (.int .i64 60))) fun t59 =>
        obind (xpick t56 t59 (.bool false)) fun t60 =>
        obind (gv t60 true (some u9)) fun t62 =>
        gif t60 true (fun k => ccall Sp21 [t62] S_9 k (fun v S' => K (.pan v) S')) S_9 fun t63 S_10 =>
          obind (gv t60 true (xun .not t63)) fun t64 =>
          obind (xpick t60 t64 (.bool false)) fun t65 =>
          asplit t65 (
            obind (xiaddr 3 u1 ((g l 1))) fun t70 =>
            obind (xload true 3 t70 S_10) fun t71 =>
            xalloc [.int .i64 0, .slice [] 0 .nil, .slice [] 0 .nil] S_10 fun t15 S_11 =>
              xstore 3 t15 t71 S_11 fun _ S_12 =>
                obind (xfaddr 0 t15) fun t72 =>
                obind (xload false 1 t72 S_12) fun t73 =>
                obind (xbini .eql t73 (.int .i64 0)) fun t75 =>
                asplit t75 (
                  obind (xnilck u11) fun t77 =>
                  obind (xfaddr 1 t77) fun t78 =>
                  obind (xload false 1 t78 S_12) fun t79 =>
                  obind (xfaddr 1 t15) fun t80 =>
                  obind (xload false 1 t80 S_12) fun t81 =>
                  ccall Sp12 [t79, t81] S_12 (fun t82 S_13 =>
                    obind (xbini .eql t82 (.int .i64 0)) fun t84 =>
                    obind (gv t84 false (some t82)) fun t86 =>
                    obind (gv t84 false (xbini .eql t86 (.int .i64 9))) fun t87 =>
                    obind (xpick t84 (.bool true) t87) fun t88 =>
                    asplit t88 (
                      obind (xnilck u11) fun t90 =>
                      obind (xfaddr 4 t90) fun t91 =>
                      obind (xload true 3 t91 S_13) fun t92 =>
                      xalloc [.slice [] 0 .nil, .slice [] 0 .nil, .int .i64 0] S_13 fun t17 S_14 =>
                        xstore 3 t17 t92 S_14 fun _ S_15 =>
                          obind (xnilck u11) fun t95 =>
                          obind (xfaddr 4 t95) fun t96 =>
                          obind (xload true 3 t96 S_15) fun t97 =>
                          obind (xfaddr 1 t15) fun t98 =>
                          obind (xload false 1 t98 S_15) fun t99 =>
                          ccall Sp22 [t97, t99] S_15 (fun t100 S_16 =>
                            obind (xnilck u11) fun t101 =>
                            obind (xfaddr 4 t101) fun t102 =>
                            xstore 3 t102 t100 S_16 fun _ S_17 =>
                              obind (xbini .eql t82 (.int .i64 9)) fun t104 =>
                              obind (gv t104 true (some u11)) fun t106 =>
                              obind (gv t104 true (xnilck t106)) fun t107 =>
                              obind (gv t104 true (xfaddr 1 t107)) fun t108 =>
                              obind (gv t104 true (xload false 1 t108 S_17)) fun t109 =>
                              gif t104 true (fun k => ccall Sp12 [t109, (.slice [] 0 .nil)] S_17 k (fun v S' => K (.pan v) S')) S_17 fun t110 S_18 =>
                                obind (gv t104 true (xbini .neq t110 (.int .i64 9))) fun t111 =>
                                obind (xpick t104 t111 (.bool false)) fun t112 =>
                                asplit t112 (
                                  K (.ret ((.bool false))) S_18) (
                                  obind (xbini .eql t82 (.int .i64 9)) fun t114 =>
                                  obind (gv t114 true (xfaddr 1 t15)) fun t116 =>
                                  obind (gv t114 true (xload false 1 t116 S_18)) fun t117 =>
                                  obind (gv t114 true (xlen t117)) fun t118 =>
                                  obind (gv t114 true (xbini .gtr t118 (.int .i64 60000))) fun t119 =>
                                  obind (xpick t114 t119 (.bool false)) fun t120 =>
                                  asplit t120 (
                                    obind (xload true 3 t17 S_18) fun t122 =>
                                    obind (xnilck u11) fun t123 =>
                                    obind (xfaddr 4 t123) fun t124 =>
                                    xstore 3 t124 t122 S_18 fun _ S_19 =>
                                      J5_36P Sp6 Sp7 Sp8 Sp9 Sp11 Sp12 Sp13 Sp14 Sp18 Sp20 Sp21 Sp22 Sp23 Sp24 Sp25 Sp26 Sp27 rec u9 u11 (g l 0) (g l 1) t82 S_19 K) (
                                    J5_36P Sp6 Sp7 Sp8 Sp9 Sp11 Sp12 Sp13 Sp14 Sp18 Sp20 Sp21 Sp22 Sp23 Sp24 Sp25 Sp26 Sp27 rec u9 u11 (g l 0) (g l 1) t82 S_18 K))) (fun v S' => K (.pan v) S')) (
                      J5_36P Sp6 Sp7 Sp8 Sp9 Sp11 Sp12 Sp13 Sp14 Sp18 Sp20 Sp21 Sp22 Sp23 Sp24 Sp25 Sp26 Sp27 rec u9 u11 (g l 0) (g l 1) t82 S_13 K)) (fun v S' => K (.pan v) S')) (
                  obind (xbini .eql t73 (.int .i64 1)) fun t126 =>
                  asplit t126 (
                    obind (xnilck u11) fun t128 =>
                    obind (xfaddr 1 t128) fun t129 =>
                    obind (xload false 1 t129 S_12) fun t130 =>
                    ccall Sp13 [t130] S_12 (fun t131 S_20 =>
                      obind (xbini .eql t131 (.int .i64 0)) fun t133 =>
                      asplit t133 (
                        obind (xnilck u11) fun t136 =>
                        obind (xfaddr 4 t136) fun t137 =>
                        obind (xload true 3 t137 S_20) fun t138 =>
                        ccall Sp23 [t138] S_20 (fun t139 S_21 =>
                          obind (xnilck u11) fun t140 =>
                          obind (xfaddr 4 t140) fun t141 =>
                          xstore 3 t141 t139 S_21 fun _ S_22 =>
                            J5_36P Sp6 Sp7 Sp8 Sp9 Sp11 Sp12 Sp13 Sp14 Sp18 Sp20 Sp21 Sp22 Sp23 Sp24 Sp25 Sp26 Sp27 rec u9 u11 (g l 0) (g l 1) t131 S_22 K) (fun v S' => K (.pan v) S')) (
                        J5_36P Sp6 Sp7 Sp8 Sp9 Sp11 Sp12 Sp13 Sp14 Sp18 Sp20 Sp21 Sp22 Sp23 Sp24 Sp25 Sp26 Sp27 rec u9 u11 (g l 0) (g l 1) t131 S_20 K)) (fun v S' => K (.pan v) S')) (
                    obind (xbini .eql t73 (.int .i64 2)) fun t143 =>
                    asplit t143 (
                      obind (xnilck u11) fun t145 =>
                      obind (xfaddr 1 t145) fun t146 =>
                      obind (xload false 1 t146 S_12) fun t147 =>
                      obind (xfaddr 1 t15) fun t148 =>
                      obind (xload false 1 t148 S_12) fun t149 =>
                      ccall Sp14 [t147, t149] S_12 (fun t150 S_23 =>
                        obind (xbini .eql t150 (.int .i64 0)) fun t152 =>
                        asplit t152 (
                          obind (xfaddr 1 t15) fun t154 =>
                          obind (xload false 1 t154 S_23) fun t155 =>
                          ccall Sp24 [t155] S_23 (fun t156 S_24 =>
                            obind (xbuild [.slice [] 0 .nil, .slice [] 0 .nil, .int .i64 0] [(0, 1, t156)]) fun t157 =>
                            obind (xnilck u11) fun t158 =>
                            obind (xfaddr 4 t158) fun t159 =>
                            xstore 3 t159 t157 S_24 fun _ S_25 =>
                              obind (xbini .eql t150 (.int .i64 9)) fun t161 =>
                              asplit t161 (
                                obind (xfaddr 1 t15) fun t162 =>
                                obind (xload false 1 t162 S_25) fun t163 =>
                                ccall Sp24 [t163] S_25 (fun t164 S_26 =>
                                  obind (xbuild [.slice [] 0 .nil, .slice [] 0 .nil, .int .i64 0] [(0, 1, t164)]) fun t165 =>
                                  xstore 3 t12 t165 S_26 fun _ S_27 =>
                                    J5_36P Sp6 Sp7 Sp8 Sp9 Sp11 Sp12 Sp13 Sp14 Sp18 Sp20 Sp21 Sp22 Sp23 Sp24 Sp25 Sp26 Sp27 rec u9 u11 ((.bool true)) (g l 1) t150 S_27 K) (fun v S' => K (.pan v) S')) (
                                J5_36P Sp6 Sp7 Sp8 Sp9 Sp11 Sp12 Sp13 Sp14 Sp18 Sp20 Sp21 Sp22 Sp23 Sp24 Sp25 Sp26 Sp27 rec u9 u11 (g l 0) (g l 1) t150 S_25 K)) (fun v S' => K (.pan v) S')) (
                          obind (xbini .eql t150 (.int .i64 9)) fun t161_1 =>
                          asplit t161_1 (
                            obind (xfaddr 1 t15) fun t162_1 =>
                            obind (xload false 1 t162_1 S_23) fun t163_1 =>
                            ccall Sp24 [t163_1] S_23 (fun t164_1 S_28 =>
                              obind (xbuild [.slice [] 0 .nil, .slice [] 0 .nil, .int .i64 0] [(0, 1, t164_1)]) fun t165_1 =>
                              xstore 3 t12 t165_1 S_28 fun _ S_29 =>
                                J5_36P Sp6 Sp7 Sp8 Sp9 Sp11 Sp12 Sp13 Sp14 Sp18 Sp20 Sp21 Sp22 Sp23 Sp24 Sp25 Sp26 Sp27 rec u9 u11 ((.bool true)) (g l 1) t150 S_29 K) (fun v S' => K (.pan v) S')) (
                            J5_36P Sp6 Sp7 Sp8 Sp9 Sp11 Sp12 Sp13 Sp14 Sp18 Sp20 Sp21 Sp22 Sp23 Sp24 Sp25 Sp26 Sp27 rec u9 u11 (g l 0) (g l 1) t150 S_23 K))) (fun v S' => K (.pan v) S')) (
                      J5_36P Sp6 Sp7 Sp8 Sp9 Sp11 Sp12 Sp13 Sp14 Sp18 Sp20 Sp21 Sp22 Sp23 Sp24 Sp25 Sp26 Sp27 rec u9 u11 (g l 0) (g l 1) ((.int .i64 0)) S_12 K)))) (
            J5_38P Sp6 Sp7 Sp8 Sp9 Sp11 Sp12 Sp13 Sp14 Sp18 Sp20 Sp21 Sp22 Sp23 Sp24 Sp25 Sp26 Sp27 u2 u3 u9 u11 t12 (g l 0) t64 S_10 K)) [((.bool false)), ((.int .i64 0))] S_8

theorem J5_9_eqP (Sp6 : Spec) (Sp7 : Spec) (Sp8 : Spec) (Sp9 : Spec) (Sp11 : Spec) (Sp12 : Spec) (Sp13 : Spec) (Sp14 : Spec) (Sp18 : Spec) (Sp20 : Spec) (Sp21 : Spec) (Sp22 : Spec) (Sp23 : Spec) (Sp24 : Spec) (Sp25 : Spec) (Sp26 : Spec) (Sp27 : Spec) (u0 u1 u2 u3 u4 u5 u6 u7 u8 u9 u10 u11 u12 u13 u14 u15 u16 u17 u18 u19 u20 u21 u22 u23 u24 u25 u26 u27 u28 u29 u30 u31 u32 u33 u34 u35 u36 u37 u38 u39 u40 u41 u42 u43 u44 u45 u46 u47 u48 u49 u50 u51 u52 u53 u54 u55 u56 u57 u58 u59 u60 u61 u62 u63 u64 u65 u66 u67 u68 u69 u70 u71 u72 u73 u74 u75 u76 u77 u78 u79 u80 u81 u82 u83 u84 u85 u86 u87 u88 u89 u90 u91 u92 u93 u94 u95 u96 u97 u98 u99 u100 u101 u102 u103 u104 u105 u106 u107 u108 u109 u110 u111 u112 u113 u114 u115 u116 u117 u118 u119 u120 u121 u122 u123 u124 u125 u126 u127 u128 u129 u130 u131 u132 u133 u134 u135 u136 u137 u138 u139 u140 u141 u142 u143 u144 u145 u146 u147 u148 u149 u150 u151 u152 u153 u154 u155 u156 u157 u158 u159 u160 u161 u162 u163 u164 u165 u166 u167 u168 u169 u170 u171 u172 u173 u174 u175 u176 u177 u178 u179 u180 u181 u182 u183 u184 u185 u186 u187 u188 u189 u190 u191 u192 u193 u194 u195 u196 u197 u198 u199 u200 u201 u202 u203 u204 u205 u206 u207 u208 u209 u210 u211 u212 u213 u214 u215 u216 u217 u218 u219 u220 u221 u222 u223 u224 u225 u226 u227 u228 u229 u230 u231 u232 u233 u234 u235 u236 u237 u238 u239 u240 u241 u242 u243 u244 u245 u246 u247 u248 u249 u250 u251 u252 u253 u254 u255 u256 u257 u258 u259 u260 u261 u262 u263 u264 u265 : AV) (S_6 : St) (K : En → St → Prop) : (lD Go.Proofs.Tryz.prog (tab [(6, Sp6), (7, Sp7), (8, Sp8), (9, Sp9), (11, Sp11), (12, Sp12), (13, Sp13), (14, Sp14), (18, Sp18), (20, Sp20), (21, Sp21), (22, Sp22), (23, Sp23), (24, Sp24), (25, Sp25), (26, Sp26), (27, Sp27)]) (own []) O5 H5 (Go.Proofs.Tryz.f5.body.getD .skip) C5 (Ex.end Go.Proofs.Tryz.prog Go.Proofs.Tryz.f5 K)) 9 noRec  [u0, u1, u2, u3, u4, u5, u6, u7, u8, u9, u10, u11, u12, u13, u14, u15, u16, u17, u18, u19, u20, u21, u22, u23, u24, u25, u26, u27, u28, u29, u30, u31, u32, u33, u34, u35, u36, u37, u38, u39, u40, u41, u42, u43, u44, u45, u46, u47, u48, u49, u50, u51, u52, u53, u54, u55, u56, u57, u58, u59, u60, u61, u62, u63, u64, u65, u66, u67, u68, u69, u70, u71, u72, u73, u74, u75, u76, u77, u78, u79, u80, u81, u82, u83, u84, u85, u86, u87, u88, u89, u90, u91, u92, u93, u94, u95, u96, u97, u98, u99, u100, u101, u102, u103, u104, u105, u106, u107, u108, u109, u110, u111, u112, u113, u114, u115, u116, u117, u118, u119, u120, u121, u122, u123, u124, u125, u126, u127, u128, u129, u130, u131, u132, u133, u134, u135, u136, u137, u138, u139, u140, u141, u142, u143, u144, u145, u146, u147, u148, u149, u150, u151, u152, u153, u154, u155, u156, u157, u158, u159, u160, u161, u162, u163, u164, u165, u166, u167, u168, u169, u170, u171, u172, u173, u174, u175, u176, u177, u178, u179, u180, u181, u182, u183, u184, u185, u186, u187, u188, u189, u190, u191, u192, u193, u194, u195, u196, u197, u198, u199, u200, u201, u202, u203, u204, u205, u206, u207, u208, u209, u210, u211, u212, u213, u214, u215, u216, u217, u218, u219, u220, u221, u222, u223, u224, u225, u226, u227, u228, u229, u230, u231, u232, u233, u234, u235, u236, u237, u238, u239, u240, u241, u242, u243, u244, u245, u246, u247, u248, u249, u250, u251, u252, u253, u254, u255, u256, u257, u258, u259, u260, u261, u262, u263, u264, u265] S_6 = J5_9P Sp6 Sp7 Sp8 Sp9 Sp11 Sp12 Sp13 Sp14 Sp18 Sp20 Sp21 Sp22 Sp23 Sp24 Sp25 Sp26 Sp27 u1 u2 u3 u9 u11 S_6 K := by
  rw [J5_9_eq]
  unfold J5_9 J5_9P
  simp only [J5_43_eqP, J5_38_eqP, J5_36_eqP]

def W5P (Sp6 : Spec) (Sp7 : Spec) (Sp8 : Spec) (Sp9 : Spec) (Sp11 : Spec) (Sp12 : Spec) (Sp13 : Spec) (Sp14 : Spec) (Sp18 : Spec) (Sp20 : Spec) (Sp21 : Spec) (Sp22 : Spec) (Sp23 : Spec) (Sp24 : Spec) (Sp25 : Spec) (Sp26 : Spec) (Sp27 : Spec) (t0 t1 t2 t3 : AV) (S : St) (K : En → St → Prop) : Prop :=
  ccall Sp6 [(.int .i64 16777216)] S (fun t27 S_1 =>
    obind (xextract t27 0) fun t28 =>
    obind (xextract t27 1) fun t29 =>
    ccall Sp7 [t28, (.str ⟨#[119]⟩), t0] S_1 (fun t32 S_2 =>
      ccall Sp8 [] S_2 (fun t33 S_3 =>
        obind (xun .not t33) fun t34 =>
        obind (gv t34 false (some t32)) fun t36 =>
        obind (gv t34 false (xisnil false (xnilp t36))) fun t37 =>
        obind (xpick t34 (.bool true) t37) fun t38 =>
        asplit t38 (
          K (.ret ((.bool false))) S_3) (
          ccall Sp9 [t1] S_3 (fun t40 S_4 =>
            asplit t40 (
              K (.ret ((.bool true))) S_4) (
              obind (xlen t2) fun t42 =>
              obind (xbini .gtr t42 (.int .i64 0)) fun t43 =>
              asplit t43 (
                obind (xiaddr 1 t2 (.int .i64 0)) fun t46 =>
                obind (xload false 1 t46 S_4) fun t47 =>
                obind (xint2int .u64 t47) fun t48 =>
                obind (xbini .rem t48 (.int .u64 200)) fun t49 =>
                obind (xint2int .i64 t49) fun t50 =>
                ccall Sp20 [t28, t50] S_4 (fun t51 S_5 =>
                  J5_9P Sp6 Sp7 Sp8 Sp9 Sp11 Sp12 Sp13 Sp14 Sp18 Sp20 Sp21 Sp22 Sp23 Sp24 Sp25 Sp26 Sp27 t1 t2 t3 t28 t32 S_5 K) (fun v S' => K (.pan v) S')) (
                J5_9P Sp6 Sp7 Sp8 Sp9 Sp11 Sp12 Sp13 Sp14 Sp18 Sp20 Sp21 Sp22 Sp23 Sp24 Sp25 Sp26 Sp27 t1 t2 t3 t28 t32 S_4 K))) (fun v S' => K (.pan v) S'))) (fun v S' => K (.pan v) S')) (fun v S' => K (.pan v) S')) (fun v S' => K (.pan v) S')

theorem W5_eqP (Sp6 : Spec) (Sp7 : Spec) (Sp8 : Spec) (Sp9 : Spec) (Sp11 : Spec) (Sp12 : Spec) (Sp13 : Spec) (Sp14 : Spec) (Sp18 : Spec) (Sp20 : Spec) (Sp21 : Spec) (Sp22 : Spec) (Sp23 : Spec) (Sp24 : Spec) (Sp25 : Spec) (Sp26 : Spec) (Sp27 : Spec) (t0 t1 t2 t3 : AV) (S : St) (K : En → St → Prop) : bcall Go.Proofs.Tryz.prog (tab [(6, Sp6), (7, Sp7), (8, Sp8), (9, Sp9), (11, Sp11), (12, Sp12), (13, Sp13), (14, Sp14), (18, Sp18), (20, Sp20), (21, Sp21), (22, Sp22), (23, Sp23), (24, Sp24), (25, Sp25), (26, Sp26), (27, Sp27)]) (own []) O5 H5 Go.Proofs.Tryz.f5 [t0, t1, t2, t3] S K = (4 = 4 ∧ W5P Sp6 Sp7 Sp8 Sp9 Sp11 Sp12 Sp13 Sp14 Sp18 Sp20 Sp21 Sp22 Sp23 Sp24 Sp25 Sp26 Sp27 t0 t1 t2 t3 S K) := by
  rw [W5_eq]
  unfold W5 W5P
  simp only [J5_43_eqP, J5_38_eqP, J5_36_eqP, J5_9_eqP]
end Go.AM
