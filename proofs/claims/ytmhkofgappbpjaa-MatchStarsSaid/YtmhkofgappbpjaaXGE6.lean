/- match.ends' switch, walked: a case a theorem. -/
import Derived.Test.YtmhkofgappbpjaaXGEa
import Derived.Test.YtmhkofgappbpjaaXGA
import Derived.StillTailTactics
import Derived.BigRegion
set_option linter.unusedVariables false
set_option linter.unusedSimpArgs false
namespace Go.Proofs.Ytmhkofgappbpjaa.G
open Go.RowKit Go.Proofs.YtmhkofgappbpjaaW.PrintWords Go.Proofs.YtmhkofgappbpjaaW.PrintLast Go.Proofs.YtmhkofgappbpjaaW.PrintMore Go.Proofs.Ytmhkofgappbpjaa.QA
attribute [local go_sem ↓] ix40_0 ix40_1 ia40_0 ia40_1
theorem RD.below {w0 W W' : World} {bt bo bs bw ro rs n m base : Nat} {A0 : Option Addr} {c0 : Nat} {gu gx gn : Nat} {cu : Array Value} {j : Int} {e : Bool} {b : Int} {y : S42} {out seen : List Bool} {vw : Value} {wait : List S72}
    (h : RD w0 W bt bo bs bw ro rs n m base A0 c0 gu gx gn cu j e b y out seen vw wait) (hb : Below W.heap.size W W') : RD w0 W' bt bo bs bw ro rs n m base A0 c0 gu gx gn cu j e b y out seen vw wait := by
  have hs := h.sz
  have b0 := h.b0
  refine ⟨⟨blk_below h.ew.t hb, blk_below h.ew.o hb, blk_below h.ew.s hb, blk_below h.ew.q hb, blk_below h.ew.ro hb, blk_below h.ew.rs hb, own_move h.ew.w (fun k hk => hb.block k (h.ew.w.lt k hk).2)⟩, h.bl.trans (hb.mono (by omega)), blk_below h.hx hb, blk_below h.hn hb, blk_below h.hu hb, h.ox, h.on, h.bx, h.bn, h.bu, h.nu, h.b0, Nat.le_trans hs hb.size⟩
set_option maxHeartbeats 8000000 in
set_option maxRecDepth 1000000 in
theorem sw_b1a (u0 u2 u4 u5 u6 u7 u9 u10 u15 u16 u17 u18 u19 u20 u21 u22 u23 u24 u25 u26 u27 u28 u29 u30 u31 u32 u33 u34 u35 u36 u37 u38 u39 u40 u41 u42 u43 u44 u45 u46 u47 u48 u49 u50 u51 u52 u53 u54 u55 u56 u57 u58 u59 u60 u61 u62 u63 u64 u65 u66 u67 u68 u69 u70 u71 u72 u73 u74 u75 u76 u77 u78 u79 u80 u81 u82 u83 u84 u85 u86 u87 u88 u89 u90 u91 u92 u93 u94 u95 u96 u97 u98 u99 u100 u101 u102 u103 u104 u105 u106 u107 u108 u109 u110 u111 u112 u113 u114 u115 u116 u117 u118 u119 u120 u121 u122 u123 u124 u125 u126 u127 u128 u129 u130 u131 u132 u133 u134 u135 u136 u137 u138 u139 u140 u141 u142 u143 u144 u145 u146 u147 u148 u149 u150 u151 u152 u153 u154 u155 u156 u157 u158 u159 u160 u161 u162 u163 u164 u165 u166 u167 u168 u169 u170 u171 u172 u173 u174 u175 u176 u177 u178 u179 u180 u181 u182 u183 u184 u185 u186 u187 u188 u189 u190 u191 u192 u193 u194 u195 u196 u197 u198 u199 u200 u201 u202 u203 u204 u205 u206 u207 u208 u209 u210 u211 u212 u213 u214 u215 u216 u217 u218 u219 u220 u221 u222 u223 : Value) (s : ByteArray) (p : Int) (w0 W : World) (bt_ bo bs bw ro rs n m base : Nat) (A0 : Option Addr) (c0 gu gx gn : Nat) (cu : Array Value) (j b : Nat) (y : S42) (out seen seen1 : List Bool) (vw : Value) (wait wait1 : List S72) (l0 : List S42)
    (hrd : RD w0 W bt_ bo bs bw ro rs n m base A0 c0 gu gx gn cu j false b y out seen vw wait) (hA : Apart bt_ bo bs bw ro rs base) (hj : (j : Int) < n) (hb : b ≤ 10000000) (hk : y.f0 = 1) (hbs : b < s.size) (hc : class_Has.f y.f1.f0 y.f1.f1 y.f1.f2 y.f1.f3 ((s[b]'hbs).toNat : Int) = some true) (hr1 : reachP n m (seen, wait) j true (b + 1 : Int) = some (seen1, wait1)) (Q : Exit → Act → World → Prop)
    (hQ : ∀ (v59 v60 v61 v62 v63 v64 v65 v66 v67 v68 v69 v70 v71 v72 v73 v74 v75 v76 v77 v78 v79 v80 v81 v82 v83 v84 v85 v86 v87 v88 v89 v90 v91 v92 v93 v94 v95 v96 v97 v98 v99 v100 v101 v102 v103 v104 v105 v106 v107 v108 v109 v110 v111 v112 v113 v114 v115 v116 v117 v118 v119 v120 v121 v122 v123 v124 v125 v126 v127 v128 v129 v130 v131 v132 v133 v134 v135 v136 v137 v138 v139 v140 v141 v142 v143 v144 v145 v146 v147 v148 v149 v150 v151 v152 v153 v154 v155 v156 v157 v158 v159 v160 v161 v162 v163 v164 v165 v166 v167 v168 v169 v170 v171 v172 v173 v174 v175 v176 v177 v178 v179 v180 v181 v182 v183 v184 v185 v186 v187 v188 v189 v190 v191 v192 v193 v194 v195 v196 v197 v198 v199 v200 v201 v202 v203 v204 v205 v206 v207 v208 v209 v210 v211 v212 v213 v214 v215 v216 v217 v218 v219 v220 v221 v222 : Value) (W' : World) (vw' : Value), RD w0 W' bt_ bo bs bw ro rs n m base A0 c0 gu gx gn cu j false b y out seen1 vw' wait1 → Q .normal ⟨#[u0, .string s, u2, .pointer (some ⟨bt_, 0, none⟩), u4, u5, u6, u7, .pointer (some ⟨bo, 0, none⟩), u9, u10, .func (.func 37) #[] #[.pointer (some ⟨bo, 0, none⟩), .pointer (some ⟨bt_, 0, none⟩), .pointer (some ⟨bs, 0, none⟩), .pointer (some ⟨bw, 0, none⟩)], .pointer (some ⟨gx, 0, none⟩), .pointer (some ⟨gn, 0, none⟩), .int .i64 p, u15, u16, u17, u18, u19, u20, u21, u22, u23, u24, u25, u26, u27, u28, u29, u30, u31, u32, u33, u34, u35, u36, u37, u38, u39, u40, u41, u42, u43, u44, u45, u46, u47, u48, u49, u50, u51, u52, u53, u54, u55, u56, u57, u58, v59, v60, v61, v62, v63, v64, v65, v66, v67, v68, v69, v70, v71, v72, v73, v74, v75, v76, v77, v78, v79, v80, v81, v82, v83, v84, v85, v86, v87, v88, v89, v90, v91, v92, v93, v94, v95, v96, v97, v98, v99, v100, v101, v102, v103, v104, v105, v106, v107, v108, v109, v110, v111, v112, v113, v114, v115, v116, v117, v118, v119, v120, v121, v122, v123, v124, v125, v126, v127, v128, v129, v130, v131, v132, v133, v134, v135, v136, v137, v138, v139, v140, v141, v142, v143, v144, v145, v146, v147, v148, v149, v150, v151, v152, v153, v154, v155, v156, v157, v158, v159, v160, v161, v162, v163, v164, v165, v166, v167, v168, v169, v170, v171, v172, v173, v174, v175, v176, v177, v178, v179, v180, v181, v182, v183, v184, v185, v186, v187, v188, v189, v190, v191, v192, v193, v194, v195, v196, v197, v198, v199, v200, v201, v202, v203, v204, v205, v206, v207, v208, v209, v210, v211, v212, v213, v214, v215, v216, v217, v218, v219, v220, v221, v222, u223], []⟩ W') :
    Code.wp Try.prog sw Q ⟨#[u0, .string s, u2, .pointer (some ⟨bt_, 0, none⟩), u4, u5, u6, u7, .pointer (some ⟨bo, 0, none⟩), u9, u10, .func (.func 37) #[] #[.pointer (some ⟨bo, 0, none⟩), .pointer (some ⟨bt_, 0, none⟩), .pointer (some ⟨bs, 0, none⟩), .pointer (some ⟨bw, 0, none⟩)], .pointer (some ⟨gx, 0, none⟩), .pointer (some ⟨gn, 0, none⟩), .int .i64 p, u15, u16, u17, u18, u19, u20, u21, u22, u23, u24, u25, u26, u27, u28, u29, u30, u31, u32, u33, u34, u35, u36, u37, u38, u39, u40, u41, u42, u43, u44, u45, u46, u47, u48, u49, u50, u51, u52, u53, u54, u55, u56, u57, u58, u59, u60, u61, u62, u63, u64, u65, u66, u67, u68, u69, u70, u71, u72, u73, u74, u75, u76, u77, u78, u79, u80, u81, u82, u83, u84, u85, u86, u87, u88, u89, u90, u91, u92, u93, u94, u95, u96, u97, u98, u99, u100, u101, u102, u103, u104, u105, u106, u107, u108, u109, u110, u111, u112, u113, u114, u115, u116, u117, u118, u119, u120, u121, u122, u123, u124, u125, u126, u127, u128, u129, u130, u131, u132, u133, u134, u135, u136, u137, u138, u139, u140, u141, u142, u143, u144, u145, u146, u147, u148, u149, u150, u151, u152, u153, u154, u155, u156, u157, u158, u159, u160, u161, u162, u163, u164, u165, u166, u167, u168, u169, u170, u171, u172, u173, u174, u175, u176, u177, u178, u179, u180, u181, u182, u183, u184, u185, u186, u187, u188, u189, u190, u191, u192, u193, u194, u195, u196, u197, u198, u199, u200, u201, u202, u203, u204, u205, u206, u207, u208, u209, u210, u211, u212, u213, u214, u215, u216, u217, u218, u219, u220, u221, u222, u223], []⟩ W := by
  have HRD := Lib.hid hrd
  have HQ := Lib.hid hQ
  have HR1 := Lib.hid hr1
  obtain ⟨x0, x1, x2, y0, y1, y2, y3, y4, y5, y6, ct, cw⟩ := hrd.cells
  rw [hk] at y0
  have hz : decide ((b : Int) < (s.size : Int)) = true := decide_eq_true (by omega)
  have hz2 : decide (b < s.size) = true := decide_eq_true hbs
  clear hrd hQ hr1
  conv => arg 2; whnf
  go_wp2_with fail
  go_still_tail 12, (by kernel_rfl)
  go_wp2_with fail
  refine (class_Has.calls _ _ _ _ _ true _ hc).mono ?_
  rintro e W9 ⟨rfl, hbH⟩
  have hrd9 := HRD.out.below (W' := W9) (Below.trans (show Below W.heap.size W W.drew from ⟨rfl, rfl, rfl, Nat.le_refl _, fun _ _ => rfl⟩) (show Below W.heap.size W.drew W9 from hbH))
  clear HRD x0 x1 x2 y0 y1 y2 y3 y4 y5 y6 ct cw hbH
  have HRD := Lib.hid hrd9
  obtain ⟨x0, x1, x2, y0, y1, y2, y3, y4, y5, y6, ct, cw⟩ := hrd9.cells
  rw [hk] at y0
  clear hrd9
  go_wp2_with fail
  refine (reach_rd HRD.out hA _ _ _ _ _ HR1.out).mono ?_
  rintro e W1 ⟨rfl, vw1, hrd1⟩
  clear HRD x0 x1 x2 y0 y1 y2 y3 y4 y5 y6 ct cw
  have HRD := Lib.hid hrd1
  obtain ⟨x0, x1, x2, y0, y1, y2, y3, y4, y5, y6, ct, cw⟩ := hrd1.cells
  clear hrd1
  go_wp2_with fail
  exact HQ.out _ _ _ _ _ _ _ _ _ _ _ _ _ _ _ _ _ _ _ _ _ _ _ _ _ _ _ _ _ _ _ _ _ _ _ _ _ _ _ _ _ _ _ _ _ _ _ _ _ _ _ _ _ _ _ _ _ _ _ _ _ _ _ _ _ _ _ _ _ _ _ _ _ _ _ _ _ _ _ _ _ _ _ _ _ _ _ _ _ _ _ _ _ _ _ _ _ _ _ _ _ _ _ _ _ _ _ _ _ _ _ _ _ _ _ _ _ _ _ _ _ _ _ _ _ _ _ _ _ _ _ _ _ _ _ _ _ _ _ _ _ _ _ _ _ _ _ _ _ _ _ _ _ _ _ _ _ _ _ _ _ _ _ _ _ _ HRD.out
set_option maxHeartbeats 8000000 in
set_option maxRecDepth 1000000 in
theorem sw_b1b (u0 u2 u4 u5 u6 u7 u9 u10 u15 u16 u17 u18 u19 u20 u21 u22 u23 u24 u25 u26 u27 u28 u29 u30 u31 u32 u33 u34 u35 u36 u37 u38 u39 u40 u41 u42 u43 u44 u45 u46 u47 u48 u49 u50 u51 u52 u53 u54 u55 u56 u57 u58 u59 u60 u61 u62 u63 u64 u65 u66 u67 u68 u69 u70 u71 u72 u73 u74 u75 u76 u77 u78 u79 u80 u81 u82 u83 u84 u85 u86 u87 u88 u89 u90 u91 u92 u93 u94 u95 u96 u97 u98 u99 u100 u101 u102 u103 u104 u105 u106 u107 u108 u109 u110 u111 u112 u113 u114 u115 u116 u117 u118 u119 u120 u121 u122 u123 u124 u125 u126 u127 u128 u129 u130 u131 u132 u133 u134 u135 u136 u137 u138 u139 u140 u141 u142 u143 u144 u145 u146 u147 u148 u149 u150 u151 u152 u153 u154 u155 u156 u157 u158 u159 u160 u161 u162 u163 u164 u165 u166 u167 u168 u169 u170 u171 u172 u173 u174 u175 u176 u177 u178 u179 u180 u181 u182 u183 u184 u185 u186 u187 u188 u189 u190 u191 u192 u193 u194 u195 u196 u197 u198 u199 u200 u201 u202 u203 u204 u205 u206 u207 u208 u209 u210 u211 u212 u213 u214 u215 u216 u217 u218 u219 u220 u221 u222 u223 : Value) (s : ByteArray) (p : Int) (w0 W : World) (bt_ bo bs bw ro rs n m base : Nat) (A0 : Option Addr) (c0 gu gx gn : Nat) (cu : Array Value) (j b : Nat) (y : S42) (out seen : List Bool) (vw : Value) (wait : List S72) (l0 : List S42)
    (hrd : RD w0 W bt_ bo bs bw ro rs n m base A0 c0 gu gx gn cu j false b y out seen vw wait) (hA : Apart bt_ bo bs bw ro rs base) (hj : (j : Int) < n) (hb : b ≤ 10000000) (hk : y.f0 = 1) (hbs : b < s.size) (hc : class_Has.f y.f1.f0 y.f1.f1 y.f1.f2 y.f1.f3 ((s[b]'hbs).toNat : Int) = some false) (Q : Exit → Act → World → Prop)
    (hQ : ∀ (v59 v60 v61 v62 v63 v64 v65 v66 v67 v68 v69 v70 v71 v72 v73 v74 v75 v76 v77 v78 v79 v80 v81 v82 v83 v84 v85 v86 v87 v88 v89 v90 v91 v92 v93 v94 v95 v96 v97 v98 v99 v100 v101 v102 v103 v104 v105 v106 v107 v108 v109 v110 v111 v112 v113 v114 v115 v116 v117 v118 v119 v120 v121 v122 v123 v124 v125 v126 v127 v128 v129 v130 v131 v132 v133 v134 v135 v136 v137 v138 v139 v140 v141 v142 v143 v144 v145 v146 v147 v148 v149 v150 v151 v152 v153 v154 v155 v156 v157 v158 v159 v160 v161 v162 v163 v164 v165 v166 v167 v168 v169 v170 v171 v172 v173 v174 v175 v176 v177 v178 v179 v180 v181 v182 v183 v184 v185 v186 v187 v188 v189 v190 v191 v192 v193 v194 v195 v196 v197 v198 v199 v200 v201 v202 v203 v204 v205 v206 v207 v208 v209 v210 v211 v212 v213 v214 v215 v216 v217 v218 v219 v220 v221 v222 : Value) (W' : World) (vw' : Value), RD w0 W' bt_ bo bs bw ro rs n m base A0 c0 gu gx gn cu j false b y out seen vw' wait → Q .normal ⟨#[u0, .string s, u2, .pointer (some ⟨bt_, 0, none⟩), u4, u5, u6, u7, .pointer (some ⟨bo, 0, none⟩), u9, u10, .func (.func 37) #[] #[.pointer (some ⟨bo, 0, none⟩), .pointer (some ⟨bt_, 0, none⟩), .pointer (some ⟨bs, 0, none⟩), .pointer (some ⟨bw, 0, none⟩)], .pointer (some ⟨gx, 0, none⟩), .pointer (some ⟨gn, 0, none⟩), .int .i64 p, u15, u16, u17, u18, u19, u20, u21, u22, u23, u24, u25, u26, u27, u28, u29, u30, u31, u32, u33, u34, u35, u36, u37, u38, u39, u40, u41, u42, u43, u44, u45, u46, u47, u48, u49, u50, u51, u52, u53, u54, u55, u56, u57, u58, v59, v60, v61, v62, v63, v64, v65, v66, v67, v68, v69, v70, v71, v72, v73, v74, v75, v76, v77, v78, v79, v80, v81, v82, v83, v84, v85, v86, v87, v88, v89, v90, v91, v92, v93, v94, v95, v96, v97, v98, v99, v100, v101, v102, v103, v104, v105, v106, v107, v108, v109, v110, v111, v112, v113, v114, v115, v116, v117, v118, v119, v120, v121, v122, v123, v124, v125, v126, v127, v128, v129, v130, v131, v132, v133, v134, v135, v136, v137, v138, v139, v140, v141, v142, v143, v144, v145, v146, v147, v148, v149, v150, v151, v152, v153, v154, v155, v156, v157, v158, v159, v160, v161, v162, v163, v164, v165, v166, v167, v168, v169, v170, v171, v172, v173, v174, v175, v176, v177, v178, v179, v180, v181, v182, v183, v184, v185, v186, v187, v188, v189, v190, v191, v192, v193, v194, v195, v196, v197, v198, v199, v200, v201, v202, v203, v204, v205, v206, v207, v208, v209, v210, v211, v212, v213, v214, v215, v216, v217, v218, v219, v220, v221, v222, u223], []⟩ W') :
    Code.wp Try.prog sw Q ⟨#[u0, .string s, u2, .pointer (some ⟨bt_, 0, none⟩), u4, u5, u6, u7, .pointer (some ⟨bo, 0, none⟩), u9, u10, .func (.func 37) #[] #[.pointer (some ⟨bo, 0, none⟩), .pointer (some ⟨bt_, 0, none⟩), .pointer (some ⟨bs, 0, none⟩), .pointer (some ⟨bw, 0, none⟩)], .pointer (some ⟨gx, 0, none⟩), .pointer (some ⟨gn, 0, none⟩), .int .i64 p, u15, u16, u17, u18, u19, u20, u21, u22, u23, u24, u25, u26, u27, u28, u29, u30, u31, u32, u33, u34, u35, u36, u37, u38, u39, u40, u41, u42, u43, u44, u45, u46, u47, u48, u49, u50, u51, u52, u53, u54, u55, u56, u57, u58, u59, u60, u61, u62, u63, u64, u65, u66, u67, u68, u69, u70, u71, u72, u73, u74, u75, u76, u77, u78, u79, u80, u81, u82, u83, u84, u85, u86, u87, u88, u89, u90, u91, u92, u93, u94, u95, u96, u97, u98, u99, u100, u101, u102, u103, u104, u105, u106, u107, u108, u109, u110, u111, u112, u113, u114, u115, u116, u117, u118, u119, u120, u121, u122, u123, u124, u125, u126, u127, u128, u129, u130, u131, u132, u133, u134, u135, u136, u137, u138, u139, u140, u141, u142, u143, u144, u145, u146, u147, u148, u149, u150, u151, u152, u153, u154, u155, u156, u157, u158, u159, u160, u161, u162, u163, u164, u165, u166, u167, u168, u169, u170, u171, u172, u173, u174, u175, u176, u177, u178, u179, u180, u181, u182, u183, u184, u185, u186, u187, u188, u189, u190, u191, u192, u193, u194, u195, u196, u197, u198, u199, u200, u201, u202, u203, u204, u205, u206, u207, u208, u209, u210, u211, u212, u213, u214, u215, u216, u217, u218, u219, u220, u221, u222, u223], []⟩ W := by
  have HRD := Lib.hid hrd
  have HQ := Lib.hid hQ
  obtain ⟨x0, x1, x2, y0, y1, y2, y3, y4, y5, y6, ct, cw⟩ := hrd.cells
  rw [hk] at y0
  have hz : decide ((b : Int) < (s.size : Int)) = true := decide_eq_true (by omega)
  have hz2 : decide (b < s.size) = true := decide_eq_true hbs
  clear hrd hQ
  conv => arg 2; whnf
  go_wp2_with fail
  go_still_tail 12, (by kernel_rfl)
  go_wp2_with fail
  refine (class_Has.calls _ _ _ _ _ false _ hc).mono ?_
  rintro e W9 ⟨rfl, hbH⟩
  have hrd9 := HRD.out.below (W' := W9) (Below.trans (show Below W.heap.size W W.drew from ⟨rfl, rfl, rfl, Nat.le_refl _, fun _ _ => rfl⟩) (show Below W.heap.size W.drew W9 from hbH))
  clear HRD x0 x1 x2 y0 y1 y2 y3 y4 y5 y6 ct cw hbH
  have HRD := Lib.hid hrd9
  obtain ⟨x0, x1, x2, y0, y1, y2, y3, y4, y5, y6, ct, cw⟩ := hrd9.cells
  rw [hk] at y0
  clear hrd9
  go_wp2_with fail
  exact HQ.out _ _ _ _ _ _ _ _ _ _ _ _ _ _ _ _ _ _ _ _ _ _ _ _ _ _ _ _ _ _ _ _ _ _ _ _ _ _ _ _ _ _ _ _ _ _ _ _ _ _ _ _ _ _ _ _ _ _ _ _ _ _ _ _ _ _ _ _ _ _ _ _ _ _ _ _ _ _ _ _ _ _ _ _ _ _ _ _ _ _ _ _ _ _ _ _ _ _ _ _ _ _ _ _ _ _ _ _ _ _ _ _ _ _ _ _ _ _ _ _ _ _ _ _ _ _ _ _ _ _ _ _ _ _ _ _ _ _ _ _ _ _ _ _ _ _ _ _ _ _ _ _ _ _ _ _ _ _ _ _ _ _ _ _ _ _ HRD.out
end Go.Proofs.Ytmhkofgappbpjaa.G
