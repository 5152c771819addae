/- The walks of cpu's operations on complex numbers. Conditions: the table of operations is laid; the registers are there; the sums and products have a value. -/
import Derived.Test.YthcjnkakfpmpbaaDoorC2
import Derived.Deep.QuietTactic
import Derived.BigQuiet
namespace Go.Proofs.YthcjnkakfpmpbaaDoor
open Go.RowKit
set_option linter.unusedVariables false
set_option linter.unusedSimpArgs false
attribute [local go_sem] run_store_complex

noncomputable def cxR3 : Array Oper := regOf Tryd.f62.body 3
set_option maxRecDepth 100000 in
set_option maxHeartbeats 4000000 in
theorem cx_r3 (g I a b c : Nat) (x y : Int) (u1 u2 u5 u6 u7 u8 u9 u10 u11 u12 u13 u14 u15 u16 u17 u18 u19 u20 u21 u22 u23 u24 u25 u26 u27 u28 u29 u30 u31 u32 u33 u34 u35 u36 u37 u38 u39 u40 u41 u42 u43 u44 u45 u46 u47 u48 u49 u50 u51 u52 u53 u54 u55 u56 u57 u58 u59 u60 u61 u62 u63 u64 u65 u66 u67 u68 u69 u70 u71 u72 u73 u74 u75 u76 u77 u78 u79 u80 u81 u82 u83 u84 u85 u86 u87 u88 u89 u90 u91 u92 u93 u94 u95 u96 u97 u98 u99 u100 u101 u102 u103 u104 u105 u106 u107 u108 u109 u110 u111 u112 u113 u114 u115 u116 u117 u118 u119 u120 u121 u122 u123 u124 u125 u126 u127 u128 u129 u130 u131 u132 u133 u134 u135 u136 u137 u138 u139 u140 u141 u142 u143 u144 u145 u146 u147 u148 u149 u150 u151 : Value) (W : World) (Q : Exit → Act → World → Prop) (ha : a < 4) (hb : b < 8) (hc : c < 8) (hgI : g ≠ I) (p2 : W.cell? ⟨I, 2, none⟩ = some (.int .i64 b)) (p3 : W.cell? ⟨I, 3, none⟩ = some (.int .i32 c))
    (px : W.cell? ⟨g, b, none⟩ = some (.int .i32 x)) (py : W.cell? ⟨g, c, none⟩ = some (.int .i32 y)) (z0 : Value) (pz : W.cell? ⟨g, 8 + a, none⟩ = some z0) (fz : W.frozen? ⟨g, 8 + a, none⟩ = false)
    (hQ : ∀ (v16 v17 v18 v19 v20 v21 v22 v23 v24 v25 v26 v27 v28 v29 v30 v31 v32 v33 v34 : Value), Q .normal { tmps := #[.pointer (some ⟨g, 0, none⟩), u1, u2, .pointer (some ⟨I, 0, none⟩), .pointer (some ⟨g, 8 + a, none⟩), u5, u6, u7, u8, u9, u10, u11, u12, u13, u14, u15, v16, v17, v18, v19, v20, v21, v22, v23, v24, v25, v26, v27, v28, v29, v30, v31, v32, v33, v34, u35, u36, u37, u38, u39, u40, u41, u42, u43, u44, u45, u46, u47, u48, u49, u50, u51, u52, u53, u54, u55, u56, u57, u58, u59, u60, u61, u62, u63, u64, u65, u66, u67, u68, u69, u70, u71, u72, u73, u74, u75, u76, u77, u78, u79, u80, u81, u82, u83, u84, u85, u86, u87, u88, u89, u90, u91, u92, u93, u94, u95, u96, u97, u98, u99, u100, u101, u102, u103, u104, u105, u106, u107, u108, u109, u110, u111, u112, u113, u114, u115, u116, u117, u118, u119, u120, u121, u122, u123, u124, u125, u126, u127, u128, u129, u130, u131, u132, u133, u134, u135, u136, u137, u138, u139, u140, u141, u142, u143, u144, u145, u146, u147, u148, u149, u150, u151], defers := [] } ((W.drewN 1).setCell ⟨g, 8 + a, none⟩ (.complex .f64 (floatOfInt .f64 x) (floatOfInt .f64 y)))) :
    (Code.region 3 cxR3 true).wp Tryd.prog Q { tmps := #[.pointer (some ⟨g, 0, none⟩), u1, u2, .pointer (some ⟨I, 0, none⟩), .pointer (some ⟨g, 8 + a, none⟩), u5, u6, u7, u8, u9, u10, u11, u12, u13, u14, u15, u16, u17, u18, u19, u20, u21, u22, u23, u24, u25, u26, u27, u28, u29, u30, u31, u32, u33, u34, u35, u36, u37, u38, u39, u40, u41, u42, u43, u44, u45, u46, u47, u48, u49, u50, u51, u52, u53, u54, u55, u56, u57, u58, u59, u60, u61, u62, u63, u64, u65, u66, u67, u68, u69, u70, u71, u72, u73, u74, u75, u76, u77, u78, u79, u80, u81, u82, u83, u84, u85, u86, u87, u88, u89, u90, u91, u92, u93, u94, u95, u96, u97, u98, u99, u100, u101, u102, u103, u104, u105, u106, u107, u108, u109, u110, u111, u112, u113, u114, u115, u116, u117, u118, u119, u120, u121, u122, u123, u124, u125, u126, u127, u128, u129, u130, u131, u132, u133, u134, u135, u136, u137, u138, u139, u140, u141, u142, u143, u144, u145, u146, u147, u148, u149, u150, u151], defers := [] } W := by
  have hB : (b : Int) < 8 := by omega
  have hC : (c : Int) < 8 := by omega
  refine held_start (ops' := cxR3) (l0 := #[false, false, false, false, false, false, false, false, false, false, false, false, false, false, false, false, false, false, false, false]) (S := fun w' => (w'.cell? ⟨I, 2, none⟩ = some (.int .i64 b) ∧ w'.cell? ⟨I, 3, none⟩ = some (.int .i32 c)) ∧ (w'.cell? ⟨g, b, none⟩ = some (.int .i32 x) ∧ w'.cell? ⟨g, c, none⟩ = some (.int .i32 y)) ∧ (∃ z, w'.cell? ⟨g, 8 + a, none⟩ = some z) ∧ w'.frozen? ⟨g, 8 + a, none⟩ = false) (by kernel_rfl) (by kernel_rfl) (by kernel_rfl) (by kernel_rfl) ⟨⟨p2, p3⟩, ⟨px, py⟩, ⟨_, pz⟩, fz⟩ (fun R hR => ?_)
  (refine held_take (v := ?_) (d := some 16) 0 (by kernel_rfl) (by kernel_rfl) rfl ?_ ?_
   rotate_left
   · intro w hSw
     conv in opOf _ _ => whnf
     (obtain ⟨⟨s1, s2⟩, ⟨s3, s4⟩, ⟨sz, s5⟩, s6⟩ := hSw)
     go_simp
     try (with_reducible rfl)
   try simp only [Act.put, List.setIfInBounds_toArray, List.set_cons_zero, List.set_cons_succ])
  (refine held_take (v := ?_) (d := some 17) 1 (by kernel_rfl) (by kernel_rfl) rfl ?_ ?_
   rotate_left
   · intro w hSw
     conv in opOf _ _ => whnf
     (obtain ⟨⟨s1, s2⟩, ⟨s3, s4⟩, ⟨sz, s5⟩, s6⟩ := hSw)
     go_simp
     try (with_reducible rfl)
   try simp only [Act.put, List.setIfInBounds_toArray, List.set_cons_zero, List.set_cons_succ])
  (refine held_take (v := ?_) (d := some 18) 2 (by kernel_rfl) (by kernel_rfl) rfl ?_ ?_
   rotate_left
   · intro w hSw
     conv in opOf _ _ => whnf
     (obtain ⟨⟨s1, s2⟩, ⟨s3, s4⟩, ⟨sz, s5⟩, s6⟩ := hSw)
     go_simp
     try (with_reducible rfl)
   try simp only [Act.put, List.setIfInBounds_toArray, List.set_cons_zero, List.set_cons_succ])
  (refine held_take (v := ?_) (d := some 19) 3 (by kernel_rfl) (by kernel_rfl) rfl ?_ ?_
   rotate_left
   · intro w hSw
     conv in opOf _ _ => whnf
     (obtain ⟨⟨s1, s2⟩, ⟨s3, s4⟩, ⟨sz, s5⟩, s6⟩ := hSw)
     go_simp
     try (with_reducible rfl)
   try simp only [Act.put, List.setIfInBounds_toArray, List.set_cons_zero, List.set_cons_succ])
  (refine held_take (v := ?_) (d := some 20) 4 (by kernel_rfl) (by kernel_rfl) rfl ?_ ?_
   rotate_left
   · intro w hSw
     conv in opOf _ _ => whnf
     (obtain ⟨⟨s1, s2⟩, ⟨s3, s4⟩, ⟨sz, s5⟩, s6⟩ := hSw)
     go_simp
     try (with_reducible rfl)
   try simp only [Act.put, List.setIfInBounds_toArray, List.set_cons_zero, List.set_cons_succ])
  (refine held_take (v := ?_) (d := some 21) 5 (by kernel_rfl) (by kernel_rfl) rfl ?_ ?_
   rotate_left
   · intro w hSw
     conv in opOf _ _ => whnf
     (obtain ⟨⟨s1, s2⟩, ⟨s3, s4⟩, ⟨sz, s5⟩, s6⟩ := hSw)
     go_simp
     try (with_reducible rfl)
   try simp only [Act.put, List.setIfInBounds_toArray, List.set_cons_zero, List.set_cons_succ])
  (refine held_take (v := ?_) (d := some 22) 6 (by kernel_rfl) (by kernel_rfl) rfl ?_ ?_
   rotate_left
   · intro w hSw
     conv in opOf _ _ => whnf
     (obtain ⟨⟨s1, s2⟩, ⟨s3, s4⟩, ⟨sz, s5⟩, s6⟩ := hSw)
     go_simp
     try (with_reducible rfl)
   try simp only [Act.put, List.setIfInBounds_toArray, List.set_cons_zero, List.set_cons_succ])
  (refine held_take (v := ?_) (d := some 23) 7 (by kernel_rfl) (by kernel_rfl) rfl ?_ ?_
   rotate_left
   · intro w hSw
     conv in opOf _ _ => whnf
     (obtain ⟨⟨s1, s2⟩, ⟨s3, s4⟩, ⟨sz, s5⟩, s6⟩ := hSw)
     go_simp
     try (with_reducible rfl)
   try simp only [Act.put, List.setIfInBounds_toArray, List.set_cons_zero, List.set_cons_succ])
  (refine held_take (v := ?_) (d := some 24) 8 (by kernel_rfl) (by kernel_rfl) rfl ?_ ?_
   rotate_left
   · intro w hSw
     conv in opOf _ _ => whnf
     (obtain ⟨⟨s1, s2⟩, ⟨s3, s4⟩, ⟨sz, s5⟩, s6⟩ := hSw)
     go_simp
     try (with_reducible rfl)
   try simp only [Act.put, List.setIfInBounds_toArray, List.set_cons_zero, List.set_cons_succ])
  (refine held_take (v := ?_) (d := some 25) 9 (by kernel_rfl) (by kernel_rfl) rfl ?_ ?_
   rotate_left
   · intro w hSw
     conv in opOf _ _ => whnf
     (obtain ⟨⟨s1, s2⟩, ⟨s3, s4⟩, ⟨sz, s5⟩, s6⟩ := hSw)
     go_simp
     try (with_reducible rfl)
   try simp only [Act.put, List.setIfInBounds_toArray, List.set_cons_zero, List.set_cons_succ])
  (refine held_take (v := ?_) (d := some 26) 10 (by kernel_rfl) (by kernel_rfl) rfl ?_ ?_
   rotate_left
   · intro w hSw
     conv in opOf _ _ => whnf
     (obtain ⟨⟨s1, s2⟩, ⟨s3, s4⟩, ⟨sz, s5⟩, s6⟩ := hSw)
     go_simp
     try (with_reducible rfl)
   try simp only [Act.put, List.setIfInBounds_toArray, List.set_cons_zero, List.set_cons_succ])
  (refine held_take (v := ?_) (d := some 27) 11 (by kernel_rfl) (by kernel_rfl) rfl ?_ ?_
   rotate_left
   · intro w hSw
     conv in opOf _ _ => whnf
     (obtain ⟨⟨s1, s2⟩, ⟨s3, s4⟩, ⟨sz, s5⟩, s6⟩ := hSw)
     go_simp
     try (with_reducible rfl)
   try simp only [Act.put, List.setIfInBounds_toArray, List.set_cons_zero, List.set_cons_succ])
  (refine held_take (v := ?_) (d := some 28) 12 (by kernel_rfl) (by kernel_rfl) rfl ?_ ?_
   rotate_left
   · intro w hSw
     conv in opOf _ _ => whnf
     (obtain ⟨⟨s1, s2⟩, ⟨s3, s4⟩, ⟨sz, s5⟩, s6⟩ := hSw)
     go_simp
     try (with_reducible rfl)
   try simp only [Act.put, List.setIfInBounds_toArray, List.set_cons_zero, List.set_cons_succ])
  (refine held_take (v := ?_) (d := some 29) 13 (by kernel_rfl) (by kernel_rfl) rfl ?_ ?_
   rotate_left
   · intro w hSw
     conv in opOf _ _ => whnf
     (obtain ⟨⟨s1, s2⟩, ⟨s3, s4⟩, ⟨sz, s5⟩, s6⟩ := hSw)
     go_simp
     try (with_reducible rfl)
   try simp only [Act.put, List.setIfInBounds_toArray, List.set_cons_zero, List.set_cons_succ])
  (refine held_take (v := ?_) (d := some 30) 14 (by kernel_rfl) (by kernel_rfl) rfl ?_ ?_
   rotate_left
   · intro w hSw
     conv in opOf _ _ => whnf
     (obtain ⟨⟨s1, s2⟩, ⟨s3, s4⟩, ⟨sz, s5⟩, s6⟩ := hSw)
     go_simp
     try (with_reducible rfl)
   try simp only [Act.put, List.setIfInBounds_toArray, List.set_cons_zero, List.set_cons_succ])
  (refine held_take (v := ?_) (d := some 31) 15 (by kernel_rfl) (by kernel_rfl) rfl ?_ ?_
   rotate_left
   · intro w hSw
     conv in opOf _ _ => whnf
     (obtain ⟨⟨s1, s2⟩, ⟨s3, s4⟩, ⟨sz, s5⟩, s6⟩ := hSw)
     go_simp
     try (with_reducible rfl)
   try simp only [Act.put, List.setIfInBounds_toArray, List.set_cons_zero, List.set_cons_succ])
  (refine held_take (v := ?_) (d := some 32) 16 (by kernel_rfl) (by kernel_rfl) rfl ?_ ?_
   rotate_left
   · intro w hSw
     conv in opOf _ _ => whnf
     (obtain ⟨⟨s1, s2⟩, ⟨s3, s4⟩, ⟨sz, s5⟩, s6⟩ := hSw)
     go_simp
     try (with_reducible rfl)
   try simp only [Act.put, List.setIfInBounds_toArray, List.set_cons_zero, List.set_cons_succ])
  (refine held_take (v := ?_) (d := some 33) 17 (by kernel_rfl) (by kernel_rfl) rfl ?_ ?_
   rotate_left
   · intro w hSw
     conv in opOf _ _ => whnf
     (obtain ⟨⟨s1, s2⟩, ⟨s3, s4⟩, ⟨sz, s5⟩, s6⟩ := hSw)
     go_simp
     try (with_reducible rfl)
   try simp only [Act.put, List.setIfInBounds_toArray, List.set_cons_zero, List.set_cons_succ])
  (refine held_take (v := ?_) (d := some 34) 18 (by kernel_rfl) (by kernel_rfl) rfl ?_ ?_
   rotate_left
   · intro w hSw
     conv in opOf _ _ => whnf
     (obtain ⟨⟨s1, s2⟩, ⟨s3, s4⟩, ⟨sz, s5⟩, s6⟩ := hSw)
     go_simp
     try (with_reducible rfl)
   try simp only [Act.put, List.setIfInBounds_toArray, List.set_cons_zero, List.set_cons_succ])
  refine held_one 19 (by kernel_rfl) (by kernel_rfl) (held_mute (w' := ?_) (d := none) 19 (by kernel_rfl) (by kernel_rfl) rfl ?_ ?_)
  rotate_left 1
  · rintro ⟨⟨s1, s2⟩, ⟨s3, s4⟩, ⟨sz, s5⟩, s6⟩
    conv in opOf _ _ => whnf
    go_simp
    first | done | (with_reducible rfl)
  intro hS
  refine ⟨⟨⟨(World.cell?_setCell_other _ _ _ _ (by first | (simp; done) | (simp; omega))).trans hS.1.1, (World.cell?_setCell_other _ _ _ _ (by first | (simp; done) | (simp; omega))).trans hS.1.2⟩, ⟨(World.cell?_setCell_other _ _ _ _ (by first | (simp; done) | (simp; omega))).trans hS.2.1.1, (World.cell?_setCell_other _ _ _ _ (by first | (simp; done) | (simp; omega))).trans hS.2.1.2⟩, ⟨_, World.cell?_setCell_same' _ _ _ (by obtain ⟨y, hy⟩ := hS.2.2.1; have hy' : W.cell? ⟨g, 8 + a, none⟩ = some y := hy; simp [hy'])⟩, by simpa using hS.2.2.2⟩, ?_⟩
  try simp only [Act.put, List.setIfInBounds_toArray, List.set_cons_zero, List.set_cons_succ]
  refine held_done (by kernel_rfl) (fun hS => hR.out _ _ ?_)
  exact hQ _ _ _ _ _ _ _ _ _ _ _ _ _ _ _ _ _ _ _

noncomputable def cxR17 : Array Oper := regOf Tryd.f62.body 17
set_option maxRecDepth 100000 in
set_option maxHeartbeats 16000000 in
theorem cx_r17 (g a : Nat) (p q s t ps qt pt qs re im : Nat) (u1 u2 u3 u6 u7 u8 u9 u10 u11 u12 u13 u14 u15 u16 u17 u18 u19 u20 u21 u22 u23 u24 u25 u26 u27 u28 u29 u30 u31 u32 u33 u34 u35 u36 u37 u38 u39 u40 u41 u42 u43 u44 u45 u46 u47 u48 u49 u50 u51 u52 u53 u54 u55 u56 u57 u58 u59 u60 u61 u62 u63 u64 u65 u66 u67 u68 u69 u70 u71 u72 u73 u74 u75 u76 u77 u78 u79 u80 u81 u82 u83 u84 u85 u86 u87 u88 u89 u90 u91 u92 u93 u94 u95 u96 u97 u98 u99 u100 u101 u102 u103 u104 u105 u106 u107 u108 u109 u110 u111 u112 u113 u114 u115 u116 u117 u118 u119 u120 u121 u122 u123 u124 u125 u126 u127 u128 u129 u130 u131 u132 u133 u134 u135 u136 u137 u138 u139 u140 u141 u142 u143 u144 u145 u146 u147 u148 u149 u150 u151 : Value) (W : World) (Q : Exit → Act → World → Prop) (ha : a < 4) (pz : W.cell? ⟨g, 8 + a, none⟩ = some (.complex .f64 p q)) (fz : W.frozen? ⟨g, 8 + a, none⟩ = false) (h1 : ∀ w, (binOp BinOp.mul 146 (.float .f64 p) (.float .f64 s)).run Tryd.prog w = .ok (.float .f64 ps) w) (h2 : ∀ w, (binOp BinOp.mul 146 (.float .f64 q) (.float .f64 t)).run Tryd.prog w = .ok (.float .f64 qt) w) (h3 : ∀ w, (binOp BinOp.sub 146 (.float .f64 ps) (.float .f64 qt)).run Tryd.prog w = .ok (.float .f64 re) w) (h4 : ∀ w, (binOp BinOp.mul 146 (.float .f64 p) (.float .f64 t)).run Tryd.prog w = .ok (.float .f64 pt) w) (h5 : ∀ w, (binOp BinOp.mul 146 (.float .f64 q) (.float .f64 s)).run Tryd.prog w = .ok (.float .f64 qs) w) (h6 : ∀ w, (binOp BinOp.add 146 (.float .f64 pt) (.float .f64 qs)).run Tryd.prog w = .ok (.float .f64 im) w)
    (hQ : ∀ (v119 v120 v121 v122 v123 v124 v125 v126 v127 v128 v129 v130 v131 v132 v133 v134 v135 v136 v137 v138 v139 v140 v141 v142 v143 v144 v145 v146 v147 v148 v149 v150 v151 : Value), Q .normal { tmps := #[.pointer (some ⟨g, 0, none⟩), u1, u2, u3, .pointer (some ⟨g, 8 + a, none⟩), .complex .f64 s t, u6, u7, u8, u9, u10, u11, u12, u13, u14, u15, u16, u17, u18, u19, u20, u21, u22, u23, u24, u25, u26, u27, u28, u29, u30, u31, u32, u33, u34, u35, u36, u37, u38, u39, u40, u41, u42, u43, u44, u45, u46, u47, u48, u49, u50, u51, u52, u53, u54, u55, u56, u57, u58, u59, u60, u61, u62, u63, u64, u65, u66, u67, u68, u69, u70, u71, u72, u73, u74, u75, u76, u77, u78, u79, u80, u81, u82, u83, u84, u85, u86, u87, u88, u89, u90, u91, u92, u93, u94, u95, u96, u97, u98, u99, u100, u101, u102, u103, u104, u105, u106, u107, u108, u109, u110, u111, u112, u113, u114, u115, u116, u117, u118, v119, v120, v121, v122, v123, v124, v125, v126, v127, v128, v129, v130, v131, v132, v133, v134, v135, v136, v137, v138, v139, v140, v141, v142, v143, v144, v145, v146, v147, v148, v149, v150, v151], defers := [] } ((W.drewN 1).setCell ⟨g, 8 + a, none⟩ (.complex .f64 re im))) :
    (Code.region 17 cxR17 true).wp Tryd.prog Q { tmps := #[.pointer (some ⟨g, 0, none⟩), u1, u2, u3, .pointer (some ⟨g, 8 + a, none⟩), .complex .f64 s t, u6, u7, u8, u9, u10, u11, u12, u13, u14, u15, u16, u17, u18, u19, u20, u21, u22, u23, u24, u25, u26, u27, u28, u29, u30, u31, u32, u33, u34, u35, u36, u37, u38, u39, u40, u41, u42, u43, u44, u45, u46, u47, u48, u49, u50, u51, u52, u53, u54, u55, u56, u57, u58, u59, u60, u61, u62, u63, u64, u65, u66, u67, u68, u69, u70, u71, u72, u73, u74, u75, u76, u77, u78, u79, u80, u81, u82, u83, u84, u85, u86, u87, u88, u89, u90, u91, u92, u93, u94, u95, u96, u97, u98, u99, u100, u101, u102, u103, u104, u105, u106, u107, u108, u109, u110, u111, u112, u113, u114, u115, u116, u117, u118, u119, u120, u121, u122, u123, u124, u125, u126, u127, u128, u129, u130, u131, u132, u133, u134, u135, u136, u137, u138, u139, u140, u141, u142, u143, u144, u145, u146, u147, u148, u149, u150, u151], defers := [] } W := by
  refine held_start (ops' := cxR17) (l0 := #[false, false, false, false, false, false, false, false, false, false, false, false, false, false, false, false, false, false, false, false, false, false, false, false, false, false, false, false, false, false, false, false, false, false]) (S := fun w' => (∃ z, w'.cell? ⟨g, 8 + a, none⟩ = some z) ∧ w'.frozen? ⟨g, 8 + a, none⟩ = false) (by kernel_rfl) (by kernel_rfl) (by kernel_rfl) (by kernel_rfl) ⟨⟨_, pz⟩, fz⟩ (fun R hR => ?_)
  (refine held_take (v := ?_) (d := some 119) 0 (by kernel_rfl) (by kernel_rfl) rfl ?_ ?_
   rotate_left
   · intro w hSw
     conv in opOf _ _ => whnf
     (try dsimp only at hSw)
     go_simp
     try (with_reducible rfl)
   try simp only [Act.put, List.setIfInBounds_toArray, List.set_cons_zero, List.set_cons_succ])
  (refine held_take (v := ?_) (d := some 120) 1 (by kernel_rfl) (by kernel_rfl) rfl ?_ ?_
   rotate_left
   · intro w hSw
     conv in opOf _ _ => whnf
     (try dsimp only at hSw)
     go_simp
     try (with_reducible rfl)
   try simp only [Act.put, List.setIfInBounds_toArray, List.set_cons_zero, List.set_cons_succ])
  (refine held_take (v := ?_) (d := some 124) 5 (by kernel_rfl) (by kernel_rfl) rfl ?_ ?_
   rotate_left
   · intro w hSw
     conv in opOf _ _ => whnf
     (try dsimp only at hSw)
     go_simp
     try (with_reducible rfl)
   try simp only [Act.put, List.setIfInBounds_toArray, List.set_cons_zero, List.set_cons_succ])
  (refine held_take (v := ?_) (d := some 127) 8 (by kernel_rfl) (by kernel_rfl) rfl ?_ ?_
   rotate_left
   · intro w hSw
     conv in opOf _ _ => whnf
     (try dsimp only at hSw)
     go_simp
     try (with_reducible rfl)
   try simp only [Act.put, List.setIfInBounds_toArray, List.set_cons_zero, List.set_cons_succ])
  (refine held_take (v := ?_) (d := some 131) 12 (by kernel_rfl) (by kernel_rfl) rfl ?_ ?_
   rotate_left
   · intro w hSw
     conv in opOf _ _ => whnf
     (try dsimp only at hSw)
     go_simp
     try (with_reducible rfl)
   try simp only [Act.put, List.setIfInBounds_toArray, List.set_cons_zero, List.set_cons_succ])
  (refine held_take (v := ?_) (d := some 135) 16 (by kernel_rfl) (by kernel_rfl) rfl ?_ ?_
   rotate_left
   · intro w hSw
     conv in opOf _ _ => whnf
     (try dsimp only at hSw)
     go_simp
     try (with_reducible rfl)
   try simp only [Act.put, List.setIfInBounds_toArray, List.set_cons_zero, List.set_cons_succ])
  (refine held_take (v := ?_) (d := some 139) 20 (by kernel_rfl) (by kernel_rfl) rfl ?_ ?_
   rotate_left
   · intro w hSw
     conv in opOf _ _ => whnf
     (try dsimp only at hSw)
     go_simp
     try (with_reducible rfl)
   try simp only [Act.put, List.setIfInBounds_toArray, List.set_cons_zero, List.set_cons_succ])
  (refine held_take (v := ?_) (d := some 142) 23 (by kernel_rfl) (by kernel_rfl) rfl ?_ ?_
   rotate_left
   · intro w hSw
     conv in opOf _ _ => whnf
     (try dsimp only at hSw)
     go_simp
     try (with_reducible rfl)
   try simp only [Act.put, List.setIfInBounds_toArray, List.set_cons_zero, List.set_cons_succ])
  (refine held_take (v := ?_) (d := some 146) 27 (by kernel_rfl) (by kernel_rfl) rfl ?_ ?_
   rotate_left
   · intro w hSw
     conv in opOf _ _ => whnf
     (try dsimp only at hSw)
     go_simp
     try (with_reducible rfl)
   try simp only [Act.put, List.setIfInBounds_toArray, List.set_cons_zero, List.set_cons_succ])
  (refine held_take (v := ?_) (d := some 121) 2 (by kernel_rfl) (by kernel_rfl) rfl ?_ ?_
   rotate_left
   · intro w hSw
     conv in opOf _ _ => whnf
     (try dsimp only at hSw)
     go_simp
     try (with_reducible rfl)
   try simp only [Act.put, List.setIfInBounds_toArray, List.set_cons_zero, List.set_cons_succ])
  (refine held_take (v := ?_) (d := some 125) 6 (by kernel_rfl) (by kernel_rfl) rfl ?_ ?_
   rotate_left
   · intro w hSw
     conv in opOf _ _ => whnf
     (try dsimp only at hSw)
     go_simp
     try (with_reducible rfl)
   try simp only [Act.put, List.setIfInBounds_toArray, List.set_cons_zero, List.set_cons_succ])
  (refine held_take (v := ?_) (d := some 128) 9 (by kernel_rfl) (by kernel_rfl) rfl ?_ ?_
   rotate_left
   · intro w hSw
     conv in opOf _ _ => whnf
     (try dsimp only at hSw)
     go_simp
     try (with_reducible rfl)
   try simp only [Act.put, List.setIfInBounds_toArray, List.set_cons_zero, List.set_cons_succ])
  (refine held_take (v := ?_) (d := some 132) 13 (by kernel_rfl) (by kernel_rfl) rfl ?_ ?_
   rotate_left
   · intro w hSw
     conv in opOf _ _ => whnf
     (try dsimp only at hSw)
     go_simp
     try (with_reducible rfl)
   try simp only [Act.put, List.setIfInBounds_toArray, List.set_cons_zero, List.set_cons_succ])
  (refine held_take (v := ?_) (d := some 136) 17 (by kernel_rfl) (by kernel_rfl) rfl ?_ ?_
   rotate_left
   · intro w hSw
     conv in opOf _ _ => whnf
     (try dsimp only at hSw)
     go_simp
     try (with_reducible rfl)
   try simp only [Act.put, List.setIfInBounds_toArray, List.set_cons_zero, List.set_cons_succ])
  (refine held_take (v := ?_) (d := some 140) 21 (by kernel_rfl) (by kernel_rfl) rfl ?_ ?_
   rotate_left
   · intro w hSw
     conv in opOf _ _ => whnf
     (try dsimp only at hSw)
     go_simp
     try (with_reducible rfl)
   try simp only [Act.put, List.setIfInBounds_toArray, List.set_cons_zero, List.set_cons_succ])
  (refine held_take (v := ?_) (d := some 143) 24 (by kernel_rfl) (by kernel_rfl) rfl ?_ ?_
   rotate_left
   · intro w hSw
     conv in opOf _ _ => whnf
     (try dsimp only at hSw)
     go_simp
     try (with_reducible rfl)
   try simp only [Act.put, List.setIfInBounds_toArray, List.set_cons_zero, List.set_cons_succ])
  (refine held_take (v := ?_) (d := some 147) 28 (by kernel_rfl) (by kernel_rfl) rfl ?_ ?_
   rotate_left
   · intro w hSw
     conv in opOf _ _ => whnf
     (try dsimp only at hSw)
     go_simp
     try (with_reducible rfl)
   try simp only [Act.put, List.setIfInBounds_toArray, List.set_cons_zero, List.set_cons_succ])
  refine held_many [3, 10, 18, 25] (by kernel_rfl) (by simp) (by intro i hi; simp only [List.mem_cons, List.not_mem_nil, or_false] at hi; rcases hi with rfl | rfl | rfl | rfl <;> kernel_rfl) (fun i hi => ?_)
  simp only [List.mem_cons, List.not_mem_nil, or_false] at hi
  rcases hi with rfl | rfl | rfl | rfl
  · skip
    (refine held_run (v := ?_) (w' := ?_) (d := some 122) 3 (by kernel_rfl) (by kernel_rfl) rfl ?_ ?_
     rotate_left 2
     · rintro ⟨s1, s2⟩
       conv in opOf _ _ => whnf
       go_simp
       first | done | (with_reducible rfl) | (constructor <;> with_reducible rfl)
     intro hS
     refine ⟨hS, ?_⟩
     try simp only [Act.put, List.setIfInBounds_toArray, List.set_cons_zero, List.set_cons_succ])
    (refine held_take (v := ?_) (d := some 123) 4 (by kernel_rfl) (by kernel_rfl) rfl ?_ ?_
     rotate_left
     · intro w hSw
       conv in opOf _ _ => whnf
       (try dsimp only at hSw)
       go_simp
       try (with_reducible rfl)
     try simp only [Act.put, List.setIfInBounds_toArray, List.set_cons_zero, List.set_cons_succ])
    (refine held_take (v := ?_) (d := some 126) 7 (by kernel_rfl) (by kernel_rfl) rfl ?_ ?_
     rotate_left
     · intro w hSw
       conv in opOf _ _ => whnf
       (try dsimp only at hSw)
       go_simp
       try (with_reducible rfl)
     try simp only [Act.put, List.setIfInBounds_toArray, List.set_cons_zero, List.set_cons_succ])
    refine held_many [10, 18, 25] (by kernel_rfl) (by simp) (by intro i hi; simp only [List.mem_cons, List.not_mem_nil, or_false] at hi; rcases hi with rfl | rfl | rfl <;> kernel_rfl) (fun i hi => ?_)
    simp only [List.mem_cons, List.not_mem_nil, or_false] at hi
    rcases hi with rfl | rfl | rfl
    · skip
      (refine held_run (v := ?_) (w' := ?_) (d := some 129) 10 (by kernel_rfl) (by kernel_rfl) rfl ?_ ?_
       rotate_left 2
       · rintro ⟨s1, s2⟩
         conv in opOf _ _ => whnf
         go_simp
         first | done | (with_reducible rfl) | (constructor <;> with_reducible rfl)
       intro hS
       refine ⟨hS, ?_⟩
       try simp only [Act.put, List.setIfInBounds_toArray, List.set_cons_zero, List.set_cons_succ])
      (refine held_take (v := ?_) (d := some 130) 11 (by kernel_rfl) (by kernel_rfl) rfl ?_ ?_
       rotate_left
       · intro w hSw
         conv in opOf _ _ => whnf
         (try dsimp only at hSw)
         go_simp
         try (with_reducible rfl)
       try simp only [Act.put, List.setIfInBounds_toArray, List.set_cons_zero, List.set_cons_succ])
      (refine held_take (v := ?_) (d := some 133) 14 (by kernel_rfl) (by kernel_rfl) rfl ?_ ?_
       rotate_left
       · intro w hSw
         conv in opOf _ _ => whnf
         (try dsimp only at hSw)
         go_simp
         try (with_reducible rfl)
       try simp only [Act.put, List.setIfInBounds_toArray, List.set_cons_zero, List.set_cons_succ])
      (refine held_take (v := ?_) (d := some 134) 15 (by kernel_rfl) (by kernel_rfl) rfl ?_ ?_
       rotate_left
       · intro w hSw
         conv in opOf _ _ => whnf
         (try dsimp only at hSw)
         go_simp
         try (with_reducible rfl)
       try simp only [Act.put, List.setIfInBounds_toArray, List.set_cons_zero, List.set_cons_succ])
      refine held_many [18, 25] (by kernel_rfl) (by simp) (by intro i hi; simp only [List.mem_cons, List.not_mem_nil, or_false] at hi; rcases hi with rfl | rfl <;> kernel_rfl) (fun i hi => ?_)
      simp only [List.mem_cons, List.not_mem_nil, or_false] at hi
      rcases hi with rfl | rfl
      · skip
        (refine held_run (v := ?_) (w' := ?_) (d := some 137) 18 (by kernel_rfl) (by kernel_rfl) rfl ?_ ?_
         rotate_left 2
         · rintro ⟨s1, s2⟩
           conv in opOf _ _ => whnf
           go_simp
           first | done | (with_reducible rfl) | (constructor <;> with_reducible rfl)
         intro hS
         refine ⟨hS, ?_⟩
         try simp only [Act.put, List.setIfInBounds_toArray, List.set_cons_zero, List.set_cons_succ])
        (refine held_take (v := ?_) (d := some 138) 19 (by kernel_rfl) (by kernel_rfl) rfl ?_ ?_
         rotate_left
         · intro w hSw
           conv in opOf _ _ => whnf
           (try dsimp only at hSw)
           go_simp
           try (with_reducible rfl)
         try simp only [Act.put, List.setIfInBounds_toArray, List.set_cons_zero, List.set_cons_succ])
        (refine held_take (v := ?_) (d := some 141) 22 (by kernel_rfl) (by kernel_rfl) rfl ?_ ?_
         rotate_left
         · intro w hSw
           conv in opOf _ _ => whnf
           (try dsimp only at hSw)
           go_simp
           try (with_reducible rfl)
         try simp only [Act.put, List.setIfInBounds_toArray, List.set_cons_zero, List.set_cons_succ])
        refine held_one 25 (by kernel_rfl) (by kernel_rfl) ?_
        (refine held_run (v := ?_) (w' := ?_) (d := some 144) 25 (by kernel_rfl) (by kernel_rfl) rfl ?_ ?_
         rotate_left 2
         · rintro ⟨s1, s2⟩
           conv in opOf _ _ => whnf
           go_simp
           first | done | (with_reducible rfl) | (constructor <;> with_reducible rfl)
         intro hS
         refine ⟨hS, ?_⟩
         try simp only [Act.put, List.setIfInBounds_toArray, List.set_cons_zero, List.set_cons_succ])
        (refine held_take (v := ?_) (d := some 145) 26 (by kernel_rfl) (by kernel_rfl) rfl ?_ ?_
         rotate_left
         · intro w hSw
           conv in opOf _ _ => whnf
           (try dsimp only at hSw)
           go_simp
           try (with_reducible rfl)
         try simp only [Act.put, List.setIfInBounds_toArray, List.set_cons_zero, List.set_cons_succ])
        (refine held_take (v := ?_) (d := some 148) 29 (by kernel_rfl) (by kernel_rfl) rfl ?_ ?_
         rotate_left
         · intro w hSw
           conv in opOf _ _ => whnf
           (try dsimp only at hSw)
           go_simp
           try (with_reducible rfl)
         try simp only [Act.put, List.setIfInBounds_toArray, List.set_cons_zero, List.set_cons_succ])
        (refine held_take (v := ?_) (d := some 149) 30 (by kernel_rfl) (by kernel_rfl) rfl ?_ ?_
         rotate_left
         · intro w hSw
           conv in opOf _ _ => whnf
           (try dsimp only at hSw)
           go_simp
           try (with_reducible rfl)
         try simp only [Act.put, List.setIfInBounds_toArray, List.set_cons_zero, List.set_cons_succ])
        (refine held_take (v := ?_) (d := some 150) 31 (by kernel_rfl) (by kernel_rfl) rfl ?_ ?_
         rotate_left
         · intro w hSw
           conv in opOf _ _ => whnf
           (try dsimp only at hSw)
           go_simp
           try (with_reducible rfl)
         try simp only [Act.put, List.setIfInBounds_toArray, List.set_cons_zero, List.set_cons_succ])
        (refine held_take (v := ?_) (d := some 151) 32 (by kernel_rfl) (by kernel_rfl) rfl ?_ ?_
         rotate_left
         · intro w hSw
           conv in opOf _ _ => whnf
           (try dsimp only at hSw)
           go_simp
           try (with_reducible rfl)
         try simp only [Act.put, List.setIfInBounds_toArray, List.set_cons_zero, List.set_cons_succ])
        refine held_one 33 (by kernel_rfl) (by kernel_rfl) (held_mute (w' := ?_) (d := none) 33 (by kernel_rfl) (by kernel_rfl) rfl ?_ ?_)
        rotate_left 1
        · rintro ⟨⟨sz, s5⟩, s6⟩
          conv in opOf _ _ => whnf
          go_simp
          first | done | (with_reducible rfl)
        intro hS
        refine ⟨⟨⟨_, World.cell?_setCell_same' _ _ _ (by have hy' : W.cell? ⟨g, 8 + a, none⟩ = some (.complex .f64 p q) := pz; simp [hy'])⟩, by simpa using hS.2⟩, ?_⟩
        try simp only [Act.put, List.setIfInBounds_toArray, List.set_cons_zero, List.set_cons_succ]
        refine held_done (by kernel_rfl) (fun hS => hR.out _ _ ?_)
        exact hQ _ _ _ _ _ _ _ _ _ _ _ _ _ _ _ _ _ _ _ _ _ _ _ _ _ _ _ _ _ _ _ _ _
      · skip
        (refine held_run (v := ?_) (w' := ?_) (d := some 144) 25 (by kernel_rfl) (by kernel_rfl) rfl ?_ ?_
         rotate_left 2
         · rintro ⟨s1, s2⟩
           conv in opOf _ _ => whnf
           go_simp
           first | done | (with_reducible rfl) | (constructor <;> with_reducible rfl)
         intro hS
         refine ⟨hS, ?_⟩
         try simp only [Act.put, List.setIfInBounds_toArray, List.set_cons_zero, List.set_cons_succ])
        (refine held_take (v := ?_) (d := some 145) 26 (by kernel_rfl) (by kernel_rfl) rfl ?_ ?_
         rotate_left
         · intro w hSw
           conv in opOf _ _ => whnf
           (try dsimp only at hSw)
           go_simp
           try (with_reducible rfl)
         try simp only [Act.put, List.setIfInBounds_toArray, List.set_cons_zero, List.set_cons_succ])
        (refine held_take (v := ?_) (d := some 148) 29 (by kernel_rfl) (by kernel_rfl) rfl ?_ ?_
         rotate_left
         · intro w hSw
           conv in opOf _ _ => whnf
           (try dsimp only at hSw)
           go_simp
           try (with_reducible rfl)
         try simp only [Act.put, List.setIfInBounds_toArray, List.set_cons_zero, List.set_cons_succ])
        refine held_one 18 (by kernel_rfl) (by kernel_rfl) ?_
        (refine held_run (v := ?_) (w' := ?_) (d := some 137) 18 (by kernel_rfl) (by kernel_rfl) rfl ?_ ?_
         rotate_left 2
         · rintro ⟨s1, s2⟩
           conv in opOf _ _ => whnf
           go_simp
           first | done | (with_reducible rfl) | (constructor <;> with_reducible rfl)
         intro hS
         refine ⟨hS, ?_⟩
         try simp only [Act.put, List.setIfInBounds_toArray, List.set_cons_zero, List.set_cons_succ])
        (refine held_take (v := ?_) (d := some 138) 19 (by kernel_rfl) (by kernel_rfl) rfl ?_ ?_
         rotate_left
         · intro w hSw
           conv in opOf _ _ => whnf
           (try dsimp only at hSw)
           go_simp
           try (with_reducible rfl)
         try simp only [Act.put, List.setIfInBounds_toArray, List.set_cons_zero, List.set_cons_succ])
        (refine held_take (v := ?_) (d := some 141) 22 (by kernel_rfl) (by kernel_rfl) rfl ?_ ?_
         rotate_left
         · intro w hSw
           conv in opOf _ _ => whnf
           (try dsimp only at hSw)
           go_simp
           try (with_reducible rfl)
         try simp only [Act.put, List.setIfInBounds_toArray, List.set_cons_zero, List.set_cons_succ])
        (refine held_take (v := ?_) (d := some 149) 30 (by kernel_rfl) (by kernel_rfl) rfl ?_ ?_
         rotate_left
         · intro w hSw
           conv in opOf _ _ => whnf
           (try dsimp only at hSw)
           go_simp
           try (with_reducible rfl)
         try simp only [Act.put, List.setIfInBounds_toArray, List.set_cons_zero, List.set_cons_succ])
        (refine held_take (v := ?_) (d := some 150) 31 (by kernel_rfl) (by kernel_rfl) rfl ?_ ?_
         rotate_left
         · intro w hSw
           conv in opOf _ _ => whnf
           (try dsimp only at hSw)
           go_simp
           try (with_reducible rfl)
         try simp only [Act.put, List.setIfInBounds_toArray, List.set_cons_zero, List.set_cons_succ])
        (refine held_take (v := ?_) (d := some 151) 32 (by kernel_rfl) (by kernel_rfl) rfl ?_ ?_
         rotate_left
         · intro w hSw
           conv in opOf _ _ => whnf
           (try dsimp only at hSw)
           go_simp
           try (with_reducible rfl)
         try simp only [Act.put, List.setIfInBounds_toArray, List.set_cons_zero, List.set_cons_succ])
        refine held_one 33 (by kernel_rfl) (by kernel_rfl) (held_mute (w' := ?_) (d := none) 33 (by kernel_rfl) (by kernel_rfl) rfl ?_ ?_)
        rotate_left 1
        · rintro ⟨⟨sz, s5⟩, s6⟩
          conv in opOf _ _ => whnf
          go_simp
          first | done | (with_reducible rfl)
        intro hS
        refine ⟨⟨⟨_, World.cell?_setCell_same' _ _ _ (by have hy' : W.cell? ⟨g, 8 + a, none⟩ = some (.complex .f64 p q) := pz; simp [hy'])⟩, by simpa using hS.2⟩, ?_⟩
        try simp only [Act.put, List.setIfInBounds_toArray, List.set_cons_zero, List.set_cons_succ]
        refine held_done (by kernel_rfl) (fun hS => hR.out _ _ ?_)
        exact hQ _ _ _ _ _ _ _ _ _ _ _ _ _ _ _ _ _ _ _ _ _ _ _ _ _ _ _ _ _ _ _ _ _
    · skip
      (refine held_run (v := ?_) (w' := ?_) (d := some 137) 18 (by kernel_rfl) (by kernel_rfl) rfl ?_ ?_
       rotate_left 2
       · rintro ⟨s1, s2⟩
         conv in opOf _ _ => whnf
         go_simp
         first | done | (with_reducible rfl) | (constructor <;> with_reducible rfl)
       intro hS
       refine ⟨hS, ?_⟩
       try simp only [Act.put, List.setIfInBounds_toArray, List.set_cons_zero, List.set_cons_succ])
      (refine held_take (v := ?_) (d := some 138) 19 (by kernel_rfl) (by kernel_rfl) rfl ?_ ?_
       rotate_left
       · intro w hSw
         conv in opOf _ _ => whnf
         (try dsimp only at hSw)
         go_simp
         try (with_reducible rfl)
       try simp only [Act.put, List.setIfInBounds_toArray, List.set_cons_zero, List.set_cons_succ])
      (refine held_take (v := ?_) (d := some 141) 22 (by kernel_rfl) (by kernel_rfl) rfl ?_ ?_
       rotate_left
       · intro w hSw
         conv in opOf _ _ => whnf
         (try dsimp only at hSw)
         go_simp
         try (with_reducible rfl)
       try simp only [Act.put, List.setIfInBounds_toArray, List.set_cons_zero, List.set_cons_succ])
      refine held_many [10, 25] (by kernel_rfl) (by simp) (by intro i hi; simp only [List.mem_cons, List.not_mem_nil, or_false] at hi; rcases hi with rfl | rfl <;> kernel_rfl) (fun i hi => ?_)
      simp only [List.mem_cons, List.not_mem_nil, or_false] at hi
      rcases hi with rfl | rfl
      · skip
        (refine held_run (v := ?_) (w' := ?_) (d := some 129) 10 (by kernel_rfl) (by kernel_rfl) rfl ?_ ?_
         rotate_left 2
         · rintro ⟨s1, s2⟩
           conv in opOf _ _ => whnf
           go_simp
           first | done | (with_reducible rfl) | (constructor <;> with_reducible rfl)
         intro hS
         refine ⟨hS, ?_⟩
         try simp only [Act.put, List.setIfInBounds_toArray, List.set_cons_zero, List.set_cons_succ])
        (refine held_take (v := ?_) (d := some 130) 11 (by kernel_rfl) (by kernel_rfl) rfl ?_ ?_
         rotate_left
         · intro w hSw
           conv in opOf _ _ => whnf
           (try dsimp only at hSw)
           go_simp
           try (with_reducible rfl)
         try simp only [Act.put, List.setIfInBounds_toArray, List.set_cons_zero, List.set_cons_succ])
        (refine held_take (v := ?_) (d := some 133) 14 (by kernel_rfl) (by kernel_rfl) rfl ?_ ?_
         rotate_left
         · intro w hSw
           conv in opOf _ _ => whnf
           (try dsimp only at hSw)
           go_simp
           try (with_reducible rfl)
         try simp only [Act.put, List.setIfInBounds_toArray, List.set_cons_zero, List.set_cons_succ])
        (refine held_take (v := ?_) (d := some 134) 15 (by kernel_rfl) (by kernel_rfl) rfl ?_ ?_
         rotate_left
         · intro w hSw
           conv in opOf _ _ => whnf
           (try dsimp only at hSw)
           go_simp
           try (with_reducible rfl)
         try simp only [Act.put, List.setIfInBounds_toArray, List.set_cons_zero, List.set_cons_succ])
        refine held_one 25 (by kernel_rfl) (by kernel_rfl) ?_
        (refine held_run (v := ?_) (w' := ?_) (d := some 144) 25 (by kernel_rfl) (by kernel_rfl) rfl ?_ ?_
         rotate_left 2
         · rintro ⟨s1, s2⟩
           conv in opOf _ _ => whnf
           go_simp
           first | done | (with_reducible rfl) | (constructor <;> with_reducible rfl)
         intro hS
         refine ⟨hS, ?_⟩
         try simp only [Act.put, List.setIfInBounds_toArray, List.set_cons_zero, List.set_cons_succ])
        (refine held_take (v := ?_) (d := some 145) 26 (by kernel_rfl) (by kernel_rfl) rfl ?_ ?_
         rotate_left
         · intro w hSw
           conv in opOf _ _ => whnf
           (try dsimp only at hSw)
           go_simp
           try (with_reducible rfl)
         try simp only [Act.put, List.setIfInBounds_toArray, List.set_cons_zero, List.set_cons_succ])
        (refine held_take (v := ?_) (d := some 148) 29 (by kernel_rfl) (by kernel_rfl) rfl ?_ ?_
         rotate_left
         · intro w hSw
           conv in opOf _ _ => whnf
           (try dsimp only at hSw)
           go_simp
           try (with_reducible rfl)
         try simp only [Act.put, List.setIfInBounds_toArray, List.set_cons_zero, List.set_cons_succ])
        (refine held_take (v := ?_) (d := some 149) 30 (by kernel_rfl) (by kernel_rfl) rfl ?_ ?_
         rotate_left
         · intro w hSw
           conv in opOf _ _ => whnf
           (try dsimp only at hSw)
           go_simp
           try (with_reducible rfl)
         try simp only [Act.put, List.setIfInBounds_toArray, List.set_cons_zero, List.set_cons_succ])
        (refine held_take (v := ?_) (d := some 150) 31 (by kernel_rfl) (by kernel_rfl) rfl ?_ ?_
         rotate_left
         · intro w hSw
           conv in opOf _ _ => whnf
           (try dsimp only at hSw)
           go_simp
           try (with_reducible rfl)
         try simp only [Act.put, List.setIfInBounds_toArray, List.set_cons_zero, List.set_cons_succ])
        (refine held_take (v := ?_) (d := some 151) 32 (by kernel_rfl) (by kernel_rfl) rfl ?_ ?_
         rotate_left
         · intro w hSw
           conv in opOf _ _ => whnf
           (try dsimp only at hSw)
           go_simp
           try (with_reducible rfl)
         try simp only [Act.put, List.setIfInBounds_toArray, List.set_cons_zero, List.set_cons_succ])
        refine held_one 33 (by kernel_rfl) (by kernel_rfl) (held_mute (w' := ?_) (d := none) 33 (by kernel_rfl) (by kernel_rfl) rfl ?_ ?_)
        rotate_left 1
        · rintro ⟨⟨sz, s5⟩, s6⟩
          conv in opOf _ _ => whnf
          go_simp
          first | done | (with_reducible rfl)
        intro hS
        refine ⟨⟨⟨_, World.cell?_setCell_same' _ _ _ (by have hy' : W.cell? ⟨g, 8 + a, none⟩ = some (.complex .f64 p q) := pz; simp [hy'])⟩, by simpa using hS.2⟩, ?_⟩
        try simp only [Act.put, List.setIfInBounds_toArray, List.set_cons_zero, List.set_cons_succ]
        refine held_done (by kernel_rfl) (fun hS => hR.out _ _ ?_)
        exact hQ _ _ _ _ _ _ _ _ _ _ _ _ _ _ _ _ _ _ _ _ _ _ _ _ _ _ _ _ _ _ _ _ _
      · skip
        (refine held_run (v := ?_) (w' := ?_) (d := some 144) 25 (by kernel_rfl) (by kernel_rfl) rfl ?_ ?_
         rotate_left 2
         · rintro ⟨s1, s2⟩
           conv in opOf _ _ => whnf
           go_simp
           first | done | (with_reducible rfl) | (constructor <;> with_reducible rfl)
         intro hS
         refine ⟨hS, ?_⟩
         try simp only [Act.put, List.setIfInBounds_toArray, List.set_cons_zero, List.set_cons_succ])
        (refine held_take (v := ?_) (d := some 145) 26 (by kernel_rfl) (by kernel_rfl) rfl ?_ ?_
         rotate_left
         · intro w hSw
           conv in opOf _ _ => whnf
           (try dsimp only at hSw)
           go_simp
           try (with_reducible rfl)
         try simp only [Act.put, List.setIfInBounds_toArray, List.set_cons_zero, List.set_cons_succ])
        (refine held_take (v := ?_) (d := some 148) 29 (by kernel_rfl) (by kernel_rfl) rfl ?_ ?_
         rotate_left
         · intro w hSw
           conv in opOf _ _ => whnf
           (try dsimp only at hSw)
           go_simp
           try (with_reducible rfl)
         try simp only [Act.put, List.setIfInBounds_toArray, List.set_cons_zero, List.set_cons_succ])
        (refine held_take (v := ?_) (d := some 149) 30 (by kernel_rfl) (by kernel_rfl) rfl ?_ ?_
         rotate_left
         · intro w hSw
           conv in opOf _ _ => whnf
           (try dsimp only at hSw)
           go_simp
           try (with_reducible rfl)
         try simp only [Act.put, List.setIfInBounds_toArray, List.set_cons_zero, List.set_cons_succ])
        refine held_one 10 (by kernel_rfl) (by kernel_rfl) ?_
        (refine held_run (v := ?_) (w' := ?_) (d := some 129) 10 (by kernel_rfl) (by kernel_rfl) rfl ?_ ?_
         rotate_left 2
         · rintro ⟨s1, s2⟩
           conv in opOf _ _ => whnf
           go_simp
           first | done | (with_reducible rfl) | (constructor <;> with_reducible rfl)
         intro hS
         refine ⟨hS, ?_⟩
         try simp only [Act.put, List.setIfInBounds_toArray, List.set_cons_zero, List.set_cons_succ])
        (refine held_take (v := ?_) (d := some 130) 11 (by kernel_rfl) (by kernel_rfl) rfl ?_ ?_
         rotate_left
         · intro w hSw
           conv in opOf _ _ => whnf
           (try dsimp only at hSw)
           go_simp
           try (with_reducible rfl)
         try simp only [Act.put, List.setIfInBounds_toArray, List.set_cons_zero, List.set_cons_succ])
        (refine held_take (v := ?_) (d := some 133) 14 (by kernel_rfl) (by kernel_rfl) rfl ?_ ?_
         rotate_left
         · intro w hSw
           conv in opOf _ _ => whnf
           (try dsimp only at hSw)
           go_simp
           try (with_reducible rfl)
         try simp only [Act.put, List.setIfInBounds_toArray, List.set_cons_zero, List.set_cons_succ])
        (refine held_take (v := ?_) (d := some 134) 15 (by kernel_rfl) (by kernel_rfl) rfl ?_ ?_
         rotate_left
         · intro w hSw
           conv in opOf _ _ => whnf
           (try dsimp only at hSw)
           go_simp
           try (with_reducible rfl)
         try simp only [Act.put, List.setIfInBounds_toArray, List.set_cons_zero, List.set_cons_succ])
        (refine held_take (v := ?_) (d := some 150) 31 (by kernel_rfl) (by kernel_rfl) rfl ?_ ?_
         rotate_left
         · intro w hSw
           conv in opOf _ _ => whnf
           (try dsimp only at hSw)
           go_simp
           try (with_reducible rfl)
         try simp only [Act.put, List.setIfInBounds_toArray, List.set_cons_zero, List.set_cons_succ])
        (refine held_take (v := ?_) (d := some 151) 32 (by kernel_rfl) (by kernel_rfl) rfl ?_ ?_
         rotate_left
         · intro w hSw
           conv in opOf _ _ => whnf
           (try dsimp only at hSw)
           go_simp
           try (with_reducible rfl)
         try simp only [Act.put, List.setIfInBounds_toArray, List.set_cons_zero, List.set_cons_succ])
        refine held_one 33 (by kernel_rfl) (by kernel_rfl) (held_mute (w' := ?_) (d := none) 33 (by kernel_rfl) (by kernel_rfl) rfl ?_ ?_)
        rotate_left 1
        · rintro ⟨⟨sz, s5⟩, s6⟩
          conv in opOf _ _ => whnf
          go_simp
          first | done | (with_reducible rfl)
        intro hS
        refine ⟨⟨⟨_, World.cell?_setCell_same' _ _ _ (by have hy' : W.cell? ⟨g, 8 + a, none⟩ = some (.complex .f64 p q) := pz; simp [hy'])⟩, by simpa using hS.2⟩, ?_⟩
        try simp only [Act.put, List.setIfInBounds_toArray, List.set_cons_zero, List.set_cons_succ]
        refine held_done (by kernel_rfl) (fun hS => hR.out _ _ ?_)
        exact hQ _ _ _ _ _ _ _ _ _ _ _ _ _ _ _ _ _ _ _ _ _ _ _ _ _ _ _ _ _ _ _ _ _
    · skip
      (refine held_run (v := ?_) (w' := ?_) (d := some 144) 25 (by kernel_rfl) (by kernel_rfl) rfl ?_ ?_
       rotate_left 2
       · rintro ⟨s1, s2⟩
         conv in opOf _ _ => whnf
         go_simp
         first | done | (with_reducible rfl) | (constructor <;> with_reducible rfl)
       intro hS
       refine ⟨hS, ?_⟩
       try simp only [Act.put, List.setIfInBounds_toArray, List.set_cons_zero, List.set_cons_succ])
      (refine held_take (v := ?_) (d := some 145) 26 (by kernel_rfl) (by kernel_rfl) rfl ?_ ?_
       rotate_left
       · intro w hSw
         conv in opOf _ _ => whnf
         (try dsimp only at hSw)
         go_simp
         try (with_reducible rfl)
       try simp only [Act.put, List.setIfInBounds_toArray, List.set_cons_zero, List.set_cons_succ])
      (refine held_take (v := ?_) (d := some 148) 29 (by kernel_rfl) (by kernel_rfl) rfl ?_ ?_
       rotate_left
       · intro w hSw
         conv in opOf _ _ => whnf
         (try dsimp only at hSw)
         go_simp
         try (with_reducible rfl)
       try simp only [Act.put, List.setIfInBounds_toArray, List.set_cons_zero, List.set_cons_succ])
      refine held_many [10, 18] (by kernel_rfl) (by simp) (by intro i hi; simp only [List.mem_cons, List.not_mem_nil, or_false] at hi; rcases hi with rfl | rfl <;> kernel_rfl) (fun i hi => ?_)
      simp only [List.mem_cons, List.not_mem_nil, or_false] at hi
      rcases hi with rfl | rfl
      · skip
        (refine held_run (v := ?_) (w' := ?_) (d := some 129) 10 (by kernel_rfl) (by kernel_rfl) rfl ?_ ?_
         rotate_left 2
         · rintro ⟨s1, s2⟩
           conv in opOf _ _ => whnf
           go_simp
           first | done | (with_reducible rfl) | (constructor <;> with_reducible rfl)
         intro hS
         refine ⟨hS, ?_⟩
         try simp only [Act.put, List.setIfInBounds_toArray, List.set_cons_zero, List.set_cons_succ])
        (refine held_take (v := ?_) (d := some 130) 11 (by kernel_rfl) (by kernel_rfl) rfl ?_ ?_
         rotate_left
         · intro w hSw
           conv in opOf _ _ => whnf
           (try dsimp only at hSw)
           go_simp
           try (with_reducible rfl)
         try simp only [Act.put, List.setIfInBounds_toArray, List.set_cons_zero, List.set_cons_succ])
        (refine held_take (v := ?_) (d := some 133) 14 (by kernel_rfl) (by kernel_rfl) rfl ?_ ?_
         rotate_left
         · intro w hSw
           conv in opOf _ _ => whnf
           (try dsimp only at hSw)
           go_simp
           try (with_reducible rfl)
         try simp only [Act.put, List.setIfInBounds_toArray, List.set_cons_zero, List.set_cons_succ])
        (refine held_take (v := ?_) (d := some 134) 15 (by kernel_rfl) (by kernel_rfl) rfl ?_ ?_
         rotate_left
         · intro w hSw
           conv in opOf _ _ => whnf
           (try dsimp only at hSw)
           go_simp
           try (with_reducible rfl)
         try simp only [Act.put, List.setIfInBounds_toArray, List.set_cons_zero, List.set_cons_succ])
        refine held_one 18 (by kernel_rfl) (by kernel_rfl) ?_
        (refine held_run (v := ?_) (w' := ?_) (d := some 137) 18 (by kernel_rfl) (by kernel_rfl) rfl ?_ ?_
         rotate_left 2
         · rintro ⟨s1, s2⟩
           conv in opOf _ _ => whnf
           go_simp
           first | done | (with_reducible rfl) | (constructor <;> with_reducible rfl)
         intro hS
         refine ⟨hS, ?_⟩
         try simp only [Act.put, List.setIfInBounds_toArray, List.set_cons_zero, List.set_cons_succ])
        (refine held_take (v := ?_) (d := some 138) 19 (by kernel_rfl) (by kernel_rfl) rfl ?_ ?_
         rotate_left
         · intro w hSw
           conv in opOf _ _ => whnf
           (try dsimp only at hSw)
           go_simp
           try (with_reducible rfl)
         try simp only [Act.put, List.setIfInBounds_toArray, List.set_cons_zero, List.set_cons_succ])
        (refine held_take (v := ?_) (d := some 141) 22 (by kernel_rfl) (by kernel_rfl) rfl ?_ ?_
         rotate_left
         · intro w hSw
           conv in opOf _ _ => whnf
           (try dsimp only at hSw)
           go_simp
           try (with_reducible rfl)
         try simp only [Act.put, List.setIfInBounds_toArray, List.set_cons_zero, List.set_cons_succ])
        (refine held_take (v := ?_) (d := some 149) 30 (by kernel_rfl) (by kernel_rfl) rfl ?_ ?_
         rotate_left
         · intro w hSw
           conv in opOf _ _ => whnf
           (try dsimp only at hSw)
           go_simp
           try (with_reducible rfl)
         try simp only [Act.put, List.setIfInBounds_toArray, List.set_cons_zero, List.set_cons_succ])
        (refine held_take (v := ?_) (d := some 150) 31 (by kernel_rfl) (by kernel_rfl) rfl ?_ ?_
         rotate_left
         · intro w hSw
           conv in opOf _ _ => whnf
           (try dsimp only at hSw)
           go_simp
           try (with_reducible rfl)
         try simp only [Act.put, List.setIfInBounds_toArray, List.set_cons_zero, List.set_cons_succ])
        (refine held_take (v := ?_) (d := some 151) 32 (by kernel_rfl) (by kernel_rfl) rfl ?_ ?_
         rotate_left
         · intro w hSw
           conv in opOf _ _ => whnf
           (try dsimp only at hSw)
           go_simp
           try (with_reducible rfl)
         try simp only [Act.put, List.setIfInBounds_toArray, List.set_cons_zero, List.set_cons_succ])
        refine held_one 33 (by kernel_rfl) (by kernel_rfl) (held_mute (w' := ?_) (d := none) 33 (by kernel_rfl) (by kernel_rfl) rfl ?_ ?_)
        rotate_left 1
        · rintro ⟨⟨sz, s5⟩, s6⟩
          conv in opOf _ _ => whnf
          go_simp
          first | done | (with_reducible rfl)
        intro hS
        refine ⟨⟨⟨_, World.cell?_setCell_same' _ _ _ (by have hy' : W.cell? ⟨g, 8 + a, none⟩ = some (.complex .f64 p q) := pz; simp [hy'])⟩, by simpa using hS.2⟩, ?_⟩
        try simp only [Act.put, List.setIfInBounds_toArray, List.set_cons_zero, List.set_cons_succ]
        refine held_done (by kernel_rfl) (fun hS => hR.out _ _ ?_)
        exact hQ _ _ _ _ _ _ _ _ _ _ _ _ _ _ _ _ _ _ _ _ _ _ _ _ _ _ _ _ _ _ _ _ _
      · skip
        (refine held_run (v := ?_) (w' := ?_) (d := some 137) 18 (by kernel_rfl) (by kernel_rfl) rfl ?_ ?_
         rotate_left 2
         · rintro ⟨s1, s2⟩
           conv in opOf _ _ => whnf
           go_simp
           first | done | (with_reducible rfl) | (constructor <;> with_reducible rfl)
         intro hS
         refine ⟨hS, ?_⟩
         try simp only [Act.put, List.setIfInBounds_toArray, List.set_cons_zero, List.set_cons_succ])
        (refine held_take (v := ?_) (d := some 138) 19 (by kernel_rfl) (by kernel_rfl) rfl ?_ ?_
         rotate_left
         · intro w hSw
           conv in opOf _ _ => whnf
           (try dsimp only at hSw)
           go_simp
           try (with_reducible rfl)
         try simp only [Act.put, List.setIfInBounds_toArray, List.set_cons_zero, List.set_cons_succ])
        (refine held_take (v := ?_) (d := some 141) 22 (by kernel_rfl) (by kernel_rfl) rfl ?_ ?_
         rotate_left
         · intro w hSw
           conv in opOf _ _ => whnf
           (try dsimp only at hSw)
           go_simp
           try (with_reducible rfl)
         try simp only [Act.put, List.setIfInBounds_toArray, List.set_cons_zero, List.set_cons_succ])
        (refine held_take (v := ?_) (d := some 149) 30 (by kernel_rfl) (by kernel_rfl) rfl ?_ ?_
         rotate_left
         · intro w hSw
           conv in opOf _ _ => whnf
           (try dsimp only at hSw)
           go_simp
           try (with_reducible rfl)
         try simp only [Act.put, List.setIfInBounds_toArray, List.set_cons_zero, List.set_cons_succ])
        refine held_one 10 (by kernel_rfl) (by kernel_rfl) ?_
        (refine held_run (v := ?_) (w' := ?_) (d := some 129) 10 (by kernel_rfl) (by kernel_rfl) rfl ?_ ?_
         rotate_left 2
         · rintro ⟨s1, s2⟩
           conv in opOf _ _ => whnf
           go_simp
           first | done | (with_reducible rfl) | (constructor <;> with_reducible rfl)
         intro hS
         refine ⟨hS, ?_⟩
         try simp only [Act.put, List.setIfInBounds_toArray, List.set_cons_zero, List.set_cons_succ])
        (refine held_take (v := ?_) (d := some 130) 11 (by kernel_rfl) (by kernel_rfl) rfl ?_ ?_
         rotate_left
         · intro w hSw
           conv in opOf _ _ => whnf
           (try dsimp only at hSw)
           go_simp
           try (with_reducible rfl)
         try simp only [Act.put, List.setIfInBounds_toArray, List.set_cons_zero, List.set_cons_succ])
        (refine held_take (v := ?_) (d := some 133) 14 (by kernel_rfl) (by kernel_rfl) rfl ?_ ?_
         rotate_left
         · intro w hSw
           conv in opOf _ _ => whnf
           (try dsimp only at hSw)
           go_simp
           try (with_reducible rfl)
         try simp only [Act.put, List.setIfInBounds_toArray, List.set_cons_zero, List.set_cons_succ])
        (refine held_take (v := ?_) (d := some 134) 15 (by kernel_rfl) (by kernel_rfl) rfl ?_ ?_
         rotate_left
         · intro w hSw
           conv in opOf _ _ => whnf
           (try dsimp only at hSw)
           go_simp
           try (with_reducible rfl)
         try simp only [Act.put, List.setIfInBounds_toArray, List.set_cons_zero, List.set_cons_succ])
        (refine held_take (v := ?_) (d := some 150) 31 (by kernel_rfl) (by kernel_rfl) rfl ?_ ?_
         rotate_left
         · intro w hSw
           conv in opOf _ _ => whnf
           (try dsimp only at hSw)
           go_simp
           try (with_reducible rfl)
         try simp only [Act.put, List.setIfInBounds_toArray, List.set_cons_zero, List.set_cons_succ])
        (refine held_take (v := ?_) (d := some 151) 32 (by kernel_rfl) (by kernel_rfl) rfl ?_ ?_
         rotate_left
         · intro w hSw
           conv in opOf _ _ => whnf
           (try dsimp only at hSw)
           go_simp
           try (with_reducible rfl)
         try simp only [Act.put, List.setIfInBounds_toArray, List.set_cons_zero, List.set_cons_succ])
        refine held_one 33 (by kernel_rfl) (by kernel_rfl) (held_mute (w' := ?_) (d := none) 33 (by kernel_rfl) (by kernel_rfl) rfl ?_ ?_)
        rotate_left 1
        · rintro ⟨⟨sz, s5⟩, s6⟩
          conv in opOf _ _ => whnf
          go_simp
          first | done | (with_reducible rfl)
        intro hS
        refine ⟨⟨⟨_, World.cell?_setCell_same' _ _ _ (by have hy' : W.cell? ⟨g, 8 + a, none⟩ = some (.complex .f64 p q) := pz; simp [hy'])⟩, by simpa using hS.2⟩, ?_⟩
        try simp only [Act.put, List.setIfInBounds_toArray, List.set_cons_zero, List.set_cons_succ]
        refine held_done (by kernel_rfl) (fun hS => hR.out _ _ ?_)
        exact hQ _ _ _ _ _ _ _ _ _ _ _ _ _ _ _ _ _ _ _ _ _ _ _ _ _ _ _ _ _ _ _ _ _
  · skip
    (refine held_run (v := ?_) (w' := ?_) (d := some 129) 10 (by kernel_rfl) (by kernel_rfl) rfl ?_ ?_
     rotate_left 2
     · rintro ⟨s1, s2⟩
       conv in opOf _ _ => whnf
       go_simp
       first | done | (with_reducible rfl) | (constructor <;> with_reducible rfl)
     intro hS
     refine ⟨hS, ?_⟩
     try simp only [Act.put, List.setIfInBounds_toArray, List.set_cons_zero, List.set_cons_succ])
    (refine held_take (v := ?_) (d := some 130) 11 (by kernel_rfl) (by kernel_rfl) rfl ?_ ?_
     rotate_left
     · intro w hSw
       conv in opOf _ _ => whnf
       (try dsimp only at hSw)
       go_simp
       try (with_reducible rfl)
     try simp only [Act.put, List.setIfInBounds_toArray, List.set_cons_zero, List.set_cons_succ])
    (refine held_take (v := ?_) (d := some 133) 14 (by kernel_rfl) (by kernel_rfl) rfl ?_ ?_
     rotate_left
     · intro w hSw
       conv in opOf _ _ => whnf
       (try dsimp only at hSw)
       go_simp
       try (with_reducible rfl)
     try simp only [Act.put, List.setIfInBounds_toArray, List.set_cons_zero, List.set_cons_succ])
    refine held_many [3, 18, 25] (by kernel_rfl) (by simp) (by intro i hi; simp only [List.mem_cons, List.not_mem_nil, or_false] at hi; rcases hi with rfl | rfl | rfl <;> kernel_rfl) (fun i hi => ?_)
    simp only [List.mem_cons, List.not_mem_nil, or_false] at hi
    rcases hi with rfl | rfl | rfl
    · skip
      (refine held_run (v := ?_) (w' := ?_) (d := some 122) 3 (by kernel_rfl) (by kernel_rfl) rfl ?_ ?_
       rotate_left 2
       · rintro ⟨s1, s2⟩
         conv in opOf _ _ => whnf
         go_simp
         first | done | (with_reducible rfl) | (constructor <;> with_reducible rfl)
       intro hS
       refine ⟨hS, ?_⟩
       try simp only [Act.put, List.setIfInBounds_toArray, List.set_cons_zero, List.set_cons_succ])
      (refine held_take (v := ?_) (d := some 123) 4 (by kernel_rfl) (by kernel_rfl) rfl ?_ ?_
       rotate_left
       · intro w hSw
         conv in opOf _ _ => whnf
         (try dsimp only at hSw)
         go_simp
         try (with_reducible rfl)
       try simp only [Act.put, List.setIfInBounds_toArray, List.set_cons_zero, List.set_cons_succ])
      (refine held_take (v := ?_) (d := some 126) 7 (by kernel_rfl) (by kernel_rfl) rfl ?_ ?_
       rotate_left
       · intro w hSw
         conv in opOf _ _ => whnf
         (try dsimp only at hSw)
         go_simp
         try (with_reducible rfl)
       try simp only [Act.put, List.setIfInBounds_toArray, List.set_cons_zero, List.set_cons_succ])
      (refine held_take (v := ?_) (d := some 134) 15 (by kernel_rfl) (by kernel_rfl) rfl ?_ ?_
       rotate_left
       · intro w hSw
         conv in opOf _ _ => whnf
         (try dsimp only at hSw)
         go_simp
         try (with_reducible rfl)
       try simp only [Act.put, List.setIfInBounds_toArray, List.set_cons_zero, List.set_cons_succ])
      refine held_many [18, 25] (by kernel_rfl) (by simp) (by intro i hi; simp only [List.mem_cons, List.not_mem_nil, or_false] at hi; rcases hi with rfl | rfl <;> kernel_rfl) (fun i hi => ?_)
      simp only [List.mem_cons, List.not_mem_nil, or_false] at hi
      rcases hi with rfl | rfl
      · skip
        (refine held_run (v := ?_) (w' := ?_) (d := some 137) 18 (by kernel_rfl) (by kernel_rfl) rfl ?_ ?_
         rotate_left 2
         · rintro ⟨s1, s2⟩
           conv in opOf _ _ => whnf
           go_simp
           first | done | (with_reducible rfl) | (constructor <;> with_reducible rfl)
         intro hS
         refine ⟨hS, ?_⟩
         try simp only [Act.put, List.setIfInBounds_toArray, List.set_cons_zero, List.set_cons_succ])
        (refine held_take (v := ?_) (d := some 138) 19 (by kernel_rfl) (by kernel_rfl) rfl ?_ ?_
         rotate_left
         · intro w hSw
           conv in opOf _ _ => whnf
           (try dsimp only at hSw)
           go_simp
           try (with_reducible rfl)
         try simp only [Act.put, List.setIfInBounds_toArray, List.set_cons_zero, List.set_cons_succ])
        (refine held_take (v := ?_) (d := some 141) 22 (by kernel_rfl) (by kernel_rfl) rfl ?_ ?_
         rotate_left
         · intro w hSw
           conv in opOf _ _ => whnf
           (try dsimp only at hSw)
           go_simp
           try (with_reducible rfl)
         try simp only [Act.put, List.setIfInBounds_toArray, List.set_cons_zero, List.set_cons_succ])
        refine held_one 25 (by kernel_rfl) (by kernel_rfl) ?_
        (refine held_run (v := ?_) (w' := ?_) (d := some 144) 25 (by kernel_rfl) (by kernel_rfl) rfl ?_ ?_
         rotate_left 2
         · rintro ⟨s1, s2⟩
           conv in opOf _ _ => whnf
           go_simp
           first | done | (with_reducible rfl) | (constructor <;> with_reducible rfl)
         intro hS
         refine ⟨hS, ?_⟩
         try simp only [Act.put, List.setIfInBounds_toArray, List.set_cons_zero, List.set_cons_succ])
        (refine held_take (v := ?_) (d := some 145) 26 (by kernel_rfl) (by kernel_rfl) rfl ?_ ?_
         rotate_left
         · intro w hSw
           conv in opOf _ _ => whnf
           (try dsimp only at hSw)
           go_simp
           try (with_reducible rfl)
         try simp only [Act.put, List.setIfInBounds_toArray, List.set_cons_zero, List.set_cons_succ])
        (refine held_take (v := ?_) (d := some 148) 29 (by kernel_rfl) (by kernel_rfl) rfl ?_ ?_
         rotate_left
         · intro w hSw
           conv in opOf _ _ => whnf
           (try dsimp only at hSw)
           go_simp
           try (with_reducible rfl)
         try simp only [Act.put, List.setIfInBounds_toArray, List.set_cons_zero, List.set_cons_succ])
        (refine held_take (v := ?_) (d := some 149) 30 (by kernel_rfl) (by kernel_rfl) rfl ?_ ?_
         rotate_left
         · intro w hSw
           conv in opOf _ _ => whnf
           (try dsimp only at hSw)
           go_simp
           try (with_reducible rfl)
         try simp only [Act.put, List.setIfInBounds_toArray, List.set_cons_zero, List.set_cons_succ])
        (refine held_take (v := ?_) (d := some 150) 31 (by kernel_rfl) (by kernel_rfl) rfl ?_ ?_
         rotate_left
         · intro w hSw
           conv in opOf _ _ => whnf
           (try dsimp only at hSw)
           go_simp
           try (with_reducible rfl)
         try simp only [Act.put, List.setIfInBounds_toArray, List.set_cons_zero, List.set_cons_succ])
        (refine held_take (v := ?_) (d := some 151) 32 (by kernel_rfl) (by kernel_rfl) rfl ?_ ?_
         rotate_left
         · intro w hSw
           conv in opOf _ _ => whnf
           (try dsimp only at hSw)
           go_simp
           try (with_reducible rfl)
         try simp only [Act.put, List.setIfInBounds_toArray, List.set_cons_zero, List.set_cons_succ])
        refine held_one 33 (by kernel_rfl) (by kernel_rfl) (held_mute (w' := ?_) (d := none) 33 (by kernel_rfl) (by kernel_rfl) rfl ?_ ?_)
        rotate_left 1
        · rintro ⟨⟨sz, s5⟩, s6⟩
          conv in opOf _ _ => whnf
          go_simp
          first | done | (with_reducible rfl)
        intro hS
        refine ⟨⟨⟨_, World.cell?_setCell_same' _ _ _ (by have hy' : W.cell? ⟨g, 8 + a, none⟩ = some (.complex .f64 p q) := pz; simp [hy'])⟩, by simpa using hS.2⟩, ?_⟩
        try simp only [Act.put, List.setIfInBounds_toArray, List.set_cons_zero, List.set_cons_succ]
        refine held_done (by kernel_rfl) (fun hS => hR.out _ _ ?_)
        exact hQ _ _ _ _ _ _ _ _ _ _ _ _ _ _ _ _ _ _ _ _ _ _ _ _ _ _ _ _ _ _ _ _ _
      · skip
        (refine held_run (v := ?_) (w' := ?_) (d := some 144) 25 (by kernel_rfl) (by kernel_rfl) rfl ?_ ?_
         rotate_left 2
         · rintro ⟨s1, s2⟩
           conv in opOf _ _ => whnf
           go_simp
           first | done | (with_reducible rfl) | (constructor <;> with_reducible rfl)
         intro hS
         refine ⟨hS, ?_⟩
         try simp only [Act.put, List.setIfInBounds_toArray, List.set_cons_zero, List.set_cons_succ])
        (refine held_take (v := ?_) (d := some 145) 26 (by kernel_rfl) (by kernel_rfl) rfl ?_ ?_
         rotate_left
         · intro w hSw
           conv in opOf _ _ => whnf
           (try dsimp only at hSw)
           go_simp
           try (with_reducible rfl)
         try simp only [Act.put, List.setIfInBounds_toArray, List.set_cons_zero, List.set_cons_succ])
        (refine held_take (v := ?_) (d := some 148) 29 (by kernel_rfl) (by kernel_rfl) rfl ?_ ?_
         rotate_left
         · intro w hSw
           conv in opOf _ _ => whnf
           (try dsimp only at hSw)
           go_simp
           try (with_reducible rfl)
         try simp only [Act.put, List.setIfInBounds_toArray, List.set_cons_zero, List.set_cons_succ])
        refine held_one 18 (by kernel_rfl) (by kernel_rfl) ?_
        (refine held_run (v := ?_) (w' := ?_) (d := some 137) 18 (by kernel_rfl) (by kernel_rfl) rfl ?_ ?_
         rotate_left 2
         · rintro ⟨s1, s2⟩
           conv in opOf _ _ => whnf
           go_simp
           first | done | (with_reducible rfl) | (constructor <;> with_reducible rfl)
         intro hS
         refine ⟨hS, ?_⟩
         try simp only [Act.put, List.setIfInBounds_toArray, List.set_cons_zero, List.set_cons_succ])
        (refine held_take (v := ?_) (d := some 138) 19 (by kernel_rfl) (by kernel_rfl) rfl ?_ ?_
         rotate_left
         · intro w hSw
           conv in opOf _ _ => whnf
           (try dsimp only at hSw)
           go_simp
           try (with_reducible rfl)
         try simp only [Act.put, List.setIfInBounds_toArray, List.set_cons_zero, List.set_cons_succ])
        (refine held_take (v := ?_) (d := some 141) 22 (by kernel_rfl) (by kernel_rfl) rfl ?_ ?_
         rotate_left
         · intro w hSw
           conv in opOf _ _ => whnf
           (try dsimp only at hSw)
           go_simp
           try (with_reducible rfl)
         try simp only [Act.put, List.setIfInBounds_toArray, List.set_cons_zero, List.set_cons_succ])
        (refine held_take (v := ?_) (d := some 149) 30 (by kernel_rfl) (by kernel_rfl) rfl ?_ ?_
         rotate_left
         · intro w hSw
           conv in opOf _ _ => whnf
           (try dsimp only at hSw)
           go_simp
           try (with_reducible rfl)
         try simp only [Act.put, List.setIfInBounds_toArray, List.set_cons_zero, List.set_cons_succ])
        (refine held_take (v := ?_) (d := some 150) 31 (by kernel_rfl) (by kernel_rfl) rfl ?_ ?_
         rotate_left
         · intro w hSw
           conv in opOf _ _ => whnf
           (try dsimp only at hSw)
           go_simp
           try (with_reducible rfl)
         try simp only [Act.put, List.setIfInBounds_toArray, List.set_cons_zero, List.set_cons_succ])
        (refine held_take (v := ?_) (d := some 151) 32 (by kernel_rfl) (by kernel_rfl) rfl ?_ ?_
         rotate_left
         · intro w hSw
           conv in opOf _ _ => whnf
           (try dsimp only at hSw)
           go_simp
           try (with_reducible rfl)
         try simp only [Act.put, List.setIfInBounds_toArray, List.set_cons_zero, List.set_cons_succ])
        refine held_one 33 (by kernel_rfl) (by kernel_rfl) (held_mute (w' := ?_) (d := none) 33 (by kernel_rfl) (by kernel_rfl) rfl ?_ ?_)
        rotate_left 1
        · rintro ⟨⟨sz, s5⟩, s6⟩
          conv in opOf _ _ => whnf
          go_simp
          first | done | (with_reducible rfl)
        intro hS
        refine ⟨⟨⟨_, World.cell?_setCell_same' _ _ _ (by have hy' : W.cell? ⟨g, 8 + a, none⟩ = some (.complex .f64 p q) := pz; simp [hy'])⟩, by simpa using hS.2⟩, ?_⟩
        try simp only [Act.put, List.setIfInBounds_toArray, List.set_cons_zero, List.set_cons_succ]
        refine held_done (by kernel_rfl) (fun hS => hR.out _ _ ?_)
        exact hQ _ _ _ _ _ _ _ _ _ _ _ _ _ _ _ _ _ _ _ _ _ _ _ _ _ _ _ _ _ _ _ _ _
    · skip
      (refine held_run (v := ?_) (w' := ?_) (d := some 137) 18 (by kernel_rfl) (by kernel_rfl) rfl ?_ ?_
       rotate_left 2
       · rintro ⟨s1, s2⟩
         conv in opOf _ _ => whnf
         go_simp
         first | done | (with_reducible rfl) | (constructor <;> with_reducible rfl)
       intro hS
       refine ⟨hS, ?_⟩
       try simp only [Act.put, List.setIfInBounds_toArray, List.set_cons_zero, List.set_cons_succ])
      (refine held_take (v := ?_) (d := some 138) 19 (by kernel_rfl) (by kernel_rfl) rfl ?_ ?_
       rotate_left
       · intro w hSw
         conv in opOf _ _ => whnf
         (try dsimp only at hSw)
         go_simp
         try (with_reducible rfl)
       try simp only [Act.put, List.setIfInBounds_toArray, List.set_cons_zero, List.set_cons_succ])
      (refine held_take (v := ?_) (d := some 141) 22 (by kernel_rfl) (by kernel_rfl) rfl ?_ ?_
       rotate_left
       · intro w hSw
         conv in opOf _ _ => whnf
         (try dsimp only at hSw)
         go_simp
         try (with_reducible rfl)
       try simp only [Act.put, List.setIfInBounds_toArray, List.set_cons_zero, List.set_cons_succ])
      refine held_many [3, 25] (by kernel_rfl) (by simp) (by intro i hi; simp only [List.mem_cons, List.not_mem_nil, or_false] at hi; rcases hi with rfl | rfl <;> kernel_rfl) (fun i hi => ?_)
      simp only [List.mem_cons, List.not_mem_nil, or_false] at hi
      rcases hi with rfl | rfl
      · skip
        (refine held_run (v := ?_) (w' := ?_) (d := some 122) 3 (by kernel_rfl) (by kernel_rfl) rfl ?_ ?_
         rotate_left 2
         · rintro ⟨s1, s2⟩
           conv in opOf _ _ => whnf
           go_simp
           first | done | (with_reducible rfl) | (constructor <;> with_reducible rfl)
         intro hS
         refine ⟨hS, ?_⟩
         try simp only [Act.put, List.setIfInBounds_toArray, List.set_cons_zero, List.set_cons_succ])
        (refine held_take (v := ?_) (d := some 123) 4 (by kernel_rfl) (by kernel_rfl) rfl ?_ ?_
         rotate_left
         · intro w hSw
           conv in opOf _ _ => whnf
           (try dsimp only at hSw)
           go_simp
           try (with_reducible rfl)
         try simp only [Act.put, List.setIfInBounds_toArray, List.set_cons_zero, List.set_cons_succ])
        (refine held_take (v := ?_) (d := some 126) 7 (by kernel_rfl) (by kernel_rfl) rfl ?_ ?_
         rotate_left
         · intro w hSw
           conv in opOf _ _ => whnf
           (try dsimp only at hSw)
           go_simp
           try (with_reducible rfl)
         try simp only [Act.put, List.setIfInBounds_toArray, List.set_cons_zero, List.set_cons_succ])
        (refine held_take (v := ?_) (d := some 134) 15 (by kernel_rfl) (by kernel_rfl) rfl ?_ ?_
         rotate_left
         · intro w hSw
           conv in opOf _ _ => whnf
           (try dsimp only at hSw)
           go_simp
           try (with_reducible rfl)
         try simp only [Act.put, List.setIfInBounds_toArray, List.set_cons_zero, List.set_cons_succ])
        refine held_one 25 (by kernel_rfl) (by kernel_rfl) ?_
        (refine held_run (v := ?_) (w' := ?_) (d := some 144) 25 (by kernel_rfl) (by kernel_rfl) rfl ?_ ?_
         rotate_left 2
         · rintro ⟨s1, s2⟩
           conv in opOf _ _ => whnf
           go_simp
           first | done | (with_reducible rfl) | (constructor <;> with_reducible rfl)
         intro hS
         refine ⟨hS, ?_⟩
         try simp only [Act.put, List.setIfInBounds_toArray, List.set_cons_zero, List.set_cons_succ])
        (refine held_take (v := ?_) (d := some 145) 26 (by kernel_rfl) (by kernel_rfl) rfl ?_ ?_
         rotate_left
         · intro w hSw
           conv in opOf _ _ => whnf
           (try dsimp only at hSw)
           go_simp
           try (with_reducible rfl)
         try simp only [Act.put, List.setIfInBounds_toArray, List.set_cons_zero, List.set_cons_succ])
        (refine held_take (v := ?_) (d := some 148) 29 (by kernel_rfl) (by kernel_rfl) rfl ?_ ?_
         rotate_left
         · intro w hSw
           conv in opOf _ _ => whnf
           (try dsimp only at hSw)
           go_simp
           try (with_reducible rfl)
         try simp only [Act.put, List.setIfInBounds_toArray, List.set_cons_zero, List.set_cons_succ])
        (refine held_take (v := ?_) (d := some 149) 30 (by kernel_rfl) (by kernel_rfl) rfl ?_ ?_
         rotate_left
         · intro w hSw
           conv in opOf _ _ => whnf
           (try dsimp only at hSw)
           go_simp
           try (with_reducible rfl)
         try simp only [Act.put, List.setIfInBounds_toArray, List.set_cons_zero, List.set_cons_succ])
        (refine held_take (v := ?_) (d := some 150) 31 (by kernel_rfl) (by kernel_rfl) rfl ?_ ?_
         rotate_left
         · intro w hSw
           conv in opOf _ _ => whnf
           (try dsimp only at hSw)
           go_simp
           try (with_reducible rfl)
         try simp only [Act.put, List.setIfInBounds_toArray, List.set_cons_zero, List.set_cons_succ])
        (refine held_take (v := ?_) (d := some 151) 32 (by kernel_rfl) (by kernel_rfl) rfl ?_ ?_
         rotate_left
         · intro w hSw
           conv in opOf _ _ => whnf
           (try dsimp only at hSw)
           go_simp
           try (with_reducible rfl)
         try simp only [Act.put, List.setIfInBounds_toArray, List.set_cons_zero, List.set_cons_succ])
        refine held_one 33 (by kernel_rfl) (by kernel_rfl) (held_mute (w' := ?_) (d := none) 33 (by kernel_rfl) (by kernel_rfl) rfl ?_ ?_)
        rotate_left 1
        · rintro ⟨⟨sz, s5⟩, s6⟩
          conv in opOf _ _ => whnf
          go_simp
          first | done | (with_reducible rfl)
        intro hS
        refine ⟨⟨⟨_, World.cell?_setCell_same' _ _ _ (by have hy' : W.cell? ⟨g, 8 + a, none⟩ = some (.complex .f64 p q) := pz; simp [hy'])⟩, by simpa using hS.2⟩, ?_⟩
        try simp only [Act.put, List.setIfInBounds_toArray, List.set_cons_zero, List.set_cons_succ]
        refine held_done (by kernel_rfl) (fun hS => hR.out _ _ ?_)
        exact hQ _ _ _ _ _ _ _ _ _ _ _ _ _ _ _ _ _ _ _ _ _ _ _ _ _ _ _ _ _ _ _ _ _
      · skip
        (refine held_run (v := ?_) (w' := ?_) (d := some 144) 25 (by kernel_rfl) (by kernel_rfl) rfl ?_ ?_
         rotate_left 2
         · rintro ⟨s1, s2⟩
           conv in opOf _ _ => whnf
           go_simp
           first | done | (with_reducible rfl) | (constructor <;> with_reducible rfl)
         intro hS
         refine ⟨hS, ?_⟩
         try simp only [Act.put, List.setIfInBounds_toArray, List.set_cons_zero, List.set_cons_succ])
        (refine held_take (v := ?_) (d := some 145) 26 (by kernel_rfl) (by kernel_rfl) rfl ?_ ?_
         rotate_left
         · intro w hSw
           conv in opOf _ _ => whnf
           (try dsimp only at hSw)
           go_simp
           try (with_reducible rfl)
         try simp only [Act.put, List.setIfInBounds_toArray, List.set_cons_zero, List.set_cons_succ])
        (refine held_take (v := ?_) (d := some 148) 29 (by kernel_rfl) (by kernel_rfl) rfl ?_ ?_
         rotate_left
         · intro w hSw
           conv in opOf _ _ => whnf
           (try dsimp only at hSw)
           go_simp
           try (with_reducible rfl)
         try simp only [Act.put, List.setIfInBounds_toArray, List.set_cons_zero, List.set_cons_succ])
        (refine held_take (v := ?_) (d := some 149) 30 (by kernel_rfl) (by kernel_rfl) rfl ?_ ?_
         rotate_left
         · intro w hSw
           conv in opOf _ _ => whnf
           (try dsimp only at hSw)
           go_simp
           try (with_reducible rfl)
         try simp only [Act.put, List.setIfInBounds_toArray, List.set_cons_zero, List.set_cons_succ])
        refine held_one 3 (by kernel_rfl) (by kernel_rfl) ?_
        (refine held_run (v := ?_) (w' := ?_) (d := some 122) 3 (by kernel_rfl) (by kernel_rfl) rfl ?_ ?_
         rotate_left 2
         · rintro ⟨s1, s2⟩
           conv in opOf _ _ => whnf
           go_simp
           first | done | (with_reducible rfl) | (constructor <;> with_reducible rfl)
         intro hS
         refine ⟨hS, ?_⟩
         try simp only [Act.put, List.setIfInBounds_toArray, List.set_cons_zero, List.set_cons_succ])
        (refine held_take (v := ?_) (d := some 123) 4 (by kernel_rfl) (by kernel_rfl) rfl ?_ ?_
         rotate_left
         · intro w hSw
           conv in opOf _ _ => whnf
           (try dsimp only at hSw)
           go_simp
           try (with_reducible rfl)
         try simp only [Act.put, List.setIfInBounds_toArray, List.set_cons_zero, List.set_cons_succ])
        (refine held_take (v := ?_) (d := some 126) 7 (by kernel_rfl) (by kernel_rfl) rfl ?_ ?_
         rotate_left
         · intro w hSw
           conv in opOf _ _ => whnf
           (try dsimp only at hSw)
           go_simp
           try (with_reducible rfl)
         try simp only [Act.put, List.setIfInBounds_toArray, List.set_cons_zero, List.set_cons_succ])
        (refine held_take (v := ?_) (d := some 134) 15 (by kernel_rfl) (by kernel_rfl) rfl ?_ ?_
         rotate_left
         · intro w hSw
           conv in opOf _ _ => whnf
           (try dsimp only at hSw)
           go_simp
           try (with_reducible rfl)
         try simp only [Act.put, List.setIfInBounds_toArray, List.set_cons_zero, List.set_cons_succ])
        (refine held_take (v := ?_) (d := some 150) 31 (by kernel_rfl) (by kernel_rfl) rfl ?_ ?_
         rotate_left
         · intro w hSw
           conv in opOf _ _ => whnf
           (try dsimp only at hSw)
           go_simp
           try (with_reducible rfl)
         try simp only [Act.put, List.setIfInBounds_toArray, List.set_cons_zero, List.set_cons_succ])
        (refine held_take (v := ?_) (d := some 151) 32 (by kernel_rfl) (by kernel_rfl) rfl ?_ ?_
         rotate_left
         · intro w hSw
           conv in opOf _ _ => whnf
           (try dsimp only at hSw)
           go_simp
           try (with_reducible rfl)
         try simp only [Act.put, List.setIfInBounds_toArray, List.set_cons_zero, List.set_cons_succ])
        refine held_one 33 (by kernel_rfl) (by kernel_rfl) (held_mute (w' := ?_) (d := none) 33 (by kernel_rfl) (by kernel_rfl) rfl ?_ ?_)
        rotate_left 1
        · rintro ⟨⟨sz, s5⟩, s6⟩
          conv in opOf _ _ => whnf
          go_simp
          first | done | (with_reducible rfl)
        intro hS
        refine ⟨⟨⟨_, World.cell?_setCell_same' _ _ _ (by have hy' : W.cell? ⟨g, 8 + a, none⟩ = some (.complex .f64 p q) := pz; simp [hy'])⟩, by simpa using hS.2⟩, ?_⟩
        try simp only [Act.put, List.setIfInBounds_toArray, List.set_cons_zero, List.set_cons_succ]
        refine held_done (by kernel_rfl) (fun hS => hR.out _ _ ?_)
        exact hQ _ _ _ _ _ _ _ _ _ _ _ _ _ _ _ _ _ _ _ _ _ _ _ _ _ _ _ _ _ _ _ _ _
    · skip
      (refine held_run (v := ?_) (w' := ?_) (d := some 144) 25 (by kernel_rfl) (by kernel_rfl) rfl ?_ ?_
       rotate_left 2
       · rintro ⟨s1, s2⟩
         conv in opOf _ _ => whnf
         go_simp
         first | done | (with_reducible rfl) | (constructor <;> with_reducible rfl)
       intro hS
       refine ⟨hS, ?_⟩
       try simp only [Act.put, List.setIfInBounds_toArray, List.set_cons_zero, List.set_cons_succ])
      (refine held_take (v := ?_) (d := some 145) 26 (by kernel_rfl) (by kernel_rfl) rfl ?_ ?_
       rotate_left
       · intro w hSw
         conv in opOf _ _ => whnf
         (try dsimp only at hSw)
         go_simp
         try (with_reducible rfl)
       try simp only [Act.put, List.setIfInBounds_toArray, List.set_cons_zero, List.set_cons_succ])
      (refine held_take (v := ?_) (d := some 148) 29 (by kernel_rfl) (by kernel_rfl) rfl ?_ ?_
       rotate_left
       · intro w hSw
         conv in opOf _ _ => whnf
         (try dsimp only at hSw)
         go_simp
         try (with_reducible rfl)
       try simp only [Act.put, List.setIfInBounds_toArray, List.set_cons_zero, List.set_cons_succ])
      refine held_many [3, 18] (by kernel_rfl) (by simp) (by intro i hi; simp only [List.mem_cons, List.not_mem_nil, or_false] at hi; rcases hi with rfl | rfl <;> kernel_rfl) (fun i hi => ?_)
      simp only [List.mem_cons, List.not_mem_nil, or_false] at hi
      rcases hi with rfl | rfl
      · skip
        (refine held_run (v := ?_) (w' := ?_) (d := some 122) 3 (by kernel_rfl) (by kernel_rfl) rfl ?_ ?_
         rotate_left 2
         · rintro ⟨s1, s2⟩
           conv in opOf _ _ => whnf
           go_simp
           first | done | (with_reducible rfl) | (constructor <;> with_reducible rfl)
         intro hS
         refine ⟨hS, ?_⟩
         try simp only [Act.put, List.setIfInBounds_toArray, List.set_cons_zero, List.set_cons_succ])
        (refine held_take (v := ?_) (d := some 123) 4 (by kernel_rfl) (by kernel_rfl) rfl ?_ ?_
         rotate_left
         · intro w hSw
           conv in opOf _ _ => whnf
           (try dsimp only at hSw)
           go_simp
           try (with_reducible rfl)
         try simp only [Act.put, List.setIfInBounds_toArray, List.set_cons_zero, List.set_cons_succ])
        (refine held_take (v := ?_) (d := some 126) 7 (by kernel_rfl) (by kernel_rfl) rfl ?_ ?_
         rotate_left
         · intro w hSw
           conv in opOf _ _ => whnf
           (try dsimp only at hSw)
           go_simp
           try (with_reducible rfl)
         try simp only [Act.put, List.setIfInBounds_toArray, List.set_cons_zero, List.set_cons_succ])
        (refine held_take (v := ?_) (d := some 134) 15 (by kernel_rfl) (by kernel_rfl) rfl ?_ ?_
         rotate_left
         · intro w hSw
           conv in opOf _ _ => whnf
           (try dsimp only at hSw)
           go_simp
           try (with_reducible rfl)
         try simp only [Act.put, List.setIfInBounds_toArray, List.set_cons_zero, List.set_cons_succ])
        refine held_one 18 (by kernel_rfl) (by kernel_rfl) ?_
        (refine held_run (v := ?_) (w' := ?_) (d := some 137) 18 (by kernel_rfl) (by kernel_rfl) rfl ?_ ?_
         rotate_left 2
         · rintro ⟨s1, s2⟩
           conv in opOf _ _ => whnf
           go_simp
           first | done | (with_reducible rfl) | (constructor <;> with_reducible rfl)
         intro hS
         refine ⟨hS, ?_⟩
         try simp only [Act.put, List.setIfInBounds_toArray, List.set_cons_zero, List.set_cons_succ])
        (refine held_take (v := ?_) (d := some 138) 19 (by kernel_rfl) (by kernel_rfl) rfl ?_ ?_
         rotate_left
         · intro w hSw
           conv in opOf _ _ => whnf
           (try dsimp only at hSw)
           go_simp
           try (with_reducible rfl)
         try simp only [Act.put, List.setIfInBounds_toArray, List.set_cons_zero, List.set_cons_succ])
        (refine held_take (v := ?_) (d := some 141) 22 (by kernel_rfl) (by kernel_rfl) rfl ?_ ?_
         rotate_left
         · intro w hSw
           conv in opOf _ _ => whnf
           (try dsimp only at hSw)
           go_simp
           try (with_reducible rfl)
         try simp only [Act.put, List.setIfInBounds_toArray, List.set_cons_zero, List.set_cons_succ])
        (refine held_take (v := ?_) (d := some 149) 30 (by kernel_rfl) (by kernel_rfl) rfl ?_ ?_
         rotate_left
         · intro w hSw
           conv in opOf _ _ => whnf
           (try dsimp only at hSw)
           go_simp
           try (with_reducible rfl)
         try simp only [Act.put, List.setIfInBounds_toArray, List.set_cons_zero, List.set_cons_succ])
        (refine held_take (v := ?_) (d := some 150) 31 (by kernel_rfl) (by kernel_rfl) rfl ?_ ?_
         rotate_left
         · intro w hSw
           conv in opOf _ _ => whnf
           (try dsimp only at hSw)
           go_simp
           try (with_reducible rfl)
         try simp only [Act.put, List.setIfInBounds_toArray, List.set_cons_zero, List.set_cons_succ])
        (refine held_take (v := ?_) (d := some 151) 32 (by kernel_rfl) (by kernel_rfl) rfl ?_ ?_
         rotate_left
         · intro w hSw
           conv in opOf _ _ => whnf
           (try dsimp only at hSw)
           go_simp
           try (with_reducible rfl)
         try simp only [Act.put, List.setIfInBounds_toArray, List.set_cons_zero, List.set_cons_succ])
        refine held_one 33 (by kernel_rfl) (by kernel_rfl) (held_mute (w' := ?_) (d := none) 33 (by kernel_rfl) (by kernel_rfl) rfl ?_ ?_)
        rotate_left 1
        · rintro ⟨⟨sz, s5⟩, s6⟩
          conv in opOf _ _ => whnf
          go_simp
          first | done | (with_reducible rfl)
        intro hS
        refine ⟨⟨⟨_, World.cell?_setCell_same' _ _ _ (by have hy' : W.cell? ⟨g, 8 + a, none⟩ = some (.complex .f64 p q) := pz; simp [hy'])⟩, by simpa using hS.2⟩, ?_⟩
        try simp only [Act.put, List.setIfInBounds_toArray, List.set_cons_zero, List.set_cons_succ]
        refine held_done (by kernel_rfl) (fun hS => hR.out _ _ ?_)
        exact hQ _ _ _ _ _ _ _ _ _ _ _ _ _ _ _ _ _ _ _ _ _ _ _ _ _ _ _ _ _ _ _ _ _
      · skip
        (refine held_run (v := ?_) (w' := ?_) (d := some 137) 18 (by kernel_rfl) (by kernel_rfl) rfl ?_ ?_
         rotate_left 2
         · rintro ⟨s1, s2⟩
           conv in opOf _ _ => whnf
           go_simp
           first | done | (with_reducible rfl) | (constructor <;> with_reducible rfl)
         intro hS
         refine ⟨hS, ?_⟩
         try simp only [Act.put, List.setIfInBounds_toArray, List.set_cons_zero, List.set_cons_succ])
        (refine held_take (v := ?_) (d := some 138) 19 (by kernel_rfl) (by kernel_rfl) rfl ?_ ?_
         rotate_left
         · intro w hSw
           conv in opOf _ _ => whnf
           (try dsimp only at hSw)
           go_simp
           try (with_reducible rfl)
         try simp only [Act.put, List.setIfInBounds_toArray, List.set_cons_zero, List.set_cons_succ])
        (refine held_take (v := ?_) (d := some 141) 22 (by kernel_rfl) (by kernel_rfl) rfl ?_ ?_
         rotate_left
         · intro w hSw
           conv in opOf _ _ => whnf
           (try dsimp only at hSw)
           go_simp
           try (with_reducible rfl)
         try simp only [Act.put, List.setIfInBounds_toArray, List.set_cons_zero, List.set_cons_succ])
        (refine held_take (v := ?_) (d := some 149) 30 (by kernel_rfl) (by kernel_rfl) rfl ?_ ?_
         rotate_left
         · intro w hSw
           conv in opOf _ _ => whnf
           (try dsimp only at hSw)
           go_simp
           try (with_reducible rfl)
         try simp only [Act.put, List.setIfInBounds_toArray, List.set_cons_zero, List.set_cons_succ])
        refine held_one 3 (by kernel_rfl) (by kernel_rfl) ?_
        (refine held_run (v := ?_) (w' := ?_) (d := some 122) 3 (by kernel_rfl) (by kernel_rfl) rfl ?_ ?_
         rotate_left 2
         · rintro ⟨s1, s2⟩
           conv in opOf _ _ => whnf
           go_simp
           first | done | (with_reducible rfl) | (constructor <;> with_reducible rfl)
         intro hS
         refine ⟨hS, ?_⟩
         try simp only [Act.put, List.setIfInBounds_toArray, List.set_cons_zero, List.set_cons_succ])
        (refine held_take (v := ?_) (d := some 123) 4 (by kernel_rfl) (by kernel_rfl) rfl ?_ ?_
         rotate_left
         · intro w hSw
           conv in opOf _ _ => whnf
           (try dsimp only at hSw)
           go_simp
           try (with_reducible rfl)
         try simp only [Act.put, List.setIfInBounds_toArray, List.set_cons_zero, List.set_cons_succ])
        (refine held_take (v := ?_) (d := some 126) 7 (by kernel_rfl) (by kernel_rfl) rfl ?_ ?_
         rotate_left
         · intro w hSw
           conv in opOf _ _ => whnf
           (try dsimp only at hSw)
           go_simp
           try (with_reducible rfl)
         try simp only [Act.put, List.setIfInBounds_toArray, List.set_cons_zero, List.set_cons_succ])
        (refine held_take (v := ?_) (d := some 134) 15 (by kernel_rfl) (by kernel_rfl) rfl ?_ ?_
         rotate_left
         · intro w hSw
           conv in opOf _ _ => whnf
           (try dsimp only at hSw)
           go_simp
           try (with_reducible rfl)
         try simp only [Act.put, List.setIfInBounds_toArray, List.set_cons_zero, List.set_cons_succ])
        (refine held_take (v := ?_) (d := some 150) 31 (by kernel_rfl) (by kernel_rfl) rfl ?_ ?_
         rotate_left
         · intro w hSw
           conv in opOf _ _ => whnf
           (try dsimp only at hSw)
           go_simp
           try (with_reducible rfl)
         try simp only [Act.put, List.setIfInBounds_toArray, List.set_cons_zero, List.set_cons_succ])
        (refine held_take (v := ?_) (d := some 151) 32 (by kernel_rfl) (by kernel_rfl) rfl ?_ ?_
         rotate_left
         · intro w hSw
           conv in opOf _ _ => whnf
           (try dsimp only at hSw)
           go_simp
           try (with_reducible rfl)
         try simp only [Act.put, List.setIfInBounds_toArray, List.set_cons_zero, List.set_cons_succ])
        refine held_one 33 (by kernel_rfl) (by kernel_rfl) (held_mute (w' := ?_) (d := none) 33 (by kernel_rfl) (by kernel_rfl) rfl ?_ ?_)
        rotate_left 1
        · rintro ⟨⟨sz, s5⟩, s6⟩
          conv in opOf _ _ => whnf
          go_simp
          first | done | (with_reducible rfl)
        intro hS
        refine ⟨⟨⟨_, World.cell?_setCell_same' _ _ _ (by have hy' : W.cell? ⟨g, 8 + a, none⟩ = some (.complex .f64 p q) := pz; simp [hy'])⟩, by simpa using hS.2⟩, ?_⟩
        try simp only [Act.put, List.setIfInBounds_toArray, List.set_cons_zero, List.set_cons_succ]
        refine held_done (by kernel_rfl) (fun hS => hR.out _ _ ?_)
        exact hQ _ _ _ _ _ _ _ _ _ _ _ _ _ _ _ _ _ _ _ _ _ _ _ _ _ _ _ _ _ _ _ _ _
  · skip
    (refine held_run (v := ?_) (w' := ?_) (d := some 137) 18 (by kernel_rfl) (by kernel_rfl) rfl ?_ ?_
     rotate_left 2
     · rintro ⟨s1, s2⟩
       conv in opOf _ _ => whnf
       go_simp
       first | done | (with_reducible rfl) | (constructor <;> with_reducible rfl)
     intro hS
     refine ⟨hS, ?_⟩
     try simp only [Act.put, List.setIfInBounds_toArray, List.set_cons_zero, List.set_cons_succ])
    (refine held_take (v := ?_) (d := some 138) 19 (by kernel_rfl) (by kernel_rfl) rfl ?_ ?_
     rotate_left
     · intro w hSw
       conv in opOf _ _ => whnf
       (try dsimp only at hSw)
       go_simp
       try (with_reducible rfl)
     try simp only [Act.put, List.setIfInBounds_toArray, List.set_cons_zero, List.set_cons_succ])
    (refine held_take (v := ?_) (d := some 141) 22 (by kernel_rfl) (by kernel_rfl) rfl ?_ ?_
     rotate_left
     · intro w hSw
       conv in opOf _ _ => whnf
       (try dsimp only at hSw)
       go_simp
       try (with_reducible rfl)
     try simp only [Act.put, List.setIfInBounds_toArray, List.set_cons_zero, List.set_cons_succ])
    refine held_many [3, 10, 25] (by kernel_rfl) (by simp) (by intro i hi; simp only [List.mem_cons, List.not_mem_nil, or_false] at hi; rcases hi with rfl | rfl | rfl <;> kernel_rfl) (fun i hi => ?_)
    simp only [List.mem_cons, List.not_mem_nil, or_false] at hi
    rcases hi with rfl | rfl | rfl
    · skip
      (refine held_run (v := ?_) (w' := ?_) (d := some 122) 3 (by kernel_rfl) (by kernel_rfl) rfl ?_ ?_
       rotate_left 2
       · rintro ⟨s1, s2⟩
         conv in opOf _ _ => whnf
         go_simp
         first | done | (with_reducible rfl) | (constructor <;> with_reducible rfl)
       intro hS
       refine ⟨hS, ?_⟩
       try simp only [Act.put, List.setIfInBounds_toArray, List.set_cons_zero, List.set_cons_succ])
      (refine held_take (v := ?_) (d := some 123) 4 (by kernel_rfl) (by kernel_rfl) rfl ?_ ?_
       rotate_left
       · intro w hSw
         conv in opOf _ _ => whnf
         (try dsimp only at hSw)
         go_simp
         try (with_reducible rfl)
       try simp only [Act.put, List.setIfInBounds_toArray, List.set_cons_zero, List.set_cons_succ])
      (refine held_take (v := ?_) (d := some 126) 7 (by kernel_rfl) (by kernel_rfl) rfl ?_ ?_
       rotate_left
       · intro w hSw
         conv in opOf _ _ => whnf
         (try dsimp only at hSw)
         go_simp
         try (with_reducible rfl)
       try simp only [Act.put, List.setIfInBounds_toArray, List.set_cons_zero, List.set_cons_succ])
      refine held_many [10, 25] (by kernel_rfl) (by simp) (by intro i hi; simp only [List.mem_cons, List.not_mem_nil, or_false] at hi; rcases hi with rfl | rfl <;> kernel_rfl) (fun i hi => ?_)
      simp only [List.mem_cons, List.not_mem_nil, or_false] at hi
      rcases hi with rfl | rfl
      · skip
        (refine held_run (v := ?_) (w' := ?_) (d := some 129) 10 (by kernel_rfl) (by kernel_rfl) rfl ?_ ?_
         rotate_left 2
         · rintro ⟨s1, s2⟩
           conv in opOf _ _ => whnf
           go_simp
           first | done | (with_reducible rfl) | (constructor <;> with_reducible rfl)
         intro hS
         refine ⟨hS, ?_⟩
         try simp only [Act.put, List.setIfInBounds_toArray, List.set_cons_zero, List.set_cons_succ])
        (refine held_take (v := ?_) (d := some 130) 11 (by kernel_rfl) (by kernel_rfl) rfl ?_ ?_
         rotate_left
         · intro w hSw
           conv in opOf _ _ => whnf
           (try dsimp only at hSw)
           go_simp
           try (with_reducible rfl)
         try simp only [Act.put, List.setIfInBounds_toArray, List.set_cons_zero, List.set_cons_succ])
        (refine held_take (v := ?_) (d := some 133) 14 (by kernel_rfl) (by kernel_rfl) rfl ?_ ?_
         rotate_left
         · intro w hSw
           conv in opOf _ _ => whnf
           (try dsimp only at hSw)
           go_simp
           try (with_reducible rfl)
         try simp only [Act.put, List.setIfInBounds_toArray, List.set_cons_zero, List.set_cons_succ])
        (refine held_take (v := ?_) (d := some 134) 15 (by kernel_rfl) (by kernel_rfl) rfl ?_ ?_
         rotate_left
         · intro w hSw
           conv in opOf _ _ => whnf
           (try dsimp only at hSw)
           go_simp
           try (with_reducible rfl)
         try simp only [Act.put, List.setIfInBounds_toArray, List.set_cons_zero, List.set_cons_succ])
        refine held_one 25 (by kernel_rfl) (by kernel_rfl) ?_
        (refine held_run (v := ?_) (w' := ?_) (d := some 144) 25 (by kernel_rfl) (by kernel_rfl) rfl ?_ ?_
         rotate_left 2
         · rintro ⟨s1, s2⟩
           conv in opOf _ _ => whnf
           go_simp
           first | done | (with_reducible rfl) | (constructor <;> with_reducible rfl)
         intro hS
         refine ⟨hS, ?_⟩
         try simp only [Act.put, List.setIfInBounds_toArray, List.set_cons_zero, List.set_cons_succ])
        (refine held_take (v := ?_) (d := some 145) 26 (by kernel_rfl) (by kernel_rfl) rfl ?_ ?_
         rotate_left
         · intro w hSw
           conv in opOf _ _ => whnf
           (try dsimp only at hSw)
           go_simp
           try (with_reducible rfl)
         try simp only [Act.put, List.setIfInBounds_toArray, List.set_cons_zero, List.set_cons_succ])
        (refine held_take (v := ?_) (d := some 148) 29 (by kernel_rfl) (by kernel_rfl) rfl ?_ ?_
         rotate_left
         · intro w hSw
           conv in opOf _ _ => whnf
           (try dsimp only at hSw)
           go_simp
           try (with_reducible rfl)
         try simp only [Act.put, List.setIfInBounds_toArray, List.set_cons_zero, List.set_cons_succ])
        (refine held_take (v := ?_) (d := some 149) 30 (by kernel_rfl) (by kernel_rfl) rfl ?_ ?_
         rotate_left
         · intro w hSw
           conv in opOf _ _ => whnf
           (try dsimp only at hSw)
           go_simp
           try (with_reducible rfl)
         try simp only [Act.put, List.setIfInBounds_toArray, List.set_cons_zero, List.set_cons_succ])
        (refine held_take (v := ?_) (d := some 150) 31 (by kernel_rfl) (by kernel_rfl) rfl ?_ ?_
         rotate_left
         · intro w hSw
           conv in opOf _ _ => whnf
           (try dsimp only at hSw)
           go_simp
           try (with_reducible rfl)
         try simp only [Act.put, List.setIfInBounds_toArray, List.set_cons_zero, List.set_cons_succ])
        (refine held_take (v := ?_) (d := some 151) 32 (by kernel_rfl) (by kernel_rfl) rfl ?_ ?_
         rotate_left
         · intro w hSw
           conv in opOf _ _ => whnf
           (try dsimp only at hSw)
           go_simp
           try (with_reducible rfl)
         try simp only [Act.put, List.setIfInBounds_toArray, List.set_cons_zero, List.set_cons_succ])
        refine held_one 33 (by kernel_rfl) (by kernel_rfl) (held_mute (w' := ?_) (d := none) 33 (by kernel_rfl) (by kernel_rfl) rfl ?_ ?_)
        rotate_left 1
        · rintro ⟨⟨sz, s5⟩, s6⟩
          conv in opOf _ _ => whnf
          go_simp
          first | done | (with_reducible rfl)
        intro hS
        refine ⟨⟨⟨_, World.cell?_setCell_same' _ _ _ (by have hy' : W.cell? ⟨g, 8 + a, none⟩ = some (.complex .f64 p q) := pz; simp [hy'])⟩, by simpa using hS.2⟩, ?_⟩
        try simp only [Act.put, List.setIfInBounds_toArray, List.set_cons_zero, List.set_cons_succ]
        refine held_done (by kernel_rfl) (fun hS => hR.out _ _ ?_)
        exact hQ _ _ _ _ _ _ _ _ _ _ _ _ _ _ _ _ _ _ _ _ _ _ _ _ _ _ _ _ _ _ _ _ _
      · skip
        (refine held_run (v := ?_) (w' := ?_) (d := some 144) 25 (by kernel_rfl) (by kernel_rfl) rfl ?_ ?_
         rotate_left 2
         · rintro ⟨s1, s2⟩
           conv in opOf _ _ => whnf
           go_simp
           first | done | (with_reducible rfl) | (constructor <;> with_reducible rfl)
         intro hS
         refine ⟨hS, ?_⟩
         try simp only [Act.put, List.setIfInBounds_toArray, List.set_cons_zero, List.set_cons_succ])
        (refine held_take (v := ?_) (d := some 145) 26 (by kernel_rfl) (by kernel_rfl) rfl ?_ ?_
         rotate_left
         · intro w hSw
           conv in opOf _ _ => whnf
           (try dsimp only at hSw)
           go_simp
           try (with_reducible rfl)
         try simp only [Act.put, List.setIfInBounds_toArray, List.set_cons_zero, List.set_cons_succ])
        (refine held_take (v := ?_) (d := some 148) 29 (by kernel_rfl) (by kernel_rfl) rfl ?_ ?_
         rotate_left
         · intro w hSw
           conv in opOf _ _ => whnf
           (try dsimp only at hSw)
           go_simp
           try (with_reducible rfl)
         try simp only [Act.put, List.setIfInBounds_toArray, List.set_cons_zero, List.set_cons_succ])
        (refine held_take (v := ?_) (d := some 149) 30 (by kernel_rfl) (by kernel_rfl) rfl ?_ ?_
         rotate_left
         · intro w hSw
           conv in opOf _ _ => whnf
           (try dsimp only at hSw)
           go_simp
           try (with_reducible rfl)
         try simp only [Act.put, List.setIfInBounds_toArray, List.set_cons_zero, List.set_cons_succ])
        refine held_one 10 (by kernel_rfl) (by kernel_rfl) ?_
        (refine held_run (v := ?_) (w' := ?_) (d := some 129) 10 (by kernel_rfl) (by kernel_rfl) rfl ?_ ?_
         rotate_left 2
         · rintro ⟨s1, s2⟩
           conv in opOf _ _ => whnf
           go_simp
           first | done | (with_reducible rfl) | (constructor <;> with_reducible rfl)
         intro hS
         refine ⟨hS, ?_⟩
         try simp only [Act.put, List.setIfInBounds_toArray, List.set_cons_zero, List.set_cons_succ])
        (refine held_take (v := ?_) (d := some 130) 11 (by kernel_rfl) (by kernel_rfl) rfl ?_ ?_
         rotate_left
         · intro w hSw
           conv in opOf _ _ => whnf
           (try dsimp only at hSw)
           go_simp
           try (with_reducible rfl)
         try simp only [Act.put, List.setIfInBounds_toArray, List.set_cons_zero, List.set_cons_succ])
        (refine held_take (v := ?_) (d := some 133) 14 (by kernel_rfl) (by kernel_rfl) rfl ?_ ?_
         rotate_left
         · intro w hSw
           conv in opOf _ _ => whnf
           (try dsimp only at hSw)
           go_simp
           try (with_reducible rfl)
         try simp only [Act.put, List.setIfInBounds_toArray, List.set_cons_zero, List.set_cons_succ])
        (refine held_take (v := ?_) (d := some 134) 15 (by kernel_rfl) (by kernel_rfl) rfl ?_ ?_
         rotate_left
         · intro w hSw
           conv in opOf _ _ => whnf
           (try dsimp only at hSw)
           go_simp
           try (with_reducible rfl)
         try simp only [Act.put, List.setIfInBounds_toArray, List.set_cons_zero, List.set_cons_succ])
        (refine held_take (v := ?_) (d := some 150) 31 (by kernel_rfl) (by kernel_rfl) rfl ?_ ?_
         rotate_left
         · intro w hSw
           conv in opOf _ _ => whnf
           (try dsimp only at hSw)
           go_simp
           try (with_reducible rfl)
         try simp only [Act.put, List.setIfInBounds_toArray, List.set_cons_zero, List.set_cons_succ])
        (refine held_take (v := ?_) (d := some 151) 32 (by kernel_rfl) (by kernel_rfl) rfl ?_ ?_
         rotate_left
         · intro w hSw
           conv in opOf _ _ => whnf
           (try dsimp only at hSw)
           go_simp
           try (with_reducible rfl)
         try simp only [Act.put, List.setIfInBounds_toArray, List.set_cons_zero, List.set_cons_succ])
        refine held_one 33 (by kernel_rfl) (by kernel_rfl) (held_mute (w' := ?_) (d := none) 33 (by kernel_rfl) (by kernel_rfl) rfl ?_ ?_)
        rotate_left 1
        · rintro ⟨⟨sz, s5⟩, s6⟩
          conv in opOf _ _ => whnf
          go_simp
          first | done | (with_reducible rfl)
        intro hS
        refine ⟨⟨⟨_, World.cell?_setCell_same' _ _ _ (by have hy' : W.cell? ⟨g, 8 + a, none⟩ = some (.complex .f64 p q) := pz; simp [hy'])⟩, by simpa using hS.2⟩, ?_⟩
        try simp only [Act.put, List.setIfInBounds_toArray, List.set_cons_zero, List.set_cons_succ]
        refine held_done (by kernel_rfl) (fun hS => hR.out _ _ ?_)
        exact hQ _ _ _ _ _ _ _ _ _ _ _ _ _ _ _ _ _ _ _ _ _ _ _ _ _ _ _ _ _ _ _ _ _
    · skip
      (refine held_run (v := ?_) (w' := ?_) (d := some 129) 10 (by kernel_rfl) (by kernel_rfl) rfl ?_ ?_
       rotate_left 2
       · rintro ⟨s1, s2⟩
         conv in opOf _ _ => whnf
         go_simp
         first | done | (with_reducible rfl) | (constructor <;> with_reducible rfl)
       intro hS
       refine ⟨hS, ?_⟩
       try simp only [Act.put, List.setIfInBounds_toArray, List.set_cons_zero, List.set_cons_succ])
      (refine held_take (v := ?_) (d := some 130) 11 (by kernel_rfl) (by kernel_rfl) rfl ?_ ?_
       rotate_left
       · intro w hSw
         conv in opOf _ _ => whnf
         (try dsimp only at hSw)
         go_simp
         try (with_reducible rfl)
       try simp only [Act.put, List.setIfInBounds_toArray, List.set_cons_zero, List.set_cons_succ])
      (refine held_take (v := ?_) (d := some 133) 14 (by kernel_rfl) (by kernel_rfl) rfl ?_ ?_
       rotate_left
       · intro w hSw
         conv in opOf _ _ => whnf
         (try dsimp only at hSw)
         go_simp
         try (with_reducible rfl)
       try simp only [Act.put, List.setIfInBounds_toArray, List.set_cons_zero, List.set_cons_succ])
      refine held_many [3, 25] (by kernel_rfl) (by simp) (by intro i hi; simp only [List.mem_cons, List.not_mem_nil, or_false] at hi; rcases hi with rfl | rfl <;> kernel_rfl) (fun i hi => ?_)
      simp only [List.mem_cons, List.not_mem_nil, or_false] at hi
      rcases hi with rfl | rfl
      · skip
        (refine held_run (v := ?_) (w' := ?_) (d := some 122) 3 (by kernel_rfl) (by kernel_rfl) rfl ?_ ?_
         rotate_left 2
         · rintro ⟨s1, s2⟩
           conv in opOf _ _ => whnf
           go_simp
           first | done | (with_reducible rfl) | (constructor <;> with_reducible rfl)
         intro hS
         refine ⟨hS, ?_⟩
         try simp only [Act.put, List.setIfInBounds_toArray, List.set_cons_zero, List.set_cons_succ])
        (refine held_take (v := ?_) (d := some 123) 4 (by kernel_rfl) (by kernel_rfl) rfl ?_ ?_
         rotate_left
         · intro w hSw
           conv in opOf _ _ => whnf
           (try dsimp only at hSw)
           go_simp
           try (with_reducible rfl)
         try simp only [Act.put, List.setIfInBounds_toArray, List.set_cons_zero, List.set_cons_succ])
        (refine held_take (v := ?_) (d := some 126) 7 (by kernel_rfl) (by kernel_rfl) rfl ?_ ?_
         rotate_left
         · intro w hSw
           conv in opOf _ _ => whnf
           (try dsimp only at hSw)
           go_simp
           try (with_reducible rfl)
         try simp only [Act.put, List.setIfInBounds_toArray, List.set_cons_zero, List.set_cons_succ])
        (refine held_take (v := ?_) (d := some 134) 15 (by kernel_rfl) (by kernel_rfl) rfl ?_ ?_
         rotate_left
         · intro w hSw
           conv in opOf _ _ => whnf
           (try dsimp only at hSw)
           go_simp
           try (with_reducible rfl)
         try simp only [Act.put, List.setIfInBounds_toArray, List.set_cons_zero, List.set_cons_succ])
        refine held_one 25 (by kernel_rfl) (by kernel_rfl) ?_
        (refine held_run (v := ?_) (w' := ?_) (d := some 144) 25 (by kernel_rfl) (by kernel_rfl) rfl ?_ ?_
         rotate_left 2
         · rintro ⟨s1, s2⟩
           conv in opOf _ _ => whnf
           go_simp
           first | done | (with_reducible rfl) | (constructor <;> with_reducible rfl)
         intro hS
         refine ⟨hS, ?_⟩
         try simp only [Act.put, List.setIfInBounds_toArray, List.set_cons_zero, List.set_cons_succ])
        (refine held_take (v := ?_) (d := some 145) 26 (by kernel_rfl) (by kernel_rfl) rfl ?_ ?_
         rotate_left
         · intro w hSw
           conv in opOf _ _ => whnf
           (try dsimp only at hSw)
           go_simp
           try (with_reducible rfl)
         try simp only [Act.put, List.setIfInBounds_toArray, List.set_cons_zero, List.set_cons_succ])
        (refine held_take (v := ?_) (d := some 148) 29 (by kernel_rfl) (by kernel_rfl) rfl ?_ ?_
         rotate_left
         · intro w hSw
           conv in opOf _ _ => whnf
           (try dsimp only at hSw)
           go_simp
           try (with_reducible rfl)
         try simp only [Act.put, List.setIfInBounds_toArray, List.set_cons_zero, List.set_cons_succ])
        (refine held_take (v := ?_) (d := some 149) 30 (by kernel_rfl) (by kernel_rfl) rfl ?_ ?_
         rotate_left
         · intro w hSw
           conv in opOf _ _ => whnf
           (try dsimp only at hSw)
           go_simp
           try (with_reducible rfl)
         try simp only [Act.put, List.setIfInBounds_toArray, List.set_cons_zero, List.set_cons_succ])
        (refine held_take (v := ?_) (d := some 150) 31 (by kernel_rfl) (by kernel_rfl) rfl ?_ ?_
         rotate_left
         · intro w hSw
           conv in opOf _ _ => whnf
           (try dsimp only at hSw)
           go_simp
           try (with_reducible rfl)
         try simp only [Act.put, List.setIfInBounds_toArray, List.set_cons_zero, List.set_cons_succ])
        (refine held_take (v := ?_) (d := some 151) 32 (by kernel_rfl) (by kernel_rfl) rfl ?_ ?_
         rotate_left
         · intro w hSw
           conv in opOf _ _ => whnf
           (try dsimp only at hSw)
           go_simp
           try (with_reducible rfl)
         try simp only [Act.put, List.setIfInBounds_toArray, List.set_cons_zero, List.set_cons_succ])
        refine held_one 33 (by kernel_rfl) (by kernel_rfl) (held_mute (w' := ?_) (d := none) 33 (by kernel_rfl) (by kernel_rfl) rfl ?_ ?_)
        rotate_left 1
        · rintro ⟨⟨sz, s5⟩, s6⟩
          conv in opOf _ _ => whnf
          go_simp
          first | done | (with_reducible rfl)
        intro hS
        refine ⟨⟨⟨_, World.cell?_setCell_same' _ _ _ (by have hy' : W.cell? ⟨g, 8 + a, none⟩ = some (.complex .f64 p q) := pz; simp [hy'])⟩, by simpa using hS.2⟩, ?_⟩
        try simp only [Act.put, List.setIfInBounds_toArray, List.set_cons_zero, List.set_cons_succ]
        refine held_done (by kernel_rfl) (fun hS => hR.out _ _ ?_)
        exact hQ _ _ _ _ _ _ _ _ _ _ _ _ _ _ _ _ _ _ _ _ _ _ _ _ _ _ _ _ _ _ _ _ _
      · skip
        (refine held_run (v := ?_) (w' := ?_) (d := some 144) 25 (by kernel_rfl) (by kernel_rfl) rfl ?_ ?_
         rotate_left 2
         · rintro ⟨s1, s2⟩
           conv in opOf _ _ => whnf
           go_simp
           first | done | (with_reducible rfl) | (constructor <;> with_reducible rfl)
         intro hS
         refine ⟨hS, ?_⟩
         try simp only [Act.put, List.setIfInBounds_toArray, List.set_cons_zero, List.set_cons_succ])
        (refine held_take (v := ?_) (d := some 145) 26 (by kernel_rfl) (by kernel_rfl) rfl ?_ ?_
         rotate_left
         · intro w hSw
           conv in opOf _ _ => whnf
           (try dsimp only at hSw)
           go_simp
           try (with_reducible rfl)
         try simp only [Act.put, List.setIfInBounds_toArray, List.set_cons_zero, List.set_cons_succ])
        (refine held_take (v := ?_) (d := some 148) 29 (by kernel_rfl) (by kernel_rfl) rfl ?_ ?_
         rotate_left
         · intro w hSw
           conv in opOf _ _ => whnf
           (try dsimp only at hSw)
           go_simp
           try (with_reducible rfl)
         try simp only [Act.put, List.setIfInBounds_toArray, List.set_cons_zero, List.set_cons_succ])
        (refine held_take (v := ?_) (d := some 149) 30 (by kernel_rfl) (by kernel_rfl) rfl ?_ ?_
         rotate_left
         · intro w hSw
           conv in opOf _ _ => whnf
           (try dsimp only at hSw)
           go_simp
           try (with_reducible rfl)
         try simp only [Act.put, List.setIfInBounds_toArray, List.set_cons_zero, List.set_cons_succ])
        refine held_one 3 (by kernel_rfl) (by kernel_rfl) ?_
        (refine held_run (v := ?_) (w' := ?_) (d := some 122) 3 (by kernel_rfl) (by kernel_rfl) rfl ?_ ?_
         rotate_left 2
         · rintro ⟨s1, s2⟩
           conv in opOf _ _ => whnf
           go_simp
           first | done | (with_reducible rfl) | (constructor <;> with_reducible rfl)
         intro hS
         refine ⟨hS, ?_⟩
         try simp only [Act.put, List.setIfInBounds_toArray, List.set_cons_zero, List.set_cons_succ])
        (refine held_take (v := ?_) (d := some 123) 4 (by kernel_rfl) (by kernel_rfl) rfl ?_ ?_
         rotate_left
         · intro w hSw
           conv in opOf _ _ => whnf
           (try dsimp only at hSw)
           go_simp
           try (with_reducible rfl)
         try simp only [Act.put, List.setIfInBounds_toArray, List.set_cons_zero, List.set_cons_succ])
        (refine held_take (v := ?_) (d := some 126) 7 (by kernel_rfl) (by kernel_rfl) rfl ?_ ?_
         rotate_left
         · intro w hSw
           conv in opOf _ _ => whnf
           (try dsimp only at hSw)
           go_simp
           try (with_reducible rfl)
         try simp only [Act.put, List.setIfInBounds_toArray, List.set_cons_zero, List.set_cons_succ])
        (refine held_take (v := ?_) (d := some 134) 15 (by kernel_rfl) (by kernel_rfl) rfl ?_ ?_
         rotate_left
         · intro w hSw
           conv in opOf _ _ => whnf
           (try dsimp only at hSw)
           go_simp
           try (with_reducible rfl)
         try simp only [Act.put, List.setIfInBounds_toArray, List.set_cons_zero, List.set_cons_succ])
        (refine held_take (v := ?_) (d := some 150) 31 (by kernel_rfl) (by kernel_rfl) rfl ?_ ?_
         rotate_left
         · intro w hSw
           conv in opOf _ _ => whnf
           (try dsimp only at hSw)
           go_simp
           try (with_reducible rfl)
         try simp only [Act.put, List.setIfInBounds_toArray, List.set_cons_zero, List.set_cons_succ])
        (refine held_take (v := ?_) (d := some 151) 32 (by kernel_rfl) (by kernel_rfl) rfl ?_ ?_
         rotate_left
         · intro w hSw
           conv in opOf _ _ => whnf
           (try dsimp only at hSw)
           go_simp
           try (with_reducible rfl)
         try simp only [Act.put, List.setIfInBounds_toArray, List.set_cons_zero, List.set_cons_succ])
        refine held_one 33 (by kernel_rfl) (by kernel_rfl) (held_mute (w' := ?_) (d := none) 33 (by kernel_rfl) (by kernel_rfl) rfl ?_ ?_)
        rotate_left 1
        · rintro ⟨⟨sz, s5⟩, s6⟩
          conv in opOf _ _ => whnf
          go_simp
          first | done | (with_reducible rfl)
        intro hS
        refine ⟨⟨⟨_, World.cell?_setCell_same' _ _ _ (by have hy' : W.cell? ⟨g, 8 + a, none⟩ = some (.complex .f64 p q) := pz; simp [hy'])⟩, by simpa using hS.2⟩, ?_⟩
        try simp only [Act.put, List.setIfInBounds_toArray, List.set_cons_zero, List.set_cons_succ]
        refine held_done (by kernel_rfl) (fun hS => hR.out _ _ ?_)
        exact hQ _ _ _ _ _ _ _ _ _ _ _ _ _ _ _ _ _ _ _ _ _ _ _ _ _ _ _ _ _ _ _ _ _
    · skip
      (refine held_run (v := ?_) (w' := ?_) (d := some 144) 25 (by kernel_rfl) (by kernel_rfl) rfl ?_ ?_
       rotate_left 2
       · rintro ⟨s1, s2⟩
         conv in opOf _ _ => whnf
         go_simp
         first | done | (with_reducible rfl) | (constructor <;> with_reducible rfl)
       intro hS
       refine ⟨hS, ?_⟩
       try simp only [Act.put, List.setIfInBounds_toArray, List.set_cons_zero, List.set_cons_succ])
      (refine held_take (v := ?_) (d := some 145) 26 (by kernel_rfl) (by kernel_rfl) rfl ?_ ?_
       rotate_left
       · intro w hSw
         conv in opOf _ _ => whnf
         (try dsimp only at hSw)
         go_simp
         try (with_reducible rfl)
       try simp only [Act.put, List.setIfInBounds_toArray, List.set_cons_zero, List.set_cons_succ])
      (refine held_take (v := ?_) (d := some 148) 29 (by kernel_rfl) (by kernel_rfl) rfl ?_ ?_
       rotate_left
       · intro w hSw
         conv in opOf _ _ => whnf
         (try dsimp only at hSw)
         go_simp
         try (with_reducible rfl)
       try simp only [Act.put, List.setIfInBounds_toArray, List.set_cons_zero, List.set_cons_succ])
      (refine held_take (v := ?_) (d := some 149) 30 (by kernel_rfl) (by kernel_rfl) rfl ?_ ?_
       rotate_left
       · intro w hSw
         conv in opOf _ _ => whnf
         (try dsimp only at hSw)
         go_simp
         try (with_reducible rfl)
       try simp only [Act.put, List.setIfInBounds_toArray, List.set_cons_zero, List.set_cons_succ])
      refine held_many [3, 10] (by kernel_rfl) (by simp) (by intro i hi; simp only [List.mem_cons, List.not_mem_nil, or_false] at hi; rcases hi with rfl | rfl <;> kernel_rfl) (fun i hi => ?_)
      simp only [List.mem_cons, List.not_mem_nil, or_false] at hi
      rcases hi with rfl | rfl
      · skip
        (refine held_run (v := ?_) (w' := ?_) (d := some 122) 3 (by kernel_rfl) (by kernel_rfl) rfl ?_ ?_
         rotate_left 2
         · rintro ⟨s1, s2⟩
           conv in opOf _ _ => whnf
           go_simp
           first | done | (with_reducible rfl) | (constructor <;> with_reducible rfl)
         intro hS
         refine ⟨hS, ?_⟩
         try simp only [Act.put, List.setIfInBounds_toArray, List.set_cons_zero, List.set_cons_succ])
        (refine held_take (v := ?_) (d := some 123) 4 (by kernel_rfl) (by kernel_rfl) rfl ?_ ?_
         rotate_left
         · intro w hSw
           conv in opOf _ _ => whnf
           (try dsimp only at hSw)
           go_simp
           try (with_reducible rfl)
         try simp only [Act.put, List.setIfInBounds_toArray, List.set_cons_zero, List.set_cons_succ])
        (refine held_take (v := ?_) (d := some 126) 7 (by kernel_rfl) (by kernel_rfl) rfl ?_ ?_
         rotate_left
         · intro w hSw
           conv in opOf _ _ => whnf
           (try dsimp only at hSw)
           go_simp
           try (with_reducible rfl)
         try simp only [Act.put, List.setIfInBounds_toArray, List.set_cons_zero, List.set_cons_succ])
        refine held_one 10 (by kernel_rfl) (by kernel_rfl) ?_
        (refine held_run (v := ?_) (w' := ?_) (d := some 129) 10 (by kernel_rfl) (by kernel_rfl) rfl ?_ ?_
         rotate_left 2
         · rintro ⟨s1, s2⟩
           conv in opOf _ _ => whnf
           go_simp
           first | done | (with_reducible rfl) | (constructor <;> with_reducible rfl)
         intro hS
         refine ⟨hS, ?_⟩
         try simp only [Act.put, List.setIfInBounds_toArray, List.set_cons_zero, List.set_cons_succ])
        (refine held_take (v := ?_) (d := some 130) 11 (by kernel_rfl) (by kernel_rfl) rfl ?_ ?_
         rotate_left
         · intro w hSw
           conv in opOf _ _ => whnf
           (try dsimp only at hSw)
           go_simp
           try (with_reducible rfl)
         try simp only [Act.put, List.setIfInBounds_toArray, List.set_cons_zero, List.set_cons_succ])
        (refine held_take (v := ?_) (d := some 133) 14 (by kernel_rfl) (by kernel_rfl) rfl ?_ ?_
         rotate_left
         · intro w hSw
           conv in opOf _ _ => whnf
           (try dsimp only at hSw)
           go_simp
           try (with_reducible rfl)
         try simp only [Act.put, List.setIfInBounds_toArray, List.set_cons_zero, List.set_cons_succ])
        (refine held_take (v := ?_) (d := some 134) 15 (by kernel_rfl) (by kernel_rfl) rfl ?_ ?_
         rotate_left
         · intro w hSw
           conv in opOf _ _ => whnf
           (try dsimp only at hSw)
           go_simp
           try (with_reducible rfl)
         try simp only [Act.put, List.setIfInBounds_toArray, List.set_cons_zero, List.set_cons_succ])
        (refine held_take (v := ?_) (d := some 150) 31 (by kernel_rfl) (by kernel_rfl) rfl ?_ ?_
         rotate_left
         · intro w hSw
           conv in opOf _ _ => whnf
           (try dsimp only at hSw)
           go_simp
           try (with_reducible rfl)
         try simp only [Act.put, List.setIfInBounds_toArray, List.set_cons_zero, List.set_cons_succ])
        (refine held_take (v := ?_) (d := some 151) 32 (by kernel_rfl) (by kernel_rfl) rfl ?_ ?_
         rotate_left
         · intro w hSw
           conv in opOf _ _ => whnf
           (try dsimp only at hSw)
           go_simp
           try (with_reducible rfl)
         try simp only [Act.put, List.setIfInBounds_toArray, List.set_cons_zero, List.set_cons_succ])
        refine held_one 33 (by kernel_rfl) (by kernel_rfl) (held_mute (w' := ?_) (d := none) 33 (by kernel_rfl) (by kernel_rfl) rfl ?_ ?_)
        rotate_left 1
        · rintro ⟨⟨sz, s5⟩, s6⟩
          conv in opOf _ _ => whnf
          go_simp
          first | done | (with_reducible rfl)
        intro hS
        refine ⟨⟨⟨_, World.cell?_setCell_same' _ _ _ (by have hy' : W.cell? ⟨g, 8 + a, none⟩ = some (.complex .f64 p q) := pz; simp [hy'])⟩, by simpa using hS.2⟩, ?_⟩
        try simp only [Act.put, List.setIfInBounds_toArray, List.set_cons_zero, List.set_cons_succ]
        refine held_done (by kernel_rfl) (fun hS => hR.out _ _ ?_)
        exact hQ _ _ _ _ _ _ _ _ _ _ _ _ _ _ _ _ _ _ _ _ _ _ _ _ _ _ _ _ _ _ _ _ _
      · skip
        (refine held_run (v := ?_) (w' := ?_) (d := some 129) 10 (by kernel_rfl) (by kernel_rfl) rfl ?_ ?_
         rotate_left 2
         · rintro ⟨s1, s2⟩
           conv in opOf _ _ => whnf
           go_simp
           first | done | (with_reducible rfl) | (constructor <;> with_reducible rfl)
         intro hS
         refine ⟨hS, ?_⟩
         try simp only [Act.put, List.setIfInBounds_toArray, List.set_cons_zero, List.set_cons_succ])
        (refine held_take (v := ?_) (d := some 130) 11 (by kernel_rfl) (by kernel_rfl) rfl ?_ ?_
         rotate_left
         · intro w hSw
           conv in opOf _ _ => whnf
           (try dsimp only at hSw)
           go_simp
           try (with_reducible rfl)
         try simp only [Act.put, List.setIfInBounds_toArray, List.set_cons_zero, List.set_cons_succ])
        (refine held_take (v := ?_) (d := some 133) 14 (by kernel_rfl) (by kernel_rfl) rfl ?_ ?_
         rotate_left
         · intro w hSw
           conv in opOf _ _ => whnf
           (try dsimp only at hSw)
           go_simp
           try (with_reducible rfl)
         try simp only [Act.put, List.setIfInBounds_toArray, List.set_cons_zero, List.set_cons_succ])
        refine held_one 3 (by kernel_rfl) (by kernel_rfl) ?_
        (refine held_run (v := ?_) (w' := ?_) (d := some 122) 3 (by kernel_rfl) (by kernel_rfl) rfl ?_ ?_
         rotate_left 2
         · rintro ⟨s1, s2⟩
           conv in opOf _ _ => whnf
           go_simp
           first | done | (with_reducible rfl) | (constructor <;> with_reducible rfl)
         intro hS
         refine ⟨hS, ?_⟩
         try simp only [Act.put, List.setIfInBounds_toArray, List.set_cons_zero, List.set_cons_succ])
        (refine held_take (v := ?_) (d := some 123) 4 (by kernel_rfl) (by kernel_rfl) rfl ?_ ?_
         rotate_left
         · intro w hSw
           conv in opOf _ _ => whnf
           (try dsimp only at hSw)
           go_simp
           try (with_reducible rfl)
         try simp only [Act.put, List.setIfInBounds_toArray, List.set_cons_zero, List.set_cons_succ])
        (refine held_take (v := ?_) (d := some 126) 7 (by kernel_rfl) (by kernel_rfl) rfl ?_ ?_
         rotate_left
         · intro w hSw
           conv in opOf _ _ => whnf
           (try dsimp only at hSw)
           go_simp
           try (with_reducible rfl)
         try simp only [Act.put, List.setIfInBounds_toArray, List.set_cons_zero, List.set_cons_succ])
        (refine held_take (v := ?_) (d := some 134) 15 (by kernel_rfl) (by kernel_rfl) rfl ?_ ?_
         rotate_left
         · intro w hSw
           conv in opOf _ _ => whnf
           (try dsimp only at hSw)
           go_simp
           try (with_reducible rfl)
         try simp only [Act.put, List.setIfInBounds_toArray, List.set_cons_zero, List.set_cons_succ])
        (refine held_take (v := ?_) (d := some 150) 31 (by kernel_rfl) (by kernel_rfl) rfl ?_ ?_
         rotate_left
         · intro w hSw
           conv in opOf _ _ => whnf
           (try dsimp only at hSw)
           go_simp
           try (with_reducible rfl)
         try simp only [Act.put, List.setIfInBounds_toArray, List.set_cons_zero, List.set_cons_succ])
        (refine held_take (v := ?_) (d := some 151) 32 (by kernel_rfl) (by kernel_rfl) rfl ?_ ?_
         rotate_left
         · intro w hSw
           conv in opOf _ _ => whnf
           (try dsimp only at hSw)
           go_simp
           try (with_reducible rfl)
         try simp only [Act.put, List.setIfInBounds_toArray, List.set_cons_zero, List.set_cons_succ])
        refine held_one 33 (by kernel_rfl) (by kernel_rfl) (held_mute (w' := ?_) (d := none) 33 (by kernel_rfl) (by kernel_rfl) rfl ?_ ?_)
        rotate_left 1
        · rintro ⟨⟨sz, s5⟩, s6⟩
          conv in opOf _ _ => whnf
          go_simp
          first | done | (with_reducible rfl)
        intro hS
        refine ⟨⟨⟨_, World.cell?_setCell_same' _ _ _ (by have hy' : W.cell? ⟨g, 8 + a, none⟩ = some (.complex .f64 p q) := pz; simp [hy'])⟩, by simpa using hS.2⟩, ?_⟩
        try simp only [Act.put, List.setIfInBounds_toArray, List.set_cons_zero, List.set_cons_succ]
        refine held_done (by kernel_rfl) (fun hS => hR.out _ _ ?_)
        exact hQ _ _ _ _ _ _ _ _ _ _ _ _ _ _ _ _ _ _ _ _ _ _ _ _ _ _ _ _ _ _ _ _ _
  · skip
    (refine held_run (v := ?_) (w' := ?_) (d := some 144) 25 (by kernel_rfl) (by kernel_rfl) rfl ?_ ?_
     rotate_left 2
     · rintro ⟨s1, s2⟩
       conv in opOf _ _ => whnf
       go_simp
       first | done | (with_reducible rfl) | (constructor <;> with_reducible rfl)
     intro hS
     refine ⟨hS, ?_⟩
     try simp only [Act.put, List.setIfInBounds_toArray, List.set_cons_zero, List.set_cons_succ])
    (refine held_take (v := ?_) (d := some 145) 26 (by kernel_rfl) (by kernel_rfl) rfl ?_ ?_
     rotate_left
     · intro w hSw
       conv in opOf _ _ => whnf
       (try dsimp only at hSw)
       go_simp
       try (with_reducible rfl)
     try simp only [Act.put, List.setIfInBounds_toArray, List.set_cons_zero, List.set_cons_succ])
    (refine held_take (v := ?_) (d := some 148) 29 (by kernel_rfl) (by kernel_rfl) rfl ?_ ?_
     rotate_left
     · intro w hSw
       conv in opOf _ _ => whnf
       (try dsimp only at hSw)
       go_simp
       try (with_reducible rfl)
     try simp only [Act.put, List.setIfInBounds_toArray, List.set_cons_zero, List.set_cons_succ])
    refine held_many [3, 10, 18] (by kernel_rfl) (by simp) (by intro i hi; simp only [List.mem_cons, List.not_mem_nil, or_false] at hi; rcases hi with rfl | rfl | rfl <;> kernel_rfl) (fun i hi => ?_)
    simp only [List.mem_cons, List.not_mem_nil, or_false] at hi
    rcases hi with rfl | rfl | rfl
    · skip
      (refine held_run (v := ?_) (w' := ?_) (d := some 122) 3 (by kernel_rfl) (by kernel_rfl) rfl ?_ ?_
       rotate_left 2
       · rintro ⟨s1, s2⟩
         conv in opOf _ _ => whnf
         go_simp
         first | done | (with_reducible rfl) | (constructor <;> with_reducible rfl)
       intro hS
       refine ⟨hS, ?_⟩
       try simp only [Act.put, List.setIfInBounds_toArray, List.set_cons_zero, List.set_cons_succ])
      (refine held_take (v := ?_) (d := some 123) 4 (by kernel_rfl) (by kernel_rfl) rfl ?_ ?_
       rotate_left
       · intro w hSw
         conv in opOf _ _ => whnf
         (try dsimp only at hSw)
         go_simp
         try (with_reducible rfl)
       try simp only [Act.put, List.setIfInBounds_toArray, List.set_cons_zero, List.set_cons_succ])
      (refine held_take (v := ?_) (d := some 126) 7 (by kernel_rfl) (by kernel_rfl) rfl ?_ ?_
       rotate_left
       · intro w hSw
         conv in opOf _ _ => whnf
         (try dsimp only at hSw)
         go_simp
         try (with_reducible rfl)
       try simp only [Act.put, List.setIfInBounds_toArray, List.set_cons_zero, List.set_cons_succ])
      refine held_many [10, 18] (by kernel_rfl) (by simp) (by intro i hi; simp only [List.mem_cons, List.not_mem_nil, or_false] at hi; rcases hi with rfl | rfl <;> kernel_rfl) (fun i hi => ?_)
      simp only [List.mem_cons, List.not_mem_nil, or_false] at hi
      rcases hi with rfl | rfl
      · skip
        (refine held_run (v := ?_) (w' := ?_) (d := some 129) 10 (by kernel_rfl) (by kernel_rfl) rfl ?_ ?_
         rotate_left 2
         · rintro ⟨s1, s2⟩
           conv in opOf _ _ => whnf
           go_simp
           first | done | (with_reducible rfl) | (constructor <;> with_reducible rfl)
         intro hS
         refine ⟨hS, ?_⟩
         try simp only [Act.put, List.setIfInBounds_toArray, List.set_cons_zero, List.set_cons_succ])
        (refine held_take (v := ?_) (d := some 130) 11 (by kernel_rfl) (by kernel_rfl) rfl ?_ ?_
         rotate_left
         · intro w hSw
           conv in opOf _ _ => whnf
           (try dsimp only at hSw)
           go_simp
           try (with_reducible rfl)
         try simp only [Act.put, List.setIfInBounds_toArray, List.set_cons_zero, List.set_cons_succ])
        (refine held_take (v := ?_) (d := some 133) 14 (by kernel_rfl) (by kernel_rfl) rfl ?_ ?_
         rotate_left
         · intro w hSw
           conv in opOf _ _ => whnf
           (try dsimp only at hSw)
           go_simp
           try (with_reducible rfl)
         try simp only [Act.put, List.setIfInBounds_toArray, List.set_cons_zero, List.set_cons_succ])
        (refine held_take (v := ?_) (d := some 134) 15 (by kernel_rfl) (by kernel_rfl) rfl ?_ ?_
         rotate_left
         · intro w hSw
           conv in opOf _ _ => whnf
           (try dsimp only at hSw)
           go_simp
           try (with_reducible rfl)
         try simp only [Act.put, List.setIfInBounds_toArray, List.set_cons_zero, List.set_cons_succ])
        refine held_one 18 (by kernel_rfl) (by kernel_rfl) ?_
        (refine held_run (v := ?_) (w' := ?_) (d := some 137) 18 (by kernel_rfl) (by kernel_rfl) rfl ?_ ?_
         rotate_left 2
         · rintro ⟨s1, s2⟩
           conv in opOf _ _ => whnf
           go_simp
           first | done | (with_reducible rfl) | (constructor <;> with_reducible rfl)
         intro hS
         refine ⟨hS, ?_⟩
         try simp only [Act.put, List.setIfInBounds_toArray, List.set_cons_zero, List.set_cons_succ])
        (refine held_take (v := ?_) (d := some 138) 19 (by kernel_rfl) (by kernel_rfl) rfl ?_ ?_
         rotate_left
         · intro w hSw
           conv in opOf _ _ => whnf
           (try dsimp only at hSw)
           go_simp
           try (with_reducible rfl)
         try simp only [Act.put, List.setIfInBounds_toArray, List.set_cons_zero, List.set_cons_succ])
        (refine held_take (v := ?_) (d := some 141) 22 (by kernel_rfl) (by kernel_rfl) rfl ?_ ?_
         rotate_left
         · intro w hSw
           conv in opOf _ _ => whnf
           (try dsimp only at hSw)
           go_simp
           try (with_reducible rfl)
         try simp only [Act.put, List.setIfInBounds_toArray, List.set_cons_zero, List.set_cons_succ])
        (refine held_take (v := ?_) (d := some 149) 30 (by kernel_rfl) (by kernel_rfl) rfl ?_ ?_
         rotate_left
         · intro w hSw
           conv in opOf _ _ => whnf
           (try dsimp only at hSw)
           go_simp
           try (with_reducible rfl)
         try simp only [Act.put, List.setIfInBounds_toArray, List.set_cons_zero, List.set_cons_succ])
        (refine held_take (v := ?_) (d := some 150) 31 (by kernel_rfl) (by kernel_rfl) rfl ?_ ?_
         rotate_left
         · intro w hSw
           conv in opOf _ _ => whnf
           (try dsimp only at hSw)
           go_simp
           try (with_reducible rfl)
         try simp only [Act.put, List.setIfInBounds_toArray, List.set_cons_zero, List.set_cons_succ])
        (refine held_take (v := ?_) (d := some 151) 32 (by kernel_rfl) (by kernel_rfl) rfl ?_ ?_
         rotate_left
         · intro w hSw
           conv in opOf _ _ => whnf
           (try dsimp only at hSw)
           go_simp
           try (with_reducible rfl)
         try simp only [Act.put, List.setIfInBounds_toArray, List.set_cons_zero, List.set_cons_succ])
        refine held_one 33 (by kernel_rfl) (by kernel_rfl) (held_mute (w' := ?_) (d := none) 33 (by kernel_rfl) (by kernel_rfl) rfl ?_ ?_)
        rotate_left 1
        · rintro ⟨⟨sz, s5⟩, s6⟩
          conv in opOf _ _ => whnf
          go_simp
          first | done | (with_reducible rfl)
        intro hS
        refine ⟨⟨⟨_, World.cell?_setCell_same' _ _ _ (by have hy' : W.cell? ⟨g, 8 + a, none⟩ = some (.complex .f64 p q) := pz; simp [hy'])⟩, by simpa using hS.2⟩, ?_⟩
        try simp only [Act.put, List.setIfInBounds_toArray, List.set_cons_zero, List.set_cons_succ]
        refine held_done (by kernel_rfl) (fun hS => hR.out _ _ ?_)
        exact hQ _ _ _ _ _ _ _ _ _ _ _ _ _ _ _ _ _ _ _ _ _ _ _ _ _ _ _ _ _ _ _ _ _
      · skip
        (refine held_run (v := ?_) (w' := ?_) (d := some 137) 18 (by kernel_rfl) (by kernel_rfl) rfl ?_ ?_
         rotate_left 2
         · rintro ⟨s1, s2⟩
           conv in opOf _ _ => whnf
           go_simp
           first | done | (with_reducible rfl) | (constructor <;> with_reducible rfl)
         intro hS
         refine ⟨hS, ?_⟩
         try simp only [Act.put, List.setIfInBounds_toArray, List.set_cons_zero, List.set_cons_succ])
        (refine held_take (v := ?_) (d := some 138) 19 (by kernel_rfl) (by kernel_rfl) rfl ?_ ?_
         rotate_left
         · intro w hSw
           conv in opOf _ _ => whnf
           (try dsimp only at hSw)
           go_simp
           try (with_reducible rfl)
         try simp only [Act.put, List.setIfInBounds_toArray, List.set_cons_zero, List.set_cons_succ])
        (refine held_take (v := ?_) (d := some 141) 22 (by kernel_rfl) (by kernel_rfl) rfl ?_ ?_
         rotate_left
         · intro w hSw
           conv in opOf _ _ => whnf
           (try dsimp only at hSw)
           go_simp
           try (with_reducible rfl)
         try simp only [Act.put, List.setIfInBounds_toArray, List.set_cons_zero, List.set_cons_succ])
        (refine held_take (v := ?_) (d := some 149) 30 (by kernel_rfl) (by kernel_rfl) rfl ?_ ?_
         rotate_left
         · intro w hSw
           conv in opOf _ _ => whnf
           (try dsimp only at hSw)
           go_simp
           try (with_reducible rfl)
         try simp only [Act.put, List.setIfInBounds_toArray, List.set_cons_zero, List.set_cons_succ])
        refine held_one 10 (by kernel_rfl) (by kernel_rfl) ?_
        (refine held_run (v := ?_) (w' := ?_) (d := some 129) 10 (by kernel_rfl) (by kernel_rfl) rfl ?_ ?_
         rotate_left 2
         · rintro ⟨s1, s2⟩
           conv in opOf _ _ => whnf
           go_simp
           first | done | (with_reducible rfl) | (constructor <;> with_reducible rfl)
         intro hS
         refine ⟨hS, ?_⟩
         try simp only [Act.put, List.setIfInBounds_toArray, List.set_cons_zero, List.set_cons_succ])
        (refine held_take (v := ?_) (d := some 130) 11 (by kernel_rfl) (by kernel_rfl) rfl ?_ ?_
         rotate_left
         · intro w hSw
           conv in opOf _ _ => whnf
           (try dsimp only at hSw)
           go_simp
           try (with_reducible rfl)
         try simp only [Act.put, List.setIfInBounds_toArray, List.set_cons_zero, List.set_cons_succ])
        (refine held_take (v := ?_) (d := some 133) 14 (by kernel_rfl) (by kernel_rfl) rfl ?_ ?_
         rotate_left
         · intro w hSw
           conv in opOf _ _ => whnf
           (try dsimp only at hSw)
           go_simp
           try (with_reducible rfl)
         try simp only [Act.put, List.setIfInBounds_toArray, List.set_cons_zero, List.set_cons_succ])
        (refine held_take (v := ?_) (d := some 134) 15 (by kernel_rfl) (by kernel_rfl) rfl ?_ ?_
         rotate_left
         · intro w hSw
           conv in opOf _ _ => whnf
           (try dsimp only at hSw)
           go_simp
           try (with_reducible rfl)
         try simp only [Act.put, List.setIfInBounds_toArray, List.set_cons_zero, List.set_cons_succ])
        (refine held_take (v := ?_) (d := some 150) 31 (by kernel_rfl) (by kernel_rfl) rfl ?_ ?_
         rotate_left
         · intro w hSw
           conv in opOf _ _ => whnf
           (try dsimp only at hSw)
           go_simp
           try (with_reducible rfl)
         try simp only [Act.put, List.setIfInBounds_toArray, List.set_cons_zero, List.set_cons_succ])
        (refine held_take (v := ?_) (d := some 151) 32 (by kernel_rfl) (by kernel_rfl) rfl ?_ ?_
         rotate_left
         · intro w hSw
           conv in opOf _ _ => whnf
           (try dsimp only at hSw)
           go_simp
           try (with_reducible rfl)
         try simp only [Act.put, List.setIfInBounds_toArray, List.set_cons_zero, List.set_cons_succ])
        refine held_one 33 (by kernel_rfl) (by kernel_rfl) (held_mute (w' := ?_) (d := none) 33 (by kernel_rfl) (by kernel_rfl) rfl ?_ ?_)
        rotate_left 1
        · rintro ⟨⟨sz, s5⟩, s6⟩
          conv in opOf _ _ => whnf
          go_simp
          first | done | (with_reducible rfl)
        intro hS
        refine ⟨⟨⟨_, World.cell?_setCell_same' _ _ _ (by have hy' : W.cell? ⟨g, 8 + a, none⟩ = some (.complex .f64 p q) := pz; simp [hy'])⟩, by simpa using hS.2⟩, ?_⟩
        try simp only [Act.put, List.setIfInBounds_toArray, List.set_cons_zero, List.set_cons_succ]
        refine held_done (by kernel_rfl) (fun hS => hR.out _ _ ?_)
        exact hQ _ _ _ _ _ _ _ _ _ _ _ _ _ _ _ _ _ _ _ _ _ _ _ _ _ _ _ _ _ _ _ _ _
    · skip
      (refine held_run (v := ?_) (w' := ?_) (d := some 129) 10 (by kernel_rfl) (by kernel_rfl) rfl ?_ ?_
       rotate_left 2
       · rintro ⟨s1, s2⟩
         conv in opOf _ _ => whnf
         go_simp
         first | done | (with_reducible rfl) | (constructor <;> with_reducible rfl)
       intro hS
       refine ⟨hS, ?_⟩
       try simp only [Act.put, List.setIfInBounds_toArray, List.set_cons_zero, List.set_cons_succ])
      (refine held_take (v := ?_) (d := some 130) 11 (by kernel_rfl) (by kernel_rfl) rfl ?_ ?_
       rotate_left
       · intro w hSw
         conv in opOf _ _ => whnf
         (try dsimp only at hSw)
         go_simp
         try (with_reducible rfl)
       try simp only [Act.put, List.setIfInBounds_toArray, List.set_cons_zero, List.set_cons_succ])
      (refine held_take (v := ?_) (d := some 133) 14 (by kernel_rfl) (by kernel_rfl) rfl ?_ ?_
       rotate_left
       · intro w hSw
         conv in opOf _ _ => whnf
         (try dsimp only at hSw)
         go_simp
         try (with_reducible rfl)
       try simp only [Act.put, List.setIfInBounds_toArray, List.set_cons_zero, List.set_cons_succ])
      refine held_many [3, 18] (by kernel_rfl) (by simp) (by intro i hi; simp only [List.mem_cons, List.not_mem_nil, or_false] at hi; rcases hi with rfl | rfl <;> kernel_rfl) (fun i hi => ?_)
      simp only [List.mem_cons, List.not_mem_nil, or_false] at hi
      rcases hi with rfl | rfl
      · skip
        (refine held_run (v := ?_) (w' := ?_) (d := some 122) 3 (by kernel_rfl) (by kernel_rfl) rfl ?_ ?_
         rotate_left 2
         · rintro ⟨s1, s2⟩
           conv in opOf _ _ => whnf
           go_simp
           first | done | (with_reducible rfl) | (constructor <;> with_reducible rfl)
         intro hS
         refine ⟨hS, ?_⟩
         try simp only [Act.put, List.setIfInBounds_toArray, List.set_cons_zero, List.set_cons_succ])
        (refine held_take (v := ?_) (d := some 123) 4 (by kernel_rfl) (by kernel_rfl) rfl ?_ ?_
         rotate_left
         · intro w hSw
           conv in opOf _ _ => whnf
           (try dsimp only at hSw)
           go_simp
           try (with_reducible rfl)
         try simp only [Act.put, List.setIfInBounds_toArray, List.set_cons_zero, List.set_cons_succ])
        (refine held_take (v := ?_) (d := some 126) 7 (by kernel_rfl) (by kernel_rfl) rfl ?_ ?_
         rotate_left
         · intro w hSw
           conv in opOf _ _ => whnf
           (try dsimp only at hSw)
           go_simp
           try (with_reducible rfl)
         try simp only [Act.put, List.setIfInBounds_toArray, List.set_cons_zero, List.set_cons_succ])
        (refine held_take (v := ?_) (d := some 134) 15 (by kernel_rfl) (by kernel_rfl) rfl ?_ ?_
         rotate_left
         · intro w hSw
           conv in opOf _ _ => whnf
           (try dsimp only at hSw)
           go_simp
           try (with_reducible rfl)
         try simp only [Act.put, List.setIfInBounds_toArray, List.set_cons_zero, List.set_cons_succ])
        refine held_one 18 (by kernel_rfl) (by kernel_rfl) ?_
        (refine held_run (v := ?_) (w' := ?_) (d := some 137) 18 (by kernel_rfl) (by kernel_rfl) rfl ?_ ?_
         rotate_left 2
         · rintro ⟨s1, s2⟩
           conv in opOf _ _ => whnf
           go_simp
           first | done | (with_reducible rfl) | (constructor <;> with_reducible rfl)
         intro hS
         refine ⟨hS, ?_⟩
         try simp only [Act.put, List.setIfInBounds_toArray, List.set_cons_zero, List.set_cons_succ])
        (refine held_take (v := ?_) (d := some 138) 19 (by kernel_rfl) (by kernel_rfl) rfl ?_ ?_
         rotate_left
         · intro w hSw
           conv in opOf _ _ => whnf
           (try dsimp only at hSw)
           go_simp
           try (with_reducible rfl)
         try simp only [Act.put, List.setIfInBounds_toArray, List.set_cons_zero, List.set_cons_succ])
        (refine held_take (v := ?_) (d := some 141) 22 (by kernel_rfl) (by kernel_rfl) rfl ?_ ?_
         rotate_left
         · intro w hSw
           conv in opOf _ _ => whnf
           (try dsimp only at hSw)
           go_simp
           try (with_reducible rfl)
         try simp only [Act.put, List.setIfInBounds_toArray, List.set_cons_zero, List.set_cons_succ])
        (refine held_take (v := ?_) (d := some 149) 30 (by kernel_rfl) (by kernel_rfl) rfl ?_ ?_
         rotate_left
         · intro w hSw
           conv in opOf _ _ => whnf
           (try dsimp only at hSw)
           go_simp
           try (with_reducible rfl)
         try simp only [Act.put, List.setIfInBounds_toArray, List.set_cons_zero, List.set_cons_succ])
        (refine held_take (v := ?_) (d := some 150) 31 (by kernel_rfl) (by kernel_rfl) rfl ?_ ?_
         rotate_left
         · intro w hSw
           conv in opOf _ _ => whnf
           (try dsimp only at hSw)
           go_simp
           try (with_reducible rfl)
         try simp only [Act.put, List.setIfInBounds_toArray, List.set_cons_zero, List.set_cons_succ])
        (refine held_take (v := ?_) (d := some 151) 32 (by kernel_rfl) (by kernel_rfl) rfl ?_ ?_
         rotate_left
         · intro w hSw
           conv in opOf _ _ => whnf
           (try dsimp only at hSw)
           go_simp
           try (with_reducible rfl)
         try simp only [Act.put, List.setIfInBounds_toArray, List.set_cons_zero, List.set_cons_succ])
        refine held_one 33 (by kernel_rfl) (by kernel_rfl) (held_mute (w' := ?_) (d := none) 33 (by kernel_rfl) (by kernel_rfl) rfl ?_ ?_)
        rotate_left 1
        · rintro ⟨⟨sz, s5⟩, s6⟩
          conv in opOf _ _ => whnf
          go_simp
          first | done | (with_reducible rfl)
        intro hS
        refine ⟨⟨⟨_, World.cell?_setCell_same' _ _ _ (by have hy' : W.cell? ⟨g, 8 + a, none⟩ = some (.complex .f64 p q) := pz; simp [hy'])⟩, by simpa using hS.2⟩, ?_⟩
        try simp only [Act.put, List.setIfInBounds_toArray, List.set_cons_zero, List.set_cons_succ]
        refine held_done (by kernel_rfl) (fun hS => hR.out _ _ ?_)
        exact hQ _ _ _ _ _ _ _ _ _ _ _ _ _ _ _ _ _ _ _ _ _ _ _ _ _ _ _ _ _ _ _ _ _
      · skip
        (refine held_run (v := ?_) (w' := ?_) (d := some 137) 18 (by kernel_rfl) (by kernel_rfl) rfl ?_ ?_
         rotate_left 2
         · rintro ⟨s1, s2⟩
           conv in opOf _ _ => whnf
           go_simp
           first | done | (with_reducible rfl) | (constructor <;> with_reducible rfl)
         intro hS
         refine ⟨hS, ?_⟩
         try simp only [Act.put, List.setIfInBounds_toArray, List.set_cons_zero, List.set_cons_succ])
        (refine held_take (v := ?_) (d := some 138) 19 (by kernel_rfl) (by kernel_rfl) rfl ?_ ?_
         rotate_left
         · intro w hSw
           conv in opOf _ _ => whnf
           (try dsimp only at hSw)
           go_simp
           try (with_reducible rfl)
         try simp only [Act.put, List.setIfInBounds_toArray, List.set_cons_zero, List.set_cons_succ])
        (refine held_take (v := ?_) (d := some 141) 22 (by kernel_rfl) (by kernel_rfl) rfl ?_ ?_
         rotate_left
         · intro w hSw
           conv in opOf _ _ => whnf
           (try dsimp only at hSw)
           go_simp
           try (with_reducible rfl)
         try simp only [Act.put, List.setIfInBounds_toArray, List.set_cons_zero, List.set_cons_succ])
        (refine held_take (v := ?_) (d := some 149) 30 (by kernel_rfl) (by kernel_rfl) rfl ?_ ?_
         rotate_left
         · intro w hSw
           conv in opOf _ _ => whnf
           (try dsimp only at hSw)
           go_simp
           try (with_reducible rfl)
         try simp only [Act.put, List.setIfInBounds_toArray, List.set_cons_zero, List.set_cons_succ])
        refine held_one 3 (by kernel_rfl) (by kernel_rfl) ?_
        (refine held_run (v := ?_) (w' := ?_) (d := some 122) 3 (by kernel_rfl) (by kernel_rfl) rfl ?_ ?_
         rotate_left 2
         · rintro ⟨s1, s2⟩
           conv in opOf _ _ => whnf
           go_simp
           first | done | (with_reducible rfl) | (constructor <;> with_reducible rfl)
         intro hS
         refine ⟨hS, ?_⟩
         try simp only [Act.put, List.setIfInBounds_toArray, List.set_cons_zero, List.set_cons_succ])
        (refine held_take (v := ?_) (d := some 123) 4 (by kernel_rfl) (by kernel_rfl) rfl ?_ ?_
         rotate_left
         · intro w hSw
           conv in opOf _ _ => whnf
           (try dsimp only at hSw)
           go_simp
           try (with_reducible rfl)
         try simp only [Act.put, List.setIfInBounds_toArray, List.set_cons_zero, List.set_cons_succ])
        (refine held_take (v := ?_) (d := some 126) 7 (by kernel_rfl) (by kernel_rfl) rfl ?_ ?_
         rotate_left
         · intro w hSw
           conv in opOf _ _ => whnf
           (try dsimp only at hSw)
           go_simp
           try (with_reducible rfl)
         try simp only [Act.put, List.setIfInBounds_toArray, List.set_cons_zero, List.set_cons_succ])
        (refine held_take (v := ?_) (d := some 134) 15 (by kernel_rfl) (by kernel_rfl) rfl ?_ ?_
         rotate_left
         · intro w hSw
           conv in opOf _ _ => whnf
           (try dsimp only at hSw)
           go_simp
           try (with_reducible rfl)
         try simp only [Act.put, List.setIfInBounds_toArray, List.set_cons_zero, List.set_cons_succ])
        (refine held_take (v := ?_) (d := some 150) 31 (by kernel_rfl) (by kernel_rfl) rfl ?_ ?_
         rotate_left
         · intro w hSw
           conv in opOf _ _ => whnf
           (try dsimp only at hSw)
           go_simp
           try (with_reducible rfl)
         try simp only [Act.put, List.setIfInBounds_toArray, List.set_cons_zero, List.set_cons_succ])
        (refine held_take (v := ?_) (d := some 151) 32 (by kernel_rfl) (by kernel_rfl) rfl ?_ ?_
         rotate_left
         · intro w hSw
           conv in opOf _ _ => whnf
           (try dsimp only at hSw)
           go_simp
           try (with_reducible rfl)
         try simp only [Act.put, List.setIfInBounds_toArray, List.set_cons_zero, List.set_cons_succ])
        refine held_one 33 (by kernel_rfl) (by kernel_rfl) (held_mute (w' := ?_) (d := none) 33 (by kernel_rfl) (by kernel_rfl) rfl ?_ ?_)
        rotate_left 1
        · rintro ⟨⟨sz, s5⟩, s6⟩
          conv in opOf _ _ => whnf
          go_simp
          first | done | (with_reducible rfl)
        intro hS
        refine ⟨⟨⟨_, World.cell?_setCell_same' _ _ _ (by have hy' : W.cell? ⟨g, 8 + a, none⟩ = some (.complex .f64 p q) := pz; simp [hy'])⟩, by simpa using hS.2⟩, ?_⟩
        try simp only [Act.put, List.setIfInBounds_toArray, List.set_cons_zero, List.set_cons_succ]
        refine held_done (by kernel_rfl) (fun hS => hR.out _ _ ?_)
        exact hQ _ _ _ _ _ _ _ _ _ _ _ _ _ _ _ _ _ _ _ _ _ _ _ _ _ _ _ _ _ _ _ _ _
    · skip
      (refine held_run (v := ?_) (w' := ?_) (d := some 137) 18 (by kernel_rfl) (by kernel_rfl) rfl ?_ ?_
       rotate_left 2
       · rintro ⟨s1, s2⟩
         conv in opOf _ _ => whnf
         go_simp
         first | done | (with_reducible rfl) | (constructor <;> with_reducible rfl)
       intro hS
       refine ⟨hS, ?_⟩
       try simp only [Act.put, List.setIfInBounds_toArray, List.set_cons_zero, List.set_cons_succ])
      (refine held_take (v := ?_) (d := some 138) 19 (by kernel_rfl) (by kernel_rfl) rfl ?_ ?_
       rotate_left
       · intro w hSw
         conv in opOf _ _ => whnf
         (try dsimp only at hSw)
         go_simp
         try (with_reducible rfl)
       try simp only [Act.put, List.setIfInBounds_toArray, List.set_cons_zero, List.set_cons_succ])
      (refine held_take (v := ?_) (d := some 141) 22 (by kernel_rfl) (by kernel_rfl) rfl ?_ ?_
       rotate_left
       · intro w hSw
         conv in opOf _ _ => whnf
         (try dsimp only at hSw)
         go_simp
         try (with_reducible rfl)
       try simp only [Act.put, List.setIfInBounds_toArray, List.set_cons_zero, List.set_cons_succ])
      (refine held_take (v := ?_) (d := some 149) 30 (by kernel_rfl) (by kernel_rfl) rfl ?_ ?_
       rotate_left
       · intro w hSw
         conv in opOf _ _ => whnf
         (try dsimp only at hSw)
         go_simp
         try (with_reducible rfl)
       try simp only [Act.put, List.setIfInBounds_toArray, List.set_cons_zero, List.set_cons_succ])
      refine held_many [3, 10] (by kernel_rfl) (by simp) (by intro i hi; simp only [List.mem_cons, List.not_mem_nil, or_false] at hi; rcases hi with rfl | rfl <;> kernel_rfl) (fun i hi => ?_)
      simp only [List.mem_cons, List.not_mem_nil, or_false] at hi
      rcases hi with rfl | rfl
      · skip
        (refine held_run (v := ?_) (w' := ?_) (d := some 122) 3 (by kernel_rfl) (by kernel_rfl) rfl ?_ ?_
         rotate_left 2
         · rintro ⟨s1, s2⟩
           conv in opOf _ _ => whnf
           go_simp
           first | done | (with_reducible rfl) | (constructor <;> with_reducible rfl)
         intro hS
         refine ⟨hS, ?_⟩
         try simp only [Act.put, List.setIfInBounds_toArray, List.set_cons_zero, List.set_cons_succ])
        (refine held_take (v := ?_) (d := some 123) 4 (by kernel_rfl) (by kernel_rfl) rfl ?_ ?_
         rotate_left
         · intro w hSw
           conv in opOf _ _ => whnf
           (try dsimp only at hSw)
           go_simp
           try (with_reducible rfl)
         try simp only [Act.put, List.setIfInBounds_toArray, List.set_cons_zero, List.set_cons_succ])
        (refine held_take (v := ?_) (d := some 126) 7 (by kernel_rfl) (by kernel_rfl) rfl ?_ ?_
         rotate_left
         · intro w hSw
           conv in opOf _ _ => whnf
           (try dsimp only at hSw)
           go_simp
           try (with_reducible rfl)
         try simp only [Act.put, List.setIfInBounds_toArray, List.set_cons_zero, List.set_cons_succ])
        refine held_one 10 (by kernel_rfl) (by kernel_rfl) ?_
        (refine held_run (v := ?_) (w' := ?_) (d := some 129) 10 (by kernel_rfl) (by kernel_rfl) rfl ?_ ?_
         rotate_left 2
         · rintro ⟨s1, s2⟩
           conv in opOf _ _ => whnf
           go_simp
           first | done | (with_reducible rfl) | (constructor <;> with_reducible rfl)
         intro hS
         refine ⟨hS, ?_⟩
         try simp only [Act.put, List.setIfInBounds_toArray, List.set_cons_zero, List.set_cons_succ])
        (refine held_take (v := ?_) (d := some 130) 11 (by kernel_rfl) (by kernel_rfl) rfl ?_ ?_
         rotate_left
         · intro w hSw
           conv in opOf _ _ => whnf
           (try dsimp only at hSw)
           go_simp
           try (with_reducible rfl)
         try simp only [Act.put, List.setIfInBounds_toArray, List.set_cons_zero, List.set_cons_succ])
        (refine held_take (v := ?_) (d := some 133) 14 (by kernel_rfl) (by kernel_rfl) rfl ?_ ?_
         rotate_left
         · intro w hSw
           conv in opOf _ _ => whnf
           (try dsimp only at hSw)
           go_simp
           try (with_reducible rfl)
         try simp only [Act.put, List.setIfInBounds_toArray, List.set_cons_zero, List.set_cons_succ])
        (refine held_take (v := ?_) (d := some 134) 15 (by kernel_rfl) (by kernel_rfl) rfl ?_ ?_
         rotate_left
         · intro w hSw
           conv in opOf _ _ => whnf
           (try dsimp only at hSw)
           go_simp
           try (with_reducible rfl)
         try simp only [Act.put, List.setIfInBounds_toArray, List.set_cons_zero, List.set_cons_succ])
        (refine held_take (v := ?_) (d := some 150) 31 (by kernel_rfl) (by kernel_rfl) rfl ?_ ?_
         rotate_left
         · intro w hSw
           conv in opOf _ _ => whnf
           (try dsimp only at hSw)
           go_simp
           try (with_reducible rfl)
         try simp only [Act.put, List.setIfInBounds_toArray, List.set_cons_zero, List.set_cons_succ])
        (refine held_take (v := ?_) (d := some 151) 32 (by kernel_rfl) (by kernel_rfl) rfl ?_ ?_
         rotate_left
         · intro w hSw
           conv in opOf _ _ => whnf
           (try dsimp only at hSw)
           go_simp
           try (with_reducible rfl)
         try simp only [Act.put, List.setIfInBounds_toArray, List.set_cons_zero, List.set_cons_succ])
        refine held_one 33 (by kernel_rfl) (by kernel_rfl) (held_mute (w' := ?_) (d := none) 33 (by kernel_rfl) (by kernel_rfl) rfl ?_ ?_)
        rotate_left 1
        · rintro ⟨⟨sz, s5⟩, s6⟩
          conv in opOf _ _ => whnf
          go_simp
          first | done | (with_reducible rfl)
        intro hS
        refine ⟨⟨⟨_, World.cell?_setCell_same' _ _ _ (by have hy' : W.cell? ⟨g, 8 + a, none⟩ = some (.complex .f64 p q) := pz; simp [hy'])⟩, by simpa using hS.2⟩, ?_⟩
        try simp only [Act.put, List.setIfInBounds_toArray, List.set_cons_zero, List.set_cons_succ]
        refine held_done (by kernel_rfl) (fun hS => hR.out _ _ ?_)
        exact hQ _ _ _ _ _ _ _ _ _ _ _ _ _ _ _ _ _ _ _ _ _ _ _ _ _ _ _ _ _ _ _ _ _
      · skip
        (refine held_run (v := ?_) (w' := ?_) (d := some 129) 10 (by kernel_rfl) (by kernel_rfl) rfl ?_ ?_
         rotate_left 2
         · rintro ⟨s1, s2⟩
           conv in opOf _ _ => whnf
           go_simp
           first | done | (with_reducible rfl) | (constructor <;> with_reducible rfl)
         intro hS
         refine ⟨hS, ?_⟩
         try simp only [Act.put, List.setIfInBounds_toArray, List.set_cons_zero, List.set_cons_succ])
        (refine held_take (v := ?_) (d := some 130) 11 (by kernel_rfl) (by kernel_rfl) rfl ?_ ?_
         rotate_left
         · intro w hSw
           conv in opOf _ _ => whnf
           (try dsimp only at hSw)
           go_simp
           try (with_reducible rfl)
         try simp only [Act.put, List.setIfInBounds_toArray, List.set_cons_zero, List.set_cons_succ])
        (refine held_take (v := ?_) (d := some 133) 14 (by kernel_rfl) (by kernel_rfl) rfl ?_ ?_
         rotate_left
         · intro w hSw
           conv in opOf _ _ => whnf
           (try dsimp only at hSw)
           go_simp
           try (with_reducible rfl)
         try simp only [Act.put, List.setIfInBounds_toArray, List.set_cons_zero, List.set_cons_succ])
        refine held_one 3 (by kernel_rfl) (by kernel_rfl) ?_
        (refine held_run (v := ?_) (w' := ?_) (d := some 122) 3 (by kernel_rfl) (by kernel_rfl) rfl ?_ ?_
         rotate_left 2
         · rintro ⟨s1, s2⟩
           conv in opOf _ _ => whnf
           go_simp
           first | done | (with_reducible rfl) | (constructor <;> with_reducible rfl)
         intro hS
         refine ⟨hS, ?_⟩
         try simp only [Act.put, List.setIfInBounds_toArray, List.set_cons_zero, List.set_cons_succ])
        (refine held_take (v := ?_) (d := some 123) 4 (by kernel_rfl) (by kernel_rfl) rfl ?_ ?_
         rotate_left
         · intro w hSw
           conv in opOf _ _ => whnf
           (try dsimp only at hSw)
           go_simp
           try (with_reducible rfl)
         try simp only [Act.put, List.setIfInBounds_toArray, List.set_cons_zero, List.set_cons_succ])
        (refine held_take (v := ?_) (d := some 126) 7 (by kernel_rfl) (by kernel_rfl) rfl ?_ ?_
         rotate_left
         · intro w hSw
           conv in opOf _ _ => whnf
           (try dsimp only at hSw)
           go_simp
           try (with_reducible rfl)
         try simp only [Act.put, List.setIfInBounds_toArray, List.set_cons_zero, List.set_cons_succ])
        (refine held_take (v := ?_) (d := some 134) 15 (by kernel_rfl) (by kernel_rfl) rfl ?_ ?_
         rotate_left
         · intro w hSw
           conv in opOf _ _ => whnf
           (try dsimp only at hSw)
           go_simp
           try (with_reducible rfl)
         try simp only [Act.put, List.setIfInBounds_toArray, List.set_cons_zero, List.set_cons_succ])
        (refine held_take (v := ?_) (d := some 150) 31 (by kernel_rfl) (by kernel_rfl) rfl ?_ ?_
         rotate_left
         · intro w hSw
           conv in opOf _ _ => whnf
           (try dsimp only at hSw)
           go_simp
           try (with_reducible rfl)
         try simp only [Act.put, List.setIfInBounds_toArray, List.set_cons_zero, List.set_cons_succ])
        (refine held_take (v := ?_) (d := some 151) 32 (by kernel_rfl) (by kernel_rfl) rfl ?_ ?_
         rotate_left
         · intro w hSw
           conv in opOf _ _ => whnf
           (try dsimp only at hSw)
           go_simp
           try (with_reducible rfl)
         try simp only [Act.put, List.setIfInBounds_toArray, List.set_cons_zero, List.set_cons_succ])
        refine held_one 33 (by kernel_rfl) (by kernel_rfl) (held_mute (w' := ?_) (d := none) 33 (by kernel_rfl) (by kernel_rfl) rfl ?_ ?_)
        rotate_left 1
        · rintro ⟨⟨sz, s5⟩, s6⟩
          conv in opOf _ _ => whnf
          go_simp
          first | done | (with_reducible rfl)
        intro hS
        refine ⟨⟨⟨_, World.cell?_setCell_same' _ _ _ (by have hy' : W.cell? ⟨g, 8 + a, none⟩ = some (.complex .f64 p q) := pz; simp [hy'])⟩, by simpa using hS.2⟩, ?_⟩
        try simp only [Act.put, List.setIfInBounds_toArray, List.set_cons_zero, List.set_cons_succ]
        refine held_done (by kernel_rfl) (fun hS => hR.out _ _ ?_)
        exact hQ _ _ _ _ _ _ _ _ _ _ _ _ _ _ _ _ _ _ _ _ _ _ _ _ _ _ _ _ _ _ _ _ _

end Go.Proofs.YthcjnkakfpmpbaaDoor
