/- The walks of cpu's complexes, by operation. Conditions: the table of operations is laid; the registers are there; the products have a value. -/
import Derived.Test.YthcjnkakfpmpbaaDoorC5
namespace Go.Proofs.YthcjnkakfpmpbaaDoor
open Go.RowKit
set_option linter.unusedVariables false
set_option linter.unusedSimpArgs false

set_option maxRecDepth 20000 in
set_option maxHeartbeats 4000000 in
theorem cx_zset (op n f : Int) (a b : Nat) (c : Nat) (x y : Int) (w : World) (g : Nat) (cells : List Value) (hT : TabIs 0 w) (htg : 0 ≠ g) (hB : Blk w g 119 cells) (ha : a < 4) (hb : b < 8) (hc : c < 8) (hn : n = (c : Int)) (hx : cells[b]? = some (.int .i32 x)) (hy : cells[c]? = some (.int .i32 y)) (z0 : Value) (hz : cells[8 + a]? = some z0) (hnm : opName op = [122, 115, 101, 116]) :
    Calls Tryd.prog 62 #[.pointer (some ⟨g, 0, none⟩), .agg #[.int .i64 op, .int .i64 a, .int .i64 b, .int .i32 n, .int .i64 f]] w fun e w' => e = .returned (.tuple #[]) ∧ CW w g (cells.set (8 + a) (.complex .f64 (floatOfInt .f64 x) (floatOfInt .f64 y))) w' := by
  have hg := hB.lt
  have Hn := Lib.hid (fun w hT => hnm ▸ cname_any op w hT)
  have HB := Lib.hid hB
  have hA : (a : Int) < 4 := by omega
  have Hx := Lib.hid hx
  have Hy := Lib.hid hy
  have Hz := Lib.hid hz
  clear hB hx hy hz
  subst hn
  go_enter Tryd.func62, Tryd.ntmps62
  go_wp2_with fail
  go_quiet (fail)
  go_wp2_with (first
    | (go_at_call 82; refine (Hn.out _ ((hT.alloc _).drewN nq)).mono ?_; rintro e w2 ⟨rfl, hb2⟩)
    | fail)
  have hI2 : Blk w2 w.heap.size 25 [.int .i64 op, .int .i64 a, .int .i64 b, .int .i32 c, .int .i64 f] := ((Blk.new w 25 _).drewN nq).below hb2 (by simp)
  have hC2 := (((CW.start HB.out).alloc _).drewN nq).below hb2
  refine wp_region_swap (ops' := cxR3) (by kernel_rfl) (cx_r3 g w.heap.size a b c x y _ _ _ _ _ _ _ _ _ _ _ _ _ _ _ _ _ _ _ _ _ _ _ _ _ _ _ _ _ _ _ _ _ _ _ _ _ _ _ _ _ _ _ _ _ _ _ _ _ _ _ _ _ _ _ _ _ _ _ _ _ _ _ _ _ _ _ _ _ _ _ _ _ _ _ _ _ _ _ _ _ _ _ _ _ _ _ _ _ _ _ _ _ _ _ _ _ _ _ _ _ _ _ _ _ _ _ _ _ _ _ _ _ _ _ _ _ _ _ _ _ _ _ _ _ _ _ _ _ _ _ _ _ _ _ _ _ _ _ _ _ _ _ _ _ _ _ _ _ _ _ ha hb hc (by omega) (hI2.cell 2) (hI2.cell 3) ((hC2.blk.cell b).trans Hx.out) ((hC2.blk.cell c).trans Hy.out) z0 ((hC2.blk.cell (8 + a)).trans Hz.out) (hC2.blk.free _) ?_)
  intro v16 v17 v18 v19 v20 v21 v22 v23 v24 v25 v26 v27 v28 v29 v30 v31 v32 v33 v34
  go_wp2_with fail
  (try simp only [Exit.inBlock, Exit.then])
  refine bodyPost_ret (results_none rfl _ _ _) rfl ⟨rfl, ?_⟩
  exact (hC2.drewN 1).setReg _ _

set_option maxRecDepth 20000 in
set_option maxHeartbeats 4000000 in
theorem cx_zmul (op n f : Int) (a b : Nat) (p q s t : Nat) (ps qt pt qs re im : Nat) (w : World) (g : Nat) (cells : List Value) (hT : TabIs 0 w) (htg : 0 ≠ g) (hB : Blk w g 119 cells) (ha : a < 4) (hb : b < 4) (hz : cells[8 + a]? = some (.complex .f64 p q)) (hz2 : cells[8 + b]? = some (.complex .f64 s t)) (h1 : ∀ w, (binOp BinOp.mul 146 (.float .f64 p) (.float .f64 s)).run Tryd.prog w = .ok (.float .f64 ps) w) (h2 : ∀ w, (binOp BinOp.mul 146 (.float .f64 q) (.float .f64 t)).run Tryd.prog w = .ok (.float .f64 qt) w) (h3 : ∀ w, (binOp BinOp.sub 146 (.float .f64 ps) (.float .f64 qt)).run Tryd.prog w = .ok (.float .f64 re) w) (h4 : ∀ w, (binOp BinOp.mul 146 (.float .f64 p) (.float .f64 t)).run Tryd.prog w = .ok (.float .f64 pt) w) (h5 : ∀ w, (binOp BinOp.mul 146 (.float .f64 q) (.float .f64 s)).run Tryd.prog w = .ok (.float .f64 qs) w) (h6 : ∀ w, (binOp BinOp.add 146 (.float .f64 pt) (.float .f64 qs)).run Tryd.prog w = .ok (.float .f64 im) w) (hnm : opName op = [122, 109, 117, 108]) :
    Calls Tryd.prog 62 #[.pointer (some ⟨g, 0, none⟩), .agg #[.int .i64 op, .int .i64 a, .int .i64 b, .int .i32 n, .int .i64 f]] w fun e w' => e = .returned (.tuple #[]) ∧ CW w g (cells.set (8 + a) (.complex .f64 re im)) w' := by
  have hg := hB.lt
  have Hn := Lib.hid (fun w hT => hnm ▸ cname_any op w hT)
  have HB := Lib.hid hB
  have hA : (a : Int) < 4 := by omega
  have Hz := Lib.hid hz
  have Hz2 := Lib.hid hz2
  have hBm : ((b : Int).tmod 4) = (b : Int) := by rw [Int.tmod_eq_emod_of_nonneg (by omega)]; omega
  have hBb : (b : Int) < 4 := by omega
  clear hB hz hz2
  go_enter Tryd.func62, Tryd.ntmps62
  go_wp2_with fail
  go_quiet (fail)
  go_wp2_with (first
    | (go_at_call 82; refine (Hn.out _ ((hT.alloc _).drewN nq)).mono ?_; rintro e w2 ⟨rfl, hb2⟩)
    | fail)
  have hI2 : Blk w2 w.heap.size 25 [.int .i64 op, .int .i64 a, .int .i64 b, .int .i32 n, .int .i64 f] := ((Blk.new w 25 _).drewN nq).below hb2 (by simp)
  have hC2 := (((CW.start HB.out).alloc _).drewN nq).below hb2
  have i0 := hI2.cell 0
  have i2 := hI2.cell 2
  simp only [List.getElem?_cons_zero, List.getElem?_cons_succ] at i0 i2
  have c2 := (hC2.blk.cell (8 + b)).trans Hz2.out
  have hz2' := hC2.blk.lt
  go_quiet (fail)
  go_wp2_with (first
    | (go_at_call 82; refine (Hn.out _ ((hC2.tab hT htg).drewN _)).mono ?_; rintro e w3 ⟨rfl, hb3⟩)
    | fail)
  have hC3 := (hC2.drewN _).below hb3
  refine wp_region_swap (ops' := cxR17) (by kernel_rfl) (cx_r17 g a p q s t ps qt pt qs re im _ _ _ _ _ _ _ _ _ _ _ _ _ _ _ _ _ _ _ _ _ _ _ _ _ _ _ _ _ _ _ _ _ _ _ _ _ _ _ _ _ _ _ _ _ _ _ _ _ _ _ _ _ _ _ _ _ _ _ _ _ _ _ _ _ _ _ _ _ _ _ _ _ _ _ _ _ _ _ _ _ _ _ _ _ _ _ _ _ _ _ _ _ _ _ _ _ _ _ _ _ _ _ _ _ _ _ _ _ _ _ _ _ _ _ _ _ _ _ _ _ _ _ _ _ _ _ _ _ _ _ _ _ _ _ _ _ _ _ _ _ _ _ _ _ _ _ _ _ _ _ ha ((hC3.blk.cell (8 + a)).trans Hz.out) (hC3.blk.free _) h1 h2 h3 h4 h5 h6 ?_)
  intro v119 v120 v121 v122 v123 v124 v125 v126 v127 v128 v129 v130 v131 v132 v133 v134 v135 v136 v137 v138 v139 v140 v141 v142 v143 v144 v145 v146 v147 v148 v149 v150 v151
  go_wp2_with fail
  (try simp only [Exit.inBlock, Exit.then])
  first
    | (refine bodyPost_end (results_none rfl _ _ _) rfl ⟨rfl, ?_⟩; exact (hC3.drewN 1).setReg _ _)
    | (refine bodyPost_ret (results_none rfl _ _ _) rfl ⟨rfl, ?_⟩; exact (hC3.drewN 1).setReg _ _)

end Go.Proofs.YthcjnkakfpmpbaaDoor
