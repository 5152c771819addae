/- The walks of cpu's complexes, by operation. Conditions: the table of operations is laid; the registers are there; the products have a value. -/
import Derived.Test.YthcjnkakfpmpbaaDoorC5b
namespace Go.Proofs.YthcjnkakfpmpbaaDoor
open Go.RowKit
set_option linter.unusedVariables false
set_option linter.unusedSimpArgs false
attribute [local go_sem] run_store_complex

set_option maxRecDepth 20000 in
set_option maxHeartbeats 4000000 in
theorem cx_zadd (op n f : Int) (a b : Nat) (p q s t : Nat) (re im : Nat) (w : World) (g : Nat) (cells : List Value) (hT : TabIs 0 w) (htg : 0 ≠ g) (hB : Blk w g 119 cells) (ha : a < 4) (hb : b < 4) (hz : cells[8 + a]? = some (.complex .f64 p q)) (hz2 : cells[8 + b]? = some (.complex .f64 s t)) (h1 : ∀ w, (binOp BinOp.add 146 (.float .f64 p) (.float .f64 s)).run Tryd.prog w = .ok (.float .f64 re) w) (h2 : ∀ w, (binOp BinOp.add 146 (.float .f64 q) (.float .f64 t)).run Tryd.prog w = .ok (.float .f64 im) w) (hnm : opName op = [122, 97, 100, 100]) :
    Calls Tryd.prog 62 #[.pointer (some ⟨g, 0, none⟩), .agg #[.int .i64 op, .int .i64 a, .int .i64 b, .int .i32 n, .int .i64 f]] w fun e w' => e = .returned (.tuple #[]) ∧ CW w g (cells.set (8 + a) (.complex .f64 re im)) w' := by
  have hg := hB.lt
  have Hn := Lib.hid (fun w hT => hnm ▸ cname_any op w hT)
  have HB := Lib.hid hB
  have hA : (a : Int) < 4 := by omega
  have Hz := Lib.hid hz
  have Hz2 := Lib.hid hz2
  have hBm : ((b : Int).tmod 4) = (b : Int) := by rw [Int.tmod_eq_emod_of_nonneg (by omega)]; omega
  have hBb : (b : Int) < 4 := by omega
  clear hB hz hz2
  go_enter Tryd.func62, Tryd.ntmps62
  go_wp2_with fail
  go_quiet (fail)
  go_wp2_with (first
    | (go_at_call 82; refine (Hn.out _ ((hT.alloc _).drewN nq)).mono ?_; rintro e w2 ⟨rfl, hb2⟩)
    | fail)
  have hI2 : Blk w2 w.heap.size 25 [.int .i64 op, .int .i64 a, .int .i64 b, .int .i32 n, .int .i64 f] := ((Blk.new w 25 _).drewN nq).below hb2 (by simp)
  have hC2 := (((CW.start HB.out).alloc _).drewN nq).below hb2
  have i0 := hI2.cell 0
  have i2 := hI2.cell 2
  simp only [List.getElem?_cons_zero, List.getElem?_cons_succ] at i0 i2
  have c2 := (hC2.blk.cell (8 + b)).trans Hz2.out
  have hz2' := hC2.blk.lt
  go_quiet (fail)
  go_wp2_with (first
    | (go_at_call 82; refine (Hn.out _ ((hC2.tab hT htg).drewN _)).mono ?_; rintro e w3 ⟨rfl, hb3⟩)
    | fail)
  have hC3 := (hC2.drewN _).below hb3
  refine wp_region_swap (ops' := cxR13) (by kernel_rfl) (cx_r13 g a p q s t re im _ _ _ _ _ _ _ _ _ _ _ _ _ _ _ _ _ _ _ _ _ _ _ _ _ _ _ _ _ _ _ _ _ _ _ _ _ _ _ _ _ _ _ _ _ _ _ _ _ _ _ _ _ _ _ _ _ _ _ _ _ _ _ _ _ _ _ _ _ _ _ _ _ _ _ _ _ _ _ _ _ _ _ _ _ _ _ _ _ _ _ _ _ _ _ _ _ _ _ _ _ _ _ _ _ _ _ _ _ _ _ _ _ _ _ _ _ _ _ _ _ _ _ _ _ _ _ _ _ _ _ _ _ _ _ _ _ _ _ _ _ _ _ _ _ _ _ _ _ _ _ ha ((hC3.blk.cell (8 + a)).trans Hz.out) (hC3.blk.free _) h1 h2 ?_)
  intro v81 v82 v83 v84 v85 v86 v87 v88 v89 v90 v91 v92 v93 v94 v95 v96 v97
  go_wp2_with fail
  (try simp only [Exit.inBlock, Exit.then])
  first
    | (refine bodyPost_end (results_none rfl _ _ _) rfl ⟨rfl, ?_⟩; exact (hC3.drewN 1).setReg _ _)
    | (refine bodyPost_ret (results_none rfl _ _ _) rfl ⟨rfl, ?_⟩; exact (hC3.drewN 1).setReg _ _)

set_option maxRecDepth 20000 in
set_option maxHeartbeats 4000000 in
theorem cx_zsub (op n f : Int) (a b : Nat) (p q s t : Nat) (re im : Nat) (w : World) (g : Nat) (cells : List Value) (hT : TabIs 0 w) (htg : 0 ≠ g) (hB : Blk w g 119 cells) (ha : a < 4) (hb : b < 4) (hz : cells[8 + a]? = some (.complex .f64 p q)) (hz2 : cells[8 + b]? = some (.complex .f64 s t)) (h1 : ∀ w, (binOp BinOp.sub 146 (.float .f64 p) (.float .f64 s)).run Tryd.prog w = .ok (.float .f64 re) w) (h2 : ∀ w, (binOp BinOp.sub 146 (.float .f64 q) (.float .f64 t)).run Tryd.prog w = .ok (.float .f64 im) w) (hnm : opName op = [122, 115, 117, 98]) :
    Calls Tryd.prog 62 #[.pointer (some ⟨g, 0, none⟩), .agg #[.int .i64 op, .int .i64 a, .int .i64 b, .int .i32 n, .int .i64 f]] w fun e w' => e = .returned (.tuple #[]) ∧ CW w g (cells.set (8 + a) (.complex .f64 re im)) w' := by
  have hg := hB.lt
  have Hn := Lib.hid (fun w hT => hnm ▸ cname_any op w hT)
  have HB := Lib.hid hB
  have hA : (a : Int) < 4 := by omega
  have Hz := Lib.hid hz
  have Hz2 := Lib.hid hz2
  have hBm : ((b : Int).tmod 4) = (b : Int) := by rw [Int.tmod_eq_emod_of_nonneg (by omega)]; omega
  have hBb : (b : Int) < 4 := by omega
  clear hB hz hz2
  go_enter Tryd.func62, Tryd.ntmps62
  go_wp2_with fail
  go_quiet (fail)
  go_wp2_with (first
    | (go_at_call 82; refine (Hn.out _ ((hT.alloc _).drewN nq)).mono ?_; rintro e w2 ⟨rfl, hb2⟩)
    | fail)
  have hI2 : Blk w2 w.heap.size 25 [.int .i64 op, .int .i64 a, .int .i64 b, .int .i32 n, .int .i64 f] := ((Blk.new w 25 _).drewN nq).below hb2 (by simp)
  have hC2 := (((CW.start HB.out).alloc _).drewN nq).below hb2
  have i0 := hI2.cell 0
  have i2 := hI2.cell 2
  simp only [List.getElem?_cons_zero, List.getElem?_cons_succ] at i0 i2
  have c2 := (hC2.blk.cell (8 + b)).trans Hz2.out
  have hz2' := hC2.blk.lt
  go_quiet (fail)
  go_wp2_with (first
    | (go_at_call 82; refine (Hn.out _ ((hC2.tab hT htg).drewN _)).mono ?_; rintro e w3 ⟨rfl, hb3⟩)
    | fail)
  have hC3 := (hC2.drewN _).below hb3
  refine wp_region_swap (ops' := cxR15) (by kernel_rfl) (cx_r15 g a p q s t re im _ _ _ _ _ _ _ _ _ _ _ _ _ _ _ _ _ _ _ _ _ _ _ _ _ _ _ _ _ _ _ _ _ _ _ _ _ _ _ _ _ _ _ _ _ _ _ _ _ _ _ _ _ _ _ _ _ _ _ _ _ _ _ _ _ _ _ _ _ _ _ _ _ _ _ _ _ _ _ _ _ _ _ _ _ _ _ _ _ _ _ _ _ _ _ _ _ _ _ _ _ _ _ _ _ _ _ _ _ _ _ _ _ _ _ _ _ _ _ _ _ _ _ _ _ _ _ _ _ _ _ _ _ _ _ _ _ _ _ _ _ _ _ _ _ _ _ _ _ _ _ ha ((hC3.blk.cell (8 + a)).trans Hz.out) (hC3.blk.free _) h1 h2 ?_)
  intro v100 v101 v102 v103 v104 v105 v106 v107 v108 v109 v110 v111 v112 v113 v114 v115 v116
  go_wp2_with fail
  (try simp only [Exit.inBlock, Exit.then])
  first
    | (refine bodyPost_end (results_none rfl _ _ _) rfl ⟨rfl, ?_⟩; exact (hC3.drewN 1).setReg _ _)
    | (refine bodyPost_ret (results_none rfl _ _ _) rfl ⟨rfl, ?_⟩; exact (hC3.drewN 1).setReg _ _)

set_option maxRecDepth 20000 in
set_option maxHeartbeats 4000000 in
theorem cx_zturn (op n f : Int) (a b : Nat) (p q s t : Nat)  (w : World) (g : Nat) (cells : List Value) (hT : TabIs 0 w) (htg : 0 ≠ g) (hB : Blk w g 119 cells) (ha : a < 4) (hb : b < 4) (hz : cells[8 + a]? = some (.complex .f64 p q)) (hz2 : cells[8 + b]? = some (.complex .f64 s t))  (hnm : opName op = [122, 116, 117, 114, 110]) :
    Calls Tryd.prog 62 #[.pointer (some ⟨g, 0, none⟩), .agg #[.int .i64 op, .int .i64 a, .int .i64 b, .int .i32 n, .int .i64 f]] w fun e w' => e = .returned (.tuple #[]) ∧ CW w g (cells.set (8 + a) (.complex .f64 (Op.negFloat .f64 q) p)) w' := by
  have hg := hB.lt
  have Hn := Lib.hid (fun w hT => hnm ▸ cname_any op w hT)
  have HB := Lib.hid hB
  have hA : (a : Int) < 4 := by omega
  have Hz := Lib.hid hz
  have Hz2 := Lib.hid hz2
  have hBm : ((b : Int).tmod 4) = (b : Int) := by rw [Int.tmod_eq_emod_of_nonneg (by omega)]; omega
  have hBb : (b : Int) < 4 := by omega
  clear hB hz hz2
  go_enter Tryd.func62, Tryd.ntmps62
  go_wp2_with fail
  go_quiet (fail)
  go_wp2_with (first
    | (go_at_call 82; refine (Hn.out _ ((hT.alloc _).drewN nq)).mono ?_; rintro e w2 ⟨rfl, hb2⟩)
    | fail)
  have hI2 : Blk w2 w.heap.size 25 [.int .i64 op, .int .i64 a, .int .i64 b, .int .i32 n, .int .i64 f] := ((Blk.new w 25 _).drewN nq).below hb2 (by simp)
  have hC2 := (((CW.start HB.out).alloc _).drewN nq).below hb2
  have i0 := hI2.cell 0
  have i2 := hI2.cell 2
  simp only [List.getElem?_cons_zero, List.getElem?_cons_succ] at i0 i2
  have c2 := (hC2.blk.cell (8 + b)).trans Hz2.out
  have hz2' := hC2.blk.lt
  go_quiet (fail)
  go_wp2_with (first
    | (go_at_call 82; refine (Hn.out _ ((hC2.tab hT htg).drewN _)).mono ?_; rintro e w3 ⟨rfl, hb3⟩)
    | fail)
  have hC3 := (hC2.drewN _).below hb3
  refine wp_region_swap (ops' := cxR7) (by kernel_rfl) (cx_r7 g a p q  _ _ _ _ _ _ _ _ _ _ _ _ _ _ _ _ _ _ _ _ _ _ _ _ _ _ _ _ _ _ _ _ _ _ _ _ _ _ _ _ _ _ _ _ _ _ _ _ _ _ _ _ _ _ _ _ _ _ _ _ _ _ _ _ _ _ _ _ _ _ _ _ _ _ _ _ _ _ _ _ _ _ _ _ _ _ _ _ _ _ _ _ _ _ _ _ _ _ _ _ _ _ _ _ _ _ _ _ _ _ _ _ _ _ _ _ _ _ _ _ _ _ _ _ _ _ _ _ _ _ _ _ _ _ _ _ _ _ _ _ _ _ _ _ _ _ _ _ _ _ _ _ ha ((hC3.blk.cell (8 + a)).trans Hz.out) (hC3.blk.free _)  ?_)
  intro v48 v49 v50 v51 v52 v53 v54 v55 v56 v57 v58 v59
  go_wp2_with fail
  (try simp only [Exit.inBlock, Exit.then])
  first
    | (refine bodyPost_end (results_none rfl _ _ _) rfl ⟨rfl, ?_⟩; exact (hC3.drewN 1).setReg _ _)
    | (refine bodyPost_ret (results_none rfl _ _ _) rfl ⟨rfl, ?_⟩; exact (hC3.drewN 1).setReg _ _)

set_option maxRecDepth 20000 in
set_option maxHeartbeats 4000000 in
theorem cx_zconj (op n f : Int) (a b : Nat) (p q s t : Nat)  (w : World) (g : Nat) (cells : List Value) (hT : TabIs 0 w) (htg : 0 ≠ g) (hB : Blk w g 119 cells) (ha : a < 4) (hb : b < 4) (hz : cells[8 + a]? = some (.complex .f64 p q)) (hz2 : cells[8 + b]? = some (.complex .f64 s t))  (hnm : opName op = [122, 99, 111, 110, 106]) :
    Calls Tryd.prog 62 #[.pointer (some ⟨g, 0, none⟩), .agg #[.int .i64 op, .int .i64 a, .int .i64 b, .int .i32 n, .int .i64 f]] w fun e w' => e = .returned (.tuple #[]) ∧ CW w g (cells.set (8 + a) (.complex .f64 p (Op.negFloat .f64 q))) w' := by
  have hg := hB.lt
  have Hn := Lib.hid (fun w hT => hnm ▸ cname_any op w hT)
  have HB := Lib.hid hB
  have hA : (a : Int) < 4 := by omega
  have Hz := Lib.hid hz
  have Hz2 := Lib.hid hz2
  have hBm : ((b : Int).tmod 4) = (b : Int) := by rw [Int.tmod_eq_emod_of_nonneg (by omega)]; omega
  have hBb : (b : Int) < 4 := by omega
  clear hB hz hz2
  go_enter Tryd.func62, Tryd.ntmps62
  go_wp2_with fail
  go_quiet (fail)
  go_wp2_with (first
    | (go_at_call 82; refine (Hn.out _ ((hT.alloc _).drewN nq)).mono ?_; rintro e w2 ⟨rfl, hb2⟩)
    | fail)
  have hI2 : Blk w2 w.heap.size 25 [.int .i64 op, .int .i64 a, .int .i64 b, .int .i32 n, .int .i64 f] := ((Blk.new w 25 _).drewN nq).below hb2 (by simp)
  have hC2 := (((CW.start HB.out).alloc _).drewN nq).below hb2
  have i0 := hI2.cell 0
  have i2 := hI2.cell 2
  simp only [List.getElem?_cons_zero, List.getElem?_cons_succ] at i0 i2
  have c2 := (hC2.blk.cell (8 + b)).trans Hz2.out
  have hz2' := hC2.blk.lt
  go_quiet (fail)
  go_wp2_with (first
    | (go_at_call 82; refine (Hn.out _ ((hC2.tab hT htg).drewN _)).mono ?_; rintro e w3 ⟨rfl, hb3⟩)
    | fail)
  have hC3 := (hC2.drewN _).below hb3
  refine wp_region_swap (ops' := cxR9) (by kernel_rfl) (cx_r9 g a p q  _ _ _ _ _ _ _ _ _ _ _ _ _ _ _ _ _ _ _ _ _ _ _ _ _ _ _ _ _ _ _ _ _ _ _ _ _ _ _ _ _ _ _ _ _ _ _ _ _ _ _ _ _ _ _ _ _ _ _ _ _ _ _ _ _ _ _ _ _ _ _ _ _ _ _ _ _ _ _ _ _ _ _ _ _ _ _ _ _ _ _ _ _ _ _ _ _ _ _ _ _ _ _ _ _ _ _ _ _ _ _ _ _ _ _ _ _ _ _ _ _ _ _ _ _ _ _ _ _ _ _ _ _ _ _ _ _ _ _ _ _ _ _ _ _ _ _ _ _ _ _ _ ha ((hC3.blk.cell (8 + a)).trans Hz.out) (hC3.blk.free _)  ?_)
  intro v62 v63 v64 v65 v66 v67 v68 v69 v70 v71 v72 v73
  go_wp2_with fail
  (try simp only [Exit.inBlock, Exit.then])
  first
    | (refine bodyPost_end (results_none rfl _ _ _) rfl ⟨rfl, ?_⟩; exact (hC3.drewN 1).setReg _ _)
    | (refine bodyPost_ret (results_none rfl _ _ _) rfl ⟨rfl, ?_⟩; exact (hC3.drewN 1).setReg _ _)

set_option maxRecDepth 20000 in
set_option maxHeartbeats 4000000 in
theorem cx_zmov (op n f : Int) (a b : Nat) (p q s t : Nat) (w : World) (g : Nat) (cells : List Value) (hT : TabIs 0 w) (htg : 0 ≠ g) (hB : Blk w g 119 cells) (ha : a < 4) (hb : b < 4) (hz : cells[8 + a]? = some (.complex .f64 p q)) (hz2 : cells[8 + b]? = some (.complex .f64 s t)) (hnm : opName op = [122, 109, 111, 118]) :
    Calls Tryd.prog 62 #[.pointer (some ⟨g, 0, none⟩), .agg #[.int .i64 op, .int .i64 a, .int .i64 b, .int .i32 n, .int .i64 f]] w fun e w' => e = .returned (.tuple #[]) ∧ CW w g (cells.set (8 + a) (.complex .f64 s t)) w' := by
  have hg := hB.lt
  have Hn := Lib.hid (fun w hT => hnm ▸ cname_any op w hT)
  have HB := Lib.hid hB
  have hA : (a : Int) < 4 := by omega
  have Hz := Lib.hid hz
  have Hz2 := Lib.hid hz2
  have hBm : ((b : Int).tmod 4) = (b : Int) := by rw [Int.tmod_eq_emod_of_nonneg (by omega)]; omega
  have hBb : (b : Int) < 4 := by omega
  clear hB hz hz2
  go_enter Tryd.func62, Tryd.ntmps62
  go_wp2_with fail
  go_quiet (fail)
  go_wp2_with (first
    | (go_at_call 82; refine (Hn.out _ ((hT.alloc _).drewN nq)).mono ?_; rintro e w2 ⟨rfl, hb2⟩)
    | fail)
  have hI2 : Blk w2 w.heap.size 25 [.int .i64 op, .int .i64 a, .int .i64 b, .int .i32 n, .int .i64 f] := ((Blk.new w 25 _).drewN nq).below hb2 (by simp)
  have hC2 := (((CW.start HB.out).alloc _).drewN nq).below hb2
  have i0 := hI2.cell 0
  have i2 := hI2.cell 2
  simp only [List.getElem?_cons_zero, List.getElem?_cons_succ] at i0 i2
  have c2 := (hC2.blk.cell (8 + b)).trans Hz2.out
  have hz2' := hC2.blk.lt
  go_quiet (fail)
  go_wp2_with (first
    | (go_at_call 82; refine (Hn.out _ ((hC2.tab hT htg).drewN _)).mono ?_; rintro e w3 ⟨rfl, hb3⟩; have hC3 := (hC2.drewN _).below hb3; have q3 := (hC3.blk.cell (8 + a)).trans Hz.out; have f3 := hC3.blk.free (8 + a))
    | fail)
  (try simp only [Exit.inBlock, Exit.then])
  first
    | (refine bodyPost_end (results_none rfl _ _ _) rfl ⟨rfl, ?_⟩; exact hC3.setReg _ _)
    | (refine bodyPost_ret (results_none rfl _ _ _) rfl ⟨rfl, ?_⟩; exact hC3.setReg _ _)

end Go.Proofs.YthcjnkakfpmpbaaDoor
