import Derived.Test.YthcjnkakfpmpbaaDoorQ4
import Derived.Deep.QuietTactic
import Derived.BigQuiet
namespace Go.Proofs.YthcjnkakfpmpbaaDoor
open Go.RowKit
set_option linter.unusedVariables false
set_option linter.unusedSimpArgs false
set_option maxRecDepth 20000 in
set_option maxHeartbeats 4000000 in
theorem goes_halt (op b n f : Int) (a : Int) (w : World) (g : Nat) (cells : List Value) (hT : TabIs 0 w) (htg : 0 ≠ g) (hB : Blk w g 119 cells)  (hnm : opName op = [104,97,108,116]) :
    Calls Tryd.prog 58 #[.pointer (some ⟨g,0,none⟩),.agg #[.int .i64 op,.int .i64 a,.int .i64 b,.int .i32 n,.int .i64 f]] w fun e w' => e = .returned (.agg #[.int .i64 5,.int .i64 0,.int .u32 0]) ∧ CW w g cells w' := by
  have hg := hB.lt
  have Hn := Lib.hid (fun w hT => hnm ▸ cname_any op w hT)
  have HB := Lib.hid hB
  clear hB
  have hI0 : Blk ((w.alloc (.cells #[.int .i64 op,.int .i64 a,.int .i64 b,.int .i32 n,.int .i64 f] 25)).alloc (.cells #[.int .i64 0,.int .i64 0,.int .u32 0] 56)) w.heap.size 25 [.int .i64 op,.int .i64 a,.int .i64 b,.int .i32 n,.int .i64 f] := (Blk.new w 25 [.int .i64 op,.int .i64 a,.int .i64 b,.int .i32 n,.int .i64 f]).alloc _
  have hX0 : Blk ((w.alloc (.cells #[.int .i64 op,.int .i64 a,.int .i64 b,.int .i32 n,.int .i64 f] 25)).alloc (.cells #[.int .i64 0,.int .i64 0,.int .u32 0] 56)) (w.heap.size + 1) 56 [.int .i64 0,.int .i64 0,.int .u32 0] := by
    have := Blk.new (w.alloc (.cells #[.int .i64 op,.int .i64 a,.int .i64 b,.int .i32 n,.int .i64 f] 25)) 56 [.int .i64 0,.int .i64 0,.int .u32 0]
    rw [World.size_alloc] at this
    exact this
  go_enter Tryd.func58,Tryd.ntmps58
  have hX1 : Blk ((w.alloc (.cells #[.int .i64 op,.int .i64 a,.int .i64 b,.int .i32 n,.int .i64 f] 25)).alloc (.cells #[.int .i64 0,.int .i64 0,.int .u32 0] 56)) (w.heap.size + 1) 56 [.int .i64 0,.int .i64 0,.int .u32 0] := hX0
  have hI1 : Blk ((w.alloc (.cells #[.int .i64 op,.int .i64 a,.int .i64 b,.int .i32 n,.int .i64 f] 25)).alloc (.cells #[.int .i64 0,.int .i64 0,.int .u32 0] 56)) w.heap.size 25 [.int .i64 op,.int .i64 a,.int .i64 b,.int .i32 n,.int .i64 f] := hI0
  go_wp2_with (first
    | (go_at_call 82; refine (Hn.out _ ((hT.alloc _).alloc _)).mono ?_; rintro e w2 ⟨rfl,hb2⟩; have hC2 := (((CW.start HB.out).alloc _).alloc _).below hb2; have hX2 := hX1.below hb2 hX1.lt; have hI2 := hI1.below hb2 hI1.lt; have i3 := hI2.cell 3; simp only [List.getElem?_cons_zero,List.getElem?_cons_succ] at i3; have HC2 := Lib.hid hC2; clear hC2)
    | ((with_reducible show wpList _ _ _ (Oper.mk none (Op.store _ (Operand.tmp 4) (Operand.tmp 10)) _ _ _ _ :: _) _ _); refine wpList_st3 hX2 rfl 56 (.tmp 4) (.tmp 10) (.int .i64 5) (.int .i64 0) (.int .u32 0) rfl (by kernel_rfl) (by kernel_rfl) (by simp [Value.oneCell']) (by kernel_rfl) ?_; rintro ⟨z0,z1,z2⟩)
    | fail)
  refine bodyPost_ret (v := .agg #[.int .i64 5,.int .i64 0,.int .u32 0]) (by simp [results,Tryd.results58,go_sem,z0,z1,z2]) rfl ⟨rfl,?_⟩
  exact CW.farCells (by omega) _ _ _ HC2.out
set_option maxRecDepth 20000 in
set_option maxHeartbeats 4000000 in
theorem goes_ret (op b n f : Int) (a : Int) (w : World) (g : Nat) (cells : List Value) (hT : TabIs 0 w) (htg : 0 ≠ g) (hB : Blk w g 119 cells)  (hnm : opName op = [114,101,116]) :
    Calls Tryd.prog 58 #[.pointer (some ⟨g,0,none⟩),.agg #[.int .i64 op,.int .i64 a,.int .i64 b,.int .i32 n,.int .i64 f]] w fun e w' => e = .returned (.agg #[.int .i64 3,.int .i64 0,.int .u32 0]) ∧ CW w g cells w' := by
  have hg := hB.lt
  have Hn := Lib.hid (fun w hT => hnm ▸ cname_any op w hT)
  have HB := Lib.hid hB
  clear hB
  have hI0 : Blk ((w.alloc (.cells #[.int .i64 op,.int .i64 a,.int .i64 b,.int .i32 n,.int .i64 f] 25)).alloc (.cells #[.int .i64 0,.int .i64 0,.int .u32 0] 56)) w.heap.size 25 [.int .i64 op,.int .i64 a,.int .i64 b,.int .i32 n,.int .i64 f] := (Blk.new w 25 [.int .i64 op,.int .i64 a,.int .i64 b,.int .i32 n,.int .i64 f]).alloc _
  have hX0 : Blk ((w.alloc (.cells #[.int .i64 op,.int .i64 a,.int .i64 b,.int .i32 n,.int .i64 f] 25)).alloc (.cells #[.int .i64 0,.int .i64 0,.int .u32 0] 56)) (w.heap.size + 1) 56 [.int .i64 0,.int .i64 0,.int .u32 0] := by
    have := Blk.new (w.alloc (.cells #[.int .i64 op,.int .i64 a,.int .i64 b,.int .i32 n,.int .i64 f] 25)) 56 [.int .i64 0,.int .i64 0,.int .u32 0]
    rw [World.size_alloc] at this
    exact this
  go_enter Tryd.func58,Tryd.ntmps58
  have hX1 : Blk ((w.alloc (.cells #[.int .i64 op,.int .i64 a,.int .i64 b,.int .i32 n,.int .i64 f] 25)).alloc (.cells #[.int .i64 0,.int .i64 0,.int .u32 0] 56)) (w.heap.size + 1) 56 [.int .i64 0,.int .i64 0,.int .u32 0] := hX0
  have hI1 : Blk ((w.alloc (.cells #[.int .i64 op,.int .i64 a,.int .i64 b,.int .i32 n,.int .i64 f] 25)).alloc (.cells #[.int .i64 0,.int .i64 0,.int .u32 0] 56)) w.heap.size 25 [.int .i64 op,.int .i64 a,.int .i64 b,.int .i32 n,.int .i64 f] := hI0
  go_wp2_with (first
    | (go_at_call 82; refine (Hn.out _ ((hT.alloc _).alloc _)).mono ?_; rintro e w2 ⟨rfl,hb2⟩; have hC2 := (((CW.start HB.out).alloc _).alloc _).below hb2; have hX2 := hX1.below hb2 hX1.lt; have hI2 := hI1.below hb2 hI1.lt; have i3 := hI2.cell 3; simp only [List.getElem?_cons_zero,List.getElem?_cons_succ] at i3; have HC2 := Lib.hid hC2; clear hC2)
    | ((with_reducible show wpList _ _ _ (Oper.mk none (Op.store _ (Operand.tmp 4) (Operand.tmp 13)) _ _ _ _ :: _) _ _); refine wpList_st3 hX2 rfl 56 (.tmp 4) (.tmp 13) (.int .i64 3) (.int .i64 0) (.int .u32 0) rfl (by kernel_rfl) (by kernel_rfl) (by simp [Value.oneCell']) (by kernel_rfl) ?_; rintro ⟨z0,z1,z2⟩)
    | fail)
  refine bodyPost_ret (v := .agg #[.int .i64 3,.int .i64 0,.int .u32 0]) (by simp [results,Tryd.results58,go_sem,z0,z1,z2]) rfl ⟨rfl,?_⟩
  exact CW.farCells (by omega) _ _ _ HC2.out
set_option maxRecDepth 20000 in
set_option maxHeartbeats 4000000 in
theorem goes_trap (op b n f : Int) (a : Int) (w : World) (g : Nat) (cells : List Value) (hT : TabIs 0 w) (htg : 0 ≠ g) (hB : Blk w g 119 cells) (n0 : 0 ≤ n) (n1 : n ≤ 255) (hnm : opName op = [116,114,97,112]) :
    Calls Tryd.prog 58 #[.pointer (some ⟨g,0,none⟩),.agg #[.int .i64 op,.int .i64 a,.int .i64 b,.int .i32 n,.int .i64 f]] w fun e w' => e = .returned (.agg #[.int .i64 6,.int .i64 (100 + n),.int .u32 0]) ∧ CW w g cells w' := by
  have hg := hB.lt
  have Hn := Lib.hid (fun w hT => hnm ▸ cname_any op w hT)
  have HB := Lib.hid hB
  clear hB
  have hI0 : Blk ((w.alloc (.cells #[.int .i64 op,.int .i64 a,.int .i64 b,.int .i32 n,.int .i64 f] 25)).alloc (.cells #[.int .i64 0,.int .i64 0,.int .u32 0] 56)) w.heap.size 25 [.int .i64 op,.int .i64 a,.int .i64 b,.int .i32 n,.int .i64 f] := (Blk.new w 25 [.int .i64 op,.int .i64 a,.int .i64 b,.int .i32 n,.int .i64 f]).alloc _
  have hX0 : Blk ((w.alloc (.cells #[.int .i64 op,.int .i64 a,.int .i64 b,.int .i32 n,.int .i64 f] 25)).alloc (.cells #[.int .i64 0,.int .i64 0,.int .u32 0] 56)) (w.heap.size + 1) 56 [.int .i64 0,.int .i64 0,.int .u32 0] := by
    have := Blk.new (w.alloc (.cells #[.int .i64 op,.int .i64 a,.int .i64 b,.int .i32 n,.int .i64 f] 25)) 56 [.int .i64 0,.int .i64 0,.int .u32 0]
    rw [World.size_alloc] at this
    exact this
  go_enter Tryd.func58,Tryd.ntmps58
  have hX1 : Blk ((w.alloc (.cells #[.int .i64 op,.int .i64 a,.int .i64 b,.int .i32 n,.int .i64 f] 25)).alloc (.cells #[.int .i64 0,.int .i64 0,.int .u32 0] 56)) (w.heap.size + 1) 56 [.int .i64 0,.int .i64 0,.int .u32 0] := hX0
  have hI1 : Blk ((w.alloc (.cells #[.int .i64 op,.int .i64 a,.int .i64 b,.int .i32 n,.int .i64 f] 25)).alloc (.cells #[.int .i64 0,.int .i64 0,.int .u32 0] 56)) w.heap.size 25 [.int .i64 op,.int .i64 a,.int .i64 b,.int .i32 n,.int .i64 f] := hI0
  go_wp2_with (first
    | (go_at_call 82; refine (Hn.out _ ((hT.alloc _).alloc _)).mono ?_; rintro e w2 ⟨rfl,hb2⟩; have hC2 := (((CW.start HB.out).alloc _).alloc _).below hb2; have hX2 := hX1.below hb2 hX1.lt; have hI2 := hI1.below hb2 hI1.lt; have i3 := hI2.cell 3; simp only [List.getElem?_cons_zero,List.getElem?_cons_succ] at i3; have HC2 := Lib.hid hC2; clear hC2)
    | (go_at_call 57; refine (ctrap_any (100 + n) w2).mono ?_; rintro e w4 ⟨rfl,hb4⟩; have hX4 := hX2.below hb4 hX2.lt; have HC4 := Lib.hid (HC2.out.below hb4))
    | ((with_reducible show wpList _ _ _ (Oper.mk none (Op.store _ (Operand.tmp 4) (Operand.tmp 20)) _ _ _ _ :: _) _ _); refine wpList_st3 hX4 rfl 56 (.tmp 4) (.tmp 20) (.int .i64 6) (.int .i64 (100 + n)) (.int .u32 0) rfl (by kernel_rfl) (by kernel_rfl) (by simp [Value.oneCell']) (by kernel_rfl) ?_; rintro ⟨z0,z1,z2⟩)
    | fail)
  refine bodyPost_ret (v := .agg #[.int .i64 6,.int .i64 (100 + n),.int .u32 0]) (by simp [results,Tryd.results58,go_sem,z0,z1,z2]) rfl ⟨rfl,?_⟩
  exact CW.farCells (by omega) _ _ _ HC4.out
set_option maxRecDepth 20000 in
set_option maxHeartbeats 4000000 in
theorem one_pop0 (op b n f : Int) (a : Nat) (w : World) (g : Nat) (cells : List Value) (hT : TabIs 0 w) (htg : 0 ≠ g) (hB : Blk w g 119 cells) (ha : a < 8) (A : Option Addr) (c : Nat) (hx : cells[268]? = some (.slice A 0 c)) (hnm : opName op = [112,111,112]) :
    Calls Tryd.prog 59 #[.pointer (some ⟨g,0,none⟩),.agg #[.int .i64 op,.int .i64 a,.int .i64 b,.int .i32 n,.int .i64 f]] w fun e w' => e = .returned (.agg #[.int .i64 6,.int .i64 4,.int .u32 0]) ∧ CW w g cells w' := by
  have hg := hB.lt
  have Hn := Lib.hid (fun w hT => hnm ▸ cname_any op w hT)
  have HB := Lib.hid hB
  have Hx := Lib.hid hx
  clear hx
  clear hB
  have hI0 : Blk ((w.alloc (.cells #[.int .i64 op,.int .i64 a,.int .i64 b,.int .i32 n,.int .i64 f] 25)).alloc (.cells #[.int .i64 0,.int .i64 0,.int .u32 0] 56)) w.heap.size 25 [.int .i64 op,.int .i64 a,.int .i64 b,.int .i32 n,.int .i64 f] := (Blk.new w 25 [.int .i64 op,.int .i64 a,.int .i64 b,.int .i32 n,.int .i64 f]).alloc _
  have hX0 : Blk ((w.alloc (.cells #[.int .i64 op,.int .i64 a,.int .i64 b,.int .i32 n,.int .i64 f] 25)).alloc (.cells #[.int .i64 0,.int .i64 0,.int .u32 0] 56)) (w.heap.size + 1) 56 [.int .i64 0,.int .i64 0,.int .u32 0] := by
    have := Blk.new (w.alloc (.cells #[.int .i64 op,.int .i64 a,.int .i64 b,.int .i32 n,.int .i64 f] 25)) 56 [.int .i64 0,.int .i64 0,.int .u32 0]
    rw [World.size_alloc] at this
    exact this
  go_enter Tryd.func59,Tryd.ntmps59
  go_wp2_with fail
  go_quiet (fail)
  have hX1 : Blk (((w.alloc (.cells #[.int .i64 op,.int .i64 a,.int .i64 b,.int .i32 n,.int .i64 f] 25)).alloc (.cells #[.int .i64 0,.int .i64 0,.int .u32 0] 56)).drewN nq) (w.heap.size + 1) 56 [.int .i64 0,.int .i64 0,.int .u32 0] := hX0
  have hI1 : Blk (((w.alloc (.cells #[.int .i64 op,.int .i64 a,.int .i64 b,.int .i32 n,.int .i64 f] 25)).alloc (.cells #[.int .i64 0,.int .i64 0,.int .u32 0] 56)).drewN nq) w.heap.size 25 [.int .i64 op,.int .i64 a,.int .i64 b,.int .i32 n,.int .i64 f] := hI0
  go_wp2_with (first
    | (go_at_call 82; refine (Hn.out _ (((hT.alloc _).alloc _).drewN nq)).mono ?_; rintro e w2 ⟨rfl,hb2⟩; have hC2 := ((((CW.start HB.out).alloc _).alloc _).drewN nq).below hb2; have hX2 := hX1.below hb2 hX1.lt; have hI2 := hI1.below hb2 hI1.lt; have i3 := hI2.cell 3; simp only [List.getElem?_cons_zero,List.getElem?_cons_succ] at i3; have q2 := (hC2.blk.cell 268).trans Hx.out; have HC2 := Lib.hid hC2; clear hC2)
    | (go_at_call 57; refine (ctrap_any 4 w2).mono ?_; rintro e w4 ⟨rfl,hb4⟩; have hX4 := hX2.below hb4 hX2.lt; have HC4 := Lib.hid (HC2.out.below hb4))
    | ((with_reducible show wpList _ _ _ (Oper.mk none (Op.store _ (Operand.tmp 4) (Operand.tmp 92)) _ _ _ _ :: _) _ _); refine wpList_st3 hX4 rfl 56 (.tmp 4) (.tmp 92) (.int .i64 6) (.int .i64 4) (.int .u32 0) rfl (by kernel_rfl) (by kernel_rfl) (by simp [Value.oneCell']) (by kernel_rfl) ?_; rintro ⟨z0,z1,z2⟩)
    | fail)
  refine bodyPost_ret (v := .agg #[.int .i64 6,.int .i64 4,.int .u32 0]) (by simp [results,Tryd.results59,go_sem,z0,z1,z2]) rfl ⟨rfl,?_⟩
  exact CW.farCells (by omega) _ _ _ HC4.out
set_option maxRecDepth 20000 in
set_option maxHeartbeats 4000000 in
theorem one_in0 (op b n f : Int) (a : Nat) (w : World) (g : Nat) (cells : List Value) (hT : TabIs 0 w) (htg : 0 ≠ g) (hB : Blk w g 119 cells) (ha : a < 8) (A : Option Addr) (c : Nat) (hx : cells[270]? = some (.slice A 0 c)) (hnm : opName op = [105,110]) :
    Calls Tryd.prog 59 #[.pointer (some ⟨g,0,none⟩),.agg #[.int .i64 op,.int .i64 a,.int .i64 b,.int .i32 n,.int .i64 f]] w fun e w' => e = .returned (.agg #[.int .i64 6,.int .i64 6,.int .u32 0]) ∧ CW w g cells w' := by
  have hg := hB.lt
  have Hn := Lib.hid (fun w hT => hnm ▸ cname_any op w hT)
  have HB := Lib.hid hB
  have Hx := Lib.hid hx
  clear hx
  clear hB
  have hI0 : Blk ((w.alloc (.cells #[.int .i64 op,.int .i64 a,.int .i64 b,.int .i32 n,.int .i64 f] 25)).alloc (.cells #[.int .i64 0,.int .i64 0,.int .u32 0] 56)) w.heap.size 25 [.int .i64 op,.int .i64 a,.int .i64 b,.int .i32 n,.int .i64 f] := (Blk.new w 25 [.int .i64 op,.int .i64 a,.int .i64 b,.int .i32 n,.int .i64 f]).alloc _
  have hX0 : Blk ((w.alloc (.cells #[.int .i64 op,.int .i64 a,.int .i64 b,.int .i32 n,.int .i64 f] 25)).alloc (.cells #[.int .i64 0,.int .i64 0,.int .u32 0] 56)) (w.heap.size + 1) 56 [.int .i64 0,.int .i64 0,.int .u32 0] := by
    have := Blk.new (w.alloc (.cells #[.int .i64 op,.int .i64 a,.int .i64 b,.int .i32 n,.int .i64 f] 25)) 56 [.int .i64 0,.int .i64 0,.int .u32 0]
    rw [World.size_alloc] at this
    exact this
  go_enter Tryd.func59,Tryd.ntmps59
  go_wp2_with fail
  go_quiet (fail)
  have hX1 : Blk (((w.alloc (.cells #[.int .i64 op,.int .i64 a,.int .i64 b,.int .i32 n,.int .i64 f] 25)).alloc (.cells #[.int .i64 0,.int .i64 0,.int .u32 0] 56)).drewN nq) (w.heap.size + 1) 56 [.int .i64 0,.int .i64 0,.int .u32 0] := hX0
  have hI1 : Blk (((w.alloc (.cells #[.int .i64 op,.int .i64 a,.int .i64 b,.int .i32 n,.int .i64 f] 25)).alloc (.cells #[.int .i64 0,.int .i64 0,.int .u32 0] 56)).drewN nq) w.heap.size 25 [.int .i64 op,.int .i64 a,.int .i64 b,.int .i32 n,.int .i64 f] := hI0
  go_wp2_with (first
    | (go_at_call 82; refine (Hn.out _ (((hT.alloc _).alloc _).drewN nq)).mono ?_; rintro e w2 ⟨rfl,hb2⟩; have hC2 := ((((CW.start HB.out).alloc _).alloc _).drewN nq).below hb2; have hX2 := hX1.below hb2 hX1.lt; have hI2 := hI1.below hb2 hI1.lt; have i3 := hI2.cell 3; simp only [List.getElem?_cons_zero,List.getElem?_cons_succ] at i3; have q2 := (hC2.blk.cell 270).trans Hx.out; have HC2 := Lib.hid hC2; clear hC2)
    | (go_at_call 57; refine (ctrap_any 6 w2).mono ?_; rintro e w4 ⟨rfl,hb4⟩; have hX4 := hX2.below hb4 hX2.lt; have HC4 := Lib.hid (HC2.out.below hb4))
    | ((with_reducible show wpList _ _ _ (Oper.mk none (Op.store _ (Operand.tmp 4) (Operand.tmp 45)) _ _ _ _ :: _) _ _); refine wpList_st3 hX4 rfl 56 (.tmp 4) (.tmp 45) (.int .i64 6) (.int .i64 6) (.int .u32 0) rfl (by kernel_rfl) (by kernel_rfl) (by simp [Value.oneCell']) (by kernel_rfl) ?_; rintro ⟨z0,z1,z2⟩)
    | fail)
  refine bodyPost_ret (v := .agg #[.int .i64 6,.int .i64 6,.int .u32 0]) (by simp [results,Tryd.results59,go_sem,z0,z1,z2]) rfl ⟨rfl,?_⟩
  exact CW.farCells (by omega) _ _ _ HC4.out
set_option maxRecDepth 20000 in
set_option maxHeartbeats 4000000 in
theorem one_jr (op b n f : Int) (a : Nat) (w : World) (g : Nat) (cells : List Value) (hT : TabIs 0 w) (htg : 0 ≠ g) (hB : Blk w g 119 cells) (ha : a < 8) (x : Int) (hx : cells[a]? = some (.int .i32 x)) (x0 : -2147483648 ≤ x) (x1 : x ≤ 2147483647) (hnm : opName op = [106,114]) :
    Calls Tryd.prog 59 #[.pointer (some ⟨g,0,none⟩),.agg #[.int .i64 op,.int .i64 a,.int .i64 b,.int .i32 n,.int .i64 f]] w fun e w' => e = .returned (.agg #[.int .i64 4,.int .i64 0,.int .u32 (x % 4294967296)]) ∧ CW w g cells w' := by
  have hg := hB.lt
  have Hn := Lib.hid (fun w hT => hnm ▸ cname_any op w hT)
  have HB := Lib.hid hB
  have Hx := Lib.hid hx
  clear hx
  clear hB
  have hI0 : Blk ((w.alloc (.cells #[.int .i64 op,.int .i64 a,.int .i64 b,.int .i32 n,.int .i64 f] 25)).alloc (.cells #[.int .i64 0,.int .i64 0,.int .u32 0] 56)) w.heap.size 25 [.int .i64 op,.int .i64 a,.int .i64 b,.int .i32 n,.int .i64 f] := (Blk.new w 25 [.int .i64 op,.int .i64 a,.int .i64 b,.int .i32 n,.int .i64 f]).alloc _
  have hX0 : Blk ((w.alloc (.cells #[.int .i64 op,.int .i64 a,.int .i64 b,.int .i32 n,.int .i64 f] 25)).alloc (.cells #[.int .i64 0,.int .i64 0,.int .u32 0] 56)) (w.heap.size + 1) 56 [.int .i64 0,.int .i64 0,.int .u32 0] := by
    have := Blk.new (w.alloc (.cells #[.int .i64 op,.int .i64 a,.int .i64 b,.int .i32 n,.int .i64 f] 25)) 56 [.int .i64 0,.int .i64 0,.int .u32 0]
    rw [World.size_alloc] at this
    exact this
  go_enter Tryd.func59,Tryd.ntmps59
  go_wp2_with fail
  go_quiet (fail)
  have hX1 : Blk (((w.alloc (.cells #[.int .i64 op,.int .i64 a,.int .i64 b,.int .i32 n,.int .i64 f] 25)).alloc (.cells #[.int .i64 0,.int .i64 0,.int .u32 0] 56)).drewN nq) (w.heap.size + 1) 56 [.int .i64 0,.int .i64 0,.int .u32 0] := hX0
  have hI1 : Blk (((w.alloc (.cells #[.int .i64 op,.int .i64 a,.int .i64 b,.int .i32 n,.int .i64 f] 25)).alloc (.cells #[.int .i64 0,.int .i64 0,.int .u32 0] 56)).drewN nq) w.heap.size 25 [.int .i64 op,.int .i64 a,.int .i64 b,.int .i32 n,.int .i64 f] := hI0
  go_wp2_with (first
    | (go_at_call 82; refine (Hn.out _ (((hT.alloc _).alloc _).drewN nq)).mono ?_; rintro e w2 ⟨rfl,hb2⟩; have hC2 := ((((CW.start HB.out).alloc _).alloc _).drewN nq).below hb2; have hX2 := hX1.below hb2 hX1.lt; have hI2 := hI1.below hb2 hI1.lt; have i3 := hI2.cell 3; simp only [List.getElem?_cons_zero,List.getElem?_cons_succ] at i3; have q2 := (hC2.blk.cell a).trans Hx.out; have HC2 := Lib.hid hC2; clear hC2)
    | ((with_reducible show wpList _ _ _ (Oper.mk none (Op.store _ (Operand.tmp 4) (Operand.tmp 119)) _ _ _ _ :: _) _ _); refine wpList_st3 hX2 rfl 56 (.tmp 4) (.tmp 119) (.int .i64 4) (.int .i64 0) (.int .u32 (x % 4294967296)) rfl (by kernel_rfl) (by kernel_rfl) (by simp [Value.oneCell']) (by kernel_rfl) ?_; rintro ⟨z0,z1,z2⟩)
    | fail)
  refine bodyPost_ret (v := .agg #[.int .i64 4,.int .i64 0,.int .u32 (x % 4294967296)]) (by simp [results,Tryd.results59,go_sem,z0,z1,z2]) rfl ⟨rfl,?_⟩
  exact CW.farCells (by omega) _ _ _ HC2.out
end Go.Proofs.YthcjnkakfpmpbaaDoor
namespace Go.Proofs.YthcjnkakfpmpbaaDoor
open Go.RowKit
set_option linter.unusedVariables false
set_option linter.unusedSimpArgs false
set_option maxRecDepth 20000 in
set_option maxHeartbeats 40000000 in
theorem two_K (r : Int) (op n f : Int) (a b : Nat) (M : Value) (from_ : Int) (x y : Int) (w : World) (g : Nat) (cells : List Value) (hT : TabIs 0 w) (htg : 0 ≠ g) (hB : Blk w g 119 cells) (ha : a < 8) (hb : b < 8)
    (hx : cells[a]? = some (.int .i32 x)) (hy : cells[b]? = some (.int .i32 y)) (hx0 : -2147483648 ≤ x) (hx1 : x ≤ 2147483647) (hy0 : -2147483648 ≤ y) (hy1 : y ≤ 2147483647)  (hr : (opName op = [109,111,118] ∧ (y) = r) ∨ (opName op = [97,100,100] ∧ (wrap32 (x + y)) = r) ∨ (opName op = [115,117,98] ∧ (wrap32 (x - y)) = r) ∨ (opName op = [109,117,108] ∧ (wrap32 (x * y)) = r) ∨ (opName op = [97,110,100] ∧ (bits BinOp.and IntKind.i32 x y) = r) ∨ (opName op = [111,114] ∧ (bits BinOp.or IntKind.i32 x y) = r) ∨ (opName op = [120,111,114] ∧ (bits BinOp.xor IntKind.i32 x y) = r) ∨ (opName op = [108,116] ∧ (b01 (decide (x < y))) = r) ∨ (opName op = [101,113] ∧ (b01 (x == y)) = r)) :
    Calls Tryd.prog 60 #[.pointer (some ⟨g,0,none⟩),.agg #[.int .i64 op,.int .i64 a,.int .i64 b,.int .i32 n,.int .i64 f],M,.int .i64 from_] w fun e w' => e = .returned (.agg #[.int .i64 0,.int .i64 0,.int .u32 0]) ∧ CW w g (cells.set a (.int .i32 r)) w' := by
  rcases hr with ⟨hnm,rfl⟩ | ⟨hnm,rfl⟩ | ⟨hnm,rfl⟩ | ⟨hnm,rfl⟩ | ⟨hnm,rfl⟩ | ⟨hnm,rfl⟩ | ⟨hnm,rfl⟩ | ⟨hnm,rfl⟩ | ⟨hnm,rfl⟩
  all_goals
    have hg := hB.lt
    have Hn := Lib.hid (fun w hT => hnm ▸ cname_any op w hT)
    have HB := Lib.hid hB
    have ca := (hB.cell a).trans hx
    have cb := (hB.cell b).trans hy
    have qa : ((w.alloc (.cells #[.int .i64 op,.int .i64 a,.int .i64 b,.int .i32 n,.int .i64 f] 25)).alloc (.cells #[.int .i64 0,.int .i64 0,.int .u32 0] 56)).cell? ⟨g,a,none⟩ = some (.int .i32 x) := by
      rw [World.cell?_alloc_lt _ _ ⟨g,a,none⟩ (by simp; omega),World.cell?_alloc_lt _ _ ⟨g,a,none⟩ hg]; exact ca
    have qb : ((w.alloc (.cells #[.int .i64 op,.int .i64 a,.int .i64 b,.int .i32 n,.int .i64 f] 25)).alloc (.cells #[.int .i64 0,.int .i64 0,.int .u32 0] 56)).cell? ⟨g,b,none⟩ = some (.int .i32 y) := by
      rw [World.cell?_alloc_lt _ _ ⟨g,b,none⟩ (by simp; omega),World.cell?_alloc_lt _ _ ⟨g,b,none⟩ hg]; exact cb
    have Hx := Lib.hid hx
    clear hB hx hy
    go_enter Tryd.func60,Tryd.ntmps60
    go_wp2_with fail
    go_quiet (fail)
    have hX0 : Blk (((w.alloc (.cells #[.int .i64 op,.int .i64 a,.int .i64 b,.int .i32 n,.int .i64 f] 25)).alloc (.cells #[.int .i64 0,.int .i64 0,.int .u32 0] 56)).drewN nq) (w.heap.size + 1) 56 [.int .i64 0,.int .i64 0,.int .u32 0] := by
      have := Blk.new (w.alloc (.cells #[.int .i64 op,.int .i64 a,.int .i64 b,.int .i32 n,.int .i64 f] 25)) 56 [.int .i64 0,.int .i64 0,.int .u32 0]
      rw [World.size_alloc] at this
      exact this
    clear qa qb ca cb
    go_wp2_with (first
      | (go_at_call 82; refine (Hn.out _ (((hT.alloc _).alloc _).drewN nq)).mono ?_; rintro e w2 ⟨rfl,hb2⟩; have hC2 := ((((CW.start HB.out).alloc _).alloc _).drewN nq).below hb2; have hX2 := hX0.below hb2 hX0.lt; have q2 := (hC2.blk.cell a).trans Hx.out; have f2 := hC2.blk.free a; have HC2 := Lib.hid hC2; clear hC2)
      | (go_at_call 83; refine (truth_any _ _).mono ?_; rintro e w4 ⟨rfl,rfl⟩)
      | ((with_reducible show wpList _ _ _ (Oper.mk none (Op.store _ (Operand.tmp 8) (Operand.tmp 173)) _ _ _ _ :: _) _ _); refine wpList_st3 (hX2.other (by show w.heap.size + 1 ≠ g; omega)) rfl 56 (.tmp 8) (.tmp 173) (.int .i64 0) (.int .i64 0) (.int .u32 0) rfl (by kernel_rfl) (by kernel_rfl) (by simp [Value.oneCell']) (by kernel_rfl) ?_; rintro ⟨z0,z1,z2⟩)
      | fail)
    refine bodyPost_ret (v := .agg #[.int .i64 0,.int .i64 0,.int .u32 0]) (by simp [results,Tryd.results60,go_sem,z0,z1,z2]) rfl ⟨rfl,?_⟩
    exact CW.farCells (by omega) _ _ _ (HC2.out.setReg a _)
set_option maxRecDepth 20000 in
set_option maxHeartbeats 2000000 in
theorem two_div (op n f : Int) (a b : Nat) (M : Value) (from_ : Int) (x y : Int) (w : World) (g : Nat) (cells : List Value) (hT : TabIs 0 w) (htg : 0 ≠ g) (hB : Blk w g 119 cells) (ha : a < 8) (hb : b < 8)
    (hx : cells[a]? = some (.int .i32 x)) (hy : cells[b]? = some (.int .i32 y)) (hx0 : -2147483648 ≤ x) (hx1 : x ≤ 2147483647) (hy0 : -2147483648 ≤ y) (hy1 : y ≤ 2147483647) (hyz : (y == 0) = false) (hyy : ¬ y = 0) (hnm : opName op = [100,105,118]) :
    Calls Tryd.prog 60 #[.pointer (some ⟨g,0,none⟩),.agg #[.int .i64 op,.int .i64 a,.int .i64 b,.int .i32 n,.int .i64 f],M,.int .i64 from_] w fun e w' => e = .returned (.agg #[.int .i64 0,.int .i64 0,.int .u32 0]) ∧ CW w g (cells.set a (.int .i32 (wrap32 (x.tdiv y)))) w' := by
  have hg := hB.lt
  have Hn := Lib.hid (fun w hT => hnm ▸ cname_any op w hT)
  have HB := Lib.hid hB
  have ca := (hB.cell a).trans hx
  have cb := (hB.cell b).trans hy
  have qa : ((w.alloc (.cells #[.int .i64 op,.int .i64 a,.int .i64 b,.int .i32 n,.int .i64 f] 25)).alloc (.cells #[.int .i64 0,.int .i64 0,.int .u32 0] 56)).cell? ⟨g,a,none⟩ = some (.int .i32 x) := by
    rw [World.cell?_alloc_lt _ _ ⟨g,a,none⟩ (by simp; omega),World.cell?_alloc_lt _ _ ⟨g,a,none⟩ hg]; exact ca
  have qb : ((w.alloc (.cells #[.int .i64 op,.int .i64 a,.int .i64 b,.int .i32 n,.int .i64 f] 25)).alloc (.cells #[.int .i64 0,.int .i64 0,.int .u32 0] 56)).cell? ⟨g,b,none⟩ = some (.int .i32 y) := by
    rw [World.cell?_alloc_lt _ _ ⟨g,b,none⟩ (by simp; omega),World.cell?_alloc_lt _ _ ⟨g,b,none⟩ hg]; exact cb
  have Hx := Lib.hid hx
  clear hB hx hy
  go_enter Tryd.func60,Tryd.ntmps60
  go_wp2_with fail
  go_quiet (fail)
  have hX0 : Blk (((w.alloc (.cells #[.int .i64 op,.int .i64 a,.int .i64 b,.int .i32 n,.int .i64 f] 25)).alloc (.cells #[.int .i64 0,.int .i64 0,.int .u32 0] 56)).drewN nq) (w.heap.size + 1) 56 [.int .i64 0,.int .i64 0,.int .u32 0] := by
    have := Blk.new (w.alloc (.cells #[.int .i64 op,.int .i64 a,.int .i64 b,.int .i32 n,.int .i64 f] 25)) 56 [.int .i64 0,.int .i64 0,.int .u32 0]
    rw [World.size_alloc] at this
    exact this
  clear qa qb ca cb
  go_wp2_with (first
    | (go_at_call 82; refine (Hn.out _ (((hT.alloc _).alloc _).drewN nq)).mono ?_; rintro e w2 ⟨rfl,hb2⟩; have hC2 := ((((CW.start HB.out).alloc _).alloc _).drewN nq).below hb2; have hX2 := hX0.below hb2 hX0.lt; have q2 := (hC2.blk.cell a).trans Hx.out; have f2 := hC2.blk.free a; have HC2 := Lib.hid hC2; clear hC2)
    | (go_at_call 83; refine (truth_any _ _).mono ?_; rintro e w4 ⟨rfl,rfl⟩)
    | ((with_reducible show wpList _ _ _ (Oper.mk none (Op.store _ (Operand.tmp 8) (Operand.tmp 173)) _ _ _ _ :: _) _ _); refine wpList_st3 (hX2.other (by show w.heap.size + 1 ≠ g; omega)) rfl 56 (.tmp 8) (.tmp 173) (.int .i64 0) (.int .i64 0) (.int .u32 0) rfl (by kernel_rfl) (by kernel_rfl) (by simp [Value.oneCell']) (by kernel_rfl) ?_; rintro ⟨z0,z1,z2⟩)
    | fail)
  refine bodyPost_ret (v := .agg #[.int .i64 0,.int .i64 0,.int .u32 0]) (by simp [results,Tryd.results60,go_sem,z0,z1,z2]) rfl ⟨rfl,?_⟩
  exact CW.farCells (by omega) _ _ _ (HC2.out.setReg a _)
end Go.Proofs.YthcjnkakfpmpbaaDoor
