import Derived.Test.YthcjnkakfpmpbaaDoorQ4
import Derived.Deep.QuietTactic
import Derived.BigQuiet
namespace Go.Proofs.YthcjnkakfpmpbaaDoor
open Go.RowKit
set_option linter.unusedVariables false
set_option linter.unusedSimpArgs false
set_option maxRecDepth 20000 in
set_option maxHeartbeats 4000000 in
theorem goes_nop (op b n f : Int) (a : Int) (w : World) (g : Nat) (cells : List Value) (hT : TabIs 0 w) (htg : 0 ≠ g) (hB : Blk w g 119 cells)  (hnm : opName op = [110,111,112]) :
    Calls Tryd.prog 58 #[.pointer (some ⟨g,0,none⟩),.agg #[.int .i64 op,.int .i64 a,.int .i64 b,.int .i32 n,.int .i64 f]] w fun e w' => e = .returned (.agg #[.int .i64 0,.int .i64 0,.int .u32 0]) ∧ CW w g cells w' := by
  have hg := hB.lt
  have Hn := Lib.hid (fun w hT => hnm ▸ cname_any op w hT)
  have HB := Lib.hid hB
  skip
  clear hB 
  have hI0 : Blk ((w.alloc (.cells #[.int .i64 op,.int .i64 a,.int .i64 b,.int .i32 n,.int .i64 f] 25)).alloc (.cells #[.int .i64 0,.int .i64 0,.int .u32 0] 56)) w.heap.size 25 [.int .i64 op,.int .i64 a,.int .i64 b,.int .i32 n,.int .i64 f] := (Blk.new w 25 [.int .i64 op,.int .i64 a,.int .i64 b,.int .i32 n,.int .i64 f]).alloc _
  have hX0 : Blk ((w.alloc (.cells #[.int .i64 op,.int .i64 a,.int .i64 b,.int .i32 n,.int .i64 f] 25)).alloc (.cells #[.int .i64 0,.int .i64 0,.int .u32 0] 56)) (w.heap.size + 1) 56 [.int .i64 0,.int .i64 0,.int .u32 0] := by
    have := Blk.new (w.alloc (.cells #[.int .i64 op,.int .i64 a,.int .i64 b,.int .i32 n,.int .i64 f] 25)) 56 [.int .i64 0,.int .i64 0,.int .u32 0]
    rw [World.size_alloc] at this
    exact this
  go_enter Tryd.func58,Tryd.ntmps58
  go_wp2_with (first
    | (go_at_call 82; refine (Hn.out _ ((hT.alloc _).alloc _)).mono ?_; rintro e w2 ⟨rfl,hb2⟩; have hC2 := (((CW.start HB.out).alloc _).alloc _).below hb2; have hX2 := hX0.below hb2 hX0.lt; have hI2 := hI0.below hb2 hI0.lt; have i1 := hI2.cell 1; simp only [List.getElem?_cons_zero,List.getElem?_cons_succ] at i1; have HC2 := Lib.hid hC2; clear hC2)
    | ((with_reducible show wpList _ _ _ (Oper.mk none (Op.store _ (Operand.tmp 4) (Operand.tmp 49)) _ _ _ _ :: _) _ _); refine wpList_st3 hX2 rfl 56 (.tmp 4) (.tmp 49) (.int .i64 0) (.int .i64 0) (.int .u32 0) rfl (by kernel_rfl) (by kernel_rfl) (by simp [Value.oneCell']) (by kernel_rfl) ?_; rintro ⟨z0,z1,z2⟩)
    | fail)
  refine bodyPost_ret (v := .agg #[.int .i64 0,.int .i64 0,.int .u32 0]) (by simp [results,Tryd.results58,go_sem,z0,z1,z2]) rfl ⟨rfl,?_⟩
  exact CW.farCells (by omega) _ _ _ HC2.out
set_option maxRecDepth 20000 in
set_option maxHeartbeats 4000000 in
theorem goes_jmp (op b n f : Int) (a : Int) (w : World) (g : Nat) (cells : List Value) (hT : TabIs 0 w) (htg : 0 ≠ g) (hB : Blk w g 119 cells)  (hnm : opName op = [106,109,112]) :
    Calls Tryd.prog 58 #[.pointer (some ⟨g,0,none⟩),.agg #[.int .i64 op,.int .i64 a,.int .i64 b,.int .i32 n,.int .i64 f]] w fun e w' => e = .returned (.agg #[.int .i64 1,.int .i64 0,.int .u32 0]) ∧ CW w g cells w' := by
  have hg := hB.lt
  have Hn := Lib.hid (fun w hT => hnm ▸ cname_any op w hT)
  have HB := Lib.hid hB
  skip
  clear hB 
  have hI0 : Blk ((w.alloc (.cells #[.int .i64 op,.int .i64 a,.int .i64 b,.int .i32 n,.int .i64 f] 25)).alloc (.cells #[.int .i64 0,.int .i64 0,.int .u32 0] 56)) w.heap.size 25 [.int .i64 op,.int .i64 a,.int .i64 b,.int .i32 n,.int .i64 f] := (Blk.new w 25 [.int .i64 op,.int .i64 a,.int .i64 b,.int .i32 n,.int .i64 f]).alloc _
  have hX0 : Blk ((w.alloc (.cells #[.int .i64 op,.int .i64 a,.int .i64 b,.int .i32 n,.int .i64 f] 25)).alloc (.cells #[.int .i64 0,.int .i64 0,.int .u32 0] 56)) (w.heap.size + 1) 56 [.int .i64 0,.int .i64 0,.int .u32 0] := by
    have := Blk.new (w.alloc (.cells #[.int .i64 op,.int .i64 a,.int .i64 b,.int .i32 n,.int .i64 f] 25)) 56 [.int .i64 0,.int .i64 0,.int .u32 0]
    rw [World.size_alloc] at this
    exact this
  go_enter Tryd.func58,Tryd.ntmps58
  go_wp2_with (first
    | (go_at_call 82; refine (Hn.out _ ((hT.alloc _).alloc _)).mono ?_; rintro e w2 ⟨rfl,hb2⟩; have hC2 := (((CW.start HB.out).alloc _).alloc _).below hb2; have hX2 := hX0.below hb2 hX0.lt; have hI2 := hI0.below hb2 hI0.lt; have i1 := hI2.cell 1; simp only [List.getElem?_cons_zero,List.getElem?_cons_succ] at i1; have HC2 := Lib.hid hC2; clear hC2)
    | ((with_reducible show wpList _ _ _ (Oper.mk none (Op.store _ (Operand.tmp 4) (Operand.tmp 23)) _ _ _ _ :: _) _ _); refine wpList_st3 hX2 rfl 56 (.tmp 4) (.tmp 23) (.int .i64 1) (.int .i64 0) (.int .u32 0) rfl (by kernel_rfl) (by kernel_rfl) (by simp [Value.oneCell']) (by kernel_rfl) ?_; rintro ⟨z0,z1,z2⟩)
    | fail)
  refine bodyPost_ret (v := .agg #[.int .i64 1,.int .i64 0,.int .u32 0]) (by simp [results,Tryd.results58,go_sem,z0,z1,z2]) rfl ⟨rfl,?_⟩
  exact CW.farCells (by omega) _ _ _ HC2.out
set_option maxRecDepth 20000 in
set_option maxHeartbeats 4000000 in
theorem goes_call (op b n f : Int) (a : Int) (w : World) (g : Nat) (cells : List Value) (hT : TabIs 0 w) (htg : 0 ≠ g) (hB : Blk w g 119 cells)  (hnm : opName op = [99,97,108,108]) :
    Calls Tryd.prog 58 #[.pointer (some ⟨g,0,none⟩),.agg #[.int .i64 op,.int .i64 a,.int .i64 b,.int .i32 n,.int .i64 f]] w fun e w' => e = .returned (.agg #[.int .i64 2,.int .i64 0,.int .u32 0]) ∧ CW w g cells w' := by
  have hg := hB.lt
  have Hn := Lib.hid (fun w hT => hnm ▸ cname_any op w hT)
  have HB := Lib.hid hB
  skip
  clear hB 
  have hI0 : Blk ((w.alloc (.cells #[.int .i64 op,.int .i64 a,.int .i64 b,.int .i32 n,.int .i64 f] 25)).alloc (.cells #[.int .i64 0,.int .i64 0,.int .u32 0] 56)) w.heap.size 25 [.int .i64 op,.int .i64 a,.int .i64 b,.int .i32 n,.int .i64 f] := (Blk.new w 25 [.int .i64 op,.int .i64 a,.int .i64 b,.int .i32 n,.int .i64 f]).alloc _
  have hX0 : Blk ((w.alloc (.cells #[.int .i64 op,.int .i64 a,.int .i64 b,.int .i32 n,.int .i64 f] 25)).alloc (.cells #[.int .i64 0,.int .i64 0,.int .u32 0] 56)) (w.heap.size + 1) 56 [.int .i64 0,.int .i64 0,.int .u32 0] := by
    have := Blk.new (w.alloc (.cells #[.int .i64 op,.int .i64 a,.int .i64 b,.int .i32 n,.int .i64 f] 25)) 56 [.int .i64 0,.int .i64 0,.int .u32 0]
    rw [World.size_alloc] at this
    exact this
  go_enter Tryd.func58,Tryd.ntmps58
  go_wp2_with (first
    | (go_at_call 82; refine (Hn.out _ ((hT.alloc _).alloc _)).mono ?_; rintro e w2 ⟨rfl,hb2⟩; have hC2 := (((CW.start HB.out).alloc _).alloc _).below hb2; have hX2 := hX0.below hb2 hX0.lt; have hI2 := hI0.below hb2 hI0.lt; have i1 := hI2.cell 1; simp only [List.getElem?_cons_zero,List.getElem?_cons_succ] at i1; have HC2 := Lib.hid hC2; clear hC2)
    | ((with_reducible show wpList _ _ _ (Oper.mk none (Op.store _ (Operand.tmp 4) (Operand.tmp 26)) _ _ _ _ :: _) _ _); refine wpList_st3 hX2 rfl 56 (.tmp 4) (.tmp 26) (.int .i64 2) (.int .i64 0) (.int .u32 0) rfl (by kernel_rfl) (by kernel_rfl) (by simp [Value.oneCell']) (by kernel_rfl) ?_; rintro ⟨z0,z1,z2⟩)
    | fail)
  refine bodyPost_ret (v := .agg #[.int .i64 2,.int .i64 0,.int .u32 0]) (by simp [results,Tryd.results58,go_sem,z0,z1,z2]) rfl ⟨rfl,?_⟩
  exact CW.farCells (by omega) _ _ _ HC2.out
set_option maxRecDepth 20000 in
set_option maxHeartbeats 4000000 in
theorem goes_jz_go (op b n f : Int) (a : Nat) (w : World) (g : Nat) (cells : List Value) (hT : TabIs 0 w) (htg : 0 ≠ g) (hB : Blk w g 119 cells) (ha : a < 8) (hx : cells[a]? = some (.int .i32 0)) (hnm : opName op = [106,122]) :
    Calls Tryd.prog 58 #[.pointer (some ⟨g,0,none⟩),.agg #[.int .i64 op,.int .i64 a,.int .i64 b,.int .i32 n,.int .i64 f]] w fun e w' => e = .returned (.agg #[.int .i64 1,.int .i64 0,.int .u32 0]) ∧ CW w g cells w' := by
  have hg := hB.lt
  have Hn := Lib.hid (fun w hT => hnm ▸ cname_any op w hT)
  have HB := Lib.hid hB
  have Hx := Lib.hid hx
  clear hB hx
  have hI0 : Blk ((w.alloc (.cells #[.int .i64 op,.int .i64 a,.int .i64 b,.int .i32 n,.int .i64 f] 25)).alloc (.cells #[.int .i64 0,.int .i64 0,.int .u32 0] 56)) w.heap.size 25 [.int .i64 op,.int .i64 a,.int .i64 b,.int .i32 n,.int .i64 f] := (Blk.new w 25 [.int .i64 op,.int .i64 a,.int .i64 b,.int .i32 n,.int .i64 f]).alloc _
  have hX0 : Blk ((w.alloc (.cells #[.int .i64 op,.int .i64 a,.int .i64 b,.int .i32 n,.int .i64 f] 25)).alloc (.cells #[.int .i64 0,.int .i64 0,.int .u32 0] 56)) (w.heap.size + 1) 56 [.int .i64 0,.int .i64 0,.int .u32 0] := by
    have := Blk.new (w.alloc (.cells #[.int .i64 op,.int .i64 a,.int .i64 b,.int .i32 n,.int .i64 f] 25)) 56 [.int .i64 0,.int .i64 0,.int .u32 0]
    rw [World.size_alloc] at this
    exact this
  go_enter Tryd.func58,Tryd.ntmps58
  go_wp2_with (first
    | (go_at_call 82; refine (Hn.out _ ((hT.alloc _).alloc _)).mono ?_; rintro e w2 ⟨rfl,hb2⟩; have hC2 := (((CW.start HB.out).alloc _).alloc _).below hb2; have hX2 := hX0.below hb2 hX0.lt; have hI2 := hI0.below hb2 hI0.lt; have i1 := hI2.cell 1; simp only [List.getElem?_cons_zero,List.getElem?_cons_succ] at i1; have q2 := (hC2.blk.cell a).trans Hx.out; have HC2 := Lib.hid hC2; clear hC2)
    | fail)
  go_quiet (fail)
  have hX3 : Blk (w2.drewN nq) (w.heap.size + 1) 56 [.int .i64 0,.int .i64 0,.int .u32 0] := hX2
  go_wp2_with (first
    | ((with_reducible show wpList _ _ _ (Oper.mk none (Op.store _ (Operand.tmp 4) (Operand.tmp 37)) _ _ _ _ :: _) _ _); refine wpList_st3 hX3 rfl 56 (.tmp 4) (.tmp 37) (.int .i64 1) (.int .i64 0) (.int .u32 0) rfl (by kernel_rfl) (by kernel_rfl) (by simp [Value.oneCell']) (by kernel_rfl) ?_; rintro ⟨z0,z1,z2⟩)
    | fail)
  refine bodyPost_ret (v := .agg #[.int .i64 1,.int .i64 0,.int .u32 0]) (by simp [results,Tryd.results58,go_sem,z0,z1,z2]) rfl ⟨rfl,?_⟩
  exact CW.farCells (by omega) _ _ _ (HC2.out.drewN nq)
set_option maxRecDepth 20000 in
set_option maxHeartbeats 4000000 in
theorem goes_jz_on (op b n f : Int) (a : Nat) (w : World) (g : Nat) (cells : List Value) (hT : TabIs 0 w) (htg : 0 ≠ g) (hB : Blk w g 119 cells) (ha : a < 8) (x : Int) (x0 : ¬ x = 0) (hx : cells[a]? = some (.int .i32 x)) (hnm : opName op = [106,122]) :
    Calls Tryd.prog 58 #[.pointer (some ⟨g,0,none⟩),.agg #[.int .i64 op,.int .i64 a,.int .i64 b,.int .i32 n,.int .i64 f]] w fun e w' => e = .returned (.agg #[.int .i64 0,.int .i64 0,.int .u32 0]) ∧ CW w g cells w' := by
  have hg := hB.lt
  have Hn := Lib.hid (fun w hT => hnm ▸ cname_any op w hT)
  have HB := Lib.hid hB
  have Hx := Lib.hid hx
  clear hB hx
  have hI0 : Blk ((w.alloc (.cells #[.int .i64 op,.int .i64 a,.int .i64 b,.int .i32 n,.int .i64 f] 25)).alloc (.cells #[.int .i64 0,.int .i64 0,.int .u32 0] 56)) w.heap.size 25 [.int .i64 op,.int .i64 a,.int .i64 b,.int .i32 n,.int .i64 f] := (Blk.new w 25 [.int .i64 op,.int .i64 a,.int .i64 b,.int .i32 n,.int .i64 f]).alloc _
  have hX0 : Blk ((w.alloc (.cells #[.int .i64 op,.int .i64 a,.int .i64 b,.int .i32 n,.int .i64 f] 25)).alloc (.cells #[.int .i64 0,.int .i64 0,.int .u32 0] 56)) (w.heap.size + 1) 56 [.int .i64 0,.int .i64 0,.int .u32 0] := by
    have := Blk.new (w.alloc (.cells #[.int .i64 op,.int .i64 a,.int .i64 b,.int .i32 n,.int .i64 f] 25)) 56 [.int .i64 0,.int .i64 0,.int .u32 0]
    rw [World.size_alloc] at this
    exact this
  go_enter Tryd.func58,Tryd.ntmps58
  go_wp2_with (first
    | (go_at_call 82; refine (Hn.out _ ((hT.alloc _).alloc _)).mono ?_; rintro e w2 ⟨rfl,hb2⟩; have hC2 := (((CW.start HB.out).alloc _).alloc _).below hb2; have hX2 := hX0.below hb2 hX0.lt; have hI2 := hI0.below hb2 hI0.lt; have i1 := hI2.cell 1; simp only [List.getElem?_cons_zero,List.getElem?_cons_succ] at i1; have q2 := (hC2.blk.cell a).trans Hx.out; have HC2 := Lib.hid hC2; clear hC2)
    | fail)
  go_quiet (fail)
  have hX3 : Blk (w2.drewN nq) (w.heap.size + 1) 56 [.int .i64 0,.int .i64 0,.int .u32 0] := hX2
  go_wp2_with (first
    | ((with_reducible show wpList _ _ _ (Oper.mk none (Op.store _ (Operand.tmp 4) (Operand.tmp 49)) _ _ _ _ :: _) _ _); refine wpList_st3 hX3 rfl 56 (.tmp 4) (.tmp 49) (.int .i64 0) (.int .i64 0) (.int .u32 0) rfl (by kernel_rfl) (by kernel_rfl) (by simp [Value.oneCell']) (by kernel_rfl) ?_; rintro ⟨z0,z1,z2⟩)
    | fail)
  refine bodyPost_ret (v := .agg #[.int .i64 0,.int .i64 0,.int .u32 0]) (by simp [results,Tryd.results58,go_sem,z0,z1,z2]) rfl ⟨rfl,?_⟩
  exact CW.farCells (by omega) _ _ _ (HC2.out.drewN nq)
set_option maxRecDepth 20000 in
set_option maxHeartbeats 4000000 in
theorem goes_jnz_on (op b n f : Int) (a : Nat) (w : World) (g : Nat) (cells : List Value) (hT : TabIs 0 w) (htg : 0 ≠ g) (hB : Blk w g 119 cells) (ha : a < 8) (hx : cells[a]? = some (.int .i32 0)) (hnm : opName op = [106,110,122]) :
    Calls Tryd.prog 58 #[.pointer (some ⟨g,0,none⟩),.agg #[.int .i64 op,.int .i64 a,.int .i64 b,.int .i32 n,.int .i64 f]] w fun e w' => e = .returned (.agg #[.int .i64 0,.int .i64 0,.int .u32 0]) ∧ CW w g cells w' := by
  have hg := hB.lt
  have Hn := Lib.hid (fun w hT => hnm ▸ cname_any op w hT)
  have HB := Lib.hid hB
  have Hx := Lib.hid hx
  clear hB hx
  have hI0 : Blk ((w.alloc (.cells #[.int .i64 op,.int .i64 a,.int .i64 b,.int .i32 n,.int .i64 f] 25)).alloc (.cells #[.int .i64 0,.int .i64 0,.int .u32 0] 56)) w.heap.size 25 [.int .i64 op,.int .i64 a,.int .i64 b,.int .i32 n,.int .i64 f] := (Blk.new w 25 [.int .i64 op,.int .i64 a,.int .i64 b,.int .i32 n,.int .i64 f]).alloc _
  have hX0 : Blk ((w.alloc (.cells #[.int .i64 op,.int .i64 a,.int .i64 b,.int .i32 n,.int .i64 f] 25)).alloc (.cells #[.int .i64 0,.int .i64 0,.int .u32 0] 56)) (w.heap.size + 1) 56 [.int .i64 0,.int .i64 0,.int .u32 0] := by
    have := Blk.new (w.alloc (.cells #[.int .i64 op,.int .i64 a,.int .i64 b,.int .i32 n,.int .i64 f] 25)) 56 [.int .i64 0,.int .i64 0,.int .u32 0]
    rw [World.size_alloc] at this
    exact this
  go_enter Tryd.func58,Tryd.ntmps58
  go_wp2_with (first
    | (go_at_call 82; refine (Hn.out _ ((hT.alloc _).alloc _)).mono ?_; rintro e w2 ⟨rfl,hb2⟩; have hC2 := (((CW.start HB.out).alloc _).alloc _).below hb2; have hX2 := hX0.below hb2 hX0.lt; have hI2 := hI0.below hb2 hI0.lt; have i1 := hI2.cell 1; simp only [List.getElem?_cons_zero,List.getElem?_cons_succ] at i1; have q2 := (hC2.blk.cell a).trans Hx.out; have HC2 := Lib.hid hC2; clear hC2)
    | fail)
  go_quiet (fail)
  have hX3 : Blk (w2.drewN nq) (w.heap.size + 1) 56 [.int .i64 0,.int .i64 0,.int .u32 0] := hX2
  go_wp2_with (first
    | ((with_reducible show wpList _ _ _ (Oper.mk none (Op.store _ (Operand.tmp 4) (Operand.tmp 49)) _ _ _ _ :: _) _ _); refine wpList_st3 hX3 rfl 56 (.tmp 4) (.tmp 49) (.int .i64 0) (.int .i64 0) (.int .u32 0) rfl (by kernel_rfl) (by kernel_rfl) (by simp [Value.oneCell']) (by kernel_rfl) ?_; rintro ⟨z0,z1,z2⟩)
    | fail)
  refine bodyPost_ret (v := .agg #[.int .i64 0,.int .i64 0,.int .u32 0]) (by simp [results,Tryd.results58,go_sem,z0,z1,z2]) rfl ⟨rfl,?_⟩
  exact CW.farCells (by omega) _ _ _ (HC2.out.drewN nq)
set_option maxRecDepth 20000 in
set_option maxHeartbeats 4000000 in
theorem goes_jnz_go (op b n f : Int) (a : Nat) (w : World) (g : Nat) (cells : List Value) (hT : TabIs 0 w) (htg : 0 ≠ g) (hB : Blk w g 119 cells) (ha : a < 8) (x : Int) (x0 : ¬ x = 0) (hx : cells[a]? = some (.int .i32 x)) (hnm : opName op = [106,110,122]) :
    Calls Tryd.prog 58 #[.pointer (some ⟨g,0,none⟩),.agg #[.int .i64 op,.int .i64 a,.int .i64 b,.int .i32 n,.int .i64 f]] w fun e w' => e = .returned (.agg #[.int .i64 1,.int .i64 0,.int .u32 0]) ∧ CW w g cells w' := by
  have hg := hB.lt
  have Hn := Lib.hid (fun w hT => hnm ▸ cname_any op w hT)
  have HB := Lib.hid hB
  have Hx := Lib.hid hx
  clear hB hx
  have hI0 : Blk ((w.alloc (.cells #[.int .i64 op,.int .i64 a,.int .i64 b,.int .i32 n,.int .i64 f] 25)).alloc (.cells #[.int .i64 0,.int .i64 0,.int .u32 0] 56)) w.heap.size 25 [.int .i64 op,.int .i64 a,.int .i64 b,.int .i32 n,.int .i64 f] := (Blk.new w 25 [.int .i64 op,.int .i64 a,.int .i64 b,.int .i32 n,.int .i64 f]).alloc _
  have hX0 : Blk ((w.alloc (.cells #[.int .i64 op,.int .i64 a,.int .i64 b,.int .i32 n,.int .i64 f] 25)).alloc (.cells #[.int .i64 0,.int .i64 0,.int .u32 0] 56)) (w.heap.size + 1) 56 [.int .i64 0,.int .i64 0,.int .u32 0] := by
    have := Blk.new (w.alloc (.cells #[.int .i64 op,.int .i64 a,.int .i64 b,.int .i32 n,.int .i64 f] 25)) 56 [.int .i64 0,.int .i64 0,.int .u32 0]
    rw [World.size_alloc] at this
    exact this
  go_enter Tryd.func58,Tryd.ntmps58
  go_wp2_with (first
    | (go_at_call 82; refine (Hn.out _ ((hT.alloc _).alloc _)).mono ?_; rintro e w2 ⟨rfl,hb2⟩; have hC2 := (((CW.start HB.out).alloc _).alloc _).below hb2; have hX2 := hX0.below hb2 hX0.lt; have hI2 := hI0.below hb2 hI0.lt; have i1 := hI2.cell 1; simp only [List.getElem?_cons_zero,List.getElem?_cons_succ] at i1; have q2 := (hC2.blk.cell a).trans Hx.out; have HC2 := Lib.hid hC2; clear hC2)
    | fail)
  go_quiet (fail)
  have hX3 : Blk (w2.drewN nq) (w.heap.size + 1) 56 [.int .i64 0,.int .i64 0,.int .u32 0] := hX2
  go_wp2_with (first
    | ((with_reducible show wpList _ _ _ (Oper.mk none (Op.store _ (Operand.tmp 4) (Operand.tmp 48)) _ _ _ _ :: _) _ _); refine wpList_st3 hX3 rfl 56 (.tmp 4) (.tmp 48) (.int .i64 1) (.int .i64 0) (.int .u32 0) rfl (by kernel_rfl) (by kernel_rfl) (by simp [Value.oneCell']) (by kernel_rfl) ?_; rintro ⟨z0,z1,z2⟩)
    | fail)
  refine bodyPost_ret (v := .agg #[.int .i64 1,.int .i64 0,.int .u32 0]) (by simp [results,Tryd.results58,go_sem,z0,z1,z2]) rfl ⟨rfl,?_⟩
  exact CW.farCells (by omega) _ _ _ (HC2.out.drewN nq)
end Go.Proofs.YthcjnkakfpmpbaaDoor
