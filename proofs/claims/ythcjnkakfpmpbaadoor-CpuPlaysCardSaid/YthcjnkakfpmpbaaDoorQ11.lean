import Derived.Test.YthcjnkakfpmpbaaDoorQ8
import Derived.Test.YthcjnkakfpmpbaaDoorQ10
import Derived.BigQuiet
namespace Go.Proofs.YthcjnkakfpmpbaaDoor
open Go.RowKit
set_option linter.unusedVariables false
set_option linter.unusedSimpArgs false
set_option maxRecDepth 20000 in
set_option maxHeartbeats 2000000 in
theorem ro_nop (op n f b word : Int) (a : Int)  (w : World) (g : Nat) (cells : List Value) (hB : Blk w g 89 cells)  :
    Calls Tryd.prog 70 #[.pointer (some ⟨g,0,none⟩),.string ⟨#[110,111,112]⟩,.agg #[.int .i64 op,.int .i64 a,.int .i64 b,.int .i32 n,.int .i64 f],.int .i32 word] w fun e w' => e = .returned (.agg #[.int .i64 0,.int .i64 0,.int .u32 0]) ∧ RW w g cells w' := by
  have hg := hB.lt
  have hI0 : Blk ((w.alloc (.cells #[.int .i64 op,.int .i64 a,.int .i64 b,.int .i32 n,.int .i64 f] 25)).alloc (.cells #[.int .i64 0,.int .i64 0,.int .u32 0] 92)) w.heap.size 25 [.int .i64 op,.int .i64 a,.int .i64 b,.int .i32 n,.int .i64 f] := (Blk.new w 25 [.int .i64 op,.int .i64 a,.int .i64 b,.int .i32 n,.int .i64 f]).alloc _
  have hX0 : Blk ((w.alloc (.cells #[.int .i64 op,.int .i64 a,.int .i64 b,.int .i32 n,.int .i64 f] 25)).alloc (.cells #[.int .i64 0,.int .i64 0,.int .u32 0] 92)) (w.heap.size + 1) 92 [.int .i64 0,.int .i64 0,.int .u32 0] := by
    have := Blk.new (w.alloc (.cells #[.int .i64 op,.int .i64 a,.int .i64 b,.int .i32 n,.int .i64 f] 25)) 92 [.int .i64 0,.int .i64 0,.int .u32 0]
    rw [World.size_alloc] at this
    exact this
  have hC0 : Hid (RW w g cells ((w.alloc (.cells #[.int .i64 op,.int .i64 a,.int .i64 b,.int .i32 n,.int .i64 f] 25)).alloc (.cells #[.int .i64 0,.int .i64 0,.int .u32 0] 92))) := Lib.hid (((RW.start hB).alloc _).alloc _)
  clear hB
  go_enter Tryd.func70,Tryd.ntmps70
  go_wp2_with (first
    | ((with_reducible show wpList _ _ _ (Oper.mk none (Op.store _ (Operand.tmp 8) (Operand.tmp 234)) _ _ _ _ :: _) _ _); refine wpList_st3 hX0 rfl 92 (.tmp 8) (.tmp 234) (.int .i64 0) (.int .i64 0) (.int .u32 0) rfl (by kernel_rfl) (by kernel_rfl) (by simp [Value.oneCell']) (by kernel_rfl) ?_; rintro ⟨z0,z1,z2⟩)
    | fail)
  refine bodyPost_ret (v := .agg #[.int .i64 0,.int .i64 0,.int .u32 0]) (by simp [results,Tryd.results70,go_sem,z0,z1,z2]) rfl ⟨rfl,RW.farCells (by omega) _ _ _ hC0.out⟩
set_option maxRecDepth 20000 in
set_option maxHeartbeats 2000000 in
theorem ro_halt (op n f b word : Int) (a : Int)  (w : World) (g : Nat) (cells : List Value) (hB : Blk w g 89 cells)  :
    Calls Tryd.prog 70 #[.pointer (some ⟨g,0,none⟩),.string ⟨#[104,97,108,116]⟩,.agg #[.int .i64 op,.int .i64 a,.int .i64 b,.int .i32 n,.int .i64 f],.int .i32 word] w fun e w' => e = .returned (.agg #[.int .i64 5,.int .i64 0,.int .u32 0]) ∧ RW w g cells w' := by
  have hg := hB.lt
  have hI0 : Blk ((w.alloc (.cells #[.int .i64 op,.int .i64 a,.int .i64 b,.int .i32 n,.int .i64 f] 25)).alloc (.cells #[.int .i64 0,.int .i64 0,.int .u32 0] 92)) w.heap.size 25 [.int .i64 op,.int .i64 a,.int .i64 b,.int .i32 n,.int .i64 f] := (Blk.new w 25 [.int .i64 op,.int .i64 a,.int .i64 b,.int .i32 n,.int .i64 f]).alloc _
  have hX0 : Blk ((w.alloc (.cells #[.int .i64 op,.int .i64 a,.int .i64 b,.int .i32 n,.int .i64 f] 25)).alloc (.cells #[.int .i64 0,.int .i64 0,.int .u32 0] 92)) (w.heap.size + 1) 92 [.int .i64 0,.int .i64 0,.int .u32 0] := by
    have := Blk.new (w.alloc (.cells #[.int .i64 op,.int .i64 a,.int .i64 b,.int .i32 n,.int .i64 f] 25)) 92 [.int .i64 0,.int .i64 0,.int .u32 0]
    rw [World.size_alloc] at this
    exact this
  have hC0 : Hid (RW w g cells ((w.alloc (.cells #[.int .i64 op,.int .i64 a,.int .i64 b,.int .i32 n,.int .i64 f] 25)).alloc (.cells #[.int .i64 0,.int .i64 0,.int .u32 0] 92))) := Lib.hid (((RW.start hB).alloc _).alloc _)
  clear hB
  go_enter Tryd.func70,Tryd.ntmps70
  go_wp2_with (first
    | ((with_reducible show wpList _ _ _ (Oper.mk none (Op.store _ (Operand.tmp 8) (Operand.tmp 12)) _ _ _ _ :: _) _ _); refine wpList_st3 hX0 rfl 92 (.tmp 8) (.tmp 12) (.int .i64 5) (.int .i64 0) (.int .u32 0) rfl (by kernel_rfl) (by kernel_rfl) (by simp [Value.oneCell']) (by kernel_rfl) ?_; rintro ⟨z0,z1,z2⟩)
    | fail)
  refine bodyPost_ret (v := .agg #[.int .i64 5,.int .i64 0,.int .u32 0]) (by simp [results,Tryd.results70,go_sem,z0,z1,z2]) rfl ⟨rfl,RW.farCells (by omega) _ _ _ hC0.out⟩
set_option maxRecDepth 20000 in
set_option maxHeartbeats 2000000 in
theorem ro_ret (op n f b word : Int) (a : Int)  (w : World) (g : Nat) (cells : List Value) (hB : Blk w g 89 cells)  :
    Calls Tryd.prog 70 #[.pointer (some ⟨g,0,none⟩),.string ⟨#[114,101,116]⟩,.agg #[.int .i64 op,.int .i64 a,.int .i64 b,.int .i32 n,.int .i64 f],.int .i32 word] w fun e w' => e = .returned (.agg #[.int .i64 3,.int .i64 0,.int .u32 0]) ∧ RW w g cells w' := by
  have hg := hB.lt
  have hI0 : Blk ((w.alloc (.cells #[.int .i64 op,.int .i64 a,.int .i64 b,.int .i32 n,.int .i64 f] 25)).alloc (.cells #[.int .i64 0,.int .i64 0,.int .u32 0] 92)) w.heap.size 25 [.int .i64 op,.int .i64 a,.int .i64 b,.int .i32 n,.int .i64 f] := (Blk.new w 25 [.int .i64 op,.int .i64 a,.int .i64 b,.int .i32 n,.int .i64 f]).alloc _
  have hX0 : Blk ((w.alloc (.cells #[.int .i64 op,.int .i64 a,.int .i64 b,.int .i32 n,.int .i64 f] 25)).alloc (.cells #[.int .i64 0,.int .i64 0,.int .u32 0] 92)) (w.heap.size + 1) 92 [.int .i64 0,.int .i64 0,.int .u32 0] := by
    have := Blk.new (w.alloc (.cells #[.int .i64 op,.int .i64 a,.int .i64 b,.int .i32 n,.int .i64 f] 25)) 92 [.int .i64 0,.int .i64 0,.int .u32 0]
    rw [World.size_alloc] at this
    exact this
  have hC0 : Hid (RW w g cells ((w.alloc (.cells #[.int .i64 op,.int .i64 a,.int .i64 b,.int .i32 n,.int .i64 f] 25)).alloc (.cells #[.int .i64 0,.int .i64 0,.int .u32 0] 92))) := Lib.hid (((RW.start hB).alloc _).alloc _)
  clear hB
  go_enter Tryd.func70,Tryd.ntmps70
  go_wp2_with (first
    | ((with_reducible show wpList _ _ _ (Oper.mk none (Op.store _ (Operand.tmp 8) (Operand.tmp 15)) _ _ _ _ :: _) _ _); refine wpList_st3 hX0 rfl 92 (.tmp 8) (.tmp 15) (.int .i64 3) (.int .i64 0) (.int .u32 0) rfl (by kernel_rfl) (by kernel_rfl) (by simp [Value.oneCell']) (by kernel_rfl) ?_; rintro ⟨z0,z1,z2⟩)
    | fail)
  refine bodyPost_ret (v := .agg #[.int .i64 3,.int .i64 0,.int .u32 0]) (by simp [results,Tryd.results70,go_sem,z0,z1,z2]) rfl ⟨rfl,RW.farCells (by omega) _ _ _ hC0.out⟩
set_option maxRecDepth 20000 in
set_option maxHeartbeats 2000000 in
theorem ro_jmp (op n f b word : Int) (a : Int)  (w : World) (g : Nat) (cells : List Value) (hB : Blk w g 89 cells)  :
    Calls Tryd.prog 70 #[.pointer (some ⟨g,0,none⟩),.string ⟨#[106,109,112]⟩,.agg #[.int .i64 op,.int .i64 a,.int .i64 b,.int .i32 n,.int .i64 f],.int .i32 word] w fun e w' => e = .returned (.agg #[.int .i64 1,.int .i64 0,.int .u32 0]) ∧ RW w g cells w' := by
  have hg := hB.lt
  have hI0 : Blk ((w.alloc (.cells #[.int .i64 op,.int .i64 a,.int .i64 b,.int .i32 n,.int .i64 f] 25)).alloc (.cells #[.int .i64 0,.int .i64 0,.int .u32 0] 92)) w.heap.size 25 [.int .i64 op,.int .i64 a,.int .i64 b,.int .i32 n,.int .i64 f] := (Blk.new w 25 [.int .i64 op,.int .i64 a,.int .i64 b,.int .i32 n,.int .i64 f]).alloc _
  have hX0 : Blk ((w.alloc (.cells #[.int .i64 op,.int .i64 a,.int .i64 b,.int .i32 n,.int .i64 f] 25)).alloc (.cells #[.int .i64 0,.int .i64 0,.int .u32 0] 92)) (w.heap.size + 1) 92 [.int .i64 0,.int .i64 0,.int .u32 0] := by
    have := Blk.new (w.alloc (.cells #[.int .i64 op,.int .i64 a,.int .i64 b,.int .i32 n,.int .i64 f] 25)) 92 [.int .i64 0,.int .i64 0,.int .u32 0]
    rw [World.size_alloc] at this
    exact this
  have hC0 : Hid (RW w g cells ((w.alloc (.cells #[.int .i64 op,.int .i64 a,.int .i64 b,.int .i32 n,.int .i64 f] 25)).alloc (.cells #[.int .i64 0,.int .i64 0,.int .u32 0] 92))) := Lib.hid (((RW.start hB).alloc _).alloc _)
  clear hB
  go_enter Tryd.func70,Tryd.ntmps70
  go_wp2_with (first
    | ((with_reducible show wpList _ _ _ (Oper.mk none (Op.store _ (Operand.tmp 8) (Operand.tmp 201)) _ _ _ _ :: _) _ _); refine wpList_st3 hX0 rfl 92 (.tmp 8) (.tmp 201) (.int .i64 1) (.int .i64 0) (.int .u32 0) rfl (by kernel_rfl) (by kernel_rfl) (by simp [Value.oneCell']) (by kernel_rfl) ?_; rintro ⟨z0,z1,z2⟩)
    | fail)
  refine bodyPost_ret (v := .agg #[.int .i64 1,.int .i64 0,.int .u32 0]) (by simp [results,Tryd.results70,go_sem,z0,z1,z2]) rfl ⟨rfl,RW.farCells (by omega) _ _ _ hC0.out⟩
set_option maxRecDepth 20000 in
set_option maxHeartbeats 2000000 in
theorem ro_call (op n f b word : Int) (a : Int)  (w : World) (g : Nat) (cells : List Value) (hB : Blk w g 89 cells)  :
    Calls Tryd.prog 70 #[.pointer (some ⟨g,0,none⟩),.string ⟨#[99,97,108,108]⟩,.agg #[.int .i64 op,.int .i64 a,.int .i64 b,.int .i32 n,.int .i64 f],.int .i32 word] w fun e w' => e = .returned (.agg #[.int .i64 2,.int .i64 0,.int .u32 0]) ∧ RW w g cells w' := by
  have hg := hB.lt
  have hI0 : Blk ((w.alloc (.cells #[.int .i64 op,.int .i64 a,.int .i64 b,.int .i32 n,.int .i64 f] 25)).alloc (.cells #[.int .i64 0,.int .i64 0,.int .u32 0] 92)) w.heap.size 25 [.int .i64 op,.int .i64 a,.int .i64 b,.int .i32 n,.int .i64 f] := (Blk.new w 25 [.int .i64 op,.int .i64 a,.int .i64 b,.int .i32 n,.int .i64 f]).alloc _
  have hX0 : Blk ((w.alloc (.cells #[.int .i64 op,.int .i64 a,.int .i64 b,.int .i32 n,.int .i64 f] 25)).alloc (.cells #[.int .i64 0,.int .i64 0,.int .u32 0] 92)) (w.heap.size + 1) 92 [.int .i64 0,.int .i64 0,.int .u32 0] := by
    have := Blk.new (w.alloc (.cells #[.int .i64 op,.int .i64 a,.int .i64 b,.int .i32 n,.int .i64 f] 25)) 92 [.int .i64 0,.int .i64 0,.int .u32 0]
    rw [World.size_alloc] at this
    exact this
  have hC0 : Hid (RW w g cells ((w.alloc (.cells #[.int .i64 op,.int .i64 a,.int .i64 b,.int .i32 n,.int .i64 f] 25)).alloc (.cells #[.int .i64 0,.int .i64 0,.int .u32 0] 92))) := Lib.hid (((RW.start hB).alloc _).alloc _)
  clear hB
  go_enter Tryd.func70,Tryd.ntmps70
  go_wp2_with (first
    | ((with_reducible show wpList _ _ _ (Oper.mk none (Op.store _ (Operand.tmp 8) (Operand.tmp 204)) _ _ _ _ :: _) _ _); refine wpList_st3 hX0 rfl 92 (.tmp 8) (.tmp 204) (.int .i64 2) (.int .i64 0) (.int .u32 0) rfl (by kernel_rfl) (by kernel_rfl) (by simp [Value.oneCell']) (by kernel_rfl) ?_; rintro ⟨z0,z1,z2⟩)
    | fail)
  refine bodyPost_ret (v := .agg #[.int .i64 2,.int .i64 0,.int .u32 0]) (by simp [results,Tryd.results70,go_sem,z0,z1,z2]) rfl ⟨rfl,RW.farCells (by omega) _ _ _ hC0.out⟩
set_option maxRecDepth 20000 in
set_option maxHeartbeats 2000000 in
theorem ro_trap (op n f b word : Int) (a : Int)  (w : World) (g : Nat) (cells : List Value) (hB : Blk w g 89 cells) (n0 : -2147483648 ≤ n) (n1 : n ≤ 2147483647) :
    Calls Tryd.prog 70 #[.pointer (some ⟨g,0,none⟩),.string ⟨#[116,114,97,112]⟩,.agg #[.int .i64 op,.int .i64 a,.int .i64 b,.int .i32 n,.int .i64 f],.int .i32 word] w fun e w' => e = .returned (.agg #[.int .i64 6,.int .i64 (100 + n),.int .u32 0]) ∧ RW w g cells w' := by
  have hg := hB.lt
  have hI0 : Blk ((w.alloc (.cells #[.int .i64 op,.int .i64 a,.int .i64 b,.int .i32 n,.int .i64 f] 25)).alloc (.cells #[.int .i64 0,.int .i64 0,.int .u32 0] 92)) w.heap.size 25 [.int .i64 op,.int .i64 a,.int .i64 b,.int .i32 n,.int .i64 f] := (Blk.new w 25 [.int .i64 op,.int .i64 a,.int .i64 b,.int .i32 n,.int .i64 f]).alloc _
  have hX0 : Blk ((w.alloc (.cells #[.int .i64 op,.int .i64 a,.int .i64 b,.int .i32 n,.int .i64 f] 25)).alloc (.cells #[.int .i64 0,.int .i64 0,.int .u32 0] 92)) (w.heap.size + 1) 92 [.int .i64 0,.int .i64 0,.int .u32 0] := by
    have := Blk.new (w.alloc (.cells #[.int .i64 op,.int .i64 a,.int .i64 b,.int .i32 n,.int .i64 f] 25)) 92 [.int .i64 0,.int .i64 0,.int .u32 0]
    rw [World.size_alloc] at this
    exact this
  have hC0 : Hid (RW w g cells ((w.alloc (.cells #[.int .i64 op,.int .i64 a,.int .i64 b,.int .i32 n,.int .i64 f] 25)).alloc (.cells #[.int .i64 0,.int .i64 0,.int .u32 0] 92))) := Lib.hid (((RW.start hB).alloc _).alloc _)
  clear hB
  go_enter Tryd.func70,Tryd.ntmps70
  go_wp2_with (first
    | (go_at_call 66; refine (rtrap_any (100 + n) _).mono ?_; rintro e w4 ⟨rfl,hb4⟩; have hX4 := hX0.below hb4 hX0.lt; have hC4 := hC0.out.below hb4)
    | ((with_reducible show wpList _ _ _ (Oper.mk none (Op.store _ (Operand.tmp 8) (Operand.tmp 233)) _ _ _ _ :: _) _ _); refine wpList_st3 hX4 rfl 92 (.tmp 8) (.tmp 233) (.int .i64 6) (.int .i64 (100 + n)) (.int .u32 0) rfl (by kernel_rfl) (by kernel_rfl) (by simp [Value.oneCell']) (by kernel_rfl) ?_; rintro ⟨z0,z1,z2⟩)
    | fail)
  refine bodyPost_ret (v := .agg #[.int .i64 6,.int .i64 (100 + n),.int .u32 0]) (by simp [results,Tryd.results70,go_sem,z0,z1,z2]) rfl ⟨rfl,RW.farCells (by omega) _ _ _ hC4⟩
set_option maxRecDepth 20000 in
set_option maxHeartbeats 2000000 in
theorem ro_print_full (op n f b word : Int) (a : Int) (A : Option Addr) (n' c : Nat) (w : World) (g : Nat) (cells : List Value) (hB : Blk w g 89 cells) (hA : cells[269]? = some (.slice A n' c)) (hl : 4096 ≤ n') :
    Calls Tryd.prog 70 #[.pointer (some ⟨g,0,none⟩),.string ⟨#[112,114,105,110,116]⟩,.agg #[.int .i64 op,.int .i64 a,.int .i64 b,.int .i32 n,.int .i64 f],.int .i32 word] w fun e w' => e = .returned (.agg #[.int .i64 6,.int .i64 7,.int .u32 0]) ∧ RW w g cells w' := by
  have hg := hB.lt
  have hI0 : Blk ((w.alloc (.cells #[.int .i64 op,.int .i64 a,.int .i64 b,.int .i32 n,.int .i64 f] 25)).alloc (.cells #[.int .i64 0,.int .i64 0,.int .u32 0] 92)) w.heap.size 25 [.int .i64 op,.int .i64 a,.int .i64 b,.int .i32 n,.int .i64 f] := (Blk.new w 25 [.int .i64 op,.int .i64 a,.int .i64 b,.int .i32 n,.int .i64 f]).alloc _
  have hX0 : Blk ((w.alloc (.cells #[.int .i64 op,.int .i64 a,.int .i64 b,.int .i32 n,.int .i64 f] 25)).alloc (.cells #[.int .i64 0,.int .i64 0,.int .u32 0] 92)) (w.heap.size + 1) 92 [.int .i64 0,.int .i64 0,.int .u32 0] := by
    have := Blk.new (w.alloc (.cells #[.int .i64 op,.int .i64 a,.int .i64 b,.int .i32 n,.int .i64 f] 25)) 92 [.int .i64 0,.int .i64 0,.int .u32 0]
    rw [World.size_alloc] at this
    exact this
  have hC0 : Hid (RW w g cells ((w.alloc (.cells #[.int .i64 op,.int .i64 a,.int .i64 b,.int .i32 n,.int .i64 f] 25)).alloc (.cells #[.int .i64 0,.int .i64 0,.int .u32 0] 92))) := Lib.hid (((RW.start hB).alloc _).alloc _)
  have q0 : ((w.alloc (.cells #[.int .i64 op,.int .i64 a,.int .i64 b,.int .i32 n,.int .i64 f] 25)).alloc (.cells #[.int .i64 0,.int .i64 0,.int .u32 0] 92)).cell? ⟨g,269,none⟩ = some (.slice A n' c) := (hC0.out.blk.cell 269).trans hA
  have hlI : (4096 : Int) ≤ n' := by omega
  clear hB
  go_enter Tryd.func70,Tryd.ntmps70
  go_wp2_with (first
    | (go_at_call 66; refine (rtrap_any 7 _).mono ?_; rintro e w4 ⟨rfl,hb4⟩; have hX4 := hX0.below hb4 hX0.lt; have hC4 := hC0.out.below hb4)
    | ((with_reducible show wpList _ _ _ (Oper.mk none (Op.store _ (Operand.tmp 8) (Operand.tmp 24)) _ _ _ _ :: _) _ _); refine wpList_st3 hX4 rfl 92 (.tmp 8) (.tmp 24) (.int .i64 6) (.int .i64 7) (.int .u32 0) rfl (by kernel_rfl) (by kernel_rfl) (by simp [Value.oneCell']) (by kernel_rfl) ?_; rintro ⟨z0,z1,z2⟩)
    | fail)
  refine bodyPost_ret (v := .agg #[.int .i64 6,.int .i64 7,.int .u32 0]) (by simp [results,Tryd.results70,go_sem,z0,z1,z2]) rfl ⟨rfl,RW.farCells (by omega) _ _ _ hC4⟩
set_option maxRecDepth 20000 in
set_option maxHeartbeats 2000000 in
theorem ro_push_full (op n f b word : Int) (a : Int) (A : Option Addr) (n' c : Nat) (w : World) (g : Nat) (cells : List Value) (hB : Blk w g 89 cells) (hA : cells[12]? = some (.slice A n' c)) (hl : 256 ≤ n') :
    Calls Tryd.prog 70 #[.pointer (some ⟨g,0,none⟩),.string ⟨#[112,117,115,104]⟩,.agg #[.int .i64 op,.int .i64 a,.int .i64 b,.int .i32 n,.int .i64 f],.int .i32 word] w fun e w' => e = .returned (.agg #[.int .i64 6,.int .i64 4,.int .u32 0]) ∧ RW w g cells w' := by
  have hg := hB.lt
  have hI0 : Blk ((w.alloc (.cells #[.int .i64 op,.int .i64 a,.int .i64 b,.int .i32 n,.int .i64 f] 25)).alloc (.cells #[.int .i64 0,.int .i64 0,.int .u32 0] 92)) w.heap.size 25 [.int .i64 op,.int .i64 a,.int .i64 b,.int .i32 n,.int .i64 f] := (Blk.new w 25 [.int .i64 op,.int .i64 a,.int .i64 b,.int .i32 n,.int .i64 f]).alloc _
  have hX0 : Blk ((w.alloc (.cells #[.int .i64 op,.int .i64 a,.int .i64 b,.int .i32 n,.int .i64 f] 25)).alloc (.cells #[.int .i64 0,.int .i64 0,.int .u32 0] 92)) (w.heap.size + 1) 92 [.int .i64 0,.int .i64 0,.int .u32 0] := by
    have := Blk.new (w.alloc (.cells #[.int .i64 op,.int .i64 a,.int .i64 b,.int .i32 n,.int .i64 f] 25)) 92 [.int .i64 0,.int .i64 0,.int .u32 0]
    rw [World.size_alloc] at this
    exact this
  have hC0 : Hid (RW w g cells ((w.alloc (.cells #[.int .i64 op,.int .i64 a,.int .i64 b,.int .i32 n,.int .i64 f] 25)).alloc (.cells #[.int .i64 0,.int .i64 0,.int .u32 0] 92))) := Lib.hid (((RW.start hB).alloc _).alloc _)
  have q0 : ((w.alloc (.cells #[.int .i64 op,.int .i64 a,.int .i64 b,.int .i32 n,.int .i64 f] 25)).alloc (.cells #[.int .i64 0,.int .i64 0,.int .u32 0] 92)).cell? ⟨g,12,none⟩ = some (.slice A n' c) := (hC0.out.blk.cell 12).trans hA
  have hlI : (256 : Int) ≤ n' := by omega
  clear hB
  go_enter Tryd.func70,Tryd.ntmps70
  go_wp2_with (first
    | (go_at_call 66; refine (rtrap_any 4 _).mono ?_; rintro e w4 ⟨rfl,hb4⟩; have hX4 := hX0.below hb4 hX0.lt; have hC4 := hC0.out.below hb4)
    | ((with_reducible show wpList _ _ _ (Oper.mk none (Op.store _ (Operand.tmp 8) (Operand.tmp 78)) _ _ _ _ :: _) _ _); refine wpList_st3 hX4 rfl 92 (.tmp 8) (.tmp 78) (.int .i64 6) (.int .i64 4) (.int .u32 0) rfl (by kernel_rfl) (by kernel_rfl) (by simp [Value.oneCell']) (by kernel_rfl) ?_; rintro ⟨z0,z1,z2⟩)
    | fail)
  refine bodyPost_ret (v := .agg #[.int .i64 6,.int .i64 4,.int .u32 0]) (by simp [results,Tryd.results70,go_sem,z0,z1,z2]) rfl ⟨rfl,RW.farCells (by omega) _ _ _ hC4⟩
set_option maxRecDepth 20000 in
set_option maxHeartbeats 2000000 in
theorem ro_in0 (op n f b word : Int) (a : Int) (A : Option Addr) (n' c : Nat) (w : World) (g : Nat) (cells : List Value) (hB : Blk w g 89 cells) (hA : cells[270]? = some (.slice A n' c)) (hl : n' = 0) :
    Calls Tryd.prog 70 #[.pointer (some ⟨g,0,none⟩),.string ⟨#[105,110]⟩,.agg #[.int .i64 op,.int .i64 a,.int .i64 b,.int .i32 n,.int .i64 f],.int .i32 word] w fun e w' => e = .returned (.agg #[.int .i64 6,.int .i64 6,.int .u32 0]) ∧ RW w g cells w' := by
  have hg := hB.lt
  have hI0 : Blk ((w.alloc (.cells #[.int .i64 op,.int .i64 a,.int .i64 b,.int .i32 n,.int .i64 f] 25)).alloc (.cells #[.int .i64 0,.int .i64 0,.int .u32 0] 92)) w.heap.size 25 [.int .i64 op,.int .i64 a,.int .i64 b,.int .i32 n,.int .i64 f] := (Blk.new w 25 [.int .i64 op,.int .i64 a,.int .i64 b,.int .i32 n,.int .i64 f]).alloc _
  have hX0 : Blk ((w.alloc (.cells #[.int .i64 op,.int .i64 a,.int .i64 b,.int .i32 n,.int .i64 f] 25)).alloc (.cells #[.int .i64 0,.int .i64 0,.int .u32 0] 92)) (w.heap.size + 1) 92 [.int .i64 0,.int .i64 0,.int .u32 0] := by
    have := Blk.new (w.alloc (.cells #[.int .i64 op,.int .i64 a,.int .i64 b,.int .i32 n,.int .i64 f] 25)) 92 [.int .i64 0,.int .i64 0,.int .u32 0]
    rw [World.size_alloc] at this
    exact this
  have hC0 : Hid (RW w g cells ((w.alloc (.cells #[.int .i64 op,.int .i64 a,.int .i64 b,.int .i32 n,.int .i64 f] 25)).alloc (.cells #[.int .i64 0,.int .i64 0,.int .u32 0] 92))) := Lib.hid (((RW.start hB).alloc _).alloc _)
  subst hl
  have q0 : ((w.alloc (.cells #[.int .i64 op,.int .i64 a,.int .i64 b,.int .i32 n,.int .i64 f] 25)).alloc (.cells #[.int .i64 0,.int .i64 0,.int .u32 0] 92)).cell? ⟨g,270,none⟩ = some (.slice A 0 c) := (hC0.out.blk.cell 270).trans hA
  clear hB
  go_enter Tryd.func70,Tryd.ntmps70
  go_wp2_with (first
    | (go_at_call 66; refine (rtrap_any 6 _).mono ?_; rintro e w4 ⟨rfl,hb4⟩; have hX4 := hX0.below hb4 hX0.lt; have hC4 := hC0.out.below hb4)
    | ((with_reducible show wpList _ _ _ (Oper.mk none (Op.store _ (Operand.tmp 8) (Operand.tmp 49)) _ _ _ _ :: _) _ _); refine wpList_st3 hX4 rfl 92 (.tmp 8) (.tmp 49) (.int .i64 6) (.int .i64 6) (.int .u32 0) rfl (by kernel_rfl) (by kernel_rfl) (by simp [Value.oneCell']) (by kernel_rfl) ?_; rintro ⟨z0,z1,z2⟩)
    | fail)
  refine bodyPost_ret (v := .agg #[.int .i64 6,.int .i64 6,.int .u32 0]) (by simp [results,Tryd.results70,go_sem,z0,z1,z2]) rfl ⟨rfl,RW.farCells (by omega) _ _ _ hC4⟩
set_option maxRecDepth 20000 in
set_option maxHeartbeats 2000000 in
theorem ro_pop0 (op n f b word : Int) (a : Int) (A : Option Addr) (n' c : Nat) (w : World) (g : Nat) (cells : List Value) (hB : Blk w g 89 cells) (hA : cells[12]? = some (.slice A n' c)) (hl : n' = 0) :
    Calls Tryd.prog 70 #[.pointer (some ⟨g,0,none⟩),.string ⟨#[112,111,112]⟩,.agg #[.int .i64 op,.int .i64 a,.int .i64 b,.int .i32 n,.int .i64 f],.int .i32 word] w fun e w' => e = .returned (.agg #[.int .i64 6,.int .i64 4,.int .u32 0]) ∧ RW w g cells w' := by
  have hg := hB.lt
  have hI0 : Blk ((w.alloc (.cells #[.int .i64 op,.int .i64 a,.int .i64 b,.int .i32 n,.int .i64 f] 25)).alloc (.cells #[.int .i64 0,.int .i64 0,.int .u32 0] 92)) w.heap.size 25 [.int .i64 op,.int .i64 a,.int .i64 b,.int .i32 n,.int .i64 f] := (Blk.new w 25 [.int .i64 op,.int .i64 a,.int .i64 b,.int .i32 n,.int .i64 f]).alloc _
  have hX0 : Blk ((w.alloc (.cells #[.int .i64 op,.int .i64 a,.int .i64 b,.int .i32 n,.int .i64 f] 25)).alloc (.cells #[.int .i64 0,.int .i64 0,.int .u32 0] 92)) (w.heap.size + 1) 92 [.int .i64 0,.int .i64 0,.int .u32 0] := by
    have := Blk.new (w.alloc (.cells #[.int .i64 op,.int .i64 a,.int .i64 b,.int .i32 n,.int .i64 f] 25)) 92 [.int .i64 0,.int .i64 0,.int .u32 0]
    rw [World.size_alloc] at this
    exact this
  have hC0 : Hid (RW w g cells ((w.alloc (.cells #[.int .i64 op,.int .i64 a,.int .i64 b,.int .i32 n,.int .i64 f] 25)).alloc (.cells #[.int .i64 0,.int .i64 0,.int .u32 0] 92))) := Lib.hid (((RW.start hB).alloc _).alloc _)
  subst hl
  have q0 : ((w.alloc (.cells #[.int .i64 op,.int .i64 a,.int .i64 b,.int .i32 n,.int .i64 f] 25)).alloc (.cells #[.int .i64 0,.int .i64 0,.int .u32 0] 92)).cell? ⟨g,12,none⟩ = some (.slice A 0 c) := (hC0.out.blk.cell 12).trans hA
  clear hB
  go_enter Tryd.func70,Tryd.ntmps70
  go_wp2_with (first
    | (go_at_call 66; refine (rtrap_any 4 _).mono ?_; rintro e w4 ⟨rfl,hb4⟩; have hX4 := hX0.below hb4 hX0.lt; have hC4 := hC0.out.below hb4)
    | ((with_reducible show wpList _ _ _ (Oper.mk none (Op.store _ (Operand.tmp 8) (Operand.tmp 103)) _ _ _ _ :: _) _ _); refine wpList_st3 hX4 rfl 92 (.tmp 8) (.tmp 103) (.int .i64 6) (.int .i64 4) (.int .u32 0) rfl (by kernel_rfl) (by kernel_rfl) (by simp [Value.oneCell']) (by kernel_rfl) ?_; rintro ⟨z0,z1,z2⟩)
    | fail)
  refine bodyPost_ret (v := .agg #[.int .i64 6,.int .i64 4,.int .u32 0]) (by simp [results,Tryd.results70,go_sem,z0,z1,z2]) rfl ⟨rfl,RW.farCells (by omega) _ _ _ hC4⟩
set_option maxRecDepth 20000 in
set_option maxHeartbeats 2000000 in
theorem ro_neg (op n f b word : Int) (a : Nat) (x : Int) (w : World) (g : Nat) (cells : List Value) (hB : Blk w g 89 cells) (ha : a < 8) (hx : cells[a]? = some (.int .i32 x)) (x0 : -2147483648 ≤ x) (x1 : x ≤ 2147483647) :
    Calls Tryd.prog 70 #[.pointer (some ⟨g,0,none⟩),.string ⟨#[110,101,103]⟩,.agg #[.int .i64 op,.int .i64 a,.int .i64 b,.int .i32 n,.int .i64 f],.int .i32 word] w fun e w' => e = .returned (.agg #[.int .i64 0,.int .i64 0,.int .u32 0]) ∧ RW w g (cells.set a (.int .i32 (wrap32 (-x)))) w' := by
  have hg := hB.lt
  have HB := Lib.hid hB
  have hI0 : Blk ((w.alloc (.cells #[.int .i64 op,.int .i64 a,.int .i64 b,.int .i32 n,.int .i64 f] 25)).alloc (.cells #[.int .i64 0,.int .i64 0,.int .u32 0] 92)) w.heap.size 25 [.int .i64 op,.int .i64 a,.int .i64 b,.int .i32 n,.int .i64 f] := (Blk.new w 25 [.int .i64 op,.int .i64 a,.int .i64 b,.int .i32 n,.int .i64 f]).alloc _
  have hX0 : Blk ((w.alloc (.cells #[.int .i64 op,.int .i64 a,.int .i64 b,.int .i32 n,.int .i64 f] 25)).alloc (.cells #[.int .i64 0,.int .i64 0,.int .u32 0] 92)) (w.heap.size + 1) 92 [.int .i64 0,.int .i64 0,.int .u32 0] := by
    have := Blk.new (w.alloc (.cells #[.int .i64 op,.int .i64 a,.int .i64 b,.int .i32 n,.int .i64 f] 25)) 92 [.int .i64 0,.int .i64 0,.int .u32 0]
    rw [World.size_alloc] at this
    exact this
  have hC0 : RW w g cells ((w.alloc (.cells #[.int .i64 op,.int .i64 a,.int .i64 b,.int .i32 n,.int .i64 f] 25)).alloc (.cells #[.int .i64 0,.int .i64 0,.int .u32 0] 92)) := ((RW.start hB).alloc _).alloc _
  clear hB
  go_enter Tryd.func70,Tryd.ntmps70
  go_wp2_with fail
  generalize ((w.alloc (.cells #[.int .i64 op,.int .i64 a,.int .i64 b,.int .i32 n,.int .i64 f] 25)).alloc (.cells #[.int .i64 0,.int .i64 0,.int .u32 0] 92)) = w1 at hI0 hX0 hC0 ⊢
  refine wp_region_swap (ops' := roR27) (by kernel_rfl) (ro_r27 g w.heap.size a x _ _ _ _ _ _ _ _ _ _ _ _ _ _ _ _ _ _ _ _ _ _ _ _ _ _ _ _ _ _ _ _ _ _ _ _ _ _ _ _ _ _ _ _ _ _ _ _ _ _ _ _ _ _ _ _ _ _ _ _ _ _ _ _ _ _ _ _ _ _ _ _ _ _ _ _ _ _ _ _ _ _ _ _ _ _ _ _ _ _ _ _ _ _ _ _ _ _ _ _ _ _ _ _ _ _ _ _ _ _ _ _ _ _ _ _ _ _ _ _ _ _ _ _ _ _ _ _ _ _ _ _ _ _ _ _ _ _ _ _ _ _ _ _ _ _ _ _ _ _ _ _ _ _ _ _ _ _ _ _ _ _ _ _ _ _ _ _ _ _ _ _ _ _ _ _ _ _ _ _ _ _ _ _ _ _ _ _ _ _ _ _ _ _ _ _ _ _ _ _ _ _ _ _ _ _ _ _ _ _ _ _ _ _ _ _ _ _ _ _ _ _ _ _ _ _ _ _ _ _ _ _ _ _ _ ha (hI0.cell 1) ((hC0.blk.cell a).trans hx) (hC0.blk.free _) x0 x1 ?_)
  intro UP UQ UR US UT UU UV UW UX UY UZ U0 U1 U2 kd
  have hC2 := (hC0.drewN kd).setReg (a) (.int .i32 (wrap32 (-x)))
  have hX2 : Blk ((w1.drewN kd).setCell ⟨g,a,none⟩ (.int .i32 (wrap32 (-x)))) (w.heap.size + 1) 92 [.int .i64 0,.int .i64 0,.int .u32 0] := Blk.other (show Blk (w1.drewN kd) _ _ _ from hX0) (by show w.heap.size + 1 ≠ g; omega)
  generalize (w1.drewN kd).setCell ⟨g,a,none⟩ (.int .i32 (wrap32 (-x))) = w5 at hX2 hC2 ⊢
  go_wp2_with (first
    | ((with_reducible show wpList _ _ _ (Oper.mk none (Op.store _ (Operand.tmp 8) (Operand.tmp 234)) _ _ _ _ :: _) _ _); refine wpList_st3 hX2 rfl 92 (.tmp 8) (.tmp 234) (.int .i64 0) (.int .i64 0) (.int .u32 0) rfl (by kernel_rfl) (by kernel_rfl) (by simp [Value.oneCell']) (by kernel_rfl) ?_; rintro ⟨z0,z1,z2⟩)
    | fail)
  refine bodyPost_ret (v := .agg #[.int .i64 0,.int .i64 0,.int .u32 0]) (by simp [results,Tryd.results70,go_sem,z0,z1,z2]) rfl ⟨rfl,RW.farCells (by omega) _ _ _ hC2⟩
set_option maxRecDepth 20000 in
set_option maxHeartbeats 2000000 in
theorem ro_not (op n f b word : Int) (a : Nat) (x : Int) (w : World) (g : Nat) (cells : List Value) (hB : Blk w g 89 cells) (ha : a < 8) (hx : cells[a]? = some (.int .i32 x)) (x0 : -2147483648 ≤ x) (x1 : x ≤ 2147483647) :
    Calls Tryd.prog 70 #[.pointer (some ⟨g,0,none⟩),.string ⟨#[110,111,116]⟩,.agg #[.int .i64 op,.int .i64 a,.int .i64 b,.int .i32 n,.int .i64 f],.int .i32 word] w fun e w' => e = .returned (.agg #[.int .i64 0,.int .i64 0,.int .u32 0]) ∧ RW w g (cells.set a (.int .i32 (bits BinOp.xor IntKind.i32 (-1) x))) w' := by
  have hg := hB.lt
  have HB := Lib.hid hB
  have hI0 : Blk ((w.alloc (.cells #[.int .i64 op,.int .i64 a,.int .i64 b,.int .i32 n,.int .i64 f] 25)).alloc (.cells #[.int .i64 0,.int .i64 0,.int .u32 0] 92)) w.heap.size 25 [.int .i64 op,.int .i64 a,.int .i64 b,.int .i32 n,.int .i64 f] := (Blk.new w 25 [.int .i64 op,.int .i64 a,.int .i64 b,.int .i32 n,.int .i64 f]).alloc _
  have hX0 : Blk ((w.alloc (.cells #[.int .i64 op,.int .i64 a,.int .i64 b,.int .i32 n,.int .i64 f] 25)).alloc (.cells #[.int .i64 0,.int .i64 0,.int .u32 0] 92)) (w.heap.size + 1) 92 [.int .i64 0,.int .i64 0,.int .u32 0] := by
    have := Blk.new (w.alloc (.cells #[.int .i64 op,.int .i64 a,.int .i64 b,.int .i32 n,.int .i64 f] 25)) 92 [.int .i64 0,.int .i64 0,.int .u32 0]
    rw [World.size_alloc] at this
    exact this
  have hC0 : RW w g cells ((w.alloc (.cells #[.int .i64 op,.int .i64 a,.int .i64 b,.int .i32 n,.int .i64 f] 25)).alloc (.cells #[.int .i64 0,.int .i64 0,.int .u32 0] 92)) := ((RW.start hB).alloc _).alloc _
  clear hB
  go_enter Tryd.func70,Tryd.ntmps70
  go_wp2_with fail
  generalize ((w.alloc (.cells #[.int .i64 op,.int .i64 a,.int .i64 b,.int .i32 n,.int .i64 f] 25)).alloc (.cells #[.int .i64 0,.int .i64 0,.int .u32 0] 92)) = w1 at hI0 hX0 hC0 ⊢
  refine wp_region_swap (ops' := roR29) (by kernel_rfl) (ro_r29 g w.heap.size a x _ _ _ _ _ _ _ _ _ _ _ _ _ _ _ _ _ _ _ _ _ _ _ _ _ _ _ _ _ _ _ _ _ _ _ _ _ _ _ _ _ _ _ _ _ _ _ _ _ _ _ _ _ _ _ _ _ _ _ _ _ _ _ _ _ _ _ _ _ _ _ _ _ _ _ _ _ _ _ _ _ _ _ _ _ _ _ _ _ _ _ _ _ _ _ _ _ _ _ _ _ _ _ _ _ _ _ _ _ _ _ _ _ _ _ _ _ _ _ _ _ _ _ _ _ _ _ _ _ _ _ _ _ _ _ _ _ _ _ _ _ _ _ _ _ _ _ _ _ _ _ _ _ _ _ _ _ _ _ _ _ _ _ _ _ _ _ _ _ _ _ _ _ _ _ _ _ _ _ _ _ _ _ _ _ _ _ _ _ _ _ _ _ _ _ _ _ _ _ _ _ _ _ _ _ _ _ _ _ _ _ _ _ _ _ _ _ _ _ _ _ _ _ _ _ _ _ _ _ _ _ _ _ _ _ ha (hI0.cell 1) ((hC0.blk.cell a).trans hx) (hC0.blk.free _) x0 x1 ?_)
  intro U3 U4 U5 U6 U7 U8 U9 Ya Yb Yc Yd Ye Yf Yg kd
  have hC2 := (hC0.drewN kd).setReg (a) (.int .i32 (bits BinOp.xor IntKind.i32 (-1) x))
  have hX2 : Blk ((w1.drewN kd).setCell ⟨g,a,none⟩ (.int .i32 (bits BinOp.xor IntKind.i32 (-1) x))) (w.heap.size + 1) 92 [.int .i64 0,.int .i64 0,.int .u32 0] := Blk.other (show Blk (w1.drewN kd) _ _ _ from hX0) (by show w.heap.size + 1 ≠ g; omega)
  generalize (w1.drewN kd).setCell ⟨g,a,none⟩ (.int .i32 (bits BinOp.xor IntKind.i32 (-1) x)) = w5 at hX2 hC2 ⊢
  go_wp2_with (first
    | ((with_reducible show wpList _ _ _ (Oper.mk none (Op.store _ (Operand.tmp 8) (Operand.tmp 234)) _ _ _ _ :: _) _ _); refine wpList_st3 hX2 rfl 92 (.tmp 8) (.tmp 234) (.int .i64 0) (.int .i64 0) (.int .u32 0) rfl (by kernel_rfl) (by kernel_rfl) (by simp [Value.oneCell']) (by kernel_rfl) ?_; rintro ⟨z0,z1,z2⟩)
    | fail)
  refine bodyPost_ret (v := .agg #[.int .i64 0,.int .i64 0,.int .u32 0]) (by simp [results,Tryd.results70,go_sem,z0,z1,z2]) rfl ⟨rfl,RW.farCells (by omega) _ _ _ hC2⟩
set_option maxRecDepth 20000 in
set_option maxHeartbeats 2000000 in
theorem ro_lis (op n f b word : Int) (a : Nat) (z : Value) (w : World) (g : Nat) (cells : List Value) (hB : Blk w g 89 cells) (ha : a < 8) (hz : cells[a]? = some z) :
    Calls Tryd.prog 70 #[.pointer (some ⟨g,0,none⟩),.string ⟨#[108,105,115]⟩,.agg #[.int .i64 op,.int .i64 a,.int .i64 b,.int .i32 n,.int .i64 f],.int .i32 word] w fun e w' => e = .returned (.agg #[.int .i64 0,.int .i64 0,.int .u32 0]) ∧ RW w g (cells.set a (.int .i32 n)) w' := by
  have hg := hB.lt
  have HB := Lib.hid hB
  have hI0 : Blk ((w.alloc (.cells #[.int .i64 op,.int .i64 a,.int .i64 b,.int .i32 n,.int .i64 f] 25)).alloc (.cells #[.int .i64 0,.int .i64 0,.int .u32 0] 92)) w.heap.size 25 [.int .i64 op,.int .i64 a,.int .i64 b,.int .i32 n,.int .i64 f] := (Blk.new w 25 [.int .i64 op,.int .i64 a,.int .i64 b,.int .i32 n,.int .i64 f]).alloc _
  have hX0 : Blk ((w.alloc (.cells #[.int .i64 op,.int .i64 a,.int .i64 b,.int .i32 n,.int .i64 f] 25)).alloc (.cells #[.int .i64 0,.int .i64 0,.int .u32 0] 92)) (w.heap.size + 1) 92 [.int .i64 0,.int .i64 0,.int .u32 0] := by
    have := Blk.new (w.alloc (.cells #[.int .i64 op,.int .i64 a,.int .i64 b,.int .i32 n,.int .i64 f] 25)) 92 [.int .i64 0,.int .i64 0,.int .u32 0]
    rw [World.size_alloc] at this
    exact this
  have hC0 : RW w g cells ((w.alloc (.cells #[.int .i64 op,.int .i64 a,.int .i64 b,.int .i32 n,.int .i64 f] 25)).alloc (.cells #[.int .i64 0,.int .i64 0,.int .u32 0] 92)) := ((RW.start hB).alloc _).alloc _
  clear hB
  go_enter Tryd.func70,Tryd.ntmps70
  go_wp2_with fail
  generalize ((w.alloc (.cells #[.int .i64 op,.int .i64 a,.int .i64 b,.int .i32 n,.int .i64 f] 25)).alloc (.cells #[.int .i64 0,.int .i64 0,.int .u32 0] 92)) = w1 at hI0 hX0 hC0 ⊢
  refine wp_region_swap (ops' := roR32) (by kernel_rfl) (ro_r32 g w.heap.size a n _ _ _ _ _ _ _ _ _ _ _ _ _ _ _ _ _ _ _ _ _ _ _ _ _ _ _ _ _ _ _ _ _ _ _ _ _ _ _ _ _ _ _ _ _ _ _ _ _ _ _ _ _ _ _ _ _ _ _ _ _ _ _ _ _ _ _ _ _ _ _ _ _ _ _ _ _ _ _ _ _ _ _ _ _ _ _ _ _ _ _ _ _ _ _ _ _ _ _ _ _ _ _ _ _ _ _ _ _ _ _ _ _ _ _ _ _ _ _ _ _ _ _ _ _ _ _ _ _ _ _ _ _ _ _ _ _ _ _ _ _ _ _ _ _ _ _ _ _ _ _ _ _ _ _ _ _ _ _ _ _ _ _ _ _ _ _ _ _ _ _ _ _ _ _ _ _ _ _ _ _ _ _ _ _ _ _ _ _ _ _ _ _ _ _ _ _ _ _ _ _ _ _ _ _ _ _ _ _ _ _ _ _ _ _ _ _ _ _ _ _ _ _ _ _ _ _ _ _ _ _ _ _ _ _ ha (hI0.cell 1) _ ((hC0.blk.cell a).trans hz) (hC0.blk.free _) (hI0.cell 3) ?_)
  intro Yh Yi Yj Yk Yl Ym Yn Yo kd
  have hC2 := (hC0.drewN kd).setReg (a) (.int .i32 n)
  have hX2 : Blk ((w1.drewN kd).setCell ⟨g,a,none⟩ (.int .i32 n)) (w.heap.size + 1) 92 [.int .i64 0,.int .i64 0,.int .u32 0] := Blk.other (show Blk (w1.drewN kd) _ _ _ from hX0) (by show w.heap.size + 1 ≠ g; omega)
  generalize (w1.drewN kd).setCell ⟨g,a,none⟩ (.int .i32 n) = w5 at hX2 hC2 ⊢
  go_wp2_with (first
    | ((with_reducible show wpList _ _ _ (Oper.mk none (Op.store _ (Operand.tmp 8) (Operand.tmp 234)) _ _ _ _ :: _) _ _); refine wpList_st3 hX2 rfl 92 (.tmp 8) (.tmp 234) (.int .i64 0) (.int .i64 0) (.int .u32 0) rfl (by kernel_rfl) (by kernel_rfl) (by simp [Value.oneCell']) (by kernel_rfl) ?_; rintro ⟨z0,z1,z2⟩)
    | fail)
  refine bodyPost_ret (v := .agg #[.int .i64 0,.int .i64 0,.int .u32 0]) (by simp [results,Tryd.results70,go_sem,z0,z1,z2]) rfl ⟨rfl,RW.farCells (by omega) _ _ _ hC2⟩
set_option maxRecDepth 20000 in
set_option maxHeartbeats 2000000 in
theorem ro_li (op n f b word : Int) (a : Nat) (z : Value) (w : World) (g : Nat) (cells : List Value) (hB : Blk w g 89 cells) (ha : a < 8) (hz : cells[a]? = some z) :
    Calls Tryd.prog 70 #[.pointer (some ⟨g,0,none⟩),.string ⟨#[108,105]⟩,.agg #[.int .i64 op,.int .i64 a,.int .i64 b,.int .i32 n,.int .i64 f],.int .i32 word] w fun e w' => e = .returned (.agg #[.int .i64 0,.int .i64 0,.int .u32 0]) ∧ RW w g (cells.set a (.int .i32 n)) w' := by
  have hg := hB.lt
  have HB := Lib.hid hB
  have hI0 : Blk ((w.alloc (.cells #[.int .i64 op,.int .i64 a,.int .i64 b,.int .i32 n,.int .i64 f] 25)).alloc (.cells #[.int .i64 0,.int .i64 0,.int .u32 0] 92)) w.heap.size 25 [.int .i64 op,.int .i64 a,.int .i64 b,.int .i32 n,.int .i64 f] := (Blk.new w 25 [.int .i64 op,.int .i64 a,.int .i64 b,.int .i32 n,.int .i64 f]).alloc _
  have hX0 : Blk ((w.alloc (.cells #[.int .i64 op,.int .i64 a,.int .i64 b,.int .i32 n,.int .i64 f] 25)).alloc (.cells #[.int .i64 0,.int .i64 0,.int .u32 0] 92)) (w.heap.size + 1) 92 [.int .i64 0,.int .i64 0,.int .u32 0] := by
    have := Blk.new (w.alloc (.cells #[.int .i64 op,.int .i64 a,.int .i64 b,.int .i32 n,.int .i64 f] 25)) 92 [.int .i64 0,.int .i64 0,.int .u32 0]
    rw [World.size_alloc] at this
    exact this
  have hC0 : RW w g cells ((w.alloc (.cells #[.int .i64 op,.int .i64 a,.int .i64 b,.int .i32 n,.int .i64 f] 25)).alloc (.cells #[.int .i64 0,.int .i64 0,.int .u32 0] 92)) := ((RW.start hB).alloc _).alloc _
  clear hB
  go_enter Tryd.func70,Tryd.ntmps70
  go_wp2_with fail
  generalize ((w.alloc (.cells #[.int .i64 op,.int .i64 a,.int .i64 b,.int .i32 n,.int .i64 f] 25)).alloc (.cells #[.int .i64 0,.int .i64 0,.int .u32 0] 92)) = w1 at hI0 hX0 hC0 ⊢
  refine wp_region_swap (ops' := roR32) (by kernel_rfl) (ro_r32 g w.heap.size a n _ _ _ _ _ _ _ _ _ _ _ _ _ _ _ _ _ _ _ _ _ _ _ _ _ _ _ _ _ _ _ _ _ _ _ _ _ _ _ _ _ _ _ _ _ _ _ _ _ _ _ _ _ _ _ _ _ _ _ _ _ _ _ _ _ _ _ _ _ _ _ _ _ _ _ _ _ _ _ _ _ _ _ _ _ _ _ _ _ _ _ _ _ _ _ _ _ _ _ _ _ _ _ _ _ _ _ _ _ _ _ _ _ _ _ _ _ _ _ _ _ _ _ _ _ _ _ _ _ _ _ _ _ _ _ _ _ _ _ _ _ _ _ _ _ _ _ _ _ _ _ _ _ _ _ _ _ _ _ _ _ _ _ _ _ _ _ _ _ _ _ _ _ _ _ _ _ _ _ _ _ _ _ _ _ _ _ _ _ _ _ _ _ _ _ _ _ _ _ _ _ _ _ _ _ _ _ _ _ _ _ _ _ _ _ _ _ _ _ _ _ _ _ _ _ _ _ _ _ _ _ _ _ _ _ ha (hI0.cell 1) _ ((hC0.blk.cell a).trans hz) (hC0.blk.free _) (hI0.cell 3) ?_)
  intro Yh Yi Yj Yk Yl Ym Yn Yo kd
  have hC2 := (hC0.drewN kd).setReg (a) (.int .i32 n)
  have hX2 : Blk ((w1.drewN kd).setCell ⟨g,a,none⟩ (.int .i32 n)) (w.heap.size + 1) 92 [.int .i64 0,.int .i64 0,.int .u32 0] := Blk.other (show Blk (w1.drewN kd) _ _ _ from hX0) (by show w.heap.size + 1 ≠ g; omega)
  generalize (w1.drewN kd).setCell ⟨g,a,none⟩ (.int .i32 n) = w5 at hX2 hC2 ⊢
  go_wp2_with (first
    | ((with_reducible show wpList _ _ _ (Oper.mk none (Op.store _ (Operand.tmp 8) (Operand.tmp 234)) _ _ _ _ :: _) _ _); refine wpList_st3 hX2 rfl 92 (.tmp 8) (.tmp 234) (.int .i64 0) (.int .i64 0) (.int .u32 0) rfl (by kernel_rfl) (by kernel_rfl) (by simp [Value.oneCell']) (by kernel_rfl) ?_; rintro ⟨z0,z1,z2⟩)
    | fail)
  refine bodyPost_ret (v := .agg #[.int .i64 0,.int .i64 0,.int .u32 0]) (by simp [results,Tryd.results70,go_sem,z0,z1,z2]) rfl ⟨rfl,RW.farCells (by omega) _ _ _ hC2⟩
set_option maxRecDepth 20000 in
set_option maxHeartbeats 2000000 in
theorem ro_ldp (op n f b word : Int) (a : Nat) (z : Value) (w : World) (g : Nat) (cells : List Value) (hB : Blk w g 89 cells) (ha : a < 8) (hz : cells[a]? = some z) :
    Calls Tryd.prog 70 #[.pointer (some ⟨g,0,none⟩),.string ⟨#[108,100,112]⟩,.agg #[.int .i64 op,.int .i64 a,.int .i64 b,.int .i32 n,.int .i64 f],.int .i32 word] w fun e w' => e = .returned (.agg #[.int .i64 0,.int .i64 0,.int .u32 0]) ∧ RW w g (cells.set a (.int .i32 word)) w' := by
  have hg := hB.lt
  have HB := Lib.hid hB
  have hI0 : Blk ((w.alloc (.cells #[.int .i64 op,.int .i64 a,.int .i64 b,.int .i32 n,.int .i64 f] 25)).alloc (.cells #[.int .i64 0,.int .i64 0,.int .u32 0] 92)) w.heap.size 25 [.int .i64 op,.int .i64 a,.int .i64 b,.int .i32 n,.int .i64 f] := (Blk.new w 25 [.int .i64 op,.int .i64 a,.int .i64 b,.int .i32 n,.int .i64 f]).alloc _
  have hX0 : Blk ((w.alloc (.cells #[.int .i64 op,.int .i64 a,.int .i64 b,.int .i32 n,.int .i64 f] 25)).alloc (.cells #[.int .i64 0,.int .i64 0,.int .u32 0] 92)) (w.heap.size + 1) 92 [.int .i64 0,.int .i64 0,.int .u32 0] := by
    have := Blk.new (w.alloc (.cells #[.int .i64 op,.int .i64 a,.int .i64 b,.int .i32 n,.int .i64 f] 25)) 92 [.int .i64 0,.int .i64 0,.int .u32 0]
    rw [World.size_alloc] at this
    exact this
  have hC0 : RW w g cells ((w.alloc (.cells #[.int .i64 op,.int .i64 a,.int .i64 b,.int .i32 n,.int .i64 f] 25)).alloc (.cells #[.int .i64 0,.int .i64 0,.int .u32 0] 92)) := ((RW.start hB).alloc _).alloc _
  clear hB
  go_enter Tryd.func70,Tryd.ntmps70
  go_wp2_with fail
  generalize ((w.alloc (.cells #[.int .i64 op,.int .i64 a,.int .i64 b,.int .i32 n,.int .i64 f] 25)).alloc (.cells #[.int .i64 0,.int .i64 0,.int .u32 0] 92)) = w1 at hI0 hX0 hC0 ⊢
  refine wp_region_swap (ops' := roR34) (by kernel_rfl) (ro_r34 g w.heap.size a word _ _ _ _ _ _ _ _ _ _ _ _ _ _ _ _ _ _ _ _ _ _ _ _ _ _ _ _ _ _ _ _ _ _ _ _ _ _ _ _ _ _ _ _ _ _ _ _ _ _ _ _ _ _ _ _ _ _ _ _ _ _ _ _ _ _ _ _ _ _ _ _ _ _ _ _ _ _ _ _ _ _ _ _ _ _ _ _ _ _ _ _ _ _ _ _ _ _ _ _ _ _ _ _ _ _ _ _ _ _ _ _ _ _ _ _ _ _ _ _ _ _ _ _ _ _ _ _ _ _ _ _ _ _ _ _ _ _ _ _ _ _ _ _ _ _ _ _ _ _ _ _ _ _ _ _ _ _ _ _ _ _ _ _ _ _ _ _ _ _ _ _ _ _ _ _ _ _ _ _ _ _ _ _ _ _ _ _ _ _ _ _ _ _ _ _ _ _ _ _ _ _ _ _ _ _ _ _ _ _ _ _ _ _ _ _ _ _ _ _ _ _ _ _ _ _ _ _ _ _ _ _ _ _ ha (hI0.cell 1) _ ((hC0.blk.cell a).trans hz) (hC0.blk.free _) ?_)
  intro Yp Yq Yr Ys Yt Yu Yv kd
  have hC2 := (hC0.drewN kd).setReg (a) (.int .i32 word)
  have hX2 : Blk ((w1.drewN kd).setCell ⟨g,a,none⟩ (.int .i32 word)) (w.heap.size + 1) 92 [.int .i64 0,.int .i64 0,.int .u32 0] := Blk.other (show Blk (w1.drewN kd) _ _ _ from hX0) (by show w.heap.size + 1 ≠ g; omega)
  generalize (w1.drewN kd).setCell ⟨g,a,none⟩ (.int .i32 word) = w5 at hX2 hC2 ⊢
  go_wp2_with (first
    | ((with_reducible show wpList _ _ _ (Oper.mk none (Op.store _ (Operand.tmp 8) (Operand.tmp 234)) _ _ _ _ :: _) _ _); refine wpList_st3 hX2 rfl 92 (.tmp 8) (.tmp 234) (.int .i64 0) (.int .i64 0) (.int .u32 0) rfl (by kernel_rfl) (by kernel_rfl) (by simp [Value.oneCell']) (by kernel_rfl) ?_; rintro ⟨z0,z1,z2⟩)
    | fail)
  refine bodyPost_ret (v := .agg #[.int .i64 0,.int .i64 0,.int .u32 0]) (by simp [results,Tryd.results70,go_sem,z0,z1,z2]) rfl ⟨rfl,RW.farCells (by omega) _ _ _ hC2⟩
set_option maxRecDepth 20000 in
set_option maxHeartbeats 2000000 in
theorem ro_jr (op n f b word : Int) (a : Nat) (x : Int) (w : World) (g : Nat) (cells : List Value) (hB : Blk w g 89 cells) (ha : a < 8) (hx : cells[a]? = some (.int .i32 x)) (x0 : -2147483648 ≤ x) (x1 : x ≤ 2147483647) :
    Calls Tryd.prog 70 #[.pointer (some ⟨g,0,none⟩),.string ⟨#[106,114]⟩,.agg #[.int .i64 op,.int .i64 a,.int .i64 b,.int .i32 n,.int .i64 f],.int .i32 word] w fun e w' => e = .returned (.agg #[.int .i64 4,.int .i64 0,.int .u32 (x % 4294967296)]) ∧ RW w g cells w' := by
  have hg := hB.lt
  have HB := Lib.hid hB
  have hI0 : Blk ((w.alloc (.cells #[.int .i64 op,.int .i64 a,.int .i64 b,.int .i32 n,.int .i64 f] 25)).alloc (.cells #[.int .i64 0,.int .i64 0,.int .u32 0] 92)) w.heap.size 25 [.int .i64 op,.int .i64 a,.int .i64 b,.int .i32 n,.int .i64 f] := (Blk.new w 25 [.int .i64 op,.int .i64 a,.int .i64 b,.int .i32 n,.int .i64 f]).alloc _
  have hX0 : Blk ((w.alloc (.cells #[.int .i64 op,.int .i64 a,.int .i64 b,.int .i32 n,.int .i64 f] 25)).alloc (.cells #[.int .i64 0,.int .i64 0,.int .u32 0] 92)) (w.heap.size + 1) 92 [.int .i64 0,.int .i64 0,.int .u32 0] := by
    have := Blk.new (w.alloc (.cells #[.int .i64 op,.int .i64 a,.int .i64 b,.int .i32 n,.int .i64 f] 25)) 92 [.int .i64 0,.int .i64 0,.int .u32 0]
    rw [World.size_alloc] at this
    exact this
  have hC0 : RW w g cells ((w.alloc (.cells #[.int .i64 op,.int .i64 a,.int .i64 b,.int .i32 n,.int .i64 f] 25)).alloc (.cells #[.int .i64 0,.int .i64 0,.int .u32 0] 92)) := ((RW.start hB).alloc _).alloc _
  clear hB
  go_enter Tryd.func70,Tryd.ntmps70
  go_wp2_with fail
  generalize ((w.alloc (.cells #[.int .i64 op,.int .i64 a,.int .i64 b,.int .i32 n,.int .i64 f] 25)).alloc (.cells #[.int .i64 0,.int .i64 0,.int .u32 0] 92)) = w1 at hI0 hX0 hC0 ⊢
  refine wp_region_swap (ops' := roR25) (by kernel_rfl) (ro_r25 g w.heap.size (w.heap.size + 1) a x _ _ _ _ _ _ _ _ _ _ _ _ _ _ _ _ _ _ _ _ _ _ _ _ _ _ _ _ _ _ _ _ _ _ _ _ _ _ _ _ _ _ _ _ _ _ _ _ _ _ _ _ _ _ _ _ _ _ _ _ _ _ _ _ _ _ _ _ _ _ _ _ _ _ _ _ _ _ _ _ _ _ _ _ _ _ _ _ _ _ _ _ _ _ _ _ _ _ _ _ _ _ _ _ _ _ _ _ _ _ _ _ _ _ _ _ _ _ _ _ _ _ _ _ _ _ _ _ _ _ _ _ _ _ _ _ _ _ _ _ _ _ _ _ _ _ _ _ _ _ _ _ _ _ _ _ _ _ _ _ _ _ _ _ _ _ _ _ _ _ _ _ _ _ _ _ _ _ _ _ _ _ _ _ _ _ _ _ _ _ _ _ _ _ _ _ _ _ _ _ _ _ _ _ _ _ _ _ _ _ _ _ _ _ _ _ _ _ _ _ _ _ _ _ _ _ _ _ _ _ _ _ _ _ ha (hI0.cell 1) ((hC0.blk.cell a).trans hx) x0 x1 _ _ _ hX0 ?_)
  intro UG UH UI UJ UK UL UM UN UO kd
  have hC2 : RW w g cells ((w1.drewN kd).setCells (w.heap.size + 1) 0 [.int .i64 4,.int .i64 0,.int .u32 (x % 4294967296)]) := RW.farCells (by omega) _ _ _ (hC0.drewN kd)
  have hX3 := (((show Blk (w1.drewN kd) _ _ _ from hX0).set_ 0 (.int .i64 4)).set_ 1 (.int .i64 0)).set_ 2 (.int .u32 (x % 4294967296))
  have hX2 : Blk ((w1.drewN kd).setCells (w.heap.size + 1) 0 [.int .i64 4,.int .i64 0,.int .u32 (x % 4294967296)]) (w.heap.size + 1) 92 [.int .i64 4,.int .i64 0,.int .u32 (x % 4294967296)] := hX3
  have z0 := hX2.cell 0
  have z1 := hX2.cell 1
  have z2 := hX2.cell 2
  simp only [List.getElem?_cons_zero,List.getElem?_cons_succ] at z0 z1 z2
  generalize (w1.drewN kd).setCells (w.heap.size + 1) 0 [.int .i64 4,.int .i64 0,.int .u32 (x % 4294967296)] = w5 at hC2 z0 z1 z2 ⊢
  clear hX2 hX3
  go_wp2_with fail
  refine bodyPost_ret (v := .agg #[.int .i64 4,.int .i64 0,.int .u32 (x % 4294967296)]) (by simp [results,Tryd.results70,go_sem,z0,z1,z2]) rfl ⟨rfl,hC2⟩
set_option maxRecDepth 20000 in
set_option maxHeartbeats 2000000 in
theorem ro_jz_go (op n f b word : Int) (a : Nat)  (w : World) (g : Nat) (cells : List Value) (hB : Blk w g 89 cells) (ha : a < 8) (hx : cells[a]? = some (.int .i32 0)) :
    Calls Tryd.prog 70 #[.pointer (some ⟨g,0,none⟩),.string ⟨#[106,122]⟩,.agg #[.int .i64 op,.int .i64 a,.int .i64 b,.int .i32 n,.int .i64 f],.int .i32 word] w fun e w' => e = .returned (.agg #[.int .i64 1,.int .i64 0,.int .u32 0]) ∧ RW w g cells w' := by
  have hg := hB.lt
  have HB := Lib.hid hB
  have hI0 : Blk ((w.alloc (.cells #[.int .i64 op,.int .i64 a,.int .i64 b,.int .i32 n,.int .i64 f] 25)).alloc (.cells #[.int .i64 0,.int .i64 0,.int .u32 0] 92)) w.heap.size 25 [.int .i64 op,.int .i64 a,.int .i64 b,.int .i32 n,.int .i64 f] := (Blk.new w 25 [.int .i64 op,.int .i64 a,.int .i64 b,.int .i32 n,.int .i64 f]).alloc _
  have hX0 : Blk ((w.alloc (.cells #[.int .i64 op,.int .i64 a,.int .i64 b,.int .i32 n,.int .i64 f] 25)).alloc (.cells #[.int .i64 0,.int .i64 0,.int .u32 0] 92)) (w.heap.size + 1) 92 [.int .i64 0,.int .i64 0,.int .u32 0] := by
    have := Blk.new (w.alloc (.cells #[.int .i64 op,.int .i64 a,.int .i64 b,.int .i32 n,.int .i64 f] 25)) 92 [.int .i64 0,.int .i64 0,.int .u32 0]
    rw [World.size_alloc] at this
    exact this
  have hC0 : RW w g cells ((w.alloc (.cells #[.int .i64 op,.int .i64 a,.int .i64 b,.int .i32 n,.int .i64 f] 25)).alloc (.cells #[.int .i64 0,.int .i64 0,.int .u32 0] 92)) := ((RW.start hB).alloc _).alloc _
  clear hB
  go_enter Tryd.func70,Tryd.ntmps70
  go_wp2_with fail
  have hA8 : (a : Int) < 8 := by omega
  generalize ((w.alloc (.cells #[.int .i64 op,.int .i64 a,.int .i64 b,.int .i32 n,.int .i64 f] 25)).alloc (.cells #[.int .i64 0,.int .i64 0,.int .u32 0] 92)) = w1 at hI0 hX0 hC0 ⊢
  have j1 := hI0.cell 1
  simp only [List.getElem?_cons_zero,List.getElem?_cons_succ] at j1
  have ca := (hC0.blk.cell a).trans hx
  go_quiet (fail)
  have hC2 := hC0.drewN nq
  have hX2 : Blk (w1.drewN nq) (w.heap.size + 1) _ _ := hX0
  clear j1 ca
  generalize w1.drewN nq = w5 at hC2 hX2 ⊢
  go_wp2_with (first
    | ((with_reducible show wpList _ _ _ (Oper.mk none (Op.store _ (Operand.tmp 8) (Operand.tmp 215)) _ _ _ _ :: _) _ _); refine wpList_st3 hX2 rfl 92 (.tmp 8) (.tmp 215) (.int .i64 1) (.int .i64 0) (.int .u32 0) rfl (by kernel_rfl) (by kernel_rfl) (by simp [Value.oneCell']) (by kernel_rfl) ?_; rintro ⟨z0,z1,z2⟩)
    | fail)
  refine bodyPost_ret (v := .agg #[.int .i64 1,.int .i64 0,.int .u32 0]) (by simp [results,Tryd.results70,go_sem,z0,z1,z2]) rfl ⟨rfl,RW.farCells (by omega) _ _ _ hC2⟩
set_option maxRecDepth 20000 in
set_option maxHeartbeats 2000000 in
theorem ro_jz_on (op n f b word : Int) (a : Nat) (x : Int) (w : World) (g : Nat) (cells : List Value) (hB : Blk w g 89 cells) (ha : a < 8) (x0 : ¬ x = 0) (hx : cells[a]? = some (.int .i32 x)) :
    Calls Tryd.prog 70 #[.pointer (some ⟨g,0,none⟩),.string ⟨#[106,122]⟩,.agg #[.int .i64 op,.int .i64 a,.int .i64 b,.int .i32 n,.int .i64 f],.int .i32 word] w fun e w' => e = .returned (.agg #[.int .i64 0,.int .i64 0,.int .u32 0]) ∧ RW w g cells w' := by
  have hg := hB.lt
  have HB := Lib.hid hB
  have hI0 : Blk ((w.alloc (.cells #[.int .i64 op,.int .i64 a,.int .i64 b,.int .i32 n,.int .i64 f] 25)).alloc (.cells #[.int .i64 0,.int .i64 0,.int .u32 0] 92)) w.heap.size 25 [.int .i64 op,.int .i64 a,.int .i64 b,.int .i32 n,.int .i64 f] := (Blk.new w 25 [.int .i64 op,.int .i64 a,.int .i64 b,.int .i32 n,.int .i64 f]).alloc _
  have hX0 : Blk ((w.alloc (.cells #[.int .i64 op,.int .i64 a,.int .i64 b,.int .i32 n,.int .i64 f] 25)).alloc (.cells #[.int .i64 0,.int .i64 0,.int .u32 0] 92)) (w.heap.size + 1) 92 [.int .i64 0,.int .i64 0,.int .u32 0] := by
    have := Blk.new (w.alloc (.cells #[.int .i64 op,.int .i64 a,.int .i64 b,.int .i32 n,.int .i64 f] 25)) 92 [.int .i64 0,.int .i64 0,.int .u32 0]
    rw [World.size_alloc] at this
    exact this
  have hC0 : RW w g cells ((w.alloc (.cells #[.int .i64 op,.int .i64 a,.int .i64 b,.int .i32 n,.int .i64 f] 25)).alloc (.cells #[.int .i64 0,.int .i64 0,.int .u32 0] 92)) := ((RW.start hB).alloc _).alloc _
  clear hB
  go_enter Tryd.func70,Tryd.ntmps70
  go_wp2_with fail
  have hA8 : (a : Int) < 8 := by omega
  generalize ((w.alloc (.cells #[.int .i64 op,.int .i64 a,.int .i64 b,.int .i32 n,.int .i64 f] 25)).alloc (.cells #[.int .i64 0,.int .i64 0,.int .u32 0] 92)) = w1 at hI0 hX0 hC0 ⊢
  have j1 := hI0.cell 1
  simp only [List.getElem?_cons_zero,List.getElem?_cons_succ] at j1
  have ca := (hC0.blk.cell a).trans hx
  go_quiet (fail)
  have hC2 := hC0.drewN nq
  have hX2 : Blk (w1.drewN nq) (w.heap.size + 1) _ _ := hX0
  clear j1 ca
  generalize w1.drewN nq = w5 at hC2 hX2 ⊢
  go_wp2_with (first
    | ((with_reducible show wpList _ _ _ (Oper.mk none (Op.store _ (Operand.tmp 8) (Operand.tmp 234)) _ _ _ _ :: _) _ _); refine wpList_st3 hX2 rfl 92 (.tmp 8) (.tmp 234) (.int .i64 0) (.int .i64 0) (.int .u32 0) rfl (by kernel_rfl) (by kernel_rfl) (by simp [Value.oneCell']) (by kernel_rfl) ?_; rintro ⟨z0,z1,z2⟩)
    | fail)
  refine bodyPost_ret (v := .agg #[.int .i64 0,.int .i64 0,.int .u32 0]) (by simp [results,Tryd.results70,go_sem,z0,z1,z2]) rfl ⟨rfl,RW.farCells (by omega) _ _ _ hC2⟩
set_option maxRecDepth 20000 in
set_option maxHeartbeats 2000000 in
theorem ro_jnz_on (op n f b word : Int) (a : Nat)  (w : World) (g : Nat) (cells : List Value) (hB : Blk w g 89 cells) (ha : a < 8) (hx : cells[a]? = some (.int .i32 0)) :
    Calls Tryd.prog 70 #[.pointer (some ⟨g,0,none⟩),.string ⟨#[106,110,122]⟩,.agg #[.int .i64 op,.int .i64 a,.int .i64 b,.int .i32 n,.int .i64 f],.int .i32 word] w fun e w' => e = .returned (.agg #[.int .i64 0,.int .i64 0,.int .u32 0]) ∧ RW w g cells w' := by
  have hg := hB.lt
  have HB := Lib.hid hB
  have hI0 : Blk ((w.alloc (.cells #[.int .i64 op,.int .i64 a,.int .i64 b,.int .i32 n,.int .i64 f] 25)).alloc (.cells #[.int .i64 0,.int .i64 0,.int .u32 0] 92)) w.heap.size 25 [.int .i64 op,.int .i64 a,.int .i64 b,.int .i32 n,.int .i64 f] := (Blk.new w 25 [.int .i64 op,.int .i64 a,.int .i64 b,.int .i32 n,.int .i64 f]).alloc _
  have hX0 : Blk ((w.alloc (.cells #[.int .i64 op,.int .i64 a,.int .i64 b,.int .i32 n,.int .i64 f] 25)).alloc (.cells #[.int .i64 0,.int .i64 0,.int .u32 0] 92)) (w.heap.size + 1) 92 [.int .i64 0,.int .i64 0,.int .u32 0] := by
    have := Blk.new (w.alloc (.cells #[.int .i64 op,.int .i64 a,.int .i64 b,.int .i32 n,.int .i64 f] 25)) 92 [.int .i64 0,.int .i64 0,.int .u32 0]
    rw [World.size_alloc] at this
    exact this
  have hC0 : RW w g cells ((w.alloc (.cells #[.int .i64 op,.int .i64 a,.int .i64 b,.int .i32 n,.int .i64 f] 25)).alloc (.cells #[.int .i64 0,.int .i64 0,.int .u32 0] 92)) := ((RW.start hB).alloc _).alloc _
  clear hB
  go_enter Tryd.func70,Tryd.ntmps70
  go_wp2_with fail
  have hA8 : (a : Int) < 8 := by omega
  generalize ((w.alloc (.cells #[.int .i64 op,.int .i64 a,.int .i64 b,.int .i32 n,.int .i64 f] 25)).alloc (.cells #[.int .i64 0,.int .i64 0,.int .u32 0] 92)) = w1 at hI0 hX0 hC0 ⊢
  have j1 := hI0.cell 1
  simp only [List.getElem?_cons_zero,List.getElem?_cons_succ] at j1
  have ca := (hC0.blk.cell a).trans hx
  go_quiet (fail)
  have hC2 := hC0.drewN nq
  have hX2 : Blk (w1.drewN nq) (w.heap.size + 1) _ _ := hX0
  clear j1 ca
  generalize w1.drewN nq = w5 at hC2 hX2 ⊢
  go_wp2_with (first
    | ((with_reducible show wpList _ _ _ (Oper.mk none (Op.store _ (Operand.tmp 8) (Operand.tmp 234)) _ _ _ _ :: _) _ _); refine wpList_st3 hX2 rfl 92 (.tmp 8) (.tmp 234) (.int .i64 0) (.int .i64 0) (.int .u32 0) rfl (by kernel_rfl) (by kernel_rfl) (by simp [Value.oneCell']) (by kernel_rfl) ?_; rintro ⟨z0,z1,z2⟩)
    | fail)
  refine bodyPost_ret (v := .agg #[.int .i64 0,.int .i64 0,.int .u32 0]) (by simp [results,Tryd.results70,go_sem,z0,z1,z2]) rfl ⟨rfl,RW.farCells (by omega) _ _ _ hC2⟩
set_option maxRecDepth 20000 in
set_option maxHeartbeats 2000000 in
theorem ro_jnz_go (op n f b word : Int) (a : Nat) (x : Int) (w : World) (g : Nat) (cells : List Value) (hB : Blk w g 89 cells) (ha : a < 8) (x0 : ¬ x = 0) (hx : cells[a]? = some (.int .i32 x)) :
    Calls Tryd.prog 70 #[.pointer (some ⟨g,0,none⟩),.string ⟨#[106,110,122]⟩,.agg #[.int .i64 op,.int .i64 a,.int .i64 b,.int .i32 n,.int .i64 f],.int .i32 word] w fun e w' => e = .returned (.agg #[.int .i64 1,.int .i64 0,.int .u32 0]) ∧ RW w g cells w' := by
  have hg := hB.lt
  have HB := Lib.hid hB
  have hI0 : Blk ((w.alloc (.cells #[.int .i64 op,.int .i64 a,.int .i64 b,.int .i32 n,.int .i64 f] 25)).alloc (.cells #[.int .i64 0,.int .i64 0,.int .u32 0] 92)) w.heap.size 25 [.int .i64 op,.int .i64 a,.int .i64 b,.int .i32 n,.int .i64 f] := (Blk.new w 25 [.int .i64 op,.int .i64 a,.int .i64 b,.int .i32 n,.int .i64 f]).alloc _
  have hX0 : Blk ((w.alloc (.cells #[.int .i64 op,.int .i64 a,.int .i64 b,.int .i32 n,.int .i64 f] 25)).alloc (.cells #[.int .i64 0,.int .i64 0,.int .u32 0] 92)) (w.heap.size + 1) 92 [.int .i64 0,.int .i64 0,.int .u32 0] := by
    have := Blk.new (w.alloc (.cells #[.int .i64 op,.int .i64 a,.int .i64 b,.int .i32 n,.int .i64 f] 25)) 92 [.int .i64 0,.int .i64 0,.int .u32 0]
    rw [World.size_alloc] at this
    exact this
  have hC0 : RW w g cells ((w.alloc (.cells #[.int .i64 op,.int .i64 a,.int .i64 b,.int .i32 n,.int .i64 f] 25)).alloc (.cells #[.int .i64 0,.int .i64 0,.int .u32 0] 92)) := ((RW.start hB).alloc _).alloc _
  clear hB
  go_enter Tryd.func70,Tryd.ntmps70
  go_wp2_with fail
  have hA8 : (a : Int) < 8 := by omega
  generalize ((w.alloc (.cells #[.int .i64 op,.int .i64 a,.int .i64 b,.int .i32 n,.int .i64 f] 25)).alloc (.cells #[.int .i64 0,.int .i64 0,.int .u32 0] 92)) = w1 at hI0 hX0 hC0 ⊢
  have j1 := hI0.cell 1
  simp only [List.getElem?_cons_zero,List.getElem?_cons_succ] at j1
  have ca := (hC0.blk.cell a).trans hx
  go_quiet (fail)
  have hC2 := hC0.drewN nq
  have hX2 : Blk (w1.drewN nq) (w.heap.size + 1) _ _ := hX0
  clear j1 ca
  generalize w1.drewN nq = w5 at hC2 hX2 ⊢
  go_wp2_with (first
    | ((with_reducible show wpList _ _ _ (Oper.mk none (Op.store _ (Operand.tmp 8) (Operand.tmp 226)) _ _ _ _ :: _) _ _); refine wpList_st3 hX2 rfl 92 (.tmp 8) (.tmp 226) (.int .i64 1) (.int .i64 0) (.int .u32 0) rfl (by kernel_rfl) (by kernel_rfl) (by simp [Value.oneCell']) (by kernel_rfl) ?_; rintro ⟨z0,z1,z2⟩)
    | fail)
  refine bodyPost_ret (v := .agg #[.int .i64 1,.int .i64 0,.int .u32 0]) (by simp [results,Tryd.results70,go_sem,z0,z1,z2]) rfl ⟨rfl,RW.farCells (by omega) _ _ _ hC2⟩
set_option maxRecDepth 20000 in
set_option maxHeartbeats 2000000 in
theorem ro_in1 (op n f b word : Int) (a : Nat) (ib io : Nat) (v : Int) (z : Value) (w : World) (g : Nat) (cells : List Value) (hB : Blk w g 89 cells) (ha : a < 8) (hz : cells[a]? = some z) (hA : cells[270]? = some (.slice (some ⟨ib,io,none⟩) 1 1)) (hv : w.cell? ⟨ib,io,none⟩ = some (.int .i32 v)) (hib : ib ≠ g)  :
    Calls Tryd.prog 70 #[.pointer (some ⟨g,0,none⟩),.string ⟨#[105,110]⟩,.agg #[.int .i64 op,.int .i64 a,.int .i64 b,.int .i32 n,.int .i64 f],.int .i32 word] w fun e w' => e = .returned (.agg #[.int .i64 0,.int .i64 0,.int .u32 0]) ∧ RW w g ((cells.set a (.int .i32 v)).set 270 (.slice (some ⟨ib,io,none⟩) 0 0)) w' := by
  have hg := hB.lt
  have HB := Lib.hid hB
  have hI0 : Blk ((w.alloc (.cells #[.int .i64 op,.int .i64 a,.int .i64 b,.int .i32 n,.int .i64 f] 25)).alloc (.cells #[.int .i64 0,.int .i64 0,.int .u32 0] 92)) w.heap.size 25 [.int .i64 op,.int .i64 a,.int .i64 b,.int .i32 n,.int .i64 f] := (Blk.new w 25 [.int .i64 op,.int .i64 a,.int .i64 b,.int .i32 n,.int .i64 f]).alloc _
  have hX0 : Blk ((w.alloc (.cells #[.int .i64 op,.int .i64 a,.int .i64 b,.int .i32 n,.int .i64 f] 25)).alloc (.cells #[.int .i64 0,.int .i64 0,.int .u32 0] 92)) (w.heap.size + 1) 92 [.int .i64 0,.int .i64 0,.int .u32 0] := by
    have := Blk.new (w.alloc (.cells #[.int .i64 op,.int .i64 a,.int .i64 b,.int .i32 n,.int .i64 f] 25)) 92 [.int .i64 0,.int .i64 0,.int .u32 0]
    rw [World.size_alloc] at this
    exact this
  have hC0 : RW w g cells ((w.alloc (.cells #[.int .i64 op,.int .i64 a,.int .i64 b,.int .i32 n,.int .i64 f] 25)).alloc (.cells #[.int .i64 0,.int .i64 0,.int .u32 0] 92)) := ((RW.start hB).alloc _).alloc _
  have hbl := World.block_lt_of_cell? _ _ hv
  have q0 : ((w.alloc (.cells #[.int .i64 op,.int .i64 a,.int .i64 b,.int .i32 n,.int .i64 f] 25)).alloc (.cells #[.int .i64 0,.int .i64 0,.int .u32 0] 92)).cell? ⟨g,270,none⟩ = some (.slice (some ⟨ib,io,none⟩) 1 1) := (hC0.blk.cell 270).trans hA
  skip
  have hv := Lib.hid hv
  clear hB
  go_enter Tryd.func70,Tryd.ntmps70
  go_wp2_with fail
  generalize ((w.alloc (.cells #[.int .i64 op,.int .i64 a,.int .i64 b,.int .i32 n,.int .i64 f] 25)).alloc (.cells #[.int .i64 0,.int .i64 0,.int .u32 0] 92)) = w1 at hI0 hX0 hC0 q0 ⊢
  clear q0
  have hv1 : w1.cell? ⟨ib,io,none⟩ = some (.int .i32 v) := (World.cell?_of_block (w := w) (a := ⟨ib,io,none⟩) (hC0.fr.block ib hbl hib)).trans hv.out
  refine wp_region_swap (ops' := roR13) (by kernel_rfl) (ro_r13 g w.heap.size a ib io 0 1 v _ _ _ _ _ _ _ _ _ _ _ _ _ _ _ _ _ _ _ _ _ _ _ _ _ _ _ _ _ _ _ _ _ _ _ _ _ _ _ _ _ _ _ _ _ _ _ _ _ _ _ _ _ _ _ _ _ _ _ _ _ _ _ _ _ _ _ _ _ _ _ _ _ _ _ _ _ _ _ _ _ _ _ _ _ _ _ _ _ _ _ _ _ _ _ _ _ _ _ _ _ _ _ _ _ _ _ _ _ _ _ _ _ _ _ _ _ _ _ _ _ _ _ _ _ _ _ _ _ _ _ _ _ _ _ _ _ _ _ _ _ _ _ _ _ _ _ _ _ _ _ _ _ _ _ _ _ _ _ _ _ _ _ _ _ _ _ _ _ _ _ _ _ _ _ _ _ _ _ _ _ _ _ _ _ _ _ _ _ _ _ _ _ _ _ _ _ _ _ _ _ _ _ _ _ _ _ _ _ _ _ _ _ _ _ _ _ _ _ _ _ _ _ _ _ _ _ _ _ _ _ _ _ _ _ ha (hI0.cell 1) _ ((hC0.blk.cell a).trans hz) (hC0.blk.free _) ((hC0.blk.cell 270).trans hA) hv1 ?_)
  intro YM YN YO YP YQ YR YS YT YU YV YW YX kd
  have hC2 := (hC0.drewN kd).setReg (a) (.int .i32 v)
  have hX2 : Blk ((w1.drewN kd).setCell ⟨g,a,none⟩ (.int .i32 v)) (w.heap.size + 1) 92 [.int .i64 0,.int .i64 0,.int .u32 0] := Blk.other (show Blk (w1.drewN kd) _ _ _ from hX0) (by show w.heap.size + 1 ≠ g; omega)
  generalize (w1.drewN kd).setCell ⟨g,a,none⟩ (.int .i32 v) = w5 at hX2 hC2 ⊢
  have q2 := hC2.blk.cell 270
  rw [List.getElem?_set_ne (by omega),hA] at q2
  have f2 := hC2.blk.free 270
  skip
  go_wp2_with (first
    | ((with_reducible show wpList _ _ _ (Oper.mk none (Op.store _ (Operand.tmp 8) (Operand.tmp 234)) _ _ _ _ :: _) _ _); refine wpList_st3 (hX2.other (by show w.heap.size + 1 ≠ g; omega)) rfl 92 (.tmp 8) (.tmp 234) (.int .i64 0) (.int .i64 0) (.int .u32 0) rfl (by kernel_rfl) (by kernel_rfl) (by simp [Value.oneCell']) (by kernel_rfl) ?_; rintro ⟨z0,z1,z2⟩)
    | fail)
  refine bodyPost_ret (v := .agg #[.int .i64 0,.int .i64 0,.int .u32 0]) (by simp [results,Tryd.results70,go_sem,z0,z1,z2]) rfl ⟨rfl,RW.farCells (by omega) _ _ _ (hC2.setReg 270 _)⟩
set_option maxRecDepth 20000 in
set_option maxHeartbeats 2000000 in
theorem ro_in2 (op n f b word : Int) (a : Nat) (ib io q c : Nat) (v : Int) (z : Value) (w : World) (g : Nat) (cells : List Value) (hB : Blk w g 89 cells) (ha : a < 8) (hz : cells[a]? = some z) (hA : cells[270]? = some (.slice (some ⟨ib,io,none⟩) (q + 1) c)) (hv : w.cell? ⟨ib,io,none⟩ = some (.int .i32 v)) (hib : ib ≠ g) (hqc : q + 1 ≤ c) (hcm : c ≤ 9223372036854775807) (hc1 : ¬ c = 1) :
    Calls Tryd.prog 70 #[.pointer (some ⟨g,0,none⟩),.string ⟨#[105,110]⟩,.agg #[.int .i64 op,.int .i64 a,.int .i64 b,.int .i32 n,.int .i64 f],.int .i32 word] w fun e w' => e = .returned (.agg #[.int .i64 0,.int .i64 0,.int .u32 0]) ∧ RW w g ((cells.set a (.int .i32 v)).set 270 (.slice (some ⟨ib,io + 1,none⟩) q (c - 1))) w' := by
  have hg := hB.lt
  have HB := Lib.hid hB
  have hI0 : Blk ((w.alloc (.cells #[.int .i64 op,.int .i64 a,.int .i64 b,.int .i32 n,.int .i64 f] 25)).alloc (.cells #[.int .i64 0,.int .i64 0,.int .u32 0] 92)) w.heap.size 25 [.int .i64 op,.int .i64 a,.int .i64 b,.int .i32 n,.int .i64 f] := (Blk.new w 25 [.int .i64 op,.int .i64 a,.int .i64 b,.int .i32 n,.int .i64 f]).alloc _
  have hX0 : Blk ((w.alloc (.cells #[.int .i64 op,.int .i64 a,.int .i64 b,.int .i32 n,.int .i64 f] 25)).alloc (.cells #[.int .i64 0,.int .i64 0,.int .u32 0] 92)) (w.heap.size + 1) 92 [.int .i64 0,.int .i64 0,.int .u32 0] := by
    have := Blk.new (w.alloc (.cells #[.int .i64 op,.int .i64 a,.int .i64 b,.int .i32 n,.int .i64 f] 25)) 92 [.int .i64 0,.int .i64 0,.int .u32 0]
    rw [World.size_alloc] at this
    exact this
  have hC0 : RW w g cells ((w.alloc (.cells #[.int .i64 op,.int .i64 a,.int .i64 b,.int .i32 n,.int .i64 f] 25)).alloc (.cells #[.int .i64 0,.int .i64 0,.int .u32 0] 92)) := ((RW.start hB).alloc _).alloc _
  have hbl := World.block_lt_of_cell? _ _ hv
  have q0 : ((w.alloc (.cells #[.int .i64 op,.int .i64 a,.int .i64 b,.int .i32 n,.int .i64 f] 25)).alloc (.cells #[.int .i64 0,.int .i64 0,.int .u32 0] 92)).cell? ⟨g,270,none⟩ = some (.slice (some ⟨ib,io,none⟩) (q + 1) c) := (hC0.blk.cell 270).trans hA
  have hne : ¬ ((q : Int) + 1 = 0) := by omega
  have hv := Lib.hid hv
  clear hB
  go_enter Tryd.func70,Tryd.ntmps70
  go_wp2_with fail
  generalize ((w.alloc (.cells #[.int .i64 op,.int .i64 a,.int .i64 b,.int .i32 n,.int .i64 f] 25)).alloc (.cells #[.int .i64 0,.int .i64 0,.int .u32 0] 92)) = w1 at hI0 hX0 hC0 q0 ⊢
  clear q0
  have hv1 : w1.cell? ⟨ib,io,none⟩ = some (.int .i32 v) := (World.cell?_of_block (w := w) (a := ⟨ib,io,none⟩) (hC0.fr.block ib hbl hib)).trans hv.out
  refine wp_region_swap (ops' := roR13) (by kernel_rfl) (ro_r13 g w.heap.size a ib io q c v _ _ _ _ _ _ _ _ _ _ _ _ _ _ _ _ _ _ _ _ _ _ _ _ _ _ _ _ _ _ _ _ _ _ _ _ _ _ _ _ _ _ _ _ _ _ _ _ _ _ _ _ _ _ _ _ _ _ _ _ _ _ _ _ _ _ _ _ _ _ _ _ _ _ _ _ _ _ _ _ _ _ _ _ _ _ _ _ _ _ _ _ _ _ _ _ _ _ _ _ _ _ _ _ _ _ _ _ _ _ _ _ _ _ _ _ _ _ _ _ _ _ _ _ _ _ _ _ _ _ _ _ _ _ _ _ _ _ _ _ _ _ _ _ _ _ _ _ _ _ _ _ _ _ _ _ _ _ _ _ _ _ _ _ _ _ _ _ _ _ _ _ _ _ _ _ _ _ _ _ _ _ _ _ _ _ _ _ _ _ _ _ _ _ _ _ _ _ _ _ _ _ _ _ _ _ _ _ _ _ _ _ _ _ _ _ _ _ _ _ _ _ _ _ _ _ _ _ _ _ _ _ _ _ _ ha (hI0.cell 1) _ ((hC0.blk.cell a).trans hz) (hC0.blk.free _) ((hC0.blk.cell 270).trans hA) hv1 ?_)
  intro YM YN YO YP YQ YR YS YT YU YV YW YX kd
  have hC2 := (hC0.drewN kd).setReg (a) (.int .i32 v)
  have hX2 : Blk ((w1.drewN kd).setCell ⟨g,a,none⟩ (.int .i32 v)) (w.heap.size + 1) 92 [.int .i64 0,.int .i64 0,.int .u32 0] := Blk.other (show Blk (w1.drewN kd) _ _ _ from hX0) (by show w.heap.size + 1 ≠ g; omega)
  generalize (w1.drewN kd).setCell ⟨g,a,none⟩ (.int .i32 v) = w5 at hX2 hC2 ⊢
  have q2 := hC2.blk.cell 270
  rw [List.getElem?_set_ne (by omega),hA] at q2
  have f2 := hC2.blk.free 270
  have h1 : (1 : Int) ≤ (q : Int) + 1 := by omega
  go_wp2_with (first
    | ((with_reducible show wpList _ _ _ (Oper.mk none (Op.store _ (Operand.tmp 8) (Operand.tmp 234)) _ _ _ _ :: _) _ _); refine wpList_st3 (hX2.other (by show w.heap.size + 1 ≠ g; omega)) rfl 92 (.tmp 8) (.tmp 234) (.int .i64 0) (.int .i64 0) (.int .u32 0) rfl (by kernel_rfl) (by kernel_rfl) (by simp [Value.oneCell']) (by kernel_rfl) ?_; rintro ⟨z0,z1,z2⟩)
    | fail)
  refine bodyPost_ret (v := .agg #[.int .i64 0,.int .i64 0,.int .u32 0]) (by simp [results,Tryd.results70,go_sem,z0,z1,z2]) rfl ⟨rfl,RW.farCells (by omega) _ _ _ (hC2.setReg 270 _)⟩
set_option maxRecDepth 20000 in
set_option maxHeartbeats 2000000 in
theorem ro_pop (op n f b word : Int) (a : Nat) (ib io q c : Nat) (v : Int) (z : Value) (w : World) (g : Nat) (cells : List Value) (hB : Blk w g 89 cells) (ha : a < 8) (hz : cells[a]? = some z) (hA : cells[12]? = some (.slice (some ⟨ib,io,none⟩) (q + 1) c)) (hv : w.cell? ⟨ib,io + q,none⟩ = some (.int .i32 v)) (hib : ib ≠ g) (hqc : q + 1 ≤ c) (hcm : c ≤ 9223372036854775807) :
    Calls Tryd.prog 70 #[.pointer (some ⟨g,0,none⟩),.string ⟨#[112,111,112]⟩,.agg #[.int .i64 op,.int .i64 a,.int .i64 b,.int .i32 n,.int .i64 f],.int .i32 word] w fun e w' => e = .returned (.agg #[.int .i64 0,.int .i64 0,.int .u32 0]) ∧ RW w g ((cells.set a (.int .i32 v)).set 12 (.slice (some ⟨ib,io,none⟩) q c)) w' := by
  have hg := hB.lt
  have HB := Lib.hid hB
  have hI0 : Blk ((w.alloc (.cells #[.int .i64 op,.int .i64 a,.int .i64 b,.int .i32 n,.int .i64 f] 25)).alloc (.cells #[.int .i64 0,.int .i64 0,.int .u32 0] 92)) w.heap.size 25 [.int .i64 op,.int .i64 a,.int .i64 b,.int .i32 n,.int .i64 f] := (Blk.new w 25 [.int .i64 op,.int .i64 a,.int .i64 b,.int .i32 n,.int .i64 f]).alloc _
  have hX0 : Blk ((w.alloc (.cells #[.int .i64 op,.int .i64 a,.int .i64 b,.int .i32 n,.int .i64 f] 25)).alloc (.cells #[.int .i64 0,.int .i64 0,.int .u32 0] 92)) (w.heap.size + 1) 92 [.int .i64 0,.int .i64 0,.int .u32 0] := by
    have := Blk.new (w.alloc (.cells #[.int .i64 op,.int .i64 a,.int .i64 b,.int .i32 n,.int .i64 f] 25)) 92 [.int .i64 0,.int .i64 0,.int .u32 0]
    rw [World.size_alloc] at this
    exact this
  have hC0 : RW w g cells ((w.alloc (.cells #[.int .i64 op,.int .i64 a,.int .i64 b,.int .i32 n,.int .i64 f] 25)).alloc (.cells #[.int .i64 0,.int .i64 0,.int .u32 0] 92)) := ((RW.start hB).alloc _).alloc _
  have hbl := World.block_lt_of_cell? _ _ hv
  have q0 : ((w.alloc (.cells #[.int .i64 op,.int .i64 a,.int .i64 b,.int .i32 n,.int .i64 f] 25)).alloc (.cells #[.int .i64 0,.int .i64 0,.int .u32 0] 92)).cell? ⟨g,12,none⟩ = some (.slice (some ⟨ib,io,none⟩) (q + 1) c) := (hC0.blk.cell 12).trans hA
  have hne : ¬ ((q : Int) + 1 = 0) := by omega
  have hv := Lib.hid hv
  clear hB
  go_enter Tryd.func70,Tryd.ntmps70
  go_wp2_with fail
  generalize ((w.alloc (.cells #[.int .i64 op,.int .i64 a,.int .i64 b,.int .i32 n,.int .i64 f] 25)).alloc (.cells #[.int .i64 0,.int .i64 0,.int .u32 0] 92)) = w1 at hI0 hX0 hC0 q0 ⊢
  clear q0
  have hv1 : w1.cell? ⟨ib,io + q,none⟩ = some (.int .i32 v) := (World.cell?_of_block (w := w) (a := ⟨ib,io + q,none⟩) (hC0.fr.block ib hbl hib)).trans hv.out
  refine wp_region_swap (ops' := roR22) (by kernel_rfl) (ro_r22 g w.heap.size a ib io q c v _ _ _ _ _ _ _ _ _ _ _ _ _ _ _ _ _ _ _ _ _ _ _ _ _ _ _ _ _ _ _ _ _ _ _ _ _ _ _ _ _ _ _ _ _ _ _ _ _ _ _ _ _ _ _ _ _ _ _ _ _ _ _ _ _ _ _ _ _ _ _ _ _ _ _ _ _ _ _ _ _ _ _ _ _ _ _ _ _ _ _ _ _ _ _ _ _ _ _ _ _ _ _ _ _ _ _ _ _ _ _ _ _ _ _ _ _ _ _ _ _ _ _ _ _ _ _ _ _ _ _ _ _ _ _ _ _ _ _ _ _ _ _ _ _ _ _ _ _ _ _ _ _ _ _ _ _ _ _ _ _ _ _ _ _ _ _ _ _ _ _ _ _ _ _ _ _ _ _ _ _ _ _ _ _ _ _ _ _ _ _ _ _ _ _ _ _ _ _ _ _ _ _ _ _ _ _ _ _ _ _ _ _ _ _ _ _ _ _ _ _ _ _ _ _ _ _ _ _ _ _ _ _ _ _ ha (hI0.cell 1) _ ((hC0.blk.cell a).trans hz) (hC0.blk.free _) ((hC0.blk.cell 12).trans hA) hv1 hqc hcm ?_)
  intro Ua Ub Uc Ud Ue Uf Ug Uh Ui Uj Uk Ul Um Un Uo Up Uq Ur kd
  have hC2 := (hC0.drewN kd).setReg (a) (.int .i32 v)
  have hX2 : Blk ((w1.drewN kd).setCell ⟨g,a,none⟩ (.int .i32 v)) (w.heap.size + 1) 92 [.int .i64 0,.int .i64 0,.int .u32 0] := Blk.other (show Blk (w1.drewN kd) _ _ _ from hX0) (by show w.heap.size + 1 ≠ g; omega)
  generalize (w1.drewN kd).setCell ⟨g,a,none⟩ (.int .i32 v) = w5 at hX2 hC2 ⊢
  have q2 := hC2.blk.cell 12
  rw [List.getElem?_set_ne (by omega),hA] at q2
  go_wp2_with fail
  refine wp_region_swap (ops' := roR23) (by kernel_rfl) (ro_r23 g w.heap.size ib io q c _ _ _ _ _ _ _ _ _ _ _ _ _ _ _ _ _ _ _ _ _ _ _ _ _ _ _ _ _ _ _ _ _ _ _ _ _ _ _ _ _ _ _ _ _ _ _ _ _ _ _ _ _ _ _ _ _ _ _ _ _ _ _ _ _ _ _ _ _ _ _ _ _ _ _ _ _ _ _ _ _ _ _ _ _ _ _ _ _ _ _ _ _ _ _ _ _ _ _ _ _ _ _ _ _ _ _ _ _ _ _ _ _ _ _ _ _ _ _ _ _ _ _ _ _ _ _ _ _ _ _ _ _ _ _ _ _ _ _ _ _ _ _ _ _ _ _ _ _ _ _ _ _ _ _ _ _ _ _ _ _ _ _ _ _ _ _ _ _ _ _ _ _ _ _ _ _ _ _ _ _ _ _ _ _ _ _ _ _ _ _ _ _ _ _ _ _ _ _ _ _ _ _ _ _ _ _ _ _ _ _ _ _ _ _ _ _ _ _ _ _ _ _ _ _ _ _ _ _ _ _ _ _ _ _ q2 (hC2.blk.free _) hqc hcm ?_)
  intro Us Ut Uu Uv Uw Ux Uy Uz UA UB UC UD UE UF kd2
  have hC3 := (hC2.drewN kd2).setReg 12 (.slice (some ⟨ib,io,none⟩) q c)
  have hX3 : Blk ((w5.drewN kd2).setCell ⟨g,12,none⟩ (.slice (some ⟨ib,io,none⟩) q c)) (w.heap.size + 1) 92 [.int .i64 0,.int .i64 0,.int .u32 0] := Blk.other (show Blk (w5.drewN kd2) _ _ _ from hX2) (by show w.heap.size + 1 ≠ g; omega)
  clear q2
  generalize (w5.drewN kd2).setCell ⟨g,12,none⟩ (.slice (some ⟨ib,io,none⟩) q c) = w6 at hX3 hC3 ⊢
  go_wp2_with (first
    | ((with_reducible show wpList _ _ _ (Oper.mk none (Op.store _ (Operand.tmp 8) (Operand.tmp 234)) _ _ _ _ :: _) _ _); refine wpList_st3 hX3 rfl 92 (.tmp 8) (.tmp 234) (.int .i64 0) (.int .i64 0) (.int .u32 0) rfl (by kernel_rfl) (by kernel_rfl) (by simp [Value.oneCell']) (by kernel_rfl) ?_; rintro ⟨z0,z1,z2⟩)
    | fail)
  refine bodyPost_ret (v := .agg #[.int .i64 0,.int .i64 0,.int .u32 0]) (by simp [results,Tryd.results70,go_sem,z0,z1,z2]) rfl ⟨rfl,RW.farCells (by omega) _ _ _ hC3⟩
def GrowR (W : World) (g base F : Nat) (cells : List Value) (A : Option Addr) (c n : Nat) (xs : List Value) (x : Int) (w' : World) : Prop :=
  PF W g (Value.ownBlock (.slice A n c)) (Value.ownBlock (.slice A n c)) w' ∧ ∃ A' c',Blk w' g 89 (cells.set F (.slice A' (n + 1) c')) ∧ Row w' base 21 (.slice A' (n + 1) c') (n + 1) (xs ++ [.int .i32 x]) ∧
    (∀ k,Value.ownBlock (.slice A' (n + 1) c') = some k → Value.ownBlock (.slice A n c) = some k ∨ W.heap.size ≤ k)
set_option maxRecDepth 20000 in
set_option maxHeartbeats 2000000 in
theorem ro_print (op n f b word : Int) (a : Nat) (base : Nat) (A : Option Addr) (c n' : Nat) (xs : List Value) (x : Int) (w : World) (g : Nat) (cells : List Value) (hB : Blk w g 89 cells) (ha : a < 8) (hx : cells[a]? = some (.int .i32 x)) (hA : cells[269]? = some (.slice A n' c)) (hrow : Row w base 21 (.slice A n' c) n' xs) (hgo : Value.ownBlock (.slice A n' c) ≠ some g) (hbw : base ≤ w.heap.size) (hl : n' < 4096) :
    Calls Tryd.prog 70 #[.pointer (some ⟨g,0,none⟩),.string ⟨#[112,114,105,110,116]⟩,.agg #[.int .i64 op,.int .i64 a,.int .i64 b,.int .i32 n,.int .i64 f],.int .i32 word] w fun e w' => e = .returned (.agg #[.int .i64 0,.int .i64 0,.int .u32 0]) ∧ GrowR w g base 269 cells A c n' xs x w' := by
  have hg := hB.lt
  have HB := Lib.hid hB
  have hI0 : Blk ((w.alloc (.cells #[.int .i64 op,.int .i64 a,.int .i64 b,.int .i32 n,.int .i64 f] 25)).alloc (.cells #[.int .i64 0,.int .i64 0,.int .u32 0] 92)) w.heap.size 25 [.int .i64 op,.int .i64 a,.int .i64 b,.int .i32 n,.int .i64 f] := (Blk.new w 25 [.int .i64 op,.int .i64 a,.int .i64 b,.int .i32 n,.int .i64 f]).alloc _
  have hX0 : Blk ((w.alloc (.cells #[.int .i64 op,.int .i64 a,.int .i64 b,.int .i32 n,.int .i64 f] 25)).alloc (.cells #[.int .i64 0,.int .i64 0,.int .u32 0] 92)) (w.heap.size + 1) 92 [.int .i64 0,.int .i64 0,.int .u32 0] := by
    have := Blk.new (w.alloc (.cells #[.int .i64 op,.int .i64 a,.int .i64 b,.int .i32 n,.int .i64 f] 25)) 92 [.int .i64 0,.int .i64 0,.int .u32 0]
    rw [World.size_alloc] at this
    exact this
  have hC0 : RW w g cells ((w.alloc (.cells #[.int .i64 op,.int .i64 a,.int .i64 b,.int .i32 n,.int .i64 f] 25)).alloc (.cells #[.int .i64 0,.int .i64 0,.int .u32 0] 92)) := ((RW.start hB).alloc _).alloc _
  have q0 : ((w.alloc (.cells #[.int .i64 op,.int .i64 a,.int .i64 b,.int .i32 n,.int .i64 f] 25)).alloc (.cells #[.int .i64 0,.int .i64 0,.int .u32 0] 92)).cell? ⟨g,269,none⟩ = some (.slice A n' c) := (hC0.blk.cell 269).trans hA
  have hlI : (n' : Int) < 4096 := by omega
  have HR := Lib.hid hrow
  have hB1 : Below w.heap.size w ((w.alloc (.cells #[.int .i64 op,.int .i64 a,.int .i64 b,.int .i32 n,.int .i64 f] 25)).alloc (.cells #[.int .i64 0,.int .i64 0,.int .u32 0] 92)) := ((Below.refl _ _).alloc (Nat.le_refl _) _).alloc (by simp) _
  have hR1 : Hid (Row ((w.alloc (.cells #[.int .i64 op,.int .i64 a,.int .i64 b,.int .i32 n,.int .i64 f] 25)).alloc (.cells #[.int .i64 0,.int .i64 0,.int .u32 0] 92)) base 21 (.slice A n' c) n' xs) := Lib.hid (hrow.keep fun k e => hB1.block k (hrow.lt k e).2)
  clear hrow
  clear hB
  go_enter Tryd.func70,Tryd.ntmps70
  go_wp2_with fail
  generalize ((w.alloc (.cells #[.int .i64 op,.int .i64 a,.int .i64 b,.int .i32 n,.int .i64 f] 25)).alloc (.cells #[.int .i64 0,.int .i64 0,.int .u32 0] 92)) = w1 at hI0 hX0 hC0 q0 hR1 hB1 ⊢
  clear q0
  have hs1 := hB1.size
  refine wp_region_swap (ops' := roR9) (by kernel_rfl) (ro_r9 g w.heap.size a n' c base A xs cells x _ _ _ _ _ _ _ _ _ _ _ _ _ _ _ _ _ _ _ _ _ _ _ _ _ _ _ _ _ _ _ _ _ _ _ _ _ _ _ _ _ _ _ _ _ _ _ _ _ _ _ _ _ _ _ _ _ _ _ _ _ _ _ _ _ _ _ _ _ _ _ _ _ _ _ _ _ _ _ _ _ _ _ _ _ _ _ _ _ _ _ _ _ _ _ _ _ _ _ _ _ _ _ _ _ _ _ _ _ _ _ _ _ _ _ _ _ _ _ _ _ _ _ _ _ _ _ _ _ _ _ _ _ _ _ _ _ _ _ _ _ _ _ _ _ _ _ _ _ _ _ _ _ _ _ _ _ _ _ _ _ _ _ _ _ _ _ _ _ _ _ _ _ _ _ _ _ _ _ _ _ _ _ _ _ _ _ _ _ _ _ _ _ _ _ _ _ _ _ _ _ _ _ _ _ _ _ _ _ _ _ _ _ _ _ _ _ _ _ _ _ _ _ _ _ _ _ _ _ _ _ _ _ _ _ ha hC0.blk hA hx (hI0.cell 1) hI0.lt hR1.out (by omega) (by omega) hgo ?_)
  intro A' c' w6 Yw Yx Yy Yz YA YB YC YD YE YF YG YH YI YJ YK YL hrow6 hg6 ho6
  have hX0l := hX0.lt
  have hX6 : Blk w6 (w.heap.size + 1) 92 [.int .i64 0,.int .i64 0,.int .u32 0] := Blk.grown ((show Blk w1.drew (w.heap.size + 1) 92 _ from hX0).alloc _) hg6 (fun e => by have := (HR.out.lt _ e.symm).2; omega)
  have hB6 : Blk w6 g 89 cells := Blk.grown ((show Blk w1.drew g 89 cells from hC0.blk).alloc _) hg6 (fun e => hgo e.symm)
  have hng : Value.ownBlock (.slice A' (n' + 1) c') ≠ some g := fun e => by
    rcases ho6 g e with h | h
    · exact hgo h
    · simp at h; omega
  have ho7 : ∀ k,Value.ownBlock (.slice A' (n' + 1) c') = some k → (Value.ownBlock (.slice A n' c)) = some k ∨ w.heap.size + 2 ≤ k := fun k e => (ho6 k e).imp id (fun h => by simp at h; omega)
  have hne : ∀ k,Value.ownBlock (.slice A' (n' + 1) c') = some k → k ≠ w.heap.size + 1 := fun k e => by
    rcases ho7 k e with h | h
    · have := (HR.out.lt k h).2; omega
    · omega
  have hPA : PF w g (Value.ownBlock (.slice A n' c)) (Value.ownBlock (.slice A n' c)) (w1.drew.alloc (.cells #[.int .i32 x] 21)) := ((PF.refl w g _ _).then_ hB1).then_ (Below.alloc (show Below w1.heap.size w1 w1.drew from below_drewN (Below.refl _ _) 1) (Nat.le_refl _) _)
  have hp : PF w g (Value.ownBlock (.slice A n' c)) (Value.ownBlock (.slice A n' c)) (w6.setCell ⟨g,269,none⟩ (.slice A' (n' + 1) c')) := by
    refine ⟨hg6.os.trans hPA.os,hg6.tape.trans hPA.tape,hg6.output.trans hPA.output,by have := hg6.size; have := hPA.size; simp at *; omega,fun k hk h1 h2 h3 => ?_⟩
    exact (Below.heap_setCell w6 _ _ k h1).trans ((hg6.block k (by simp; omega) (fun e => h2 e.symm)).trans (hPA.block k hk h1 h2 h3))
  have hX7 : Blk (w6.setCell ⟨g,269,none⟩ (.slice A' (n' + 1) c')) (w.heap.size + 1) 92 [.int .i64 0,.int .i64 0,.int .u32 0] := hX6.other (by show w.heap.size + 1 ≠ g; omega)
  have hB7 : Blk (w6.setCell ⟨g,269,none⟩ (.slice A' (n' + 1) c')) g 89 (cells.set 269 (.slice A' (n' + 1) c')) := hB6.set_ 269 _
  have hR7 : Row (w6.setCell ⟨g,269,none⟩ (.slice A' (n' + 1) c')) base 21 (.slice A' (n' + 1) c') (n' + 1) (xs ++ [.int .i32 x]) := hrow6.keep fun k e => Below.heap_setCell w6 _ _ k (fun h => hng (e.trans (congrArg some h)))
  clear hrow6 hg6 hX6 hB6 hPA
  generalize w6.setCell ⟨g,269,none⟩ (.slice A' (n' + 1) c') = w7 at hp hX7 hB7 hR7 ⊢
  go_wp2_with (first
    | ((with_reducible show wpList _ _ _ (Oper.mk none (Op.store _ (Operand.tmp 8) (Operand.tmp 234)) _ _ _ _ :: _) _ _); refine wpList_st3 hX7 rfl 92 (.tmp 8) (.tmp 234) (.int .i64 0) (.int .i64 0) (.int .u32 0) rfl (by kernel_rfl) (by kernel_rfl) (by simp [Value.oneCell']) (by kernel_rfl) ?_; rintro ⟨z0,z1,z2⟩)
    | fail)
  refine bodyPost_ret (v := .agg #[.int .i64 0,.int .i64 0,.int .u32 0]) (by simp [results,Tryd.results70,go_sem,z0,z1,z2]) rfl ⟨rfl,PF.farCells (by omega) _ _ _ hp,A',c',?_,?_,fun k e => (ho7 k e).imp id fun h => by omega⟩
  · exact ((hB7.other (p := ⟨w.heap.size + 1,0,none⟩) (by show g ≠ w.heap.size + 1; omega)).other (p := ⟨w.heap.size + 1,0 + 1,none⟩) (by show g ≠ w.heap.size + 1; omega)).other (p := ⟨w.heap.size + 1,0 + 1 + 1,none⟩) (by show g ≠ w.heap.size + 1; omega)
  · exact ((hR7.keep fun k e => Below.heap_setCell _ ⟨w.heap.size + 1,0,none⟩ _ k (hne k e)).keep fun k e => Below.heap_setCell _ ⟨w.heap.size + 1,0 + 1,none⟩ _ k (hne k e)).keep fun k e => Below.heap_setCell _ ⟨w.heap.size + 1,0 + 1 + 1,none⟩ _ k (hne k e)
set_option maxRecDepth 20000 in
set_option maxHeartbeats 2000000 in
theorem ro_push (op n f b word : Int) (a : Nat) (base : Nat) (A : Option Addr) (c n' : Nat) (xs : List Value) (x : Int) (w : World) (g : Nat) (cells : List Value) (hB : Blk w g 89 cells) (ha : a < 8) (hx : cells[a]? = some (.int .i32 x)) (hA : cells[12]? = some (.slice A n' c)) (hrow : Row w base 21 (.slice A n' c) n' xs) (hgo : Value.ownBlock (.slice A n' c) ≠ some g) (hbw : base ≤ w.heap.size) (hl : n' < 256) :
    Calls Tryd.prog 70 #[.pointer (some ⟨g,0,none⟩),.string ⟨#[112,117,115,104]⟩,.agg #[.int .i64 op,.int .i64 a,.int .i64 b,.int .i32 n,.int .i64 f],.int .i32 word] w fun e w' => e = .returned (.agg #[.int .i64 0,.int .i64 0,.int .u32 0]) ∧ GrowR w g base 12 cells A c n' xs x w' := by
  have hg := hB.lt
  have HB := Lib.hid hB
  have hI0 : Blk ((w.alloc (.cells #[.int .i64 op,.int .i64 a,.int .i64 b,.int .i32 n,.int .i64 f] 25)).alloc (.cells #[.int .i64 0,.int .i64 0,.int .u32 0] 92)) w.heap.size 25 [.int .i64 op,.int .i64 a,.int .i64 b,.int .i32 n,.int .i64 f] := (Blk.new w 25 [.int .i64 op,.int .i64 a,.int .i64 b,.int .i32 n,.int .i64 f]).alloc _
  have hX0 : Blk ((w.alloc (.cells #[.int .i64 op,.int .i64 a,.int .i64 b,.int .i32 n,.int .i64 f] 25)).alloc (.cells #[.int .i64 0,.int .i64 0,.int .u32 0] 92)) (w.heap.size + 1) 92 [.int .i64 0,.int .i64 0,.int .u32 0] := by
    have := Blk.new (w.alloc (.cells #[.int .i64 op,.int .i64 a,.int .i64 b,.int .i32 n,.int .i64 f] 25)) 92 [.int .i64 0,.int .i64 0,.int .u32 0]
    rw [World.size_alloc] at this
    exact this
  have hC0 : RW w g cells ((w.alloc (.cells #[.int .i64 op,.int .i64 a,.int .i64 b,.int .i32 n,.int .i64 f] 25)).alloc (.cells #[.int .i64 0,.int .i64 0,.int .u32 0] 92)) := ((RW.start hB).alloc _).alloc _
  have q0 : ((w.alloc (.cells #[.int .i64 op,.int .i64 a,.int .i64 b,.int .i32 n,.int .i64 f] 25)).alloc (.cells #[.int .i64 0,.int .i64 0,.int .u32 0] 92)).cell? ⟨g,12,none⟩ = some (.slice A n' c) := (hC0.blk.cell 12).trans hA
  have hlI : (n' : Int) < 256 := by omega
  have HR := Lib.hid hrow
  have hB1 : Below w.heap.size w ((w.alloc (.cells #[.int .i64 op,.int .i64 a,.int .i64 b,.int .i32 n,.int .i64 f] 25)).alloc (.cells #[.int .i64 0,.int .i64 0,.int .u32 0] 92)) := ((Below.refl _ _).alloc (Nat.le_refl _) _).alloc (by simp) _
  have hR1 : Hid (Row ((w.alloc (.cells #[.int .i64 op,.int .i64 a,.int .i64 b,.int .i32 n,.int .i64 f] 25)).alloc (.cells #[.int .i64 0,.int .i64 0,.int .u32 0] 92)) base 21 (.slice A n' c) n' xs) := Lib.hid (hrow.keep fun k e => hB1.block k (hrow.lt k e).2)
  clear hrow
  clear hB
  go_enter Tryd.func70,Tryd.ntmps70
  go_wp2_with fail
  generalize ((w.alloc (.cells #[.int .i64 op,.int .i64 a,.int .i64 b,.int .i32 n,.int .i64 f] 25)).alloc (.cells #[.int .i64 0,.int .i64 0,.int .u32 0] 92)) = w1 at hI0 hX0 hC0 q0 hR1 hB1 ⊢
  clear q0
  have hs1 := hB1.size
  refine wp_region_swap (ops' := roR18) (by kernel_rfl) (ro_r18 g w.heap.size a n' c base A xs cells x _ _ _ _ _ _ _ _ _ _ _ _ _ _ _ _ _ _ _ _ _ _ _ _ _ _ _ _ _ _ _ _ _ _ _ _ _ _ _ _ _ _ _ _ _ _ _ _ _ _ _ _ _ _ _ _ _ _ _ _ _ _ _ _ _ _ _ _ _ _ _ _ _ _ _ _ _ _ _ _ _ _ _ _ _ _ _ _ _ _ _ _ _ _ _ _ _ _ _ _ _ _ _ _ _ _ _ _ _ _ _ _ _ _ _ _ _ _ _ _ _ _ _ _ _ _ _ _ _ _ _ _ _ _ _ _ _ _ _ _ _ _ _ _ _ _ _ _ _ _ _ _ _ _ _ _ _ _ _ _ _ _ _ _ _ _ _ _ _ _ _ _ _ _ _ _ _ _ _ _ _ _ _ _ _ _ _ _ _ _ _ _ _ _ _ _ _ _ _ _ _ _ _ _ _ _ _ _ _ _ _ _ _ _ _ _ _ _ _ _ _ _ _ _ _ _ _ _ _ _ _ _ _ _ _ ha hC0.blk hA hx (hI0.cell 1) hI0.lt hR1.out (by omega) (by omega) hgo ?_)
  intro A' c' w6 YY YZ Y0 Y1 Y2 Y3 Y4 Y5 Y6 Y7 Y8 Y9 Za Zb Zc Zd hrow6 hg6 ho6
  have hX0l := hX0.lt
  have hX6 : Blk w6 (w.heap.size + 1) 92 [.int .i64 0,.int .i64 0,.int .u32 0] := Blk.grown ((show Blk w1.drew (w.heap.size + 1) 92 _ from hX0).alloc _) hg6 (fun e => by have := (HR.out.lt _ e.symm).2; omega)
  have hB6 : Blk w6 g 89 cells := Blk.grown ((show Blk w1.drew g 89 cells from hC0.blk).alloc _) hg6 (fun e => hgo e.symm)
  have hng : Value.ownBlock (.slice A' (n' + 1) c') ≠ some g := fun e => by
    rcases ho6 g e with h | h
    · exact hgo h
    · simp at h; omega
  have ho7 : ∀ k,Value.ownBlock (.slice A' (n' + 1) c') = some k → (Value.ownBlock (.slice A n' c)) = some k ∨ w.heap.size + 2 ≤ k := fun k e => (ho6 k e).imp id (fun h => by simp at h; omega)
  have hne : ∀ k,Value.ownBlock (.slice A' (n' + 1) c') = some k → k ≠ w.heap.size + 1 := fun k e => by
    rcases ho7 k e with h | h
    · have := (HR.out.lt k h).2; omega
    · omega
  have hPA : PF w g (Value.ownBlock (.slice A n' c)) (Value.ownBlock (.slice A n' c)) (w1.drew.alloc (.cells #[.int .i32 x] 21)) := ((PF.refl w g _ _).then_ hB1).then_ (Below.alloc (show Below w1.heap.size w1 w1.drew from below_drewN (Below.refl _ _) 1) (Nat.le_refl _) _)
  have hp : PF w g (Value.ownBlock (.slice A n' c)) (Value.ownBlock (.slice A n' c)) (w6.setCell ⟨g,12,none⟩ (.slice A' (n' + 1) c')) := by
    refine ⟨hg6.os.trans hPA.os,hg6.tape.trans hPA.tape,hg6.output.trans hPA.output,by have := hg6.size; have := hPA.size; simp at *; omega,fun k hk h1 h2 h3 => ?_⟩
    exact (Below.heap_setCell w6 _ _ k h1).trans ((hg6.block k (by simp; omega) (fun e => h2 e.symm)).trans (hPA.block k hk h1 h2 h3))
  have hX7 : Blk (w6.setCell ⟨g,12,none⟩ (.slice A' (n' + 1) c')) (w.heap.size + 1) 92 [.int .i64 0,.int .i64 0,.int .u32 0] := hX6.other (by show w.heap.size + 1 ≠ g; omega)
  have hB7 : Blk (w6.setCell ⟨g,12,none⟩ (.slice A' (n' + 1) c')) g 89 (cells.set 12 (.slice A' (n' + 1) c')) := hB6.set_ 12 _
  have hR7 : Row (w6.setCell ⟨g,12,none⟩ (.slice A' (n' + 1) c')) base 21 (.slice A' (n' + 1) c') (n' + 1) (xs ++ [.int .i32 x]) := hrow6.keep fun k e => Below.heap_setCell w6 _ _ k (fun h => hng (e.trans (congrArg some h)))
  clear hrow6 hg6 hX6 hB6 hPA
  generalize w6.setCell ⟨g,12,none⟩ (.slice A' (n' + 1) c') = w7 at hp hX7 hB7 hR7 ⊢
  go_wp2_with (first
    | ((with_reducible show wpList _ _ _ (Oper.mk none (Op.store _ (Operand.tmp 8) (Operand.tmp 234)) _ _ _ _ :: _) _ _); refine wpList_st3 hX7 rfl 92 (.tmp 8) (.tmp 234) (.int .i64 0) (.int .i64 0) (.int .u32 0) rfl (by kernel_rfl) (by kernel_rfl) (by simp [Value.oneCell']) (by kernel_rfl) ?_; rintro ⟨z0,z1,z2⟩)
    | fail)
  refine bodyPost_ret (v := .agg #[.int .i64 0,.int .i64 0,.int .u32 0]) (by simp [results,Tryd.results70,go_sem,z0,z1,z2]) rfl ⟨rfl,PF.farCells (by omega) _ _ _ hp,A',c',?_,?_,fun k e => (ho7 k e).imp id fun h => by omega⟩
  · exact ((hB7.other (p := ⟨w.heap.size + 1,0,none⟩) (by show g ≠ w.heap.size + 1; omega)).other (p := ⟨w.heap.size + 1,0 + 1,none⟩) (by show g ≠ w.heap.size + 1; omega)).other (p := ⟨w.heap.size + 1,0 + 1 + 1,none⟩) (by show g ≠ w.heap.size + 1; omega)
  · exact ((hR7.keep fun k e => Below.heap_setCell _ ⟨w.heap.size + 1,0,none⟩ _ k (hne k e)).keep fun k e => Below.heap_setCell _ ⟨w.heap.size + 1,0 + 1,none⟩ _ k (hne k e)).keep fun k e => Below.heap_setCell _ ⟨w.heap.size + 1,0 + 1 + 1,none⟩ _ k (hne k e)
end Go.Proofs.YthcjnkakfpmpbaaDoor
