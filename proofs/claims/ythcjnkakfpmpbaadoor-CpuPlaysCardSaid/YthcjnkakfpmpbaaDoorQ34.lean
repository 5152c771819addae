import Derived.Test.YthcjnkakfpmpbaaDoorQ25
namespace Go.Proofs.YthcjnkakfpmpbaaDoor
open Go.RowKit
set_option linter.unusedVariables false
set_option linter.unusedSimpArgs false
set_option maxRecDepth 20000 in
set_option maxHeartbeats 4000000 in
theorem pt_zre_noa (op n f : Int) (a : Int) (b p q : Nat) (w : World) (g : Nat) (cells : List Value) (hT : TabIs 0 w) (htg : 0 ≠ g) (hB : Blk w g 119 cells) (hb : b < 4) (hz : cells[8 + b]? = some (.complex .f64 p q))
    (hge : (FloatKind.f64.format.order p 13970166044103278592 == some .gt || FloatKind.f64.format.order p 13970166044103278592 == some .eq) = false)   (hnm : opName op = [122,114,101]) :
    Calls Tryd.prog 61 #[.pointer (some ⟨g,0,none⟩),.agg #[.int .i64 op,.int .i64 a,.int .i64 b,.int .i32 n,.int .i64 f]] w fun e w' => e = .returned (.agg #[.int .i64 6,.int .i64 8,.int .u32 0]) ∧ CW w g cells w' := by
  have hg := hB.lt
  have Hn := Lib.hid (fun w hT => hnm ▸ cname_any op w hT)
  have HB := Lib.hid hB
  have hBb : (b : Int) < 4 := by omega
  have qz : ((w.alloc (.cells #[.int .i64 op,.int .i64 a,.int .i64 b,.int .i32 n,.int .i64 f] 25)).alloc (.cells #[.int .i64 0,.int .i64 0,.int .u32 0] 56)).cell? ⟨g,8 + b,none⟩ = some (.complex .f64 p q) := by
    rw [World.cell?_alloc_lt _ _ ⟨g,8 + b,none⟩ (by simp; omega),World.cell?_alloc_lt _ _ ⟨g,8 + b,none⟩ hg]; exact (hB.cell (8 + b)).trans hz
  have hX0 : Blk ((w.alloc (.cells #[.int .i64 op,.int .i64 a,.int .i64 b,.int .i32 n,.int .i64 f] 25)).alloc (.cells #[.int .i64 0,.int .i64 0,.int .u32 0] 56)) (w.heap.size + 1) 56 [.int .i64 0,.int .i64 0,.int .u32 0] := by
    have := Blk.new (w.alloc (.cells #[.int .i64 op,.int .i64 a,.int .i64 b,.int .i32 n,.int .i64 f] 25)) 56 [.int .i64 0,.int .i64 0,.int .u32 0]
    rw [World.size_alloc] at this
    exact this
  have hI0 : Blk ((w.alloc (.cells #[.int .i64 op,.int .i64 a,.int .i64 b,.int .i32 n,.int .i64 f] 25)).alloc (.cells #[.int .i64 0,.int .i64 0,.int .u32 0] 56)) w.heap.size 25 [.int .i64 op,.int .i64 a,.int .i64 b,.int .i32 n,.int .i64 f] := (Blk.new w 25 [.int .i64 op,.int .i64 a,.int .i64 b,.int .i32 n,.int .i64 f]).alloc _
  have Hz := Lib.hid hz
  clear hB hz
  go_enter Tryd.func61,Tryd.ntmps61
  go_wp2_with fail
  go_quiet (fail)
  have hX1 : Blk (((w.alloc (.cells #[.int .i64 op,.int .i64 a,.int .i64 b,.int .i32 n,.int .i64 f] 25)).alloc (.cells #[.int .i64 0,.int .i64 0,.int .u32 0] 56)).drewN nq) (w.heap.size + 1) 56 [.int .i64 0,.int .i64 0,.int .u32 0] := hX0
  have hI1 : Blk (((w.alloc (.cells #[.int .i64 op,.int .i64 a,.int .i64 b,.int .i32 n,.int .i64 f] 25)).alloc (.cells #[.int .i64 0,.int .i64 0,.int .u32 0] 56)).drewN nq) w.heap.size 25 [.int .i64 op,.int .i64 a,.int .i64 b,.int .i32 n,.int .i64 f] := hI0
  go_wp2_with (first
    | (go_at_call 82; refine (Hn.out _ (((hT.alloc _).alloc _).drewN nq)).mono ?_; rintro e w2 ⟨rfl,hb2⟩; have hC2 := ((((CW.start HB.out).alloc _).alloc _).drewN nq).below hb2; have hX2 := hX1.below hb2 hX1.lt; have hI2 := hI1.below hb2 hI1.lt; have i0 := hI2.cell 0; have i2 := hI2.cell 2; simp only [List.getElem?_cons_zero,List.getElem?_cons_succ] at i0 i2; have c2 := (hC2.blk.cell (8 + b)).trans Hz.out; have hz2 := hC2.blk.lt)
    | (go_at_call 57; refine (ctrap_any 8 w2).mono ?_; rintro e w6 ⟨rfl,hb6⟩; have hX6 := (show Blk w2 _ _ _ from hX2).below hb6 hX2.lt; have hC6 := (show CW w g cells w2 from hC2).below hb6)
    | ((with_reducible show wpList _ _ _ (Oper.mk none (Op.store _ (Operand.tmp 4) (Operand.tmp 39)) _ _ _ _ :: _) _ _); refine wpList_st3 hX6 rfl 56 (.tmp 4) (.tmp 39) (.int .i64 6) (.int .i64 8) (.int .u32 0) rfl (by kernel_rfl) (by kernel_rfl) (by simp [Value.oneCell']) (by kernel_rfl) ?_; rintro ⟨z0,z1,z2⟩)
    | fail)
  refine bodyPost_ret (v := .agg #[.int .i64 6,.int .i64 8,.int .u32 0]) (by simp [results,Tryd.results61,go_sem,z0,z1,z2]) rfl ⟨rfl,?_⟩
  exact CW.farCells (by omega) _ _ _ hC6
set_option maxRecDepth 20000 in
set_option maxHeartbeats 4000000 in
theorem pt_zre_nob (op n f : Int) (a : Int) (b p q : Nat) (w : World) (g : Nat) (cells : List Value) (hT : TabIs 0 w) (htg : 0 ≠ g) (hB : Blk w g 119 cells) (hb : b < 4) (hz : cells[8 + b]? = some (.complex .f64 p q))
    (hge : (FloatKind.f64.format.order p 13970166044103278592 == some .gt || FloatKind.f64.format.order p 13970166044103278592 == some .eq) = true) (hle : (FloatKind.f64.format.order p 4746794007244308480 == some .lt || FloatKind.f64.format.order p 4746794007244308480 == some .eq) = false)  (hnm : opName op = [122,114,101]) :
    Calls Tryd.prog 61 #[.pointer (some ⟨g,0,none⟩),.agg #[.int .i64 op,.int .i64 a,.int .i64 b,.int .i32 n,.int .i64 f]] w fun e w' => e = .returned (.agg #[.int .i64 6,.int .i64 8,.int .u32 0]) ∧ CW w g cells w' := by
  have hg := hB.lt
  have Hn := Lib.hid (fun w hT => hnm ▸ cname_any op w hT)
  have HB := Lib.hid hB
  have hBb : (b : Int) < 4 := by omega
  have qz : ((w.alloc (.cells #[.int .i64 op,.int .i64 a,.int .i64 b,.int .i32 n,.int .i64 f] 25)).alloc (.cells #[.int .i64 0,.int .i64 0,.int .u32 0] 56)).cell? ⟨g,8 + b,none⟩ = some (.complex .f64 p q) := by
    rw [World.cell?_alloc_lt _ _ ⟨g,8 + b,none⟩ (by simp; omega),World.cell?_alloc_lt _ _ ⟨g,8 + b,none⟩ hg]; exact (hB.cell (8 + b)).trans hz
  have hX0 : Blk ((w.alloc (.cells #[.int .i64 op,.int .i64 a,.int .i64 b,.int .i32 n,.int .i64 f] 25)).alloc (.cells #[.int .i64 0,.int .i64 0,.int .u32 0] 56)) (w.heap.size + 1) 56 [.int .i64 0,.int .i64 0,.int .u32 0] := by
    have := Blk.new (w.alloc (.cells #[.int .i64 op,.int .i64 a,.int .i64 b,.int .i32 n,.int .i64 f] 25)) 56 [.int .i64 0,.int .i64 0,.int .u32 0]
    rw [World.size_alloc] at this
    exact this
  have hI0 : Blk ((w.alloc (.cells #[.int .i64 op,.int .i64 a,.int .i64 b,.int .i32 n,.int .i64 f] 25)).alloc (.cells #[.int .i64 0,.int .i64 0,.int .u32 0] 56)) w.heap.size 25 [.int .i64 op,.int .i64 a,.int .i64 b,.int .i32 n,.int .i64 f] := (Blk.new w 25 [.int .i64 op,.int .i64 a,.int .i64 b,.int .i32 n,.int .i64 f]).alloc _
  have Hz := Lib.hid hz
  clear hB hz
  go_enter Tryd.func61,Tryd.ntmps61
  go_wp2_with fail
  go_quiet (fail)
  have hX1 : Blk (((w.alloc (.cells #[.int .i64 op,.int .i64 a,.int .i64 b,.int .i32 n,.int .i64 f] 25)).alloc (.cells #[.int .i64 0,.int .i64 0,.int .u32 0] 56)).drewN nq) (w.heap.size + 1) 56 [.int .i64 0,.int .i64 0,.int .u32 0] := hX0
  have hI1 : Blk (((w.alloc (.cells #[.int .i64 op,.int .i64 a,.int .i64 b,.int .i32 n,.int .i64 f] 25)).alloc (.cells #[.int .i64 0,.int .i64 0,.int .u32 0] 56)).drewN nq) w.heap.size 25 [.int .i64 op,.int .i64 a,.int .i64 b,.int .i32 n,.int .i64 f] := hI0
  go_wp2_with (first
    | (go_at_call 82; refine (Hn.out _ (((hT.alloc _).alloc _).drewN nq)).mono ?_; rintro e w2 ⟨rfl,hb2⟩; have hC2 := ((((CW.start HB.out).alloc _).alloc _).drewN nq).below hb2; have hX2 := hX1.below hb2 hX1.lt; have hI2 := hI1.below hb2 hI1.lt; have i0 := hI2.cell 0; have i2 := hI2.cell 2; simp only [List.getElem?_cons_zero,List.getElem?_cons_succ] at i0 i2; have c2 := (hC2.blk.cell (8 + b)).trans Hz.out; have hz2 := hC2.blk.lt)
    | (go_at_call 57; refine (ctrap_any 8 w2).mono ?_; rintro e w6 ⟨rfl,hb6⟩; have hX6 := (show Blk w2 _ _ _ from hX2).below hb6 hX2.lt; have hC6 := (show CW w g cells w2 from hC2).below hb6)
    | ((with_reducible show wpList _ _ _ (Oper.mk none (Op.store _ (Operand.tmp 4) (Operand.tmp 39)) _ _ _ _ :: _) _ _); refine wpList_st3 hX6 rfl 56 (.tmp 4) (.tmp 39) (.int .i64 6) (.int .i64 8) (.int .u32 0) rfl (by kernel_rfl) (by kernel_rfl) (by simp [Value.oneCell']) (by kernel_rfl) ?_; rintro ⟨z0,z1,z2⟩)
    | fail)
  refine bodyPost_ret (v := .agg #[.int .i64 6,.int .i64 8,.int .u32 0]) (by simp [results,Tryd.results61,go_sem,z0,z1,z2]) rfl ⟨rfl,?_⟩
  exact CW.farCells (by omega) _ _ _ hC6
set_option maxRecDepth 20000 in
set_option maxHeartbeats 4000000 in
theorem pt_zre_noc (op n f : Int) (a : Int) (b p q : Nat) (w : World) (g : Nat) (cells : List Value) (hT : TabIs 0 w) (htg : 0 ≠ g) (hB : Blk w g 119 cells) (hb : b < 4) (hz : cells[8 + b]? = some (.complex .f64 p q))
    (hge : (FloatKind.f64.format.order p 13970166044103278592 == some .gt || FloatKind.f64.format.order p 13970166044103278592 == some .eq) = true) (hle : (FloatKind.f64.format.order p 4746794007244308480 == some .lt || FloatKind.f64.format.order p 4746794007244308480 == some .eq) = true) (y : Nat) (hne : (FloatKind.f64.format.order p y != some .eq) = true) (Htr : Hid (∀ W,Calls Tryd.prog 85 #[.float .f64 p] W fun e w' => e = .returned (.float .f64 y) ∧ W = w')) (hnm : opName op = [122,114,101]) :
    Calls Tryd.prog 61 #[.pointer (some ⟨g,0,none⟩),.agg #[.int .i64 op,.int .i64 a,.int .i64 b,.int .i32 n,.int .i64 f]] w fun e w' => e = .returned (.agg #[.int .i64 6,.int .i64 8,.int .u32 0]) ∧ CW w g cells w' := by
  have hg := hB.lt
  have Hn := Lib.hid (fun w hT => hnm ▸ cname_any op w hT)
  have HB := Lib.hid hB
  have hBb : (b : Int) < 4 := by omega
  have qz : ((w.alloc (.cells #[.int .i64 op,.int .i64 a,.int .i64 b,.int .i32 n,.int .i64 f] 25)).alloc (.cells #[.int .i64 0,.int .i64 0,.int .u32 0] 56)).cell? ⟨g,8 + b,none⟩ = some (.complex .f64 p q) := by
    rw [World.cell?_alloc_lt _ _ ⟨g,8 + b,none⟩ (by simp; omega),World.cell?_alloc_lt _ _ ⟨g,8 + b,none⟩ hg]; exact (hB.cell (8 + b)).trans hz
  have hX0 : Blk ((w.alloc (.cells #[.int .i64 op,.int .i64 a,.int .i64 b,.int .i32 n,.int .i64 f] 25)).alloc (.cells #[.int .i64 0,.int .i64 0,.int .u32 0] 56)) (w.heap.size + 1) 56 [.int .i64 0,.int .i64 0,.int .u32 0] := by
    have := Blk.new (w.alloc (.cells #[.int .i64 op,.int .i64 a,.int .i64 b,.int .i32 n,.int .i64 f] 25)) 56 [.int .i64 0,.int .i64 0,.int .u32 0]
    rw [World.size_alloc] at this
    exact this
  have hI0 : Blk ((w.alloc (.cells #[.int .i64 op,.int .i64 a,.int .i64 b,.int .i32 n,.int .i64 f] 25)).alloc (.cells #[.int .i64 0,.int .i64 0,.int .u32 0] 56)) w.heap.size 25 [.int .i64 op,.int .i64 a,.int .i64 b,.int .i32 n,.int .i64 f] := (Blk.new w 25 [.int .i64 op,.int .i64 a,.int .i64 b,.int .i32 n,.int .i64 f]).alloc _
  have Hz := Lib.hid hz
  clear hB hz
  go_enter Tryd.func61,Tryd.ntmps61
  go_wp2_with fail
  go_quiet (fail)
  have hX1 : Blk (((w.alloc (.cells #[.int .i64 op,.int .i64 a,.int .i64 b,.int .i32 n,.int .i64 f] 25)).alloc (.cells #[.int .i64 0,.int .i64 0,.int .u32 0] 56)).drewN nq) (w.heap.size + 1) 56 [.int .i64 0,.int .i64 0,.int .u32 0] := hX0
  have hI1 : Blk (((w.alloc (.cells #[.int .i64 op,.int .i64 a,.int .i64 b,.int .i32 n,.int .i64 f] 25)).alloc (.cells #[.int .i64 0,.int .i64 0,.int .u32 0] 56)).drewN nq) w.heap.size 25 [.int .i64 op,.int .i64 a,.int .i64 b,.int .i32 n,.int .i64 f] := hI0
  go_wp2_with (first
    | (go_at_call 82; refine (Hn.out _ (((hT.alloc _).alloc _).drewN nq)).mono ?_; rintro e w2 ⟨rfl,hb2⟩; have hC2 := ((((CW.start HB.out).alloc _).alloc _).drewN nq).below hb2; have hX2 := hX1.below hb2 hX1.lt; have hI2 := hI1.below hb2 hI1.lt; have i0 := hI2.cell 0; have i2 := hI2.cell 2; simp only [List.getElem?_cons_zero,List.getElem?_cons_succ] at i0 i2; have c2 := (hC2.blk.cell (8 + b)).trans Hz.out; have hz2 := hC2.blk.lt)
    | (go_at_call 85; refine (Htr.out _).mono ?_; rintro e w4 ⟨rfl,rfl⟩)
    | (go_at_call 57; refine (ctrap_any 8 w2).mono ?_; rintro e w6 ⟨rfl,hb6⟩; have hX6 := (show Blk w2 _ _ _ from hX2).below hb6 hX2.lt; have hC6 := (show CW w g cells w2 from hC2).below hb6)
    | ((with_reducible show wpList _ _ _ (Oper.mk none (Op.store _ (Operand.tmp 4) (Operand.tmp 39)) _ _ _ _ :: _) _ _); refine wpList_st3 hX6 rfl 56 (.tmp 4) (.tmp 39) (.int .i64 6) (.int .i64 8) (.int .u32 0) rfl (by kernel_rfl) (by kernel_rfl) (by simp [Value.oneCell']) (by kernel_rfl) ?_; rintro ⟨z0,z1,z2⟩)
    | fail)
  refine bodyPost_ret (v := .agg #[.int .i64 6,.int .i64 8,.int .u32 0]) (by simp [results,Tryd.results61,go_sem,z0,z1,z2]) rfl ⟨rfl,?_⟩
  exact CW.farCells (by omega) _ _ _ hC6
set_option maxRecDepth 20000 in
set_option maxHeartbeats 4000000 in
theorem pt_zim_noa (op n f : Int) (a : Int) (b p q : Nat) (w : World) (g : Nat) (cells : List Value) (hT : TabIs 0 w) (htg : 0 ≠ g) (hB : Blk w g 119 cells) (hb : b < 4) (hz : cells[8 + b]? = some (.complex .f64 p q))
    (hge : (FloatKind.f64.format.order q 13970166044103278592 == some .gt || FloatKind.f64.format.order q 13970166044103278592 == some .eq) = false)   (hnm : opName op = [122,105,109]) :
    Calls Tryd.prog 61 #[.pointer (some ⟨g,0,none⟩),.agg #[.int .i64 op,.int .i64 a,.int .i64 b,.int .i32 n,.int .i64 f]] w fun e w' => e = .returned (.agg #[.int .i64 6,.int .i64 8,.int .u32 0]) ∧ CW w g cells w' := by
  have hg := hB.lt
  have Hn := Lib.hid (fun w hT => hnm ▸ cname_any op w hT)
  have HB := Lib.hid hB
  have hBb : (b : Int) < 4 := by omega
  have qz : ((w.alloc (.cells #[.int .i64 op,.int .i64 a,.int .i64 b,.int .i32 n,.int .i64 f] 25)).alloc (.cells #[.int .i64 0,.int .i64 0,.int .u32 0] 56)).cell? ⟨g,8 + b,none⟩ = some (.complex .f64 p q) := by
    rw [World.cell?_alloc_lt _ _ ⟨g,8 + b,none⟩ (by simp; omega),World.cell?_alloc_lt _ _ ⟨g,8 + b,none⟩ hg]; exact (hB.cell (8 + b)).trans hz
  have hX0 : Blk ((w.alloc (.cells #[.int .i64 op,.int .i64 a,.int .i64 b,.int .i32 n,.int .i64 f] 25)).alloc (.cells #[.int .i64 0,.int .i64 0,.int .u32 0] 56)) (w.heap.size + 1) 56 [.int .i64 0,.int .i64 0,.int .u32 0] := by
    have := Blk.new (w.alloc (.cells #[.int .i64 op,.int .i64 a,.int .i64 b,.int .i32 n,.int .i64 f] 25)) 56 [.int .i64 0,.int .i64 0,.int .u32 0]
    rw [World.size_alloc] at this
    exact this
  have hI0 : Blk ((w.alloc (.cells #[.int .i64 op,.int .i64 a,.int .i64 b,.int .i32 n,.int .i64 f] 25)).alloc (.cells #[.int .i64 0,.int .i64 0,.int .u32 0] 56)) w.heap.size 25 [.int .i64 op,.int .i64 a,.int .i64 b,.int .i32 n,.int .i64 f] := (Blk.new w 25 [.int .i64 op,.int .i64 a,.int .i64 b,.int .i32 n,.int .i64 f]).alloc _
  have Hz := Lib.hid hz
  clear hB hz
  go_enter Tryd.func61,Tryd.ntmps61
  go_wp2_with fail
  go_quiet (fail)
  have hX1 : Blk (((w.alloc (.cells #[.int .i64 op,.int .i64 a,.int .i64 b,.int .i32 n,.int .i64 f] 25)).alloc (.cells #[.int .i64 0,.int .i64 0,.int .u32 0] 56)).drewN nq) (w.heap.size + 1) 56 [.int .i64 0,.int .i64 0,.int .u32 0] := hX0
  have hI1 : Blk (((w.alloc (.cells #[.int .i64 op,.int .i64 a,.int .i64 b,.int .i32 n,.int .i64 f] 25)).alloc (.cells #[.int .i64 0,.int .i64 0,.int .u32 0] 56)).drewN nq) w.heap.size 25 [.int .i64 op,.int .i64 a,.int .i64 b,.int .i32 n,.int .i64 f] := hI0
  go_wp2_with (first
    | (go_at_call 82; refine (Hn.out _ (((hT.alloc _).alloc _).drewN nq)).mono ?_; rintro e w2 ⟨rfl,hb2⟩; have hC2 := ((((CW.start HB.out).alloc _).alloc _).drewN nq).below hb2; have hX2 := hX1.below hb2 hX1.lt; have hI2 := hI1.below hb2 hI1.lt; have i0 := hI2.cell 0; have i2 := hI2.cell 2; simp only [List.getElem?_cons_zero,List.getElem?_cons_succ] at i0 i2; have c2 := (hC2.blk.cell (8 + b)).trans Hz.out; have hz2 := hC2.blk.lt)
    | fail)
  go_quiet (fail)
  go_wp2_with (first
    | (go_at_call 57; refine (ctrap_any 8 _).mono ?_; rintro e w6 ⟨rfl,hb6⟩; have hX6 := (show Blk (w2.drewN _) _ _ _ from hX2).below hb6 hX2.lt; have hC6 := (hC2.drewN _).below hb6)
    | ((with_reducible show wpList _ _ _ (Oper.mk none (Op.store _ (Operand.tmp 4) (Operand.tmp 39)) _ _ _ _ :: _) _ _); refine wpList_st3 hX6 rfl 56 (.tmp 4) (.tmp 39) (.int .i64 6) (.int .i64 8) (.int .u32 0) rfl (by kernel_rfl) (by kernel_rfl) (by simp [Value.oneCell']) (by kernel_rfl) ?_; rintro ⟨z0,z1,z2⟩)
    | fail)
  refine bodyPost_ret (v := .agg #[.int .i64 6,.int .i64 8,.int .u32 0]) (by simp [results,Tryd.results61,go_sem,z0,z1,z2]) rfl ⟨rfl,?_⟩
  exact CW.farCells (by omega) _ _ _ hC6
set_option maxRecDepth 20000 in
set_option maxHeartbeats 4000000 in
theorem pt_zim_nob (op n f : Int) (a : Int) (b p q : Nat) (w : World) (g : Nat) (cells : List Value) (hT : TabIs 0 w) (htg : 0 ≠ g) (hB : Blk w g 119 cells) (hb : b < 4) (hz : cells[8 + b]? = some (.complex .f64 p q))
    (hge : (FloatKind.f64.format.order q 13970166044103278592 == some .gt || FloatKind.f64.format.order q 13970166044103278592 == some .eq) = true) (hle : (FloatKind.f64.format.order q 4746794007244308480 == some .lt || FloatKind.f64.format.order q 4746794007244308480 == some .eq) = false)  (hnm : opName op = [122,105,109]) :
    Calls Tryd.prog 61 #[.pointer (some ⟨g,0,none⟩),.agg #[.int .i64 op,.int .i64 a,.int .i64 b,.int .i32 n,.int .i64 f]] w fun e w' => e = .returned (.agg #[.int .i64 6,.int .i64 8,.int .u32 0]) ∧ CW w g cells w' := by
  have hg := hB.lt
  have Hn := Lib.hid (fun w hT => hnm ▸ cname_any op w hT)
  have HB := Lib.hid hB
  have hBb : (b : Int) < 4 := by omega
  have qz : ((w.alloc (.cells #[.int .i64 op,.int .i64 a,.int .i64 b,.int .i32 n,.int .i64 f] 25)).alloc (.cells #[.int .i64 0,.int .i64 0,.int .u32 0] 56)).cell? ⟨g,8 + b,none⟩ = some (.complex .f64 p q) := by
    rw [World.cell?_alloc_lt _ _ ⟨g,8 + b,none⟩ (by simp; omega),World.cell?_alloc_lt _ _ ⟨g,8 + b,none⟩ hg]; exact (hB.cell (8 + b)).trans hz
  have hX0 : Blk ((w.alloc (.cells #[.int .i64 op,.int .i64 a,.int .i64 b,.int .i32 n,.int .i64 f] 25)).alloc (.cells #[.int .i64 0,.int .i64 0,.int .u32 0] 56)) (w.heap.size + 1) 56 [.int .i64 0,.int .i64 0,.int .u32 0] := by
    have := Blk.new (w.alloc (.cells #[.int .i64 op,.int .i64 a,.int .i64 b,.int .i32 n,.int .i64 f] 25)) 56 [.int .i64 0,.int .i64 0,.int .u32 0]
    rw [World.size_alloc] at this
    exact this
  have hI0 : Blk ((w.alloc (.cells #[.int .i64 op,.int .i64 a,.int .i64 b,.int .i32 n,.int .i64 f] 25)).alloc (.cells #[.int .i64 0,.int .i64 0,.int .u32 0] 56)) w.heap.size 25 [.int .i64 op,.int .i64 a,.int .i64 b,.int .i32 n,.int .i64 f] := (Blk.new w 25 [.int .i64 op,.int .i64 a,.int .i64 b,.int .i32 n,.int .i64 f]).alloc _
  have Hz := Lib.hid hz
  clear hB hz
  go_enter Tryd.func61,Tryd.ntmps61
  go_wp2_with fail
  go_quiet (fail)
  have hX1 : Blk (((w.alloc (.cells #[.int .i64 op,.int .i64 a,.int .i64 b,.int .i32 n,.int .i64 f] 25)).alloc (.cells #[.int .i64 0,.int .i64 0,.int .u32 0] 56)).drewN nq) (w.heap.size + 1) 56 [.int .i64 0,.int .i64 0,.int .u32 0] := hX0
  have hI1 : Blk (((w.alloc (.cells #[.int .i64 op,.int .i64 a,.int .i64 b,.int .i32 n,.int .i64 f] 25)).alloc (.cells #[.int .i64 0,.int .i64 0,.int .u32 0] 56)).drewN nq) w.heap.size 25 [.int .i64 op,.int .i64 a,.int .i64 b,.int .i32 n,.int .i64 f] := hI0
  go_wp2_with (first
    | (go_at_call 82; refine (Hn.out _ (((hT.alloc _).alloc _).drewN nq)).mono ?_; rintro e w2 ⟨rfl,hb2⟩; have hC2 := ((((CW.start HB.out).alloc _).alloc _).drewN nq).below hb2; have hX2 := hX1.below hb2 hX1.lt; have hI2 := hI1.below hb2 hI1.lt; have i0 := hI2.cell 0; have i2 := hI2.cell 2; simp only [List.getElem?_cons_zero,List.getElem?_cons_succ] at i0 i2; have c2 := (hC2.blk.cell (8 + b)).trans Hz.out; have hz2 := hC2.blk.lt)
    | fail)
  go_quiet (fail)
  go_wp2_with (first
    | (go_at_call 57; refine (ctrap_any 8 _).mono ?_; rintro e w6 ⟨rfl,hb6⟩; have hX6 := (show Blk (w2.drewN _) _ _ _ from hX2).below hb6 hX2.lt; have hC6 := (hC2.drewN _).below hb6)
    | ((with_reducible show wpList _ _ _ (Oper.mk none (Op.store _ (Operand.tmp 4) (Operand.tmp 39)) _ _ _ _ :: _) _ _); refine wpList_st3 hX6 rfl 56 (.tmp 4) (.tmp 39) (.int .i64 6) (.int .i64 8) (.int .u32 0) rfl (by kernel_rfl) (by kernel_rfl) (by simp [Value.oneCell']) (by kernel_rfl) ?_; rintro ⟨z0,z1,z2⟩)
    | fail)
  refine bodyPost_ret (v := .agg #[.int .i64 6,.int .i64 8,.int .u32 0]) (by simp [results,Tryd.results61,go_sem,z0,z1,z2]) rfl ⟨rfl,?_⟩
  exact CW.farCells (by omega) _ _ _ hC6
set_option maxRecDepth 20000 in
set_option maxHeartbeats 4000000 in
theorem pt_zim_noc (op n f : Int) (a : Int) (b p q : Nat) (w : World) (g : Nat) (cells : List Value) (hT : TabIs 0 w) (htg : 0 ≠ g) (hB : Blk w g 119 cells) (hb : b < 4) (hz : cells[8 + b]? = some (.complex .f64 p q))
    (hge : (FloatKind.f64.format.order q 13970166044103278592 == some .gt || FloatKind.f64.format.order q 13970166044103278592 == some .eq) = true) (hle : (FloatKind.f64.format.order q 4746794007244308480 == some .lt || FloatKind.f64.format.order q 4746794007244308480 == some .eq) = true) (y : Nat) (hne : (FloatKind.f64.format.order q y != some .eq) = true) (Htr : Hid (∀ W,Calls Tryd.prog 85 #[.float .f64 q] W fun e w' => e = .returned (.float .f64 y) ∧ W = w')) (hnm : opName op = [122,105,109]) :
    Calls Tryd.prog 61 #[.pointer (some ⟨g,0,none⟩),.agg #[.int .i64 op,.int .i64 a,.int .i64 b,.int .i32 n,.int .i64 f]] w fun e w' => e = .returned (.agg #[.int .i64 6,.int .i64 8,.int .u32 0]) ∧ CW w g cells w' := by
  have hg := hB.lt
  have Hn := Lib.hid (fun w hT => hnm ▸ cname_any op w hT)
  have HB := Lib.hid hB
  have hBb : (b : Int) < 4 := by omega
  have qz : ((w.alloc (.cells #[.int .i64 op,.int .i64 a,.int .i64 b,.int .i32 n,.int .i64 f] 25)).alloc (.cells #[.int .i64 0,.int .i64 0,.int .u32 0] 56)).cell? ⟨g,8 + b,none⟩ = some (.complex .f64 p q) := by
    rw [World.cell?_alloc_lt _ _ ⟨g,8 + b,none⟩ (by simp; omega),World.cell?_alloc_lt _ _ ⟨g,8 + b,none⟩ hg]; exact (hB.cell (8 + b)).trans hz
  have hX0 : Blk ((w.alloc (.cells #[.int .i64 op,.int .i64 a,.int .i64 b,.int .i32 n,.int .i64 f] 25)).alloc (.cells #[.int .i64 0,.int .i64 0,.int .u32 0] 56)) (w.heap.size + 1) 56 [.int .i64 0,.int .i64 0,.int .u32 0] := by
    have := Blk.new (w.alloc (.cells #[.int .i64 op,.int .i64 a,.int .i64 b,.int .i32 n,.int .i64 f] 25)) 56 [.int .i64 0,.int .i64 0,.int .u32 0]
    rw [World.size_alloc] at this
    exact this
  have hI0 : Blk ((w.alloc (.cells #[.int .i64 op,.int .i64 a,.int .i64 b,.int .i32 n,.int .i64 f] 25)).alloc (.cells #[.int .i64 0,.int .i64 0,.int .u32 0] 56)) w.heap.size 25 [.int .i64 op,.int .i64 a,.int .i64 b,.int .i32 n,.int .i64 f] := (Blk.new w 25 [.int .i64 op,.int .i64 a,.int .i64 b,.int .i32 n,.int .i64 f]).alloc _
  have Hz := Lib.hid hz
  clear hB hz
  go_enter Tryd.func61,Tryd.ntmps61
  go_wp2_with fail
  go_quiet (fail)
  have hX1 : Blk (((w.alloc (.cells #[.int .i64 op,.int .i64 a,.int .i64 b,.int .i32 n,.int .i64 f] 25)).alloc (.cells #[.int .i64 0,.int .i64 0,.int .u32 0] 56)).drewN nq) (w.heap.size + 1) 56 [.int .i64 0,.int .i64 0,.int .u32 0] := hX0
  have hI1 : Blk (((w.alloc (.cells #[.int .i64 op,.int .i64 a,.int .i64 b,.int .i32 n,.int .i64 f] 25)).alloc (.cells #[.int .i64 0,.int .i64 0,.int .u32 0] 56)).drewN nq) w.heap.size 25 [.int .i64 op,.int .i64 a,.int .i64 b,.int .i32 n,.int .i64 f] := hI0
  go_wp2_with (first
    | (go_at_call 82; refine (Hn.out _ (((hT.alloc _).alloc _).drewN nq)).mono ?_; rintro e w2 ⟨rfl,hb2⟩; have hC2 := ((((CW.start HB.out).alloc _).alloc _).drewN nq).below hb2; have hX2 := hX1.below hb2 hX1.lt; have hI2 := hI1.below hb2 hI1.lt; have i0 := hI2.cell 0; have i2 := hI2.cell 2; simp only [List.getElem?_cons_zero,List.getElem?_cons_succ] at i0 i2; have c2 := (hC2.blk.cell (8 + b)).trans Hz.out; have hz2 := hC2.blk.lt)
    | (go_at_call 85; refine (Htr.out _).mono ?_; rintro e w4 ⟨rfl,rfl⟩)
    | fail)
  go_quiet (fail)
  go_wp2_with (first
    | (go_at_call 85; refine (Htr.out _).mono ?_; rintro e w4 ⟨rfl,rfl⟩)
    | (go_at_call 57; refine (ctrap_any 8 _).mono ?_; rintro e w6 ⟨rfl,hb6⟩; have hX6 := (show Blk (w2.drewN _) _ _ _ from hX2).below hb6 hX2.lt; have hC6 := (hC2.drewN _).below hb6)
    | ((with_reducible show wpList _ _ _ (Oper.mk none (Op.store _ (Operand.tmp 4) (Operand.tmp 39)) _ _ _ _ :: _) _ _); refine wpList_st3 hX6 rfl 56 (.tmp 4) (.tmp 39) (.int .i64 6) (.int .i64 8) (.int .u32 0) rfl (by kernel_rfl) (by kernel_rfl) (by simp [Value.oneCell']) (by kernel_rfl) ?_; rintro ⟨z0,z1,z2⟩)
    | fail)
  refine bodyPost_ret (v := .agg #[.int .i64 6,.int .i64 8,.int .u32 0]) (by simp [results,Tryd.results61,go_sem,z0,z1,z2]) rfl ⟨rfl,?_⟩
  exact CW.farCells (by omega) _ _ _ hC6
end Go.Proofs.YthcjnkakfpmpbaaDoor
