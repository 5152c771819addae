import Derived.Test.YthcjnkakfpmpbaaDoorQ14
namespace Go.Proofs.YthcjnkakfpmpbaaDoor
open Go.RowKit
set_option linter.unusedVariables false
set_option linter.unusedSimpArgs false
set_option maxRecDepth 20000 in
set_option maxHeartbeats 40000000 in
theorem rtwo_K (nm : ByteArray) (hnm : nm = ⟨#[109,111,118]⟩ ∨ nm = ⟨#[97,100,100]⟩ ∨ nm = ⟨#[115,117,98]⟩ ∨ nm = ⟨#[109,117,108]⟩ ∨ nm = ⟨#[97,110,100]⟩ ∨ nm = ⟨#[111,114]⟩ ∨ nm = ⟨#[120,111,114]⟩ ∨ nm = ⟨#[108,116]⟩ ∨ nm = ⟨#[101,113]⟩) (r : Int) (op n f : Int) (a b : Nat) (M : Value) (from_ : Int) (x y : Int) (w : World) (g : Nat) (cells : List Value) (hB : Blk w g 89 cells) (ha : a < 8) (hb : b < 8) (hx : cells[a]? = some (.int .i32 x)) (hy : cells[b]? = some (.int .i32 y)) (x0 : -2147483648 ≤ x) (x1 : x ≤ 2147483647) (y0 : -2147483648 ≤ y) (y1 : y ≤ 2147483647) (hk : ∀ k,Calls Tryd.prog 87 #[.string nm,.int .i32 x,.int .i32 y] k fun e w' => e = .returned (.int .i32 r) ∧ k = w') :
    Calls Tryd.prog 68 #[.pointer (some ⟨g,0,none⟩),.string nm,.agg #[.int .i64 op,.int .i64 a,.int .i64 b,.int .i32 n,.int .i64 f],M,.int .i64 from_] w fun e w' => e = .returned (.agg #[.int .i64 0,.int .i64 0,.int .u32 0]) ∧ RW w g (cells.set a (.int .i32 r)) w' := by
  have hg := hB.lt
  have hBb : (b : Int) < 8 := by omega
  have hAa : (a : Int) < 8 := by omega
  have HB := Lib.hid hB
  have qa : ((w.alloc (.cells #[.int .i64 op,.int .i64 a,.int .i64 b,.int .i32 n,.int .i64 f] 25)).alloc (.cells #[.int .i64 0,.int .i64 0,.int .u32 0] 92)).cell? ⟨g,a,none⟩ = some (.int .i32 x) := by
    rw [World.cell?_alloc_lt _ _ ⟨g,a,none⟩ (by simp; omega),World.cell?_alloc_lt _ _ ⟨g,a,none⟩ hg]; exact (hB.cell a).trans hx
  have qb : ((w.alloc (.cells #[.int .i64 op,.int .i64 a,.int .i64 b,.int .i32 n,.int .i64 f] 25)).alloc (.cells #[.int .i64 0,.int .i64 0,.int .u32 0] 92)).cell? ⟨g,b,none⟩ = some (.int .i32 y) := by
    rw [World.cell?_alloc_lt _ _ ⟨g,b,none⟩ (by simp; omega),World.cell?_alloc_lt _ _ ⟨g,b,none⟩ hg]; exact (hB.cell b).trans hy
  have hI0 : Blk ((w.alloc (.cells #[.int .i64 op,.int .i64 a,.int .i64 b,.int .i32 n,.int .i64 f] 25)).alloc (.cells #[.int .i64 0,.int .i64 0,.int .u32 0] 92)) w.heap.size 25 [.int .i64 op,.int .i64 a,.int .i64 b,.int .i32 n,.int .i64 f] := (Blk.new w 25 [.int .i64 op,.int .i64 a,.int .i64 b,.int .i32 n,.int .i64 f]).alloc _
  have hX0 : Blk ((w.alloc (.cells #[.int .i64 op,.int .i64 a,.int .i64 b,.int .i32 n,.int .i64 f] 25)).alloc (.cells #[.int .i64 0,.int .i64 0,.int .u32 0] 92)) (w.heap.size + 1) 92 [.int .i64 0,.int .i64 0,.int .u32 0] := by
    have := Blk.new (w.alloc (.cells #[.int .i64 op,.int .i64 a,.int .i64 b,.int .i32 n,.int .i64 f] 25)) 92 [.int .i64 0,.int .i64 0,.int .u32 0]
    rw [World.size_alloc] at this
    exact this
  have HCs : Hid (RW w g cells ((w.alloc (.cells #[.int .i64 op,.int .i64 a,.int .i64 b,.int .i32 n,.int .i64 f] 25)).alloc (.cells #[.int .i64 0,.int .i64 0,.int .u32 0] 92))) := Lib.hid (((RW.start hB).alloc _).alloc _)
  have Hx := Lib.hid hx
  clear hB hx hy
  have Hk := Lib.hid hk
  clear hk
  rcases hnm with rfl | rfl | rfl | rfl | rfl | rfl | rfl | rfl | rfl
  all_goals
    go_enter Tryd.func68,Tryd.ntmps68
    go_wp2_with fail
    go_quiet (fail)
    have hC1 := HCs.out.drewN nq
    have hX1 : Blk (((w.alloc (.cells #[.int .i64 op,.int .i64 a,.int .i64 b,.int .i32 n,.int .i64 f] 25)).alloc (.cells #[.int .i64 0,.int .i64 0,.int .u32 0] 92)).drewN nq) (w.heap.size + 1) 92 [.int .i64 0,.int .i64 0,.int .u32 0] := hX0
    have hI1 : Blk (((w.alloc (.cells #[.int .i64 op,.int .i64 a,.int .i64 b,.int .i32 n,.int .i64 f] 25)).alloc (.cells #[.int .i64 0,.int .i64 0,.int .u32 0] 92)).drewN nq) w.heap.size 25 [.int .i64 op,.int .i64 a,.int .i64 b,.int .i32 n,.int .i64 f] := hI0
    clear qa qb hX0 hI0 HCs
    generalize ((w.alloc (.cells #[.int .i64 op,.int .i64 a,.int .i64 b,.int .i32 n,.int .i64 f] 25)).alloc (.cells #[.int .i64 0,.int .i64 0,.int .u32 0] 92)).drewN nq = w1 at hC1 hX1 hI1 ⊢
    go_wp2_with fail
    refine wp_region_swap (ops' := rtR33) (by kernel_rfl) (rt_r33 g w.heap.size a _ x y r _ _ _ _ _ _ _ _ _ _ _ _ _ _ _ _ _ _ _ _ _ _ _ _ _ _ _ _ _ _ _ _ _ _ _ _ _ _ _ _ _ _ _ _ _ _ _ _ _ _ _ _ _ _ _ _ _ _ _ _ _ _ _ _ _ _ _ _ _ _ _ _ _ _ _ _ _ _ _ _ _ _ _ _ _ _ _ _ _ _ _ _ _ _ _ _ _ _ _ _ _ _ _ _ _ _ _ _ _ _ _ _ _ _ _ _ _ _ _ _ _ _ _ _ _ _ _ _ _ _ _ _ _ _ _ _ _ _ _ _ _ ha (hI1.cell 1) ((hC1.blk.cell a).trans Hx.out) (hC1.blk.free _) (fun k => Hk.out _) ?_)
    intro Um Un Uo Up Uq Ur Us Ut Uu Uv Uw Ux Uy Uz UA UB kd
    have hC2 := (hC1.drewN kd).setReg a (.int .i32 r)
    have hX2 : Blk ((w1.drewN kd).setCell ⟨g,a,none⟩ (.int .i32 r)) (w.heap.size + 1) 92 [.int .i64 0,.int .i64 0,.int .u32 0] := Blk.other (show Blk (w1.drewN kd) _ _ _ from hX1) (by show w.heap.size + 1 ≠ g; omega)
    generalize (w1.drewN kd).setCell ⟨g,a,none⟩ (.int .i32 r) = w5 at hX2 hC2 ⊢
    go_wp2_with (first
      | ((with_reducible show wpList _ _ _ (Oper.mk none (Op.store _ (Operand.tmp 10) (Operand.tmp 142)) _ _ _ _ :: _) _ _); refine wpList_st3 hX2 rfl 92 (.tmp 10) (.tmp 142) (.int .i64 0) (.int .i64 0) (.int .u32 0) rfl (by kernel_rfl) (by kernel_rfl) (by simp [Value.oneCell']) (by kernel_rfl) ?_; rintro ⟨z0,z1,z2⟩)
      | fail)
    refine bodyPost_ret (v := .agg #[.int .i64 0,.int .i64 0,.int .u32 0]) (by simp [results,Tryd.results68,go_sem,z0,z1,z2]) rfl ⟨rfl,?_⟩
    exact RW.farCells (by omega) _ _ _ hC2
set_option maxRecDepth 20000 in
set_option maxHeartbeats 2000000 in
theorem rtwo_div1 (op n f : Int) (a b : Nat) (M : Value) (from_ : Int) (x : Int) (w : World) (g : Nat) (cells : List Value) (hB : Blk w g 89 cells) (ha : a < 8) (hb : b < 8) (hx : cells[a]? = some (.int .i32 x)) (hy : cells[b]? = some (.int .i32 (-1))) (x0 : -2147483648 ≤ x) (x1 : x ≤ 2147483647)  :
    Calls Tryd.prog 68 #[.pointer (some ⟨g,0,none⟩),.string ⟨#[100,105,118]⟩,.agg #[.int .i64 op,.int .i64 a,.int .i64 b,.int .i32 n,.int .i64 f],M,.int .i64 from_] w fun e w' => e = .returned (.agg #[.int .i64 0,.int .i64 0,.int .u32 0]) ∧ RW w g (cells.set a (.int .i32 (wrap32 (-x)))) w' := by
  have hg := hB.lt
  have hBb : (b : Int) < 8 := by omega
  have hAa : (a : Int) < 8 := by omega
  have HB := Lib.hid hB
  have qa : ((w.alloc (.cells #[.int .i64 op,.int .i64 a,.int .i64 b,.int .i32 n,.int .i64 f] 25)).alloc (.cells #[.int .i64 0,.int .i64 0,.int .u32 0] 92)).cell? ⟨g,a,none⟩ = some (.int .i32 x) := by
    rw [World.cell?_alloc_lt _ _ ⟨g,a,none⟩ (by simp; omega),World.cell?_alloc_lt _ _ ⟨g,a,none⟩ hg]; exact (hB.cell a).trans hx
  have qb : ((w.alloc (.cells #[.int .i64 op,.int .i64 a,.int .i64 b,.int .i32 n,.int .i64 f] 25)).alloc (.cells #[.int .i64 0,.int .i64 0,.int .u32 0] 92)).cell? ⟨g,b,none⟩ = some (.int .i32 (-1)) := by
    rw [World.cell?_alloc_lt _ _ ⟨g,b,none⟩ (by simp; omega),World.cell?_alloc_lt _ _ ⟨g,b,none⟩ hg]; exact (hB.cell b).trans hy
  have hI0 : Blk ((w.alloc (.cells #[.int .i64 op,.int .i64 a,.int .i64 b,.int .i32 n,.int .i64 f] 25)).alloc (.cells #[.int .i64 0,.int .i64 0,.int .u32 0] 92)) w.heap.size 25 [.int .i64 op,.int .i64 a,.int .i64 b,.int .i32 n,.int .i64 f] := (Blk.new w 25 [.int .i64 op,.int .i64 a,.int .i64 b,.int .i32 n,.int .i64 f]).alloc _
  have hX0 : Blk ((w.alloc (.cells #[.int .i64 op,.int .i64 a,.int .i64 b,.int .i32 n,.int .i64 f] 25)).alloc (.cells #[.int .i64 0,.int .i64 0,.int .u32 0] 92)) (w.heap.size + 1) 92 [.int .i64 0,.int .i64 0,.int .u32 0] := by
    have := Blk.new (w.alloc (.cells #[.int .i64 op,.int .i64 a,.int .i64 b,.int .i32 n,.int .i64 f] 25)) 92 [.int .i64 0,.int .i64 0,.int .u32 0]
    rw [World.size_alloc] at this
    exact this
  have HCs : Hid (RW w g cells ((w.alloc (.cells #[.int .i64 op,.int .i64 a,.int .i64 b,.int .i32 n,.int .i64 f] 25)).alloc (.cells #[.int .i64 0,.int .i64 0,.int .u32 0] 92))) := Lib.hid (((RW.start hB).alloc _).alloc _)
  have Hx := Lib.hid hx
  clear hB hx hy
  go_enter Tryd.func68,Tryd.ntmps68
  go_wp2_with fail
  go_quiet (fail)
  have hC1 := HCs.out.drewN nq
  have hX1 : Blk (((w.alloc (.cells #[.int .i64 op,.int .i64 a,.int .i64 b,.int .i32 n,.int .i64 f] 25)).alloc (.cells #[.int .i64 0,.int .i64 0,.int .u32 0] 92)).drewN nq) (w.heap.size + 1) 92 [.int .i64 0,.int .i64 0,.int .u32 0] := hX0
  have hI1 : Blk (((w.alloc (.cells #[.int .i64 op,.int .i64 a,.int .i64 b,.int .i32 n,.int .i64 f] 25)).alloc (.cells #[.int .i64 0,.int .i64 0,.int .u32 0] 92)).drewN nq) w.heap.size 25 [.int .i64 op,.int .i64 a,.int .i64 b,.int .i32 n,.int .i64 f] := hI0
  clear qa qb hX0 hI0 HCs
  generalize ((w.alloc (.cells #[.int .i64 op,.int .i64 a,.int .i64 b,.int .i32 n,.int .i64 f] 25)).alloc (.cells #[.int .i64 0,.int .i64 0,.int .u32 0] 92)).drewN nq = w1 at hC1 hX1 hI1 ⊢
  go_wp2_with fail
  refine wp_region_swap (ops' := rtR33) (by kernel_rfl) (rt_r33 g w.heap.size a ⟨#[100,105,118]⟩ x (-1) (wrap32 (-x)) _ _ _ _ _ _ _ _ _ _ _ _ _ _ _ _ _ _ _ _ _ _ _ _ _ _ _ _ _ _ _ _ _ _ _ _ _ _ _ _ _ _ _ _ _ _ _ _ _ _ _ _ _ _ _ _ _ _ _ _ _ _ _ _ _ _ _ _ _ _ _ _ _ _ _ _ _ _ _ _ _ _ _ _ _ _ _ _ _ _ _ _ _ _ _ _ _ _ _ _ _ _ _ _ _ _ _ _ _ _ _ _ _ _ _ _ _ _ _ _ _ _ _ _ _ _ _ _ _ _ _ _ _ _ _ _ _ _ _ _ _ ha (hI1.cell 1) ((hC1.blk.cell a).trans Hx.out) (hC1.blk.free _) (fun k => reckon_div1 x (-1) rfl _ x0 x1 (by omega) (by omega)) ?_)
  intro Um Un Uo Up Uq Ur Us Ut Uu Uv Uw Ux Uy Uz UA UB kd
  have hC2 := (hC1.drewN kd).setReg a (.int .i32 (wrap32 (-x)))
  have hX2 : Blk ((w1.drewN kd).setCell ⟨g,a,none⟩ (.int .i32 (wrap32 (-x)))) (w.heap.size + 1) 92 [.int .i64 0,.int .i64 0,.int .u32 0] := Blk.other (show Blk (w1.drewN kd) _ _ _ from hX1) (by show w.heap.size + 1 ≠ g; omega)
  generalize (w1.drewN kd).setCell ⟨g,a,none⟩ (.int .i32 (wrap32 (-x))) = w5 at hX2 hC2 ⊢
  go_wp2_with (first
    | ((with_reducible show wpList _ _ _ (Oper.mk none (Op.store _ (Operand.tmp 10) (Operand.tmp 142)) _ _ _ _ :: _) _ _); refine wpList_st3 hX2 rfl 92 (.tmp 10) (.tmp 142) (.int .i64 0) (.int .i64 0) (.int .u32 0) rfl (by kernel_rfl) (by kernel_rfl) (by simp [Value.oneCell']) (by kernel_rfl) ?_; rintro ⟨z0,z1,z2⟩)
    | fail)
  refine bodyPost_ret (v := .agg #[.int .i64 0,.int .i64 0,.int .u32 0]) (by simp [results,Tryd.results68,go_sem,z0,z1,z2]) rfl ⟨rfl,?_⟩
  exact RW.farCells (by omega) _ _ _ hC2
set_option maxRecDepth 20000 in
set_option maxHeartbeats 2000000 in
theorem rtwo_div (op n f : Int) (a b : Nat) (M : Value) (from_ : Int) (x y : Int) (w : World) (g : Nat) (cells : List Value) (hB : Blk w g 89 cells) (ha : a < 8) (hb : b < 8) (hx : cells[a]? = some (.int .i32 x)) (hy : cells[b]? = some (.int .i32 y)) (x0 : -2147483648 ≤ x) (x1 : x ≤ 2147483647) (y0 : -2147483648 ≤ y) (y1 : y ≤ 2147483647) (hy1 : ¬ y = -1) (hy0 : ¬ y = 0) :
    Calls Tryd.prog 68 #[.pointer (some ⟨g,0,none⟩),.string ⟨#[100,105,118]⟩,.agg #[.int .i64 op,.int .i64 a,.int .i64 b,.int .i32 n,.int .i64 f],M,.int .i64 from_] w fun e w' => e = .returned (.agg #[.int .i64 0,.int .i64 0,.int .u32 0]) ∧ RW w g (cells.set a (.int .i32 (wrap32 (x.tdiv y)))) w' := by
  have hg := hB.lt
  have hBb : (b : Int) < 8 := by omega
  have hAa : (a : Int) < 8 := by omega
  have HB := Lib.hid hB
  have qa : ((w.alloc (.cells #[.int .i64 op,.int .i64 a,.int .i64 b,.int .i32 n,.int .i64 f] 25)).alloc (.cells #[.int .i64 0,.int .i64 0,.int .u32 0] 92)).cell? ⟨g,a,none⟩ = some (.int .i32 x) := by
    rw [World.cell?_alloc_lt _ _ ⟨g,a,none⟩ (by simp; omega),World.cell?_alloc_lt _ _ ⟨g,a,none⟩ hg]; exact (hB.cell a).trans hx
  have qb : ((w.alloc (.cells #[.int .i64 op,.int .i64 a,.int .i64 b,.int .i32 n,.int .i64 f] 25)).alloc (.cells #[.int .i64 0,.int .i64 0,.int .u32 0] 92)).cell? ⟨g,b,none⟩ = some (.int .i32 y) := by
    rw [World.cell?_alloc_lt _ _ ⟨g,b,none⟩ (by simp; omega),World.cell?_alloc_lt _ _ ⟨g,b,none⟩ hg]; exact (hB.cell b).trans hy
  have hI0 : Blk ((w.alloc (.cells #[.int .i64 op,.int .i64 a,.int .i64 b,.int .i32 n,.int .i64 f] 25)).alloc (.cells #[.int .i64 0,.int .i64 0,.int .u32 0] 92)) w.heap.size 25 [.int .i64 op,.int .i64 a,.int .i64 b,.int .i32 n,.int .i64 f] := (Blk.new w 25 [.int .i64 op,.int .i64 a,.int .i64 b,.int .i32 n,.int .i64 f]).alloc _
  have hX0 : Blk ((w.alloc (.cells #[.int .i64 op,.int .i64 a,.int .i64 b,.int .i32 n,.int .i64 f] 25)).alloc (.cells #[.int .i64 0,.int .i64 0,.int .u32 0] 92)) (w.heap.size + 1) 92 [.int .i64 0,.int .i64 0,.int .u32 0] := by
    have := Blk.new (w.alloc (.cells #[.int .i64 op,.int .i64 a,.int .i64 b,.int .i32 n,.int .i64 f] 25)) 92 [.int .i64 0,.int .i64 0,.int .u32 0]
    rw [World.size_alloc] at this
    exact this
  have HCs : Hid (RW w g cells ((w.alloc (.cells #[.int .i64 op,.int .i64 a,.int .i64 b,.int .i32 n,.int .i64 f] 25)).alloc (.cells #[.int .i64 0,.int .i64 0,.int .u32 0] 92))) := Lib.hid (((RW.start hB).alloc _).alloc _)
  have Hx := Lib.hid hx
  clear hB hx hy
  go_enter Tryd.func68,Tryd.ntmps68
  go_wp2_with fail
  go_quiet (fail)
  have hC1 := HCs.out.drewN nq
  have hX1 : Blk (((w.alloc (.cells #[.int .i64 op,.int .i64 a,.int .i64 b,.int .i32 n,.int .i64 f] 25)).alloc (.cells #[.int .i64 0,.int .i64 0,.int .u32 0] 92)).drewN nq) (w.heap.size + 1) 92 [.int .i64 0,.int .i64 0,.int .u32 0] := hX0
  have hI1 : Blk (((w.alloc (.cells #[.int .i64 op,.int .i64 a,.int .i64 b,.int .i32 n,.int .i64 f] 25)).alloc (.cells #[.int .i64 0,.int .i64 0,.int .u32 0] 92)).drewN nq) w.heap.size 25 [.int .i64 op,.int .i64 a,.int .i64 b,.int .i32 n,.int .i64 f] := hI0
  clear qa qb hX0 hI0 HCs
  generalize ((w.alloc (.cells #[.int .i64 op,.int .i64 a,.int .i64 b,.int .i32 n,.int .i64 f] 25)).alloc (.cells #[.int .i64 0,.int .i64 0,.int .u32 0] 92)).drewN nq = w1 at hC1 hX1 hI1 ⊢
  go_wp2_with fail
  refine wp_region_swap (ops' := rtR33) (by kernel_rfl) (rt_r33 g w.heap.size a ⟨#[100,105,118]⟩ x y (wrap32 (x.tdiv y)) _ _ _ _ _ _ _ _ _ _ _ _ _ _ _ _ _ _ _ _ _ _ _ _ _ _ _ _ _ _ _ _ _ _ _ _ _ _ _ _ _ _ _ _ _ _ _ _ _ _ _ _ _ _ _ _ _ _ _ _ _ _ _ _ _ _ _ _ _ _ _ _ _ _ _ _ _ _ _ _ _ _ _ _ _ _ _ _ _ _ _ _ _ _ _ _ _ _ _ _ _ _ _ _ _ _ _ _ _ _ _ _ _ _ _ _ _ _ _ _ _ _ _ _ _ _ _ _ _ _ _ _ _ _ _ _ _ _ _ _ _ ha (hI1.cell 1) ((hC1.blk.cell a).trans Hx.out) (hC1.blk.free _) (fun k => reckon_div x y hy1 hy0 _ x0 x1 y0 y1) ?_)
  intro Um Un Uo Up Uq Ur Us Ut Uu Uv Uw Ux Uy Uz UA UB kd
  have hC2 := (hC1.drewN kd).setReg a (.int .i32 (wrap32 (x.tdiv y)))
  have hX2 : Blk ((w1.drewN kd).setCell ⟨g,a,none⟩ (.int .i32 (wrap32 (x.tdiv y)))) (w.heap.size + 1) 92 [.int .i64 0,.int .i64 0,.int .u32 0] := Blk.other (show Blk (w1.drewN kd) _ _ _ from hX1) (by show w.heap.size + 1 ≠ g; omega)
  generalize (w1.drewN kd).setCell ⟨g,a,none⟩ (.int .i32 (wrap32 (x.tdiv y))) = w5 at hX2 hC2 ⊢
  go_wp2_with (first
    | ((with_reducible show wpList _ _ _ (Oper.mk none (Op.store _ (Operand.tmp 10) (Operand.tmp 142)) _ _ _ _ :: _) _ _); refine wpList_st3 hX2 rfl 92 (.tmp 10) (.tmp 142) (.int .i64 0) (.int .i64 0) (.int .u32 0) rfl (by kernel_rfl) (by kernel_rfl) (by simp [Value.oneCell']) (by kernel_rfl) ?_; rintro ⟨z0,z1,z2⟩)
    | fail)
  refine bodyPost_ret (v := .agg #[.int .i64 0,.int .i64 0,.int .u32 0]) (by simp [results,Tryd.results68,go_sem,z0,z1,z2]) rfl ⟨rfl,?_⟩
  exact RW.farCells (by omega) _ _ _ hC2
set_option maxRecDepth 20000 in
set_option maxHeartbeats 2000000 in
theorem rtwo_div0 (op n f : Int) (a b : Nat) (M : Value) (from_ : Int) (x : Int) (w : World) (g : Nat) (cells : List Value) (hB : Blk w g 89 cells) (ha : a < 8) (hb : b < 8) (hx : cells[a]? = some (.int .i32 x)) (hy : cells[b]? = some (.int .i32 0))  :
    Calls Tryd.prog 68 #[.pointer (some ⟨g,0,none⟩),.string ⟨#[100,105,118]⟩,.agg #[.int .i64 op,.int .i64 a,.int .i64 b,.int .i32 n,.int .i64 f],M,.int .i64 from_] w fun e w' => e = .returned (.agg #[.int .i64 6,.int .i64 2,.int .u32 0]) ∧ RW w g (cells) w' := by
  have hg := hB.lt
  have hBb : (b : Int) < 8 := by omega
  have hAa : (a : Int) < 8 := by omega
  have HB := Lib.hid hB
  have qa : ((w.alloc (.cells #[.int .i64 op,.int .i64 a,.int .i64 b,.int .i32 n,.int .i64 f] 25)).alloc (.cells #[.int .i64 0,.int .i64 0,.int .u32 0] 92)).cell? ⟨g,a,none⟩ = some (.int .i32 x) := by
    rw [World.cell?_alloc_lt _ _ ⟨g,a,none⟩ (by simp; omega),World.cell?_alloc_lt _ _ ⟨g,a,none⟩ hg]; exact (hB.cell a).trans hx
  have qb : ((w.alloc (.cells #[.int .i64 op,.int .i64 a,.int .i64 b,.int .i32 n,.int .i64 f] 25)).alloc (.cells #[.int .i64 0,.int .i64 0,.int .u32 0] 92)).cell? ⟨g,b,none⟩ = some (.int .i32 0) := by
    rw [World.cell?_alloc_lt _ _ ⟨g,b,none⟩ (by simp; omega),World.cell?_alloc_lt _ _ ⟨g,b,none⟩ hg]; exact (hB.cell b).trans hy
  have hI0 : Blk ((w.alloc (.cells #[.int .i64 op,.int .i64 a,.int .i64 b,.int .i32 n,.int .i64 f] 25)).alloc (.cells #[.int .i64 0,.int .i64 0,.int .u32 0] 92)) w.heap.size 25 [.int .i64 op,.int .i64 a,.int .i64 b,.int .i32 n,.int .i64 f] := (Blk.new w 25 [.int .i64 op,.int .i64 a,.int .i64 b,.int .i32 n,.int .i64 f]).alloc _
  have hX0 : Blk ((w.alloc (.cells #[.int .i64 op,.int .i64 a,.int .i64 b,.int .i32 n,.int .i64 f] 25)).alloc (.cells #[.int .i64 0,.int .i64 0,.int .u32 0] 92)) (w.heap.size + 1) 92 [.int .i64 0,.int .i64 0,.int .u32 0] := by
    have := Blk.new (w.alloc (.cells #[.int .i64 op,.int .i64 a,.int .i64 b,.int .i32 n,.int .i64 f] 25)) 92 [.int .i64 0,.int .i64 0,.int .u32 0]
    rw [World.size_alloc] at this
    exact this
  have HCs : Hid (RW w g cells ((w.alloc (.cells #[.int .i64 op,.int .i64 a,.int .i64 b,.int .i32 n,.int .i64 f] 25)).alloc (.cells #[.int .i64 0,.int .i64 0,.int .u32 0] 92))) := Lib.hid (((RW.start hB).alloc _).alloc _)
  have Hx := Lib.hid hx
  clear hB hx hy
  go_enter Tryd.func68,Tryd.ntmps68
  go_wp2_with fail
  go_quiet (fail)
  have hC1 := HCs.out.drewN nq
  have hX1 : Blk (((w.alloc (.cells #[.int .i64 op,.int .i64 a,.int .i64 b,.int .i32 n,.int .i64 f] 25)).alloc (.cells #[.int .i64 0,.int .i64 0,.int .u32 0] 92)).drewN nq) (w.heap.size + 1) 92 [.int .i64 0,.int .i64 0,.int .u32 0] := hX0
  have hI1 : Blk (((w.alloc (.cells #[.int .i64 op,.int .i64 a,.int .i64 b,.int .i32 n,.int .i64 f] 25)).alloc (.cells #[.int .i64 0,.int .i64 0,.int .u32 0] 92)).drewN nq) w.heap.size 25 [.int .i64 op,.int .i64 a,.int .i64 b,.int .i32 n,.int .i64 f] := hI0
  clear qa qb hX0 hI0 HCs
  generalize ((w.alloc (.cells #[.int .i64 op,.int .i64 a,.int .i64 b,.int .i32 n,.int .i64 f] 25)).alloc (.cells #[.int .i64 0,.int .i64 0,.int .u32 0] 92)).drewN nq = w1 at hC1 hX1 hI1 ⊢
  go_wp2_with (first
    | (go_at_call 66; refine (rtrap_any 2 _).mono ?_; rintro e w4 ⟨rfl,hb4⟩; have hX4 := hX1.below hb4 hX1.lt; have hC4 := hC1.below hb4)
    | ((with_reducible show wpList _ _ _ (Oper.mk none (Op.store _ (Operand.tmp 10) (Operand.tmp 28)) _ _ _ _ :: _) _ _); refine wpList_st3 hX4 rfl 92 (.tmp 10) (.tmp 28) (.int .i64 6) (.int .i64 2) (.int .u32 0) rfl (by kernel_rfl) (by kernel_rfl) (by simp [Value.oneCell']) (by kernel_rfl) ?_; rintro ⟨z0,z1,z2⟩)
    | fail)
  refine bodyPost_ret (v := .agg #[.int .i64 6,.int .i64 2,.int .u32 0]) (by simp [results,Tryd.results68,go_sem,z0,z1,z2]) rfl ⟨rfl,?_⟩
  exact RW.farCells (by omega) _ _ _ hC4
set_option maxRecDepth 20000 in
set_option maxHeartbeats 2000000 in
theorem rtwo_ldm (op n f : Int) (a b : Nat) (M : Value) (from_ : Int) (x : Int) (q : Nat) (v : Int) (w : World) (g : Nat) (cells : List Value) (hB : Blk w g 89 cells) (ha : a < 8) (hb : b < 8) (hx : cells[a]? = some (.int .i32 x)) (hy : cells[b]? = some (.int .i32 q)) (hq : q < 256) (hv : cells[13 + q]? = some (.int .i32 v)) :
    Calls Tryd.prog 68 #[.pointer (some ⟨g,0,none⟩),.string ⟨#[108,100,109]⟩,.agg #[.int .i64 op,.int .i64 a,.int .i64 b,.int .i32 n,.int .i64 f],M,.int .i64 from_] w fun e w' => e = .returned (.agg #[.int .i64 0,.int .i64 0,.int .u32 0]) ∧ RW w g (cells.set a (.int .i32 v)) w' := by
  have hg := hB.lt
  have hBb : (b : Int) < 8 := by omega
  have hAa : (a : Int) < 8 := by omega
  have HB := Lib.hid hB
  have qa : ((w.alloc (.cells #[.int .i64 op,.int .i64 a,.int .i64 b,.int .i32 n,.int .i64 f] 25)).alloc (.cells #[.int .i64 0,.int .i64 0,.int .u32 0] 92)).cell? ⟨g,a,none⟩ = some (.int .i32 x) := by
    rw [World.cell?_alloc_lt _ _ ⟨g,a,none⟩ (by simp; omega),World.cell?_alloc_lt _ _ ⟨g,a,none⟩ hg]; exact (hB.cell a).trans hx
  have qb : ((w.alloc (.cells #[.int .i64 op,.int .i64 a,.int .i64 b,.int .i32 n,.int .i64 f] 25)).alloc (.cells #[.int .i64 0,.int .i64 0,.int .u32 0] 92)).cell? ⟨g,b,none⟩ = some (.int .i32 q) := by
    rw [World.cell?_alloc_lt _ _ ⟨g,b,none⟩ (by simp; omega),World.cell?_alloc_lt _ _ ⟨g,b,none⟩ hg]; exact (hB.cell b).trans hy
  have hI0 : Blk ((w.alloc (.cells #[.int .i64 op,.int .i64 a,.int .i64 b,.int .i32 n,.int .i64 f] 25)).alloc (.cells #[.int .i64 0,.int .i64 0,.int .u32 0] 92)) w.heap.size 25 [.int .i64 op,.int .i64 a,.int .i64 b,.int .i32 n,.int .i64 f] := (Blk.new w 25 [.int .i64 op,.int .i64 a,.int .i64 b,.int .i32 n,.int .i64 f]).alloc _
  have hX0 : Blk ((w.alloc (.cells #[.int .i64 op,.int .i64 a,.int .i64 b,.int .i32 n,.int .i64 f] 25)).alloc (.cells #[.int .i64 0,.int .i64 0,.int .u32 0] 92)) (w.heap.size + 1) 92 [.int .i64 0,.int .i64 0,.int .u32 0] := by
    have := Blk.new (w.alloc (.cells #[.int .i64 op,.int .i64 a,.int .i64 b,.int .i32 n,.int .i64 f] 25)) 92 [.int .i64 0,.int .i64 0,.int .u32 0]
    rw [World.size_alloc] at this
    exact this
  have HCs : Hid (RW w g cells ((w.alloc (.cells #[.int .i64 op,.int .i64 a,.int .i64 b,.int .i32 n,.int .i64 f] 25)).alloc (.cells #[.int .i64 0,.int .i64 0,.int .u32 0] 92))) := Lib.hid (((RW.start hB).alloc _).alloc _)
  have Hx := Lib.hid hx
  have Hv := Lib.hid hv
  clear hB hx hy
  go_enter Tryd.func68,Tryd.ntmps68
  go_wp2_with fail
  go_quiet (fail)
  have hC1 := HCs.out.drewN nq
  have hX1 : Blk (((w.alloc (.cells #[.int .i64 op,.int .i64 a,.int .i64 b,.int .i32 n,.int .i64 f] 25)).alloc (.cells #[.int .i64 0,.int .i64 0,.int .u32 0] 92)).drewN nq) (w.heap.size + 1) 92 [.int .i64 0,.int .i64 0,.int .u32 0] := hX0
  have hI1 : Blk (((w.alloc (.cells #[.int .i64 op,.int .i64 a,.int .i64 b,.int .i32 n,.int .i64 f] 25)).alloc (.cells #[.int .i64 0,.int .i64 0,.int .u32 0] 92)).drewN nq) w.heap.size 25 [.int .i64 op,.int .i64 a,.int .i64 b,.int .i32 n,.int .i64 f] := hI0
  clear qa qb hX0 hI0 HCs
  generalize ((w.alloc (.cells #[.int .i64 op,.int .i64 a,.int .i64 b,.int .i32 n,.int .i64 f] 25)).alloc (.cells #[.int .i64 0,.int .i64 0,.int .u32 0] 92)).drewN nq = w1 at hC1 hX1 hI1 ⊢
  have hqm : (q : Int) % 4294967296 = q := by omega
  have hqI : ¬ (256 ≤ (q : Int)) := by omega
  go_wp2_with fail
  refine wp_region_swap (ops' := rtR26) (by kernel_rfl) (rt_r26 g w.heap.size a q v _ _ _ _ _ _ _ _ _ _ _ _ _ _ _ _ _ _ _ _ _ _ _ _ _ _ _ _ _ _ _ _ _ _ _ _ _ _ _ _ _ _ _ _ _ _ _ _ _ _ _ _ _ _ _ _ _ _ _ _ _ _ _ _ _ _ _ _ _ _ _ _ _ _ _ _ _ _ _ _ _ _ _ _ _ _ _ _ _ _ _ _ _ _ _ _ _ _ _ _ _ _ _ _ _ _ _ _ _ _ _ _ _ _ _ _ _ _ _ _ _ _ _ _ _ _ _ _ _ _ _ _ _ _ _ _ _ _ _ _ _ _ ha (hI1.cell 1) _ ((hC1.blk.cell a).trans Hx.out) (hC1.blk.free _) hq ((hC1.blk.cell (13 + q)).trans Hv.out) ?_)
  intro UN UO UP UQ UR US UT UU UV UW UX UY kd
  have hC2 := (hC1.drewN kd).setReg a (.int .i32 v)
  have hX2 : Blk ((w1.drewN kd).setCell ⟨g,a,none⟩ (.int .i32 v)) (w.heap.size + 1) 92 [.int .i64 0,.int .i64 0,.int .u32 0] := Blk.other (show Blk (w1.drewN kd) _ _ _ from hX1) (by show w.heap.size + 1 ≠ g; omega)
  generalize (w1.drewN kd).setCell ⟨g,a,none⟩ (.int .i32 v) = w5 at hX2 hC2 ⊢
  go_wp2_with (first
    | ((with_reducible show wpList _ _ _ (Oper.mk none (Op.store _ (Operand.tmp 10) (Operand.tmp 100)) _ _ _ _ :: _) _ _); refine wpList_st3 hX2 rfl 92 (.tmp 10) (.tmp 100) (.int .i64 0) (.int .i64 0) (.int .u32 0) rfl (by kernel_rfl) (by kernel_rfl) (by simp [Value.oneCell']) (by kernel_rfl) ?_; rintro ⟨z0,z1,z2⟩)
    | fail)
  refine bodyPost_ret (v := .agg #[.int .i64 0,.int .i64 0,.int .u32 0]) (by simp [results,Tryd.results68,go_sem,z0,z1,z2]) rfl ⟨rfl,?_⟩
  exact RW.farCells (by omega) _ _ _ hC2
set_option maxRecDepth 20000 in
set_option maxHeartbeats 2000000 in
theorem rtwo_ldm_no (op n f : Int) (a b : Nat) (M : Value) (from_ : Int) (x y m : Int) (w : World) (g : Nat) (cells : List Value) (hB : Blk w g 89 cells) (ha : a < 8) (hb : b < 8) (hx : cells[a]? = some (.int .i32 x)) (hy : cells[b]? = some (.int .i32 y)) (hm : y % 4294967296 = m) (hno : 256 ≤ m) (y0 : -2147483648 ≤ y) (y1 : y ≤ 2147483647) :
    Calls Tryd.prog 68 #[.pointer (some ⟨g,0,none⟩),.string ⟨#[108,100,109]⟩,.agg #[.int .i64 op,.int .i64 a,.int .i64 b,.int .i32 n,.int .i64 f],M,.int .i64 from_] w fun e w' => e = .returned (.agg #[.int .i64 6,.int .i64 3,.int .u32 0]) ∧ RW w g (cells) w' := by
  have hg := hB.lt
  have hBb : (b : Int) < 8 := by omega
  have hAa : (a : Int) < 8 := by omega
  have HB := Lib.hid hB
  have qa : ((w.alloc (.cells #[.int .i64 op,.int .i64 a,.int .i64 b,.int .i32 n,.int .i64 f] 25)).alloc (.cells #[.int .i64 0,.int .i64 0,.int .u32 0] 92)).cell? ⟨g,a,none⟩ = some (.int .i32 x) := by
    rw [World.cell?_alloc_lt _ _ ⟨g,a,none⟩ (by simp; omega),World.cell?_alloc_lt _ _ ⟨g,a,none⟩ hg]; exact (hB.cell a).trans hx
  have qb : ((w.alloc (.cells #[.int .i64 op,.int .i64 a,.int .i64 b,.int .i32 n,.int .i64 f] 25)).alloc (.cells #[.int .i64 0,.int .i64 0,.int .u32 0] 92)).cell? ⟨g,b,none⟩ = some (.int .i32 y) := by
    rw [World.cell?_alloc_lt _ _ ⟨g,b,none⟩ (by simp; omega),World.cell?_alloc_lt _ _ ⟨g,b,none⟩ hg]; exact (hB.cell b).trans hy
  have hI0 : Blk ((w.alloc (.cells #[.int .i64 op,.int .i64 a,.int .i64 b,.int .i32 n,.int .i64 f] 25)).alloc (.cells #[.int .i64 0,.int .i64 0,.int .u32 0] 92)) w.heap.size 25 [.int .i64 op,.int .i64 a,.int .i64 b,.int .i32 n,.int .i64 f] := (Blk.new w 25 [.int .i64 op,.int .i64 a,.int .i64 b,.int .i32 n,.int .i64 f]).alloc _
  have hX0 : Blk ((w.alloc (.cells #[.int .i64 op,.int .i64 a,.int .i64 b,.int .i32 n,.int .i64 f] 25)).alloc (.cells #[.int .i64 0,.int .i64 0,.int .u32 0] 92)) (w.heap.size + 1) 92 [.int .i64 0,.int .i64 0,.int .u32 0] := by
    have := Blk.new (w.alloc (.cells #[.int .i64 op,.int .i64 a,.int .i64 b,.int .i32 n,.int .i64 f] 25)) 92 [.int .i64 0,.int .i64 0,.int .u32 0]
    rw [World.size_alloc] at this
    exact this
  have HCs : Hid (RW w g cells ((w.alloc (.cells #[.int .i64 op,.int .i64 a,.int .i64 b,.int .i32 n,.int .i64 f] 25)).alloc (.cells #[.int .i64 0,.int .i64 0,.int .u32 0] 92))) := Lib.hid (((RW.start hB).alloc _).alloc _)
  have Hx := Lib.hid hx
  clear hB hx hy
  go_enter Tryd.func68,Tryd.ntmps68
  go_wp2_with fail
  go_quiet (fail)
  have hC1 := HCs.out.drewN nq
  have hX1 : Blk (((w.alloc (.cells #[.int .i64 op,.int .i64 a,.int .i64 b,.int .i32 n,.int .i64 f] 25)).alloc (.cells #[.int .i64 0,.int .i64 0,.int .u32 0] 92)).drewN nq) (w.heap.size + 1) 92 [.int .i64 0,.int .i64 0,.int .u32 0] := hX0
  have hI1 : Blk (((w.alloc (.cells #[.int .i64 op,.int .i64 a,.int .i64 b,.int .i32 n,.int .i64 f] 25)).alloc (.cells #[.int .i64 0,.int .i64 0,.int .u32 0] 92)).drewN nq) w.heap.size 25 [.int .i64 op,.int .i64 a,.int .i64 b,.int .i32 n,.int .i64 f] := hI0
  clear qa qb hX0 hI0 HCs
  generalize ((w.alloc (.cells #[.int .i64 op,.int .i64 a,.int .i64 b,.int .i32 n,.int .i64 f] 25)).alloc (.cells #[.int .i64 0,.int .i64 0,.int .u32 0] 92)).drewN nq = w1 at hC1 hX1 hI1 ⊢
  go_wp2_with (first
    | (go_at_call 66; refine (rtrap_any 3 _).mono ?_; rintro e w4 ⟨rfl,hb4⟩; have hX4 := hX1.below hb4 hX1.lt; have hC4 := hC1.below hb4)
    | ((with_reducible show wpList _ _ _ (Oper.mk none (Op.store _ (Operand.tmp 10) (Operand.tmp 87)) _ _ _ _ :: _) _ _); refine wpList_st3 hX4 rfl 92 (.tmp 10) (.tmp 87) (.int .i64 6) (.int .i64 3) (.int .u32 0) rfl (by kernel_rfl) (by kernel_rfl) (by simp [Value.oneCell']) (by kernel_rfl) ?_; rintro ⟨z0,z1,z2⟩)
    | fail)
  refine bodyPost_ret (v := .agg #[.int .i64 6,.int .i64 3,.int .u32 0]) (by simp [results,Tryd.results68,go_sem,z0,z1,z2]) rfl ⟨rfl,?_⟩
  exact RW.farCells (by omega) _ _ _ hC4
set_option maxRecDepth 20000 in
set_option maxHeartbeats 2000000 in
theorem rtwo_stm (op n f : Int) (a b : Nat) (M : Value) (from_ : Int) (y : Int) (q : Nat) (v : Value) (w : World) (g : Nat) (cells : List Value) (hB : Blk w g 89 cells) (ha : a < 8) (hb : b < 8) (hx : cells[a]? = some (.int .i32 q)) (hy : cells[b]? = some (.int .i32 y)) (hq : q < 256) (hv : cells[13 + q]? = some v) :
    Calls Tryd.prog 68 #[.pointer (some ⟨g,0,none⟩),.string ⟨#[115,116,109]⟩,.agg #[.int .i64 op,.int .i64 a,.int .i64 b,.int .i32 n,.int .i64 f],M,.int .i64 from_] w fun e w' => e = .returned (.agg #[.int .i64 0,.int .i64 0,.int .u32 0]) ∧ RW w g (cells.set (13 + q) (.int .i32 y)) w' := by
  have hg := hB.lt
  have hBb : (b : Int) < 8 := by omega
  have hAa : (a : Int) < 8 := by omega
  have HB := Lib.hid hB
  have qa : ((w.alloc (.cells #[.int .i64 op,.int .i64 a,.int .i64 b,.int .i32 n,.int .i64 f] 25)).alloc (.cells #[.int .i64 0,.int .i64 0,.int .u32 0] 92)).cell? ⟨g,a,none⟩ = some (.int .i32 q) := by
    rw [World.cell?_alloc_lt _ _ ⟨g,a,none⟩ (by simp; omega),World.cell?_alloc_lt _ _ ⟨g,a,none⟩ hg]; exact (hB.cell a).trans hx
  have qb : ((w.alloc (.cells #[.int .i64 op,.int .i64 a,.int .i64 b,.int .i32 n,.int .i64 f] 25)).alloc (.cells #[.int .i64 0,.int .i64 0,.int .u32 0] 92)).cell? ⟨g,b,none⟩ = some (.int .i32 y) := by
    rw [World.cell?_alloc_lt _ _ ⟨g,b,none⟩ (by simp; omega),World.cell?_alloc_lt _ _ ⟨g,b,none⟩ hg]; exact (hB.cell b).trans hy
  have hI0 : Blk ((w.alloc (.cells #[.int .i64 op,.int .i64 a,.int .i64 b,.int .i32 n,.int .i64 f] 25)).alloc (.cells #[.int .i64 0,.int .i64 0,.int .u32 0] 92)) w.heap.size 25 [.int .i64 op,.int .i64 a,.int .i64 b,.int .i32 n,.int .i64 f] := (Blk.new w 25 [.int .i64 op,.int .i64 a,.int .i64 b,.int .i32 n,.int .i64 f]).alloc _
  have hX0 : Blk ((w.alloc (.cells #[.int .i64 op,.int .i64 a,.int .i64 b,.int .i32 n,.int .i64 f] 25)).alloc (.cells #[.int .i64 0,.int .i64 0,.int .u32 0] 92)) (w.heap.size + 1) 92 [.int .i64 0,.int .i64 0,.int .u32 0] := by
    have := Blk.new (w.alloc (.cells #[.int .i64 op,.int .i64 a,.int .i64 b,.int .i32 n,.int .i64 f] 25)) 92 [.int .i64 0,.int .i64 0,.int .u32 0]
    rw [World.size_alloc] at this
    exact this
  have HCs : Hid (RW w g cells ((w.alloc (.cells #[.int .i64 op,.int .i64 a,.int .i64 b,.int .i32 n,.int .i64 f] 25)).alloc (.cells #[.int .i64 0,.int .i64 0,.int .u32 0] 92))) := Lib.hid (((RW.start hB).alloc _).alloc _)
  have Hx := Lib.hid hx
  have Hv := Lib.hid hv
  clear hB hx hy
  go_enter Tryd.func68,Tryd.ntmps68
  go_wp2_with fail
  go_quiet (fail)
  have hC1 := HCs.out.drewN nq
  have hX1 : Blk (((w.alloc (.cells #[.int .i64 op,.int .i64 a,.int .i64 b,.int .i32 n,.int .i64 f] 25)).alloc (.cells #[.int .i64 0,.int .i64 0,.int .u32 0] 92)).drewN nq) (w.heap.size + 1) 92 [.int .i64 0,.int .i64 0,.int .u32 0] := hX0
  have hI1 : Blk (((w.alloc (.cells #[.int .i64 op,.int .i64 a,.int .i64 b,.int .i32 n,.int .i64 f] 25)).alloc (.cells #[.int .i64 0,.int .i64 0,.int .u32 0] 92)).drewN nq) w.heap.size 25 [.int .i64 op,.int .i64 a,.int .i64 b,.int .i32 n,.int .i64 f] := hI0
  clear qa qb hX0 hI0 HCs
  generalize ((w.alloc (.cells #[.int .i64 op,.int .i64 a,.int .i64 b,.int .i32 n,.int .i64 f] 25)).alloc (.cells #[.int .i64 0,.int .i64 0,.int .u32 0] 92)).drewN nq = w1 at hC1 hX1 hI1 ⊢
  have hqm : (q : Int) % 4294967296 = q := by omega
  have hqI : ¬ (256 ≤ (q : Int)) := by omega
  have j1 := hI1.cell 1
  simp only [List.getElem?_cons_zero,List.getElem?_cons_succ] at j1
  have ca := (hC1.blk.cell a).trans Hx.out
  go_wp2_with fail
  go_quiet (fail)
  have hC3 := hC1.drewN nq
  go_wp2_with fail
  refine wp_region_swap (ops' := rtR31) (by kernel_rfl) (rt_r31 g w.heap.size a q y _ _ _ _ _ _ _ _ _ _ _ _ _ _ _ _ _ _ _ _ _ _ _ _ _ _ _ _ _ _ _ _ _ _ _ _ _ _ _ _ _ _ _ _ _ _ _ _ _ _ _ _ _ _ _ _ _ _ _ _ _ _ _ _ _ _ _ _ _ _ _ _ _ _ _ _ _ _ _ _ _ _ _ _ _ _ _ _ _ _ _ _ _ _ _ _ _ _ _ _ _ _ _ _ _ _ _ _ _ _ _ _ _ _ _ _ _ _ _ _ _ _ _ _ _ _ _ _ _ _ _ _ _ _ _ _ _ _ _ _ _ _ ha (hI1.cell 1) ((hC3.blk.cell a).trans Hx.out) hq v ((hC3.blk.cell (13 + q)).trans Hv.out) (hC3.blk.free _) ?_)
  intro Ua Ub Uc Ud Ue Uf Ug Uh Ui Uj Uk Ul kd
  have hC2 := (hC3.drewN kd).setReg (13 + q) (.int .i32 y)
  have hX2 : Blk ((((w1.drewN nq)).drewN kd).setCell ⟨g,13 + q,none⟩ (.int .i32 y)) (w.heap.size + 1) 92 [.int .i64 0,.int .i64 0,.int .u32 0] := Blk.other (show Blk ((w1.drewN nq).drewN kd) _ _ _ from hX1) (by show w.heap.size + 1 ≠ g; omega)
  generalize (((w1.drewN nq)).drewN kd).setCell ⟨g,13 + q,none⟩ (.int .i32 y) = w5 at hX2 hC2 ⊢
  go_wp2_with (first
    | ((with_reducible show wpList _ _ _ (Oper.mk none (Op.store _ (Operand.tmp 10) (Operand.tmp 125)) _ _ _ _ :: _) _ _); refine wpList_st3 hX2 rfl 92 (.tmp 10) (.tmp 125) (.int .i64 0) (.int .i64 0) (.int .u32 0) rfl (by kernel_rfl) (by kernel_rfl) (by simp [Value.oneCell']) (by kernel_rfl) ?_; rintro ⟨z0,z1,z2⟩)
    | fail)
  refine bodyPost_ret (v := .agg #[.int .i64 0,.int .i64 0,.int .u32 0]) (by simp [results,Tryd.results68,go_sem,z0,z1,z2]) rfl ⟨rfl,?_⟩
  exact RW.farCells (by omega) _ _ _ hC2
set_option maxRecDepth 20000 in
set_option maxHeartbeats 2000000 in
theorem rtwo_stm_no (op n f : Int) (a b : Nat) (M : Value) (from_ : Int) (x y m : Int) (w : World) (g : Nat) (cells : List Value) (hB : Blk w g 89 cells) (ha : a < 8) (hb : b < 8) (hx : cells[a]? = some (.int .i32 x)) (hy : cells[b]? = some (.int .i32 y)) (hm : x % 4294967296 = m) (hno : 256 ≤ m) (x0 : -2147483648 ≤ x) (x1 : x ≤ 2147483647) :
    Calls Tryd.prog 68 #[.pointer (some ⟨g,0,none⟩),.string ⟨#[115,116,109]⟩,.agg #[.int .i64 op,.int .i64 a,.int .i64 b,.int .i32 n,.int .i64 f],M,.int .i64 from_] w fun e w' => e = .returned (.agg #[.int .i64 6,.int .i64 3,.int .u32 0]) ∧ RW w g (cells) w' := by
  have hg := hB.lt
  have hBb : (b : Int) < 8 := by omega
  have hAa : (a : Int) < 8 := by omega
  have HB := Lib.hid hB
  have qa : ((w.alloc (.cells #[.int .i64 op,.int .i64 a,.int .i64 b,.int .i32 n,.int .i64 f] 25)).alloc (.cells #[.int .i64 0,.int .i64 0,.int .u32 0] 92)).cell? ⟨g,a,none⟩ = some (.int .i32 x) := by
    rw [World.cell?_alloc_lt _ _ ⟨g,a,none⟩ (by simp; omega),World.cell?_alloc_lt _ _ ⟨g,a,none⟩ hg]; exact (hB.cell a).trans hx
  have qb : ((w.alloc (.cells #[.int .i64 op,.int .i64 a,.int .i64 b,.int .i32 n,.int .i64 f] 25)).alloc (.cells #[.int .i64 0,.int .i64 0,.int .u32 0] 92)).cell? ⟨g,b,none⟩ = some (.int .i32 y) := by
    rw [World.cell?_alloc_lt _ _ ⟨g,b,none⟩ (by simp; omega),World.cell?_alloc_lt _ _ ⟨g,b,none⟩ hg]; exact (hB.cell b).trans hy
  have hI0 : Blk ((w.alloc (.cells #[.int .i64 op,.int .i64 a,.int .i64 b,.int .i32 n,.int .i64 f] 25)).alloc (.cells #[.int .i64 0,.int .i64 0,.int .u32 0] 92)) w.heap.size 25 [.int .i64 op,.int .i64 a,.int .i64 b,.int .i32 n,.int .i64 f] := (Blk.new w 25 [.int .i64 op,.int .i64 a,.int .i64 b,.int .i32 n,.int .i64 f]).alloc _
  have hX0 : Blk ((w.alloc (.cells #[.int .i64 op,.int .i64 a,.int .i64 b,.int .i32 n,.int .i64 f] 25)).alloc (.cells #[.int .i64 0,.int .i64 0,.int .u32 0] 92)) (w.heap.size + 1) 92 [.int .i64 0,.int .i64 0,.int .u32 0] := by
    have := Blk.new (w.alloc (.cells #[.int .i64 op,.int .i64 a,.int .i64 b,.int .i32 n,.int .i64 f] 25)) 92 [.int .i64 0,.int .i64 0,.int .u32 0]
    rw [World.size_alloc] at this
    exact this
  have HCs : Hid (RW w g cells ((w.alloc (.cells #[.int .i64 op,.int .i64 a,.int .i64 b,.int .i32 n,.int .i64 f] 25)).alloc (.cells #[.int .i64 0,.int .i64 0,.int .u32 0] 92))) := Lib.hid (((RW.start hB).alloc _).alloc _)
  have Hx := Lib.hid hx
  clear hB hx hy
  go_enter Tryd.func68,Tryd.ntmps68
  go_wp2_with fail
  go_quiet (fail)
  have hC1 := HCs.out.drewN nq
  have hX1 : Blk (((w.alloc (.cells #[.int .i64 op,.int .i64 a,.int .i64 b,.int .i32 n,.int .i64 f] 25)).alloc (.cells #[.int .i64 0,.int .i64 0,.int .u32 0] 92)).drewN nq) (w.heap.size + 1) 92 [.int .i64 0,.int .i64 0,.int .u32 0] := hX0
  have hI1 : Blk (((w.alloc (.cells #[.int .i64 op,.int .i64 a,.int .i64 b,.int .i32 n,.int .i64 f] 25)).alloc (.cells #[.int .i64 0,.int .i64 0,.int .u32 0] 92)).drewN nq) w.heap.size 25 [.int .i64 op,.int .i64 a,.int .i64 b,.int .i32 n,.int .i64 f] := hI0
  clear qa qb hX0 hI0 HCs
  generalize ((w.alloc (.cells #[.int .i64 op,.int .i64 a,.int .i64 b,.int .i32 n,.int .i64 f] 25)).alloc (.cells #[.int .i64 0,.int .i64 0,.int .u32 0] 92)).drewN nq = w1 at hC1 hX1 hI1 ⊢
  have j1 := hI1.cell 1
  simp only [List.getElem?_cons_zero,List.getElem?_cons_succ] at j1
  have ca := (hC1.blk.cell a).trans Hx.out
  go_wp2_with fail
  go_quiet (fail)
  have hC3 := hC1.drewN nq
  go_wp2_with (first
    | (go_at_call 66; refine (rtrap_any 3 _).mono ?_; rintro e w4 ⟨rfl,hb4⟩; have hX4 := (show Blk (w1.drewN nq) _ _ _ from hX1).below hb4 hX1.lt; have hC4 := hC3.below hb4)
    | ((with_reducible show wpList _ _ _ (Oper.mk none (Op.store _ (Operand.tmp 10) (Operand.tmp 112)) _ _ _ _ :: _) _ _); refine wpList_st3 hX4 rfl 92 (.tmp 10) (.tmp 112) (.int .i64 6) (.int .i64 3) (.int .u32 0) rfl (by kernel_rfl) (by kernel_rfl) (by simp [Value.oneCell']) (by kernel_rfl) ?_; rintro ⟨z0,z1,z2⟩)
    | fail)
  refine bodyPost_ret (v := .agg #[.int .i64 6,.int .i64 3,.int .u32 0]) (by simp [results,Tryd.results68,go_sem,z0,z1,z2]) rfl ⟨rfl,?_⟩
  exact RW.farCells (by omega) _ _ _ hC4
set_option maxRecDepth 20000 in
set_option maxHeartbeats 2000000 in
theorem rtwo_ldb_no (op n f : Int) (a b : Nat) (M : Value) (A : Option Addr) (m c : Nat) (from_ : Int) (x y : Int) (w : World) (g : Nat) (cells : List Value) (hB : Blk w g 89 cells) (ha : a < 8) (hb : b < 8) (hx : cells[a]? = some (.int .i32 x)) (hy : cells[b]? = some (.int .i32 y)) (hf0 : 0 ≤ from_) (hf1 : from_ ≤ 1048576) (hm : m ≤ 140737488355328) (y0 : -2147483648 ≤ y) (y1 : y ≤ 2147483647) (hM : M = .slice A m c) (hno : y % 4294967296 - from_ < 0 ∨ (m : Int) < y % 4294967296 - from_ + 1) :
    Calls Tryd.prog 68 #[.pointer (some ⟨g,0,none⟩),.string ⟨#[108,100,98]⟩,.agg #[.int .i64 op,.int .i64 a,.int .i64 b,.int .i32 n,.int .i64 f],M,.int .i64 from_] w fun e w' => e = .returned (.agg #[.int .i64 6,.int .i64 3,.int .u32 0]) ∧ RW w g (cells) w' := by
  have hg := hB.lt
  have hBb : (b : Int) < 8 := by omega
  have hAa : (a : Int) < 8 := by omega
  have HB := Lib.hid hB
  have qa : ((w.alloc (.cells #[.int .i64 op,.int .i64 a,.int .i64 b,.int .i32 n,.int .i64 f] 25)).alloc (.cells #[.int .i64 0,.int .i64 0,.int .u32 0] 92)).cell? ⟨g,a,none⟩ = some (.int .i32 x) := by
    rw [World.cell?_alloc_lt _ _ ⟨g,a,none⟩ (by simp; omega),World.cell?_alloc_lt _ _ ⟨g,a,none⟩ hg]; exact (hB.cell a).trans hx
  have qb : ((w.alloc (.cells #[.int .i64 op,.int .i64 a,.int .i64 b,.int .i32 n,.int .i64 f] 25)).alloc (.cells #[.int .i64 0,.int .i64 0,.int .u32 0] 92)).cell? ⟨g,b,none⟩ = some (.int .i32 y) := by
    rw [World.cell?_alloc_lt _ _ ⟨g,b,none⟩ (by simp; omega),World.cell?_alloc_lt _ _ ⟨g,b,none⟩ hg]; exact (hB.cell b).trans hy
  have hI0 : Blk ((w.alloc (.cells #[.int .i64 op,.int .i64 a,.int .i64 b,.int .i32 n,.int .i64 f] 25)).alloc (.cells #[.int .i64 0,.int .i64 0,.int .u32 0] 92)) w.heap.size 25 [.int .i64 op,.int .i64 a,.int .i64 b,.int .i32 n,.int .i64 f] := (Blk.new w 25 [.int .i64 op,.int .i64 a,.int .i64 b,.int .i32 n,.int .i64 f]).alloc _
  have hX0 : Blk ((w.alloc (.cells #[.int .i64 op,.int .i64 a,.int .i64 b,.int .i32 n,.int .i64 f] 25)).alloc (.cells #[.int .i64 0,.int .i64 0,.int .u32 0] 92)) (w.heap.size + 1) 92 [.int .i64 0,.int .i64 0,.int .u32 0] := by
    have := Blk.new (w.alloc (.cells #[.int .i64 op,.int .i64 a,.int .i64 b,.int .i32 n,.int .i64 f] 25)) 92 [.int .i64 0,.int .i64 0,.int .u32 0]
    rw [World.size_alloc] at this
    exact this
  have HCs : Hid (RW w g cells ((w.alloc (.cells #[.int .i64 op,.int .i64 a,.int .i64 b,.int .i32 n,.int .i64 f] 25)).alloc (.cells #[.int .i64 0,.int .i64 0,.int .u32 0] 92))) := Lib.hid (((RW.start hB).alloc _).alloc _)
  have Hx := Lib.hid hx
  subst hM
  clear hB hx hy
  go_enter Tryd.func68,Tryd.ntmps68
  go_wp2_with fail
  go_quiet (fail)
  have hC1 := HCs.out.drewN nq
  have hX1 : Blk (((w.alloc (.cells #[.int .i64 op,.int .i64 a,.int .i64 b,.int .i32 n,.int .i64 f] 25)).alloc (.cells #[.int .i64 0,.int .i64 0,.int .u32 0] 92)).drewN nq) (w.heap.size + 1) 92 [.int .i64 0,.int .i64 0,.int .u32 0] := hX0
  have hI1 : Blk (((w.alloc (.cells #[.int .i64 op,.int .i64 a,.int .i64 b,.int .i32 n,.int .i64 f] 25)).alloc (.cells #[.int .i64 0,.int .i64 0,.int .u32 0] 92)).drewN nq) w.heap.size 25 [.int .i64 op,.int .i64 a,.int .i64 b,.int .i32 n,.int .i64 f] := hI0
  clear qa qb hX0 hI0 HCs
  generalize ((w.alloc (.cells #[.int .i64 op,.int .i64 a,.int .i64 b,.int .i32 n,.int .i64 f] 25)).alloc (.cells #[.int .i64 0,.int .i64 0,.int .u32 0] 92)).drewN nq = w1 at hC1 hX1 hI1 ⊢
  have Hno := Lib.hid hno
  clear hno
  go_wp2_with (first
    | (go_at_call 86; refine (memory_no y 1 m c A from_ _ y0 y1 hf0 hf1 (by omega) (by omega) hm Hno.out).mono ?_; rintro e w3 ⟨rfl,rfl⟩)
    | (go_at_call 66; refine (rtrap_any 3 _).mono ?_; rintro e w4 ⟨rfl,hb4⟩; have hX4 := hX1.below hb4 hX1.lt; have hC4 := hC1.below hb4)
    | ((with_reducible show wpList _ _ _ (Oper.mk none (Op.store _ (Operand.tmp 10) (Operand.tmp 37)) _ _ _ _ :: _) _ _); refine wpList_st3 hX4 rfl 92 (.tmp 10) (.tmp 37) (.int .i64 6) (.int .i64 3) (.int .u32 0) rfl (by kernel_rfl) (by kernel_rfl) (by simp [Value.oneCell']) (by kernel_rfl) ?_; rintro ⟨z0,z1,z2⟩)
    | fail)
  refine bodyPost_ret (v := .agg #[.int .i64 6,.int .i64 3,.int .u32 0]) (by simp [results,Tryd.results68,go_sem,z0,z1,z2]) rfl ⟨rfl,?_⟩
  exact RW.farCells (by omega) _ _ _ hC4
set_option maxRecDepth 20000 in
set_option maxHeartbeats 2000000 in
theorem rtwo_ldb (op n f : Int) (a b : Nat) (M : Value) (A : Option Addr) (m c : Nat) (from_ : Int) (x y : Int) (at_ u : Nat) (w : World) (g : Nat) (cells : List Value) (hB : Blk w g 89 cells) (ha : a < 8) (hb : b < 8) (hx : cells[a]? = some (.int .i32 x)) (hy : cells[b]? = some (.int .i32 y)) (hf0 : 0 ≤ from_) (hf1 : from_ ≤ 1048576) (hm : m ≤ 140737488355328) (y0 : -2147483648 ≤ y) (y1 : y ≤ 2147483647) (hM : M = .slice A m c) (hat : y % 4294967296 - from_ = (at_ : Int)) (hl : at_ < m) (mb mo : Nat) (hAm : A = some ⟨mb,mo,none⟩) (hmb : mb < w.heap.size) (hmc : w.cell? ⟨mb,mo + at_,none⟩ = some (.int .u8 u)) (hu : u < 256) :
    Calls Tryd.prog 68 #[.pointer (some ⟨g,0,none⟩),.string ⟨#[108,100,98]⟩,.agg #[.int .i64 op,.int .i64 a,.int .i64 b,.int .i32 n,.int .i64 f],M,.int .i64 from_] w fun e w' => e = .returned (.agg #[.int .i64 0,.int .i64 0,.int .u32 0]) ∧ RW w g (cells.set a (.int .i32 u)) w' := by
  have hg := hB.lt
  have hBb : (b : Int) < 8 := by omega
  have hAa : (a : Int) < 8 := by omega
  have HB := Lib.hid hB
  have qa : ((w.alloc (.cells #[.int .i64 op,.int .i64 a,.int .i64 b,.int .i32 n,.int .i64 f] 25)).alloc (.cells #[.int .i64 0,.int .i64 0,.int .u32 0] 92)).cell? ⟨g,a,none⟩ = some (.int .i32 x) := by
    rw [World.cell?_alloc_lt _ _ ⟨g,a,none⟩ (by simp; omega),World.cell?_alloc_lt _ _ ⟨g,a,none⟩ hg]; exact (hB.cell a).trans hx
  have qb : ((w.alloc (.cells #[.int .i64 op,.int .i64 a,.int .i64 b,.int .i32 n,.int .i64 f] 25)).alloc (.cells #[.int .i64 0,.int .i64 0,.int .u32 0] 92)).cell? ⟨g,b,none⟩ = some (.int .i32 y) := by
    rw [World.cell?_alloc_lt _ _ ⟨g,b,none⟩ (by simp; omega),World.cell?_alloc_lt _ _ ⟨g,b,none⟩ hg]; exact (hB.cell b).trans hy
  have hI0 : Blk ((w.alloc (.cells #[.int .i64 op,.int .i64 a,.int .i64 b,.int .i32 n,.int .i64 f] 25)).alloc (.cells #[.int .i64 0,.int .i64 0,.int .u32 0] 92)) w.heap.size 25 [.int .i64 op,.int .i64 a,.int .i64 b,.int .i32 n,.int .i64 f] := (Blk.new w 25 [.int .i64 op,.int .i64 a,.int .i64 b,.int .i32 n,.int .i64 f]).alloc _
  have hX0 : Blk ((w.alloc (.cells #[.int .i64 op,.int .i64 a,.int .i64 b,.int .i32 n,.int .i64 f] 25)).alloc (.cells #[.int .i64 0,.int .i64 0,.int .u32 0] 92)) (w.heap.size + 1) 92 [.int .i64 0,.int .i64 0,.int .u32 0] := by
    have := Blk.new (w.alloc (.cells #[.int .i64 op,.int .i64 a,.int .i64 b,.int .i32 n,.int .i64 f] 25)) 92 [.int .i64 0,.int .i64 0,.int .u32 0]
    rw [World.size_alloc] at this
    exact this
  have HCs : Hid (RW w g cells ((w.alloc (.cells #[.int .i64 op,.int .i64 a,.int .i64 b,.int .i32 n,.int .i64 f] 25)).alloc (.cells #[.int .i64 0,.int .i64 0,.int .u32 0] 92))) := Lib.hid (((RW.start hB).alloc _).alloc _)
  have Hx := Lib.hid hx
  subst hM hAm
  have Hmc : Hid (((w.alloc (.cells #[.int .i64 op,.int .i64 a,.int .i64 b,.int .i32 n,.int .i64 f] 25)).alloc (.cells #[.int .i64 0,.int .i64 0,.int .u32 0] 92)).cell? ⟨mb,mo + at_,none⟩ = some (.int .u8 u)) := Lib.hid (by
    rw [World.cell?_alloc_lt _ _ ⟨mb,mo + at_,none⟩ (by simp; omega),World.cell?_alloc_lt _ _ ⟨mb,mo + at_,none⟩ hmb]; exact hmc)
  clear hmc
  clear hB hx hy
  go_enter Tryd.func68,Tryd.ntmps68
  go_wp2_with fail
  go_quiet (fail)
  have hC1 := HCs.out.drewN nq
  have hX1 : Blk (((w.alloc (.cells #[.int .i64 op,.int .i64 a,.int .i64 b,.int .i32 n,.int .i64 f] 25)).alloc (.cells #[.int .i64 0,.int .i64 0,.int .u32 0] 92)).drewN nq) (w.heap.size + 1) 92 [.int .i64 0,.int .i64 0,.int .u32 0] := hX0
  have hI1 : Blk (((w.alloc (.cells #[.int .i64 op,.int .i64 a,.int .i64 b,.int .i32 n,.int .i64 f] 25)).alloc (.cells #[.int .i64 0,.int .i64 0,.int .u32 0] 92)).drewN nq) w.heap.size 25 [.int .i64 op,.int .i64 a,.int .i64 b,.int .i32 n,.int .i64 f] := hI0
  have hmc1 := Hmc.out.trans rfl
  clear Hmc
  have hmc1 : (((w.alloc (.cells #[.int .i64 op,.int .i64 a,.int .i64 b,.int .i32 n,.int .i64 f] 25)).alloc (.cells #[.int .i64 0,.int .i64 0,.int .u32 0] 92)).drewN nq).cell? ⟨mb,mo + at_,none⟩ = some (.int .u8 u) := hmc1
  clear qa qb hX0 hI0 HCs
  generalize ((w.alloc (.cells #[.int .i64 op,.int .i64 a,.int .i64 b,.int .i32 n,.int .i64 f] 25)).alloc (.cells #[.int .i64 0,.int .i64 0,.int .u32 0] 92)).drewN nq = w1 at hC1 hX1 hI1 hmc1 ⊢
  have Hat := Lib.hid hat
  clear hat
  go_wp2_with (first
    | (go_at_call 86; refine (memory_yes y 1 m c at_ (some ⟨mb,mo,none⟩) from_ _ y0 y1 hf0 hf1 (by omega) hm Hat.out (by omega)).mono ?_; rintro e w3 ⟨rfl,rfl⟩)
    | fail)
  refine wp_region_swap (ops' := rtR10) (by kernel_rfl) (rt_r10 g w.heap.size a mb mo at_ m c u _ _ _ _ _ _ _ _ _ _ _ _ _ _ _ _ _ _ _ _ _ _ _ _ _ _ _ _ _ _ _ _ _ _ _ _ _ _ _ _ _ _ _ _ _ _ _ _ _ _ _ _ _ _ _ _ _ _ _ _ _ _ _ _ _ _ _ _ _ _ _ _ _ _ _ _ _ _ _ _ _ _ _ _ _ _ _ _ _ _ _ _ _ _ _ _ _ _ _ _ _ _ _ _ _ _ _ _ _ _ _ _ _ _ _ _ _ _ _ _ _ _ _ _ _ _ _ _ _ _ _ _ _ _ _ _ _ _ _ _ _ ha (hI1.cell 1) _ ((hC1.blk.cell a).trans Hx.out) (hC1.blk.free _) hmc1 hu hl ?_)
  intro UC UD UE UF UG UH UI UJ UK UL UM kd
  have hC2 := (hC1.drewN kd).setReg a (.int .i32 u)
  have hX2 : Blk ((w1.drewN kd).setCell ⟨g,a,none⟩ (.int .i32 u)) (w.heap.size + 1) 92 [.int .i64 0,.int .i64 0,.int .u32 0] := Blk.other (show Blk (w1.drewN kd) _ _ _ from hX1) (by show w.heap.size + 1 ≠ g; omega)
  generalize (w1.drewN kd).setCell ⟨g,a,none⟩ (.int .i32 u) = w5 at hX2 hC2 ⊢
  go_wp2_with (first
    | ((with_reducible show wpList _ _ _ (Oper.mk none (Op.store _ (Operand.tmp 10) (Operand.tmp 49)) _ _ _ _ :: _) _ _); refine wpList_st3 hX2 rfl 92 (.tmp 10) (.tmp 49) (.int .i64 0) (.int .i64 0) (.int .u32 0) rfl (by kernel_rfl) (by kernel_rfl) (by simp [Value.oneCell']) (by kernel_rfl) ?_; rintro ⟨z0,z1,z2⟩)
    | fail)
  refine bodyPost_ret (v := .agg #[.int .i64 0,.int .i64 0,.int .u32 0]) (by simp [results,Tryd.results68,go_sem,z0,z1,z2]) rfl ⟨rfl,?_⟩
  exact RW.farCells (by omega) _ _ _ hC2
set_option maxRecDepth 20000 in
set_option maxHeartbeats 2000000 in
theorem rtwo_ldw_no (op n f : Int) (a b : Nat) (M : Value) (A : Option Addr) (m c : Nat) (from_ : Int) (x y : Int) (w : World) (g : Nat) (cells : List Value) (hB : Blk w g 89 cells) (ha : a < 8) (hb : b < 8) (hx : cells[a]? = some (.int .i32 x)) (hy : cells[b]? = some (.int .i32 y)) (hf0 : 0 ≤ from_) (hf1 : from_ ≤ 1048576) (hm : m ≤ 140737488355328) (y0 : -2147483648 ≤ y) (y1 : y ≤ 2147483647) (hM : M = .slice A m c) (hno : y % 4294967296 - from_ < 0 ∨ (m : Int) < y % 4294967296 - from_ + 4) :
    Calls Tryd.prog 68 #[.pointer (some ⟨g,0,none⟩),.string ⟨#[108,100,119]⟩,.agg #[.int .i64 op,.int .i64 a,.int .i64 b,.int .i32 n,.int .i64 f],M,.int .i64 from_] w fun e w' => e = .returned (.agg #[.int .i64 6,.int .i64 3,.int .u32 0]) ∧ RW w g (cells) w' := by
  have hg := hB.lt
  have hBb : (b : Int) < 8 := by omega
  have hAa : (a : Int) < 8 := by omega
  have HB := Lib.hid hB
  have qa : ((w.alloc (.cells #[.int .i64 op,.int .i64 a,.int .i64 b,.int .i32 n,.int .i64 f] 25)).alloc (.cells #[.int .i64 0,.int .i64 0,.int .u32 0] 92)).cell? ⟨g,a,none⟩ = some (.int .i32 x) := by
    rw [World.cell?_alloc_lt _ _ ⟨g,a,none⟩ (by simp; omega),World.cell?_alloc_lt _ _ ⟨g,a,none⟩ hg]; exact (hB.cell a).trans hx
  have qb : ((w.alloc (.cells #[.int .i64 op,.int .i64 a,.int .i64 b,.int .i32 n,.int .i64 f] 25)).alloc (.cells #[.int .i64 0,.int .i64 0,.int .u32 0] 92)).cell? ⟨g,b,none⟩ = some (.int .i32 y) := by
    rw [World.cell?_alloc_lt _ _ ⟨g,b,none⟩ (by simp; omega),World.cell?_alloc_lt _ _ ⟨g,b,none⟩ hg]; exact (hB.cell b).trans hy
  have hI0 : Blk ((w.alloc (.cells #[.int .i64 op,.int .i64 a,.int .i64 b,.int .i32 n,.int .i64 f] 25)).alloc (.cells #[.int .i64 0,.int .i64 0,.int .u32 0] 92)) w.heap.size 25 [.int .i64 op,.int .i64 a,.int .i64 b,.int .i32 n,.int .i64 f] := (Blk.new w 25 [.int .i64 op,.int .i64 a,.int .i64 b,.int .i32 n,.int .i64 f]).alloc _
  have hX0 : Blk ((w.alloc (.cells #[.int .i64 op,.int .i64 a,.int .i64 b,.int .i32 n,.int .i64 f] 25)).alloc (.cells #[.int .i64 0,.int .i64 0,.int .u32 0] 92)) (w.heap.size + 1) 92 [.int .i64 0,.int .i64 0,.int .u32 0] := by
    have := Blk.new (w.alloc (.cells #[.int .i64 op,.int .i64 a,.int .i64 b,.int .i32 n,.int .i64 f] 25)) 92 [.int .i64 0,.int .i64 0,.int .u32 0]
    rw [World.size_alloc] at this
    exact this
  have HCs : Hid (RW w g cells ((w.alloc (.cells #[.int .i64 op,.int .i64 a,.int .i64 b,.int .i32 n,.int .i64 f] 25)).alloc (.cells #[.int .i64 0,.int .i64 0,.int .u32 0] 92))) := Lib.hid (((RW.start hB).alloc _).alloc _)
  have Hx := Lib.hid hx
  subst hM
  clear hB hx hy
  go_enter Tryd.func68,Tryd.ntmps68
  go_wp2_with fail
  go_quiet (fail)
  have hC1 := HCs.out.drewN nq
  have hX1 : Blk (((w.alloc (.cells #[.int .i64 op,.int .i64 a,.int .i64 b,.int .i32 n,.int .i64 f] 25)).alloc (.cells #[.int .i64 0,.int .i64 0,.int .u32 0] 92)).drewN nq) (w.heap.size + 1) 92 [.int .i64 0,.int .i64 0,.int .u32 0] := hX0
  have hI1 : Blk (((w.alloc (.cells #[.int .i64 op,.int .i64 a,.int .i64 b,.int .i32 n,.int .i64 f] 25)).alloc (.cells #[.int .i64 0,.int .i64 0,.int .u32 0] 92)).drewN nq) w.heap.size 25 [.int .i64 op,.int .i64 a,.int .i64 b,.int .i32 n,.int .i64 f] := hI0
  clear qa qb hX0 hI0 HCs
  generalize ((w.alloc (.cells #[.int .i64 op,.int .i64 a,.int .i64 b,.int .i32 n,.int .i64 f] 25)).alloc (.cells #[.int .i64 0,.int .i64 0,.int .u32 0] 92)).drewN nq = w1 at hC1 hX1 hI1 ⊢
  have Hno := Lib.hid hno
  clear hno
  go_wp2_with (first
    | (go_at_call 86; refine (memory_no y 4 m c A from_ _ y0 y1 hf0 hf1 (by omega) (by omega) hm Hno.out).mono ?_; rintro e w3 ⟨rfl,rfl⟩)
    | (go_at_call 66; refine (rtrap_any 3 _).mono ?_; rintro e w4 ⟨rfl,hb4⟩; have hX4 := hX1.below hb4 hX1.lt; have hC4 := hC1.below hb4)
    | ((with_reducible show wpList _ _ _ (Oper.mk none (Op.store _ (Operand.tmp 10) (Operand.tmp 58)) _ _ _ _ :: _) _ _); refine wpList_st3 hX4 rfl 92 (.tmp 10) (.tmp 58) (.int .i64 6) (.int .i64 3) (.int .u32 0) rfl (by kernel_rfl) (by kernel_rfl) (by simp [Value.oneCell']) (by kernel_rfl) ?_; rintro ⟨z0,z1,z2⟩)
    | fail)
  refine bodyPost_ret (v := .agg #[.int .i64 6,.int .i64 3,.int .u32 0]) (by simp [results,Tryd.results68,go_sem,z0,z1,z2]) rfl ⟨rfl,?_⟩
  exact RW.farCells (by omega) _ _ _ hC4
end Go.Proofs.YthcjnkakfpmpbaaDoor
