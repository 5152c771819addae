import Derived.Test.YthcjnkakfpmpbaaDoorQ6
import Derived.Test.YthcjnkakfpmpbaaDoorQ12
import Derived.BigQuiet
namespace Go.Proofs.YthcjnkakfpmpbaaDoor
open Go.RowKit
set_option linter.unusedVariables false
set_option linter.unusedSimpArgs false
theorem wpList_fop {P : Program} {w : World} {ops : Array Oper} {rest : List Oper} {o : Oper} {a : Act} {Q : Exit → Act → World → Prop} (hgd : o.guard = none) (op : BinOp) (hop : op = .add ∨ op = .sub ∨ op = .mul) (t t' : TypeId) (x y : Operand) (p q : Nat)
    (ho : o.op = .binOp op t x y t') (hx : a.eval x = .float .f64 p) (hy : a.eval y = .float .f64 q) (h : ∀ r k,FR op p q r → wpList P ops Q rest (a.put o.dst (.float .f64 r)) (w.drewN k)) : wpList P ops Q (o :: rest) a w :=
  wpList_plain hgd fun K hK => by
    obtain ⟨k,hk⟩ := fwld_drewN op p q w
    have he : ∀ u v,(eqGuard op t x y u v).run P w = .ok () w := fun u v => by rcases hop with rfl | rfl | rfl <;> rfl
    unfold Oper.wp execOp
    simp only [ho,Sem.run_bind,Sem.run_pure,Result.andThen_ok,hx,hy,he,run_fop w op hop]
    rw [hk]
    exact hK _ _ (h _ k (fres_FR op p q w))
set_option maxRecDepth 20000 in
set_option maxHeartbeats 2000000 in
theorem rz_zturn (op n f : Int) (a b : Nat) (p q : Nat) (w : World) (g : Nat) (cells : List Value) (hB : Blk w g 89 cells) (ha : a < 4) (hz : cells[8 + a]? = some (.complex .f64 p q)) :
    Calls Tryd.prog 69 #[.pointer (some ⟨g,0,none⟩),.string ⟨#[122,116,117,114,110]⟩,.agg #[.int .i64 op,.int .i64 a,.int .i64 b,.int .i32 n,.int .i64 f]] w fun e w' => e = .returned (.agg #[.int .i64 0,.int .i64 0,.int .u32 0]) ∧ RW w g (cells.set (8 + a) (.complex .f64 (Op.negFloat .f64 q) p)) w' := by
  have hg := hB.lt
  have HB := Lib.hid hB
  have hI0 : Blk ((w.alloc (.cells #[.int .i64 op,.int .i64 a,.int .i64 b,.int .i32 n,.int .i64 f] 25)).alloc (.cells #[.int .i64 0,.int .i64 0,.int .u32 0] 92)) w.heap.size 25 [.int .i64 op,.int .i64 a,.int .i64 b,.int .i32 n,.int .i64 f] := (Blk.new w 25 [.int .i64 op,.int .i64 a,.int .i64 b,.int .i32 n,.int .i64 f]).alloc _
  have hX0 : Blk ((w.alloc (.cells #[.int .i64 op,.int .i64 a,.int .i64 b,.int .i32 n,.int .i64 f] 25)).alloc (.cells #[.int .i64 0,.int .i64 0,.int .u32 0] 92)) (w.heap.size + 1) 92 [.int .i64 0,.int .i64 0,.int .u32 0] := by
    have := Blk.new (w.alloc (.cells #[.int .i64 op,.int .i64 a,.int .i64 b,.int .i32 n,.int .i64 f] 25)) 92 [.int .i64 0,.int .i64 0,.int .u32 0]
    rw [World.size_alloc] at this
    exact this
  have hC0 : RW w g cells ((w.alloc (.cells #[.int .i64 op,.int .i64 a,.int .i64 b,.int .i32 n,.int .i64 f] 25)).alloc (.cells #[.int .i64 0,.int .i64 0,.int .u32 0] 92)) := ((RW.start hB).alloc _).alloc _
  clear hB
  go_enter Tryd.func69,Tryd.ntmps69
  go_wp2_with fail
  generalize ((w.alloc (.cells #[.int .i64 op,.int .i64 a,.int .i64 b,.int .i32 n,.int .i64 f] 25)).alloc (.cells #[.int .i64 0,.int .i64 0,.int .u32 0] 92)) = w1 at hI0 hX0 hC0 ⊢
  refine wp_region_swap (ops' := rzR3) (by kernel_rfl) (rz_r3 g w.heap.size a p q _ _ _ _ _ _ _ _ _ _ _ _ _ _ _ _ _ _ _ _ _ _ _ _ _ _ _ _ _ _ _ _ _ _ _ _ _ _ _ _ _ _ _ _ _ _ _ _ _ _ _ _ _ _ _ _ _ _ _ _ _ _ _ _ _ _ _ _ _ _ _ _ _ _ _ _ _ _ _ _ _ _ _ _ _ _ _ _ _ _ _ _ _ _ _ _ _ _ _ _ _ _ _ _ _ _ _ _ _ _ _ _ _ _ _ _ _ _ _ _ _ _ _ _ _ _ _ _ _ _ _ _ _ _ _ _ _ _ _ _ _ _ _ _ _ _ _ _ _ _ _ _ _ _ _ _ _ _ _ _ _ _ _ _ _ _ _ _ _ _ _ _ _ _ _ _ _ _ _ _ _ _ _ _ _ _ _ _ _ _ _ _ _ _ _ _ _ _ _ _ _ _ _ _ _ _ _ _ _ _ _ _ _ _ _ _ _ _ _ _ _ _ _ _ _ _ _ _ _ _ _ _ _ _ _ _ _ _ _ _ _ _ _ _ _ _ _ _ _ _ _ _ _ _ _ _ _ _ _ _ _ _ _ _ _ _ _ _ _ _ _ _ _ _ _ _ _ ha (hI0.cell 1) ((hC0.blk.cell (8 + a)).trans hz) (hC0.blk.free _) ?_)
  intro Ye Yf Yg Yh Ym Yv YG YR YS YT YV Y2 Y3 Y4 Y5 Y6 Y7 Y8 Y9 Za Zb Zc Zd Ze kd 
  have hC2 := (hC0.drewN kd).setReg (8 + a) (.complex .f64 (Op.negFloat .f64 q) p)
  have hX2 : Blk ((w1.drewN kd).setCell ⟨g,8 + a,none⟩ (.complex .f64 (Op.negFloat .f64 q) p)) (w.heap.size + 1) 92 [.int .i64 0,.int .i64 0,.int .u32 0] := Blk.other (show Blk (w1.drewN kd) _ _ _ from hX0) (by show w.heap.size + 1 ≠ g; omega)
  generalize (w1.drewN kd).setCell ⟨g,8 + a,none⟩ (.complex .f64 (Op.negFloat .f64 q) p) = w5 at hX2 hC2 ⊢
  go_wp2_with (first
    | ((with_reducible show wpList _ _ _ (Oper.mk none (Op.store _ (Operand.tmp 6) (Operand.tmp 276)) _ _ _ _ :: _) _ _); refine wpList_st3 hX2 rfl 92 (.tmp 6) (.tmp 276) (.int .i64 0) (.int .i64 0) (.int .u32 0) rfl (by kernel_rfl) (by kernel_rfl) (by simp [Value.oneCell']) (by kernel_rfl) ?_; rintro ⟨z0,z1,z2⟩)
    | fail)
  refine bodyPost_ret (v := .agg #[.int .i64 0,.int .i64 0,.int .u32 0]) (by simp [results,Tryd.results69,go_sem,z0,z1,z2]) rfl ⟨rfl,RW.farCells (by omega) _ _ _ hC2⟩
set_option maxRecDepth 20000 in
set_option maxHeartbeats 2000000 in
theorem rz_zconj (op n f : Int) (a b : Nat) (p q : Nat) (w : World) (g : Nat) (cells : List Value) (hB : Blk w g 89 cells) (ha : a < 4) (hz : cells[8 + a]? = some (.complex .f64 p q)) :
    Calls Tryd.prog 69 #[.pointer (some ⟨g,0,none⟩),.string ⟨#[122,99,111,110,106]⟩,.agg #[.int .i64 op,.int .i64 a,.int .i64 b,.int .i32 n,.int .i64 f]] w fun e w' => e = .returned (.agg #[.int .i64 0,.int .i64 0,.int .u32 0]) ∧ RW w g (cells.set (8 + a) (.complex .f64 p (Op.negFloat .f64 q))) w' := by
  have hg := hB.lt
  have HB := Lib.hid hB
  have hI0 : Blk ((w.alloc (.cells #[.int .i64 op,.int .i64 a,.int .i64 b,.int .i32 n,.int .i64 f] 25)).alloc (.cells #[.int .i64 0,.int .i64 0,.int .u32 0] 92)) w.heap.size 25 [.int .i64 op,.int .i64 a,.int .i64 b,.int .i32 n,.int .i64 f] := (Blk.new w 25 [.int .i64 op,.int .i64 a,.int .i64 b,.int .i32 n,.int .i64 f]).alloc _
  have hX0 : Blk ((w.alloc (.cells #[.int .i64 op,.int .i64 a,.int .i64 b,.int .i32 n,.int .i64 f] 25)).alloc (.cells #[.int .i64 0,.int .i64 0,.int .u32 0] 92)) (w.heap.size + 1) 92 [.int .i64 0,.int .i64 0,.int .u32 0] := by
    have := Blk.new (w.alloc (.cells #[.int .i64 op,.int .i64 a,.int .i64 b,.int .i32 n,.int .i64 f] 25)) 92 [.int .i64 0,.int .i64 0,.int .u32 0]
    rw [World.size_alloc] at this
    exact this
  have hC0 : RW w g cells ((w.alloc (.cells #[.int .i64 op,.int .i64 a,.int .i64 b,.int .i32 n,.int .i64 f] 25)).alloc (.cells #[.int .i64 0,.int .i64 0,.int .u32 0] 92)) := ((RW.start hB).alloc _).alloc _
  clear hB
  go_enter Tryd.func69,Tryd.ntmps69
  go_wp2_with fail
  generalize ((w.alloc (.cells #[.int .i64 op,.int .i64 a,.int .i64 b,.int .i32 n,.int .i64 f] 25)).alloc (.cells #[.int .i64 0,.int .i64 0,.int .u32 0] 92)) = w1 at hI0 hX0 hC0 ⊢
  refine wp_region_swap (ops' := rzR5) (by kernel_rfl) (rz_r5 g w.heap.size a p q _ _ _ _ _ _ _ _ _ _ _ _ _ _ _ _ _ _ _ _ _ _ _ _ _ _ _ _ _ _ _ _ _ _ _ _ _ _ _ _ _ _ _ _ _ _ _ _ _ _ _ _ _ _ _ _ _ _ _ _ _ _ _ _ _ _ _ _ _ _ _ _ _ _ _ _ _ _ _ _ _ _ _ _ _ _ _ _ _ _ _ _ _ _ _ _ _ _ _ _ _ _ _ _ _ _ _ _ _ _ _ _ _ _ _ _ _ _ _ _ _ _ _ _ _ _ _ _ _ _ _ _ _ _ _ _ _ _ _ _ _ _ _ _ _ _ _ _ _ _ _ _ _ _ _ _ _ _ _ _ _ _ _ _ _ _ _ _ _ _ _ _ _ _ _ _ _ _ _ _ _ _ _ _ _ _ _ _ _ _ _ _ _ _ _ _ _ _ _ _ _ _ _ _ _ _ _ _ _ _ _ _ _ _ _ _ _ _ _ _ _ _ _ _ _ _ _ _ _ _ _ _ _ _ _ _ _ _ _ _ _ _ _ _ _ _ _ _ _ _ _ _ _ _ _ _ _ _ _ _ _ _ _ _ _ _ _ _ _ _ _ _ _ _ _ _ _ ha (hI0.cell 1) ((hC0.blk.cell (8 + a)).trans hz) (hC0.blk.free _) ?_)
  intro Zf Zg Zh Zi Zj Zk Zl Zm Zn Zo Zp Zq Zr Zs Zt Zu Zv Zw Zx Zy Zz ZA ZB ZC kd 
  have hC2 := (hC0.drewN kd).setReg (8 + a) (.complex .f64 p (Op.negFloat .f64 q))
  have hX2 : Blk ((w1.drewN kd).setCell ⟨g,8 + a,none⟩ (.complex .f64 p (Op.negFloat .f64 q))) (w.heap.size + 1) 92 [.int .i64 0,.int .i64 0,.int .u32 0] := Blk.other (show Blk (w1.drewN kd) _ _ _ from hX0) (by show w.heap.size + 1 ≠ g; omega)
  generalize (w1.drewN kd).setCell ⟨g,8 + a,none⟩ (.complex .f64 p (Op.negFloat .f64 q)) = w5 at hX2 hC2 ⊢
  go_wp2_with (first
    | ((with_reducible show wpList _ _ _ (Oper.mk none (Op.store _ (Operand.tmp 6) (Operand.tmp 276)) _ _ _ _ :: _) _ _); refine wpList_st3 hX2 rfl 92 (.tmp 6) (.tmp 276) (.int .i64 0) (.int .i64 0) (.int .u32 0) rfl (by kernel_rfl) (by kernel_rfl) (by simp [Value.oneCell']) (by kernel_rfl) ?_; rintro ⟨z0,z1,z2⟩)
    | fail)
  refine bodyPost_ret (v := .agg #[.int .i64 0,.int .i64 0,.int .u32 0]) (by simp [results,Tryd.results69,go_sem,z0,z1,z2]) rfl ⟨rfl,RW.farCells (by omega) _ _ _ hC2⟩
set_option maxRecDepth 20000 in
set_option maxHeartbeats 2000000 in
theorem rz_zmov (op n f : Int) (a b : Nat) (p q s t : Nat) (w : World) (g : Nat) (cells : List Value) (hB : Blk w g 89 cells) (ha : a < 4) (hz : cells[8 + a]? = some (.complex .f64 p q)) (hb : b < 4) (hz2 : cells[8 + b]? = some (.complex .f64 s t)) :
    Calls Tryd.prog 69 #[.pointer (some ⟨g,0,none⟩),.string ⟨#[122,109,111,118]⟩,.agg #[.int .i64 op,.int .i64 a,.int .i64 b,.int .i32 n,.int .i64 f]] w fun e w' => e = .returned (.agg #[.int .i64 0,.int .i64 0,.int .u32 0]) ∧ RW w g (cells.set (8 + a) (.complex .f64 s t)) w' := by
  have hg := hB.lt
  have HB := Lib.hid hB
  have hI0 : Blk ((w.alloc (.cells #[.int .i64 op,.int .i64 a,.int .i64 b,.int .i32 n,.int .i64 f] 25)).alloc (.cells #[.int .i64 0,.int .i64 0,.int .u32 0] 92)) w.heap.size 25 [.int .i64 op,.int .i64 a,.int .i64 b,.int .i32 n,.int .i64 f] := (Blk.new w 25 [.int .i64 op,.int .i64 a,.int .i64 b,.int .i32 n,.int .i64 f]).alloc _
  have hX0 : Blk ((w.alloc (.cells #[.int .i64 op,.int .i64 a,.int .i64 b,.int .i32 n,.int .i64 f] 25)).alloc (.cells #[.int .i64 0,.int .i64 0,.int .u32 0] 92)) (w.heap.size + 1) 92 [.int .i64 0,.int .i64 0,.int .u32 0] := by
    have := Blk.new (w.alloc (.cells #[.int .i64 op,.int .i64 a,.int .i64 b,.int .i32 n,.int .i64 f] 25)) 92 [.int .i64 0,.int .i64 0,.int .u32 0]
    rw [World.size_alloc] at this
    exact this
  have hC0 : RW w g cells ((w.alloc (.cells #[.int .i64 op,.int .i64 a,.int .i64 b,.int .i32 n,.int .i64 f] 25)).alloc (.cells #[.int .i64 0,.int .i64 0,.int .u32 0] 92)) := ((RW.start hB).alloc _).alloc _
  clear hB
  go_enter Tryd.func69,Tryd.ntmps69
  go_wp2_with fail
  generalize ((w.alloc (.cells #[.int .i64 op,.int .i64 a,.int .i64 b,.int .i32 n,.int .i64 f] 25)).alloc (.cells #[.int .i64 0,.int .i64 0,.int .u32 0] 92)) = w1 at hI0 hX0 hC0 ⊢
  refine wp_region_swap (ops' := rzR7) (by kernel_rfl) (rz_r7 g w.heap.size a b p q s t _ _ _ _ _ _ _ _ _ _ _ _ _ _ _ _ _ _ _ _ _ _ _ _ _ _ _ _ _ _ _ _ _ _ _ _ _ _ _ _ _ _ _ _ _ _ _ _ _ _ _ _ _ _ _ _ _ _ _ _ _ _ _ _ _ _ _ _ _ _ _ _ _ _ _ _ _ _ _ _ _ _ _ _ _ _ _ _ _ _ _ _ _ _ _ _ _ _ _ _ _ _ _ _ _ _ _ _ _ _ _ _ _ _ _ _ _ _ _ _ _ _ _ _ _ _ _ _ _ _ _ _ _ _ _ _ _ _ _ _ _ _ _ _ _ _ _ _ _ _ _ _ _ _ _ _ _ _ _ _ _ _ _ _ _ _ _ _ _ _ _ _ _ _ _ _ _ _ _ _ _ _ _ _ _ _ _ _ _ _ _ _ _ _ _ _ _ _ _ _ _ _ _ _ _ _ _ _ _ _ _ _ _ _ _ _ _ _ _ _ _ _ _ _ _ _ _ _ _ _ _ _ _ _ _ _ _ _ _ _ _ _ _ _ _ _ _ _ _ _ _ _ _ _ _ _ _ _ _ _ _ _ _ _ _ _ _ _ _ _ _ _ _ _ _ _ _ ha (hI0.cell 1) ((hC0.blk.cell (8 + a)).trans hz) (hC0.blk.free _) hb (hI0.cell 2) ((hC0.blk.cell (8 + b)).trans hz2) ?_)
  intro ZD ZE ZF ZG ZH ZI ZJ ZK ZL ZM ZN ZO ZP kd 
  have hC2 := (hC0.drewN kd).setReg (8 + a) (.complex .f64 s t)
  have hX2 : Blk ((w1.drewN kd).setCell ⟨g,8 + a,none⟩ (.complex .f64 s t)) (w.heap.size + 1) 92 [.int .i64 0,.int .i64 0,.int .u32 0] := Blk.other (show Blk (w1.drewN kd) _ _ _ from hX0) (by show w.heap.size + 1 ≠ g; omega)
  generalize (w1.drewN kd).setCell ⟨g,8 + a,none⟩ (.complex .f64 s t) = w5 at hX2 hC2 ⊢
  go_wp2_with (first
    | ((with_reducible show wpList _ _ _ (Oper.mk none (Op.store _ (Operand.tmp 6) (Operand.tmp 276)) _ _ _ _ :: _) _ _); refine wpList_st3 hX2 rfl 92 (.tmp 6) (.tmp 276) (.int .i64 0) (.int .i64 0) (.int .u32 0) rfl (by kernel_rfl) (by kernel_rfl) (by simp [Value.oneCell']) (by kernel_rfl) ?_; rintro ⟨z0,z1,z2⟩)
    | fail)
  refine bodyPost_ret (v := .agg #[.int .i64 0,.int .i64 0,.int .u32 0]) (by simp [results,Tryd.results69,go_sem,z0,z1,z2]) rfl ⟨rfl,RW.farCells (by omega) _ _ _ hC2⟩
set_option maxRecDepth 20000 in
set_option maxHeartbeats 2000000 in
theorem rz_zadd (op n f : Int) (a b : Nat) (p q s t : Nat) (w : World) (g : Nat) (cells : List Value) (hB : Blk w g 89 cells) (ha : a < 4) (hz : cells[8 + a]? = some (.complex .f64 p q)) (hb : b < 4) (hz2 : cells[8 + b]? = some (.complex .f64 s t)) :
    Calls Tryd.prog 69 #[.pointer (some ⟨g,0,none⟩),.string ⟨#[122,97,100,100]⟩,.agg #[.int .i64 op,.int .i64 a,.int .i64 b,.int .i32 n,.int .i64 f]] w fun e w' => e = .returned (.agg #[.int .i64 0,.int .i64 0,.int .u32 0]) ∧ ∃ re im : Nat,FR .add p s re ∧ FR .add q t im ∧ RW w g (cells.set (8 + a) (.complex .f64 re im)) w' := by
  have hg := hB.lt
  have HB := Lib.hid hB
  have hI0 : Blk ((w.alloc (.cells #[.int .i64 op,.int .i64 a,.int .i64 b,.int .i32 n,.int .i64 f] 25)).alloc (.cells #[.int .i64 0,.int .i64 0,.int .u32 0] 92)) w.heap.size 25 [.int .i64 op,.int .i64 a,.int .i64 b,.int .i32 n,.int .i64 f] := (Blk.new w 25 [.int .i64 op,.int .i64 a,.int .i64 b,.int .i32 n,.int .i64 f]).alloc _
  have hX0 : Blk ((w.alloc (.cells #[.int .i64 op,.int .i64 a,.int .i64 b,.int .i32 n,.int .i64 f] 25)).alloc (.cells #[.int .i64 0,.int .i64 0,.int .u32 0] 92)) (w.heap.size + 1) 92 [.int .i64 0,.int .i64 0,.int .u32 0] := by
    have := Blk.new (w.alloc (.cells #[.int .i64 op,.int .i64 a,.int .i64 b,.int .i32 n,.int .i64 f] 25)) 92 [.int .i64 0,.int .i64 0,.int .u32 0]
    rw [World.size_alloc] at this
    exact this
  have hC0 : RW w g cells ((w.alloc (.cells #[.int .i64 op,.int .i64 a,.int .i64 b,.int .i32 n,.int .i64 f] 25)).alloc (.cells #[.int .i64 0,.int .i64 0,.int .u32 0] 92)) := ((RW.start hB).alloc _).alloc _
  clear hB
  go_enter Tryd.func69,Tryd.ntmps69
  go_wp2_with fail
  generalize ((w.alloc (.cells #[.int .i64 op,.int .i64 a,.int .i64 b,.int .i32 n,.int .i64 f] 25)).alloc (.cells #[.int .i64 0,.int .i64 0,.int .u32 0] 92)) = w1 at hI0 hX0 hC0 ⊢
  refine wp_region_swap (ops' := rzR9) (by kernel_rfl) (rz_r9 g w.heap.size a b p q s t _ _ _ _ _ _ _ _ _ _ _ _ _ _ _ _ _ _ _ _ _ _ _ _ _ _ _ _ _ _ _ _ _ _ _ _ _ _ _ _ _ _ _ _ _ _ _ _ _ _ _ _ _ _ _ _ _ _ _ _ _ _ _ _ _ _ _ _ _ _ _ _ _ _ _ _ _ _ _ _ _ _ _ _ _ _ _ _ _ _ _ _ _ _ _ _ _ _ _ _ _ _ _ _ _ _ _ _ _ _ _ _ _ _ _ _ _ _ _ _ _ _ _ _ _ _ _ _ _ _ _ _ _ _ _ _ _ _ _ _ _ _ _ _ _ _ _ _ _ _ _ _ _ _ _ _ _ _ _ _ _ _ _ _ _ _ _ _ _ _ _ _ _ _ _ _ _ _ _ _ _ _ _ _ _ _ _ _ _ _ _ _ _ _ _ _ _ _ _ _ _ _ _ _ _ _ _ _ _ _ _ _ _ _ _ _ _ _ _ _ _ _ _ _ _ _ _ _ _ _ _ _ _ _ _ _ _ _ _ _ _ _ _ _ _ _ _ _ _ _ _ _ _ _ _ _ _ _ _ _ _ _ _ _ _ _ _ _ _ _ _ _ _ _ _ _ _ ha (hI0.cell 1) ((hC0.blk.cell (8 + a)).trans hz) (hC0.blk.free _) hb (hI0.cell 2) ((hC0.blk.cell (8 + b)).trans hz2) ?_)
  intro ZQ ZR ZS ZT ZU ZV ZW ZX ZY ZZ Z0 Z1 Z2 Z3 Z4 Z5 Ua Ub Uc Ud Ue Uf Ug Uh Ui Uj Uk Ul Um Un Uo Up Uq Ur Us Ut Uu Uv Uw Ux Uy kd re im h1 h2
  have hC2 := (hC0.drewN kd).setReg (8 + a) (.complex .f64 re im)
  have hX2 : Blk ((w1.drewN kd).setCell ⟨g,8 + a,none⟩ (.complex .f64 re im)) (w.heap.size + 1) 92 [.int .i64 0,.int .i64 0,.int .u32 0] := Blk.other (show Blk (w1.drewN kd) _ _ _ from hX0) (by show w.heap.size + 1 ≠ g; omega)
  generalize (w1.drewN kd).setCell ⟨g,8 + a,none⟩ (.complex .f64 re im) = w5 at hX2 hC2 ⊢
  go_wp2_with (first
    | ((with_reducible show wpList _ _ _ (Oper.mk none (Op.store _ (Operand.tmp 6) (Operand.tmp 276)) _ _ _ _ :: _) _ _); refine wpList_st3 hX2 rfl 92 (.tmp 6) (.tmp 276) (.int .i64 0) (.int .i64 0) (.int .u32 0) rfl (by kernel_rfl) (by kernel_rfl) (by simp [Value.oneCell']) (by kernel_rfl) ?_; rintro ⟨z0,z1,z2⟩)
    | fail)
  refine bodyPost_ret (v := .agg #[.int .i64 0,.int .i64 0,.int .u32 0]) (by simp [results,Tryd.results69,go_sem,z0,z1,z2]) rfl ⟨rfl,re,im,h1,h2,RW.farCells (by omega) _ _ _ hC2⟩
set_option maxRecDepth 20000 in
set_option maxHeartbeats 2000000 in
theorem rz_zsub (op n f : Int) (a b : Nat) (p q s t : Nat) (w : World) (g : Nat) (cells : List Value) (hB : Blk w g 89 cells) (ha : a < 4) (hz : cells[8 + a]? = some (.complex .f64 p q)) (hb : b < 4) (hz2 : cells[8 + b]? = some (.complex .f64 s t)) :
    Calls Tryd.prog 69 #[.pointer (some ⟨g,0,none⟩),.string ⟨#[122,115,117,98]⟩,.agg #[.int .i64 op,.int .i64 a,.int .i64 b,.int .i32 n,.int .i64 f]] w fun e w' => e = .returned (.agg #[.int .i64 0,.int .i64 0,.int .u32 0]) ∧ ∃ re im : Nat,FR .sub p s re ∧ FR .sub q t im ∧ RW w g (cells.set (8 + a) (.complex .f64 re im)) w' := by
  have hg := hB.lt
  have HB := Lib.hid hB
  have hI0 : Blk ((w.alloc (.cells #[.int .i64 op,.int .i64 a,.int .i64 b,.int .i32 n,.int .i64 f] 25)).alloc (.cells #[.int .i64 0,.int .i64 0,.int .u32 0] 92)) w.heap.size 25 [.int .i64 op,.int .i64 a,.int .i64 b,.int .i32 n,.int .i64 f] := (Blk.new w 25 [.int .i64 op,.int .i64 a,.int .i64 b,.int .i32 n,.int .i64 f]).alloc _
  have hX0 : Blk ((w.alloc (.cells #[.int .i64 op,.int .i64 a,.int .i64 b,.int .i32 n,.int .i64 f] 25)).alloc (.cells #[.int .i64 0,.int .i64 0,.int .u32 0] 92)) (w.heap.size + 1) 92 [.int .i64 0,.int .i64 0,.int .u32 0] := by
    have := Blk.new (w.alloc (.cells #[.int .i64 op,.int .i64 a,.int .i64 b,.int .i32 n,.int .i64 f] 25)) 92 [.int .i64 0,.int .i64 0,.int .u32 0]
    rw [World.size_alloc] at this
    exact this
  have hC0 : RW w g cells ((w.alloc (.cells #[.int .i64 op,.int .i64 a,.int .i64 b,.int .i32 n,.int .i64 f] 25)).alloc (.cells #[.int .i64 0,.int .i64 0,.int .u32 0] 92)) := ((RW.start hB).alloc _).alloc _
  clear hB
  go_enter Tryd.func69,Tryd.ntmps69
  go_wp2_with fail
  generalize ((w.alloc (.cells #[.int .i64 op,.int .i64 a,.int .i64 b,.int .i32 n,.int .i64 f] 25)).alloc (.cells #[.int .i64 0,.int .i64 0,.int .u32 0] 92)) = w1 at hI0 hX0 hC0 ⊢
  refine wp_region_swap (ops' := rzR11) (by kernel_rfl) (rz_r11 g w.heap.size a b p q s t _ _ _ _ _ _ _ _ _ _ _ _ _ _ _ _ _ _ _ _ _ _ _ _ _ _ _ _ _ _ _ _ _ _ _ _ _ _ _ _ _ _ _ _ _ _ _ _ _ _ _ _ _ _ _ _ _ _ _ _ _ _ _ _ _ _ _ _ _ _ _ _ _ _ _ _ _ _ _ _ _ _ _ _ _ _ _ _ _ _ _ _ _ _ _ _ _ _ _ _ _ _ _ _ _ _ _ _ _ _ _ _ _ _ _ _ _ _ _ _ _ _ _ _ _ _ _ _ _ _ _ _ _ _ _ _ _ _ _ _ _ _ _ _ _ _ _ _ _ _ _ _ _ _ _ _ _ _ _ _ _ _ _ _ _ _ _ _ _ _ _ _ _ _ _ _ _ _ _ _ _ _ _ _ _ _ _ _ _ _ _ _ _ _ _ _ _ _ _ _ _ _ _ _ _ _ _ _ _ _ _ _ _ _ _ _ _ _ _ _ _ _ _ _ _ _ _ _ _ _ _ _ _ _ _ _ _ _ _ _ _ _ _ _ _ _ _ _ _ _ _ _ _ _ _ _ _ _ _ _ _ _ _ _ _ _ _ _ _ _ _ _ _ _ _ _ _ ha (hI0.cell 1) ((hC0.blk.cell (8 + a)).trans hz) (hC0.blk.free _) hb (hI0.cell 2) ((hC0.blk.cell (8 + b)).trans hz2) ?_)
  intro Uz UA UB UC UD UE UF UG UH UI UJ UK UL UM UN UO UP UQ UR US UT UU UV UW UX UY UZ U0 U1 U2 U3 U4 U5 U6 U7 U8 U9 Ya Yb Yc Yd kd re im h1 h2
  have hC2 := (hC0.drewN kd).setReg (8 + a) (.complex .f64 re im)
  have hX2 : Blk ((w1.drewN kd).setCell ⟨g,8 + a,none⟩ (.complex .f64 re im)) (w.heap.size + 1) 92 [.int .i64 0,.int .i64 0,.int .u32 0] := Blk.other (show Blk (w1.drewN kd) _ _ _ from hX0) (by show w.heap.size + 1 ≠ g; omega)
  generalize (w1.drewN kd).setCell ⟨g,8 + a,none⟩ (.complex .f64 re im) = w5 at hX2 hC2 ⊢
  go_wp2_with (first
    | ((with_reducible show wpList _ _ _ (Oper.mk none (Op.store _ (Operand.tmp 6) (Operand.tmp 276)) _ _ _ _ :: _) _ _); refine wpList_st3 hX2 rfl 92 (.tmp 6) (.tmp 276) (.int .i64 0) (.int .i64 0) (.int .u32 0) rfl (by kernel_rfl) (by kernel_rfl) (by simp [Value.oneCell']) (by kernel_rfl) ?_; rintro ⟨z0,z1,z2⟩)
    | fail)
  refine bodyPost_ret (v := .agg #[.int .i64 0,.int .i64 0,.int .u32 0]) (by simp [results,Tryd.results69,go_sem,z0,z1,z2]) rfl ⟨rfl,re,im,h1,h2,RW.farCells (by omega) _ _ _ hC2⟩
set_option maxRecDepth 20000 in
set_option maxHeartbeats 2000000 in
theorem rz_zset (op n f : Int) (a b : Nat) (c p q : Nat) (x y : Int) (w : World) (g : Nat) (cells : List Value) (hB : Blk w g 89 cells) (ha : a < 4) (hz : cells[8 + a]? = some (.complex .f64 p q)) (hb : b < 8) (hc : c < 8) (hn : Hid (n = (c : Int))) (hx : cells[b]? = some (.int .i32 x)) (hy : cells[c]? = some (.int .i32 y)) :
    Calls Tryd.prog 69 #[.pointer (some ⟨g,0,none⟩),.string ⟨#[122,115,101,116]⟩,.agg #[.int .i64 op,.int .i64 a,.int .i64 b,.int .i32 n,.int .i64 f]] w fun e w' => e = .returned (.agg #[.int .i64 0,.int .i64 0,.int .u32 0]) ∧ RW w g (cells.set (8 + a) (.complex .f64 (floatOfInt .f64 x) (floatOfInt .f64 y))) w' := by
  have hg := hB.lt
  have HB := Lib.hid hB
  have hI0 : Blk ((w.alloc (.cells #[.int .i64 op,.int .i64 a,.int .i64 b,.int .i32 n,.int .i64 f] 25)).alloc (.cells #[.int .i64 0,.int .i64 0,.int .u32 0] 92)) w.heap.size 25 [.int .i64 op,.int .i64 a,.int .i64 b,.int .i32 n,.int .i64 f] := (Blk.new w 25 [.int .i64 op,.int .i64 a,.int .i64 b,.int .i32 n,.int .i64 f]).alloc _
  have hX0 : Blk ((w.alloc (.cells #[.int .i64 op,.int .i64 a,.int .i64 b,.int .i32 n,.int .i64 f] 25)).alloc (.cells #[.int .i64 0,.int .i64 0,.int .u32 0] 92)) (w.heap.size + 1) 92 [.int .i64 0,.int .i64 0,.int .u32 0] := by
    have := Blk.new (w.alloc (.cells #[.int .i64 op,.int .i64 a,.int .i64 b,.int .i32 n,.int .i64 f] 25)) 92 [.int .i64 0,.int .i64 0,.int .u32 0]
    rw [World.size_alloc] at this
    exact this
  have hC0 : RW w g cells ((w.alloc (.cells #[.int .i64 op,.int .i64 a,.int .i64 b,.int .i32 n,.int .i64 f] 25)).alloc (.cells #[.int .i64 0,.int .i64 0,.int .u32 0] 92)) := ((RW.start hB).alloc _).alloc _
  clear hB
  go_enter Tryd.func69,Tryd.ntmps69
  go_wp2_with fail
  generalize ((w.alloc (.cells #[.int .i64 op,.int .i64 a,.int .i64 b,.int .i32 n,.int .i64 f] 25)).alloc (.cells #[.int .i64 0,.int .i64 0,.int .u32 0] 92)) = w1 at hI0 hX0 hC0 ⊢
  refine wp_region_swap (ops' := rzR19) (by kernel_rfl) (rz_r19 g w.heap.size a b c p q x y _ _ _ _ _ _ _ _ _ _ _ _ _ _ _ _ _ _ _ _ _ _ _ _ _ _ _ _ _ _ _ _ _ _ _ _ _ _ _ _ _ _ _ _ _ _ _ _ _ _ _ _ _ _ _ _ _ _ _ _ _ _ _ _ _ _ _ _ _ _ _ _ _ _ _ _ _ _ _ _ _ _ _ _ _ _ _ _ _ _ _ _ _ _ _ _ _ _ _ _ _ _ _ _ _ _ _ _ _ _ _ _ _ _ _ _ _ _ _ _ _ _ _ _ _ _ _ _ _ _ _ _ _ _ _ _ _ _ _ _ _ _ _ _ _ _ _ _ _ _ _ _ _ _ _ _ _ _ _ _ _ _ _ _ _ _ _ _ _ _ _ _ _ _ _ _ _ _ _ _ _ _ _ _ _ _ _ _ _ _ _ _ _ _ _ _ _ _ _ _ _ _ _ _ _ _ _ _ _ _ _ _ _ _ _ _ _ _ _ _ _ _ _ _ _ _ _ _ _ _ _ _ _ _ _ _ _ _ _ _ _ _ _ _ _ _ _ _ _ _ _ _ _ _ _ _ _ _ _ _ _ _ _ _ _ _ _ _ _ _ _ _ _ _ _ _ _ ha (hI0.cell 1) ((hC0.blk.cell (8 + a)).trans hz) (hC0.blk.free _) hb hc (hI0.cell 2) ((hI0.cell 3).trans (by simp [hn.out])) ((hC0.blk.cell b).trans hx) ((hC0.blk.cell c).trans hy) ?_)
  intro Ys Yt Yu Yw Yx Yy Yz YA YB YC YD YE YF YH YI YJ YK YL YM YN YO YP YQ kd 
  have hC2 := (hC0.drewN kd).setReg (8 + a) (.complex .f64 (floatOfInt .f64 x) (floatOfInt .f64 y))
  have hX2 : Blk ((w1.drewN kd).setCell ⟨g,8 + a,none⟩ (.complex .f64 (floatOfInt .f64 x) (floatOfInt .f64 y))) (w.heap.size + 1) 92 [.int .i64 0,.int .i64 0,.int .u32 0] := Blk.other (show Blk (w1.drewN kd) _ _ _ from hX0) (by show w.heap.size + 1 ≠ g; omega)
  generalize (w1.drewN kd).setCell ⟨g,8 + a,none⟩ (.complex .f64 (floatOfInt .f64 x) (floatOfInt .f64 y)) = w5 at hX2 hC2 ⊢
  go_wp2_with (first
    | ((with_reducible show wpList _ _ _ (Oper.mk none (Op.store _ (Operand.tmp 6) (Operand.tmp 276)) _ _ _ _ :: _) _ _); refine wpList_st3 hX2 rfl 92 (.tmp 6) (.tmp 276) (.int .i64 0) (.int .i64 0) (.int .u32 0) rfl (by kernel_rfl) (by kernel_rfl) (by simp [Value.oneCell']) (by kernel_rfl) ?_; rintro ⟨z0,z1,z2⟩)
    | fail)
  refine bodyPost_ret (v := .agg #[.int .i64 0,.int .i64 0,.int .u32 0]) (by simp [results,Tryd.results69,go_sem,z0,z1,z2]) rfl ⟨rfl,RW.farCells (by omega) _ _ _ hC2⟩
set_option maxRecDepth 20000 in
set_option maxHeartbeats 2000000 in
theorem rz_zmul (op n f : Int) (a b : Nat) (p q s t : Nat) (w : World) (g : Nat) (cells : List Value) (hB : Blk w g 89 cells) (ha : a < 4) (hz : cells[8 + a]? = some (.complex .f64 p q)) (hb : b < 4) (hz2 : cells[8 + b]? = some (.complex .f64 s t)) :
    Calls Tryd.prog 69 #[.pointer (some ⟨g,0,none⟩),.string ⟨#[122,109,117,108]⟩,.agg #[.int .i64 op,.int .i64 a,.int .i64 b,.int .i32 n,.int .i64 f]] w fun e w' => e = .returned (.agg #[.int .i64 0,.int .i64 0,.int .u32 0]) ∧ ∃ ps qt re pt qs im : Nat,FR .mul p s ps ∧ FR .mul q t qt ∧ FR .sub ps qt re ∧ FR .mul p t pt ∧ FR .mul q s qs ∧ FR .add pt qs im ∧ RW w g (cells.set (8 + a) (.complex .f64 re im)) w' := by
  have hg := hB.lt
  have HB := Lib.hid hB
  have hI0 : Blk ((w.alloc (.cells #[.int .i64 op,.int .i64 a,.int .i64 b,.int .i32 n,.int .i64 f] 25)).alloc (.cells #[.int .i64 0,.int .i64 0,.int .u32 0] 92)) w.heap.size 25 [.int .i64 op,.int .i64 a,.int .i64 b,.int .i32 n,.int .i64 f] := (Blk.new w 25 [.int .i64 op,.int .i64 a,.int .i64 b,.int .i32 n,.int .i64 f]).alloc _
  have hX0 : Blk ((w.alloc (.cells #[.int .i64 op,.int .i64 a,.int .i64 b,.int .i32 n,.int .i64 f] 25)).alloc (.cells #[.int .i64 0,.int .i64 0,.int .u32 0] 92)) (w.heap.size + 1) 92 [.int .i64 0,.int .i64 0,.int .u32 0] := by
    have := Blk.new (w.alloc (.cells #[.int .i64 op,.int .i64 a,.int .i64 b,.int .i32 n,.int .i64 f] 25)) 92 [.int .i64 0,.int .i64 0,.int .u32 0]
    rw [World.size_alloc] at this
    exact this
  have hC0 : RW w g cells ((w.alloc (.cells #[.int .i64 op,.int .i64 a,.int .i64 b,.int .i32 n,.int .i64 f] 25)).alloc (.cells #[.int .i64 0,.int .i64 0,.int .u32 0] 92)) := ((RW.start hB).alloc _).alloc _
  clear hB
  go_enter Tryd.func69,Tryd.ntmps69
  go_wp2_with fail
  generalize ((w.alloc (.cells #[.int .i64 op,.int .i64 a,.int .i64 b,.int .i32 n,.int .i64 f] 25)).alloc (.cells #[.int .i64 0,.int .i64 0,.int .u32 0] 92)) = w1 at hI0 hX0 hC0 ⊢
  have hA : (a : Int) < 4 := by omega
  have hBb : (b : Int) < 4 := by omega
  have i1 := hI0.cell 1
  have i2 := hI0.cell 2
  simp only [List.getElem?_cons_zero,List.getElem?_cons_succ] at i1 i2
  have c1 := (hC0.blk.cell (8 + a)).trans hz
  have c2 := (hC0.blk.cell (8 + b)).trans hz2
  go_quiet (fail)
  have hC1 := hC0.drewN nq
  have hX1 : Blk (w1.drewN nq) (w.heap.size + 1) _ _ := hX0
  have hI1 : Blk (w1.drewN nq) w.heap.size _ _ := hI0
  have c3 : (w1.drewN nq).cell? ⟨g,8 + a,none⟩ = some (.complex .f64 p q) := c1
  have c4 : (w1.drewN nq).cell? ⟨g,8 + b,none⟩ = some (.complex .f64 s t) := c2
  have i3 : (w1.drewN nq).cell? ⟨w.heap.size,2,none⟩ = some (.int .i64 b) := i2
  clear hI0 hX0 hC0 i1 i2 c1 c2
  generalize w1.drewN nq = w2 at hC1 hX1 hI1 c3 c4 i3 ⊢
  go_wp2_with fail
  go_quiet (fail)
  have hC0 := hC1.drewN nq
  have hX0 : Blk (w2.drewN nq) (w.heap.size + 1) _ _ := hX1
  have hI0 : Blk (w2.drewN nq) w.heap.size _ _ := hI1
  clear hC1 hX1 hI1 c3 c4 i3
  generalize w2.drewN nq = w3 at hC0 hX0 hI0 ⊢
  go_wp2_with (first
    | ((with_reducible show wpList _ _ _ (Oper.mk (some 188) _ _ _ _ _ :: _) _ _); refine wpList_fop rfl .mul (by simp) _ _ _ _ p s rfl (by rfl) (by rfl) ?_; intro r188 k188 h188; simp only [Act.put,List.setIfInBounds_toArray,List.set_cons_zero,List.set_cons_succ]; have hC188 := hC0.drewN k188; have hX188 : Blk (w3.drewN k188) (w.heap.size + 1) _ _ := hX0; have hI188 : Blk (w3.drewN k188) w.heap.size _ _ := hI0; generalize w3.drewN k188 = w188 at hC188 hX188 hI188 ⊢)
    | ((with_reducible show wpList _ _ _ (Oper.mk (some 193) _ _ _ _ _ :: _) _ _); refine wpList_fop rfl .mul (by simp) _ _ _ _ q t rfl (by rfl) (by rfl) ?_; intro r193 k193 h193; simp only [Act.put,List.setIfInBounds_toArray,List.set_cons_zero,List.set_cons_succ]; have hC193 := hC188.drewN k193; have hX193 : Blk (w188.drewN k193) (w.heap.size + 1) _ _ := hX188; have hI193 : Blk (w188.drewN k193) w.heap.size _ _ := hI188; generalize w188.drewN k193 = w193 at hC193 hX193 hI193 ⊢)
    | ((with_reducible show wpList _ _ _ (Oper.mk (some 194) _ _ _ _ _ :: _) _ _); refine wpList_fop rfl .sub (by simp) _ _ _ _ r188 r193 rfl (by rfl) (by rfl) ?_; intro r194 k194 h194; simp only [Act.put,List.setIfInBounds_toArray,List.set_cons_zero,List.set_cons_succ]; have hC194 := hC193.drewN k194; have hX194 : Blk (w193.drewN k194) (w.heap.size + 1) _ _ := hX193; have hI194 : Blk (w193.drewN k194) w.heap.size _ _ := hI193; generalize w193.drewN k194 = w194 at hC194 hX194 hI194 ⊢)
    | ((with_reducible show wpList _ _ _ (Oper.mk (some 199) _ _ _ _ _ :: _) _ _); refine wpList_fop rfl .mul (by simp) _ _ _ _ p t rfl (by rfl) (by rfl) ?_; intro r199 k199 h199; simp only [Act.put,List.setIfInBounds_toArray,List.set_cons_zero,List.set_cons_succ]; have hC199 := hC194.drewN k199; have hX199 : Blk (w194.drewN k199) (w.heap.size + 1) _ _ := hX194; have hI199 : Blk (w194.drewN k199) w.heap.size _ _ := hI194; generalize w194.drewN k199 = w199 at hC199 hX199 hI199 ⊢)
    | ((with_reducible show wpList _ _ _ (Oper.mk (some 204) _ _ _ _ _ :: _) _ _); refine wpList_fop rfl .mul (by simp) _ _ _ _ q s rfl (by rfl) (by rfl) ?_; intro r204 k204 h204; simp only [Act.put,List.setIfInBounds_toArray,List.set_cons_zero,List.set_cons_succ]; have hC204 := hC199.drewN k204; have hX204 : Blk (w199.drewN k204) (w.heap.size + 1) _ _ := hX199; have hI204 : Blk (w199.drewN k204) w.heap.size _ _ := hI199; generalize w199.drewN k204 = w204 at hC204 hX204 hI204 ⊢)
    | ((with_reducible show wpList _ _ _ (Oper.mk (some 205) _ _ _ _ _ :: _) _ _); refine wpList_fop rfl .add (by simp) _ _ _ _ r199 r204 rfl (by rfl) (by rfl) ?_; intro r205 k205 h205; simp only [Act.put,List.setIfInBounds_toArray,List.set_cons_zero,List.set_cons_succ]; have hC205 := hC204.drewN k205; have hX205 : Blk (w204.drewN k205) (w.heap.size + 1) _ _ := hX204; have hI205 : Blk (w204.drewN k205) w.heap.size _ _ := hI204; generalize w204.drewN k205 = w205 at hC205 hX205 hI205 ⊢)
    | fail)
  have hC0 := hC205
  have hX0 := hX205
  have hI0 := hI205
  refine wp_region_swap (ops' := rzR17) (by kernel_rfl) (rz_r17 g w.heap.size a p q r194 r205 _ _ _ _ _ _ _ _ _ _ _ _ _ _ _ _ _ _ _ _ _ _ _ _ _ _ _ _ _ _ _ _ _ _ _ _ _ _ _ _ _ _ _ _ _ _ _ _ _ _ _ _ _ _ _ _ _ _ _ _ _ _ _ _ _ _ _ _ _ _ _ _ _ _ _ _ _ _ _ _ _ _ _ _ _ _ _ _ _ _ _ _ _ _ _ _ _ _ _ _ _ _ _ _ _ _ _ _ _ _ _ _ _ _ _ _ _ _ _ _ _ _ _ _ _ _ _ _ _ _ _ _ _ _ _ _ _ _ _ _ _ _ _ _ _ _ _ _ _ _ _ _ _ _ _ _ _ _ _ _ _ _ _ _ _ _ _ _ _ _ _ _ _ _ _ _ _ _ _ _ _ _ _ _ _ _ _ _ _ _ _ _ _ _ _ _ _ _ _ _ _ _ _ _ _ _ _ _ _ _ _ _ _ _ _ _ _ _ _ _ _ _ _ _ _ _ _ _ _ _ _ _ _ _ _ _ _ _ _ _ _ _ _ _ _ _ _ _ _ _ _ _ _ _ _ _ _ _ _ _ _ _ _ _ _ _ _ _ _ _ _ _ _ _ _ ha (hI0.cell 1) ((hC0.blk.cell (8 + a)).trans hz) (hC0.blk.free _) ?_)
  intro Yi Yj Yk Yl Yn Yo Yp Yq Yr kd 
  have hC2 := (hC0.drewN kd).setReg (8 + a) (.complex .f64 r194 r205)
  have hX2 : Blk ((w205.drewN kd).setCell ⟨g,8 + a,none⟩ (.complex .f64 r194 r205)) (w.heap.size + 1) 92 [.int .i64 0,.int .i64 0,.int .u32 0] := Blk.other (show Blk (w205.drewN kd) _ _ _ from hX0) (by show w.heap.size + 1 ≠ g; omega)
  generalize (w205.drewN kd).setCell ⟨g,8 + a,none⟩ (.complex .f64 r194 r205) = w5 at hX2 hC2 ⊢
  go_wp2_with (first
    | ((with_reducible show wpList _ _ _ (Oper.mk none (Op.store _ (Operand.tmp 6) (Operand.tmp 276)) _ _ _ _ :: _) _ _); refine wpList_st3 hX2 rfl 92 (.tmp 6) (.tmp 276) (.int .i64 0) (.int .i64 0) (.int .u32 0) rfl (by kernel_rfl) (by kernel_rfl) (by simp [Value.oneCell']) (by kernel_rfl) ?_; rintro ⟨z0,z1,z2⟩)
    | fail)
  refine bodyPost_ret (v := .agg #[.int .i64 0,.int .i64 0,.int .u32 0]) (by simp [results,Tryd.results69,go_sem,z0,z1,z2]) rfl ⟨rfl,_,_,_,_,_,_,h188,h193,h194,h199,h204,h205,RW.farCells (by omega) _ _ _ hC2⟩
set_option maxRecDepth 20000 in
set_option maxHeartbeats 2000000 in
theorem rz_zre (op n f : Int) (a b : Nat) (p q : Nat) (w : World) (g : Nat) (cells : List Value) (hB : Blk w g 89 cells) (hb : b < 4) (hz2 : cells[8 + b]? = some (.complex .f64 p q)) (ha : a < 8) (z : Value) (hx : cells[a]? = some z) (m : Int) (hw : Hid (∀ W,Calls Tryd.prog 88 #[.float .f64 p] W fun e w' => e = .returned (.tuple #[.int .i32 m,.bool true]) ∧ W = w')) :
    Calls Tryd.prog 69 #[.pointer (some ⟨g,0,none⟩),.string ⟨#[122,114,101]⟩,.agg #[.int .i64 op,.int .i64 a,.int .i64 b,.int .i32 n,.int .i64 f]] w fun e w' => e = .returned (.agg #[.int .i64 0,.int .i64 0,.int .u32 0]) ∧ RW w g (cells.set a (.int .i32 m)) w' := by
  have hg := hB.lt
  have HB := Lib.hid hB
  have hI0 : Blk ((w.alloc (.cells #[.int .i64 op,.int .i64 a,.int .i64 b,.int .i32 n,.int .i64 f] 25)).alloc (.cells #[.int .i64 0,.int .i64 0,.int .u32 0] 92)) w.heap.size 25 [.int .i64 op,.int .i64 a,.int .i64 b,.int .i32 n,.int .i64 f] := (Blk.new w 25 [.int .i64 op,.int .i64 a,.int .i64 b,.int .i32 n,.int .i64 f]).alloc _
  have hX0 : Blk ((w.alloc (.cells #[.int .i64 op,.int .i64 a,.int .i64 b,.int .i32 n,.int .i64 f] 25)).alloc (.cells #[.int .i64 0,.int .i64 0,.int .u32 0] 92)) (w.heap.size + 1) 92 [.int .i64 0,.int .i64 0,.int .u32 0] := by
    have := Blk.new (w.alloc (.cells #[.int .i64 op,.int .i64 a,.int .i64 b,.int .i32 n,.int .i64 f] 25)) 92 [.int .i64 0,.int .i64 0,.int .u32 0]
    rw [World.size_alloc] at this
    exact this
  have hC0 : RW w g cells ((w.alloc (.cells #[.int .i64 op,.int .i64 a,.int .i64 b,.int .i32 n,.int .i64 f] 25)).alloc (.cells #[.int .i64 0,.int .i64 0,.int .u32 0] 92)) := ((RW.start hB).alloc _).alloc _
  clear hB
  go_enter Tryd.func69,Tryd.ntmps69
  go_wp2_with fail
  generalize ((w.alloc (.cells #[.int .i64 op,.int .i64 a,.int .i64 b,.int .i32 n,.int .i64 f] 25)).alloc (.cells #[.int .i64 0,.int .i64 0,.int .u32 0] 92)) = w1 at hI0 hX0 hC0 ⊢
  have hBb : (b : Int) < 4 := by omega
  have i2 := hI0.cell 2
  simp only [List.getElem?_cons_zero,List.getElem?_cons_succ] at i2
  have c2 := (hC0.blk.cell (8 + b)).trans hz2
  go_quiet (fail)
  have hC0 := hC0.drewN nq
  have hX0 : Blk (w1.drewN nq) (w.heap.size + 1) _ _ := hX0
  have hI0 : Blk (w1.drewN nq) w.heap.size _ _ := hI0
  clear c2
  generalize w1.drewN nq = w3 at hC0 hX0 hI0 ⊢
  go_wp2_with (first
    | (go_at_call 88; refine (hw.out _).mono ?_; rintro e w7 ⟨rfl,rfl⟩)
    | fail)
  refine wp_region_swap (ops' := rzR28) (by kernel_rfl) (rz_r28 g w.heap.size a m _ _ _ _ _ _ _ _ _ _ _ _ _ _ _ _ _ _ _ _ _ _ _ _ _ _ _ _ _ _ _ _ _ _ _ _ _ _ _ _ _ _ _ _ _ _ _ _ _ _ _ _ _ _ _ _ _ _ _ _ _ _ _ _ _ _ _ _ _ _ _ _ _ _ _ _ _ _ _ _ _ _ _ _ _ _ _ _ _ _ _ _ _ _ _ _ _ _ _ _ _ _ _ _ _ _ _ _ _ _ _ _ _ _ _ _ _ _ _ _ _ _ _ _ _ _ _ _ _ _ _ _ _ _ _ _ _ _ _ _ _ _ _ _ _ _ _ _ _ _ _ _ _ _ _ _ _ _ _ _ _ _ _ _ _ _ _ _ _ _ _ _ _ _ _ _ _ _ _ _ _ _ _ _ _ _ _ _ _ _ _ _ _ _ _ _ _ _ _ _ _ _ _ _ _ _ _ _ _ _ _ _ _ _ _ _ _ _ _ _ _ _ _ _ _ _ _ _ _ _ _ _ _ _ _ _ _ _ _ _ _ _ _ _ _ _ _ _ _ _ _ _ _ _ _ _ _ _ _ _ _ _ _ _ _ _ _ _ _ _ _ _ _ _ _ _ ha (hI0.cell 1) _ ((hC0.blk.cell a).trans hx) (hC0.blk.free _) ?_)
  intro YU YW YX YY YZ Y0 Y1 kd 
  have hC2 := (hC0.drewN kd).setReg (a) (.int .i32 m)
  have hX2 : Blk ((w3.drewN kd).setCell ⟨g,a,none⟩ (.int .i32 m)) (w.heap.size + 1) 92 [.int .i64 0,.int .i64 0,.int .u32 0] := Blk.other (show Blk (w3.drewN kd) _ _ _ from hX0) (by show w.heap.size + 1 ≠ g; omega)
  generalize (w3.drewN kd).setCell ⟨g,a,none⟩ (.int .i32 m) = w5 at hX2 hC2 ⊢
  go_wp2_with (first
    | ((with_reducible show wpList _ _ _ (Oper.mk none (Op.store _ (Operand.tmp 6) (Operand.tmp 276)) _ _ _ _ :: _) _ _); refine wpList_st3 hX2 rfl 92 (.tmp 6) (.tmp 276) (.int .i64 0) (.int .i64 0) (.int .u32 0) rfl (by kernel_rfl) (by kernel_rfl) (by simp [Value.oneCell']) (by kernel_rfl) ?_; rintro ⟨z0,z1,z2⟩)
    | fail)
  refine bodyPost_ret (v := .agg #[.int .i64 0,.int .i64 0,.int .u32 0]) (by simp [results,Tryd.results69,go_sem,z0,z1,z2]) rfl ⟨rfl,RW.farCells (by omega) _ _ _ hC2⟩
set_option maxRecDepth 20000 in
set_option maxHeartbeats 2000000 in
theorem rz_zre_no (op n f : Int) (a b : Nat) (p q : Nat) (w : World) (g : Nat) (cells : List Value) (hB : Blk w g 89 cells) (hb : b < 4) (hz2 : cells[8 + b]? = some (.complex .f64 p q)) (m : Int) (hw : Hid (∀ W,Calls Tryd.prog 88 #[.float .f64 p] W fun e w' => e = .returned (.tuple #[.int .i32 m,.bool false]) ∧ W = w')) :
    Calls Tryd.prog 69 #[.pointer (some ⟨g,0,none⟩),.string ⟨#[122,114,101]⟩,.agg #[.int .i64 op,.int .i64 a,.int .i64 b,.int .i32 n,.int .i64 f]] w fun e w' => e = .returned (.agg #[.int .i64 6,.int .i64 8,.int .u32 0]) ∧ RW w g cells w' := by
  have hg := hB.lt
  have HB := Lib.hid hB
  have hI0 : Blk ((w.alloc (.cells #[.int .i64 op,.int .i64 a,.int .i64 b,.int .i32 n,.int .i64 f] 25)).alloc (.cells #[.int .i64 0,.int .i64 0,.int .u32 0] 92)) w.heap.size 25 [.int .i64 op,.int .i64 a,.int .i64 b,.int .i32 n,.int .i64 f] := (Blk.new w 25 [.int .i64 op,.int .i64 a,.int .i64 b,.int .i32 n,.int .i64 f]).alloc _
  have hX0 : Blk ((w.alloc (.cells #[.int .i64 op,.int .i64 a,.int .i64 b,.int .i32 n,.int .i64 f] 25)).alloc (.cells #[.int .i64 0,.int .i64 0,.int .u32 0] 92)) (w.heap.size + 1) 92 [.int .i64 0,.int .i64 0,.int .u32 0] := by
    have := Blk.new (w.alloc (.cells #[.int .i64 op,.int .i64 a,.int .i64 b,.int .i32 n,.int .i64 f] 25)) 92 [.int .i64 0,.int .i64 0,.int .u32 0]
    rw [World.size_alloc] at this
    exact this
  have hC0 : RW w g cells ((w.alloc (.cells #[.int .i64 op,.int .i64 a,.int .i64 b,.int .i32 n,.int .i64 f] 25)).alloc (.cells #[.int .i64 0,.int .i64 0,.int .u32 0] 92)) := ((RW.start hB).alloc _).alloc _
  clear hB
  go_enter Tryd.func69,Tryd.ntmps69
  go_wp2_with fail
  generalize ((w.alloc (.cells #[.int .i64 op,.int .i64 a,.int .i64 b,.int .i32 n,.int .i64 f] 25)).alloc (.cells #[.int .i64 0,.int .i64 0,.int .u32 0] 92)) = w1 at hI0 hX0 hC0 ⊢
  have hBb : (b : Int) < 4 := by omega
  have i2 := hI0.cell 2
  simp only [List.getElem?_cons_zero,List.getElem?_cons_succ] at i2
  have c2 := (hC0.blk.cell (8 + b)).trans hz2
  go_quiet (fail)
  have hC0 := hC0.drewN nq
  have hX0 : Blk (w1.drewN nq) (w.heap.size + 1) _ _ := hX0
  have hI0 : Blk (w1.drewN nq) w.heap.size _ _ := hI0
  clear c2
  generalize w1.drewN nq = w3 at hC0 hX0 hI0 ⊢
  go_wp2_with (first
    | (go_at_call 88; refine (hw.out _).mono ?_; rintro e w7 ⟨rfl,rfl⟩)
    | (go_at_call 66; refine (rtrap_any 8 _).mono ?_; rintro e w4 ⟨rfl,hb4⟩; have hX4 := hX0.below hb4 hX0.lt; have hC2 := hC0.below hb4)
    | ((with_reducible show wpList _ _ _ (Oper.mk none (Op.store _ (Operand.tmp 6) (Operand.tmp 268)) _ _ _ _ :: _) _ _); refine wpList_st3 hX4 rfl 92 (.tmp 6) (.tmp 268) (.int .i64 6) (.int .i64 8) (.int .u32 0) rfl (by kernel_rfl) (by kernel_rfl) (by simp [Value.oneCell']) (by kernel_rfl) ?_; rintro ⟨z0,z1,z2⟩)
    | fail)
  refine bodyPost_ret (v := .agg #[.int .i64 6,.int .i64 8,.int .u32 0]) (by simp [results,Tryd.results69,go_sem,z0,z1,z2]) rfl ⟨rfl,RW.farCells (by omega) _ _ _ hC2⟩
set_option maxRecDepth 20000 in
set_option maxHeartbeats 2000000 in
theorem rz_zim (op n f : Int) (a b : Nat) (p q : Nat) (w : World) (g : Nat) (cells : List Value) (hB : Blk w g 89 cells) (hb : b < 4) (hz2 : cells[8 + b]? = some (.complex .f64 p q)) (ha : a < 8) (z : Value) (hx : cells[a]? = some z) (m : Int) (hw : Hid (∀ W,Calls Tryd.prog 88 #[.float .f64 q] W fun e w' => e = .returned (.tuple #[.int .i32 m,.bool true]) ∧ W = w')) :
    Calls Tryd.prog 69 #[.pointer (some ⟨g,0,none⟩),.string ⟨#[122,105,109]⟩,.agg #[.int .i64 op,.int .i64 a,.int .i64 b,.int .i32 n,.int .i64 f]] w fun e w' => e = .returned (.agg #[.int .i64 0,.int .i64 0,.int .u32 0]) ∧ RW w g (cells.set a (.int .i32 m)) w' := by
  have hg := hB.lt
  have HB := Lib.hid hB
  have hI0 : Blk ((w.alloc (.cells #[.int .i64 op,.int .i64 a,.int .i64 b,.int .i32 n,.int .i64 f] 25)).alloc (.cells #[.int .i64 0,.int .i64 0,.int .u32 0] 92)) w.heap.size 25 [.int .i64 op,.int .i64 a,.int .i64 b,.int .i32 n,.int .i64 f] := (Blk.new w 25 [.int .i64 op,.int .i64 a,.int .i64 b,.int .i32 n,.int .i64 f]).alloc _
  have hX0 : Blk ((w.alloc (.cells #[.int .i64 op,.int .i64 a,.int .i64 b,.int .i32 n,.int .i64 f] 25)).alloc (.cells #[.int .i64 0,.int .i64 0,.int .u32 0] 92)) (w.heap.size + 1) 92 [.int .i64 0,.int .i64 0,.int .u32 0] := by
    have := Blk.new (w.alloc (.cells #[.int .i64 op,.int .i64 a,.int .i64 b,.int .i32 n,.int .i64 f] 25)) 92 [.int .i64 0,.int .i64 0,.int .u32 0]
    rw [World.size_alloc] at this
    exact this
  have hC0 : RW w g cells ((w.alloc (.cells #[.int .i64 op,.int .i64 a,.int .i64 b,.int .i32 n,.int .i64 f] 25)).alloc (.cells #[.int .i64 0,.int .i64 0,.int .u32 0] 92)) := ((RW.start hB).alloc _).alloc _
  clear hB
  go_enter Tryd.func69,Tryd.ntmps69
  go_wp2_with fail
  generalize ((w.alloc (.cells #[.int .i64 op,.int .i64 a,.int .i64 b,.int .i32 n,.int .i64 f] 25)).alloc (.cells #[.int .i64 0,.int .i64 0,.int .u32 0] 92)) = w1 at hI0 hX0 hC0 ⊢
  have hBb : (b : Int) < 4 := by omega
  have i2 := hI0.cell 2
  simp only [List.getElem?_cons_zero,List.getElem?_cons_succ] at i2
  have c2 := (hC0.blk.cell (8 + b)).trans hz2
  go_quiet (fail)
  have hC1 := hC0.drewN nq
  have hX1 : Blk (w1.drewN nq) (w.heap.size + 1) _ _ := hX0
  have hI1 : Blk (w1.drewN nq) w.heap.size _ _ := hI0
  have c3 : (w1.drewN nq).cell? ⟨g,8 + b,none⟩ = some (.complex .f64 p q) := c2
  have i3 : (w1.drewN nq).cell? ⟨w.heap.size,2,none⟩ = some (.int .i64 b) := i2
  clear hI0 hX0 hC0 i2 c2
  generalize w1.drewN nq = w2 at hC1 hX1 hI1 c3 i3 ⊢
  go_wp2_with fail
  go_quiet (fail)
  have hC0 := hC1.drewN nq
  have hX0 : Blk (w2.drewN nq) (w.heap.size + 1) _ _ := hX1
  have hI0 : Blk (w2.drewN nq) w.heap.size _ _ := hI1
  clear hC1 hX1 hI1 c3 i3
  generalize w2.drewN nq = w3 at hC0 hX0 hI0 ⊢
  go_wp2_with (first
    | (go_at_call 88; refine (hw.out _).mono ?_; rintro e w7 ⟨rfl,rfl⟩)
    | fail)
  refine wp_region_swap (ops' := rzR28) (by kernel_rfl) (rz_r28 g w.heap.size a m _ _ _ _ _ _ _ _ _ _ _ _ _ _ _ _ _ _ _ _ _ _ _ _ _ _ _ _ _ _ _ _ _ _ _ _ _ _ _ _ _ _ _ _ _ _ _ _ _ _ _ _ _ _ _ _ _ _ _ _ _ _ _ _ _ _ _ _ _ _ _ _ _ _ _ _ _ _ _ _ _ _ _ _ _ _ _ _ _ _ _ _ _ _ _ _ _ _ _ _ _ _ _ _ _ _ _ _ _ _ _ _ _ _ _ _ _ _ _ _ _ _ _ _ _ _ _ _ _ _ _ _ _ _ _ _ _ _ _ _ _ _ _ _ _ _ _ _ _ _ _ _ _ _ _ _ _ _ _ _ _ _ _ _ _ _ _ _ _ _ _ _ _ _ _ _ _ _ _ _ _ _ _ _ _ _ _ _ _ _ _ _ _ _ _ _ _ _ _ _ _ _ _ _ _ _ _ _ _ _ _ _ _ _ _ _ _ _ _ _ _ _ _ _ _ _ _ _ _ _ _ _ _ _ _ _ _ _ _ _ _ _ _ _ _ _ _ _ _ _ _ _ _ _ _ _ _ _ _ _ _ _ _ _ _ _ _ _ _ _ _ _ _ _ _ _ ha (hI0.cell 1) _ ((hC0.blk.cell a).trans hx) (hC0.blk.free _) ?_)
  intro YU YW YX YY YZ Y0 Y1 kd 
  have hC2 := (hC0.drewN kd).setReg (a) (.int .i32 m)
  have hX2 : Blk ((w3.drewN kd).setCell ⟨g,a,none⟩ (.int .i32 m)) (w.heap.size + 1) 92 [.int .i64 0,.int .i64 0,.int .u32 0] := Blk.other (show Blk (w3.drewN kd) _ _ _ from hX0) (by show w.heap.size + 1 ≠ g; omega)
  generalize (w3.drewN kd).setCell ⟨g,a,none⟩ (.int .i32 m) = w5 at hX2 hC2 ⊢
  go_wp2_with (first
    | ((with_reducible show wpList _ _ _ (Oper.mk none (Op.store _ (Operand.tmp 6) (Operand.tmp 276)) _ _ _ _ :: _) _ _); refine wpList_st3 hX2 rfl 92 (.tmp 6) (.tmp 276) (.int .i64 0) (.int .i64 0) (.int .u32 0) rfl (by kernel_rfl) (by kernel_rfl) (by simp [Value.oneCell']) (by kernel_rfl) ?_; rintro ⟨z0,z1,z2⟩)
    | fail)
  refine bodyPost_ret (v := .agg #[.int .i64 0,.int .i64 0,.int .u32 0]) (by simp [results,Tryd.results69,go_sem,z0,z1,z2]) rfl ⟨rfl,RW.farCells (by omega) _ _ _ hC2⟩
set_option maxRecDepth 20000 in
set_option maxHeartbeats 2000000 in
theorem rz_zim_no (op n f : Int) (a b : Nat) (p q : Nat) (w : World) (g : Nat) (cells : List Value) (hB : Blk w g 89 cells) (hb : b < 4) (hz2 : cells[8 + b]? = some (.complex .f64 p q)) (m : Int) (hw : Hid (∀ W,Calls Tryd.prog 88 #[.float .f64 q] W fun e w' => e = .returned (.tuple #[.int .i32 m,.bool false]) ∧ W = w')) :
    Calls Tryd.prog 69 #[.pointer (some ⟨g,0,none⟩),.string ⟨#[122,105,109]⟩,.agg #[.int .i64 op,.int .i64 a,.int .i64 b,.int .i32 n,.int .i64 f]] w fun e w' => e = .returned (.agg #[.int .i64 6,.int .i64 8,.int .u32 0]) ∧ RW w g cells w' := by
  have hg := hB.lt
  have HB := Lib.hid hB
  have hI0 : Blk ((w.alloc (.cells #[.int .i64 op,.int .i64 a,.int .i64 b,.int .i32 n,.int .i64 f] 25)).alloc (.cells #[.int .i64 0,.int .i64 0,.int .u32 0] 92)) w.heap.size 25 [.int .i64 op,.int .i64 a,.int .i64 b,.int .i32 n,.int .i64 f] := (Blk.new w 25 [.int .i64 op,.int .i64 a,.int .i64 b,.int .i32 n,.int .i64 f]).alloc _
  have hX0 : Blk ((w.alloc (.cells #[.int .i64 op,.int .i64 a,.int .i64 b,.int .i32 n,.int .i64 f] 25)).alloc (.cells #[.int .i64 0,.int .i64 0,.int .u32 0] 92)) (w.heap.size + 1) 92 [.int .i64 0,.int .i64 0,.int .u32 0] := by
    have := Blk.new (w.alloc (.cells #[.int .i64 op,.int .i64 a,.int .i64 b,.int .i32 n,.int .i64 f] 25)) 92 [.int .i64 0,.int .i64 0,.int .u32 0]
    rw [World.size_alloc] at this
    exact this
  have hC0 : RW w g cells ((w.alloc (.cells #[.int .i64 op,.int .i64 a,.int .i64 b,.int .i32 n,.int .i64 f] 25)).alloc (.cells #[.int .i64 0,.int .i64 0,.int .u32 0] 92)) := ((RW.start hB).alloc _).alloc _
  clear hB
  go_enter Tryd.func69,Tryd.ntmps69
  go_wp2_with fail
  generalize ((w.alloc (.cells #[.int .i64 op,.int .i64 a,.int .i64 b,.int .i32 n,.int .i64 f] 25)).alloc (.cells #[.int .i64 0,.int .i64 0,.int .u32 0] 92)) = w1 at hI0 hX0 hC0 ⊢
  have hBb : (b : Int) < 4 := by omega
  have i2 := hI0.cell 2
  simp only [List.getElem?_cons_zero,List.getElem?_cons_succ] at i2
  have c2 := (hC0.blk.cell (8 + b)).trans hz2
  go_quiet (fail)
  have hC1 := hC0.drewN nq
  have hX1 : Blk (w1.drewN nq) (w.heap.size + 1) _ _ := hX0
  have hI1 : Blk (w1.drewN nq) w.heap.size _ _ := hI0
  have c3 : (w1.drewN nq).cell? ⟨g,8 + b,none⟩ = some (.complex .f64 p q) := c2
  have i3 : (w1.drewN nq).cell? ⟨w.heap.size,2,none⟩ = some (.int .i64 b) := i2
  clear hI0 hX0 hC0 i2 c2
  generalize w1.drewN nq = w2 at hC1 hX1 hI1 c3 i3 ⊢
  go_wp2_with fail
  go_quiet (fail)
  have hC0 := hC1.drewN nq
  have hX0 : Blk (w2.drewN nq) (w.heap.size + 1) _ _ := hX1
  have hI0 : Blk (w2.drewN nq) w.heap.size _ _ := hI1
  clear hC1 hX1 hI1 c3 i3
  generalize w2.drewN nq = w3 at hC0 hX0 hI0 ⊢
  go_wp2_with (first
    | (go_at_call 88; refine (hw.out _).mono ?_; rintro e w7 ⟨rfl,rfl⟩)
    | (go_at_call 66; refine (rtrap_any 8 _).mono ?_; rintro e w4 ⟨rfl,hb4⟩; have hX4 := hX0.below hb4 hX0.lt; have hC2 := hC0.below hb4)
    | ((with_reducible show wpList _ _ _ (Oper.mk none (Op.store _ (Operand.tmp 6) (Operand.tmp 268)) _ _ _ _ :: _) _ _); refine wpList_st3 hX4 rfl 92 (.tmp 6) (.tmp 268) (.int .i64 6) (.int .i64 8) (.int .u32 0) rfl (by kernel_rfl) (by kernel_rfl) (by simp [Value.oneCell']) (by kernel_rfl) ?_; rintro ⟨z0,z1,z2⟩)
    | fail)
  refine bodyPost_ret (v := .agg #[.int .i64 6,.int .i64 8,.int .u32 0]) (by simp [results,Tryd.results69,go_sem,z0,z1,z2]) rfl ⟨rfl,RW.farCells (by omega) _ _ _ hC2⟩
end Go.Proofs.YthcjnkakfpmpbaaDoor
