import Derived.Test.YthcjnkakfpmpbaaDoorQ16
namespace Go.Proofs.YthcjnkakfpmpbaaDoor
open Go.RowKit
set_option linter.unusedVariables false
set_option linter.unusedSimpArgs false
set_option maxRecDepth 20000 in
set_option maxHeartbeats 4000000 in
theorem two_ldb (op n f : Int) (a b : Nat) (M : Value) (from_ : Int) (x y V : Int) (w : World) (g : Nat) (cells : List Value) (hT : TabIs 0 w) (htg : 0 ≠ g) (hB : Blk w g 119 cells) (ha : a < 8) (hb : b < 8)
    (hx : cells[a]? = some (.int .i32 x)) (hy : cells[b]? = some (.int .i32 y)) (y0 : -2147483648 ≤ y) (y1 : y ≤ 2147483647) (Hby : Hid (∀ W,CW w g cells W → Calls Tryd.prog 84 #[M,.int .i64 from_,.int .u32 (y % 4294967296),.int .i64 1] W fun e w' => e = .returned (.tuple #[.int .i32 V,.bool true]) ∧ W = w')) (hnm : opName op = [108,100,98]) :
    Calls Tryd.prog 60 #[.pointer (some ⟨g,0,none⟩),.agg #[.int .i64 op,.int .i64 a,.int .i64 b,.int .i32 n,.int .i64 f],M,.int .i64 from_] w fun e w' => e = .returned (.agg #[.int .i64 0,.int .i64 0,.int .u32 0]) ∧ CW w g (cells.set a (.int .i32 V)) w' := by
  have hg := hB.lt
  have Hn := Lib.hid (fun w hT => hnm ▸ cname_any op w hT)
  have HB := Lib.hid hB
  have ca := (hB.cell a).trans hx
  have cb := (hB.cell b).trans hy
  have qa : ((w.alloc (.cells #[.int .i64 op,.int .i64 a,.int .i64 b,.int .i32 n,.int .i64 f] 25)).alloc (.cells #[.int .i64 0,.int .i64 0,.int .u32 0] 56)).cell? ⟨g,a,none⟩ = some (.int .i32 x) := by
    rw [World.cell?_alloc_lt _ _ ⟨g,a,none⟩ (by simp; omega),World.cell?_alloc_lt _ _ ⟨g,a,none⟩ hg]; exact ca
  have qb : ((w.alloc (.cells #[.int .i64 op,.int .i64 a,.int .i64 b,.int .i32 n,.int .i64 f] 25)).alloc (.cells #[.int .i64 0,.int .i64 0,.int .u32 0] 56)).cell? ⟨g,b,none⟩ = some (.int .i32 y) := by
    rw [World.cell?_alloc_lt _ _ ⟨g,b,none⟩ (by simp; omega),World.cell?_alloc_lt _ _ ⟨g,b,none⟩ hg]; exact cb
  have Hx := Lib.hid hx
  clear hB hx hy
  go_enter Tryd.func60,Tryd.ntmps60
  go_wp2_with fail
  go_quiet (fail)
  have hX0 : Blk (((w.alloc (.cells #[.int .i64 op,.int .i64 a,.int .i64 b,.int .i32 n,.int .i64 f] 25)).alloc (.cells #[.int .i64 0,.int .i64 0,.int .u32 0] 56)).drewN nq) (w.heap.size + 1) 56 [.int .i64 0,.int .i64 0,.int .u32 0] := by
    have := Blk.new (w.alloc (.cells #[.int .i64 op,.int .i64 a,.int .i64 b,.int .i32 n,.int .i64 f] 25)) 56 [.int .i64 0,.int .i64 0,.int .u32 0]
    rw [World.size_alloc] at this
    exact this
  clear qa qb ca cb
  go_wp2_with (first
    | (go_at_call 82; refine (Hn.out _ (((hT.alloc _).alloc _).drewN nq)).mono ?_; rintro e w2 ⟨rfl,hb2⟩; have hC2 := ((((CW.start HB.out).alloc _).alloc _).drewN nq).below hb2; have hX2 := hX0.below hb2 hX0.lt; have q2 := (hC2.blk.cell a).trans Hx.out; have f2 := hC2.blk.free a; have HC2 := Lib.hid hC2; clear hC2)
    | (go_at_call 84; refine (Hby.out w2 HC2.out).mono ?_; rintro e w4 ⟨rfl,rfl⟩)
    | ((with_reducible show wpList _ _ _ (Oper.mk none (Op.store _ (Operand.tmp 8) (Operand.tmp 173)) _ _ _ _ :: _) _ _); refine wpList_st3 (hX2.other (by show w.heap.size + 1 ≠ g; omega)) rfl 56 (.tmp 8) (.tmp 173) (.int .i64 0) (.int .i64 0) (.int .u32 0) rfl (by kernel_rfl) (by kernel_rfl) (by simp [Value.oneCell']) (by kernel_rfl) ?_; rintro ⟨z0,z1,z2⟩)
    | fail)
  refine bodyPost_ret (v := .agg #[.int .i64 0,.int .i64 0,.int .u32 0]) (by simp [results,Tryd.results60,go_sem,z0,z1,z2]) rfl ⟨rfl,?_⟩
  exact CW.farCells (by omega) _ _ _ (HC2.out.setReg a _)
set_option maxRecDepth 20000 in
set_option maxHeartbeats 4000000 in
theorem two_ldb_no (op n f : Int) (a b : Nat) (M : Value) (from_ : Int) (x y : Int) (w : World) (g : Nat) (cells : List Value) (hT : TabIs 0 w) (htg : 0 ≠ g) (hB : Blk w g 119 cells) (ha : a < 8) (hb : b < 8)
    (hx : cells[a]? = some (.int .i32 x)) (hy : cells[b]? = some (.int .i32 y)) (y0 : -2147483648 ≤ y) (y1 : y ≤ 2147483647) (Hby : Hid (∀ W,CW w g cells W → Calls Tryd.prog 84 #[M,.int .i64 from_,.int .u32 (y % 4294967296),.int .i64 1] W fun e w' => e = .returned (.tuple #[.int .i32 0,.bool false]) ∧ W = w')) (hnm : opName op = [108,100,98]) :
    Calls Tryd.prog 60 #[.pointer (some ⟨g,0,none⟩),.agg #[.int .i64 op,.int .i64 a,.int .i64 b,.int .i32 n,.int .i64 f],M,.int .i64 from_] w fun e w' => e = .returned (.agg #[.int .i64 6,.int .i64 3,.int .u32 0]) ∧ CW w g (cells) w' := by
  have hg := hB.lt
  have Hn := Lib.hid (fun w hT => hnm ▸ cname_any op w hT)
  have HB := Lib.hid hB
  have ca := (hB.cell a).trans hx
  have cb := (hB.cell b).trans hy
  have qa : ((w.alloc (.cells #[.int .i64 op,.int .i64 a,.int .i64 b,.int .i32 n,.int .i64 f] 25)).alloc (.cells #[.int .i64 0,.int .i64 0,.int .u32 0] 56)).cell? ⟨g,a,none⟩ = some (.int .i32 x) := by
    rw [World.cell?_alloc_lt _ _ ⟨g,a,none⟩ (by simp; omega),World.cell?_alloc_lt _ _ ⟨g,a,none⟩ hg]; exact ca
  have qb : ((w.alloc (.cells #[.int .i64 op,.int .i64 a,.int .i64 b,.int .i32 n,.int .i64 f] 25)).alloc (.cells #[.int .i64 0,.int .i64 0,.int .u32 0] 56)).cell? ⟨g,b,none⟩ = some (.int .i32 y) := by
    rw [World.cell?_alloc_lt _ _ ⟨g,b,none⟩ (by simp; omega),World.cell?_alloc_lt _ _ ⟨g,b,none⟩ hg]; exact cb
  have Hx := Lib.hid hx
  clear hB hx hy
  go_enter Tryd.func60,Tryd.ntmps60
  go_wp2_with fail
  go_quiet (fail)
  have hX0 : Blk (((w.alloc (.cells #[.int .i64 op,.int .i64 a,.int .i64 b,.int .i32 n,.int .i64 f] 25)).alloc (.cells #[.int .i64 0,.int .i64 0,.int .u32 0] 56)).drewN nq) (w.heap.size + 1) 56 [.int .i64 0,.int .i64 0,.int .u32 0] := by
    have := Blk.new (w.alloc (.cells #[.int .i64 op,.int .i64 a,.int .i64 b,.int .i32 n,.int .i64 f] 25)) 56 [.int .i64 0,.int .i64 0,.int .u32 0]
    rw [World.size_alloc] at this
    exact this
  clear qa qb ca cb
  go_wp2_with (first
    | (go_at_call 82; refine (Hn.out _ (((hT.alloc _).alloc _).drewN nq)).mono ?_; rintro e w2 ⟨rfl,hb2⟩; have hC2 := ((((CW.start HB.out).alloc _).alloc _).drewN nq).below hb2; have hX2 := hX0.below hb2 hX0.lt; have q2 := (hC2.blk.cell a).trans Hx.out; have f2 := hC2.blk.free a; have HC2 := Lib.hid hC2; clear hC2)
    | (go_at_call 84; refine (Hby.out w2 HC2.out).mono ?_; rintro e w4 ⟨rfl,rfl⟩)
    | (go_at_call 57; refine (ctrap_any 3 w2).mono ?_; rintro e w4 ⟨rfl,hb4⟩; have hX4 := hX2.below hb4 hX2.lt; have HC4 := Lib.hid (HC2.out.below hb4))
    | ((with_reducible show wpList _ _ _ (Oper.mk none (Op.store _ (Operand.tmp 8) (Operand.tmp 169)) _ _ _ _ :: _) _ _); refine wpList_st3 hX4 rfl 56 (.tmp 8) (.tmp 169) (.int .i64 6) (.int .i64 3) (.int .u32 0) rfl (by kernel_rfl) (by kernel_rfl) (by simp [Value.oneCell']) (by kernel_rfl) ?_; rintro ⟨z0,z1,z2⟩)
    | fail)
  refine bodyPost_ret (v := .agg #[.int .i64 6,.int .i64 3,.int .u32 0]) (by simp [results,Tryd.results60,go_sem,z0,z1,z2]) rfl ⟨rfl,?_⟩
  exact CW.farCells (by omega) _ _ _ HC4.out
set_option maxRecDepth 20000 in
set_option maxHeartbeats 4000000 in
theorem two_ldw (op n f : Int) (a b : Nat) (M : Value) (from_ : Int) (x y V : Int) (w : World) (g : Nat) (cells : List Value) (hT : TabIs 0 w) (htg : 0 ≠ g) (hB : Blk w g 119 cells) (ha : a < 8) (hb : b < 8)
    (hx : cells[a]? = some (.int .i32 x)) (hy : cells[b]? = some (.int .i32 y)) (y0 : -2147483648 ≤ y) (y1 : y ≤ 2147483647) (Hby : Hid (∀ W,CW w g cells W → Calls Tryd.prog 84 #[M,.int .i64 from_,.int .u32 (y % 4294967296),.int .i64 4] W fun e w' => e = .returned (.tuple #[.int .i32 V,.bool true]) ∧ W = w')) (hnm : opName op = [108,100,119]) :
    Calls Tryd.prog 60 #[.pointer (some ⟨g,0,none⟩),.agg #[.int .i64 op,.int .i64 a,.int .i64 b,.int .i32 n,.int .i64 f],M,.int .i64 from_] w fun e w' => e = .returned (.agg #[.int .i64 0,.int .i64 0,.int .u32 0]) ∧ CW w g (cells.set a (.int .i32 V)) w' := by
  have hg := hB.lt
  have Hn := Lib.hid (fun w hT => hnm ▸ cname_any op w hT)
  have HB := Lib.hid hB
  have ca := (hB.cell a).trans hx
  have cb := (hB.cell b).trans hy
  have qa : ((w.alloc (.cells #[.int .i64 op,.int .i64 a,.int .i64 b,.int .i32 n,.int .i64 f] 25)).alloc (.cells #[.int .i64 0,.int .i64 0,.int .u32 0] 56)).cell? ⟨g,a,none⟩ = some (.int .i32 x) := by
    rw [World.cell?_alloc_lt _ _ ⟨g,a,none⟩ (by simp; omega),World.cell?_alloc_lt _ _ ⟨g,a,none⟩ hg]; exact ca
  have qb : ((w.alloc (.cells #[.int .i64 op,.int .i64 a,.int .i64 b,.int .i32 n,.int .i64 f] 25)).alloc (.cells #[.int .i64 0,.int .i64 0,.int .u32 0] 56)).cell? ⟨g,b,none⟩ = some (.int .i32 y) := by
    rw [World.cell?_alloc_lt _ _ ⟨g,b,none⟩ (by simp; omega),World.cell?_alloc_lt _ _ ⟨g,b,none⟩ hg]; exact cb
  have Hx := Lib.hid hx
  clear hB hx hy
  go_enter Tryd.func60,Tryd.ntmps60
  go_wp2_with fail
  go_quiet (fail)
  have hX0 : Blk (((w.alloc (.cells #[.int .i64 op,.int .i64 a,.int .i64 b,.int .i32 n,.int .i64 f] 25)).alloc (.cells #[.int .i64 0,.int .i64 0,.int .u32 0] 56)).drewN nq) (w.heap.size + 1) 56 [.int .i64 0,.int .i64 0,.int .u32 0] := by
    have := Blk.new (w.alloc (.cells #[.int .i64 op,.int .i64 a,.int .i64 b,.int .i32 n,.int .i64 f] 25)) 56 [.int .i64 0,.int .i64 0,.int .u32 0]
    rw [World.size_alloc] at this
    exact this
  clear qa qb ca cb
  go_wp2_with (first
    | (go_at_call 82; refine (Hn.out _ (((hT.alloc _).alloc _).drewN nq)).mono ?_; rintro e w2 ⟨rfl,hb2⟩; have hC2 := ((((CW.start HB.out).alloc _).alloc _).drewN nq).below hb2; have hX2 := hX0.below hb2 hX0.lt; have q2 := (hC2.blk.cell a).trans Hx.out; have f2 := hC2.blk.free a; have HC2 := Lib.hid hC2; clear hC2)
    | (go_at_call 84; refine (Hby.out w2 HC2.out).mono ?_; rintro e w4 ⟨rfl,rfl⟩)
    | ((with_reducible show wpList _ _ _ (Oper.mk none (Op.store _ (Operand.tmp 8) (Operand.tmp 173)) _ _ _ _ :: _) _ _); refine wpList_st3 (hX2.other (by show w.heap.size + 1 ≠ g; omega)) rfl 56 (.tmp 8) (.tmp 173) (.int .i64 0) (.int .i64 0) (.int .u32 0) rfl (by kernel_rfl) (by kernel_rfl) (by simp [Value.oneCell']) (by kernel_rfl) ?_; rintro ⟨z0,z1,z2⟩)
    | fail)
  refine bodyPost_ret (v := .agg #[.int .i64 0,.int .i64 0,.int .u32 0]) (by simp [results,Tryd.results60,go_sem,z0,z1,z2]) rfl ⟨rfl,?_⟩
  exact CW.farCells (by omega) _ _ _ (HC2.out.setReg a _)
set_option maxRecDepth 20000 in
set_option maxHeartbeats 4000000 in
theorem two_ldw_no (op n f : Int) (a b : Nat) (M : Value) (from_ : Int) (x y : Int) (w : World) (g : Nat) (cells : List Value) (hT : TabIs 0 w) (htg : 0 ≠ g) (hB : Blk w g 119 cells) (ha : a < 8) (hb : b < 8)
    (hx : cells[a]? = some (.int .i32 x)) (hy : cells[b]? = some (.int .i32 y)) (y0 : -2147483648 ≤ y) (y1 : y ≤ 2147483647) (Hby : Hid (∀ W,CW w g cells W → Calls Tryd.prog 84 #[M,.int .i64 from_,.int .u32 (y % 4294967296),.int .i64 4] W fun e w' => e = .returned (.tuple #[.int .i32 0,.bool false]) ∧ W = w')) (hnm : opName op = [108,100,119]) :
    Calls Tryd.prog 60 #[.pointer (some ⟨g,0,none⟩),.agg #[.int .i64 op,.int .i64 a,.int .i64 b,.int .i32 n,.int .i64 f],M,.int .i64 from_] w fun e w' => e = .returned (.agg #[.int .i64 6,.int .i64 3,.int .u32 0]) ∧ CW w g (cells) w' := by
  have hg := hB.lt
  have Hn := Lib.hid (fun w hT => hnm ▸ cname_any op w hT)
  have HB := Lib.hid hB
  have ca := (hB.cell a).trans hx
  have cb := (hB.cell b).trans hy
  have qa : ((w.alloc (.cells #[.int .i64 op,.int .i64 a,.int .i64 b,.int .i32 n,.int .i64 f] 25)).alloc (.cells #[.int .i64 0,.int .i64 0,.int .u32 0] 56)).cell? ⟨g,a,none⟩ = some (.int .i32 x) := by
    rw [World.cell?_alloc_lt _ _ ⟨g,a,none⟩ (by simp; omega),World.cell?_alloc_lt _ _ ⟨g,a,none⟩ hg]; exact ca
  have qb : ((w.alloc (.cells #[.int .i64 op,.int .i64 a,.int .i64 b,.int .i32 n,.int .i64 f] 25)).alloc (.cells #[.int .i64 0,.int .i64 0,.int .u32 0] 56)).cell? ⟨g,b,none⟩ = some (.int .i32 y) := by
    rw [World.cell?_alloc_lt _ _ ⟨g,b,none⟩ (by simp; omega),World.cell?_alloc_lt _ _ ⟨g,b,none⟩ hg]; exact cb
  have Hx := Lib.hid hx
  clear hB hx hy
  go_enter Tryd.func60,Tryd.ntmps60
  go_wp2_with fail
  go_quiet (fail)
  have hX0 : Blk (((w.alloc (.cells #[.int .i64 op,.int .i64 a,.int .i64 b,.int .i32 n,.int .i64 f] 25)).alloc (.cells #[.int .i64 0,.int .i64 0,.int .u32 0] 56)).drewN nq) (w.heap.size + 1) 56 [.int .i64 0,.int .i64 0,.int .u32 0] := by
    have := Blk.new (w.alloc (.cells #[.int .i64 op,.int .i64 a,.int .i64 b,.int .i32 n,.int .i64 f] 25)) 56 [.int .i64 0,.int .i64 0,.int .u32 0]
    rw [World.size_alloc] at this
    exact this
  clear qa qb ca cb
  go_wp2_with (first
    | (go_at_call 82; refine (Hn.out _ (((hT.alloc _).alloc _).drewN nq)).mono ?_; rintro e w2 ⟨rfl,hb2⟩; have hC2 := ((((CW.start HB.out).alloc _).alloc _).drewN nq).below hb2; have hX2 := hX0.below hb2 hX0.lt; have q2 := (hC2.blk.cell a).trans Hx.out; have f2 := hC2.blk.free a; have HC2 := Lib.hid hC2; clear hC2)
    | (go_at_call 84; refine (Hby.out w2 HC2.out).mono ?_; rintro e w4 ⟨rfl,rfl⟩)
    | (go_at_call 57; refine (ctrap_any 3 w2).mono ?_; rintro e w4 ⟨rfl,hb4⟩; have hX4 := hX2.below hb4 hX2.lt; have HC4 := Lib.hid (HC2.out.below hb4))
    | ((with_reducible show wpList _ _ _ (Oper.mk none (Op.store _ (Operand.tmp 8) (Operand.tmp 169)) _ _ _ _ :: _) _ _); refine wpList_st3 hX4 rfl 56 (.tmp 8) (.tmp 169) (.int .i64 6) (.int .i64 3) (.int .u32 0) rfl (by kernel_rfl) (by kernel_rfl) (by simp [Value.oneCell']) (by kernel_rfl) ?_; rintro ⟨z0,z1,z2⟩)
    | fail)
  refine bodyPost_ret (v := .agg #[.int .i64 6,.int .i64 3,.int .u32 0]) (by simp [results,Tryd.results60,go_sem,z0,z1,z2]) rfl ⟨rfl,?_⟩
  exact CW.farCells (by omega) _ _ _ HC4.out
set_option maxRecDepth 20000 in
set_option maxHeartbeats 4000000 in
theorem two_shl (op n f : Int) (a b : Nat) (M : Value) (from_ : Int) (x y R : Int) (w : World) (g : Nat) (cells : List Value) (hT : TabIs 0 w) (htg : 0 ≠ g) (hB : Blk w g 119 cells) (ha : a < 8) (hb : b < 8)
    (hx : cells[a]? = some (.int .i32 x)) (hy : cells[b]? = some (.int .i32 y)) (x0 : -2147483648 ≤ x) (x1 : x ≤ 2147483647) (y0 : -2147483648 ≤ y) (y1 : y ≤ 2147483647) (hsh : Op.shift BinOp.shl IntKind.i32 x IntKind.u32 (bits BinOp.and IntKind.u32 (y % 4294967296) 31) = pure (.int .i32 R)) (hnm : opName op = [115,104,108]) :
    Calls Tryd.prog 60 #[.pointer (some ⟨g,0,none⟩),.agg #[.int .i64 op,.int .i64 a,.int .i64 b,.int .i32 n,.int .i64 f],M,.int .i64 from_] w fun e w' => e = .returned (.agg #[.int .i64 0,.int .i64 0,.int .u32 0]) ∧ CW w g (cells.set a (.int .i32 R)) w' := by
  have hg := hB.lt
  have Hn := Lib.hid (fun w hT => hnm ▸ cname_any op w hT)
  have HB := Lib.hid hB
  have ca := (hB.cell a).trans hx
  have cb := (hB.cell b).trans hy
  have qa : ((w.alloc (.cells #[.int .i64 op,.int .i64 a,.int .i64 b,.int .i32 n,.int .i64 f] 25)).alloc (.cells #[.int .i64 0,.int .i64 0,.int .u32 0] 56)).cell? ⟨g,a,none⟩ = some (.int .i32 x) := by
    rw [World.cell?_alloc_lt _ _ ⟨g,a,none⟩ (by simp; omega),World.cell?_alloc_lt _ _ ⟨g,a,none⟩ hg]; exact ca
  have qb : ((w.alloc (.cells #[.int .i64 op,.int .i64 a,.int .i64 b,.int .i32 n,.int .i64 f] 25)).alloc (.cells #[.int .i64 0,.int .i64 0,.int .u32 0] 56)).cell? ⟨g,b,none⟩ = some (.int .i32 y) := by
    rw [World.cell?_alloc_lt _ _ ⟨g,b,none⟩ (by simp; omega),World.cell?_alloc_lt _ _ ⟨g,b,none⟩ hg]; exact cb
  have Hx := Lib.hid hx
  clear hB hx hy
  go_enter Tryd.func60,Tryd.ntmps60
  go_wp2_with fail
  go_quiet (fail)
  have hX0 : Blk (((w.alloc (.cells #[.int .i64 op,.int .i64 a,.int .i64 b,.int .i32 n,.int .i64 f] 25)).alloc (.cells #[.int .i64 0,.int .i64 0,.int .u32 0] 56)).drewN nq) (w.heap.size + 1) 56 [.int .i64 0,.int .i64 0,.int .u32 0] := by
    have := Blk.new (w.alloc (.cells #[.int .i64 op,.int .i64 a,.int .i64 b,.int .i32 n,.int .i64 f] 25)) 56 [.int .i64 0,.int .i64 0,.int .u32 0]
    rw [World.size_alloc] at this
    exact this
  clear qa qb ca cb
  go_wp2_with (first
    | (go_at_call 82; refine (Hn.out _ (((hT.alloc _).alloc _).drewN nq)).mono ?_; rintro e w2 ⟨rfl,hb2⟩; have hC2 := ((((CW.start HB.out).alloc _).alloc _).drewN nq).below hb2; have hX2 := hX0.below hb2 hX0.lt; have q2 := (hC2.blk.cell a).trans Hx.out; have f2 := hC2.blk.free a; have HC2 := Lib.hid hC2; clear hC2)
    | rw [hsh]
    | ((with_reducible show wpList _ _ _ (Oper.mk none (Op.store _ (Operand.tmp 8) (Operand.tmp 173)) _ _ _ _ :: _) _ _); refine wpList_st3 (hX2.other (by show w.heap.size + 1 ≠ g; omega)) rfl 56 (.tmp 8) (.tmp 173) (.int .i64 0) (.int .i64 0) (.int .u32 0) rfl (by kernel_rfl) (by kernel_rfl) (by simp [Value.oneCell']) (by kernel_rfl) ?_; rintro ⟨z0,z1,z2⟩)
    | fail)
  refine bodyPost_ret (v := .agg #[.int .i64 0,.int .i64 0,.int .u32 0]) (by simp [results,Tryd.results60,go_sem,z0,z1,z2]) rfl ⟨rfl,?_⟩
  exact CW.farCells (by omega) _ _ _ (HC2.out.setReg a _)
end Go.Proofs.YthcjnkakfpmpbaaDoor
