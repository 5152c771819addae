import Derived.Test.YthcjnkakfpmpbaaDoorQ16
namespace Go.Proofs.YthcjnkakfpmpbaaDoor
open Go.RowKit
set_option linter.unusedVariables false
set_option linter.unusedSimpArgs false
set_option maxRecDepth 20000 in
set_option maxHeartbeats 4000000 in
theorem two_shr (op n f : Int) (a b : Nat) (M : Value) (from_ : Int) (x y R : Int) (w : World) (g : Nat) (cells : List Value) (hT : TabIs 0 w) (htg : 0 ≠ g) (hB : Blk w g 119 cells) (ha : a < 8) (hb : b < 8)
    (hx : cells[a]? = some (.int .i32 x)) (hy : cells[b]? = some (.int .i32 y)) (x0 : -2147483648 ≤ x) (x1 : x ≤ 2147483647) (y0 : -2147483648 ≤ y) (y1 : y ≤ 2147483647) (hsh : Op.shift BinOp.shr IntKind.u32 (x % 4294967296) IntKind.u32 (bits BinOp.and IntKind.u32 (y % 4294967296) 31) = pure (.int .u32 R)) (r0 : 0 ≤ R) (r1 : R < 4294967296) (hnm : opName op = [115,104,114]) :
    Calls Tryd.prog 60 #[.pointer (some ⟨g,0,none⟩),.agg #[.int .i64 op,.int .i64 a,.int .i64 b,.int .i32 n,.int .i64 f],M,.int .i64 from_] w fun e w' => e = .returned (.agg #[.int .i64 0,.int .i64 0,.int .u32 0]) ∧ CW w g (cells.set a (.int .i32 (wrap32 R))) w' := by
  have hg := hB.lt
  have Hn := Lib.hid (fun w hT => hnm ▸ cname_any op w hT)
  have HB := Lib.hid hB
  have ca := (hB.cell a).trans hx
  have cb := (hB.cell b).trans hy
  have qa : ((w.alloc (.cells #[.int .i64 op,.int .i64 a,.int .i64 b,.int .i32 n,.int .i64 f] 25)).alloc (.cells #[.int .i64 0,.int .i64 0,.int .u32 0] 56)).cell? ⟨g,a,none⟩ = some (.int .i32 x) := by
    rw [World.cell?_alloc_lt _ _ ⟨g,a,none⟩ (by simp; omega),World.cell?_alloc_lt _ _ ⟨g,a,none⟩ hg]; exact ca
  have qb : ((w.alloc (.cells #[.int .i64 op,.int .i64 a,.int .i64 b,.int .i32 n,.int .i64 f] 25)).alloc (.cells #[.int .i64 0,.int .i64 0,.int .u32 0] 56)).cell? ⟨g,b,none⟩ = some (.int .i32 y) := by
    rw [World.cell?_alloc_lt _ _ ⟨g,b,none⟩ (by simp; omega),World.cell?_alloc_lt _ _ ⟨g,b,none⟩ hg]; exact cb
  have Hx := Lib.hid hx
  clear hB hx hy
  go_enter Tryd.func60,Tryd.ntmps60
  go_wp2_with fail
  go_quiet (fail)
  have hX0 : Blk (((w.alloc (.cells #[.int .i64 op,.int .i64 a,.int .i64 b,.int .i32 n,.int .i64 f] 25)).alloc (.cells #[.int .i64 0,.int .i64 0,.int .u32 0] 56)).drewN nq) (w.heap.size + 1) 56 [.int .i64 0,.int .i64 0,.int .u32 0] := by
    have := Blk.new (w.alloc (.cells #[.int .i64 op,.int .i64 a,.int .i64 b,.int .i32 n,.int .i64 f] 25)) 56 [.int .i64 0,.int .i64 0,.int .u32 0]
    rw [World.size_alloc] at this
    exact this
  clear qa qb ca cb
  go_wp2_with (first
    | (go_at_call 82; refine (Hn.out _ (((hT.alloc _).alloc _).drewN nq)).mono ?_; rintro e w2 ⟨rfl,hb2⟩; have hC2 := ((((CW.start HB.out).alloc _).alloc _).drewN nq).below hb2; have hX2 := hX0.below hb2 hX0.lt; have q2 := (hC2.blk.cell a).trans Hx.out; have f2 := hC2.blk.free a; have HC2 := Lib.hid hC2; clear hC2)
    | rw [hsh]
    | ((with_reducible show wpList _ _ _ (Oper.mk none (Op.store _ (Operand.tmp 8) (Operand.tmp 173)) _ _ _ _ :: _) _ _); refine wpList_st3 (hX2.other (by show w.heap.size + 1 ≠ g; omega)) rfl 56 (.tmp 8) (.tmp 173) (.int .i64 0) (.int .i64 0) (.int .u32 0) rfl (by kernel_rfl) (by kernel_rfl) (by simp [Value.oneCell']) (by kernel_rfl) ?_; rintro ⟨z0,z1,z2⟩)
    | fail)
  refine bodyPost_ret (v := .agg #[.int .i64 0,.int .i64 0,.int .u32 0]) (by simp [results,Tryd.results60,go_sem,z0,z1,z2]) rfl ⟨rfl,?_⟩
  exact CW.farCells (by omega) _ _ _ (HC2.out.setReg a _)
set_option maxRecDepth 20000 in
set_option maxHeartbeats 4000000 in
theorem two_ldm (op n f : Int) (a b : Nat) (M : Value) (from_ : Int) (x V : Int) (k : Nat) (w : World) (g : Nat) (cells : List Value) (hT : TabIs 0 w) (htg : 0 ≠ g) (hB : Blk w g 119 cells) (ha : a < 8) (hb : b < 8)
    (hx : cells[a]? = some (.int .i32 x)) (hy : cells[b]? = some (.int .i32 k)) (hk : k < 256) (hkI : (k : Int) < 256) (hkm : (k : Int) % 4294967296 = k) (hv : cells[12 + k]? = some (.int .i32 V)) (hnm : opName op = [108,100,109]) :
    Calls Tryd.prog 60 #[.pointer (some ⟨g,0,none⟩),.agg #[.int .i64 op,.int .i64 a,.int .i64 b,.int .i32 n,.int .i64 f],M,.int .i64 from_] w fun e w' => e = .returned (.agg #[.int .i64 0,.int .i64 0,.int .u32 0]) ∧ CW w g (cells.set a (.int .i32 V)) w' := by
  have hg := hB.lt
  have Hn := Lib.hid (fun w hT => hnm ▸ cname_any op w hT)
  have HB := Lib.hid hB
  have ca := (hB.cell a).trans hx
  have cb := (hB.cell b).trans hy
  have qa : ((w.alloc (.cells #[.int .i64 op,.int .i64 a,.int .i64 b,.int .i32 n,.int .i64 f] 25)).alloc (.cells #[.int .i64 0,.int .i64 0,.int .u32 0] 56)).cell? ⟨g,a,none⟩ = some (.int .i32 x) := by
    rw [World.cell?_alloc_lt _ _ ⟨g,a,none⟩ (by simp; omega),World.cell?_alloc_lt _ _ ⟨g,a,none⟩ hg]; exact ca
  have qb : ((w.alloc (.cells #[.int .i64 op,.int .i64 a,.int .i64 b,.int .i32 n,.int .i64 f] 25)).alloc (.cells #[.int .i64 0,.int .i64 0,.int .u32 0] 56)).cell? ⟨g,b,none⟩ = some (.int .i32 k) := by
    rw [World.cell?_alloc_lt _ _ ⟨g,b,none⟩ (by simp; omega),World.cell?_alloc_lt _ _ ⟨g,b,none⟩ hg]; exact cb
  have Hx := Lib.hid hx
  clear hB hx hy
  go_enter Tryd.func60,Tryd.ntmps60
  go_wp2_with fail
  go_quiet (fail)
  have hX0 : Blk (((w.alloc (.cells #[.int .i64 op,.int .i64 a,.int .i64 b,.int .i32 n,.int .i64 f] 25)).alloc (.cells #[.int .i64 0,.int .i64 0,.int .u32 0] 56)).drewN nq) (w.heap.size + 1) 56 [.int .i64 0,.int .i64 0,.int .u32 0] := by
    have := Blk.new (w.alloc (.cells #[.int .i64 op,.int .i64 a,.int .i64 b,.int .i32 n,.int .i64 f] 25)) 56 [.int .i64 0,.int .i64 0,.int .u32 0]
    rw [World.size_alloc] at this
    exact this
  clear qa qb ca cb
  go_wp2_with (first
    | (go_at_call 82; refine (Hn.out _ (((hT.alloc _).alloc _).drewN nq)).mono ?_; rintro e w2 ⟨rfl,hb2⟩; have hC2 := ((((CW.start HB.out).alloc _).alloc _).drewN nq).below hb2; have hX2 := hX0.below hb2 hX0.lt; have q2 := (hC2.blk.cell a).trans Hx.out; have f2 := hC2.blk.free a; have q3 := (hC2.blk.cell (12 + k)).trans hv; have HC2 := Lib.hid hC2; clear hC2)
    | ((with_reducible show wpList _ _ _ (Oper.mk none (Op.store _ (Operand.tmp 8) (Operand.tmp 173)) _ _ _ _ :: _) _ _); refine wpList_st3 (hX2.other (by show w.heap.size + 1 ≠ g; omega)) rfl 56 (.tmp 8) (.tmp 173) (.int .i64 0) (.int .i64 0) (.int .u32 0) rfl (by kernel_rfl) (by kernel_rfl) (by simp [Value.oneCell']) (by kernel_rfl) ?_; rintro ⟨z0,z1,z2⟩)
    | fail)
  refine bodyPost_ret (v := .agg #[.int .i64 0,.int .i64 0,.int .u32 0]) (by simp [results,Tryd.results60,go_sem,z0,z1,z2]) rfl ⟨rfl,?_⟩
  exact CW.farCells (by omega) _ _ _ (HC2.out.setReg a _)
set_option maxRecDepth 20000 in
set_option maxHeartbeats 4000000 in
theorem two_ldm_no (op n f : Int) (a b : Nat) (M : Value) (from_ : Int) (x y m : Int) (w : World) (g : Nat) (cells : List Value) (hT : TabIs 0 w) (htg : 0 ≠ g) (hB : Blk w g 119 cells) (ha : a < 8) (hb : b < 8)
    (hx : cells[a]? = some (.int .i32 x)) (hy : cells[b]? = some (.int .i32 y)) (hm : y % 4294967296 = m) (hno : ¬ (m < 256)) (hdec : decide (m < 256) = false) (hnm : opName op = [108,100,109]) :
    Calls Tryd.prog 60 #[.pointer (some ⟨g,0,none⟩),.agg #[.int .i64 op,.int .i64 a,.int .i64 b,.int .i32 n,.int .i64 f],M,.int .i64 from_] w fun e w' => e = .returned (.agg #[.int .i64 6,.int .i64 3,.int .u32 0]) ∧ CW w g (cells) w' := by
  have hg := hB.lt
  have Hn := Lib.hid (fun w hT => hnm ▸ cname_any op w hT)
  have HB := Lib.hid hB
  have ca := (hB.cell a).trans hx
  have cb := (hB.cell b).trans hy
  have qa : ((w.alloc (.cells #[.int .i64 op,.int .i64 a,.int .i64 b,.int .i32 n,.int .i64 f] 25)).alloc (.cells #[.int .i64 0,.int .i64 0,.int .u32 0] 56)).cell? ⟨g,a,none⟩ = some (.int .i32 x) := by
    rw [World.cell?_alloc_lt _ _ ⟨g,a,none⟩ (by simp; omega),World.cell?_alloc_lt _ _ ⟨g,a,none⟩ hg]; exact ca
  have qb : ((w.alloc (.cells #[.int .i64 op,.int .i64 a,.int .i64 b,.int .i32 n,.int .i64 f] 25)).alloc (.cells #[.int .i64 0,.int .i64 0,.int .u32 0] 56)).cell? ⟨g,b,none⟩ = some (.int .i32 y) := by
    rw [World.cell?_alloc_lt _ _ ⟨g,b,none⟩ (by simp; omega),World.cell?_alloc_lt _ _ ⟨g,b,none⟩ hg]; exact cb
  have Hx := Lib.hid hx
  clear hB hx hy
  go_enter Tryd.func60,Tryd.ntmps60
  go_wp2_with fail
  go_quiet (fail)
  have hX0 : Blk (((w.alloc (.cells #[.int .i64 op,.int .i64 a,.int .i64 b,.int .i32 n,.int .i64 f] 25)).alloc (.cells #[.int .i64 0,.int .i64 0,.int .u32 0] 56)).drewN nq) (w.heap.size + 1) 56 [.int .i64 0,.int .i64 0,.int .u32 0] := by
    have := Blk.new (w.alloc (.cells #[.int .i64 op,.int .i64 a,.int .i64 b,.int .i32 n,.int .i64 f] 25)) 56 [.int .i64 0,.int .i64 0,.int .u32 0]
    rw [World.size_alloc] at this
    exact this
  clear qa qb ca cb
  go_wp2_with (first
    | (go_at_call 82; refine (Hn.out _ (((hT.alloc _).alloc _).drewN nq)).mono ?_; rintro e w2 ⟨rfl,hb2⟩; have hC2 := ((((CW.start HB.out).alloc _).alloc _).drewN nq).below hb2; have hX2 := hX0.below hb2 hX0.lt; have q2 := (hC2.blk.cell a).trans Hx.out; have f2 := hC2.blk.free a; have HC2 := Lib.hid hC2; clear hC2)
    | (go_at_call 57; refine (ctrap_any 3 w2).mono ?_; rintro e w4 ⟨rfl,hb4⟩; have hX4 := hX2.below hb4 hX2.lt; have HC4 := Lib.hid (HC2.out.below hb4))
    | ((with_reducible show wpList _ _ _ (Oper.mk none (Op.store _ (Operand.tmp 8) (Operand.tmp 169)) _ _ _ _ :: _) _ _); refine wpList_st3 hX4 rfl 56 (.tmp 8) (.tmp 169) (.int .i64 6) (.int .i64 3) (.int .u32 0) rfl (by kernel_rfl) (by kernel_rfl) (by simp [Value.oneCell']) (by kernel_rfl) ?_; rintro ⟨z0,z1,z2⟩)
    | fail)
  refine bodyPost_ret (v := .agg #[.int .i64 6,.int .i64 3,.int .u32 0]) (by simp [results,Tryd.results60,go_sem,z0,z1,z2]) rfl ⟨rfl,?_⟩
  exact CW.farCells (by omega) _ _ _ HC4.out
set_option maxRecDepth 20000 in
set_option maxHeartbeats 4000000 in
theorem two_stm (op n f : Int) (a b : Nat) (M : Value) (from_ : Int) (y : Int) (k : Nat) (w : World) (g : Nat) (cells : List Value) (hT : TabIs 0 w) (htg : 0 ≠ g) (hB : Blk w g 119 cells) (ha : a < 8) (hb : b < 8)
    (hx : cells[a]? = some (.int .i32 k)) (hy : cells[b]? = some (.int .i32 y)) (hk : k < 256) (hkI : (k : Int) < 256) (hkm : (k : Int) % 4294967296 = k) (V : Value) (hv : cells[12 + k]? = some V) (hnm : opName op = [115,116,109]) :
    Calls Tryd.prog 60 #[.pointer (some ⟨g,0,none⟩),.agg #[.int .i64 op,.int .i64 a,.int .i64 b,.int .i32 n,.int .i64 f],M,.int .i64 from_] w fun e w' => e = .returned (.agg #[.int .i64 0,.int .i64 0,.int .u32 0]) ∧ CW w g ((cells.set (12 + k) (.int .i32 y)).set a (.int .i32 k)) w' := by
  have hg := hB.lt
  have Hn := Lib.hid (fun w hT => hnm ▸ cname_any op w hT)
  have HB := Lib.hid hB
  have ca := (hB.cell a).trans hx
  have cb := (hB.cell b).trans hy
  have qa : ((w.alloc (.cells #[.int .i64 op,.int .i64 a,.int .i64 b,.int .i32 n,.int .i64 f] 25)).alloc (.cells #[.int .i64 0,.int .i64 0,.int .u32 0] 56)).cell? ⟨g,a,none⟩ = some (.int .i32 k) := by
    rw [World.cell?_alloc_lt _ _ ⟨g,a,none⟩ (by simp; omega),World.cell?_alloc_lt _ _ ⟨g,a,none⟩ hg]; exact ca
  have qb : ((w.alloc (.cells #[.int .i64 op,.int .i64 a,.int .i64 b,.int .i32 n,.int .i64 f] 25)).alloc (.cells #[.int .i64 0,.int .i64 0,.int .u32 0] 56)).cell? ⟨g,b,none⟩ = some (.int .i32 y) := by
    rw [World.cell?_alloc_lt _ _ ⟨g,b,none⟩ (by simp; omega),World.cell?_alloc_lt _ _ ⟨g,b,none⟩ hg]; exact cb
  have Hx := Lib.hid hx
  clear hB hx hy
  go_enter Tryd.func60,Tryd.ntmps60
  go_wp2_with fail
  go_quiet (fail)
  have hX0 : Blk (((w.alloc (.cells #[.int .i64 op,.int .i64 a,.int .i64 b,.int .i32 n,.int .i64 f] 25)).alloc (.cells #[.int .i64 0,.int .i64 0,.int .u32 0] 56)).drewN nq) (w.heap.size + 1) 56 [.int .i64 0,.int .i64 0,.int .u32 0] := by
    have := Blk.new (w.alloc (.cells #[.int .i64 op,.int .i64 a,.int .i64 b,.int .i32 n,.int .i64 f] 25)) 56 [.int .i64 0,.int .i64 0,.int .u32 0]
    rw [World.size_alloc] at this
    exact this
  clear qa qb ca cb
  go_wp2_with (first
    | (go_at_call 82; refine (Hn.out _ (((hT.alloc _).alloc _).drewN nq)).mono ?_; rintro e w2 ⟨rfl,hb2⟩; have hC2 := ((((CW.start HB.out).alloc _).alloc _).drewN nq).below hb2; have hX2 := hX0.below hb2 hX0.lt; have q2 := (hC2.blk.cell a).trans Hx.out; have f2 := hC2.blk.free a; have q3 := (hC2.blk.cell (12 + k)).trans hv; have f3 := hC2.blk.free (12 + k); have hka : 12 + k ≠ a := (by omega); have HC2 := Lib.hid hC2; clear hC2)
    | ((with_reducible show wpList _ _ _ (Oper.mk none (Op.store _ (Operand.tmp 8) (Operand.tmp 173)) _ _ _ _ :: _) _ _); refine wpList_st3 ((hX2.other (by show w.heap.size + 1 ≠ g; omega)).other (by show w.heap.size + 1 ≠ g; omega)) rfl 56 (.tmp 8) (.tmp 173) (.int .i64 0) (.int .i64 0) (.int .u32 0) rfl (by kernel_rfl) (by kernel_rfl) (by simp [Value.oneCell']) (by kernel_rfl) ?_; rintro ⟨z0,z1,z2⟩)
    | fail)
  refine bodyPost_ret (v := .agg #[.int .i64 0,.int .i64 0,.int .u32 0]) (by simp [results,Tryd.results60,go_sem,z0,z1,z2]) rfl ⟨rfl,?_⟩
  exact CW.farCells (by omega) _ _ _ ((HC2.out.setReg (12 + k) _).setReg a _)
set_option maxRecDepth 20000 in
set_option maxHeartbeats 4000000 in
theorem two_stm_no (op n f : Int) (a b : Nat) (M : Value) (from_ : Int) (x y m : Int) (w : World) (g : Nat) (cells : List Value) (hT : TabIs 0 w) (htg : 0 ≠ g) (hB : Blk w g 119 cells) (ha : a < 8) (hb : b < 8)
    (hx : cells[a]? = some (.int .i32 x)) (hy : cells[b]? = some (.int .i32 y)) (hm : x % 4294967296 = m) (hno : ¬ (m < 256)) (hdec : decide (m < 256) = false) (hnm : opName op = [115,116,109]) :
    Calls Tryd.prog 60 #[.pointer (some ⟨g,0,none⟩),.agg #[.int .i64 op,.int .i64 a,.int .i64 b,.int .i32 n,.int .i64 f],M,.int .i64 from_] w fun e w' => e = .returned (.agg #[.int .i64 6,.int .i64 3,.int .u32 0]) ∧ CW w g (cells) w' := by
  have hg := hB.lt
  have Hn := Lib.hid (fun w hT => hnm ▸ cname_any op w hT)
  have HB := Lib.hid hB
  have ca := (hB.cell a).trans hx
  have cb := (hB.cell b).trans hy
  have qa : ((w.alloc (.cells #[.int .i64 op,.int .i64 a,.int .i64 b,.int .i32 n,.int .i64 f] 25)).alloc (.cells #[.int .i64 0,.int .i64 0,.int .u32 0] 56)).cell? ⟨g,a,none⟩ = some (.int .i32 x) := by
    rw [World.cell?_alloc_lt _ _ ⟨g,a,none⟩ (by simp; omega),World.cell?_alloc_lt _ _ ⟨g,a,none⟩ hg]; exact ca
  have qb : ((w.alloc (.cells #[.int .i64 op,.int .i64 a,.int .i64 b,.int .i32 n,.int .i64 f] 25)).alloc (.cells #[.int .i64 0,.int .i64 0,.int .u32 0] 56)).cell? ⟨g,b,none⟩ = some (.int .i32 y) := by
    rw [World.cell?_alloc_lt _ _ ⟨g,b,none⟩ (by simp; omega),World.cell?_alloc_lt _ _ ⟨g,b,none⟩ hg]; exact cb
  have Hx := Lib.hid hx
  clear hB hx hy
  go_enter Tryd.func60,Tryd.ntmps60
  go_wp2_with fail
  go_quiet (fail)
  have hX0 : Blk (((w.alloc (.cells #[.int .i64 op,.int .i64 a,.int .i64 b,.int .i32 n,.int .i64 f] 25)).alloc (.cells #[.int .i64 0,.int .i64 0,.int .u32 0] 56)).drewN nq) (w.heap.size + 1) 56 [.int .i64 0,.int .i64 0,.int .u32 0] := by
    have := Blk.new (w.alloc (.cells #[.int .i64 op,.int .i64 a,.int .i64 b,.int .i32 n,.int .i64 f] 25)) 56 [.int .i64 0,.int .i64 0,.int .u32 0]
    rw [World.size_alloc] at this
    exact this
  clear qa qb ca cb
  go_wp2_with (first
    | (go_at_call 82; refine (Hn.out _ (((hT.alloc _).alloc _).drewN nq)).mono ?_; rintro e w2 ⟨rfl,hb2⟩; have hC2 := ((((CW.start HB.out).alloc _).alloc _).drewN nq).below hb2; have hX2 := hX0.below hb2 hX0.lt; have q2 := (hC2.blk.cell a).trans Hx.out; have f2 := hC2.blk.free a; have HC2 := Lib.hid hC2; clear hC2)
    | (go_at_call 57; refine (ctrap_any 3 w2).mono ?_; rintro e w4 ⟨rfl,hb4⟩; have hX4 := hX2.below hb4 hX2.lt; have HC4 := Lib.hid (HC2.out.below hb4))
    | ((with_reducible show wpList _ _ _ (Oper.mk none (Op.store _ (Operand.tmp 8) (Operand.tmp 169)) _ _ _ _ :: _) _ _); refine wpList_st3 hX4 rfl 56 (.tmp 8) (.tmp 169) (.int .i64 6) (.int .i64 3) (.int .u32 0) rfl (by kernel_rfl) (by kernel_rfl) (by simp [Value.oneCell']) (by kernel_rfl) ?_; rintro ⟨z0,z1,z2⟩)
    | fail)
  refine bodyPost_ret (v := .agg #[.int .i64 6,.int .i64 3,.int .u32 0]) (by simp [results,Tryd.results60,go_sem,z0,z1,z2]) rfl ⟨rfl,?_⟩
  exact CW.farCells (by omega) _ _ _ HC4.out
end Go.Proofs.YthcjnkakfpmpbaaDoor
