/- The texts C21 C22 C23 C24 C25 in one. Conditions: see each. -/
import Derived.Test.YthcjnkakfpmpbaaDoorC2
import Derived.Deep.QuietTactic
import Derived.BigQuiet
import Derived.Test.YthcjnkakfpmpbaaDoorP3
import Derived.Test.YthcjnkakfpmpbaaDoorC20
import Derived.Test.YthcjnkakfpmpbaaDoorC15
import Derived.Test.YthcjnkakfpmpbaaDoorC14
import Derived.Test.YthcjnkakfpmpbaaDoorC19
namespace Go.Proofs.YthcjnkakfpmpbaaDoor
open Go.RowKit
set_option linter.unusedVariables false
set_option linter.unusedSimpArgs false

/-- not all of them lie there -/
theorem bytes_no (A : Option Addr) (m c : Nat) (from_ at_ n : Int) (w : World) (h0 : 0 ≤ at_) (h1 : at_ < 4294967296) (hf0 : 0 ≤ from_) (hf1 : from_ ≤ 1048576) (hn0 : 0 < n) (hn1 : n ≤ 8) (hm : m ≤ 140737488355328) (hno : at_ - from_ < 0 ∨ (m : Int) < at_ - from_ + n) :
    Calls Tryd.prog 84 #[.slice A m c, .int .i64 from_, .int .u32 at_, .int .i64 n] w fun e w' => e = .returned (.tuple #[.int .i32 0, .bool false]) ∧ w = w' := by
  rcases (show at_ - from_ < 0 ∨ (0 ≤ at_ - from_ ∧ (m : Int) < at_ - from_ + n) by omega) with h | ⟨h, h2⟩
  all_goals
    go_enter Tryd.func84, Tryd.ntmps84
    go_wp2_with fail
    refine bodyPost_ret (v := .tuple #[.int .i32 0, .bool false]) (by simp [results, Tryd.results84, go_sem]) rfl ⟨rfl, rfl⟩
/-- the number that they say -/
theorem bytes_ok (A : Option Addr) (n c a W : Nat) (l : List UInt8) (from_ at_ : Int) (w : World) (hs : Sl w w.heap.size 1 A n (bs l)) (hW : W ≤ 4) (hW1 : 1 ≤ W) (hn : n ≤ 140737488355328) (h0 : 0 ≤ at_) (h1 : at_ < 4294967296) (hf0 : 0 ≤ from_) (hf1 : from_ ≤ 1048576) (ha : at_ - from_ = (a : Int)) (h : a + W ≤ n) :
    Calls Tryd.prog 84 #[.slice A n c, .int .i64 from_, .int .u32 at_, .int .i64 W] w fun e w' => e = .returned (.tuple #[.int .i32 (wrap32 (leVal ((l.drop a).take W))), .bool true]) ∧ w = w' := by
  obtain ⟨R, hR⟩ : ∃ R, R = leVal ((l.drop a).take W) := ⟨_, rfl⟩
  rw [← hR]
  have HR := Lib.hid hR
  clear hR
  have hWn : (a : Int) + W ≤ n := by omega
  go_enter Tryd.func84, Tryd.ntmps84
  go_wp2_with fail
  go_loop [11, 12] (fun y i => ∃ (m : Nat) (q z : Int), m ≤ W ∧ i = .int .i64 q ∧ Hid (q = (m : Int) - 1) ∧ y = .int .u32 z ∧ 0 ≤ z ∧ z < 4294967296 ∧ Hid (z = leVal ((l.drop (a + m)).take (W - m)))) (fun _ i => (intOf i + 1).toNat)
  case atStart => exact ⟨W, (W : Int) - 1, 0, Nat.le_refl _, rfl, Lib.hid rfl, rfl, by omega, by omega, Lib.hid (by simp [leVal])⟩
  case round =>
    obtain ⟨m, q, z, hm, rfl, hq, rfl, hz0, hz1, hz⟩ := hrel
    match m, hm, hq, hz with
    | 0, hm, hq, hz =>
      obtain rfl : q = -1 := by have := hq.out; omega
      have hzR : z = R := by rw [hz.out, HR.out]; simp
      go_wp2_with fail
      refine bodyPost_ret (v := .tuple #[.int .i32 (wrap32 R), .bool true]) (by simp [results, Tryd.results84, go_sem, hzR]) rfl ⟨rfl, rfl⟩
    | k + 1, hm, hq, hz =>
      obtain rfl : q = (k : Int) := by have := hq.out; omega
      obtain ⟨b, o, x, rfl, hb, hx, hc⟩ := hs.byte (k := a + k) (by omega)
      have Hx := Lib.hid hx
      clear hx
      have hs1 : z < 16777216 := by rw [hz.out]; exact leVal_small (by omega) hW
      have hor := or_low z x hz0 hs1
      have hx8 : x.toNat < 256 := x.toNat_lt
      have hI : (a : Int) + k < n := by omega
      go_wp2_with fail
      go_round
      case rel => exact ⟨k, (k : Int) - 1, z * 256 + x.toNat, by omega, rfl, Lib.hid rfl, rfl, by omega, by omega, Lib.hid (by rw [leVal_step Hx.out (by omega), ← hz.out]; omega)⟩
      case measure => simp [intOf]
end Go.Proofs.YthcjnkakfpmpbaaDoor

namespace Go.Proofs.YthcjnkakfpmpbaaDoor
open Go.RowKit
set_option linter.unusedVariables false
set_option linter.unusedSimpArgs false

set_option maxRecDepth 20000 in
set_option maxHeartbeats 4000000 in
theorem two_ldb (op n f : Int) (a b : Nat) (M : Value) (from_ : Int) (x y V : Int) (w : World) (g : Nat) (cells : List Value) (hT : TabIs 0 w) (htg : 0 ≠ g) (hB : Blk w g 119 cells) (ha : a < 8) (hb : b < 8)
    (hx : cells[a]? = some (.int .i32 x)) (hy : cells[b]? = some (.int .i32 y)) (y0 : -2147483648 ≤ y) (y1 : y ≤ 2147483647) (Hby : Hid (∀ W, CW w g cells W → Calls Tryd.prog 84 #[M, .int .i64 from_, .int .u32 (y % 4294967296), .int .i64 1] W fun e w' => e = .returned (.tuple #[.int .i32 V, .bool true]) ∧ W = w')) (hnm : opName op = [108, 100, 98]) :
    Calls Tryd.prog 60 #[.pointer (some ⟨g, 0, none⟩), .agg #[.int .i64 op, .int .i64 a, .int .i64 b, .int .i32 n, .int .i64 f], M, .int .i64 from_] w fun e w' => e = .returned (.agg #[.int .i64 0, .int .i64 0, .int .u32 0]) ∧ CW w g (cells.set a (.int .i32 V)) w' := by
  have hg := hB.lt
  have Hn := Lib.hid (fun w hT => hnm ▸ cname_any op w hT)
  have HB := Lib.hid hB
  have ca := (hB.cell a).trans hx
  have cb := (hB.cell b).trans hy
  have qa : ((w.alloc (.cells #[.int .i64 op, .int .i64 a, .int .i64 b, .int .i32 n, .int .i64 f] 25)).alloc (.cells #[.int .i64 0, .int .i64 0, .int .u32 0] 56)).cell? ⟨g, a, none⟩ = some (.int .i32 x) := by
    rw [World.cell?_alloc_lt _ _ ⟨g, a, none⟩ (by simp; omega), World.cell?_alloc_lt _ _ ⟨g, a, none⟩ hg]; exact ca
  have qb : ((w.alloc (.cells #[.int .i64 op, .int .i64 a, .int .i64 b, .int .i32 n, .int .i64 f] 25)).alloc (.cells #[.int .i64 0, .int .i64 0, .int .u32 0] 56)).cell? ⟨g, b, none⟩ = some (.int .i32 y) := by
    rw [World.cell?_alloc_lt _ _ ⟨g, b, none⟩ (by simp; omega), World.cell?_alloc_lt _ _ ⟨g, b, none⟩ hg]; exact cb
  have Hx := Lib.hid hx
  clear hB hx hy
  go_enter Tryd.func60, Tryd.ntmps60
  go_wp2_with fail
  go_quiet (fail)
  have hX0 : Blk (((w.alloc (.cells #[.int .i64 op, .int .i64 a, .int .i64 b, .int .i32 n, .int .i64 f] 25)).alloc (.cells #[.int .i64 0, .int .i64 0, .int .u32 0] 56)).drewN nq) (w.heap.size + 1) 56 [.int .i64 0, .int .i64 0, .int .u32 0] := by
    have := Blk.new (w.alloc (.cells #[.int .i64 op, .int .i64 a, .int .i64 b, .int .i32 n, .int .i64 f] 25)) 56 [.int .i64 0, .int .i64 0, .int .u32 0]
    rw [World.size_alloc] at this
    exact this
  clear qa qb ca cb
  go_wp2_with (first
    | (go_at_call 82; refine (Hn.out _ (((hT.alloc _).alloc _).drewN nq)).mono ?_; rintro e w2 ⟨rfl, hb2⟩; have hC2 := ((((CW.start HB.out).alloc _).alloc _).drewN nq).below hb2; have hX2 := hX0.below hb2 hX0.lt; have q2 := (hC2.blk.cell a).trans Hx.out; have f2 := hC2.blk.free a; have HC2 := Lib.hid hC2; clear hC2)
    | (go_at_call 84; refine (Hby.out w2 HC2.out).mono ?_; rintro e w4 ⟨rfl, rfl⟩)
    | ((with_reducible show wpList _ _ _ (Oper.mk none (Op.store _ (Operand.tmp 8) (Operand.tmp 173)) _ _ _ _ :: _) _ _); refine wpList_st3 (hX2.other (by show w.heap.size + 1 ≠ g; omega)) rfl 56 (.tmp 8) (.tmp 173) (.int .i64 0) (.int .i64 0) (.int .u32 0) rfl (by kernel_rfl) (by kernel_rfl) (by simp [Value.oneCell']) (by kernel_rfl) ?_; rintro ⟨z0, z1, z2⟩)
    | fail)
  refine bodyPost_ret (v := .agg #[.int .i64 0, .int .i64 0, .int .u32 0]) (by simp [results, Tryd.results60, go_sem, z0, z1, z2]) rfl ⟨rfl, ?_⟩
  exact CW.farCells (by omega) _ _ _ (HC2.out.setReg a _)

set_option maxRecDepth 20000 in
set_option maxHeartbeats 4000000 in
theorem two_ldb_no (op n f : Int) (a b : Nat) (M : Value) (from_ : Int) (x y : Int) (w : World) (g : Nat) (cells : List Value) (hT : TabIs 0 w) (htg : 0 ≠ g) (hB : Blk w g 119 cells) (ha : a < 8) (hb : b < 8)
    (hx : cells[a]? = some (.int .i32 x)) (hy : cells[b]? = some (.int .i32 y)) (y0 : -2147483648 ≤ y) (y1 : y ≤ 2147483647) (Hby : Hid (∀ W, CW w g cells W → Calls Tryd.prog 84 #[M, .int .i64 from_, .int .u32 (y % 4294967296), .int .i64 1] W fun e w' => e = .returned (.tuple #[.int .i32 0, .bool false]) ∧ W = w')) (hnm : opName op = [108, 100, 98]) :
    Calls Tryd.prog 60 #[.pointer (some ⟨g, 0, none⟩), .agg #[.int .i64 op, .int .i64 a, .int .i64 b, .int .i32 n, .int .i64 f], M, .int .i64 from_] w fun e w' => e = .returned (.agg #[.int .i64 6, .int .i64 3, .int .u32 0]) ∧ CW w g (cells) w' := by
  have hg := hB.lt
  have Hn := Lib.hid (fun w hT => hnm ▸ cname_any op w hT)
  have HB := Lib.hid hB
  have ca := (hB.cell a).trans hx
  have cb := (hB.cell b).trans hy
  have qa : ((w.alloc (.cells #[.int .i64 op, .int .i64 a, .int .i64 b, .int .i32 n, .int .i64 f] 25)).alloc (.cells #[.int .i64 0, .int .i64 0, .int .u32 0] 56)).cell? ⟨g, a, none⟩ = some (.int .i32 x) := by
    rw [World.cell?_alloc_lt _ _ ⟨g, a, none⟩ (by simp; omega), World.cell?_alloc_lt _ _ ⟨g, a, none⟩ hg]; exact ca
  have qb : ((w.alloc (.cells #[.int .i64 op, .int .i64 a, .int .i64 b, .int .i32 n, .int .i64 f] 25)).alloc (.cells #[.int .i64 0, .int .i64 0, .int .u32 0] 56)).cell? ⟨g, b, none⟩ = some (.int .i32 y) := by
    rw [World.cell?_alloc_lt _ _ ⟨g, b, none⟩ (by simp; omega), World.cell?_alloc_lt _ _ ⟨g, b, none⟩ hg]; exact cb
  have Hx := Lib.hid hx
  clear hB hx hy
  go_enter Tryd.func60, Tryd.ntmps60
  go_wp2_with fail
  go_quiet (fail)
  have hX0 : Blk (((w.alloc (.cells #[.int .i64 op, .int .i64 a, .int .i64 b, .int .i32 n, .int .i64 f] 25)).alloc (.cells #[.int .i64 0, .int .i64 0, .int .u32 0] 56)).drewN nq) (w.heap.size + 1) 56 [.int .i64 0, .int .i64 0, .int .u32 0] := by
    have := Blk.new (w.alloc (.cells #[.int .i64 op, .int .i64 a, .int .i64 b, .int .i32 n, .int .i64 f] 25)) 56 [.int .i64 0, .int .i64 0, .int .u32 0]
    rw [World.size_alloc] at this
    exact this
  clear qa qb ca cb
  go_wp2_with (first
    | (go_at_call 82; refine (Hn.out _ (((hT.alloc _).alloc _).drewN nq)).mono ?_; rintro e w2 ⟨rfl, hb2⟩; have hC2 := ((((CW.start HB.out).alloc _).alloc _).drewN nq).below hb2; have hX2 := hX0.below hb2 hX0.lt; have q2 := (hC2.blk.cell a).trans Hx.out; have f2 := hC2.blk.free a; have HC2 := Lib.hid hC2; clear hC2)
    | (go_at_call 84; refine (Hby.out w2 HC2.out).mono ?_; rintro e w4 ⟨rfl, rfl⟩)
    | (go_at_call 57; refine (ctrap_any 3 w2).mono ?_; rintro e w4 ⟨rfl, hb4⟩; have hX4 := hX2.below hb4 hX2.lt; have HC4 := Lib.hid (HC2.out.below hb4))
    | ((with_reducible show wpList _ _ _ (Oper.mk none (Op.store _ (Operand.tmp 8) (Operand.tmp 169)) _ _ _ _ :: _) _ _); refine wpList_st3 hX4 rfl 56 (.tmp 8) (.tmp 169) (.int .i64 6) (.int .i64 3) (.int .u32 0) rfl (by kernel_rfl) (by kernel_rfl) (by simp [Value.oneCell']) (by kernel_rfl) ?_; rintro ⟨z0, z1, z2⟩)
    | fail)
  refine bodyPost_ret (v := .agg #[.int .i64 6, .int .i64 3, .int .u32 0]) (by simp [results, Tryd.results60, go_sem, z0, z1, z2]) rfl ⟨rfl, ?_⟩
  exact CW.farCells (by omega) _ _ _ HC4.out

set_option maxRecDepth 20000 in
set_option maxHeartbeats 4000000 in
theorem two_ldw (op n f : Int) (a b : Nat) (M : Value) (from_ : Int) (x y V : Int) (w : World) (g : Nat) (cells : List Value) (hT : TabIs 0 w) (htg : 0 ≠ g) (hB : Blk w g 119 cells) (ha : a < 8) (hb : b < 8)
    (hx : cells[a]? = some (.int .i32 x)) (hy : cells[b]? = some (.int .i32 y)) (y0 : -2147483648 ≤ y) (y1 : y ≤ 2147483647) (Hby : Hid (∀ W, CW w g cells W → Calls Tryd.prog 84 #[M, .int .i64 from_, .int .u32 (y % 4294967296), .int .i64 4] W fun e w' => e = .returned (.tuple #[.int .i32 V, .bool true]) ∧ W = w')) (hnm : opName op = [108, 100, 119]) :
    Calls Tryd.prog 60 #[.pointer (some ⟨g, 0, none⟩), .agg #[.int .i64 op, .int .i64 a, .int .i64 b, .int .i32 n, .int .i64 f], M, .int .i64 from_] w fun e w' => e = .returned (.agg #[.int .i64 0, .int .i64 0, .int .u32 0]) ∧ CW w g (cells.set a (.int .i32 V)) w' := by
  have hg := hB.lt
  have Hn := Lib.hid (fun w hT => hnm ▸ cname_any op w hT)
  have HB := Lib.hid hB
  have ca := (hB.cell a).trans hx
  have cb := (hB.cell b).trans hy
  have qa : ((w.alloc (.cells #[.int .i64 op, .int .i64 a, .int .i64 b, .int .i32 n, .int .i64 f] 25)).alloc (.cells #[.int .i64 0, .int .i64 0, .int .u32 0] 56)).cell? ⟨g, a, none⟩ = some (.int .i32 x) := by
    rw [World.cell?_alloc_lt _ _ ⟨g, a, none⟩ (by simp; omega), World.cell?_alloc_lt _ _ ⟨g, a, none⟩ hg]; exact ca
  have qb : ((w.alloc (.cells #[.int .i64 op, .int .i64 a, .int .i64 b, .int .i32 n, .int .i64 f] 25)).alloc (.cells #[.int .i64 0, .int .i64 0, .int .u32 0] 56)).cell? ⟨g, b, none⟩ = some (.int .i32 y) := by
    rw [World.cell?_alloc_lt _ _ ⟨g, b, none⟩ (by simp; omega), World.cell?_alloc_lt _ _ ⟨g, b, none⟩ hg]; exact cb
  have Hx := Lib.hid hx
  clear hB hx hy
  go_enter Tryd.func60, Tryd.ntmps60
  go_wp2_with fail
  go_quiet (fail)
  have hX0 : Blk (((w.alloc (.cells #[.int .i64 op, .int .i64 a, .int .i64 b, .int .i32 n, .int .i64 f] 25)).alloc (.cells #[.int .i64 0, .int .i64 0, .int .u32 0] 56)).drewN nq) (w.heap.size + 1) 56 [.int .i64 0, .int .i64 0, .int .u32 0] := by
    have := Blk.new (w.alloc (.cells #[.int .i64 op, .int .i64 a, .int .i64 b, .int .i32 n, .int .i64 f] 25)) 56 [.int .i64 0, .int .i64 0, .int .u32 0]
    rw [World.size_alloc] at this
    exact this
  clear qa qb ca cb
  go_wp2_with (first
    | (go_at_call 82; refine (Hn.out _ (((hT.alloc _).alloc _).drewN nq)).mono ?_; rintro e w2 ⟨rfl, hb2⟩; have hC2 := ((((CW.start HB.out).alloc _).alloc _).drewN nq).below hb2; have hX2 := hX0.below hb2 hX0.lt; have q2 := (hC2.blk.cell a).trans Hx.out; have f2 := hC2.blk.free a; have HC2 := Lib.hid hC2; clear hC2)
    | (go_at_call 84; refine (Hby.out w2 HC2.out).mono ?_; rintro e w4 ⟨rfl, rfl⟩)
    | ((with_reducible show wpList _ _ _ (Oper.mk none (Op.store _ (Operand.tmp 8) (Operand.tmp 173)) _ _ _ _ :: _) _ _); refine wpList_st3 (hX2.other (by show w.heap.size + 1 ≠ g; omega)) rfl 56 (.tmp 8) (.tmp 173) (.int .i64 0) (.int .i64 0) (.int .u32 0) rfl (by kernel_rfl) (by kernel_rfl) (by simp [Value.oneCell']) (by kernel_rfl) ?_; rintro ⟨z0, z1, z2⟩)
    | fail)
  refine bodyPost_ret (v := .agg #[.int .i64 0, .int .i64 0, .int .u32 0]) (by simp [results, Tryd.results60, go_sem, z0, z1, z2]) rfl ⟨rfl, ?_⟩
  exact CW.farCells (by omega) _ _ _ (HC2.out.setReg a _)

set_option maxRecDepth 20000 in
set_option maxHeartbeats 4000000 in
theorem two_ldw_no (op n f : Int) (a b : Nat) (M : Value) (from_ : Int) (x y : Int) (w : World) (g : Nat) (cells : List Value) (hT : TabIs 0 w) (htg : 0 ≠ g) (hB : Blk w g 119 cells) (ha : a < 8) (hb : b < 8)
    (hx : cells[a]? = some (.int .i32 x)) (hy : cells[b]? = some (.int .i32 y)) (y0 : -2147483648 ≤ y) (y1 : y ≤ 2147483647) (Hby : Hid (∀ W, CW w g cells W → Calls Tryd.prog 84 #[M, .int .i64 from_, .int .u32 (y % 4294967296), .int .i64 4] W fun e w' => e = .returned (.tuple #[.int .i32 0, .bool false]) ∧ W = w')) (hnm : opName op = [108, 100, 119]) :
    Calls Tryd.prog 60 #[.pointer (some ⟨g, 0, none⟩), .agg #[.int .i64 op, .int .i64 a, .int .i64 b, .int .i32 n, .int .i64 f], M, .int .i64 from_] w fun e w' => e = .returned (.agg #[.int .i64 6, .int .i64 3, .int .u32 0]) ∧ CW w g (cells) w' := by
  have hg := hB.lt
  have Hn := Lib.hid (fun w hT => hnm ▸ cname_any op w hT)
  have HB := Lib.hid hB
  have ca := (hB.cell a).trans hx
  have cb := (hB.cell b).trans hy
  have qa : ((w.alloc (.cells #[.int .i64 op, .int .i64 a, .int .i64 b, .int .i32 n, .int .i64 f] 25)).alloc (.cells #[.int .i64 0, .int .i64 0, .int .u32 0] 56)).cell? ⟨g, a, none⟩ = some (.int .i32 x) := by
    rw [World.cell?_alloc_lt _ _ ⟨g, a, none⟩ (by simp; omega), World.cell?_alloc_lt _ _ ⟨g, a, none⟩ hg]; exact ca
  have qb : ((w.alloc (.cells #[.int .i64 op, .int .i64 a, .int .i64 b, .int .i32 n, .int .i64 f] 25)).alloc (.cells #[.int .i64 0, .int .i64 0, .int .u32 0] 56)).cell? ⟨g, b, none⟩ = some (.int .i32 y) := by
    rw [World.cell?_alloc_lt _ _ ⟨g, b, none⟩ (by simp; omega), World.cell?_alloc_lt _ _ ⟨g, b, none⟩ hg]; exact cb
  have Hx := Lib.hid hx
  clear hB hx hy
  go_enter Tryd.func60, Tryd.ntmps60
  go_wp2_with fail
  go_quiet (fail)
  have hX0 : Blk (((w.alloc (.cells #[.int .i64 op, .int .i64 a, .int .i64 b, .int .i32 n, .int .i64 f] 25)).alloc (.cells #[.int .i64 0, .int .i64 0, .int .u32 0] 56)).drewN nq) (w.heap.size + 1) 56 [.int .i64 0, .int .i64 0, .int .u32 0] := by
    have := Blk.new (w.alloc (.cells #[.int .i64 op, .int .i64 a, .int .i64 b, .int .i32 n, .int .i64 f] 25)) 56 [.int .i64 0, .int .i64 0, .int .u32 0]
    rw [World.size_alloc] at this
    exact this
  clear qa qb ca cb
  go_wp2_with (first
    | (go_at_call 82; refine (Hn.out _ (((hT.alloc _).alloc _).drewN nq)).mono ?_; rintro e w2 ⟨rfl, hb2⟩; have hC2 := ((((CW.start HB.out).alloc _).alloc _).drewN nq).below hb2; have hX2 := hX0.below hb2 hX0.lt; have q2 := (hC2.blk.cell a).trans Hx.out; have f2 := hC2.blk.free a; have HC2 := Lib.hid hC2; clear hC2)
    | (go_at_call 84; refine (Hby.out w2 HC2.out).mono ?_; rintro e w4 ⟨rfl, rfl⟩)
    | (go_at_call 57; refine (ctrap_any 3 w2).mono ?_; rintro e w4 ⟨rfl, hb4⟩; have hX4 := hX2.below hb4 hX2.lt; have HC4 := Lib.hid (HC2.out.below hb4))
    | ((with_reducible show wpList _ _ _ (Oper.mk none (Op.store _ (Operand.tmp 8) (Operand.tmp 169)) _ _ _ _ :: _) _ _); refine wpList_st3 hX4 rfl 56 (.tmp 8) (.tmp 169) (.int .i64 6) (.int .i64 3) (.int .u32 0) rfl (by kernel_rfl) (by kernel_rfl) (by simp [Value.oneCell']) (by kernel_rfl) ?_; rintro ⟨z0, z1, z2⟩)
    | fail)
  refine bodyPost_ret (v := .agg #[.int .i64 6, .int .i64 3, .int .u32 0]) (by simp [results, Tryd.results60, go_sem, z0, z1, z2]) rfl ⟨rfl, ?_⟩
  exact CW.farCells (by omega) _ _ _ HC4.out

set_option maxRecDepth 20000 in
set_option maxHeartbeats 4000000 in
theorem two_shl (op n f : Int) (a b : Nat) (M : Value) (from_ : Int) (x y R : Int) (w : World) (g : Nat) (cells : List Value) (hT : TabIs 0 w) (htg : 0 ≠ g) (hB : Blk w g 119 cells) (ha : a < 8) (hb : b < 8)
    (hx : cells[a]? = some (.int .i32 x)) (hy : cells[b]? = some (.int .i32 y)) (x0 : -2147483648 ≤ x) (x1 : x ≤ 2147483647) (y0 : -2147483648 ≤ y) (y1 : y ≤ 2147483647) (hsh : Op.shift BinOp.shl IntKind.i32 x IntKind.u32 (bits BinOp.and IntKind.u32 (y % 4294967296) 31) = pure (.int .i32 R)) (hnm : opName op = [115, 104, 108]) :
    Calls Tryd.prog 60 #[.pointer (some ⟨g, 0, none⟩), .agg #[.int .i64 op, .int .i64 a, .int .i64 b, .int .i32 n, .int .i64 f], M, .int .i64 from_] w fun e w' => e = .returned (.agg #[.int .i64 0, .int .i64 0, .int .u32 0]) ∧ CW w g (cells.set a (.int .i32 R)) w' := by
  have hg := hB.lt
  have Hn := Lib.hid (fun w hT => hnm ▸ cname_any op w hT)
  have HB := Lib.hid hB
  have ca := (hB.cell a).trans hx
  have cb := (hB.cell b).trans hy
  have qa : ((w.alloc (.cells #[.int .i64 op, .int .i64 a, .int .i64 b, .int .i32 n, .int .i64 f] 25)).alloc (.cells #[.int .i64 0, .int .i64 0, .int .u32 0] 56)).cell? ⟨g, a, none⟩ = some (.int .i32 x) := by
    rw [World.cell?_alloc_lt _ _ ⟨g, a, none⟩ (by simp; omega), World.cell?_alloc_lt _ _ ⟨g, a, none⟩ hg]; exact ca
  have qb : ((w.alloc (.cells #[.int .i64 op, .int .i64 a, .int .i64 b, .int .i32 n, .int .i64 f] 25)).alloc (.cells #[.int .i64 0, .int .i64 0, .int .u32 0] 56)).cell? ⟨g, b, none⟩ = some (.int .i32 y) := by
    rw [World.cell?_alloc_lt _ _ ⟨g, b, none⟩ (by simp; omega), World.cell?_alloc_lt _ _ ⟨g, b, none⟩ hg]; exact cb
  have Hx := Lib.hid hx
  clear hB hx hy
  go_enter Tryd.func60, Tryd.ntmps60
  go_wp2_with fail
  go_quiet (fail)
  have hX0 : Blk (((w.alloc (.cells #[.int .i64 op, .int .i64 a, .int .i64 b, .int .i32 n, .int .i64 f] 25)).alloc (.cells #[.int .i64 0, .int .i64 0, .int .u32 0] 56)).drewN nq) (w.heap.size + 1) 56 [.int .i64 0, .int .i64 0, .int .u32 0] := by
    have := Blk.new (w.alloc (.cells #[.int .i64 op, .int .i64 a, .int .i64 b, .int .i32 n, .int .i64 f] 25)) 56 [.int .i64 0, .int .i64 0, .int .u32 0]
    rw [World.size_alloc] at this
    exact this
  clear qa qb ca cb
  go_wp2_with (first
    | (go_at_call 82; refine (Hn.out _ (((hT.alloc _).alloc _).drewN nq)).mono ?_; rintro e w2 ⟨rfl, hb2⟩; have hC2 := ((((CW.start HB.out).alloc _).alloc _).drewN nq).below hb2; have hX2 := hX0.below hb2 hX0.lt; have q2 := (hC2.blk.cell a).trans Hx.out; have f2 := hC2.blk.free a; have HC2 := Lib.hid hC2; clear hC2)
    | rw [hsh]
    | ((with_reducible show wpList _ _ _ (Oper.mk none (Op.store _ (Operand.tmp 8) (Operand.tmp 173)) _ _ _ _ :: _) _ _); refine wpList_st3 (hX2.other (by show w.heap.size + 1 ≠ g; omega)) rfl 56 (.tmp 8) (.tmp 173) (.int .i64 0) (.int .i64 0) (.int .u32 0) rfl (by kernel_rfl) (by kernel_rfl) (by simp [Value.oneCell']) (by kernel_rfl) ?_; rintro ⟨z0, z1, z2⟩)
    | fail)
  refine bodyPost_ret (v := .agg #[.int .i64 0, .int .i64 0, .int .u32 0]) (by simp [results, Tryd.results60, go_sem, z0, z1, z2]) rfl ⟨rfl, ?_⟩
  exact CW.farCells (by omega) _ _ _ (HC2.out.setReg a _)

end Go.Proofs.YthcjnkakfpmpbaaDoor

namespace Go.Proofs.YthcjnkakfpmpbaaDoor
open Go.RowKit
set_option linter.unusedVariables false
set_option linter.unusedSimpArgs false
set_option maxRecDepth 20000

set_option maxHeartbeats 2000000 in
/-- an instruction that is not right -/
theorem do_wrong (op f n word from_ : Int) (a b : Int) (M : Value) (C : Int) (w : World) (g : Nat) (cells : List Value) (hT : TabIs 0 w) (htg : 0 ≠ g) (hB : Blk w g 119 cells) (hn : -2147483648 ≤ n ∧ n ≤ 2147483647) (hc : checkR op a b n f = C) (hC : (C == 0) = false) :
    Calls Tryd.prog 26 #[.pointer (some ⟨g, 0, none⟩), .agg #[.int .i64 op, .int .i64 a, .int .i64 b, .int .i32 n, .int .i64 f], .int .i32 word, M, .int .i64 from_] w fun e w' => e = .returned (.agg #[.int .i64 6, .int .i64 1, .int .u32 0]) ∧ CW w g cells w' := by
  have hg := hB.lt
  have hch : ∀ w, TabIs 0 w → Calls Tryd.prog 46 #[.agg #[.int .i64 op, .int .i64 a, .int .i64 b, .int .i32 n, .int .i64 f]] w fun e w' => e = .returned (.int .i64 C) ∧ Below w.heap.size w w' := fun w hT => hc ▸ check_any op a b n f w hn hT
  have Hch := Lib.hid hch
  have HB := Lib.hid hB
  have hC' : (C != 0) = true := by simp only [bne, hC]; rfl
  have hX0 : Blk ((w.alloc (.cells #[.int .i64 op, .int .i64 a, .int .i64 b, .int .i32 n, .int .i64 f] 25)).alloc (.cells #[.int .i64 0, .int .i64 0, .int .u32 0] 56)) (w.heap.size + 1) 56 [.int .i64 0, .int .i64 0, .int .u32 0] := by
    have := Blk.new (w.alloc (.cells #[.int .i64 op, .int .i64 a, .int .i64 b, .int .i32 n, .int .i64 f] 25)) 56 [.int .i64 0, .int .i64 0, .int .u32 0]
    rw [World.size_alloc] at this
    exact this
  clear hch hB hc hn
  go_enter Tryd.func26, Tryd.ntmps26
  go_wp2_with (first
    | (go_at_call 46; refine (Hch.out _ ((hT.alloc _).alloc _)).mono ?_; rintro e w2 ⟨rfl, hb2⟩; have hC2 := (((CW.start HB.out).alloc (.cells #[.int .i64 op, .int .i64 a, .int .i64 b, .int .i32 n, .int .i64 f] 25)).alloc (.cells #[.int .i64 0, .int .i64 0, .int .u32 0] 56)).below hb2; have hX2 := hX0.below hb2 hX0.lt; have HC2 := Lib.hid hC2; clear hC2)
    | (go_at_call 57; refine (ctrap_any 1 w2).mono ?_; rintro e w4 ⟨rfl, hb4⟩; have hX4 := hX2.below hb4 hX2.lt; have HC4 := Lib.hid (HC2.out.below hb4))
    | ((with_reducible show wpList _ _ _ (Oper.mk none (Op.store _ (Operand.tmp 10) (Operand.tmp 16)) _ _ _ _ :: _) _ _); refine wpList_st3 hX4 rfl 56 (.tmp 10) (.tmp 16) (.int .i64 6) (.int .i64 1) (.int .u32 0) rfl (by kernel_rfl) (by kernel_rfl) (by simp [Value.oneCell']) (by kernel_rfl) ?_; rintro ⟨z0, z1, z2⟩)
    | fail)
  refine bodyPost_ret (v := .agg #[.int .i64 6, .int .i64 1, .int .u32 0]) (by simp [results, Tryd.results26, go_sem, z0, z1, z2]) rfl ⟨rfl, ?_⟩
  exact CW.farCells (by omega) _ _ _ HC4.out

set_option maxRecDepth 20000 in
set_option maxHeartbeats 2000000 in
/-- two registers, told what the machine saw before -/
theorem do_twoW (op f n word from_ : Int) (a b : Int) (M : Value) (K T To : Int) (w : World) (g : Nat) (cells cells' : List Value) (hT : TabIs 0 w) (htg : 0 ≠ g) (hB : Blk w g 119 cells) (hn : -2147483648 ≤ n ∧ n ≤ 2147483647) (hc : checkR op a b n f = 0) (hs : opShape op = 4)
    (H : Hid (∀ W, CW w g cells W → TabIs 0 W → Blk W g 119 cells → Calls Tryd.prog 60 #[.pointer (some ⟨g, 0, none⟩), .agg #[.int .i64 op, .int .i64 a, .int .i64 b, .int .i32 n, .int .i64 f], M, .int .i64 from_] W fun e w' => e = .returned (.agg #[.int .i64 K, .int .i64 T, .int .u32 To]) ∧ CW W g cells' w')) :
    Calls Tryd.prog 26 #[.pointer (some ⟨g, 0, none⟩), .agg #[.int .i64 op, .int .i64 a, .int .i64 b, .int .i32 n, .int .i64 f], .int .i32 word, M, .int .i64 from_] w fun e w' => e = .returned (.agg #[.int .i64 K, .int .i64 T, .int .u32 To]) ∧ CW w g (cells') w' := by
  have hg := hB.lt
  obtain ⟨hiop, _, _, _⟩ := checkR_parts hc
  have hch : ∀ w, TabIs 0 w → Calls Tryd.prog 46 #[.agg #[.int .i64 op, .int .i64 a, .int .i64 b, .int .i32 n, .int .i64 f]] w fun e w' => e = .returned (.int .i64 0) ∧ Below w.heap.size w w' := fun w hT => hc ▸ check_any op a b n f w hn hT
  have hat : ∀ w, TabIs 0 w → Calls Tryd.prog 54 #[.int .i64 op] w fun e w' => e = .returned (.tuple #[.agg #[.string ⟨(opName op).toArray⟩, .int .u8 (opByte op), .int .i64 4], .bool true]) ∧ Below w.heap.size w w' := fun w hT => hiop ▸ hs ▸ at_any op w hT
  have Hch := Lib.hid hch
  have Hat := Lib.hid hat
  have HB := Lib.hid hB
  have hI0 : Blk ((w.alloc (.cells #[.int .i64 op, .int .i64 a, .int .i64 b, .int .i32 n, .int .i64 f] 25)).alloc (.cells #[.int .i64 0, .int .i64 0, .int .u32 0] 56)) w.heap.size 25 [.int .i64 op, .int .i64 a, .int .i64 b, .int .i32 n, .int .i64 f] := (Blk.new w 25 [.int .i64 op, .int .i64 a, .int .i64 b, .int .i32 n, .int .i64 f]).alloc _
  have hX0 : Blk ((w.alloc (.cells #[.int .i64 op, .int .i64 a, .int .i64 b, .int .i32 n, .int .i64 f] 25)).alloc (.cells #[.int .i64 0, .int .i64 0, .int .u32 0] 56)) (w.heap.size + 1) 56 [.int .i64 0, .int .i64 0, .int .u32 0] := by
    have := Blk.new (w.alloc (.cells #[.int .i64 op, .int .i64 a, .int .i64 b, .int .i32 n, .int .i64 f] 25)) 56 [.int .i64 0, .int .i64 0, .int .u32 0]
    rw [World.size_alloc] at this
    exact this
  generalize opName op = nm at Hat
  generalize opByte op = by_ at Hat
  clear hch hat hB hc hiop hs hn
  go_enter Tryd.func26, Tryd.ntmps26
  go_wp2_with (first
    | (go_at_call 46; refine (Hch.out _ ((hT.alloc _).alloc _)).mono ?_; rintro e w2 ⟨rfl, hb2⟩; have hC2 := (((CW.start HB.out).alloc (.cells #[.int .i64 op, .int .i64 a, .int .i64 b, .int .i32 n, .int .i64 f] 25)).alloc (.cells #[.int .i64 0, .int .i64 0, .int .u32 0] 56)).below hb2; have hI2 := hI0.below hb2 hI0.lt; have hX2 := hX0.below hb2 hX0.lt; have p0 := hI2.cell 0; simp only [List.getElem?_cons_zero] at p0; have HC2 := Lib.hid hC2; clear hC2)
    | (go_at_call 54; refine (Hat.out _ (HC2.out.tab hT htg)).mono ?_; rintro e w3 ⟨rfl, hb3⟩; have hC3 := HC2.out.below hb3; have hI3 := hI2.below hb3 hI2.lt; have hX3 := hX2.below hb3 hX2.lt; have r0 := hI3.cell 0; have r1 := hI3.cell 1; have r2 := hI3.cell 2; have r3 := hI3.cell 3; have r4 := hI3.cell 4; simp only [List.getElem?_cons_zero, List.getElem?_cons_succ] at r0 r1 r2 r3 r4; have hz3 := hI3.lt; have HC3 := Lib.hid hC3; clear hC3)
    | (go_at_call 60; refine (H.out _ (HC3.out.alloc _) ((HC3.out.tab hT htg).alloc _) (HC3.out.blk.alloc _)).mono ?_; rintro e w5 ⟨rfl, hC5⟩; have hX5 : Blk w5 (w.heap.size + 1) 56 [.int .i64 0, .int .i64 0, .int .u32 0] := (hC5.fr.block _ (by have := hX3.lt; simp; omega) (by show w.heap.size + 1 ≠ g; omega)).trans (hX3.alloc _); have hC6 := (HC3.out.alloc _).trans hC5; have HC6 := Lib.hid hC6; clear hC6 hC5)
    | ((with_reducible show wpList _ _ _ (Oper.mk none (Op.store _ (Operand.tmp 10) (Operand.tmp 47)) _ _ _ _ :: _) _ _); refine wpList_st3 hX5 rfl 56 (.tmp 10) (.tmp 47) (.int .i64 K) (.int .i64 T) (.int .u32 To) rfl (by kernel_rfl) (by kernel_rfl) (by simp [Value.oneCell']) (by kernel_rfl) ?_; rintro ⟨z0, z1, z2⟩)
    | fail)
  refine bodyPost_ret (v := .agg #[.int .i64 K, .int .i64 T, .int .u32 To]) (by simp [results, Tryd.results26, go_sem, z0, z1, z2]) rfl ⟨rfl, ?_⟩
  exact CW.farCells (by omega) _ _ _ HC6.out



/-- more input than may be -/
theorem new_much (A : Option Addr) (n c : Nat) (w : World) (hn : 4096 < n) :
    Calls Tryd.prog 33 #[.slice A n c] w fun e w' => e = .returned (.tuple #[.pointer none, .int .i64 4]) ∧ w = w' := by
  have hN : ¬ (n : Int) ≤ 4096 := by omega
  have hN2 : (n : Int) > 4096 := by omega
  go_enter Tryd.func33, Tryd.ntmps33
  go_wp2_with fail
  refine bodyPost_ret (v := .tuple #[.pointer none, .int .i64 4]) (by simp [results, Tryd.results33, go_sem]) rfl ⟨rfl, rfl⟩
/-- no such register -/
theorem reg_none (a : Int) (w : World) (g : Nat) (h : a < 0 ∨ 8 ≤ a) :
    Calls Tryd.prog 28 #[.pointer (some ⟨g, 0, none⟩), .int .i64 a] w fun e w' => e = .returned (.int .i32 0) ∧ w = w' := by
  rcases h with h | h
  · go_enter Tryd.func28, Tryd.ntmps28
    go_wp2_with fail
    go_ret
    exact ⟨rfl, rfl⟩
  · have h0 : ¬ a < 0 := by omega
    go_enter Tryd.func28, Tryd.ntmps28
    go_wp2_with fail
    go_ret
    exact ⟨rfl, rfl⟩
/-- a fresh machine with some input, all its cells -/
theorem fresh2_any (A : Option Addr) (n c : Nat) (cs : List Value) (w : World) (hs : Sl w w.heap.size 1 A n cs) (h1 : ∀ u ∈ cs, u.oneCell' = true) (hn : n ≤ 4096) (hnil : A = none → n = 0 ∧ c = 0) :
    Calls Tryd.prog 24 #[.slice A n c] w fun e w' => ∃ g A' c', e = .returned (.tuple #[.pointer (some ⟨g, 0, none⟩), .bool true]) ∧ w.heap.size ≤ g ∧ Blk w' g 119 (cells0 (.slice A' n c')) ∧ Below w.heap.size w w' := by
  have hne : ∀ g w, (binOp BinOp.neq 50 (.pointer (some ⟨g, 0, none⟩)) (.pointer none)).run Tryd.prog w = .ok (.bool true) w := by intro g w; kernel_rfl
  go_enter Tryd.func24, Tryd.ntmps24
  go_wp2_with (first
    | (go_at_call 33; refine (new_any A n c cs w hs h1 hn hnil).mono ?_; rintro e w1 ⟨g, A1, c1, rfl, hg, hB, _, _, hb1⟩)
    | fail)
  refine bodyPost_ret (v := .tuple #[.pointer (some ⟨g, 0, none⟩), .bool true]) (by simp [results, Tryd.results24, go_sem]) rfl ⟨g, A1, c1, rfl, hg, hB, hb1⟩
theorem c0_reg (v : Value) (k : Nat) (hk : k < 8) : (cells0 v)[k]? = some (.int .i32 0) := by
  unfold cells0
  rw [Array.getElem?_toList, Array.getElem?_setIfInBounds_ne (by omega)]
  exact zero_at k hk
theorem c0_z (v : Value) (k : Nat) (hk : k < 4) : (cells0 v)[8 + k]? = some (.complex .f64 0 0) := by
  unfold cells0
  rw [Array.getElem?_toList, Array.getElem?_setIfInBounds_ne (by omega)]
  exact zero_z k hk
theorem c0_stack (v : Value) : (cells0 v)[268]? = some (.slice none 0 0) := by
  unfold cells0
  rw [Array.getElem?_toList, Array.getElem?_setIfInBounds_ne (by omega)]
  kernel_rfl
theorem c0_input (v : Value) : (cells0 v)[270]? = some v := by
  unfold cells0
  rw [Array.getElem?_toList, Array.getElem?_setIfInBounds_self_of_lt (by rw [show Tryd.zeroCells119.size = 271 from by kernel_rfl]; omega)]
/-- the memory of law 18's runs -/
def mem5 : List UInt8 := [1, 2, 3, 255, 5]
/-- one instruction of a run, told what memory it sees -/
def GoesM (i : Int × Int × Int × Int × Int) (P P' : List Value → Prop) : Prop :=
  ∀ (w : World) (g : Nat) (cells : List Value), TabIs 0 w → 0 ≠ g → Blk w g 119 cells → P cells →
    ∀ b, b ≠ g → Blk w b 5 (bs mem5) → Calls Tryd.prog 26 #[.pointer (some ⟨g, 0, none⟩), insV i, .int .i32 11, .slice (some ⟨b, 0, none⟩) 5 5, .int .i64 16] w fun e w' => e = .returned (.agg #[.int .i64 0, .int .i64 0, .int .u32 0]) ∧ ∃ cells', CW w g cells' w' ∧ P' cells'

set_option maxRecDepth 100000 in
set_option maxHeartbeats 4000000 in
theorem doesM (a : Nat) (want : Int) (b N c : Nat) (I : Nat → Int × Int × Int × Int × Int) (St : Nat → List Value → Prop) (w : World) (hT : TabIs 0 w) (hb : b < w.heap.size) (hI : ∀ k, k < N → InsAt b (k * 5) (I k) w) (hN : N ≤ 10) (hc : N ≤ c) (ha : a < 8)
    (h0 : ∀ v, St 0 (cells0 v)) (hst : ∀ k, k < N → GoesM (I k) (St k) (St (k + 1))) (hend : ∀ cells, St N cells → cells[a]? = some (.int .i32 want)) :
    Calls Tryd.prog 40 #[.int .i64 a, .int .i32 want, .slice (some ⟨b, 0, none⟩) N c] w fun e w' => e = .returned (.bool true) ∧ Below w.heap.size w w' := by
  have hTlt := hT.lt
  have HI := Lib.hid hI
  have HS := Lib.hid hst
  have H0 := Lib.hid h0
  have HE := Lib.hid hend
  clear hI hst h0 hend
  have s2 : Sl (w.alloc (.cells #[.int .i32 7, .int .i32 (-9)] 21)) (w.alloc (.cells #[.int .i32 7, .int .i32 (-9)] 21)).heap.size 1 (some ⟨w.heap.size, 0, none⟩) 2 [.int .i32 7, .int .i32 (-9)] := (sl_new w [.int .i32 7, .int .i32 (-9)] 1 2 rfl 21).more (by simp)
  go_enter Tryd.func40, Tryd.ntmps40
  go_wp2_with (first
    | (go_at_call 24; refine (fresh2_any _ 2 2 _ _ s2 (by intro u hu; simp at hu; rcases hu with rfl | rfl <;> rfl) (by omega) (by intro h; cases h)).mono ?_; rintro e w1 ⟨g, A1, c1, rfl, hg, hB, hb1⟩)
    | fail)
  rw [World.size_alloc] at hg
  have hB1 : Below w.heap.size w w1 := ((Below.refl _ _).alloc (Nat.le_refl _) _).trans (hb1.mono (by simp))
  have htg : 0 ≠ g := by omega
  generalize hcs0 : cells0 (.slice A1 2 c1) = cells at hB
  have hs0 : St 0 cells := hcs0 ▸ H0.out _
  clear hcs0
  go_loopw [9] (fun i wr => ∃ (k : Nat) (cs : List Value), i = .int .i64 k ∧ k ≤ N ∧ CW w1 g cs wr ∧ St k cs) (fun i _ => N - (intOf i).toNat)
  case atStart => exact ⟨0, cells, rfl, Nat.zero_le _, CW.start hB, hs0⟩
  case round =>
    obtain ⟨k, cs, rfl, hk, hC, hS⟩ := hrel
    by_cases hlt : k < N
    · have hlt' : (k : Int) < N := by omega
      obtain ⟨p0, p1, p2, p3, p4⟩ := (HI.out k hlt).keep (w' := wr) (fun j => (hC.bel (B := w.heap.size) (by omega)).cell (p := ⟨b, j, none⟩) hb |>.trans (hB1.cell (p := ⟨b, j, none⟩) hb))
      have HC := Lib.hid hC
      have HSt := Lib.hid hS
      clear hC hS
      have HG := HS.out k hlt
      rcases hik : I k with ⟨i0, i1, i2, i3, i4⟩
      rw [hik] at HG p0 p1 p2 p3 p4
      simp only at p0 p1 p2 p3 p4
      have HG' := Lib.hid HG
      clear HG hik
      have hbr : b < wr.heap.size := by have := HC.out.size; have := hB1.size; omega
      have hgr := HC.out.blk.lt
      go_wp2_with (first
        | (go_at_call 26; refine (HG'.out _ g cs (((HC.out.tab ((hT.grow (hB1))) htg)).alloc _) htg (HC.out.blk.alloc _) HSt.out wr.heap.size (by omega) (Blk.new wr _ (bs mem5))).mono ?_; rintro e w3 ⟨rfl, cs', hC3, hS3⟩)
        | fail)
      go_roundw
      case rel => exact ⟨k + 1, cs', by go_num, by omega, (HC.out.alloc _).trans hC3, hS3⟩
      case measure => simp [intOf]; omega
    · obtain rfl : N = k := by omega
      have hx := HE.out cs hS
      go_wp2_with (first
        | (go_at_call 28; refine (reg_any a want wr g cs hC.blk ha hx).mono ?_; rintro e w3 ⟨rfl, rfl⟩)
        | fail)
      go_ret
      exact ⟨by simp, hB1.trans ((hC.bel (B := w.heap.size) (by omega)))⟩
end Go.Proofs.YthcjnkakfpmpbaaDoor

namespace Go.Proofs.YthcjnkakfpmpbaaDoor
open Go.RowKit
set_option linter.unusedVariables false
set_option linter.unusedSimpArgs false
set_option maxRecDepth 20000

theorem op_lis2_m1  (w : World) : Calls Tryd.prog 27 #[.string ⟨#[108, 105, 115]⟩, .int .i64 2, .int .i64 0, .int .i32 (-1)] w fun e w' => e = .returned (.agg #[.int .i64 36, .int .i64 2, .int .i64 0, .int .i32 (-1), .int .i64 0]) ∧ Below w.heap.size w w' := by
  have h := op_any ⟨#[108, 105, 115]⟩ 2 0 (-1) w
  rwa [show findR (ByteArray.toList ⟨#[108, 105, 115]⟩) = 36 from by kernel_rfl] at h
set_option maxHeartbeats 1000000 in
theorem o_lis2_m1 (word from_ : Int) (M : Value)  (w : World) (g : Nat) (cells : List Value) (hT : TabIs 0 w) (htg : 0 ≠ g) (hB : Blk w g 119 cells) (hr : RG cells) :
    Calls Tryd.prog 26 #[.pointer (some ⟨g, 0, none⟩), .agg #[.int .i64 36, .int .i64 2, .int .i64 0, .int .i32 (-1), .int .i64 0], .int .i32 word, M, .int .i64 from_] w fun e w' => e = .returned (.agg #[.int .i64 0, .int .i64 0, .int .u32 0]) ∧ CW w g (cells.set 2 (.int .i32 (-1))) w' :=
  by obtain ⟨x, hx⟩ := hr.1 2 (by omega); exact do_set8 36 0 (-1) word from_ 2 0 M w g cells hT htg hB (by omega) (by kernel_rfl) (by kernel_rfl) (by omega) x hx
theorem op_lis1_1  (w : World) : Calls Tryd.prog 27 #[.string ⟨#[108, 105, 115]⟩, .int .i64 1, .int .i64 0, .int .i32 1] w fun e w' => e = .returned (.agg #[.int .i64 36, .int .i64 1, .int .i64 0, .int .i32 1, .int .i64 0]) ∧ Below w.heap.size w w' := by
  have h := op_any ⟨#[108, 105, 115]⟩ 1 0 1 w
  rwa [show findR (ByteArray.toList ⟨#[108, 105, 115]⟩) = 36 from by kernel_rfl] at h
set_option maxHeartbeats 1000000 in
theorem o_lis1_1 (word from_ : Int) (M : Value)  (w : World) (g : Nat) (cells : List Value) (hT : TabIs 0 w) (htg : 0 ≠ g) (hB : Blk w g 119 cells) (hr : RG cells) :
    Calls Tryd.prog 26 #[.pointer (some ⟨g, 0, none⟩), .agg #[.int .i64 36, .int .i64 1, .int .i64 0, .int .i32 1, .int .i64 0], .int .i32 word, M, .int .i64 from_] w fun e w' => e = .returned (.agg #[.int .i64 0, .int .i64 0, .int .u32 0]) ∧ CW w g (cells.set 1 (.int .i32 1)) w' :=
  by obtain ⟨x, hx⟩ := hr.1 1 (by omega); exact do_set8 36 0 1 word from_ 1 0 M w g cells hT htg hB (by omega) (by kernel_rfl) (by kernel_rfl) (by omega) x hx
theorem op_lis2_32  (w : World) : Calls Tryd.prog 27 #[.string ⟨#[108, 105, 115]⟩, .int .i64 2, .int .i64 0, .int .i32 32] w fun e w' => e = .returned (.agg #[.int .i64 36, .int .i64 2, .int .i64 0, .int .i32 32, .int .i64 0]) ∧ Below w.heap.size w w' := by
  have h := op_any ⟨#[108, 105, 115]⟩ 2 0 32 w
  rwa [show findR (ByteArray.toList ⟨#[108, 105, 115]⟩) = 36 from by kernel_rfl] at h
set_option maxHeartbeats 1000000 in
theorem o_lis2_32 (word from_ : Int) (M : Value)  (w : World) (g : Nat) (cells : List Value) (hT : TabIs 0 w) (htg : 0 ≠ g) (hB : Blk w g 119 cells) (hr : RG cells) :
    Calls Tryd.prog 26 #[.pointer (some ⟨g, 0, none⟩), .agg #[.int .i64 36, .int .i64 2, .int .i64 0, .int .i32 32, .int .i64 0], .int .i32 word, M, .int .i64 from_] w fun e w' => e = .returned (.agg #[.int .i64 0, .int .i64 0, .int .u32 0]) ∧ CW w g (cells.set 2 (.int .i32 32)) w' :=
  by obtain ⟨x, hx⟩ := hr.1 2 (by omega); exact do_set8 36 0 32 word from_ 2 0 M w g cells hT htg hB (by omega) (by kernel_rfl) (by kernel_rfl) (by omega) x hx
theorem op_lis2_19  (w : World) : Calls Tryd.prog 27 #[.string ⟨#[108, 105, 115]⟩, .int .i64 2, .int .i64 0, .int .i32 19] w fun e w' => e = .returned (.agg #[.int .i64 36, .int .i64 2, .int .i64 0, .int .i32 19, .int .i64 0]) ∧ Below w.heap.size w w' := by
  have h := op_any ⟨#[108, 105, 115]⟩ 2 0 19 w
  rwa [show findR (ByteArray.toList ⟨#[108, 105, 115]⟩) = 36 from by kernel_rfl] at h
set_option maxHeartbeats 1000000 in
theorem o_lis2_19 (word from_ : Int) (M : Value)  (w : World) (g : Nat) (cells : List Value) (hT : TabIs 0 w) (htg : 0 ≠ g) (hB : Blk w g 119 cells) (hr : RG cells) :
    Calls Tryd.prog 26 #[.pointer (some ⟨g, 0, none⟩), .agg #[.int .i64 36, .int .i64 2, .int .i64 0, .int .i32 19, .int .i64 0], .int .i32 word, M, .int .i64 from_] w fun e w' => e = .returned (.agg #[.int .i64 0, .int .i64 0, .int .u32 0]) ∧ CW w g (cells.set 2 (.int .i32 19)) w' :=
  by obtain ⟨x, hx⟩ := hr.1 2 (by omega); exact do_set8 36 0 19 word from_ 2 0 M w g cells hT htg hB (by omega) (by kernel_rfl) (by kernel_rfl) (by omega) x hx
theorem op_lis2_16  (w : World) : Calls Tryd.prog 27 #[.string ⟨#[108, 105, 115]⟩, .int .i64 2, .int .i64 0, .int .i32 16] w fun e w' => e = .returned (.agg #[.int .i64 36, .int .i64 2, .int .i64 0, .int .i32 16, .int .i64 0]) ∧ Below w.heap.size w w' := by
  have h := op_any ⟨#[108, 105, 115]⟩ 2 0 16 w
  rwa [show findR (ByteArray.toList ⟨#[108, 105, 115]⟩) = 36 from by kernel_rfl] at h
set_option maxHeartbeats 1000000 in
theorem o_lis2_16 (word from_ : Int) (M : Value)  (w : World) (g : Nat) (cells : List Value) (hT : TabIs 0 w) (htg : 0 ≠ g) (hB : Blk w g 119 cells) (hr : RG cells) :
    Calls Tryd.prog 26 #[.pointer (some ⟨g, 0, none⟩), .agg #[.int .i64 36, .int .i64 2, .int .i64 0, .int .i32 16, .int .i64 0], .int .i32 word, M, .int .i64 from_] w fun e w' => e = .returned (.agg #[.int .i64 0, .int .i64 0, .int .u32 0]) ∧ CW w g (cells.set 2 (.int .i32 16)) w' :=
  by obtain ⟨x, hx⟩ := hr.1 2 (by omega); exact do_set8 36 0 16 word from_ 2 0 M w g cells hT htg hB (by omega) (by kernel_rfl) (by kernel_rfl) (by omega) x hx
theorem op_lis7_m1  (w : World) : Calls Tryd.prog 27 #[.string ⟨#[108, 105, 115]⟩, .int .i64 7, .int .i64 0, .int .i32 (-1)] w fun e w' => e = .returned (.agg #[.int .i64 36, .int .i64 7, .int .i64 0, .int .i32 (-1), .int .i64 0]) ∧ Below w.heap.size w w' := by
  have h := op_any ⟨#[108, 105, 115]⟩ 7 0 (-1) w
  rwa [show findR (ByteArray.toList ⟨#[108, 105, 115]⟩) = 36 from by kernel_rfl] at h
set_option maxHeartbeats 1000000 in
theorem o_lis7_m1 (word from_ : Int) (M : Value)  (w : World) (g : Nat) (cells : List Value) (hT : TabIs 0 w) (htg : 0 ≠ g) (hB : Blk w g 119 cells) (hr : RG cells) :
    Calls Tryd.prog 26 #[.pointer (some ⟨g, 0, none⟩), .agg #[.int .i64 36, .int .i64 7, .int .i64 0, .int .i32 (-1), .int .i64 0], .int .i32 word, M, .int .i64 from_] w fun e w' => e = .returned (.agg #[.int .i64 0, .int .i64 0, .int .u32 0]) ∧ CW w g (cells.set 7 (.int .i32 (-1))) w' :=
  by obtain ⟨x, hx⟩ := hr.1 7 (by omega); exact do_set8 36 0 (-1) word from_ 7 0 M w g cells hT htg hB (by omega) (by kernel_rfl) (by kernel_rfl) (by omega) x hx
theorem op_add11  (w : World) : Calls Tryd.prog 27 #[.string ⟨#[97, 100, 100]⟩, .int .i64 1, .int .i64 1, .int .i32 0] w fun e w' => e = .returned (.agg #[.int .i64 14, .int .i64 1, .int .i64 1, .int .i32 0, .int .i64 0]) ∧ Below w.heap.size w w' := by
  have h := op_any ⟨#[97, 100, 100]⟩ 1 1 0 w
  rwa [show findR (ByteArray.toList ⟨#[97, 100, 100]⟩) = 14 from by kernel_rfl] at h
set_option maxHeartbeats 1000000 in
theorem o_add11 (word from_ : Int) (M : Value) (x : Int) (w : World) (g : Nat) (cells : List Value) (hT : TabIs 0 w) (htg : 0 ≠ g) (hB : Blk w g 119 cells) (hx : cells[1]? = some (.int .i32 x)) (x0 : -2147483648 ≤ x) (x1 : x ≤ 2147483647) :
    Calls Tryd.prog 26 #[.pointer (some ⟨g, 0, none⟩), .agg #[.int .i64 14, .int .i64 1, .int .i64 1, .int .i32 0, .int .i64 0], .int .i32 word, M, .int .i64 from_] w fun e w' => e = .returned (.agg #[.int .i64 0, .int .i64 0, .int .u32 0]) ∧ CW w g (cells.set 1 (.int .i32 (wrap32 (x + x)))) w' :=
  do_two 14 0 0 word from_ 1 1 M 0 0 0 w g cells _ hT htg hB (by omega) (by kernel_rfl) (by kernel_rfl) (Lib.hid fun W hT hB => two_add 14 0 0 1 1 M from_ x x W g cells hT htg hB (by omega) (by omega) hx hx x0 x1 x0 x1 (by kernel_rfl))
theorem op_shl12  (w : World) : Calls Tryd.prog 27 #[.string ⟨#[115, 104, 108]⟩, .int .i64 1, .int .i64 2, .int .i32 0] w fun e w' => e = .returned (.agg #[.int .i64 21, .int .i64 1, .int .i64 2, .int .i32 0, .int .i64 0]) ∧ Below w.heap.size w w' := by
  have h := op_any ⟨#[115, 104, 108]⟩ 1 2 0 w
  rwa [show findR (ByteArray.toList ⟨#[115, 104, 108]⟩) = 21 from by kernel_rfl] at h
set_option maxHeartbeats 1000000 in
theorem o_shl12 (word from_ : Int) (M : Value) (x y R : Int) (w : World) (g : Nat) (cells : List Value) (hT : TabIs 0 w) (htg : 0 ≠ g) (hB : Blk w g 119 cells) (hx : cells[1]? = some (.int .i32 x)) (hy : cells[2]? = some (.int .i32 y)) (x0 : -2147483648 ≤ x) (x1 : x ≤ 2147483647) (y0 : -2147483648 ≤ y) (y1 : y ≤ 2147483647) (hsh : Op.shift BinOp.shl IntKind.i32 x IntKind.u32 (bits BinOp.and IntKind.u32 (y % 4294967296) 31) = pure (.int .i32 R)) :
    Calls Tryd.prog 26 #[.pointer (some ⟨g, 0, none⟩), .agg #[.int .i64 21, .int .i64 1, .int .i64 2, .int .i32 0, .int .i64 0], .int .i32 word, M, .int .i64 from_] w fun e w' => e = .returned (.agg #[.int .i64 0, .int .i64 0, .int .u32 0]) ∧ CW w g (cells.set 1 (.int .i32 R)) w' :=
  do_two 21 0 0 word from_ 1 2 M 0 0 0 w g cells _ hT htg hB (by omega) (by kernel_rfl) (by kernel_rfl) (Lib.hid fun W hT hB => two_shl 21 0 0 1 2 M from_ x y R W g cells hT htg hB (by omega) (by omega) hx hy x0 x1 y0 y1 hsh (by kernel_rfl))
theorem op_ldb12  (w : World) : Calls Tryd.prog 27 #[.string ⟨#[108, 100, 98]⟩, .int .i64 1, .int .i64 2, .int .i32 0] w fun e w' => e = .returned (.agg #[.int .i64 25, .int .i64 1, .int .i64 2, .int .i32 0, .int .i64 0]) ∧ Below w.heap.size w w' := by
  have h := op_any ⟨#[108, 100, 98]⟩ 1 2 0 w
  rwa [show findR (ByteArray.toList ⟨#[108, 100, 98]⟩) = 25 from by kernel_rfl] at h
set_option maxHeartbeats 1000000 in
theorem o_ldb12 (word : Int) (x V : Int) (y a : Nat) (b : Nat) (w : World) (g : Nat) (cells : List Value) (hT : TabIs 0 w) (htg : 0 ≠ g) (hB : Blk w g 119 cells) (hx : cells[1]? = some (.int .i32 x)) (hy : cells[2]? = some (.int .i32 y)) (hbg : b ≠ g) (hM : Blk w b 5 (bs mem5)) (hya : (y : Int) - 16 = (a : Int)) (ha : a + 1 ≤ 5) (hV : wrap32 (leVal ((mem5.drop a).take 1)) = V) :
    Calls Tryd.prog 26 #[.pointer (some ⟨g, 0, none⟩), .agg #[.int .i64 25, .int .i64 1, .int .i64 2, .int .i32 0, .int .i64 0], .int .i32 word, (.slice (some ⟨b, 0, none⟩) 5 5), .int .i64 16] w fun e w' => e = .returned (.agg #[.int .i64 0, .int .i64 0, .int .u32 0]) ∧ CW w g (cells.set 1 (.int .i32 V)) w' :=
  by
  have hby : ∀ W, CW w g cells W → Calls Tryd.prog 84 #[.slice (some ⟨b, 0, none⟩) 5 5, .int .i64 16, .int .u32 ((y : Int) % 4294967296), .int .i64 1] W fun e w' => e = .returned (.tuple #[.int .i32 V, .bool true]) ∧ W = w' := by
    intro W hC
    have hMW : Blk W b 5 (bs mem5) := (hC.fr.block _ hM.lt hbg).trans hM
    have hs : Sl W W.heap.size 1 (some ⟨b, 0, none⟩) 5 (bs mem5) := ⟨rfl, fun _ => ⟨b, 0, rfl, hMW.lt, fun k u hu => by
      rw [show (0 : Nat) + k = k by omega]
      exact (hMW.cell k).trans hu⟩⟩
    have h := bytes_ok (some ⟨b, 0, none⟩) 5 5 a 1 mem5 16 ((y : Int) % 4294967296) W hs (by omega) (by omega) (by omega) (by omega) (by omega) (by omega) (by omega) (by omega) ha
    rw [hV] at h
    exact h
  have Hby := Lib.hid hby
  clear hby
  refine (do_twoW 25 0 0 word 16 1 2 (.slice (some ⟨b, 0, none⟩) 5 5) 0 0 0 w g cells _ hT htg hB (by omega) (by kernel_rfl) (by kernel_rfl) (Lib.hid fun W hCW hT hB => ?_))
  exact two_ldb 25 0 0 1 2 (.slice (some ⟨b, 0, none⟩) 5 5) 16 x y V W g cells hT htg hB (by omega) (by omega) hx hy (by omega) (by omega) (Lib.hid fun W2 hC2 => Hby.out W2 (hCW.trans hC2)) (by kernel_rfl)
theorem op_ldw12  (w : World) : Calls Tryd.prog 27 #[.string ⟨#[108, 100, 119]⟩, .int .i64 1, .int .i64 2, .int .i32 0] w fun e w' => e = .returned (.agg #[.int .i64 26, .int .i64 1, .int .i64 2, .int .i32 0, .int .i64 0]) ∧ Below w.heap.size w w' := by
  have h := op_any ⟨#[108, 100, 119]⟩ 1 2 0 w
  rwa [show findR (ByteArray.toList ⟨#[108, 100, 119]⟩) = 26 from by kernel_rfl] at h
set_option maxHeartbeats 1000000 in
theorem o_ldw12 (word : Int) (x V : Int) (y a : Nat) (b : Nat) (w : World) (g : Nat) (cells : List Value) (hT : TabIs 0 w) (htg : 0 ≠ g) (hB : Blk w g 119 cells) (hx : cells[1]? = some (.int .i32 x)) (hy : cells[2]? = some (.int .i32 y)) (hbg : b ≠ g) (hM : Blk w b 5 (bs mem5)) (hya : (y : Int) - 16 = (a : Int)) (ha : a + 4 ≤ 5) (hV : wrap32 (leVal ((mem5.drop a).take 4)) = V) :
    Calls Tryd.prog 26 #[.pointer (some ⟨g, 0, none⟩), .agg #[.int .i64 26, .int .i64 1, .int .i64 2, .int .i32 0, .int .i64 0], .int .i32 word, (.slice (some ⟨b, 0, none⟩) 5 5), .int .i64 16] w fun e w' => e = .returned (.agg #[.int .i64 0, .int .i64 0, .int .u32 0]) ∧ CW w g (cells.set 1 (.int .i32 V)) w' :=
  by
  have hby : ∀ W, CW w g cells W → Calls Tryd.prog 84 #[.slice (some ⟨b, 0, none⟩) 5 5, .int .i64 16, .int .u32 ((y : Int) % 4294967296), .int .i64 4] W fun e w' => e = .returned (.tuple #[.int .i32 V, .bool true]) ∧ W = w' := by
    intro W hC
    have hMW : Blk W b 5 (bs mem5) := (hC.fr.block _ hM.lt hbg).trans hM
    have hs : Sl W W.heap.size 1 (some ⟨b, 0, none⟩) 5 (bs mem5) := ⟨rfl, fun _ => ⟨b, 0, rfl, hMW.lt, fun k u hu => by
      rw [show (0 : Nat) + k = k by omega]
      exact (hMW.cell k).trans hu⟩⟩
    have h := bytes_ok (some ⟨b, 0, none⟩) 5 5 a 4 mem5 16 ((y : Int) % 4294967296) W hs (by omega) (by omega) (by omega) (by omega) (by omega) (by omega) (by omega) (by omega) ha
    rw [hV] at h
    exact h
  have Hby := Lib.hid hby
  clear hby
  refine (do_twoW 26 0 0 word 16 1 2 (.slice (some ⟨b, 0, none⟩) 5 5) 0 0 0 w g cells _ hT htg hB (by omega) (by kernel_rfl) (by kernel_rfl) (Lib.hid fun W hCW hT hB => ?_))
  exact two_ldw 26 0 0 1 2 (.slice (some ⟨b, 0, none⟩) 5 5) 16 x y V W g cells hT htg hB (by omega) (by omega) hx hy (by omega) (by omega) (Lib.hid fun W2 hC2 => Hby.out W2 (hCW.trans hC2)) (by kernel_rfl)
theorem op_zturn1  (w : World) : Calls Tryd.prog 27 #[.string ⟨#[122, 116, 117, 114, 110]⟩, .int .i64 1, .int .i64 0, .int .i32 0] w fun e w' => e = .returned (.agg #[.int .i64 11, .int .i64 1, .int .i64 0, .int .i32 0, .int .i64 0]) ∧ Below w.heap.size w w' := by
  have h := op_any ⟨#[122, 116, 117, 114, 110]⟩ 1 0 0 w
  rwa [show findR (ByteArray.toList ⟨#[122, 116, 117, 114, 110]⟩) = 11 from by kernel_rfl] at h
set_option maxHeartbeats 1000000 in
theorem o_zturn1 (word from_ : Int) (M : Value) (a b : Int) (w : World) (g : Nat) (cells : List Value) (hT : TabIs 0 w) (htg : 0 ≠ g) (hB : Blk w g 119 cells) (hr : RG cells) (h1 : Z cells 1 a b) :
    Calls Tryd.prog 26 #[.pointer (some ⟨g, 0, none⟩), .agg #[.int .i64 11, .int .i64 1, .int .i64 0, .int .i32 0, .int .i64 0], .int .i32 word, M, .int .i64 from_] w fun e w' => e = .returned (.agg #[.int .i64 0, .int .i64 0, .int .u32 0]) ∧ GZ w g cells 1 (-b) a w' :=
  by
  obtain ⟨p, q, hz, hp, hq⟩ := h1
  obtain ⟨s, t, hz2⟩ := hr.2 0 (by omega)
  exact (do_cplx3 11 0 0 word from_ 1 0 M w g cells _ hT htg hB (by omega) (by kernel_rfl) (by kernel_rfl) (Lib.hid fun W hT hB => cx_zturn 11 0 0 1 0 p q s t W g cells hT htg hB (by omega) (by omega) hz hz2 (by kernel_rfl))).mono fun e w' h => ⟨h.1, hr.gz (by omega) h.2 hq.neg hp⟩
theorem op_zconj1  (w : World) : Calls Tryd.prog 27 #[.string ⟨#[122, 99, 111, 110, 106]⟩, .int .i64 1, .int .i64 0, .int .i32 0] w fun e w' => e = .returned (.agg #[.int .i64 12, .int .i64 1, .int .i64 0, .int .i32 0, .int .i64 0]) ∧ Below w.heap.size w w' := by
  have h := op_any ⟨#[122, 99, 111, 110, 106]⟩ 1 0 0 w
  rwa [show findR (ByteArray.toList ⟨#[122, 99, 111, 110, 106]⟩) = 12 from by kernel_rfl] at h
set_option maxHeartbeats 1000000 in
theorem o_zconj1 (word from_ : Int) (M : Value) (a b : Int) (w : World) (g : Nat) (cells : List Value) (hT : TabIs 0 w) (htg : 0 ≠ g) (hB : Blk w g 119 cells) (hr : RG cells) (h1 : Z cells 1 a b) :
    Calls Tryd.prog 26 #[.pointer (some ⟨g, 0, none⟩), .agg #[.int .i64 12, .int .i64 1, .int .i64 0, .int .i32 0, .int .i64 0], .int .i32 word, M, .int .i64 from_] w fun e w' => e = .returned (.agg #[.int .i64 0, .int .i64 0, .int .u32 0]) ∧ GZ w g cells 1 a (-b) w' :=
  by
  obtain ⟨p, q, hz, hp, hq⟩ := h1
  obtain ⟨s, t, hz2⟩ := hr.2 0 (by omega)
  exact (do_cplx3 12 0 0 word from_ 1 0 M w g cells _ hT htg hB (by omega) (by kernel_rfl) (by kernel_rfl) (Lib.hid fun W hT hB => cx_zconj 12 0 0 1 0 p q s t W g cells hT htg hB (by omega) (by omega) hz hz2 (by kernel_rfl))).mono fun e w' h => ⟨h.1, hr.gz (by omega) h.2 hp hq.neg⟩
theorem op_zim40  (w : World) : Calls Tryd.prog 27 #[.string ⟨#[122, 105, 109]⟩, .int .i64 4, .int .i64 0, .int .i32 0] w fun e w' => e = .returned (.agg #[.int .i64 34, .int .i64 4, .int .i64 0, .int .i32 0, .int .i64 0]) ∧ Below w.heap.size w w' := by
  have h := op_any ⟨#[122, 105, 109]⟩ 4 0 0 w
  rwa [show findR (ByteArray.toList ⟨#[122, 105, 109]⟩) = 34 from by kernel_rfl] at h
set_option maxHeartbeats 1000000 in
theorem o_zim40 (word from_ : Int) (M : Value) (a b : Int) (w : World) (g : Nat) (cells : List Value) (hT : TabIs 0 w) (htg : 0 ≠ g) (hB : Blk w g 119 cells) (hr : RG cells) (h1 : Z cells 0 a b) (sm : Sm b) :
    Calls Tryd.prog 26 #[.pointer (some ⟨g, 0, none⟩), .agg #[.int .i64 34, .int .i64 4, .int .i64 0, .int .i32 0, .int .i64 0], .int .i32 word, M, .int .i64 from_] w fun e w' => e = .returned (.agg #[.int .i64 0, .int .i64 0, .int .u32 0]) ∧ CW w g (cells.set 4 (.int .i32 b)) w' :=
  by
  obtain ⟨p, q, hz, hp, hq⟩ := h1
  obtain ⟨x, hx⟩ := hr.1 4 (by omega)
  obtain ⟨y, hy, htr⟩ := trunc_rep hq sm.abs
  have hne : (FloatKind.f64.format.order q y != some .eq) = false := by
    have e : FloatKind.f64.format.order q y = some (compare b b) := hq.order hy
    rw [e, show compare b b = .eq from Int.compare_eq_eq.2 rfl]; rfl
  exact do_part 34 0 0 word from_ 4 0 M 0 0 0 w g cells _ hT htg hB (by omega) (by kernel_rfl) (by kernel_rfl) (Lib.hid fun W hT hB => pt_zim 34 0 0 4 0 p q y b W g cells hT htg hB (by omega) (by omega) hz _ hx (rep_ge hq sm.1) (rep_le hq sm.2) hne (rep_cv hq sm.1 sm.2) (Lib.hid htr) (by kernel_rfl))
theorem op_zim11  (w : World) : Calls Tryd.prog 27 #[.string ⟨#[122, 105, 109]⟩, .int .i64 1, .int .i64 1, .int .i32 0] w fun e w' => e = .returned (.agg #[.int .i64 34, .int .i64 1, .int .i64 1, .int .i32 0, .int .i64 0]) ∧ Below w.heap.size w w' := by
  have h := op_any ⟨#[122, 105, 109]⟩ 1 1 0 w
  rwa [show findR (ByteArray.toList ⟨#[122, 105, 109]⟩) = 34 from by kernel_rfl] at h
set_option maxHeartbeats 1000000 in
theorem o_zim11 (word from_ : Int) (M : Value) (a b : Int) (w : World) (g : Nat) (cells : List Value) (hT : TabIs 0 w) (htg : 0 ≠ g) (hB : Blk w g 119 cells) (hr : RG cells) (h1 : Z cells 1 a b) (sm : Sm b) :
    Calls Tryd.prog 26 #[.pointer (some ⟨g, 0, none⟩), .agg #[.int .i64 34, .int .i64 1, .int .i64 1, .int .i32 0, .int .i64 0], .int .i32 word, M, .int .i64 from_] w fun e w' => e = .returned (.agg #[.int .i64 0, .int .i64 0, .int .u32 0]) ∧ CW w g (cells.set 1 (.int .i32 b)) w' :=
  by
  obtain ⟨p, q, hz, hp, hq⟩ := h1
  obtain ⟨x, hx⟩ := hr.1 1 (by omega)
  obtain ⟨y, hy, htr⟩ := trunc_rep hq sm.abs
  have hne : (FloatKind.f64.format.order q y != some .eq) = false := by
    have e : FloatKind.f64.format.order q y = some (compare b b) := hq.order hy
    rw [e, show compare b b = .eq from Int.compare_eq_eq.2 rfl]; rfl
  exact do_part 34 0 0 word from_ 1 1 M 0 0 0 w g cells _ hT htg hB (by omega) (by kernel_rfl) (by kernel_rfl) (Lib.hid fun W hT hB => pt_zim 34 0 0 1 1 p q y b W g cells hT htg hB (by omega) (by omega) hz _ hx (rep_ge hq sm.1) (rep_le hq sm.2) hne (rep_cv hq sm.1 sm.2) (Lib.hid htr) (by kernel_rfl))
def raI : Nat → Int × Int × Int × Int × Int := fun k => match k with | 0 => (36, 1, 0, 3, 0) | 1 => (36, 2, 0, 4, 0) | 2 => (35, 0, 1, 2, 0) | 3 => (32, 0, 0, 0, 0) | _ => (34, 4, 0, 0, 0)
def raS : Nat → List Value → Prop := fun k c => match k with
  | 0 => RG c
  | 1 => RG c ∧ c[1]? = some (.int .i32 3)
  | 2 => RG c ∧ c[1]? = some (.int .i32 3) ∧ c[2]? = some (.int .i32 4)
  | 3 => RG c ∧ Z c 0 3 4
  | 4 => RG c ∧ Z c 0 (-7) 24
  | _ => c[4]? = some (.int .i32 24)
theorem ra_at (w : World) : ∀ k, k < 5 → InsAt w.heap.size (k * 5) (raI k) (w.alloc (.cells #[.int .i64 36, .int .i64 1, .int .i64 0, .int .i32 3, .int .i64 0, .int .i64 36, .int .i64 2, .int .i64 0, .int .i32 4, .int .i64 0, .int .i64 35, .int .i64 0, .int .i64 1, .int .i32 2, .int .i64 0, .int .i64 32, .int .i64 0, .int .i64 0, .int .i32 0, .int .i64 0, .int .i64 34, .int .i64 4, .int .i64 0, .int .i32 0, .int .i64 0] 25)) := by
  intro k hk
  have hB : Blk (w.alloc (.cells #[.int .i64 36, .int .i64 1, .int .i64 0, .int .i32 3, .int .i64 0, .int .i64 36, .int .i64 2, .int .i64 0, .int .i32 4, .int .i64 0, .int .i64 35, .int .i64 0, .int .i64 1, .int .i32 2, .int .i64 0, .int .i64 32, .int .i64 0, .int .i64 0, .int .i32 0, .int .i64 0, .int .i64 34, .int .i64 4, .int .i64 0, .int .i32 0, .int .i64 0] 25)) w.heap.size 25 [.int .i64 36, .int .i64 1, .int .i64 0, .int .i32 3, .int .i64 0, .int .i64 36, .int .i64 2, .int .i64 0, .int .i32 4, .int .i64 0, .int .i64 35, .int .i64 0, .int .i64 1, .int .i32 2, .int .i64 0, .int .i64 32, .int .i64 0, .int .i64 0, .int .i32 0, .int .i64 0, .int .i64 34, .int .i64 4, .int .i64 0, .int .i32 0, .int .i64 0] := Blk.new w _ _
  rcases (show k = 0 ∨ k = 1 ∨ k = 2 ∨ k = 3 ∨ k = 4 by omega) with rfl | rfl | rfl | rfl | rfl
  · exact ⟨hB.cell 0, hB.cell 1, hB.cell 2, hB.cell 3, hB.cell 4⟩
  · exact ⟨hB.cell 5, hB.cell 6, hB.cell 7, hB.cell 8, hB.cell 9⟩
  · exact ⟨hB.cell 10, hB.cell 11, hB.cell 12, hB.cell 13, hB.cell 14⟩
  · exact ⟨hB.cell 15, hB.cell 16, hB.cell 17, hB.cell 18, hB.cell 19⟩
  · exact ⟨hB.cell 20, hB.cell 21, hB.cell 22, hB.cell 23, hB.cell 24⟩
set_option maxHeartbeats 2000000 in
theorem ra_does (w : World) (hT : TabIs 0 w) : Calls Tryd.prog 40 #[.int .i64 4, .int .i32 24, .slice (some ⟨w.heap.size, 0, none⟩) 5 5] (w.alloc (.cells #[.int .i64 36, .int .i64 1, .int .i64 0, .int .i32 3, .int .i64 0, .int .i64 36, .int .i64 2, .int .i64 0, .int .i32 4, .int .i64 0, .int .i64 35, .int .i64 0, .int .i64 1, .int .i32 2, .int .i64 0, .int .i64 32, .int .i64 0, .int .i64 0, .int .i32 0, .int .i64 0, .int .i64 34, .int .i64 4, .int .i64 0, .int .i32 0, .int .i64 0] 25)) fun e w' => e = .returned (.bool true) ∧ Below (w.heap.size + 1) (w.alloc (.cells #[.int .i64 36, .int .i64 1, .int .i64 0, .int .i32 3, .int .i64 0, .int .i64 36, .int .i64 2, .int .i64 0, .int .i32 4, .int .i64 0, .int .i64 35, .int .i64 0, .int .i64 1, .int .i32 2, .int .i64 0, .int .i64 32, .int .i64 0, .int .i64 0, .int .i32 0, .int .i64 0, .int .i64 34, .int .i64 4, .int .i64 0, .int .i32 0, .int .i64 0] 25)) w' := by
  have h := doesM 4 24 w.heap.size 5 5 raI raS (w.alloc (.cells #[.int .i64 36, .int .i64 1, .int .i64 0, .int .i32 3, .int .i64 0, .int .i64 36, .int .i64 2, .int .i64 0, .int .i32 4, .int .i64 0, .int .i64 35, .int .i64 0, .int .i64 1, .int .i32 2, .int .i64 0, .int .i64 32, .int .i64 0, .int .i64 0, .int .i32 0, .int .i64 0, .int .i64 34, .int .i64 4, .int .i64 0, .int .i32 0, .int .i64 0] 25)) (hT.alloc _) (by simp) (ra_at w) (by omega) (Nat.le_refl _) (by omega) (fun v => ?_) (fun k hk => ?_) (fun _ h => h)
  · rw [World.size_alloc] at h; exact h
  · exact cells0_rg v
  rcases (show k = 0 ∨ k = 1 ∨ k = 2 ∨ k = 3 ∨ k = 4 by omega) with rfl | rfl | rfl | rfl | rfl
  · intro w g c hT htg hB hr b hbg hM
    exact (o_lis1_3 11 16 _ w g c hT htg hB hr).mono fun e w' h => ⟨h.1, _, h.2, hr.set32 1 (by omega) 3, hr.at32 1 (by omega) 3⟩
  · intro w g c hT htg hB hr b hbg hM
    exact (o_lis2_4 11 16 _ w g c hT htg hB hr.1).mono fun e w' h => ⟨h.1, _, h.2, hr.1.set32 2 (by omega) 4, get_ne hr.2 (by omega), hr.1.at32 2 (by omega) 4⟩
  · intro w g c hT htg hB hr b hbg hM
    exact (o_zset 11 16 _ 3 4 w g c hT htg hB hr.2.1 hr.2.2 hr.1).mono fun e w' h => ⟨h.1, _, h.2, hr.1.setC 0 (by omega) _ _, _, _, hr.1.atC 0 (by omega) _ _, rep_ofInt 3 (by decide), rep_ofInt 4 (by decide)⟩
  · intro w g c hT htg hB hr b hbg hM
    obtain ⟨hr0, p, q, hz, hp, hq⟩ := hr
    exact (zmul_rep 11 16 _ p q 3 4 w g c hT htg hB hz hp hq (by decide) (by decide) (by decide) (by decide) (by decide)).mono fun e w' h => by
      obtain ⟨he, re, im, h1, h2, h3⟩ := h
      exact ⟨he, _, h3, hr0.setC 0 (by omega) _ _, re, im, hr0.atC 0 (by omega) _ _, h1, h2⟩
  · intro w g c hT htg hB hr b hbg hM
    exact (o_zim40 11 16 _ (-7) 24 w g c hT htg hB hr.1 hr.2 ⟨by decide, by decide⟩).mono fun e w' h => ⟨h.1, _, h.2, hr.1.at32 4 (by omega) 24⟩

def rbI : Nat → Int × Int × Int × Int × Int := fun k => match k with | 0 => (38, 1, 0, 2147483647, 0) | _ => (14, 1, 1, 0, 0)
def rbS : Nat → List Value → Prop := fun k c => match k with
  | 0 => RG c
  | 1 => RG c ∧ c[1]? = some (.int .i32 2147483647)
  | _ => c[1]? = some (.int .i32 (-2))
theorem rb_at (w : World) : ∀ k, k < 2 → InsAt w.heap.size (k * 5) (rbI k) (w.alloc (.cells #[.int .i64 38, .int .i64 1, .int .i64 0, .int .i32 2147483647, .int .i64 0, .int .i64 14, .int .i64 1, .int .i64 1, .int .i32 0, .int .i64 0] 25)) := by
  intro k hk
  have hB : Blk (w.alloc (.cells #[.int .i64 38, .int .i64 1, .int .i64 0, .int .i32 2147483647, .int .i64 0, .int .i64 14, .int .i64 1, .int .i64 1, .int .i32 0, .int .i64 0] 25)) w.heap.size 25 [.int .i64 38, .int .i64 1, .int .i64 0, .int .i32 2147483647, .int .i64 0, .int .i64 14, .int .i64 1, .int .i64 1, .int .i32 0, .int .i64 0] := Blk.new w _ _
  rcases (show k = 0 ∨ k = 1 by omega) with rfl | rfl
  · exact ⟨hB.cell 0, hB.cell 1, hB.cell 2, hB.cell 3, hB.cell 4⟩
  · exact ⟨hB.cell 5, hB.cell 6, hB.cell 7, hB.cell 8, hB.cell 9⟩
set_option maxHeartbeats 2000000 in
theorem rb_does (w : World) (hT : TabIs 0 w) : Calls Tryd.prog 40 #[.int .i64 1, .int .i32 (-2), .slice (some ⟨w.heap.size, 0, none⟩) 2 2] (w.alloc (.cells #[.int .i64 38, .int .i64 1, .int .i64 0, .int .i32 2147483647, .int .i64 0, .int .i64 14, .int .i64 1, .int .i64 1, .int .i32 0, .int .i64 0] 25)) fun e w' => e = .returned (.bool true) ∧ Below (w.heap.size + 1) (w.alloc (.cells #[.int .i64 38, .int .i64 1, .int .i64 0, .int .i32 2147483647, .int .i64 0, .int .i64 14, .int .i64 1, .int .i64 1, .int .i32 0, .int .i64 0] 25)) w' := by
  have h := doesM 1 (-2) w.heap.size 2 2 rbI rbS (w.alloc (.cells #[.int .i64 38, .int .i64 1, .int .i64 0, .int .i32 2147483647, .int .i64 0, .int .i64 14, .int .i64 1, .int .i64 1, .int .i32 0, .int .i64 0] 25)) (hT.alloc _) (by simp) (rb_at w) (by omega) (Nat.le_refl _) (by omega) (fun v => ?_) (fun k hk => ?_) (fun _ h => h)
  · rw [World.size_alloc] at h; exact h
  · exact cells0_rg v
  rcases (show k = 0 ∨ k = 1 by omega) with rfl | rfl
  · intro w g c hT htg hB hr b hbg hM
    exact (o_li1 11 16 _ 2147483647 w g c hT htg hB (by omega) hr).mono fun e w' h => ⟨h.1, _, h.2, hr.set32 1 (by omega) _, hr.at32 1 (by omega) _⟩
  · intro w g c hT htg hB hr b hbg hM
    exact (o_add11 11 16 _ 2147483647 w g c hT htg hB hr.2 (by omega) (by omega)).mono fun e w' h => ⟨h.1, _, h.2, by
      have h3 := hr.1.at32 1 (by omega) (wrap32 (2147483647 + 2147483647))
      have h4 : wrap32 (2147483647 + 2147483647) = -2 := by kernel_rfl
      show (c.set 1 (.int .i32 (wrap32 (2147483647 + 2147483647))))[1]? = some (.int .i32 (-2))
      rw [h3, h4]⟩

def rcI : Nat → Int × Int × Int × Int × Int := fun k => match k with | 0 => (38, 1, 0, (-2147483648), 0) | 1 => (36, 2, 0, (-1), 0) | _ => (17, 1, 2, 0, 0)
def rcS : Nat → List Value → Prop := fun k c => match k with
  | 0 => RG c
  | 1 => RG c ∧ c[1]? = some (.int .i32 (-2147483648))
  | 2 => RG c ∧ c[1]? = some (.int .i32 (-2147483648)) ∧ c[2]? = some (.int .i32 (-1))
  | _ => c[1]? = some (.int .i32 (-2147483648))
theorem rc_at (w : World) : ∀ k, k < 3 → InsAt w.heap.size (k * 5) (rcI k) (w.alloc (.cells #[.int .i64 38, .int .i64 1, .int .i64 0, .int .i32 (-2147483648), .int .i64 0, .int .i64 36, .int .i64 2, .int .i64 0, .int .i32 (-1), .int .i64 0, .int .i64 17, .int .i64 1, .int .i64 2, .int .i32 0, .int .i64 0] 25)) := by
  intro k hk
  have hB : Blk (w.alloc (.cells #[.int .i64 38, .int .i64 1, .int .i64 0, .int .i32 (-2147483648), .int .i64 0, .int .i64 36, .int .i64 2, .int .i64 0, .int .i32 (-1), .int .i64 0, .int .i64 17, .int .i64 1, .int .i64 2, .int .i32 0, .int .i64 0] 25)) w.heap.size 25 [.int .i64 38, .int .i64 1, .int .i64 0, .int .i32 (-2147483648), .int .i64 0, .int .i64 36, .int .i64 2, .int .i64 0, .int .i32 (-1), .int .i64 0, .int .i64 17, .int .i64 1, .int .i64 2, .int .i32 0, .int .i64 0] := Blk.new w _ _
  rcases (show k = 0 ∨ k = 1 ∨ k = 2 by omega) with rfl | rfl | rfl
  · exact ⟨hB.cell 0, hB.cell 1, hB.cell 2, hB.cell 3, hB.cell 4⟩
  · exact ⟨hB.cell 5, hB.cell 6, hB.cell 7, hB.cell 8, hB.cell 9⟩
  · exact ⟨hB.cell 10, hB.cell 11, hB.cell 12, hB.cell 13, hB.cell 14⟩
set_option maxHeartbeats 2000000 in
theorem rc_does (w : World) (hT : TabIs 0 w) : Calls Tryd.prog 40 #[.int .i64 1, .int .i32 (-2147483648), .slice (some ⟨w.heap.size, 0, none⟩) 3 3] (w.alloc (.cells #[.int .i64 38, .int .i64 1, .int .i64 0, .int .i32 (-2147483648), .int .i64 0, .int .i64 36, .int .i64 2, .int .i64 0, .int .i32 (-1), .int .i64 0, .int .i64 17, .int .i64 1, .int .i64 2, .int .i32 0, .int .i64 0] 25)) fun e w' => e = .returned (.bool true) ∧ Below (w.heap.size + 1) (w.alloc (.cells #[.int .i64 38, .int .i64 1, .int .i64 0, .int .i32 (-2147483648), .int .i64 0, .int .i64 36, .int .i64 2, .int .i64 0, .int .i32 (-1), .int .i64 0, .int .i64 17, .int .i64 1, .int .i64 2, .int .i32 0, .int .i64 0] 25)) w' := by
  have h := doesM 1 (-2147483648) w.heap.size 3 3 rcI rcS (w.alloc (.cells #[.int .i64 38, .int .i64 1, .int .i64 0, .int .i32 (-2147483648), .int .i64 0, .int .i64 36, .int .i64 2, .int .i64 0, .int .i32 (-1), .int .i64 0, .int .i64 17, .int .i64 1, .int .i64 2, .int .i32 0, .int .i64 0] 25)) (hT.alloc _) (by simp) (rc_at w) (by omega) (Nat.le_refl _) (by omega) (fun v => ?_) (fun k hk => ?_) (fun _ h => h)
  · rw [World.size_alloc] at h; exact h
  · exact cells0_rg v
  rcases (show k = 0 ∨ k = 1 ∨ k = 2 by omega) with rfl | rfl | rfl
  · intro w g c hT htg hB hr b hbg hM
    exact (o_li1 11 16 _ (-2147483648) w g c hT htg hB (by omega) hr).mono fun e w' h => ⟨h.1, _, h.2, hr.set32 1 (by omega) _, hr.at32 1 (by omega) _⟩
  · intro w g c hT htg hB hr b hbg hM
    exact (o_lis2_m1 11 16 _ w g c hT htg hB hr.1).mono fun e w' h => ⟨h.1, _, h.2, hr.1.set32 2 (by omega) _, get_ne hr.2 (by omega), hr.1.at32 2 (by omega) _⟩
  · intro w g c hT htg hB hr b hbg hM
    exact (o_div 11 16 _ (-2147483648) (-1) w g c hT htg hB hr.2.1 hr.2.2 (by omega) (by omega) (by omega) (by omega) (by decide) (by decide)).mono fun e w' h => ⟨h.1, _, h.2, by
      have h3 := hr.1.at32 1 (by omega) (wrap32 ((-2147483648 : Int).tdiv (-1)))
      have h4 : wrap32 ((-2147483648 : Int).tdiv (-1)) = -2147483648 := by kernel_rfl
      show (c.set 1 (.int .i32 (wrap32 ((-2147483648 : Int).tdiv (-1)))))[1]? = some (.int .i32 (-2147483648))
      rw [h3, h4]⟩

def rdI : Nat → Int × Int × Int × Int × Int := fun k => match k with | 0 => (36, 1, 0, 1, 0) | 1 => (36, 2, 0, 32, 0) | _ => (21, 1, 2, 0, 0)
def rdS : Nat → List Value → Prop := fun k c => match k with
  | 0 => RG c
  | 1 => RG c ∧ c[1]? = some (.int .i32 1)
  | 2 => RG c ∧ c[1]? = some (.int .i32 1) ∧ c[2]? = some (.int .i32 32)
  | _ => c[1]? = some (.int .i32 1)
theorem rd_at (w : World) : ∀ k, k < 3 → InsAt w.heap.size (k * 5) (rdI k) (w.alloc (.cells #[.int .i64 36, .int .i64 1, .int .i64 0, .int .i32 1, .int .i64 0, .int .i64 36, .int .i64 2, .int .i64 0, .int .i32 32, .int .i64 0, .int .i64 21, .int .i64 1, .int .i64 2, .int .i32 0, .int .i64 0] 25)) := by
  intro k hk
  have hB : Blk (w.alloc (.cells #[.int .i64 36, .int .i64 1, .int .i64 0, .int .i32 1, .int .i64 0, .int .i64 36, .int .i64 2, .int .i64 0, .int .i32 32, .int .i64 0, .int .i64 21, .int .i64 1, .int .i64 2, .int .i32 0, .int .i64 0] 25)) w.heap.size 25 [.int .i64 36, .int .i64 1, .int .i64 0, .int .i32 1, .int .i64 0, .int .i64 36, .int .i64 2, .int .i64 0, .int .i32 32, .int .i64 0, .int .i64 21, .int .i64 1, .int .i64 2, .int .i32 0, .int .i64 0] := Blk.new w _ _
  rcases (show k = 0 ∨ k = 1 ∨ k = 2 by omega) with rfl | rfl | rfl
  · exact ⟨hB.cell 0, hB.cell 1, hB.cell 2, hB.cell 3, hB.cell 4⟩
  · exact ⟨hB.cell 5, hB.cell 6, hB.cell 7, hB.cell 8, hB.cell 9⟩
  · exact ⟨hB.cell 10, hB.cell 11, hB.cell 12, hB.cell 13, hB.cell 14⟩
set_option maxHeartbeats 2000000 in
theorem rd_does (w : World) (hT : TabIs 0 w) : Calls Tryd.prog 40 #[.int .i64 1, .int .i32 1, .slice (some ⟨w.heap.size, 0, none⟩) 3 3] (w.alloc (.cells #[.int .i64 36, .int .i64 1, .int .i64 0, .int .i32 1, .int .i64 0, .int .i64 36, .int .i64 2, .int .i64 0, .int .i32 32, .int .i64 0, .int .i64 21, .int .i64 1, .int .i64 2, .int .i32 0, .int .i64 0] 25)) fun e w' => e = .returned (.bool true) ∧ Below (w.heap.size + 1) (w.alloc (.cells #[.int .i64 36, .int .i64 1, .int .i64 0, .int .i32 1, .int .i64 0, .int .i64 36, .int .i64 2, .int .i64 0, .int .i32 32, .int .i64 0, .int .i64 21, .int .i64 1, .int .i64 2, .int .i32 0, .int .i64 0] 25)) w' := by
  have h := doesM 1 1 w.heap.size 3 3 rdI rdS (w.alloc (.cells #[.int .i64 36, .int .i64 1, .int .i64 0, .int .i32 1, .int .i64 0, .int .i64 36, .int .i64 2, .int .i64 0, .int .i32 32, .int .i64 0, .int .i64 21, .int .i64 1, .int .i64 2, .int .i32 0, .int .i64 0] 25)) (hT.alloc _) (by simp) (rd_at w) (by omega) (Nat.le_refl _) (by omega) (fun v => ?_) (fun k hk => ?_) (fun _ h => h)
  · rw [World.size_alloc] at h; exact h
  · exact cells0_rg v
  rcases (show k = 0 ∨ k = 1 ∨ k = 2 by omega) with rfl | rfl | rfl
  · intro w g c hT htg hB hr b hbg hM
    exact (o_lis1_1 11 16 _ w g c hT htg hB hr).mono fun e w' h => ⟨h.1, _, h.2, hr.set32 1 (by omega) _, hr.at32 1 (by omega) _⟩
  · intro w g c hT htg hB hr b hbg hM
    exact (o_lis2_32 11 16 _ w g c hT htg hB hr.1).mono fun e w' h => ⟨h.1, _, h.2, hr.1.set32 2 (by omega) _, get_ne hr.2 (by omega), hr.1.at32 2 (by omega) _⟩
  · intro w g c hT htg hB hr b hbg hM
    exact (o_shl12 11 16 _ 1 32 1 w g c hT htg hB hr.2.1 hr.2.2 (by omega) (by omega) (by omega) (by omega) (by kernel_rfl)).mono fun e w' h => ⟨h.1, _, h.2, hr.1.at32 1 (by omega) _⟩

def reI : Nat → Int × Int × Int × Int × Int := fun k => match k with | 0 => (11, 1, 0, 0, 0) | 1 => (12, 1, 0, 0, 0) | _ => (34, 1, 1, 0, 0)
def reS : Nat → List Value → Prop := fun k c => match k with
  | 0 => RG c ∧ Z c 1 0 0
  | 1 => RG c ∧ Z c 1 (-0) 0
  | 2 => RG c ∧ Z c 1 (-0) (-0)
  | _ => c[1]? = some (.int .i32 0)
theorem re_at (w : World) : ∀ k, k < 3 → InsAt w.heap.size (k * 5) (reI k) (w.alloc (.cells #[.int .i64 11, .int .i64 1, .int .i64 0, .int .i32 0, .int .i64 0, .int .i64 12, .int .i64 1, .int .i64 0, .int .i32 0, .int .i64 0, .int .i64 34, .int .i64 1, .int .i64 1, .int .i32 0, .int .i64 0] 25)) := by
  intro k hk
  have hB : Blk (w.alloc (.cells #[.int .i64 11, .int .i64 1, .int .i64 0, .int .i32 0, .int .i64 0, .int .i64 12, .int .i64 1, .int .i64 0, .int .i32 0, .int .i64 0, .int .i64 34, .int .i64 1, .int .i64 1, .int .i32 0, .int .i64 0] 25)) w.heap.size 25 [.int .i64 11, .int .i64 1, .int .i64 0, .int .i32 0, .int .i64 0, .int .i64 12, .int .i64 1, .int .i64 0, .int .i32 0, .int .i64 0, .int .i64 34, .int .i64 1, .int .i64 1, .int .i32 0, .int .i64 0] := Blk.new w _ _
  rcases (show k = 0 ∨ k = 1 ∨ k = 2 by omega) with rfl | rfl | rfl
  · exact ⟨hB.cell 0, hB.cell 1, hB.cell 2, hB.cell 3, hB.cell 4⟩
  · exact ⟨hB.cell 5, hB.cell 6, hB.cell 7, hB.cell 8, hB.cell 9⟩
  · exact ⟨hB.cell 10, hB.cell 11, hB.cell 12, hB.cell 13, hB.cell 14⟩
set_option maxHeartbeats 2000000 in
theorem re_does (w : World) (hT : TabIs 0 w) : Calls Tryd.prog 40 #[.int .i64 1, .int .i32 0, .slice (some ⟨w.heap.size, 0, none⟩) 3 3] (w.alloc (.cells #[.int .i64 11, .int .i64 1, .int .i64 0, .int .i32 0, .int .i64 0, .int .i64 12, .int .i64 1, .int .i64 0, .int .i32 0, .int .i64 0, .int .i64 34, .int .i64 1, .int .i64 1, .int .i32 0, .int .i64 0] 25)) fun e w' => e = .returned (.bool true) ∧ Below (w.heap.size + 1) (w.alloc (.cells #[.int .i64 11, .int .i64 1, .int .i64 0, .int .i32 0, .int .i64 0, .int .i64 12, .int .i64 1, .int .i64 0, .int .i32 0, .int .i64 0, .int .i64 34, .int .i64 1, .int .i64 1, .int .i32 0, .int .i64 0] 25)) w' := by
  have h := doesM 1 0 w.heap.size 3 3 reI reS (w.alloc (.cells #[.int .i64 11, .int .i64 1, .int .i64 0, .int .i32 0, .int .i64 0, .int .i64 12, .int .i64 1, .int .i64 0, .int .i32 0, .int .i64 0, .int .i64 34, .int .i64 1, .int .i64 1, .int .i32 0, .int .i64 0] 25)) (hT.alloc _) (by simp) (re_at w) (by omega) (Nat.le_refl _) (by omega) (fun v => ?_) (fun k hk => ?_) (fun _ h => h)
  · rw [World.size_alloc] at h; exact h
  · exact ⟨cells0_rg v, 0, 0, c0_z v 1 (by omega), by have h := rep_ofInt 0 (by decide); rwa [show floatOfInt .f64 0 = 0 from by kernel_rfl] at h, by have h := rep_ofInt 0 (by decide); rwa [show floatOfInt .f64 0 = 0 from by kernel_rfl] at h⟩
  rcases (show k = 0 ∨ k = 1 ∨ k = 2 by omega) with rfl | rfl | rfl
  · intro w g c hT htg hB hr b hbg hM
    exact (o_zturn1 11 16 _ 0 0 w g c hT htg hB hr.1 hr.2).mono fun e w' h => by
      obtain ⟨h1, c', h2, h3, h4, _⟩ := h
      exact ⟨h1, c', h2, h3, h4⟩
  · intro w g c hT htg hB hr b hbg hM
    exact (o_zconj1 11 16 _ (-0) 0 w g c hT htg hB hr.1 hr.2).mono fun e w' h => by
      obtain ⟨h1, c', h2, h3, h4, _⟩ := h
      exact ⟨h1, c', h2, h3, h4⟩
  · intro w g c hT htg hB hr b hbg hM
    exact (o_zim11 11 16 _ (-0) (-0) w g c hT htg hB hr.1 hr.2 ⟨by decide, by decide⟩).mono fun e w' h => ⟨h.1, _, h.2, hr.1.at32 1 (by omega) _⟩

def rfI : Nat → Int × Int × Int × Int × Int := fun k => match k with | 0 => (36, 2, 0, 19, 0) | _ => (25, 1, 2, 0, 0)
def rfS : Nat → List Value → Prop := fun k c => match k with
  | 0 => RG c
  | 1 => RG c ∧ c[2]? = some (.int .i32 19)
  | _ => c[1]? = some (.int .i32 255)
theorem rf_at (w : World) : ∀ k, k < 2 → InsAt w.heap.size (k * 5) (rfI k) (w.alloc (.cells #[.int .i64 36, .int .i64 2, .int .i64 0, .int .i32 19, .int .i64 0, .int .i64 25, .int .i64 1, .int .i64 2, .int .i32 0, .int .i64 0] 25)) := by
  intro k hk
  have hB : Blk (w.alloc (.cells #[.int .i64 36, .int .i64 2, .int .i64 0, .int .i32 19, .int .i64 0, .int .i64 25, .int .i64 1, .int .i64 2, .int .i32 0, .int .i64 0] 25)) w.heap.size 25 [.int .i64 36, .int .i64 2, .int .i64 0, .int .i32 19, .int .i64 0, .int .i64 25, .int .i64 1, .int .i64 2, .int .i32 0, .int .i64 0] := Blk.new w _ _
  rcases (show k = 0 ∨ k = 1 by omega) with rfl | rfl
  · exact ⟨hB.cell 0, hB.cell 1, hB.cell 2, hB.cell 3, hB.cell 4⟩
  · exact ⟨hB.cell 5, hB.cell 6, hB.cell 7, hB.cell 8, hB.cell 9⟩
set_option maxHeartbeats 2000000 in
theorem rf_does (w : World) (hT : TabIs 0 w) : Calls Tryd.prog 40 #[.int .i64 1, .int .i32 255, .slice (some ⟨w.heap.size, 0, none⟩) 2 2] (w.alloc (.cells #[.int .i64 36, .int .i64 2, .int .i64 0, .int .i32 19, .int .i64 0, .int .i64 25, .int .i64 1, .int .i64 2, .int .i32 0, .int .i64 0] 25)) fun e w' => e = .returned (.bool true) ∧ Below (w.heap.size + 1) (w.alloc (.cells #[.int .i64 36, .int .i64 2, .int .i64 0, .int .i32 19, .int .i64 0, .int .i64 25, .int .i64 1, .int .i64 2, .int .i32 0, .int .i64 0] 25)) w' := by
  have h := doesM 1 255 w.heap.size 2 2 rfI rfS (w.alloc (.cells #[.int .i64 36, .int .i64 2, .int .i64 0, .int .i32 19, .int .i64 0, .int .i64 25, .int .i64 1, .int .i64 2, .int .i32 0, .int .i64 0] 25)) (hT.alloc _) (by simp) (rf_at w) (by omega) (Nat.le_refl _) (by omega) (fun v => ?_) (fun k hk => ?_) (fun _ h => h)
  · rw [World.size_alloc] at h; exact h
  · exact cells0_rg v
  rcases (show k = 0 ∨ k = 1 by omega) with rfl | rfl
  · intro w g c hT htg hB hr b hbg hM
    exact (o_lis2_19 11 16 _ w g c hT htg hB hr).mono fun e w' h => ⟨h.1, _, h.2, hr.set32 2 (by omega) _, hr.at32 2 (by omega) _⟩
  · intro w g c hT htg hB hr b hbg hM
    obtain ⟨x, hx⟩ := hr.1.1 1 (by omega)
    exact (o_ldb12 11 x 255 19 3 b w g c hT htg hB hx hr.2 hbg hM (by omega) (by omega) (by kernel_rfl)).mono fun e w' h => ⟨h.1, _, h.2, hr.1.at32 1 (by omega) _⟩

def rgI : Nat → Int × Int × Int × Int × Int := fun k => match k with | 0 => (36, 2, 0, 16, 0) | _ => (26, 1, 2, 0, 0)
def rgS : Nat → List Value → Prop := fun k c => match k with
  | 0 => RG c
  | 1 => RG c ∧ c[2]? = some (.int .i32 16)
  | _ => c[1]? = some (.int .i32 (-16580095))
theorem rg_at (w : World) : ∀ k, k < 2 → InsAt w.heap.size (k * 5) (rgI k) (w.alloc (.cells #[.int .i64 36, .int .i64 2, .int .i64 0, .int .i32 16, .int .i64 0, .int .i64 26, .int .i64 1, .int .i64 2, .int .i32 0, .int .i64 0] 25)) := by
  intro k hk
  have hB : Blk (w.alloc (.cells #[.int .i64 36, .int .i64 2, .int .i64 0, .int .i32 16, .int .i64 0, .int .i64 26, .int .i64 1, .int .i64 2, .int .i32 0, .int .i64 0] 25)) w.heap.size 25 [.int .i64 36, .int .i64 2, .int .i64 0, .int .i32 16, .int .i64 0, .int .i64 26, .int .i64 1, .int .i64 2, .int .i32 0, .int .i64 0] := Blk.new w _ _
  rcases (show k = 0 ∨ k = 1 by omega) with rfl | rfl
  · exact ⟨hB.cell 0, hB.cell 1, hB.cell 2, hB.cell 3, hB.cell 4⟩
  · exact ⟨hB.cell 5, hB.cell 6, hB.cell 7, hB.cell 8, hB.cell 9⟩
set_option maxHeartbeats 2000000 in
theorem rg_does (w : World) (hT : TabIs 0 w) : Calls Tryd.prog 40 #[.int .i64 1, .int .i32 (-16580095), .slice (some ⟨w.heap.size, 0, none⟩) 2 2] (w.alloc (.cells #[.int .i64 36, .int .i64 2, .int .i64 0, .int .i32 16, .int .i64 0, .int .i64 26, .int .i64 1, .int .i64 2, .int .i32 0, .int .i64 0] 25)) fun e w' => e = .returned (.bool true) ∧ Below (w.heap.size + 1) (w.alloc (.cells #[.int .i64 36, .int .i64 2, .int .i64 0, .int .i32 16, .int .i64 0, .int .i64 26, .int .i64 1, .int .i64 2, .int .i32 0, .int .i64 0] 25)) w' := by
  have h := doesM 1 (-16580095) w.heap.size 2 2 rgI rgS (w.alloc (.cells #[.int .i64 36, .int .i64 2, .int .i64 0, .int .i32 16, .int .i64 0, .int .i64 26, .int .i64 1, .int .i64 2, .int .i32 0, .int .i64 0] 25)) (hT.alloc _) (by simp) (rg_at w) (by omega) (Nat.le_refl _) (by omega) (fun v => ?_) (fun k hk => ?_) (fun _ h => h)
  · rw [World.size_alloc] at h; exact h
  · exact cells0_rg v
  rcases (show k = 0 ∨ k = 1 by omega) with rfl | rfl
  · intro w g c hT htg hB hr b hbg hM
    exact (o_lis2_16 11 16 _ w g c hT htg hB hr).mono fun e w' h => ⟨h.1, _, h.2, hr.set32 2 (by omega) _, hr.at32 2 (by omega) _⟩
  · intro w g c hT htg hB hr b hbg hM
    obtain ⟨x, hx⟩ := hr.1.1 1 (by omega)
    exact (o_ldw12 11 x (-16580095) 16 0 b w g c hT htg hB hx hr.2 hbg hM (by omega) (by omega) (by kernel_rfl)).mono fun e w' h => ⟨h.1, _, h.2, hr.1.at32 1 (by omega) _⟩

end Go.Proofs.YthcjnkakfpmpbaaDoor

namespace Go.Proofs.YthcjnkakfpmpbaaDoor
open Go.RowKit
set_option linter.unusedVariables false
set_option linter.unusedSimpArgs false
set_option maxRecDepth 20000

theorem op_npop (w : World) : Calls Tryd.prog 27 #[.string ⟨#[112, 111, 112]⟩, .int .i64 1, .int .i64 0, .int .i32 0] w fun e w' => e = .returned (.agg #[.int .i64 7, .int .i64 1, .int .i64 0, .int .i32 0, .int .i64 0]) ∧ Below w.heap.size w w' := by
  have h := op_any ⟨#[112, 111, 112]⟩ 1 0 0 w
  rwa [show findR (ByteArray.toList ⟨#[112, 111, 112]⟩) = 7 from by kernel_rfl] at h
theorem op_nin (w : World) : Calls Tryd.prog 27 #[.string ⟨#[105, 110]⟩, .int .i64 1, .int .i64 0, .int .i32 0] w fun e w' => e = .returned (.agg #[.int .i64 5, .int .i64 1, .int .i64 0, .int .i32 0, .int .i64 0]) ∧ Below w.heap.size w w' := by
  have h := op_any ⟨#[105, 110]⟩ 1 0 0 w
  rwa [show findR (ByteArray.toList ⟨#[105, 110]⟩) = 5 from by kernel_rfl] at h
theorem op_ntrap (w : World) : Calls Tryd.prog 27 #[.string ⟨#[116, 114, 97, 112]⟩, .int .i64 0, .int .i64 0, .int .i32 3] w fun e w' => e = .returned (.agg #[.int .i64 37, .int .i64 0, .int .i64 0, .int .i32 3, .int .i64 0]) ∧ Below w.heap.size w w' := by
  have h := op_any ⟨#[116, 114, 97, 112]⟩ 0 0 3 w
  rwa [show findR (ByteArray.toList ⟨#[116, 114, 97, 112]⟩) = 37 from by kernel_rfl] at h
theorem op_nhalt (w : World) : Calls Tryd.prog 27 #[.string ⟨#[104, 97, 108, 116]⟩, .int .i64 0, .int .i64 0, .int .i32 0] w fun e w' => e = .returned (.agg #[.int .i64 2, .int .i64 0, .int .i64 0, .int .i32 0, .int .i64 0]) ∧ Below w.heap.size w w' := by
  have h := op_any ⟨#[104, 97, 108, 116]⟩ 0 0 0 w
  rwa [show findR (ByteArray.toList ⟨#[104, 97, 108, 116]⟩) = 2 from by kernel_rfl] at h
theorem op_nret (w : World) : Calls Tryd.prog 27 #[.string ⟨#[114, 101, 116]⟩, .int .i64 0, .int .i64 0, .int .i32 0] w fun e w' => e = .returned (.agg #[.int .i64 3, .int .i64 0, .int .i64 0, .int .i32 0, .int .i64 0]) ∧ Below w.heap.size w w' := by
  have h := op_any ⟨#[114, 101, 116]⟩ 0 0 0 w
  rwa [show findR (ByteArray.toList ⟨#[114, 101, 116]⟩) = 3 from by kernel_rfl] at h
theorem op_njr (w : World) : Calls Tryd.prog 27 #[.string ⟨#[106, 114]⟩, .int .i64 7, .int .i64 0, .int .i32 0] w fun e w' => e = .returned (.agg #[.int .i64 8, .int .i64 7, .int .i64 0, .int .i32 0, .int .i64 0]) ∧ Below w.heap.size w w' := by
  have h := op_any ⟨#[106, 114]⟩ 7 0 0 w
  rwa [show findR (ByteArray.toList ⟨#[106, 114]⟩) = 8 from by kernel_rfl] at h
def tI : Nat → Int × Int × Int × Int × Int := fun k => match k with | 0 => (7, 1, 0, 0, 0) | 1 => (17, 1, 2, 0, 0) | 2 => (26, 1, 2, 0, 0) | 3 => (5, 1, 0, 0, 0) | 4 => (37, 0, 0, 3, 0) | _ => (99, 0, 0, 0, 0)
def tW : Nat → Int := fun k => match k with | 0 => 4 | 1 => 2 | 2 => 3 | 3 => 6 | 4 => 103 | _ => 1
theorem tI_at (w : World) : ∀ k, k < 6 → InsAt w.heap.size (k * 5) (tI k) (w.alloc (.cells #[.int .i64 7, .int .i64 1, .int .i64 0, .int .i32 0, .int .i64 0, .int .i64 17, .int .i64 1, .int .i64 2, .int .i32 0, .int .i64 0, .int .i64 26, .int .i64 1, .int .i64 2, .int .i32 0, .int .i64 0, .int .i64 5, .int .i64 1, .int .i64 0, .int .i32 0, .int .i64 0, .int .i64 37, .int .i64 0, .int .i64 0, .int .i32 3, .int .i64 0, .int .i64 99, .int .i64 0, .int .i64 0, .int .i32 0, .int .i64 0] 25)) := by
  intro k hk
  have hB : Blk (w.alloc (.cells #[.int .i64 7, .int .i64 1, .int .i64 0, .int .i32 0, .int .i64 0, .int .i64 17, .int .i64 1, .int .i64 2, .int .i32 0, .int .i64 0, .int .i64 26, .int .i64 1, .int .i64 2, .int .i32 0, .int .i64 0, .int .i64 5, .int .i64 1, .int .i64 0, .int .i32 0, .int .i64 0, .int .i64 37, .int .i64 0, .int .i64 0, .int .i32 3, .int .i64 0, .int .i64 99, .int .i64 0, .int .i64 0, .int .i32 0, .int .i64 0] 25)) w.heap.size 25 [.int .i64 7, .int .i64 1, .int .i64 0, .int .i32 0, .int .i64 0, .int .i64 17, .int .i64 1, .int .i64 2, .int .i32 0, .int .i64 0, .int .i64 26, .int .i64 1, .int .i64 2, .int .i32 0, .int .i64 0, .int .i64 5, .int .i64 1, .int .i64 0, .int .i32 0, .int .i64 0, .int .i64 37, .int .i64 0, .int .i64 0, .int .i32 3, .int .i64 0, .int .i64 99, .int .i64 0, .int .i64 0, .int .i32 0, .int .i64 0] := Blk.new w _ _
  rcases (show k = 0 ∨ k = 1 ∨ k = 2 ∨ k = 3 ∨ k = 4 ∨ k = 5 by omega) with rfl | rfl | rfl | rfl | rfl | rfl
  · exact ⟨hB.cell 0, hB.cell 1, hB.cell 2, hB.cell 3, hB.cell 4⟩
  · exact ⟨hB.cell 5, hB.cell 6, hB.cell 7, hB.cell 8, hB.cell 9⟩
  · exact ⟨hB.cell 10, hB.cell 11, hB.cell 12, hB.cell 13, hB.cell 14⟩
  · exact ⟨hB.cell 15, hB.cell 16, hB.cell 17, hB.cell 18, hB.cell 19⟩
  · exact ⟨hB.cell 20, hB.cell 21, hB.cell 22, hB.cell 23, hB.cell 24⟩
  · exact ⟨hB.cell 25, hB.cell 26, hB.cell 27, hB.cell 28, hB.cell 29⟩
theorem tW_at (w : World) : ∀ k, k < 6 → (w.alloc (.cells #[.int .i64 4, .int .i64 2, .int .i64 3, .int .i64 6, .int .i64 103, .int .i64 1] 3)).cell? ⟨w.heap.size, k, none⟩ = some (.int .i64 (tW k)) := by
  intro k hk
  have hB : Blk (w.alloc (.cells #[.int .i64 4, .int .i64 2, .int .i64 3, .int .i64 6, .int .i64 103, .int .i64 1] 3)) w.heap.size 3 [.int .i64 4, .int .i64 2, .int .i64 3, .int .i64 6, .int .i64 103, .int .i64 1] := Blk.new w _ _
  rcases (show k = 0 ∨ k = 1 ∨ k = 2 ∨ k = 3 ∨ k = 4 ∨ k = 5 by omega) with rfl | rfl | rfl | rfl | rfl | rfl
  · exact hB.cell 0
  · exact hB.cell 1
  · exact hB.cell 2
  · exact hB.cell 3
  · exact hB.cell 4
  · exact hB.cell 5
set_option maxHeartbeats 2000000 in
theorem traps_any (A : Option Addr) (c : Nat) (k : Nat) (hk : k < 6) (w : World) (g : Nat) (hT : TabIs 0 w) (htg : 0 ≠ g) (hB : Blk w g 119 (cells0 (.slice A 0 c))) :
    Calls Tryd.prog 26 #[.pointer (some ⟨g, 0, none⟩), insV (tI k), .int .i32 0, .slice none 0 0, .int .i64 16] w fun e w' => e = .returned (.agg #[.int .i64 6, .int .i64 (tW k), .int .u32 0]) ∧ CW w g (cells0 (.slice A 0 c)) w' := by
  rcases (show k = 0 ∨ k = 1 ∨ k = 2 ∨ k = 3 ∨ k = 4 ∨ k = 5 by omega) with rfl | rfl | rfl | rfl | rfl | rfl
  · exact do_one 7 0 0 0 16 1 0 _ 6 4 0 w g _ _ hT htg hB (by omega) (by kernel_rfl) (by kernel_rfl) (Lib.hid fun W hT hB => one_pop0 7 0 0 0 1 W g _ hT htg hB (by omega) none 0 (c0_stack _) (by kernel_rfl))
  · exact o_div0 0 16 _ 0 w g _ hT htg hB (c0_reg _ 1 (by omega)) (c0_reg _ 2 (by omega))
  · exact do_two 26 0 0 0 16 1 2 _ 6 3 0 w g _ _ hT htg hB (by omega) (by kernel_rfl) (by kernel_rfl) (Lib.hid fun W hT hB => two_ldw_no 26 0 0 1 2 (.slice none 0 0) 16 0 0 W g _ hT htg hB (by omega) (by omega) (c0_reg _ 1 (by omega)) (c0_reg _ 2 (by omega)) (by omega) (by omega) (Lib.hid fun W2 hC2 => bytes_no none 0 0 16 (0 % 4294967296) 4 W2 (by omega) (by omega) (by omega) (by omega) (by omega) (by omega) (by omega) (Or.inl (by omega))) (by kernel_rfl))
  · exact do_one 5 0 0 0 16 1 0 _ 6 6 0 w g _ _ hT htg hB (by omega) (by kernel_rfl) (by kernel_rfl) (Lib.hid fun W hT hB => one_in0 5 0 0 0 1 W g _ hT htg hB (by omega) A c (c0_input _) (by kernel_rfl))
  · exact do_goes9 37 0 3 0 16 0 0 _ 6 103 0 w g _ _ hT htg hB (by omega) (by kernel_rfl) (by kernel_rfl) (Lib.hid fun W hT hB => goes_trap 37 0 3 0 0 W g _ hT htg hB (by omega) (by omega) (by kernel_rfl))
  · exact do_wrong 99 0 0 0 16 0 0 _ (checkR 99 0 0 0 0) w g _ hT htg hB (by omega) rfl (by kernel_rfl)

theorem cw_cell {w w' : World} {g b : Nat} {cells : List Value} (h : CW w g cells w') (hb : b ≠ g) (hl : b < w.heap.size) (j : Nat) : w'.cell? ⟨b, j, none⟩ = w.cell? ⟨b, j, none⟩ := World.cell?_of_block (w := w) (h.fr.block b hl hb)
noncomputable def numR14 : Array Oper := regOf Tryd.f12.body 14
set_option maxRecDepth 100000 in
set_option maxHeartbeats 4000000 in
theorem num_r14 (g bT bW k : Nat) (i0 i1 i2 i3 i4 T : Int) (u0 u1 u2 u4 u8 u9 u10 u11 u12 u13 u14 u15 u16 u17 u18 u19 u20 u21 u22 u23 u24 u25 u26 u27 u28 u29 u30 u31 u32 u33 u34 u35 u36 u37 u38 u39 u40 u41 u42 u43 u44 u45 u46 u47 u48 u49 u50 u51 u52 u53 u54 u55 u56 u57 u58 u59 u60 u61 u62 u63 u64 u65 u66 u67 u68 u69 u70 u71 u72 u73 u74 u75 u76 u77 u78 u79 u80 u81 u82 u83 u84 u85 u86 u87 u88 u89 u90 u91 u92 u93 u94 u95 u96 u97 u98 u99 u100 u101 u102 u103 u104 u105 u106 u107 u108 u109 u110 u111 u112 u113 u114 u115 u116 u117 u118 u119 u120 u121 u122 u123 u124 u125 u126 u127 u128 u129 u130 u131 u132 u133 u134 u135 u136 u137 u138 u139 u140 u141 u142 u143 u144 u145 u146 u147 u148 u149 : Value) (W1 W : World) (Q : Exit → Act → World → Prop) (cells : List Value) (hk : k < 6) (hTg : bT ≠ g) (hWg : bW ≠ g) (hlT : bT < W.heap.size) (hlW : bW < W.heap.size)
    (hI : InsAt bT (k * 5) (i0, i1, i2, i3, i4) W) (hW : W.cell? ⟨bW, k, none⟩ = some (.int .i64 T)) (hC : CW W1 g cells W)
    (HC : Hid (∀ w, CW W1 g cells w → Calls Tryd.prog 26 #[.pointer (some ⟨g, 0, none⟩), .agg #[.int .i64 i0, .int .i64 i1, .int .i64 i2, .int .i32 i3, .int .i64 i4], .int .i32 0, .slice none 0 0, .int .i64 16] w fun e w' => e = .returned (.agg #[.int .i64 6, .int .i64 T, .int .u32 0]) ∧ CW w g cells w'))
    (hQ : ∀ (v109 v110 v111 v112 v113 v114 v115 v116 v117 v118 v119 : Value) (w' : World), CW W1 g cells w' → bT < w'.heap.size → bW < w'.heap.size → Q .normal { tmps := #[u0, u1, u2, .pointer (some ⟨g, 0, none⟩), u4, .slice (some ⟨bT, 0, none⟩) 6 6, .slice (some ⟨bW, 0, none⟩) 6 6, .int .i64 k, u8, u9, u10, u11, u12, u13, u14, u15, u16, u17, u18, u19, u20, u21, u22, u23, u24, u25, u26, u27, u28, u29, u30, u31, u32, u33, u34, u35, u36, u37, u38, u39, u40, u41, u42, u43, u44, u45, u46, u47, u48, u49, u50, u51, u52, u53, u54, u55, u56, u57, u58, u59, u60, u61, u62, u63, u64, u65, u66, u67, u68, u69, u70, u71, u72, u73, u74, u75, u76, u77, u78, u79, u80, u81, u82, u83, u84, u85, u86, u87, u88, u89, u90, u91, u92, u93, u94, u95, u96, u97, u98, u99, u100, u101, u102, u103, u104, u105, u106, u107, u108, v109, v110, v111, v112, v113, v114, v115, v116, v117, v118, v119, .bool false, u121, u122, u123, u124, u125, u126, u127, u128, u129, u130, u131, u132, u133, u134, u135, u136, u137, u138, u139, u140, u141, u142, u143, u144, u145, u146, u147, u148, u149], defers := [] } w') :
    (Code.region 14 numR14 true).wp Tryd.prog Q { tmps := #[u0, u1, u2, .pointer (some ⟨g, 0, none⟩), u4, .slice (some ⟨bT, 0, none⟩) 6 6, .slice (some ⟨bW, 0, none⟩) 6 6, .int .i64 k, u8, u9, u10, u11, u12, u13, u14, u15, u16, u17, u18, u19, u20, u21, u22, u23, u24, u25, u26, u27, u28, u29, u30, u31, u32, u33, u34, u35, u36, u37, u38, u39, u40, u41, u42, u43, u44, u45, u46, u47, u48, u49, u50, u51, u52, u53, u54, u55, u56, u57, u58, u59, u60, u61, u62, u63, u64, u65, u66, u67, u68, u69, u70, u71, u72, u73, u74, u75, u76, u77, u78, u79, u80, u81, u82, u83, u84, u85, u86, u87, u88, u89, u90, u91, u92, u93, u94, u95, u96, u97, u98, u99, u100, u101, u102, u103, u104, u105, u106, u107, u108, u109, u110, u111, u112, u113, u114, u115, u116, u117, u118, u119, u120, u121, u122, u123, u124, u125, u126, u127, u128, u129, u130, u131, u132, u133, u134, u135, u136, u137, u138, u139, u140, u141, u142, u143, u144, u145, u146, u147, u148, u149], defers := [] } W := by
  have hK : (k : Int) < 6 := by omega
  refine held_start (ops' := numR14) (l0 := #[false, false, false, false, false, false, false, false, false, false, false, false]) (S := (fun w' => InsAt bT (k * 5) (i0, i1, i2, i3, i4) w' ∧ w'.cell? ⟨bW, k, none⟩ = some (.int .i64 T) ∧ bT < w'.heap.size ∧ bW < w'.heap.size ∧ CW W1 g cells w')) (by kernel_rfl) (by kernel_rfl) (by kernel_rfl) (by kernel_rfl) ⟨hI, hW, hlT, hlW, hC.drewN 1⟩ (fun R hR => ?_)
  (refine held_take (v := ?_) (d := some 109) 0 (by kernel_rfl) (by kernel_rfl) rfl ?_ ?_
   rotate_left
   · intro w hSw
     conv in opOf _ _ => whnf
     (obtain ⟨⟨s0, s1, s2, s3, s4⟩, s5, _⟩ := hSw; dsimp only at s0 s1 s2 s3 s4)
     go_simp
     try (with_reducible rfl)
   try simp only [Act.put, List.setIfInBounds_toArray, List.set_cons_zero, List.set_cons_succ])
  (refine held_take (v := ?_) (d := some 110) 1 (by kernel_rfl) (by kernel_rfl) rfl ?_ ?_
   rotate_left
   · intro w hSw
     conv in opOf _ _ => whnf
     (obtain ⟨⟨s0, s1, s2, s3, s4⟩, s5, _⟩ := hSw; dsimp only at s0 s1 s2 s3 s4)
     go_simp
     try (with_reducible rfl)
   try simp only [Act.put, List.setIfInBounds_toArray, List.set_cons_zero, List.set_cons_succ])
  (refine held_take (v := ?_) (d := some 111) 2 (by kernel_rfl) (by kernel_rfl) rfl ?_ ?_
   rotate_left
   · intro w hSw
     conv in opOf _ _ => whnf
     (obtain ⟨⟨s0, s1, s2, s3, s4⟩, s5, _⟩ := hSw; dsimp only at s0 s1 s2 s3 s4)
     go_simp
     try (with_reducible rfl)
   try simp only [Act.put, List.setIfInBounds_toArray, List.set_cons_zero, List.set_cons_succ])
  (refine held_take (v := ?_) (d := some 112) 3 (by kernel_rfl) (by kernel_rfl) rfl ?_ ?_
   rotate_left
   · intro w hSw
     conv in opOf _ _ => whnf
     (obtain ⟨⟨s0, s1, s2, s3, s4⟩, s5, _⟩ := hSw; dsimp only at s0 s1 s2 s3 s4)
     go_simp
     try (with_reducible rfl)
   try simp only [Act.put, List.setIfInBounds_toArray, List.set_cons_zero, List.set_cons_succ])
  (refine held_take (v := ?_) (d := some 113) 4 (by kernel_rfl) (by kernel_rfl) rfl ?_ ?_
   rotate_left
   · intro w hSw
     conv in opOf _ _ => whnf
     (obtain ⟨⟨s0, s1, s2, s3, s4⟩, s5, _⟩ := hSw; dsimp only at s0 s1 s2 s3 s4)
     go_simp
     try (with_reducible rfl)
   try simp only [Act.put, List.setIfInBounds_toArray, List.set_cons_zero, List.set_cons_succ])
  (refine held_take (v := ?_) (d := some 115) 6 (by kernel_rfl) (by kernel_rfl) rfl ?_ ?_
   rotate_left
   · intro w hSw
     conv in opOf _ _ => whnf
     (obtain ⟨⟨s0, s1, s2, s3, s4⟩, s5, _⟩ := hSw; dsimp only at s0 s1 s2 s3 s4)
     go_simp
     try (with_reducible rfl)
   try simp only [Act.put, List.setIfInBounds_toArray, List.set_cons_zero, List.set_cons_succ])
  (refine held_take (v := ?_) (d := some 116) 7 (by kernel_rfl) (by kernel_rfl) rfl ?_ ?_
   rotate_left
   · intro w hSw
     conv in opOf _ _ => whnf
     (obtain ⟨⟨s0, s1, s2, s3, s4⟩, s5, _⟩ := hSw; dsimp only at s0 s1 s2 s3 s4)
     go_simp
     try (with_reducible rfl)
   try simp only [Act.put, List.setIfInBounds_toArray, List.set_cons_zero, List.set_cons_succ])
  (refine held_take (v := ?_) (d := some 117) 8 (by kernel_rfl) (by kernel_rfl) rfl ?_ ?_
   rotate_left
   · intro w hSw
     conv in opOf _ _ => whnf
     (obtain ⟨⟨s0, s1, s2, s3, s4⟩, s5, _⟩ := hSw; dsimp only at s0 s1 s2 s3 s4)
     go_simp
     try (with_reducible rfl)
   try simp only [Act.put, List.setIfInBounds_toArray, List.set_cons_zero, List.set_cons_succ])
  (refine held_take (v := ?_) (d := some 118) 9 (by kernel_rfl) (by kernel_rfl) rfl ?_ ?_
   rotate_left
   · intro w hSw
     conv in opOf _ _ => whnf
     (obtain ⟨⟨s0, s1, s2, s3, s4⟩, s5, _⟩ := hSw; dsimp only at s0 s1 s2 s3 s4)
     go_simp
     try (with_reducible rfl)
   try simp only [Act.put, List.setIfInBounds_toArray, List.set_cons_zero, List.set_cons_succ])
  (refine held_take (v := ?_) (d := some 119) 10 (by kernel_rfl) (by kernel_rfl) rfl ?_ ?_
   rotate_left
   · intro w hSw
     conv in opOf _ _ => whnf
     (obtain ⟨⟨s0, s1, s2, s3, s4⟩, s5, _⟩ := hSw; dsimp only at s0 s1 s2 s3 s4)
     go_simp
     try (with_reducible rfl)
   try simp only [Act.put, List.setIfInBounds_toArray, List.set_cons_zero, List.set_cons_succ])
  (refine held_one 5 (by kernel_rfl) (by kernel_rfl) (held_call (d := some 114) 5 (by kernel_rfl) (by kernel_rfl) rfl (fun hS => HC.out _ hS.2.2.2.2) (by kernel_rfl) (fun w' hS hbb => ⟨⟨hS.1.keep (fun j => cw_cell hbb hTg hS.2.2.1 j), (cw_cell hbb hWg hS.2.2.2.1 k).trans hS.2.1, Nat.lt_of_lt_of_le hS.2.2.1 hbb.size, Nat.lt_of_lt_of_le hS.2.2.2.1 hbb.size, hS.2.2.2.2.trans hbb⟩, ?_⟩))
   try simp only [Act.put, List.setIfInBounds_toArray, List.set_cons_zero, List.set_cons_succ])
  (refine held_take (v := ?_) (d := some 120) 11 (by kernel_rfl) (by kernel_rfl) rfl ?_ ?_
   rotate_left
   · intro w hSw
     conv in opOf _ _ => whnf
     skip
     go_simp
     try (with_reducible rfl)
   try simp only [Act.put, List.setIfInBounds_toArray, List.set_cons_zero, List.set_cons_succ])
  refine held_done (by kernel_rfl) (fun hS => hR.out _ _ ?_)
  exact hQ _ _ _ _ _ _ _ _ _ _ _ _ hS.2.2.2.2 hS.2.2.1 hS.2.2.2.1

/-- a fresh machine without input, all that is known of it -/
theorem fresh3 (w : World) : Calls Tryd.prog 24 #[.slice none 0 0] w fun e w' => ∃ g A c, e = .returned (.tuple #[.pointer (some ⟨g, 0, none⟩), .bool true]) ∧ w.heap.size ≤ g ∧ Blk w' g 119 (cells0 (.slice A 0 c)) ∧ Below w.heap.size w w' ∧ Mst w w.heap.size g 0 0 w' := by
  refine (fresh2_any none 0 0 [] w (Sl.nil_ _ _ _ _) (by simp) (by omega) (fun _ => ⟨rfl, rfl⟩)).mono ?_
  rintro e w' ⟨g, A, c, rfl, hg, hB, hb⟩
  exact ⟨g, A, c, rfl, hg, hB, hb, hb, hb.size, _, _, _, _, _, _, _, new_mr hB hg⟩
theorem o_halt (word from_ : Int) (M : Value) (w : World) (g : Nat) (cells : List Value) (hT : TabIs 0 w) (htg : 0 ≠ g) (hB : Blk w g 119 cells) :
    Calls Tryd.prog 26 #[.pointer (some ⟨g, 0, none⟩), .agg #[.int .i64 2, .int .i64 0, .int .i64 0, .int .i32 0, .int .i64 0], .int .i32 word, M, .int .i64 from_] w fun e w' => e = .returned (.agg #[.int .i64 5, .int .i64 0, .int .u32 0]) ∧ CW w g cells w' :=
  do_goes1 2 0 0 word from_ 0 0 M 5 0 0 w g cells _ hT htg hB (by omega) (by kernel_rfl) (by kernel_rfl) (Lib.hid fun W hT hB => goes_halt 2 0 0 0 0 W g _ hT htg hB (by kernel_rfl))
theorem o_ret (word from_ : Int) (M : Value) (w : World) (g : Nat) (cells : List Value) (hT : TabIs 0 w) (htg : 0 ≠ g) (hB : Blk w g 119 cells) :
    Calls Tryd.prog 26 #[.pointer (some ⟨g, 0, none⟩), .agg #[.int .i64 3, .int .i64 0, .int .i64 0, .int .i32 0, .int .i64 0], .int .i32 word, M, .int .i64 from_] w fun e w' => e = .returned (.agg #[.int .i64 3, .int .i64 0, .int .u32 0]) ∧ CW w g cells w' :=
  do_goes1 3 0 0 word from_ 0 0 M 3 0 0 w g cells _ hT htg hB (by omega) (by kernel_rfl) (by kernel_rfl) (Lib.hid fun W hT hB => goes_ret 3 0 0 0 0 W g _ hT htg hB (by kernel_rfl))
theorem o_jr (word from_ : Int) (M : Value) (w : World) (g : Nat) (cells : List Value) (hT : TabIs 0 w) (htg : 0 ≠ g) (hB : Blk w g 119 cells) (h7 : cells[7]? = some (.int .i32 (-1))) :
    Calls Tryd.prog 26 #[.pointer (some ⟨g, 0, none⟩), .agg #[.int .i64 8, .int .i64 7, .int .i64 0, .int .i32 0, .int .i64 0], .int .i32 word, M, .int .i64 from_] w fun e w' => e = .returned (.agg #[.int .i64 4, .int .i64 0, .int .u32 4294967295]) ∧ CW w g cells w' :=
  do_one 8 0 0 word from_ 7 0 M 4 0 4294967295 w g cells _ hT htg hB (by omega) (by kernel_rfl) (by kernel_rfl) (Lib.hid fun W hT hB => one_jr 8 0 0 0 7 W g _ hT htg hB (by omega) (-1) h7 (by omega) (by omega) (by kernel_rfl))
end Go.Proofs.YthcjnkakfpmpbaaDoor
