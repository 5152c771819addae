/- The words of law 18 on two numbers: two registers are set, one operation is done. Conditions: the table of operations is laid. -/
import Derived.Test.YthcjnkakfpmpbaaDoorC12
import Derived.Test.YthcjnkakfpmpbaaDoorP21
namespace Go.Proofs.YthcjnkakfpmpbaaDoor
open Go.RowKit
set_option linter.unusedVariables false
set_option linter.unusedSimpArgs false
set_option maxRecDepth 20000

set_option maxHeartbeats 2000000 in
theorem set18 (x y : Int) (w : World) (g : Nat) (cells : List Value) (hT : TabIs 0 w) (htg : 0 ≠ g) (hB : Blk w g 119 cells) (hr : RG cells) (hx : -2147483648 ≤ x ∧ x ≤ 2147483647) (hy : -2147483648 ≤ y ∧ y ≤ 2147483647) :
    Calls Tryd.prog 29 #[.pointer (some ⟨g, 0, none⟩), .int .i32 x, .int .i32 y] w fun e w' => e = .returned (.tuple #[]) ∧ CW w g ((cells.set 1 (.int .i32 x)).set 2 (.int .i32 y)) w' := by
  have HB := Lib.hid hB
  clear hB
  go_enter Tryd.func29, Tryd.ntmps29
  go_wp2_with (first
    | (go_at_call 27; (with_reducible refine Calls.mono (op_li1 x w) ?_); rintro e w1 ⟨rfl, hb1⟩; have hC1 := (CW.start HB.out).below hb1)
    | (go_at_call 26; (with_reducible refine Calls.mono (o_li1 0 0 _ x w1 g cells (hC1.tab hT htg) htg hC1.blk hx hr) ?_); rintro e w2 ⟨rfl, hc2⟩; have hC2 := hC1.trans hc2)
    | (go_at_call 27; (with_reducible refine Calls.mono (op_li2 y w2) ?_); rintro e w3 ⟨rfl, hb3⟩; have hC3 := hC2.below hb3)
    | (go_at_call 26; (with_reducible refine Calls.mono (o_li2 0 0 _ y w3 g _ (hC3.tab hT htg) htg hC3.blk hy (hr.set32 1 (by omega) x)) ?_); rintro e w4 ⟨rfl, hc4⟩; have hC4 := hC3.trans hc4)
    | fail)
  (try simp only [Exit.inBlock, Exit.then])
  first
    | (refine bodyPost_end (results_none rfl _ _ _) rfl ⟨rfl, ?_⟩; exact hC4)
    | (refine bodyPost_ret (results_none rfl _ _ _) rfl ⟨rfl, ?_⟩; exact hC4)
theorem RG.at_set {c : List Value} (h : RG c) (x y : Int) : RG ((c.set 1 (.int .i32 x)).set 2 (.int .i32 y)) ∧ ((c.set 1 (.int .i32 x)).set 2 (.int .i32 y))[1]? = some (.int .i32 x) ∧ ((c.set 1 (.int .i32 x)).set 2 (.int .i32 y))[2]? = some (.int .i32 y) :=
  ⟨(h.set32 1 (by omega) x).set32 2 (by omega) y, get_ne (h.at32 1 (by omega) x) (by omega), (h.set32 1 (by omega) x).at32 2 (by omega) y⟩
/-- the machine goes on; its first two registers are known -/
def Two (w : World) (g : Nat) (V y : Int) (w' : World) : Prop := ∃ c, CW w g c w' ∧ RG c ∧ c[1]? = some (.int .i32 V) ∧ c[2]? = some (.int .i32 y)

set_option maxHeartbeats 2000000 in
theorem two18_mov (x y : Int) (w : World) (g : Nat) (cells : List Value) (hT : TabIs 0 w) (htg : 0 ≠ g) (hB : Blk w g 119 cells) (hr : RG cells) (hx : -2147483648 ≤ x ∧ x ≤ 2147483647) (hy : -2147483648 ≤ y ∧ y ≤ 2147483647) :
    Calls Tryd.prog 25 #[.pointer (some ⟨g, 0, none⟩), .string ⟨#[109, 111, 118]⟩, .int .i32 x, .int .i32 y] w fun e w' => e = .returned (.int .i32 (y)) ∧ Two w g (y) y w' := by
  have HB := Lib.hid hB
  clear hB
  obtain ⟨hr2, h21, h22⟩ := hr.at_set x y
  go_enter Tryd.func25, Tryd.ntmps25
  go_wp2_with (first
    | (go_at_call 29; (with_reducible refine Calls.mono (set18 x y w g cells hT htg HB.out hr hx hy) ?_); rintro e w1 ⟨rfl, hC1⟩)
    | (go_at_call 27; (with_reducible refine Calls.mono (op_mov w1) ?_); rintro e w2 ⟨rfl, hb2⟩; have hC2 := hC1.below hb2)
    | (go_at_call 26; (with_reducible refine Calls.mono (o_mov 0 0 _ x y w2 g _ (hC2.tab hT htg) htg hC2.blk h21 h22 hx.1 hx.2 hy.1 hy.2) ?_); rintro e w3 ⟨rfl, hc3⟩; have hC3 := hC2.trans hc3)
    | (go_at_call 28; refine Calls.mono (reg_any 1 (y) w3 g _ hC3.blk (by omega) (hr2.at32 1 (by omega) _)) ?_; rintro e w4 ⟨rfl, rfl⟩)
    | fail)
  go_ret
  exact ⟨rfl, _, hC3, hr2.set32 1 (by omega) _, hr2.at32 1 (by omega) _, get_ne h22 (by omega)⟩
set_option maxHeartbeats 2000000 in
theorem two18_add (x y : Int) (w : World) (g : Nat) (cells : List Value) (hT : TabIs 0 w) (htg : 0 ≠ g) (hB : Blk w g 119 cells) (hr : RG cells) (hx : -2147483648 ≤ x ∧ x ≤ 2147483647) (hy : -2147483648 ≤ y ∧ y ≤ 2147483647) :
    Calls Tryd.prog 25 #[.pointer (some ⟨g, 0, none⟩), .string ⟨#[97, 100, 100]⟩, .int .i32 x, .int .i32 y] w fun e w' => e = .returned (.int .i32 (wrap32 (x + y))) ∧ Two w g (wrap32 (x + y)) y w' := by
  have HB := Lib.hid hB
  clear hB
  obtain ⟨hr2, h21, h22⟩ := hr.at_set x y
  go_enter Tryd.func25, Tryd.ntmps25
  go_wp2_with (first
    | (go_at_call 29; (with_reducible refine Calls.mono (set18 x y w g cells hT htg HB.out hr hx hy) ?_); rintro e w1 ⟨rfl, hC1⟩)
    | (go_at_call 27; (with_reducible refine Calls.mono (op_add w1) ?_); rintro e w2 ⟨rfl, hb2⟩; have hC2 := hC1.below hb2)
    | (go_at_call 26; (with_reducible refine Calls.mono (o_add 0 0 _ x y w2 g _ (hC2.tab hT htg) htg hC2.blk h21 h22 hx.1 hx.2 hy.1 hy.2) ?_); rintro e w3 ⟨rfl, hc3⟩; have hC3 := hC2.trans hc3)
    | (go_at_call 28; refine Calls.mono (reg_any 1 (wrap32 (x + y)) w3 g _ hC3.blk (by omega) (hr2.at32 1 (by omega) _)) ?_; rintro e w4 ⟨rfl, rfl⟩)
    | fail)
  go_ret
  exact ⟨rfl, _, hC3, hr2.set32 1 (by omega) _, hr2.at32 1 (by omega) _, get_ne h22 (by omega)⟩
set_option maxHeartbeats 2000000 in
theorem two18_mul (x y : Int) (w : World) (g : Nat) (cells : List Value) (hT : TabIs 0 w) (htg : 0 ≠ g) (hB : Blk w g 119 cells) (hr : RG cells) (hx : -2147483648 ≤ x ∧ x ≤ 2147483647) (hy : -2147483648 ≤ y ∧ y ≤ 2147483647) :
    Calls Tryd.prog 25 #[.pointer (some ⟨g, 0, none⟩), .string ⟨#[109, 117, 108]⟩, .int .i32 x, .int .i32 y] w fun e w' => e = .returned (.int .i32 (wrap32 (x * y))) ∧ Two w g (wrap32 (x * y)) y w' := by
  have HB := Lib.hid hB
  clear hB
  obtain ⟨hr2, h21, h22⟩ := hr.at_set x y
  go_enter Tryd.func25, Tryd.ntmps25
  go_wp2_with (first
    | (go_at_call 29; (with_reducible refine Calls.mono (set18 x y w g cells hT htg HB.out hr hx hy) ?_); rintro e w1 ⟨rfl, hC1⟩)
    | (go_at_call 27; (with_reducible refine Calls.mono (op_mul w1) ?_); rintro e w2 ⟨rfl, hb2⟩; have hC2 := hC1.below hb2)
    | (go_at_call 26; (with_reducible refine Calls.mono (o_mul 0 0 _ x y w2 g _ (hC2.tab hT htg) htg hC2.blk h21 h22 hx.1 hx.2 hy.1 hy.2) ?_); rintro e w3 ⟨rfl, hc3⟩; have hC3 := hC2.trans hc3)
    | (go_at_call 28; refine Calls.mono (reg_any 1 (wrap32 (x * y)) w3 g _ hC3.blk (by omega) (hr2.at32 1 (by omega) _)) ?_; rintro e w4 ⟨rfl, rfl⟩)
    | fail)
  go_ret
  exact ⟨rfl, _, hC3, hr2.set32 1 (by omega) _, hr2.at32 1 (by omega) _, get_ne h22 (by omega)⟩
set_option maxHeartbeats 2000000 in
theorem two18_and (x y : Int) (w : World) (g : Nat) (cells : List Value) (hT : TabIs 0 w) (htg : 0 ≠ g) (hB : Blk w g 119 cells) (hr : RG cells) (hx : -2147483648 ≤ x ∧ x ≤ 2147483647) (hy : -2147483648 ≤ y ∧ y ≤ 2147483647) :
    Calls Tryd.prog 25 #[.pointer (some ⟨g, 0, none⟩), .string ⟨#[97, 110, 100]⟩, .int .i32 x, .int .i32 y] w fun e w' => e = .returned (.int .i32 (bits BinOp.and IntKind.i32 x y)) ∧ Two w g (bits BinOp.and IntKind.i32 x y) y w' := by
  have HB := Lib.hid hB
  clear hB
  obtain ⟨hr2, h21, h22⟩ := hr.at_set x y
  go_enter Tryd.func25, Tryd.ntmps25
  go_wp2_with (first
    | (go_at_call 29; (with_reducible refine Calls.mono (set18 x y w g cells hT htg HB.out hr hx hy) ?_); rintro e w1 ⟨rfl, hC1⟩)
    | (go_at_call 27; (with_reducible refine Calls.mono (op_and w1) ?_); rintro e w2 ⟨rfl, hb2⟩; have hC2 := hC1.below hb2)
    | (go_at_call 26; (with_reducible refine Calls.mono (o_and 0 0 _ x y w2 g _ (hC2.tab hT htg) htg hC2.blk h21 h22 hx.1 hx.2 hy.1 hy.2) ?_); rintro e w3 ⟨rfl, hc3⟩; have hC3 := hC2.trans hc3)
    | (go_at_call 28; refine Calls.mono (reg_any 1 (bits BinOp.and IntKind.i32 x y) w3 g _ hC3.blk (by omega) (hr2.at32 1 (by omega) _)) ?_; rintro e w4 ⟨rfl, rfl⟩)
    | fail)
  go_ret
  exact ⟨rfl, _, hC3, hr2.set32 1 (by omega) _, hr2.at32 1 (by omega) _, get_ne h22 (by omega)⟩
set_option maxHeartbeats 2000000 in
theorem two18_or (x y : Int) (w : World) (g : Nat) (cells : List Value) (hT : TabIs 0 w) (htg : 0 ≠ g) (hB : Blk w g 119 cells) (hr : RG cells) (hx : -2147483648 ≤ x ∧ x ≤ 2147483647) (hy : -2147483648 ≤ y ∧ y ≤ 2147483647) :
    Calls Tryd.prog 25 #[.pointer (some ⟨g, 0, none⟩), .string ⟨#[111, 114]⟩, .int .i32 x, .int .i32 y] w fun e w' => e = .returned (.int .i32 (bits BinOp.or IntKind.i32 x y)) ∧ Two w g (bits BinOp.or IntKind.i32 x y) y w' := by
  have HB := Lib.hid hB
  clear hB
  obtain ⟨hr2, h21, h22⟩ := hr.at_set x y
  go_enter Tryd.func25, Tryd.ntmps25
  go_wp2_with (first
    | (go_at_call 29; (with_reducible refine Calls.mono (set18 x y w g cells hT htg HB.out hr hx hy) ?_); rintro e w1 ⟨rfl, hC1⟩)
    | (go_at_call 27; (with_reducible refine Calls.mono (op_or w1) ?_); rintro e w2 ⟨rfl, hb2⟩; have hC2 := hC1.below hb2)
    | (go_at_call 26; (with_reducible refine Calls.mono (o_or 0 0 _ x y w2 g _ (hC2.tab hT htg) htg hC2.blk h21 h22 hx.1 hx.2 hy.1 hy.2) ?_); rintro e w3 ⟨rfl, hc3⟩; have hC3 := hC2.trans hc3)
    | (go_at_call 28; refine Calls.mono (reg_any 1 (bits BinOp.or IntKind.i32 x y) w3 g _ hC3.blk (by omega) (hr2.at32 1 (by omega) _)) ?_; rintro e w4 ⟨rfl, rfl⟩)
    | fail)
  go_ret
  exact ⟨rfl, _, hC3, hr2.set32 1 (by omega) _, hr2.at32 1 (by omega) _, get_ne h22 (by omega)⟩
set_option maxHeartbeats 2000000 in
theorem two18_xor (x y : Int) (w : World) (g : Nat) (cells : List Value) (hT : TabIs 0 w) (htg : 0 ≠ g) (hB : Blk w g 119 cells) (hr : RG cells) (hx : -2147483648 ≤ x ∧ x ≤ 2147483647) (hy : -2147483648 ≤ y ∧ y ≤ 2147483647) :
    Calls Tryd.prog 25 #[.pointer (some ⟨g, 0, none⟩), .string ⟨#[120, 111, 114]⟩, .int .i32 x, .int .i32 y] w fun e w' => e = .returned (.int .i32 (bits BinOp.xor IntKind.i32 x y)) ∧ Two w g (bits BinOp.xor IntKind.i32 x y) y w' := by
  have HB := Lib.hid hB
  clear hB
  obtain ⟨hr2, h21, h22⟩ := hr.at_set x y
  go_enter Tryd.func25, Tryd.ntmps25
  go_wp2_with (first
    | (go_at_call 29; (with_reducible refine Calls.mono (set18 x y w g cells hT htg HB.out hr hx hy) ?_); rintro e w1 ⟨rfl, hC1⟩)
    | (go_at_call 27; (with_reducible refine Calls.mono (op_xor w1) ?_); rintro e w2 ⟨rfl, hb2⟩; have hC2 := hC1.below hb2)
    | (go_at_call 26; (with_reducible refine Calls.mono (o_xor 0 0 _ x y w2 g _ (hC2.tab hT htg) htg hC2.blk h21 h22 hx.1 hx.2 hy.1 hy.2) ?_); rintro e w3 ⟨rfl, hc3⟩; have hC3 := hC2.trans hc3)
    | (go_at_call 28; refine Calls.mono (reg_any 1 (bits BinOp.xor IntKind.i32 x y) w3 g _ hC3.blk (by omega) (hr2.at32 1 (by omega) _)) ?_; rintro e w4 ⟨rfl, rfl⟩)
    | fail)
  go_ret
  exact ⟨rfl, _, hC3, hr2.set32 1 (by omega) _, hr2.at32 1 (by omega) _, get_ne h22 (by omega)⟩
set_option maxHeartbeats 2000000 in
theorem two18_lt (x y : Int) (w : World) (g : Nat) (cells : List Value) (hT : TabIs 0 w) (htg : 0 ≠ g) (hB : Blk w g 119 cells) (hr : RG cells) (hx : -2147483648 ≤ x ∧ x ≤ 2147483647) (hy : -2147483648 ≤ y ∧ y ≤ 2147483647) :
    Calls Tryd.prog 25 #[.pointer (some ⟨g, 0, none⟩), .string ⟨#[108, 116]⟩, .int .i32 x, .int .i32 y] w fun e w' => e = .returned (.int .i32 (b01 (decide (x < y)))) ∧ Two w g (b01 (decide (x < y))) y w' := by
  have HB := Lib.hid hB
  clear hB
  obtain ⟨hr2, h21, h22⟩ := hr.at_set x y
  go_enter Tryd.func25, Tryd.ntmps25
  go_wp2_with (first
    | (go_at_call 29; (with_reducible refine Calls.mono (set18 x y w g cells hT htg HB.out hr hx hy) ?_); rintro e w1 ⟨rfl, hC1⟩)
    | (go_at_call 27; (with_reducible refine Calls.mono (op_lt w1) ?_); rintro e w2 ⟨rfl, hb2⟩; have hC2 := hC1.below hb2)
    | (go_at_call 26; (with_reducible refine Calls.mono (o_lt 0 0 _ x y w2 g _ (hC2.tab hT htg) htg hC2.blk h21 h22 hx.1 hx.2 hy.1 hy.2) ?_); rintro e w3 ⟨rfl, hc3⟩; have hC3 := hC2.trans hc3)
    | (go_at_call 28; refine Calls.mono (reg_any 1 (b01 (decide (x < y))) w3 g _ hC3.blk (by omega) (hr2.at32 1 (by omega) _)) ?_; rintro e w4 ⟨rfl, rfl⟩)
    | fail)
  go_ret
  exact ⟨rfl, _, hC3, hr2.set32 1 (by omega) _, hr2.at32 1 (by omega) _, get_ne h22 (by omega)⟩
set_option maxHeartbeats 2000000 in
theorem two18_eq (x y : Int) (w : World) (g : Nat) (cells : List Value) (hT : TabIs 0 w) (htg : 0 ≠ g) (hB : Blk w g 119 cells) (hr : RG cells) (hx : -2147483648 ≤ x ∧ x ≤ 2147483647) (hy : -2147483648 ≤ y ∧ y ≤ 2147483647) :
    Calls Tryd.prog 25 #[.pointer (some ⟨g, 0, none⟩), .string ⟨#[101, 113]⟩, .int .i32 x, .int .i32 y] w fun e w' => e = .returned (.int .i32 (b01 (x == y))) ∧ Two w g (b01 (x == y)) y w' := by
  have HB := Lib.hid hB
  clear hB
  obtain ⟨hr2, h21, h22⟩ := hr.at_set x y
  go_enter Tryd.func25, Tryd.ntmps25
  go_wp2_with (first
    | (go_at_call 29; (with_reducible refine Calls.mono (set18 x y w g cells hT htg HB.out hr hx hy) ?_); rintro e w1 ⟨rfl, hC1⟩)
    | (go_at_call 27; (with_reducible refine Calls.mono (op_eq w1) ?_); rintro e w2 ⟨rfl, hb2⟩; have hC2 := hC1.below hb2)
    | (go_at_call 26; (with_reducible refine Calls.mono (o_eq 0 0 _ x y w2 g _ (hC2.tab hT htg) htg hC2.blk h21 h22 hx.1 hx.2 hy.1 hy.2) ?_); rintro e w3 ⟨rfl, hc3⟩; have hC3 := hC2.trans hc3)
    | (go_at_call 28; refine Calls.mono (reg_any 1 (b01 (x == y)) w3 g _ hC3.blk (by omega) (hr2.at32 1 (by omega) _)) ?_; rintro e w4 ⟨rfl, rfl⟩)
    | fail)
  go_ret
  exact ⟨rfl, _, hC3, hr2.set32 1 (by omega) _, hr2.at32 1 (by omega) _, get_ne h22 (by omega)⟩
theorem reg_1 (x : Int) (w : World) (g : Nat) (cells : List Value) (hB : Blk w g 119 cells) (hx : cells[1]? = some (.int .i32 x)) :
    Calls Tryd.prog 28 #[.pointer (some ⟨g, 0, none⟩), .int .i64 1] w fun e w' => e = .returned (.int .i32 x) ∧ w = w' := reg_any 1 x w g cells hB (by omega) hx
end Go.Proofs.YthcjnkakfpmpbaaDoor
