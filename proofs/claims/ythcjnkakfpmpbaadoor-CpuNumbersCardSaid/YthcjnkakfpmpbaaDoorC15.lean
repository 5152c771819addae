/- put and parts of law 18: a complex number is set, its parts are taken. Conditions: the table of operations is laid; the parts are small and whole. -/
import Derived.Test.YthcjnkakfpmpbaaDoorC9b
namespace Go.Proofs.YthcjnkakfpmpbaaDoor
open Go.RowKit
set_option linter.unusedVariables false
set_option linter.unusedSimpArgs false
set_option maxRecDepth 20000

theorem reg_4 (x : Int) (w : World) (g : Nat) (cells : List Value) (hB : Blk w g 119 cells) (hx : cells[4]? = some (.int .i32 x)) :
    Calls Tryd.prog 28 #[.pointer (some ⟨g, 0, none⟩), .int .i64 4] w fun e w' => e = .returned (.int .i32 x) ∧ w = w' := reg_any 4 x w g cells hB (by omega) hx
theorem reg_5 (x : Int) (w : World) (g : Nat) (cells : List Value) (hB : Blk w g 119 cells) (hx : cells[5]? = some (.int .i32 x)) :
    Calls Tryd.prog 28 #[.pointer (some ⟨g, 0, none⟩), .int .i64 5] w fun e w' => e = .returned (.int .i32 x) ∧ w = w' := reg_any 5 x w g cells hB (by omega) hx
theorem oth_two {c : List Value} {c' : List Value} {z i j : Nat} {u v : Value} (hi : i < 8) (hj : j < 8) (h : Oth ((c.set i u).set j v) c' z) : Oth c c' z := fun k hk hz => (h k hk hz).trans ((List.getElem?_set_ne (by omega)).trans (List.getElem?_set_ne (by omega)))

set_option maxHeartbeats 2000000 in
theorem put18_0 (x y : Int) (w : World) (g : Nat) (cells : List Value) (hT : TabIs 0 w) (htg : 0 ≠ g) (hB : Blk w g 119 cells) (hr : RG cells) (sx : Sm x) (sy : Sm y) :
    Calls Tryd.prog 31 #[.pointer (some ⟨g, 0, none⟩), .int .i64 0, .int .i32 x, .int .i32 y] w fun e w' => e = .returned (.tuple #[]) ∧ GZ w g cells 0 x y w' := by
  have HB := Lib.hid hB
  clear hB
  have sx' : -2147483648 ≤ x ∧ x ≤ 2147483647 := sx
  have sy' : -2147483648 ≤ y ∧ y ≤ 2147483647 := sy
  go_enter Tryd.func31, Tryd.ntmps31
  go_wp2_with (first
    | (go_at_call 27; (with_reducible refine Calls.mono (op_li6 x w) ?_); rintro e w1 ⟨rfl, hb1⟩; have hC1 := (CW.start HB.out).below hb1)
    | (go_at_call 26; (with_reducible refine Calls.mono (o_li6 0 0 _ x w1 g cells (hC1.tab hT htg) htg hC1.blk sx' hr) ?_); rintro e w2 ⟨rfl, hc2⟩; have hC2 := hC1.trans hc2; have hr2 := hr.set32 6 (by omega) x; have h6 := hr.at32 6 (by omega) x)
    | (go_at_call 27; (with_reducible refine Calls.mono (op_li7 y w2) ?_); rintro e w3 ⟨rfl, hb3⟩; have hC3 := hC2.below hb3)
    | (go_at_call 26; (with_reducible refine Calls.mono (o_li7 0 0 _ y w3 g _ (hC3.tab hT htg) htg hC3.blk sy' hr2) ?_); rintro e w4 ⟨rfl, hc4⟩; have hC4 := hC3.trans hc4; have hr4 := hr2.set32 7 (by omega) y; have h7 := hr2.at32 7 (by omega) y; have h6' := get_ne (j := 7) (v := .int .i32 y) h6 (by omega))
    | (go_at_call 27; (with_reducible refine Calls.mono (op_zset0 w4) ?_); rintro e w5 ⟨rfl, hb5⟩; have hC5 := hC4.below hb5)
    | (go_at_call 26; (with_reducible refine Calls.mono (o_zset0 0 0 _ x y w5 g _ (hC5.tab hT htg) htg hC5.blk hr4 h6' h7 sx sy) ?_); rintro e w6 ⟨rfl, c6, hc6, hr6, hz6, ho6⟩; have hC6 := hC5.trans hc6)
    | fail)
  (try simp only [Exit.inBlock, Exit.then])
  first
    | (refine bodyPost_end (results_none rfl _ _ _) rfl ⟨rfl, c6, hC6, hr6, hz6, oth_two (by omega) (by omega) ho6⟩)
    | (refine bodyPost_ret (results_none rfl _ _ _) rfl ⟨rfl, c6, hC6, hr6, hz6, oth_two (by omega) (by omega) ho6⟩)
set_option maxHeartbeats 2000000 in
theorem put18_1 (x y : Int) (w : World) (g : Nat) (cells : List Value) (hT : TabIs 0 w) (htg : 0 ≠ g) (hB : Blk w g 119 cells) (hr : RG cells) (sx : Sm x) (sy : Sm y) :
    Calls Tryd.prog 31 #[.pointer (some ⟨g, 0, none⟩), .int .i64 1, .int .i32 x, .int .i32 y] w fun e w' => e = .returned (.tuple #[]) ∧ GZ w g cells 1 x y w' := by
  have HB := Lib.hid hB
  clear hB
  have sx' : -2147483648 ≤ x ∧ x ≤ 2147483647 := sx
  have sy' : -2147483648 ≤ y ∧ y ≤ 2147483647 := sy
  go_enter Tryd.func31, Tryd.ntmps31
  go_wp2_with (first
    | (go_at_call 27; (with_reducible refine Calls.mono (op_li6 x w) ?_); rintro e w1 ⟨rfl, hb1⟩; have hC1 := (CW.start HB.out).below hb1)
    | (go_at_call 26; (with_reducible refine Calls.mono (o_li6 0 0 _ x w1 g cells (hC1.tab hT htg) htg hC1.blk sx' hr) ?_); rintro e w2 ⟨rfl, hc2⟩; have hC2 := hC1.trans hc2; have hr2 := hr.set32 6 (by omega) x; have h6 := hr.at32 6 (by omega) x)
    | (go_at_call 27; (with_reducible refine Calls.mono (op_li7 y w2) ?_); rintro e w3 ⟨rfl, hb3⟩; have hC3 := hC2.below hb3)
    | (go_at_call 26; (with_reducible refine Calls.mono (o_li7 0 0 _ y w3 g _ (hC3.tab hT htg) htg hC3.blk sy' hr2) ?_); rintro e w4 ⟨rfl, hc4⟩; have hC4 := hC3.trans hc4; have hr4 := hr2.set32 7 (by omega) y; have h7 := hr2.at32 7 (by omega) y; have h6' := get_ne (j := 7) (v := .int .i32 y) h6 (by omega))
    | (go_at_call 27; (with_reducible refine Calls.mono (op_zset1 w4) ?_); rintro e w5 ⟨rfl, hb5⟩; have hC5 := hC4.below hb5)
    | (go_at_call 26; (with_reducible refine Calls.mono (o_zset1 0 0 _ x y w5 g _ (hC5.tab hT htg) htg hC5.blk hr4 h6' h7 sx sy) ?_); rintro e w6 ⟨rfl, c6, hc6, hr6, hz6, ho6⟩; have hC6 := hC5.trans hc6)
    | fail)
  (try simp only [Exit.inBlock, Exit.then])
  first
    | (refine bodyPost_end (results_none rfl _ _ _) rfl ⟨rfl, c6, hC6, hr6, hz6, oth_two (by omega) (by omega) ho6⟩)
    | (refine bodyPost_ret (results_none rfl _ _ _) rfl ⟨rfl, c6, hC6, hr6, hz6, oth_two (by omega) (by omega) ho6⟩)
set_option maxHeartbeats 2000000 in
theorem put18_2 (x y : Int) (w : World) (g : Nat) (cells : List Value) (hT : TabIs 0 w) (htg : 0 ≠ g) (hB : Blk w g 119 cells) (hr : RG cells) (sx : Sm x) (sy : Sm y) :
    Calls Tryd.prog 31 #[.pointer (some ⟨g, 0, none⟩), .int .i64 2, .int .i32 x, .int .i32 y] w fun e w' => e = .returned (.tuple #[]) ∧ GZ w g cells 2 x y w' := by
  have HB := Lib.hid hB
  clear hB
  have sx' : -2147483648 ≤ x ∧ x ≤ 2147483647 := sx
  have sy' : -2147483648 ≤ y ∧ y ≤ 2147483647 := sy
  go_enter Tryd.func31, Tryd.ntmps31
  go_wp2_with (first
    | (go_at_call 27; (with_reducible refine Calls.mono (op_li6 x w) ?_); rintro e w1 ⟨rfl, hb1⟩; have hC1 := (CW.start HB.out).below hb1)
    | (go_at_call 26; (with_reducible refine Calls.mono (o_li6 0 0 _ x w1 g cells (hC1.tab hT htg) htg hC1.blk sx' hr) ?_); rintro e w2 ⟨rfl, hc2⟩; have hC2 := hC1.trans hc2; have hr2 := hr.set32 6 (by omega) x; have h6 := hr.at32 6 (by omega) x)
    | (go_at_call 27; (with_reducible refine Calls.mono (op_li7 y w2) ?_); rintro e w3 ⟨rfl, hb3⟩; have hC3 := hC2.below hb3)
    | (go_at_call 26; (with_reducible refine Calls.mono (o_li7 0 0 _ y w3 g _ (hC3.tab hT htg) htg hC3.blk sy' hr2) ?_); rintro e w4 ⟨rfl, hc4⟩; have hC4 := hC3.trans hc4; have hr4 := hr2.set32 7 (by omega) y; have h7 := hr2.at32 7 (by omega) y; have h6' := get_ne (j := 7) (v := .int .i32 y) h6 (by omega))
    | (go_at_call 27; (with_reducible refine Calls.mono (op_zset2 w4) ?_); rintro e w5 ⟨rfl, hb5⟩; have hC5 := hC4.below hb5)
    | (go_at_call 26; (with_reducible refine Calls.mono (o_zset2 0 0 _ x y w5 g _ (hC5.tab hT htg) htg hC5.blk hr4 h6' h7 sx sy) ?_); rintro e w6 ⟨rfl, c6, hc6, hr6, hz6, ho6⟩; have hC6 := hC5.trans hc6)
    | fail)
  (try simp only [Exit.inBlock, Exit.then])
  first
    | (refine bodyPost_end (results_none rfl _ _ _) rfl ⟨rfl, c6, hC6, hr6, hz6, oth_two (by omega) (by omega) ho6⟩)
    | (refine bodyPost_ret (results_none rfl _ _ _) rfl ⟨rfl, c6, hC6, hr6, hz6, oth_two (by omega) (by omega) ho6⟩)
set_option maxHeartbeats 2000000 in
theorem parts18_0 (a b : Int) (w : World) (g : Nat) (cells : List Value) (hT : TabIs 0 w) (htg : 0 ≠ g) (hB : Blk w g 119 cells) (hr : RG cells) (hz : Z cells 0 a b) (sa : Sm a) (sb : Sm b) :
    Calls Tryd.prog 32 #[.pointer (some ⟨g, 0, none⟩), .int .i64 0] w fun e w' => e = .returned (.tuple #[.int .i32 a, .int .i32 b]) ∧ ∃ c', CW w g c' w' ∧ RG c' ∧ ∀ j, j < 4 → c'[8 + j]? = cells[8 + j]? := by
  have HB := Lib.hid hB
  clear hB
  have hr1 := hr.set32 4 (by omega) a
  have h4 := hr.at32 4 (by omega) a
  have h5 := hr1.at32 5 (by omega) b
  have h4' := get_ne (j := 5) (v := .int .i32 b) h4 (by omega)
  have hz1 : Z (cells.set 4 (.int .i32 a)) 0 a b := by
    obtain ⟨p, q, h1, h2⟩ := hz
    exact ⟨p, q, get_ne h1 (by omega), h2⟩
  go_enter Tryd.func32, Tryd.ntmps32
  go_wp2_with (first
    | (go_at_call 27; (with_reducible refine Calls.mono (op_zre0 w) ?_); rintro e w1 ⟨rfl, hb1⟩; have hC1 := (CW.start HB.out).below hb1)
    | (go_at_call 26; (with_reducible refine Calls.mono (o_zre0 0 0 _ a b w1 g cells (hC1.tab hT htg) htg hC1.blk hr hz sa) ?_); rintro e w2 ⟨rfl, hc2⟩; have hC2 := hC1.trans hc2)
    | (go_at_call 27; (with_reducible refine Calls.mono (op_zim0 w2) ?_); rintro e w3 ⟨rfl, hb3⟩; have hC3 := hC2.below hb3)
    | (go_at_call 26; (with_reducible refine Calls.mono (o_zim0 0 0 _ a b w3 g _ (hC3.tab hT htg) htg hC3.blk hr1 hz1 sb) ?_); rintro e w4 ⟨rfl, hc4⟩; have hC4 := hC3.trans hc4)
    | (go_at_call 28; (with_reducible refine Calls.mono (reg_4 a w4 g _ hC4.blk h4') ?_); rintro e wr ⟨rfl, rfl⟩)
    | (go_at_call 28; (with_reducible refine Calls.mono (reg_5 b w4 g _ hC4.blk h5) ?_); rintro e wr ⟨rfl, rfl⟩)
    | fail)
  refine bodyPost_ret (v := .tuple #[.int .i32 a, .int .i32 b]) (by simp [results, Tryd.results32, go_sem]) rfl ⟨rfl, _, hC4, hr1.set32 5 (by omega) b, fun j hj => (List.getElem?_set_ne (by omega)).trans (List.getElem?_set_ne (by omega))⟩
set_option maxHeartbeats 2000000 in
theorem parts18_2 (a b : Int) (w : World) (g : Nat) (cells : List Value) (hT : TabIs 0 w) (htg : 0 ≠ g) (hB : Blk w g 119 cells) (hr : RG cells) (hz : Z cells 2 a b) (sa : Sm a) (sb : Sm b) :
    Calls Tryd.prog 32 #[.pointer (some ⟨g, 0, none⟩), .int .i64 2] w fun e w' => e = .returned (.tuple #[.int .i32 a, .int .i32 b]) ∧ ∃ c', CW w g c' w' ∧ RG c' ∧ ∀ j, j < 4 → c'[8 + j]? = cells[8 + j]? := by
  have HB := Lib.hid hB
  clear hB
  have hr1 := hr.set32 4 (by omega) a
  have h4 := hr.at32 4 (by omega) a
  have h5 := hr1.at32 5 (by omega) b
  have h4' := get_ne (j := 5) (v := .int .i32 b) h4 (by omega)
  have hz1 : Z (cells.set 4 (.int .i32 a)) 2 a b := by
    obtain ⟨p, q, h1, h2⟩ := hz
    exact ⟨p, q, get_ne h1 (by omega), h2⟩
  go_enter Tryd.func32, Tryd.ntmps32
  go_wp2_with (first
    | (go_at_call 27; (with_reducible refine Calls.mono (op_zre2 w) ?_); rintro e w1 ⟨rfl, hb1⟩; have hC1 := (CW.start HB.out).below hb1)
    | (go_at_call 26; (with_reducible refine Calls.mono (o_zre2 0 0 _ a b w1 g cells (hC1.tab hT htg) htg hC1.blk hr hz sa) ?_); rintro e w2 ⟨rfl, hc2⟩; have hC2 := hC1.trans hc2)
    | (go_at_call 27; (with_reducible refine Calls.mono (op_zim2 w2) ?_); rintro e w3 ⟨rfl, hb3⟩; have hC3 := hC2.below hb3)
    | (go_at_call 26; (with_reducible refine Calls.mono (o_zim2 0 0 _ a b w3 g _ (hC3.tab hT htg) htg hC3.blk hr1 hz1 sb) ?_); rintro e w4 ⟨rfl, hc4⟩; have hC4 := hC3.trans hc4)
    | (go_at_call 28; (with_reducible refine Calls.mono (reg_4 a w4 g _ hC4.blk h4') ?_); rintro e wr ⟨rfl, rfl⟩)
    | (go_at_call 28; (with_reducible refine Calls.mono (reg_5 b w4 g _ hC4.blk h5) ?_); rintro e wr ⟨rfl, rfl⟩)
    | fail)
  refine bodyPost_ret (v := .tuple #[.int .i32 a, .int .i32 b]) (by simp [results, Tryd.results32, go_sem]) rfl ⟨rfl, _, hC4, hr1.set32 5 (by omega) b, fun j hj => (List.getElem?_set_ne (by omega)).trans (List.getElem?_set_ne (by omega))⟩
end Go.Proofs.YthcjnkakfpmpbaaDoor
