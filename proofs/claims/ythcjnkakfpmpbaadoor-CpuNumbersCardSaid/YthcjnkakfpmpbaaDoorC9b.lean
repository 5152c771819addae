/- Single instructions on complex numbers that are small and whole. Conditions: the table of operations is laid; the registers are there. -/
import Derived.Test.YthcjnkakfpmpbaaDoorC12
import Derived.Test.YthcjnkakfpmpbaaDoorC6b
import Derived.Test.YthcjnkakfpmpbaaDoorP22
namespace Go.Proofs.YthcjnkakfpmpbaaDoor
open Go.RowKit
set_option linter.unusedVariables false
set_option linter.unusedSimpArgs false
set_option maxRecDepth 20000

/-- complex number j is a + bi -/
def Z (c : List Value) (j : Nat) (a b : Int) : Prop := ∃ p q, c[8 + j]? = some (.complex .f64 p q) ∧ Rep p a ∧ Rep q b
/-- the other complex numbers stay -/
def Oth (c c' : List Value) (z : Nat) : Prop := ∀ j, j < 4 → j ≠ z → c'[8 + j]? = c[8 + j]?
theorem Z.oth {c c' : List Value} {z j : Nat} {a b : Int} (h : Z c j a b) (ho : Oth c c' z) (hj : j < 4) (hz : j ≠ z) : Z c' j a b := by
  obtain ⟨p, q, h1, h2⟩ := h
  exact ⟨p, q, (ho j hj hz).trans h1, h2⟩
theorem oth_set (c : List Value) (z : Nat) (v : Value) : Oth c (c.set (8 + z) v) z := fun j hj hz => List.getElem?_set_ne (by omega)
/-- what an operation on complex numbers leaves -/
def GZ (w : World) (g : Nat) (c : List Value) (z : Nat) (a b : Int) (w' : World) : Prop := ∃ c', CW w g c' w' ∧ RG c' ∧ Z c' z a b ∧ Oth c c' z
theorem RG.gz {w w' : World} {g z p q : Nat} {c : List Value} {a b : Int} (hr : RG c) (hz : z < 4) (h : CW w g (c.set (8 + z) (.complex .f64 p q)) w') (hp : Rep p a) (hq : Rep q b) : GZ w g c z a b w' :=
  ⟨_, h, hr.setC z hz p q, ⟨p, q, hr.atC z hz p q, hp, hq⟩, oth_set c z _⟩
def Sm (a : Int) : Prop := -2147483648 ≤ a ∧ a ≤ 2147483647
theorem Sm.abs {a : Int} (h : Sm a) : a.natAbs < 2 ^ 53 := by unfold Sm at h; omega

theorem op_zset0  (w : World) : Calls Tryd.prog 27 #[.string ⟨#[122, 115, 101, 116]⟩, .int .i64 0, .int .i64 6, .int .i32 7] w fun e w' => e = .returned (.agg #[.int .i64 35, .int .i64 0, .int .i64 6, .int .i32 7, .int .i64 0]) ∧ Below w.heap.size w w' := by
  have h := op_any ⟨#[122, 115, 101, 116]⟩ 0 6 7 w
  rwa [show findR (ByteArray.toList ⟨#[122, 115, 101, 116]⟩) = 35 from by kernel_rfl] at h
set_option maxHeartbeats 1000000 in
theorem o_zset0 (word from_ : Int) (M : Value) (x y : Int) (w : World) (g : Nat) (cells : List Value) (hT : TabIs 0 w) (htg : 0 ≠ g) (hB : Blk w g 119 cells) (hr : RG cells) (hx : cells[6]? = some (.int .i32 x)) (hy : cells[7]? = some (.int .i32 y)) (sx : Sm x) (sy : Sm y) :
    Calls Tryd.prog 26 #[.pointer (some ⟨g, 0, none⟩), .agg #[.int .i64 35, .int .i64 0, .int .i64 6, .int .i32 7, .int .i64 0], .int .i32 word, M, .int .i64 from_] w fun e w' => e = .returned (.agg #[.int .i64 0, .int .i64 0, .int .u32 0]) ∧ GZ w g cells 0 x y w' := by
  obtain ⟨p, q, hz⟩ := hr.2 0 (by omega)
  exact (do_cplx7 35 0 7 word from_ 0 6 M w g cells _ hT htg hB (by omega) (by kernel_rfl) (by kernel_rfl) (Lib.hid fun W hT hB => cx_zset 35 7 0 0 6 7 x y W g cells hT htg hB (by omega) (by omega) (by omega) rfl hx hy _ hz (by kernel_rfl))).mono fun e w' h => ⟨h.1, hr.gz (by omega) h.2 (rep_ofInt x sx.abs) (rep_ofInt y sy.abs)⟩
theorem op_zset1  (w : World) : Calls Tryd.prog 27 #[.string ⟨#[122, 115, 101, 116]⟩, .int .i64 1, .int .i64 6, .int .i32 7] w fun e w' => e = .returned (.agg #[.int .i64 35, .int .i64 1, .int .i64 6, .int .i32 7, .int .i64 0]) ∧ Below w.heap.size w w' := by
  have h := op_any ⟨#[122, 115, 101, 116]⟩ 1 6 7 w
  rwa [show findR (ByteArray.toList ⟨#[122, 115, 101, 116]⟩) = 35 from by kernel_rfl] at h
set_option maxHeartbeats 1000000 in
theorem o_zset1 (word from_ : Int) (M : Value) (x y : Int) (w : World) (g : Nat) (cells : List Value) (hT : TabIs 0 w) (htg : 0 ≠ g) (hB : Blk w g 119 cells) (hr : RG cells) (hx : cells[6]? = some (.int .i32 x)) (hy : cells[7]? = some (.int .i32 y)) (sx : Sm x) (sy : Sm y) :
    Calls Tryd.prog 26 #[.pointer (some ⟨g, 0, none⟩), .agg #[.int .i64 35, .int .i64 1, .int .i64 6, .int .i32 7, .int .i64 0], .int .i32 word, M, .int .i64 from_] w fun e w' => e = .returned (.agg #[.int .i64 0, .int .i64 0, .int .u32 0]) ∧ GZ w g cells 1 x y w' := by
  obtain ⟨p, q, hz⟩ := hr.2 1 (by omega)
  exact (do_cplx7 35 0 7 word from_ 1 6 M w g cells _ hT htg hB (by omega) (by kernel_rfl) (by kernel_rfl) (Lib.hid fun W hT hB => cx_zset 35 7 0 1 6 7 x y W g cells hT htg hB (by omega) (by omega) (by omega) rfl hx hy _ hz (by kernel_rfl))).mono fun e w' h => ⟨h.1, hr.gz (by omega) h.2 (rep_ofInt x sx.abs) (rep_ofInt y sy.abs)⟩
theorem op_zset2  (w : World) : Calls Tryd.prog 27 #[.string ⟨#[122, 115, 101, 116]⟩, .int .i64 2, .int .i64 6, .int .i32 7] w fun e w' => e = .returned (.agg #[.int .i64 35, .int .i64 2, .int .i64 6, .int .i32 7, .int .i64 0]) ∧ Below w.heap.size w w' := by
  have h := op_any ⟨#[122, 115, 101, 116]⟩ 2 6 7 w
  rwa [show findR (ByteArray.toList ⟨#[122, 115, 101, 116]⟩) = 35 from by kernel_rfl] at h
set_option maxHeartbeats 1000000 in
theorem o_zset2 (word from_ : Int) (M : Value) (x y : Int) (w : World) (g : Nat) (cells : List Value) (hT : TabIs 0 w) (htg : 0 ≠ g) (hB : Blk w g 119 cells) (hr : RG cells) (hx : cells[6]? = some (.int .i32 x)) (hy : cells[7]? = some (.int .i32 y)) (sx : Sm x) (sy : Sm y) :
    Calls Tryd.prog 26 #[.pointer (some ⟨g, 0, none⟩), .agg #[.int .i64 35, .int .i64 2, .int .i64 6, .int .i32 7, .int .i64 0], .int .i32 word, M, .int .i64 from_] w fun e w' => e = .returned (.agg #[.int .i64 0, .int .i64 0, .int .u32 0]) ∧ GZ w g cells 2 x y w' := by
  obtain ⟨p, q, hz⟩ := hr.2 2 (by omega)
  exact (do_cplx7 35 0 7 word from_ 2 6 M w g cells _ hT htg hB (by omega) (by kernel_rfl) (by kernel_rfl) (Lib.hid fun W hT hB => cx_zset 35 7 0 2 6 7 x y W g cells hT htg hB (by omega) (by omega) (by omega) rfl hx hy _ hz (by kernel_rfl))).mono fun e w' h => ⟨h.1, hr.gz (by omega) h.2 (rep_ofInt x sx.abs) (rep_ofInt y sy.abs)⟩
theorem op_zmul01  (w : World) : Calls Tryd.prog 27 #[.string ⟨#[122, 109, 117, 108]⟩, .int .i64 0, .int .i64 1, .int .i32 0] w fun e w' => e = .returned (.agg #[.int .i64 32, .int .i64 0, .int .i64 1, .int .i32 0, .int .i64 0]) ∧ Below w.heap.size w w' := by
  have h := op_any ⟨#[122, 109, 117, 108]⟩ 0 1 0 w
  rwa [show findR (ByteArray.toList ⟨#[122, 109, 117, 108]⟩) = 32 from by kernel_rfl] at h
set_option maxHeartbeats 1000000 in
theorem o_zmul01 (word from_ : Int) (M : Value) (a b c d : Int) (w : World) (g : Nat) (cells : List Value) (hT : TabIs 0 w) (htg : 0 ≠ g) (hB : Blk w g 119 cells) (hr : RG cells) (h1 : Z cells 0 a b) (h2 : Z cells 1 c d) (s1 : Sm (a * c)) (s2 : Sm (b * d)) (s3 : Sm (a * d)) (s4 : Sm (b * c)) (s5 : Sm (a * c - b * d)) (s6 : Sm (a * d + b * c)) :
    Calls Tryd.prog 26 #[.pointer (some ⟨g, 0, none⟩), .agg #[.int .i64 32, .int .i64 0, .int .i64 1, .int .i32 0, .int .i64 0], .int .i32 word, M, .int .i64 from_] w fun e w' => e = .returned (.agg #[.int .i64 0, .int .i64 0, .int .u32 0]) ∧ GZ w g cells 0 (a * c - b * d) (a * d + b * c) w' := by
  obtain ⟨p, q, hz, hp, hq⟩ := h1
  obtain ⟨s, t, hz2, hs, ht⟩ := h2
  obtain ⟨ps, r1, e1⟩ := mul_run hp hs s1.abs
  obtain ⟨qt, r2, e2⟩ := mul_run hq ht s2.abs
  obtain ⟨re, r3, e3⟩ := sub_run r1 r2 s5.abs
  obtain ⟨pt, r4, e4⟩ := mul_run hp ht s3.abs
  obtain ⟨qs, r5, e5⟩ := mul_run hq hs s4.abs
  obtain ⟨im, r6, e6⟩ := add_run r4 r5 s6.abs
  exact (do_cplx5 32 0 0 word from_ 0 1 M w g cells _ hT htg hB (by omega) (by kernel_rfl) (by kernel_rfl) (Lib.hid fun W hT hB => cx_zmul 32 0 0 0 1 p q s t ps qt pt qs re im W g cells hT htg hB (by omega) (by omega) hz hz2 e1 e2 e3 e4 e5 e6 (by kernel_rfl))).mono fun e w' h => ⟨h.1, hr.gz (by omega) h.2 r3 r6⟩
theorem op_zmul23  (w : World) : Calls Tryd.prog 27 #[.string ⟨#[122, 109, 117, 108]⟩, .int .i64 2, .int .i64 3, .int .i32 0] w fun e w' => e = .returned (.agg #[.int .i64 32, .int .i64 2, .int .i64 3, .int .i32 0, .int .i64 0]) ∧ Below w.heap.size w w' := by
  have h := op_any ⟨#[122, 109, 117, 108]⟩ 2 3 0 w
  rwa [show findR (ByteArray.toList ⟨#[122, 109, 117, 108]⟩) = 32 from by kernel_rfl] at h
set_option maxHeartbeats 1000000 in
theorem o_zmul23 (word from_ : Int) (M : Value) (a b c d : Int) (w : World) (g : Nat) (cells : List Value) (hT : TabIs 0 w) (htg : 0 ≠ g) (hB : Blk w g 119 cells) (hr : RG cells) (h1 : Z cells 2 a b) (h2 : Z cells 3 c d) (s1 : Sm (a * c)) (s2 : Sm (b * d)) (s3 : Sm (a * d)) (s4 : Sm (b * c)) (s5 : Sm (a * c - b * d)) (s6 : Sm (a * d + b * c)) :
    Calls Tryd.prog 26 #[.pointer (some ⟨g, 0, none⟩), .agg #[.int .i64 32, .int .i64 2, .int .i64 3, .int .i32 0, .int .i64 0], .int .i32 word, M, .int .i64 from_] w fun e w' => e = .returned (.agg #[.int .i64 0, .int .i64 0, .int .u32 0]) ∧ GZ w g cells 2 (a * c - b * d) (a * d + b * c) w' := by
  obtain ⟨p, q, hz, hp, hq⟩ := h1
  obtain ⟨s, t, hz2, hs, ht⟩ := h2
  obtain ⟨ps, r1, e1⟩ := mul_run hp hs s1.abs
  obtain ⟨qt, r2, e2⟩ := mul_run hq ht s2.abs
  obtain ⟨re, r3, e3⟩ := sub_run r1 r2 s5.abs
  obtain ⟨pt, r4, e4⟩ := mul_run hp ht s3.abs
  obtain ⟨qs, r5, e5⟩ := mul_run hq hs s4.abs
  obtain ⟨im, r6, e6⟩ := add_run r4 r5 s6.abs
  exact (do_cplx5 32 0 0 word from_ 2 3 M w g cells _ hT htg hB (by omega) (by kernel_rfl) (by kernel_rfl) (Lib.hid fun W hT hB => cx_zmul 32 0 0 2 3 p q s t ps qt pt qs re im W g cells hT htg hB (by omega) (by omega) hz hz2 e1 e2 e3 e4 e5 e6 (by kernel_rfl))).mono fun e w' h => ⟨h.1, hr.gz (by omega) h.2 r3 r6⟩
theorem op_zadd21  (w : World) : Calls Tryd.prog 27 #[.string ⟨#[122, 97, 100, 100]⟩, .int .i64 2, .int .i64 1, .int .i32 0] w fun e w' => e = .returned (.agg #[.int .i64 30, .int .i64 2, .int .i64 1, .int .i32 0, .int .i64 0]) ∧ Below w.heap.size w w' := by
  have h := op_any ⟨#[122, 97, 100, 100]⟩ 2 1 0 w
  rwa [show findR (ByteArray.toList ⟨#[122, 97, 100, 100]⟩) = 30 from by kernel_rfl] at h
set_option maxHeartbeats 1000000 in
theorem o_zadd21 (word from_ : Int) (M : Value) (a b c d : Int) (w : World) (g : Nat) (cells : List Value) (hT : TabIs 0 w) (htg : 0 ≠ g) (hB : Blk w g 119 cells) (hr : RG cells) (h1 : Z cells 2 a b) (h2 : Z cells 1 c d) (s1 : Sm (a + c)) (s2 : Sm (b + d)) :
    Calls Tryd.prog 26 #[.pointer (some ⟨g, 0, none⟩), .agg #[.int .i64 30, .int .i64 2, .int .i64 1, .int .i32 0, .int .i64 0], .int .i32 word, M, .int .i64 from_] w fun e w' => e = .returned (.agg #[.int .i64 0, .int .i64 0, .int .u32 0]) ∧ GZ w g cells 2 (a + c) (b + d) w' := by
  obtain ⟨p, q, hz, hp, hq⟩ := h1
  obtain ⟨s, t, hz2, hs, ht⟩ := h2
  obtain ⟨re, r3, e3⟩ := add_run hp hs s1.abs
  obtain ⟨im, r6, e6⟩ := add_run hq ht s2.abs
  exact (do_cplx5 30 0 0 word from_ 2 1 M w g cells _ hT htg hB (by omega) (by kernel_rfl) (by kernel_rfl) (Lib.hid fun W hT hB => cx_zadd 30 0 0 2 1 p q s t re im W g cells hT htg hB (by omega) (by omega) hz hz2 e3 e6 (by kernel_rfl))).mono fun e w' h => ⟨h.1, hr.gz (by omega) h.2 r3 r6⟩
theorem op_zsub21  (w : World) : Calls Tryd.prog 27 #[.string ⟨#[122, 115, 117, 98]⟩, .int .i64 2, .int .i64 1, .int .i32 0] w fun e w' => e = .returned (.agg #[.int .i64 31, .int .i64 2, .int .i64 1, .int .i32 0, .int .i64 0]) ∧ Below w.heap.size w w' := by
  have h := op_any ⟨#[122, 115, 117, 98]⟩ 2 1 0 w
  rwa [show findR (ByteArray.toList ⟨#[122, 115, 117, 98]⟩) = 31 from by kernel_rfl] at h
set_option maxHeartbeats 1000000 in
theorem o_zsub21 (word from_ : Int) (M : Value) (a b c d : Int) (w : World) (g : Nat) (cells : List Value) (hT : TabIs 0 w) (htg : 0 ≠ g) (hB : Blk w g 119 cells) (hr : RG cells) (h1 : Z cells 2 a b) (h2 : Z cells 1 c d) (s1 : Sm (a - c)) (s2 : Sm (b - d)) :
    Calls Tryd.prog 26 #[.pointer (some ⟨g, 0, none⟩), .agg #[.int .i64 31, .int .i64 2, .int .i64 1, .int .i32 0, .int .i64 0], .int .i32 word, M, .int .i64 from_] w fun e w' => e = .returned (.agg #[.int .i64 0, .int .i64 0, .int .u32 0]) ∧ GZ w g cells 2 (a - c) (b - d) w' := by
  obtain ⟨p, q, hz, hp, hq⟩ := h1
  obtain ⟨s, t, hz2, hs, ht⟩ := h2
  obtain ⟨re, r3, e3⟩ := sub_run hp hs s1.abs
  obtain ⟨im, r6, e6⟩ := sub_run hq ht s2.abs
  exact (do_cplx5 31 0 0 word from_ 2 1 M w g cells _ hT htg hB (by omega) (by kernel_rfl) (by kernel_rfl) (Lib.hid fun W hT hB => cx_zsub 31 0 0 2 1 p q s t re im W g cells hT htg hB (by omega) (by omega) hz hz2 e3 e6 (by kernel_rfl))).mono fun e w' h => ⟨h.1, hr.gz (by omega) h.2 r3 r6⟩
theorem op_zmov32  (w : World) : Calls Tryd.prog 27 #[.string ⟨#[122, 109, 111, 118]⟩, .int .i64 3, .int .i64 2, .int .i32 0] w fun e w' => e = .returned (.agg #[.int .i64 29, .int .i64 3, .int .i64 2, .int .i32 0, .int .i64 0]) ∧ Below w.heap.size w w' := by
  have h := op_any ⟨#[122, 109, 111, 118]⟩ 3 2 0 w
  rwa [show findR (ByteArray.toList ⟨#[122, 109, 111, 118]⟩) = 29 from by kernel_rfl] at h
set_option maxHeartbeats 1000000 in
theorem o_zmov32 (word from_ : Int) (M : Value) (c d : Int) (w : World) (g : Nat) (cells : List Value) (hT : TabIs 0 w) (htg : 0 ≠ g) (hB : Blk w g 119 cells) (hr : RG cells) (h2 : Z cells 2 c d) :
    Calls Tryd.prog 26 #[.pointer (some ⟨g, 0, none⟩), .agg #[.int .i64 29, .int .i64 3, .int .i64 2, .int .i32 0, .int .i64 0], .int .i32 word, M, .int .i64 from_] w fun e w' => e = .returned (.agg #[.int .i64 0, .int .i64 0, .int .u32 0]) ∧ GZ w g cells 3 c d w' := by
  obtain ⟨p, q, hz⟩ := hr.2 3 (by omega)
  obtain ⟨s, t, hz2, hs, ht⟩ := h2
  exact (do_cplx5 29 0 0 word from_ 3 2 M w g cells _ hT htg hB (by omega) (by kernel_rfl) (by kernel_rfl) (Lib.hid fun W hT hB => cx_zmov 29 0 0 3 2 p q s t W g cells hT htg hB (by omega) (by omega) hz hz2 (by kernel_rfl))).mono fun e w' h => ⟨h.1, hr.gz (by omega) h.2 hs ht⟩
theorem op_zturn  (w : World) : Calls Tryd.prog 27 #[.string ⟨#[122, 116, 117, 114, 110]⟩, .int .i64 2, .int .i64 0, .int .i32 0] w fun e w' => e = .returned (.agg #[.int .i64 11, .int .i64 2, .int .i64 0, .int .i32 0, .int .i64 0]) ∧ Below w.heap.size w w' := by
  have h := op_any ⟨#[122, 116, 117, 114, 110]⟩ 2 0 0 w
  rwa [show findR (ByteArray.toList ⟨#[122, 116, 117, 114, 110]⟩) = 11 from by kernel_rfl] at h
set_option maxHeartbeats 1000000 in
theorem o_zturn (word from_ : Int) (M : Value) (a b : Int) (w : World) (g : Nat) (cells : List Value) (hT : TabIs 0 w) (htg : 0 ≠ g) (hB : Blk w g 119 cells) (hr : RG cells) (h1 : Z cells 2 a b) :
    Calls Tryd.prog 26 #[.pointer (some ⟨g, 0, none⟩), .agg #[.int .i64 11, .int .i64 2, .int .i64 0, .int .i32 0, .int .i64 0], .int .i32 word, M, .int .i64 from_] w fun e w' => e = .returned (.agg #[.int .i64 0, .int .i64 0, .int .u32 0]) ∧ GZ w g cells 2 (-b) a w' := by
  obtain ⟨p, q, hz, hp, hq⟩ := h1
  obtain ⟨s, t, hz2⟩ := hr.2 0 (by omega)
  exact (do_cplx3 11 0 0 word from_ 2 0 M w g cells _ hT htg hB (by omega) (by kernel_rfl) (by kernel_rfl) (Lib.hid fun W hT hB => cx_zturn 11 0 0 2 0 p q s t W g cells hT htg hB (by omega) (by omega) hz hz2 (by kernel_rfl))).mono fun e w' h => ⟨h.1, hr.gz (by omega) h.2 hq.neg hp⟩
theorem op_zconj  (w : World) : Calls Tryd.prog 27 #[.string ⟨#[122, 99, 111, 110, 106]⟩, .int .i64 3, .int .i64 0, .int .i32 0] w fun e w' => e = .returned (.agg #[.int .i64 12, .int .i64 3, .int .i64 0, .int .i32 0, .int .i64 0]) ∧ Below w.heap.size w w' := by
  have h := op_any ⟨#[122, 99, 111, 110, 106]⟩ 3 0 0 w
  rwa [show findR (ByteArray.toList ⟨#[122, 99, 111, 110, 106]⟩) = 12 from by kernel_rfl] at h
set_option maxHeartbeats 1000000 in
theorem o_zconj (word from_ : Int) (M : Value) (a b : Int) (w : World) (g : Nat) (cells : List Value) (hT : TabIs 0 w) (htg : 0 ≠ g) (hB : Blk w g 119 cells) (hr : RG cells) (h1 : Z cells 3 a b) :
    Calls Tryd.prog 26 #[.pointer (some ⟨g, 0, none⟩), .agg #[.int .i64 12, .int .i64 3, .int .i64 0, .int .i32 0, .int .i64 0], .int .i32 word, M, .int .i64 from_] w fun e w' => e = .returned (.agg #[.int .i64 0, .int .i64 0, .int .u32 0]) ∧ GZ w g cells 3 a (-b) w' := by
  obtain ⟨p, q, hz, hp, hq⟩ := h1
  obtain ⟨s, t, hz2⟩ := hr.2 0 (by omega)
  exact (do_cplx3 12 0 0 word from_ 3 0 M w g cells _ hT htg hB (by omega) (by kernel_rfl) (by kernel_rfl) (Lib.hid fun W hT hB => cx_zconj 12 0 0 3 0 p q s t W g cells hT htg hB (by omega) (by omega) hz hz2 (by kernel_rfl))).mono fun e w' h => ⟨h.1, hr.gz (by omega) h.2 hp hq.neg⟩
theorem op_zre0  (w : World) : Calls Tryd.prog 27 #[.string ⟨#[122, 114, 101]⟩, .int .i64 4, .int .i64 0, .int .i32 0] w fun e w' => e = .returned (.agg #[.int .i64 33, .int .i64 4, .int .i64 0, .int .i32 0, .int .i64 0]) ∧ Below w.heap.size w w' := by
  have h := op_any ⟨#[122, 114, 101]⟩ 4 0 0 w
  rwa [show findR (ByteArray.toList ⟨#[122, 114, 101]⟩) = 33 from by kernel_rfl] at h
set_option maxHeartbeats 1000000 in
theorem o_zre0 (word from_ : Int) (M : Value) (a b : Int) (w : World) (g : Nat) (cells : List Value) (hT : TabIs 0 w) (htg : 0 ≠ g) (hB : Blk w g 119 cells) (hr : RG cells) (h1 : Z cells 0 a b) (sm : Sm a) :
    Calls Tryd.prog 26 #[.pointer (some ⟨g, 0, none⟩), .agg #[.int .i64 33, .int .i64 4, .int .i64 0, .int .i32 0, .int .i64 0], .int .i32 word, M, .int .i64 from_] w fun e w' => e = .returned (.agg #[.int .i64 0, .int .i64 0, .int .u32 0]) ∧ CW w g (cells.set 4 (.int .i32 a)) w' := by
  obtain ⟨p, q, hz, hp, hq⟩ := h1
  obtain ⟨x, hx⟩ := hr.1 4 (by omega)
  obtain ⟨y, hy, htr⟩ := trunc_rep hp sm.abs
  have hne : (FloatKind.f64.format.order p y != some .eq) = false := by
    have e : FloatKind.f64.format.order p y = some (compare a a) := hp.order hy
    rw [e, show compare a a = .eq from Int.compare_eq_eq.2 rfl]; rfl
  exact do_part 33 0 0 word from_ 4 0 M 0 0 0 w g cells _ hT htg hB (by omega) (by kernel_rfl) (by kernel_rfl) (Lib.hid fun W hT hB => pt_zre 33 0 0 4 0 p q y a W g cells hT htg hB (by omega) (by omega) hz _ hx (rep_ge hp sm.1) (rep_le hp sm.2) hne (rep_cv hp sm.1 sm.2) (Lib.hid htr) (by kernel_rfl))
theorem op_zre2  (w : World) : Calls Tryd.prog 27 #[.string ⟨#[122, 114, 101]⟩, .int .i64 4, .int .i64 2, .int .i32 0] w fun e w' => e = .returned (.agg #[.int .i64 33, .int .i64 4, .int .i64 2, .int .i32 0, .int .i64 0]) ∧ Below w.heap.size w w' := by
  have h := op_any ⟨#[122, 114, 101]⟩ 4 2 0 w
  rwa [show findR (ByteArray.toList ⟨#[122, 114, 101]⟩) = 33 from by kernel_rfl] at h
set_option maxHeartbeats 1000000 in
theorem o_zre2 (word from_ : Int) (M : Value) (a b : Int) (w : World) (g : Nat) (cells : List Value) (hT : TabIs 0 w) (htg : 0 ≠ g) (hB : Blk w g 119 cells) (hr : RG cells) (h1 : Z cells 2 a b) (sm : Sm a) :
    Calls Tryd.prog 26 #[.pointer (some ⟨g, 0, none⟩), .agg #[.int .i64 33, .int .i64 4, .int .i64 2, .int .i32 0, .int .i64 0], .int .i32 word, M, .int .i64 from_] w fun e w' => e = .returned (.agg #[.int .i64 0, .int .i64 0, .int .u32 0]) ∧ CW w g (cells.set 4 (.int .i32 a)) w' := by
  obtain ⟨p, q, hz, hp, hq⟩ := h1
  obtain ⟨x, hx⟩ := hr.1 4 (by omega)
  obtain ⟨y, hy, htr⟩ := trunc_rep hp sm.abs
  have hne : (FloatKind.f64.format.order p y != some .eq) = false := by
    have e : FloatKind.f64.format.order p y = some (compare a a) := hp.order hy
    rw [e, show compare a a = .eq from Int.compare_eq_eq.2 rfl]; rfl
  exact do_part 33 0 0 word from_ 4 2 M 0 0 0 w g cells _ hT htg hB (by omega) (by kernel_rfl) (by kernel_rfl) (Lib.hid fun W hT hB => pt_zre 33 0 0 4 2 p q y a W g cells hT htg hB (by omega) (by omega) hz _ hx (rep_ge hp sm.1) (rep_le hp sm.2) hne (rep_cv hp sm.1 sm.2) (Lib.hid htr) (by kernel_rfl))
theorem op_zim0  (w : World) : Calls Tryd.prog 27 #[.string ⟨#[122, 105, 109]⟩, .int .i64 5, .int .i64 0, .int .i32 0] w fun e w' => e = .returned (.agg #[.int .i64 34, .int .i64 5, .int .i64 0, .int .i32 0, .int .i64 0]) ∧ Below w.heap.size w w' := by
  have h := op_any ⟨#[122, 105, 109]⟩ 5 0 0 w
  rwa [show findR (ByteArray.toList ⟨#[122, 105, 109]⟩) = 34 from by kernel_rfl] at h
set_option maxHeartbeats 1000000 in
theorem o_zim0 (word from_ : Int) (M : Value) (a b : Int) (w : World) (g : Nat) (cells : List Value) (hT : TabIs 0 w) (htg : 0 ≠ g) (hB : Blk w g 119 cells) (hr : RG cells) (h1 : Z cells 0 a b) (sm : Sm b) :
    Calls Tryd.prog 26 #[.pointer (some ⟨g, 0, none⟩), .agg #[.int .i64 34, .int .i64 5, .int .i64 0, .int .i32 0, .int .i64 0], .int .i32 word, M, .int .i64 from_] w fun e w' => e = .returned (.agg #[.int .i64 0, .int .i64 0, .int .u32 0]) ∧ CW w g (cells.set 5 (.int .i32 b)) w' := by
  obtain ⟨p, q, hz, hp, hq⟩ := h1
  obtain ⟨x, hx⟩ := hr.1 5 (by omega)
  obtain ⟨y, hy, htr⟩ := trunc_rep hq sm.abs
  have hne : (FloatKind.f64.format.order q y != some .eq) = false := by
    have e : FloatKind.f64.format.order q y = some (compare b b) := hq.order hy
    rw [e, show compare b b = .eq from Int.compare_eq_eq.2 rfl]; rfl
  exact do_part 34 0 0 word from_ 5 0 M 0 0 0 w g cells _ hT htg hB (by omega) (by kernel_rfl) (by kernel_rfl) (Lib.hid fun W hT hB => pt_zim 34 0 0 5 0 p q y b W g cells hT htg hB (by omega) (by omega) hz _ hx (rep_ge hq sm.1) (rep_le hq sm.2) hne (rep_cv hq sm.1 sm.2) (Lib.hid htr) (by kernel_rfl))
theorem op_zim2  (w : World) : Calls Tryd.prog 27 #[.string ⟨#[122, 105, 109]⟩, .int .i64 5, .int .i64 2, .int .i32 0] w fun e w' => e = .returned (.agg #[.int .i64 34, .int .i64 5, .int .i64 2, .int .i32 0, .int .i64 0]) ∧ Below w.heap.size w w' := by
  have h := op_any ⟨#[122, 105, 109]⟩ 5 2 0 w
  rwa [show findR (ByteArray.toList ⟨#[122, 105, 109]⟩) = 34 from by kernel_rfl] at h
set_option maxHeartbeats 1000000 in
theorem o_zim2 (word from_ : Int) (M : Value) (a b : Int) (w : World) (g : Nat) (cells : List Value) (hT : TabIs 0 w) (htg : 0 ≠ g) (hB : Blk w g 119 cells) (hr : RG cells) (h1 : Z cells 2 a b) (sm : Sm b) :
    Calls Tryd.prog 26 #[.pointer (some ⟨g, 0, none⟩), .agg #[.int .i64 34, .int .i64 5, .int .i64 2, .int .i32 0, .int .i64 0], .int .i32 word, M, .int .i64 from_] w fun e w' => e = .returned (.agg #[.int .i64 0, .int .i64 0, .int .u32 0]) ∧ CW w g (cells.set 5 (.int .i32 b)) w' := by
  obtain ⟨p, q, hz, hp, hq⟩ := h1
  obtain ⟨x, hx⟩ := hr.1 5 (by omega)
  obtain ⟨y, hy, htr⟩ := trunc_rep hq sm.abs
  have hne : (FloatKind.f64.format.order q y != some .eq) = false := by
    have e : FloatKind.f64.format.order q y = some (compare b b) := hq.order hy
    rw [e, show compare b b = .eq from Int.compare_eq_eq.2 rfl]; rfl
  exact do_part 34 0 0 word from_ 5 2 M 0 0 0 w g cells _ hT htg hB (by omega) (by kernel_rfl) (by kernel_rfl) (Lib.hid fun W hT hB => pt_zim 34 0 0 5 2 p q y b W g cells hT htg hB (by omega) (by omega) hz _ hx (rep_ge hq sm.1) (rep_le hq sm.2) hne (rep_cv hq sm.1 sm.2) (Lib.hid htr) (by kernel_rfl))
end Go.Proofs.YthcjnkakfpmpbaaDoor
