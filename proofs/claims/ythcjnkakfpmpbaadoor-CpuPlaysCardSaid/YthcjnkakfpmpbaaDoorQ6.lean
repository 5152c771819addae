import Derived.Test.YthcjnkakfpmpbaaDoorQ4
import Derived.Test.YthcjnkakfpmpbaaDoorQ5
import Derived.Deep.QuietTactic
namespace Go.Proofs.YthcjnkakfpmpbaaDoor
open Go.RowKit
set_option linter.unusedVariables false
set_option linter.unusedSimpArgs false
structure RW (w0 : World) (g : Nat) (cells : List Value) (w : World) : Prop where
  fr : KFr (· = g) w0 w
  blk : Blk w g 89 cells
  lt : g < w0.heap.size
section
variable {w0 w w' w'' : World} {g : Nat} {cells cells' : List Value}
theorem RW.start (hB : Blk w g 89 cells) : RW w g cells w := ⟨KFr.refl _ _,hB,hB.lt⟩
theorem RW.below (h : RW w0 g cells w) (hb : Below w.heap.size w w') : RW w0 g cells w' :=
  ⟨⟨hb.os.trans h.fr.os,hb.tape.trans h.fr.tape,hb.output.trans h.fr.output,Nat.le_trans h.fr.size hb.size,fun k hk hu => (hb.block k (Nat.lt_of_lt_of_le hk h.fr.size)).trans (h.fr.block k hk hu)⟩,h.blk.below hb h.blk.lt,h.lt⟩
theorem RW.alloc (h : RW w0 g cells w) (o : Obj) : RW w0 g cells (w.alloc o) := h.below ((Below.refl _ _).alloc (Nat.le_refl _) o)
theorem RW.drewN (h : RW w0 g cells w) (n : Nat) : RW w0 g cells (w.drewN n) := ⟨⟨h.fr.os,h.fr.tape,h.fr.output,h.fr.size,h.fr.block⟩,h.blk,h.lt⟩
theorem RW.setReg (h : RW w0 g cells w) (i : Nat) (u : Value) : RW w0 g (cells.set i u) (w.setCell ⟨g,i,none⟩ u) :=
  ⟨h.fr.trans ⟨rfl,rfl,rfl,by simp,fun k hk hu => Below.heap_setCell w _ u k hu⟩,h.blk.set_ i u,h.lt⟩
theorem RW.far (h : RW w0 g cells w) {k : Nat} (hk : w0.heap.size ≤ k) (i : Nat) (u : Value) : RW w0 g cells (w.setCell ⟨k,i,none⟩ u) := by
  have hlt := h.lt
  exact ⟨⟨h.fr.os,h.fr.tape,h.fr.output,Nat.le_trans h.fr.size (by simp),fun j hj hu => (Below.heap_setCell w _ u j (by show j ≠ k; omega)).trans (h.fr.block j hj hu)⟩,(Below.heap_setCell w _ u g (by show g ≠ k; omega)).trans h.blk,h.lt⟩
theorem RW.farCells {k : Nat} (hk : w0.heap.size ≤ k) : ∀ (vs : List Value) (o : Nat) (w : World),RW w0 g cells w → RW w0 g cells (w.setCells k o vs)
  | [],_,_,h => h
  | v :: r,o,w,h => RW.farCells hk r (o + 1) _ (h.far hk o v)
theorem RW.trans (h : RW w0 g cells w) (h' : RW w g cells' w') : RW w0 g cells' w' := ⟨h.fr.trans h'.fr,h'.blk,h.lt⟩
theorem RW.tab {t : Nat} (h : RW w0 g cells w) (hT : TabIs t w0) (ht : t ≠ g) : TabIs t w := by
  obtain ⟨ty,hb⟩ := hT
  exact ⟨ty,(h.fr.block t hb.lt ht).trans hb⟩
theorem RW.bel {B : Nat} (h : RW w0 g cells w) (hB : B ≤ g) : Below B w0 w :=
  ⟨h.fr.os,h.fr.tape,h.fr.output,h.fr.size,fun k hk => h.fr.block k (by have := h.lt; omega) (by omega)⟩
theorem RW.sl {B sz n : Nat} {A : Option Addr} {cs : List Value} (h : RW w0 g cells w) (hs : Sl w0 B sz A n cs) (hB : B ≤ g) : Sl w B sz A n cs := hs.below (h.bel hB)
theorem RW.size (h : RW w0 g cells w) : w0.heap.size ≤ w.heap.size := h.fr.size
end
theorem rtrap_any (n : Int) (w : World) : Calls Tryd.prog 66 #[.int .i64 n] w fun e w' => e = .returned (.agg #[.int .i64 6,.int .i64 n,.int .u32 0]) ∧ Below w.heap.size w w' := by
  go_enter Tryd.func66,Tryd.ntmps66
  go_wp2_with fail
  refine bodyPost_ret (v := .agg #[.int .i64 6,.int .i64 n,.int .u32 0]) (by simp [results,Tryd.results66,go_sem]) rfl ⟨rfl,?_⟩
  exact (Below.refl w.heap.size w).alloc (Nat.le_refl _) _
theorem memory_yes (y : Int) (n m c a : Nat) (A : Option Addr) (from_ : Int) (w : World) (y0 : -2147483648 ≤ y) (y1 : y ≤ 2147483647) (hf0 : 0 ≤ from_) (hf1 : from_ ≤ 1048576) (hn1 : n ≤ 8) (hm : m ≤ 140737488355328) (ha : y % 4294967296 - from_ = (a : Int)) (h : a + n ≤ m) :
    Calls Tryd.prog 86 #[.int .i32 y,.int .i64 n,.slice A m c,.int .i64 from_] w fun e w' => e = .returned (.int .i64 a) ∧ w = w' := by
  obtain ⟨u,hu⟩ : ∃ u,u = y % 4294967296 := ⟨_,rfl⟩
  have hu' : y % 4294967296 = u := hu.symm
  clear hu
  have u0 : 0 ≤ u := by omega
  have u1 : u < 4294967296 := by omega
  have hau : u - from_ = (a : Int) := by omega
  have h1 : ¬ ((a : Int) < 0) := by omega
  have h2 : ¬ ((m : Int) < a) := by omega
  have h3 : ¬ ((m : Int) - a < n) := by omega
  have h4 : 0 ≤ (a : Int) := by omega
  go_enter Tryd.func86,Tryd.ntmps86
  go_wp2_with fail
  go_ret
  exact ⟨rfl,rfl⟩
theorem memory_no (y : Int) (n m c : Nat) (A : Option Addr) (from_ : Int) (w : World) (y0 : -2147483648 ≤ y) (y1 : y ≤ 2147483647) (hf0 : 0 ≤ from_) (hf1 : from_ ≤ 1048576) (hn0 : 1 ≤ n) (hn1 : n ≤ 8) (hm : m ≤ 140737488355328) (hno : y % 4294967296 - from_ < 0 ∨ (m : Int) < y % 4294967296 - from_ + n) :
    Calls Tryd.prog 86 #[.int .i32 y,.int .i64 n,.slice A m c,.int .i64 from_] w fun e w' => e = .returned (.int .i64 (-1)) ∧ w = w' := by
  obtain ⟨u,hu⟩ : ∃ u,u = y % 4294967296 := ⟨_,rfl⟩
  have hu' : y % 4294967296 = u := hu.symm
  clear hu
  have u0 : 0 ≤ u := by omega
  have u1 : u < 4294967296 := by omega
  obtain ⟨v,hv⟩ : ∃ v,u - from_ = v := ⟨_,rfl⟩
  have v0 : -1048576 ≤ v := by omega
  have v1 : v < 4294967296 := by omega
  rcases (show v < 0 ∨ (¬ v < 0 ∧ (m : Int) < v) ∨ (¬ v < 0 ∧ ¬ (m : Int) < v ∧ (m : Int) - v < n) by omega) with h | ⟨h,h2⟩ | ⟨h,h2,h3⟩
  all_goals
    go_enter Tryd.func86,Tryd.ntmps86
    go_wp2_with fail
    go_ret
    exact ⟨rfl,rfl⟩
section
variable (p : Nat) (w : World)
theorem whole_a (h : (FloatKind.f64.format.order p 13970166044103278592 == some .gt || FloatKind.f64.format.order p 13970166044103278592 == some .eq) = false) :
    Calls Tryd.prog 88 #[.float .f64 p] w fun e w' => e = .returned (.tuple #[.int .i32 0,.bool false]) ∧ w = w' := by
  go_enter Tryd.func88,Tryd.ntmps88
  go_wp2_with fail
  refine bodyPost_ret (v := .tuple #[.int .i32 0,.bool false]) (by simp [results,Tryd.results88,go_sem]) rfl ⟨rfl,rfl⟩
theorem whole_b (h : (FloatKind.f64.format.order p 13970166044103278592 == some .gt || FloatKind.f64.format.order p 13970166044103278592 == some .eq) = true) (h2 : (FloatKind.f64.format.order p 4746794007244308480 == some .lt || FloatKind.f64.format.order p 4746794007244308480 == some .eq) = false) :
    Calls Tryd.prog 88 #[.float .f64 p] w fun e w' => e = .returned (.tuple #[.int .i32 0,.bool false]) ∧ w = w' := by
  go_enter Tryd.func88,Tryd.ntmps88
  go_wp2_with fail
  refine bodyPost_ret (v := .tuple #[.int .i32 0,.bool false]) (by simp [results,Tryd.results88,go_sem]) rfl ⟨rfl,rfl⟩
theorem whole_c (n : Int) (b : Bool) (h : (FloatKind.f64.format.order p 13970166044103278592 == some .gt || FloatKind.f64.format.order p 13970166044103278592 == some .eq) = true) (h2 : (FloatKind.f64.format.order p 4746794007244308480 == some .lt || FloatKind.f64.format.order p 4746794007244308480 == some .eq) = true)
    (hcv : ∀ w,(convert 146 21 (.float .f64 p)).run Tryd.prog w = .ok (.int .i32 n) w) (he : (FloatKind.f64.format.order (floatOfInt .f64 n) p == some .eq) = b) :
    Calls Tryd.prog 88 #[.float .f64 p] w fun e w' => e = .returned (.tuple #[.int .i32 n,.bool b]) ∧ w = w' := by
  go_enter Tryd.func88,Tryd.ntmps88
  go_wp2_with fail
  refine bodyPost_ret (v := .tuple #[.int .i32 n,.bool b]) (by simp [results,Tryd.results88,go_sem]) rfl ⟨rfl,rfl⟩
end
theorem reckon_mov (x y : Int)  (w : World) (x0 : -2147483648 ≤ x) (x1 : x ≤ 2147483647) (y0 : -2147483648 ≤ y) (y1 : y ≤ 2147483647) :
    Calls Tryd.prog 87 #[.string ⟨#[109,111,118]⟩,.int .i32 x,.int .i32 y] w fun e w' => e = .returned (.int .i32 (y)) ∧ w = w' := by
  go_enter Tryd.func87,Tryd.ntmps87
  go_wp2_with fail
  go_ret
  exact ⟨rfl,rfl⟩
theorem reckon_add (x y : Int)  (w : World) (x0 : -2147483648 ≤ x) (x1 : x ≤ 2147483647) (y0 : -2147483648 ≤ y) (y1 : y ≤ 2147483647) :
    Calls Tryd.prog 87 #[.string ⟨#[97,100,100]⟩,.int .i32 x,.int .i32 y] w fun e w' => e = .returned (.int .i32 (wrap32 (x + y))) ∧ w = w' := by
  go_enter Tryd.func87,Tryd.ntmps87
  go_wp2_with fail
  go_ret
  exact ⟨rfl,rfl⟩
theorem reckon_sub (x y : Int)  (w : World) (x0 : -2147483648 ≤ x) (x1 : x ≤ 2147483647) (y0 : -2147483648 ≤ y) (y1 : y ≤ 2147483647) :
    Calls Tryd.prog 87 #[.string ⟨#[115,117,98]⟩,.int .i32 x,.int .i32 y] w fun e w' => e = .returned (.int .i32 (wrap32 (x - y))) ∧ w = w' := by
  go_enter Tryd.func87,Tryd.ntmps87
  go_wp2_with fail
  go_ret
  exact ⟨rfl,rfl⟩
theorem reckon_mul (x y : Int)  (w : World) (x0 : -2147483648 ≤ x) (x1 : x ≤ 2147483647) (y0 : -2147483648 ≤ y) (y1 : y ≤ 2147483647) :
    Calls Tryd.prog 87 #[.string ⟨#[109,117,108]⟩,.int .i32 x,.int .i32 y] w fun e w' => e = .returned (.int .i32 (wrap32 (x * y))) ∧ w = w' := by
  go_enter Tryd.func87,Tryd.ntmps87
  go_wp2_with fail
  go_ret
  exact ⟨rfl,rfl⟩
theorem reckon_div1 (x y : Int) (hy : y = -1) (w : World) (x0 : -2147483648 ≤ x) (x1 : x ≤ 2147483647) (y0 : -2147483648 ≤ y) (y1 : y ≤ 2147483647) :
    Calls Tryd.prog 87 #[.string ⟨#[100,105,118]⟩,.int .i32 x,.int .i32 y] w fun e w' => e = .returned (.int .i32 (wrap32 (-x))) ∧ w = w' := by
  subst hy
  go_enter Tryd.func87,Tryd.ntmps87
  go_wp2_with fail
  go_ret
  exact ⟨rfl,rfl⟩
theorem reckon_div (x y : Int) (hy : ¬ y = -1) (hz : ¬ y = 0) (w : World) (x0 : -2147483648 ≤ x) (x1 : x ≤ 2147483647) (y0 : -2147483648 ≤ y) (y1 : y ≤ 2147483647) :
    Calls Tryd.prog 87 #[.string ⟨#[100,105,118]⟩,.int .i32 x,.int .i32 y] w fun e w' => e = .returned (.int .i32 (wrap32 (x.tdiv y))) ∧ w = w' := by
  go_enter Tryd.func87,Tryd.ntmps87
  go_wp2_with fail
  go_ret
  exact ⟨rfl,rfl⟩
theorem reckon_and (x y : Int)  (w : World) (x0 : -2147483648 ≤ x) (x1 : x ≤ 2147483647) (y0 : -2147483648 ≤ y) (y1 : y ≤ 2147483647) :
    Calls Tryd.prog 87 #[.string ⟨#[97,110,100]⟩,.int .i32 x,.int .i32 y] w fun e w' => e = .returned (.int .i32 (bits BinOp.and IntKind.i32 x y)) ∧ w = w' := by
  go_enter Tryd.func87,Tryd.ntmps87
  go_wp2_with fail
  go_ret
  exact ⟨rfl,rfl⟩
theorem reckon_or (x y : Int)  (w : World) (x0 : -2147483648 ≤ x) (x1 : x ≤ 2147483647) (y0 : -2147483648 ≤ y) (y1 : y ≤ 2147483647) :
    Calls Tryd.prog 87 #[.string ⟨#[111,114]⟩,.int .i32 x,.int .i32 y] w fun e w' => e = .returned (.int .i32 (bits BinOp.or IntKind.i32 x y)) ∧ w = w' := by
  go_enter Tryd.func87,Tryd.ntmps87
  go_wp2_with fail
  go_ret
  exact ⟨rfl,rfl⟩
theorem reckon_xor (x y : Int)  (w : World) (x0 : -2147483648 ≤ x) (x1 : x ≤ 2147483647) (y0 : -2147483648 ≤ y) (y1 : y ≤ 2147483647) :
    Calls Tryd.prog 87 #[.string ⟨#[120,111,114]⟩,.int .i32 x,.int .i32 y] w fun e w' => e = .returned (.int .i32 (bits BinOp.xor IntKind.i32 x y)) ∧ w = w' := by
  go_enter Tryd.func87,Tryd.ntmps87
  go_wp2_with fail
  go_ret
  exact ⟨rfl,rfl⟩
theorem reckon_lt (x y : Int) (w : World) (x0 : -2147483648 ≤ x) (x1 : x ≤ 2147483647) (y0 : -2147483648 ≤ y) (y1 : y ≤ 2147483647) :
    Calls Tryd.prog 87 #[.string ⟨#[108,116]⟩,.int .i32 x,.int .i32 y] w fun e w' => e = .returned (.int .i32 (b01 (decide (x < y)))) ∧ w = w' := by
  by_cases h : x < y
  · skip
    go_enter Tryd.func87,Tryd.ntmps87
    go_wp2_with fail
    go_ret
    exact ⟨by simp [b01,h],rfl⟩
  · go_enter Tryd.func87,Tryd.ntmps87
    go_wp2_with fail
    go_ret
    exact ⟨by simp [b01,h],rfl⟩
theorem reckon_eq (x y : Int) (w : World) (x0 : -2147483648 ≤ x) (x1 : x ≤ 2147483647) (y0 : -2147483648 ≤ y) (y1 : y ≤ 2147483647) :
    Calls Tryd.prog 87 #[.string ⟨#[101,113]⟩,.int .i32 x,.int .i32 y] w fun e w' => e = .returned (.int .i32 (b01 (x == y))) ∧ w = w' := by
  by_cases h : x = y
  · subst h
    go_enter Tryd.func87,Tryd.ntmps87
    go_wp2_with fail
    go_ret
    exact ⟨by simp [b01],rfl⟩
  · go_enter Tryd.func87,Tryd.ntmps87
    go_wp2_with fail
    go_ret
    exact ⟨by simp [b01,h],rfl⟩
end Go.Proofs.YthcjnkakfpmpbaaDoor
