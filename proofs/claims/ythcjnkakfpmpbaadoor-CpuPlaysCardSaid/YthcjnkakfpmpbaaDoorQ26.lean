import Derived.Test.YthcjnkakfpmpbaaDoorQ21
import Derived.Test.YthcjnkakfpmpbaaDoorQ22
import Derived.Test.YthcjnkakfpmpbaaDoorQ23
import Derived.Test.YthcjnkakfpmpbaaDoorQ24
import Derived.Test.YthcjnkakfpmpbaaDoorQ25
import Derived.Test.YthcjnkakfpmpbaaDoorQ10
import Derived.Test.YthcjnkakfpmpbaaDoorQ4
import Derived.Laws.Externs
namespace Go.Proofs.YthcjnkakfpmpbaaDoor
open Go.RowKit
set_option linter.unusedVariables false
set_option linter.unusedSimpArgs false
set_option maxRecDepth 20000
theorem op_div  (w : World) : Calls Tryd.prog 27 #[.string ⟨#[100,105,118]⟩,.int .i64 1,.int .i64 2,.int .i32 0] w fun e w' => e = .returned (.agg #[.int .i64 17,.int .i64 1,.int .i64 2,.int .i32 0,.int .i64 0]) ∧ Below w.heap.size w w' := by
  have h := op_any ⟨#[100,105,118]⟩ 1 2 0 w
  rwa [show findR (ByteArray.toList ⟨#[100,105,118]⟩) = 17 from by kernel_rfl] at h
theorem o_div (word from_ : Int) (M : Value) (x y : Int) (w : World) (g : Nat) (cells : List Value) (hT : TabIs 0 w) (htg : 0 ≠ g) (hB : Blk w g 119 cells) (hx : cells[1]? = some (.int .i32 x)) (hy : cells[2]? = some (.int .i32 y)) (x0 : -2147483648 ≤ x) (x1 : x ≤ 2147483647) (y0 : -2147483648 ≤ y) (y1 : y ≤ 2147483647) (hyz : (y == 0) = false) (hyy : ¬ y = 0) :
    Calls Tryd.prog 26 #[.pointer (some ⟨g,0,none⟩),.agg #[.int .i64 17,.int .i64 1,.int .i64 2,.int .i32 0,.int .i64 0],.int .i32 word,M,.int .i64 from_] w fun e w' => e = .returned (.agg #[.int .i64 0,.int .i64 0,.int .u32 0]) ∧ CW w g (cells.set 1 (.int .i32 (wrap32 (x.tdiv y)))) w' :=
  do_two 17 0 0 word from_ 1 2 M 0 0 0 w g cells _ hT htg hB (by omega) (by kernel_rfl) (by kernel_rfl) (Lib.hid fun W hT hB => two_div 17 0 0 1 2 M from_ x y W g cells hT htg hB (by omega) (by omega) hx hy x0 x1 y0 y1 hyz hyy (by kernel_rfl))
theorem op_lis1_7  (w : World) : Calls Tryd.prog 27 #[.string ⟨#[108,105,115]⟩,.int .i64 1,.int .i64 0,.int .i32 7] w fun e w' => e = .returned (.agg #[.int .i64 36,.int .i64 1,.int .i64 0,.int .i32 7,.int .i64 0]) ∧ Below w.heap.size w w' := by
  have h := op_any ⟨#[108,105,115]⟩ 1 0 7 w
  rwa [show findR (ByteArray.toList ⟨#[108,105,115]⟩) = 36 from by kernel_rfl] at h
theorem o_lis1_7 (word from_ : Int) (M : Value)  (w : World) (g : Nat) (cells : List Value) (hT : TabIs 0 w) (htg : 0 ≠ g) (hB : Blk w g 119 cells) (hr : RG cells) :
    Calls Tryd.prog 26 #[.pointer (some ⟨g,0,none⟩),.agg #[.int .i64 36,.int .i64 1,.int .i64 0,.int .i32 7,.int .i64 0],.int .i32 word,M,.int .i64 from_] w fun e w' => e = .returned (.agg #[.int .i64 0,.int .i64 0,.int .u32 0]) ∧ CW w g (cells.set 1 (.int .i32 7)) w' :=
  by obtain ⟨x,hx⟩ := hr.1 1 (by omega); exact do_set8 36 0 7 word from_ 1 0 M w g cells hT htg hB (by omega) (by kernel_rfl) (by kernel_rfl) (by omega) x hx
theorem op_lis2_m2  (w : World) : Calls Tryd.prog 27 #[.string ⟨#[108,105,115]⟩,.int .i64 2,.int .i64 0,.int .i32 (-2)] w fun e w' => e = .returned (.agg #[.int .i64 36,.int .i64 2,.int .i64 0,.int .i32 (-2),.int .i64 0]) ∧ Below w.heap.size w w' := by
  have h := op_any ⟨#[108,105,115]⟩ 2 0 (-2) w
  rwa [show findR (ByteArray.toList ⟨#[108,105,115]⟩) = 36 from by kernel_rfl] at h
theorem o_lis2_m2 (word from_ : Int) (M : Value)  (w : World) (g : Nat) (cells : List Value) (hT : TabIs 0 w) (htg : 0 ≠ g) (hB : Blk w g 119 cells) (hr : RG cells) :
    Calls Tryd.prog 26 #[.pointer (some ⟨g,0,none⟩),.agg #[.int .i64 36,.int .i64 2,.int .i64 0,.int .i32 (-2),.int .i64 0],.int .i32 word,M,.int .i64 from_] w fun e w' => e = .returned (.agg #[.int .i64 0,.int .i64 0,.int .u32 0]) ∧ CW w g (cells.set 2 (.int .i32 (-2))) w' :=
  by obtain ⟨x,hx⟩ := hr.1 2 (by omega); exact do_set8 36 0 (-2) word from_ 2 0 M w g cells hT htg hB (by omega) (by kernel_rfl) (by kernel_rfl) (by omega) x hx
theorem op_lis1_3  (w : World) : Calls Tryd.prog 27 #[.string ⟨#[108,105,115]⟩,.int .i64 1,.int .i64 0,.int .i32 3] w fun e w' => e = .returned (.agg #[.int .i64 36,.int .i64 1,.int .i64 0,.int .i32 3,.int .i64 0]) ∧ Below w.heap.size w w' := by
  have h := op_any ⟨#[108,105,115]⟩ 1 0 3 w
  rwa [show findR (ByteArray.toList ⟨#[108,105,115]⟩) = 36 from by kernel_rfl] at h
theorem o_lis1_3 (word from_ : Int) (M : Value)  (w : World) (g : Nat) (cells : List Value) (hT : TabIs 0 w) (htg : 0 ≠ g) (hB : Blk w g 119 cells) (hr : RG cells) :
    Calls Tryd.prog 26 #[.pointer (some ⟨g,0,none⟩),.agg #[.int .i64 36,.int .i64 1,.int .i64 0,.int .i32 3,.int .i64 0],.int .i32 word,M,.int .i64 from_] w fun e w' => e = .returned (.agg #[.int .i64 0,.int .i64 0,.int .u32 0]) ∧ CW w g (cells.set 1 (.int .i32 3)) w' :=
  by obtain ⟨x,hx⟩ := hr.1 1 (by omega); exact do_set8 36 0 3 word from_ 1 0 M w g cells hT htg hB (by omega) (by kernel_rfl) (by kernel_rfl) (by omega) x hx
theorem op_lis2_4  (w : World) : Calls Tryd.prog 27 #[.string ⟨#[108,105,115]⟩,.int .i64 2,.int .i64 0,.int .i32 4] w fun e w' => e = .returned (.agg #[.int .i64 36,.int .i64 2,.int .i64 0,.int .i32 4,.int .i64 0]) ∧ Below w.heap.size w w' := by
  have h := op_any ⟨#[108,105,115]⟩ 2 0 4 w
  rwa [show findR (ByteArray.toList ⟨#[108,105,115]⟩) = 36 from by kernel_rfl] at h
theorem o_lis2_4 (word from_ : Int) (M : Value)  (w : World) (g : Nat) (cells : List Value) (hT : TabIs 0 w) (htg : 0 ≠ g) (hB : Blk w g 119 cells) (hr : RG cells) :
    Calls Tryd.prog 26 #[.pointer (some ⟨g,0,none⟩),.agg #[.int .i64 36,.int .i64 2,.int .i64 0,.int .i32 4,.int .i64 0],.int .i32 word,M,.int .i64 from_] w fun e w' => e = .returned (.agg #[.int .i64 0,.int .i64 0,.int .u32 0]) ∧ CW w g (cells.set 2 (.int .i32 4)) w' :=
  by obtain ⟨x,hx⟩ := hr.1 2 (by omega); exact do_set8 36 0 4 word from_ 2 0 M w g cells hT htg hB (by omega) (by kernel_rfl) (by kernel_rfl) (by omega) x hx
theorem op_zset  (w : World) : Calls Tryd.prog 27 #[.string ⟨#[122,115,101,116]⟩,.int .i64 0,.int .i64 1,.int .i32 2] w fun e w' => e = .returned (.agg #[.int .i64 35,.int .i64 0,.int .i64 1,.int .i32 2,.int .i64 0]) ∧ Below w.heap.size w w' := by
  have h := op_any ⟨#[122,115,101,116]⟩ 0 1 2 w
  rwa [show findR (ByteArray.toList ⟨#[122,115,101,116]⟩) = 35 from by kernel_rfl] at h
theorem o_zset (word from_ : Int) (M : Value) (x y : Int) (w : World) (g : Nat) (cells : List Value) (hT : TabIs 0 w) (htg : 0 ≠ g) (hB : Blk w g 119 cells) (hx : cells[1]? = some (.int .i32 x)) (hy : cells[2]? = some (.int .i32 y)) (hr : RG cells) :
    Calls Tryd.prog 26 #[.pointer (some ⟨g,0,none⟩),.agg #[.int .i64 35,.int .i64 0,.int .i64 1,.int .i32 2,.int .i64 0],.int .i32 word,M,.int .i64 from_] w fun e w' => e = .returned (.agg #[.int .i64 0,.int .i64 0,.int .u32 0]) ∧ CW w g (cells.set 8 (.complex .f64 (floatOfInt .f64 x) (floatOfInt .f64 y))) w' :=
  by obtain ⟨p,q,hz⟩ := hr.2 0 (by omega); exact do_cplxA 7 (by decide) 35 0 2 word from_ 0 1 M w g cells _ hT htg hB (by omega) (by kernel_rfl) (by kernel_rfl) (Lib.hid fun W hT hB => cx_zset 35 2 0 0 1 2 x y W g cells hT htg hB (by omega) (by omega) (by omega) rfl hx hy _ hz (by kernel_rfl))
theorem op_zmul  (w : World) : Calls Tryd.prog 27 #[.string ⟨#[122,109,117,108]⟩,.int .i64 0,.int .i64 0,.int .i32 0] w fun e w' => e = .returned (.agg #[.int .i64 32,.int .i64 0,.int .i64 0,.int .i32 0,.int .i64 0]) ∧ Below w.heap.size w w' := by
  have h := op_any ⟨#[122,109,117,108]⟩ 0 0 0 w
  rwa [show findR (ByteArray.toList ⟨#[122,109,117,108]⟩) = 32 from by kernel_rfl] at h
theorem o_zmul (word from_ : Int) (M : Value) (p q : Nat) (w : World) (g : Nat) (cells : List Value) (hT : TabIs 0 w) (htg : 0 ≠ g) (hB : Blk w g 119 cells) (hz : cells[8]? = some (.complex .f64 p q)) :
    Calls Tryd.prog 26 #[.pointer (some ⟨g,0,none⟩),.agg #[.int .i64 32,.int .i64 0,.int .i64 0,.int .i32 0,.int .i64 0],.int .i32 word,M,.int .i64 from_] w fun e w' => e = .returned (.agg #[.int .i64 0,.int .i64 0,.int .u32 0]) ∧ ∃ ps qt re pt qs im : Nat,FR .mul p p ps ∧ FR .mul q q qt ∧ FR .sub ps qt re ∧ FR .mul p q pt ∧ FR .mul q p qs ∧ FR .add pt qs im ∧ CW w g (cells.set 8 (.complex .f64 re im)) w' := by
  refine (do_cplx5G 32 0 0 word from_ 0 0 M w g cells (fun c' => ∃ ps qt re pt qs im : Nat,FR .mul p p ps ∧ FR .mul q q qt ∧ FR .sub ps qt re ∧ FR .mul p q pt ∧ FR .mul q p qs ∧ FR .add pt qs im ∧ c' = cells.set 8 (.complex .f64 re im)) hT htg hB (by omega) (by kernel_rfl) (by kernel_rfl) (Lib.hid fun W hT hB => (cxn_zmul 32 0 0 0 0 p q p q W g cells hT htg hB (by omega) (by omega) hz hz (by kernel_rfl)).mono fun e w' h => by
    obtain ⟨h0,ps,qt,re,pt,qs,im,h1,h2,h3,h4,h5,h6,h⟩ := h
    exact ⟨h0,_,⟨_,_,_,_,_,_,h1,h2,h3,h4,h5,h6,rfl⟩,h⟩)).mono ?_
  rintro e w' ⟨rfl,c',⟨ps,qt,re,pt,qs,im,h1,h2,h3,h4,h5,h6,rfl⟩,h⟩
  exact ⟨rfl,ps,qt,re,pt,qs,im,h1,h2,h3,h4,h5,h6,h⟩
theorem op_zre  (w : World) : Calls Tryd.prog 27 #[.string ⟨#[122,114,101]⟩,.int .i64 3,.int .i64 0,.int .i32 0] w fun e w' => e = .returned (.agg #[.int .i64 33,.int .i64 3,.int .i64 0,.int .i32 0,.int .i64 0]) ∧ Below w.heap.size w w' := by
  have h := op_any ⟨#[122,114,101]⟩ 3 0 0 w
  rwa [show findR (ByteArray.toList ⟨#[122,114,101]⟩) = 33 from by kernel_rfl] at h
theorem o_zre (word from_ : Int) (M : Value) (p q y : Nat) (m : Int) (w : World) (g : Nat) (cells : List Value) (hT : TabIs 0 w) (htg : 0 ≠ g) (hB : Blk w g 119 cells) (hz : cells[8]? = some (.complex .f64 p q)) (hr : RG cells)
    (hge : (FloatKind.f64.format.order p 13970166044103278592 == some .gt || FloatKind.f64.format.order p 13970166044103278592 == some .eq) = true)
    (hle : (FloatKind.f64.format.order p 4746794007244308480 == some .lt || FloatKind.f64.format.order p 4746794007244308480 == some .eq) = true)
    (hne : (FloatKind.f64.format.order p y != some .eq) = false) (hcv : ∀ w,(convert 146 21 (.float .f64 p)).run Tryd.prog w = .ok (.int .i32 m) w)
    (Htr : Hid (∀ W,Calls Tryd.prog 85 #[.float .f64 p] W fun e w' => e = .returned (.float .f64 y) ∧ W = w')) :
    Calls Tryd.prog 26 #[.pointer (some ⟨g,0,none⟩),.agg #[.int .i64 33,.int .i64 3,.int .i64 0,.int .i32 0,.int .i64 0],.int .i32 word,M,.int .i64 from_] w fun e w' => e = .returned (.agg #[.int .i64 0,.int .i64 0,.int .u32 0]) ∧ CW w g (cells.set 3 (.int .i32 m)) w' :=
  by obtain ⟨x,hx⟩ := hr.1 3 (by omega); exact do_part 33 0 0 word from_ 3 0 M 0 0 0 w g cells _ hT htg hB (by omega) (by kernel_rfl) (by kernel_rfl) (Lib.hid fun W hT hB => pt_zre 33 0 0 3 0 p q y m W g cells hT htg hB (by omega) (by omega) hz _ hx hge hle hne hcv Htr (by kernel_rfl))
end Go.Proofs.YthcjnkakfpmpbaaDoor
namespace Go.Proofs.YthcjnkakfpmpbaaDoor
open Go.RowKit
set_option linter.unusedVariables false
set_option linter.unusedSimpArgs false
set_option maxRecDepth 20000
section
variable {p q : Nat} {a b : Int}
theorem rep_ofInt (n : Int) (h : n.natAbs < 2 ^ 53) : Rep (floatOfInt .f64 n) n := rep_int h
theorem rep_min : Rep 13970166044103278592 (-2147483648) := by
  have h := rep_ofInt (-2147483648) (by decide)
  rwa [show floatOfInt .f64 (-2147483648) = 13970166044103278592 from by kernel_rfl] at h
theorem rep_max : Rep 4746794007244308480 2147483647 := by
  have h := rep_ofInt 2147483647 (by decide)
  rwa [show floatOfInt .f64 2147483647 = 4746794007244308480 from by kernel_rfl] at h
theorem rep_ge (h : Rep p a) (h0 : -2147483648 ≤ a) : (FloatKind.f64.format.order p 13970166044103278592 == some .gt || FloatKind.f64.format.order p 13970166044103278592 == some .eq) = true := by
  have e : FloatKind.f64.format.order p 13970166044103278592 = some (compare a (-2147483648)) := h.order rep_min
  rw [e]
  rcases Int.lt_or_eq_of_le h0 with h1 | h1
  · rw [show compare a (-2147483648) = .gt from Int.compare_eq_gt.2 h1]; rfl
  · rw [← h1]; rfl
theorem rep_le (h : Rep p a) (h0 : a ≤ 2147483647) : (FloatKind.f64.format.order p 4746794007244308480 == some .lt || FloatKind.f64.format.order p 4746794007244308480 == some .eq) = true := by
  have e : FloatKind.f64.format.order p 4746794007244308480 = some (compare a 2147483647) := h.order rep_max
  rw [e]
  rcases Int.lt_or_eq_of_le h0 with h1 | h1
  · rw [show compare a 2147483647 = .lt from Int.compare_eq_lt.2 h1]; rfl
  · rw [h1]; rfl
theorem rep_cv (h : Rep p a) (h0 : -2147483648 ≤ a) (h1 : a ≤ 2147483647) : ∀ w,(convert 146 21 (.float .f64 p)).run Tryd.prog w = .ok (.int .i32 a) w := fun w =>
  run_convert_float_int w _ _ .f64 .i32 p a (by kernel_rfl) Tryd.underlying21 (by
    unfold floatToIntVal
    rw [h.toInt]
    simp [IntKind.min,IntKind.max,IntKind.bits,IntKind.signed,h0,h1])
theorem arch_run {p m : Nat} {s : Bool} {e : Int} (h : FloatKind.f64.decode p = .number s m e) : Extern.MathFloor.toIntegral "math.archTrunc" .zero #[.float .f64 p] = pure (.float .f64 (FloatKind.f64.encode ((Ieee.Datum.number s m e).integral .zero))) := by
  conv => lhs; whnf
  rw [h]
theorem trunc_rep (h : Rep p a) (hn : a.natAbs < 2 ^ 53) : ∃ y,Rep y a ∧ ∀ W,Calls Tryd.prog 85 #[.float .f64 p] W fun e w' => e = .returned (.float .f64 y) ∧ W = w' := by
  obtain ⟨s,m,e,h1,h2⟩ := h
  obtain ⟨y,hy⟩ : ∃ y,y = FloatKind.f64.encode ((Ieee.Datum.number s m e).integral .zero) := ⟨_,rfl⟩
  have hrep : Rep y a := by
    rw [hy,h2.integral]
    refine rep_write (s := s) (m := a.natAbs) (e := 0) ⟨0,by omega,?_⟩ hn
    by_cases h0 : a = 0
    · subst h0; simp
    · simpa using h2.sign h0
  refine ⟨y,hrep,fun W => ?_⟩
  have hc : ∀ w,(callFunc 91 #[.float .f64 p]).run Tryd.prog w = .ok (.value (.float .f64 y)) w := fun w => by
    rw [run_callFunc_extern (e := Extern.MathFloor.toIntegral "math.archTrunc" .zero) Tryd.func91 (by kernel_rfl) (by kernel_rfl) (by kernel_rfl) (by kernel_rfl)]
    rw [arch_run h1,hy]
    rfl
  clear hy hrep h1 h2
  go_enter Tryd.func85,Tryd.ntmps85
  go_wp2_with fail
  go_ret
  exact ⟨rfl,rfl⟩
end
theorem zre_rep (word from_ : Int) (M : Value) (p q : Nat) (m : Int) (w : World) (g : Nat) (cells : List Value) (hT : TabIs 0 w) (htg : 0 ≠ g) (hB : Blk w g 119 cells) (hz : cells[8]? = some (.complex .f64 p q)) (hr : RG cells) (hp : Rep p m) (m0 : -2147483648 ≤ m) (m1 : m ≤ 2147483647) :
    Calls Tryd.prog 26 #[.pointer (some ⟨g,0,none⟩),.agg #[.int .i64 33,.int .i64 3,.int .i64 0,.int .i32 0,.int .i64 0],.int .i32 word,M,.int .i64 from_] w fun e w' => e = .returned (.agg #[.int .i64 0,.int .i64 0,.int .u32 0]) ∧ CW w g (cells.set 3 (.int .i32 m)) w' := by
  obtain ⟨y,hy,htr⟩ := trunc_rep hp (by omega)
  have hne : (FloatKind.f64.format.order p y != some .eq) = false := by
    have e : FloatKind.f64.format.order p y = some (compare m m) := hp.order hy
    rw [e,show compare m m = .eq from Int.compare_eq_eq.2 rfl]; rfl
  exact o_zre word from_ M p q y m w g cells hT htg hB hz hr (rep_ge hp m0) (rep_le hp m1) hne (rep_cv hp m0 m1) (Lib.hid htr)
theorem zmul_rep (word from_ : Int) (M : Value) (p q : Nat) (a b : Int) (w : World) (g : Nat) (cells : List Value) (hT : TabIs 0 w) (htg : 0 ≠ g) (hB : Blk w g 119 cells) (hz : cells[8]? = some (.complex .f64 p q)) (hp : Rep p a) (hq : Rep q b)
    (h1 : (a * a).natAbs < 2 ^ 53) (h2 : (b * b).natAbs < 2 ^ 53) (h3 : (a * b).natAbs < 2 ^ 53) (h4 : (a * a - b * b).natAbs < 2 ^ 53) (h5 : (a * b + b * a).natAbs < 2 ^ 53) :
    Calls Tryd.prog 26 #[.pointer (some ⟨g,0,none⟩),.agg #[.int .i64 32,.int .i64 0,.int .i64 0,.int .i32 0,.int .i64 0],.int .i32 word,M,.int .i64 from_] w fun e w' => e = .returned (.agg #[.int .i64 0,.int .i64 0,.int .u32 0]) ∧ ∃ re im,Rep re (a * a - b * b) ∧ Rep im (a * b + b * a) ∧ CW w g (cells.set 8 (.complex .f64 re im)) w' := by
  have key : ∀ {op : BinOp} {x y r z : Nat} {c : Int},FR op x y r → floatBits op .f64 x y = some z → Rep z c → Rep r c := by
    intro op x y r z c h hz hr
    rcases h with h | ⟨h,_⟩
    · rw [hz] at h; cases h; exact hr
    · rw [hz] at h; cases h
  refine (o_zmul word from_ M p q w g cells hT htg hB hz).mono ?_
  rintro e w' ⟨rfl,ps,qt,re,pt,qs,im,f1,f2,f3,f4,f5,f6,h⟩
  obtain ⟨z1,e1,r1⟩ := hp.mul hp h1
  have r1 := key f1 e1 r1
  obtain ⟨z2,e2,r2⟩ := hq.mul hq h2
  have r2 := key f2 e2 r2
  obtain ⟨z3,e3,r3⟩ := r1.sub r2 h4
  have r3 := key f3 e3 r3
  obtain ⟨z4,e4,r4⟩ := hp.mul hq h3
  have r4 := key f4 e4 r4
  obtain ⟨z5,e5,r5⟩ := hq.mul hp (by rw [Int.mul_comm]; exact h3)
  have r5 := key f5 e5 r5
  obtain ⟨z6,e6,r6⟩ := r4.add r5 h5
  have r6 := key f6 e6 r6
  exact ⟨rfl,re,im,r3,r6,h⟩
theorem fresh_any (A : Option Addr) (n c : Nat) (cs : List Value) (w : World) (hs : Sl w w.heap.size 1 A n cs) (h1 : ∀ u ∈ cs,u.oneCell' = true) (hn : n ≤ 4096) (hnil : A = none → n = 0 ∧ c = 0) :
    Calls Tryd.prog 24 #[.slice A n c] w fun e w' => ∃ g cells,e = .returned (.tuple #[.pointer (some ⟨g,0,none⟩),.bool true]) ∧ w.heap.size ≤ g ∧ Blk w' g 119 cells ∧ RG cells ∧ Below w.heap.size w w' := by
  have hne : ∀ g w,(binOp BinOp.neq 50 (.pointer (some ⟨g,0,none⟩)) (.pointer none)).run Tryd.prog w = .ok (.bool true) w := by intro g w; kernel_rfl
  go_enter Tryd.func24,Tryd.ntmps24
  go_wp2_with (first
    | (go_at_call 33; refine (new_any A n c cs w hs h1 hn hnil).mono ?_; rintro e w1 ⟨g,A1,c1,rfl,hg,hB,_,_,hb1⟩)
    | fail)
  refine bodyPost_ret (v := .tuple #[.pointer (some ⟨g,0,none⟩),.bool true]) (by simp [results,Tryd.results24,go_sem]) rfl ⟨g,_,rfl,hg,hB,cells0_rg _,hb1⟩
def InsAt (b o : Nat) (i : Int × Int × Int × Int × Int) (w : World) : Prop :=
  w.cell? ⟨b,o,none⟩ = some (.int .i64 i.1) ∧ w.cell? ⟨b,o + 1,none⟩ = some (.int .i64 i.2.1) ∧ w.cell? ⟨b,o + 2,none⟩ = some (.int .i64 i.2.2.1) ∧ w.cell? ⟨b,o + 3,none⟩ = some (.int .i32 i.2.2.2.1) ∧ w.cell? ⟨b,o + 4,none⟩ = some (.int .i64 i.2.2.2.2)
theorem InsAt.keep {b o : Nat} {i : Int × Int × Int × Int × Int} {w w' : World} (h : InsAt b o i w) (hk : ∀ j,w'.cell? ⟨b,j,none⟩ = w.cell? ⟨b,j,none⟩) : InsAt b o i w' :=
  ⟨(hk _).trans h.1,(hk _).trans h.2.1,(hk _).trans h.2.2.1,(hk _).trans h.2.2.2.1,(hk _).trans h.2.2.2.2⟩
def insV (i : Int × Int × Int × Int × Int) : Value := .agg #[.int .i64 i.1,.int .i64 i.2.1,.int .i64 i.2.2.1,.int .i32 i.2.2.2.1,.int .i64 i.2.2.2.2]
def Goes (i : Int × Int × Int × Int × Int) (P P' : List Value → Prop) : Prop :=
  ∀ (w : World) (g : Nat) (cells : List Value),TabIs 0 w → 0 ≠ g → Blk w g 119 cells → P cells →
    ∀ b,Calls Tryd.prog 26 #[.pointer (some ⟨g,0,none⟩),insV i,.int .i32 11,.slice b 5 5,.int .i64 16] w fun e w' => e = .returned (.agg #[.int .i64 0,.int .i64 0,.int .u32 0]) ∧ ∃ cells',CW w g cells' w' ∧ P' cells'
set_option maxRecDepth 100000 in
set_option maxHeartbeats 4000000 in
theorem does_any (a : Nat) (want : Int) (b N c : Nat) (I : Nat → Int × Int × Int × Int × Int) (St : Nat → List Value → Prop) (w : World) (hT : TabIs 0 w) (hb : b < w.heap.size) (hI : ∀ k,k < N → InsAt b (k * 5) (I k) w) (hN : N ≤ 10) (hc : N ≤ c) (ha : a < 8)
    (h0 : ∀ cells,RG cells → St 0 cells) (hst : ∀ k,k < N → Goes (I k) (St k) (St (k + 1))) (hend : ∀ cells,St N cells → cells[a]? = some (.int .i32 want)) :
    Calls Tryd.prog 40 #[.int .i64 a,.int .i32 want,.slice (some ⟨b,0,none⟩) N c] w fun e w' => e = .returned (.bool true) ∧ Below w.heap.size w w' := by
  have hTlt := hT.lt
  have HI := Lib.hid hI
  have HS := Lib.hid hst
  have H0 := Lib.hid h0
  have HE := Lib.hid hend
  clear hI hst h0 hend
  have s2 : Sl (w.alloc (.cells #[.int .i32 7,.int .i32 (-9)] 21)) (w.alloc (.cells #[.int .i32 7,.int .i32 (-9)] 21)).heap.size 1 (some ⟨w.heap.size,0,none⟩) 2 [.int .i32 7,.int .i32 (-9)] := (sl_new w [.int .i32 7,.int .i32 (-9)] 1 2 rfl 21).more (by simp)
  go_enter Tryd.func40,Tryd.ntmps40
  go_wp2_with (first
    | (go_at_call 24; refine (fresh_any _ 2 2 _ _ s2 (by intro u hu; simp at hu; rcases hu with rfl | rfl <;> rfl) (by omega) (by intro h; cases h)).mono ?_; rintro e w1 ⟨g,cells,rfl,hg,hB,hr,hb1⟩)
    | fail)
  rw [World.size_alloc] at hg
  have hB1 : Below w.heap.size w w1 := ((Below.refl _ _).alloc (Nat.le_refl _) _).trans (hb1.mono (by simp))
  have htg : 0 ≠ g := by omega
  go_loopw [9] (fun i wr => ∃ (k : Nat) (cs : List Value),i = .int .i64 k ∧ k ≤ N ∧ CW w1 g cs wr ∧ St k cs) (fun i _ => N - (intOf i).toNat)
  case atStart => exact ⟨0,cells,rfl,Nat.zero_le _,CW.start hB,H0.out cells hr⟩
  case round =>
    obtain ⟨k,cs,rfl,hk,hC,hS⟩ := hrel
    by_cases hlt : k < N
    · have hlt' : (k : Int) < N := by omega
      obtain ⟨p0,p1,p2,p3,p4⟩ := (HI.out k hlt).keep (w' := wr) (fun j => (hC.bel (B := w.heap.size) (by omega)).cell (p := ⟨b,j,none⟩) hb |>.trans (hB1.cell (p := ⟨b,j,none⟩) hb))
      have HC := Lib.hid hC
      have HSt := Lib.hid hS
      clear hC hS
      have HG := HS.out k hlt
      rcases hik : I k with ⟨i0,i1,i2,i3,i4⟩
      rw [hik] at HG p0 p1 p2 p3 p4
      simp only at p0 p1 p2 p3 p4
      have HG' := Lib.hid HG
      clear HG hik
      have hbr : b < wr.heap.size := by have := HC.out.size; have := hB1.size; omega
      go_wp2_with (first
        | (go_at_call 26; refine (HG'.out _ g cs (((HC.out.tab ((hT.grow (hB1))) htg)).alloc _) htg (HC.out.blk.alloc _) HSt.out _).mono ?_; rintro e w3 ⟨rfl,cs',hC3,hS3⟩)
        | fail)
      go_roundw
      case rel => exact ⟨k + 1,cs',by go_num,by omega,(HC.out.alloc _).trans hC3,hS3⟩
      case measure => simp [intOf]; omega
    · obtain rfl : N = k := by omega
      have hx := HE.out cs hS
      go_wp2_with (first
        | (go_at_call 28; refine (reg_any a want wr g cs hC.blk ha hx).mono ?_; rintro e w3 ⟨rfl,rfl⟩)
        | fail)
      go_ret
      exact ⟨by simp,hB1.trans ((hC.bel (B := w.heap.size) (by omega)))⟩
end Go.Proofs.YthcjnkakfpmpbaaDoor
