/- Small whole numbers among the machine's complex ones; runs of instructions. Conditions: the table of operations is laid. -/
import Derived.Test.YthcjnkakfpmpbaaDoorC9
import Derived.Test.YthcjnkakfpmpbaaDoorP20
import Derived.Laws.Externs
namespace Go.Proofs.YthcjnkakfpmpbaaDoor
open Go.RowKit
set_option linter.unusedVariables false
set_option linter.unusedSimpArgs false
set_option maxRecDepth 20000

section
variable {p q : Nat} {a b : Int}
theorem mul_run (hx : Rep p a) (hy : Rep q b) (h : (a * b).natAbs < 2 ^ 53) : ∃ r, Rep r (a * b) ∧ ∀ w, (binOp BinOp.mul 146 (.float .f64 p) (.float .f64 q)).run Tryd.prog w = .ok (.float .f64 r) w := by
  obtain ⟨r, h1, h2⟩ := hx.mul hy h
  exact ⟨r, h2, fun w => run_float_arith w .mul _ .f64 p q r h1⟩
theorem add_run (hx : Rep p a) (hy : Rep q b) (h : (a + b).natAbs < 2 ^ 53) : ∃ r, Rep r (a + b) ∧ ∀ w, (binOp BinOp.add 146 (.float .f64 p) (.float .f64 q)).run Tryd.prog w = .ok (.float .f64 r) w := by
  obtain ⟨r, h1, h2⟩ := hx.add hy h
  exact ⟨r, h2, fun w => run_float_arith w .add _ .f64 p q r h1⟩
theorem sub_run (hx : Rep p a) (hy : Rep q b) (h : (a - b).natAbs < 2 ^ 53) : ∃ r, Rep r (a - b) ∧ ∀ w, (binOp BinOp.sub 146 (.float .f64 p) (.float .f64 q)).run Tryd.prog w = .ok (.float .f64 r) w := by
  obtain ⟨r, h1, h2⟩ := hx.sub hy h
  exact ⟨r, h2, fun w => run_float_arith w .sub _ .f64 p q r h1⟩
theorem rep_ofInt (n : Int) (h : n.natAbs < 2 ^ 53) : Rep (floatOfInt .f64 n) n := rep_int h
theorem rep_min : Rep 13970166044103278592 (-2147483648) := by
  have h := rep_ofInt (-2147483648) (by decide)
  rwa [show floatOfInt .f64 (-2147483648) = 13970166044103278592 from by kernel_rfl] at h
theorem rep_max : Rep 4746794007244308480 2147483647 := by
  have h := rep_ofInt 2147483647 (by decide)
  rwa [show floatOfInt .f64 2147483647 = 4746794007244308480 from by kernel_rfl] at h
theorem rep_ge (h : Rep p a) (h0 : -2147483648 ≤ a) : (FloatKind.f64.format.order p 13970166044103278592 == some .gt || FloatKind.f64.format.order p 13970166044103278592 == some .eq) = true := by
  have e : FloatKind.f64.format.order p 13970166044103278592 = some (compare a (-2147483648)) := h.order rep_min
  rw [e]
  rcases Int.lt_or_eq_of_le h0 with h1 | h1
  · rw [show compare a (-2147483648) = .gt from Int.compare_eq_gt.2 h1]; rfl
  · rw [← h1]; rfl
theorem rep_le (h : Rep p a) (h0 : a ≤ 2147483647) : (FloatKind.f64.format.order p 4746794007244308480 == some .lt || FloatKind.f64.format.order p 4746794007244308480 == some .eq) = true := by
  have e : FloatKind.f64.format.order p 4746794007244308480 = some (compare a 2147483647) := h.order rep_max
  rw [e]
  rcases Int.lt_or_eq_of_le h0 with h1 | h1
  · rw [show compare a 2147483647 = .lt from Int.compare_eq_lt.2 h1]; rfl
  · rw [h1]; rfl
theorem rep_cv (h : Rep p a) (h0 : -2147483648 ≤ a) (h1 : a ≤ 2147483647) : ∀ w, (convert 146 21 (.float .f64 p)).run Tryd.prog w = .ok (.int .i32 a) w := fun w =>
  run_convert_float_int w _ _ .f64 .i32 p a (by kernel_rfl) Tryd.underlying21 (by
    unfold floatToIntVal
    rw [h.toInt]
    simp [IntKind.min, IntKind.max, IntKind.bits, IntKind.signed, h0, h1])
theorem arch_run {p m : Nat} {s : Bool} {e : Int} (h : FloatKind.f64.decode p = .number s m e) : Extern.MathFloor.toIntegral "math.archTrunc" .zero #[.float .f64 p] = pure (.float .f64 (FloatKind.f64.encode ((Ieee.Datum.number s m e).integral .zero))) := by
  conv => lhs; whnf
  rw [h]
/-- a whole number, cut, is itself -/
theorem trunc_rep (h : Rep p a) (hn : a.natAbs < 2 ^ 53) : ∃ y, Rep y a ∧ ∀ W, Calls Tryd.prog 85 #[.float .f64 p] W fun e w' => e = .returned (.float .f64 y) ∧ W = w' := by
  obtain ⟨s, m, e, h1, h2⟩ := h
  obtain ⟨y, hy⟩ : ∃ y, y = FloatKind.f64.encode ((Ieee.Datum.number s m e).integral .zero) := ⟨_, rfl⟩
  have hrep : Rep y a := by
    rw [hy, h2.integral]
    refine rep_write (s := s) (m := a.natAbs) (e := 0) ⟨0, by omega, ?_⟩ hn
    by_cases h0 : a = 0
    · subst h0; simp
    · simpa using h2.sign h0
  refine ⟨y, hrep, fun W => ?_⟩
  have hc : ∀ w, (callFunc 91 #[.float .f64 p]).run Tryd.prog w = .ok (.value (.float .f64 y)) w := fun w => by
    rw [run_callFunc_extern (e := Extern.MathFloor.toIntegral "math.archTrunc" .zero) Tryd.func91 (by kernel_rfl) (by kernel_rfl) (by kernel_rfl) (by kernel_rfl)]
    rw [arch_run h1, hy]
    rfl
  clear hy hrep h1 h2
  go_enter Tryd.func85, Tryd.ntmps85
  go_wp2_with fail
  go_ret
  exact ⟨rfl, rfl⟩
end
/-- zre of a small whole number -/
theorem zre_rep (word from_ : Int) (M : Value) (p q : Nat) (m : Int) (w : World) (g : Nat) (cells : List Value) (hT : TabIs 0 w) (htg : 0 ≠ g) (hB : Blk w g 119 cells) (hz : cells[8]? = some (.complex .f64 p q)) (hr : RG cells) (hp : Rep p m) (m0 : -2147483648 ≤ m) (m1 : m ≤ 2147483647) :
    Calls Tryd.prog 26 #[.pointer (some ⟨g, 0, none⟩), .agg #[.int .i64 33, .int .i64 3, .int .i64 0, .int .i32 0, .int .i64 0], .int .i32 word, M, .int .i64 from_] w fun e w' => e = .returned (.agg #[.int .i64 0, .int .i64 0, .int .u32 0]) ∧ CW w g (cells.set 3 (.int .i32 m)) w' := by
  obtain ⟨y, hy, htr⟩ := trunc_rep hp (by omega)
  have hne : (FloatKind.f64.format.order p y != some .eq) = false := by
    have e : FloatKind.f64.format.order p y = some (compare m m) := hp.order hy
    rw [e, show compare m m = .eq from Int.compare_eq_eq.2 rfl]; rfl
  exact o_zre word from_ M p q y m w g cells hT htg hB hz hr (rep_ge hp m0) (rep_le hp m1) hne (rep_cv hp m0 m1) (Lib.hid htr)
/-- zmul of small whole numbers: z0 by itself -/
theorem zmul_rep (word from_ : Int) (M : Value) (p q : Nat) (a b : Int) (w : World) (g : Nat) (cells : List Value) (hT : TabIs 0 w) (htg : 0 ≠ g) (hB : Blk w g 119 cells) (hz : cells[8]? = some (.complex .f64 p q)) (hp : Rep p a) (hq : Rep q b)
    (h1 : (a * a).natAbs < 2 ^ 53) (h2 : (b * b).natAbs < 2 ^ 53) (h3 : (a * b).natAbs < 2 ^ 53) (h4 : (a * a - b * b).natAbs < 2 ^ 53) (h5 : (a * b + b * a).natAbs < 2 ^ 53) :
    Calls Tryd.prog 26 #[.pointer (some ⟨g, 0, none⟩), .agg #[.int .i64 32, .int .i64 0, .int .i64 0, .int .i32 0, .int .i64 0], .int .i32 word, M, .int .i64 from_] w fun e w' => e = .returned (.agg #[.int .i64 0, .int .i64 0, .int .u32 0]) ∧ ∃ re im, Rep re (a * a - b * b) ∧ Rep im (a * b + b * a) ∧ CW w g (cells.set 8 (.complex .f64 re im)) w' := by
  obtain ⟨ps, r1, e1⟩ := mul_run hp hp h1
  obtain ⟨qt, r2, e2⟩ := mul_run hq hq h2
  obtain ⟨re, r3, e3⟩ := sub_run r1 r2 h4
  obtain ⟨pt, r4, e4⟩ := mul_run hp hq h3
  obtain ⟨qs, r5, e5⟩ := mul_run hq hp (by rw [Int.mul_comm]; exact h3)
  obtain ⟨im, r6, e6⟩ := add_run r4 r5 h5
  exact (o_zmul word from_ M p q ps qt pt qs re im w g cells hT htg hB hz e1 e2 e3 e4 e5 e6).mono fun e w' h => ⟨h.1, re, im, r3, r6, h.2⟩

/-- a machine with some input -/
theorem fresh_any (A : Option Addr) (n c : Nat) (cs : List Value) (w : World) (hs : Sl w w.heap.size 1 A n cs) (h1 : ∀ u ∈ cs, u.oneCell' = true) (hn : n ≤ 4096) (hnil : A = none → n = 0 ∧ c = 0) :
    Calls Tryd.prog 24 #[.slice A n c] w fun e w' => ∃ g cells, e = .returned (.tuple #[.pointer (some ⟨g, 0, none⟩), .bool true]) ∧ w.heap.size ≤ g ∧ Blk w' g 119 cells ∧ RG cells ∧ Below w.heap.size w w' := by
  have hne : ∀ g w, (binOp BinOp.neq 50 (.pointer (some ⟨g, 0, none⟩)) (.pointer none)).run Tryd.prog w = .ok (.bool true) w := by intro g w; kernel_rfl
  go_enter Tryd.func24, Tryd.ntmps24
  go_wp2_with (first
    | (go_at_call 33; refine (new_any A n c cs w hs h1 hn hnil).mono ?_; rintro e w1 ⟨g, A1, c1, rfl, hg, hB, _, _, hb1⟩)
    | fail)
  refine bodyPost_ret (v := .tuple #[.pointer (some ⟨g, 0, none⟩), .bool true]) (by simp [results, Tryd.results24, go_sem]) rfl ⟨g, _, rfl, hg, hB, cells0_rg _, hb1⟩

/-- an instruction lies there -/
def InsAt (b o : Nat) (i : Int × Int × Int × Int × Int) (w : World) : Prop :=
  w.cell? ⟨b, o, none⟩ = some (.int .i64 i.1) ∧ w.cell? ⟨b, o + 1, none⟩ = some (.int .i64 i.2.1) ∧ w.cell? ⟨b, o + 2, none⟩ = some (.int .i64 i.2.2.1) ∧ w.cell? ⟨b, o + 3, none⟩ = some (.int .i32 i.2.2.2.1) ∧ w.cell? ⟨b, o + 4, none⟩ = some (.int .i64 i.2.2.2.2)
theorem InsAt.keep {b o : Nat} {i : Int × Int × Int × Int × Int} {w w' : World} (h : InsAt b o i w) (hk : ∀ j, w'.cell? ⟨b, j, none⟩ = w.cell? ⟨b, j, none⟩) : InsAt b o i w' :=
  ⟨(hk _).trans h.1, (hk _).trans h.2.1, (hk _).trans h.2.2.1, (hk _).trans h.2.2.2.1, (hk _).trans h.2.2.2.2⟩
def insV (i : Int × Int × Int × Int × Int) : Value := .agg #[.int .i64 i.1, .int .i64 i.2.1, .int .i64 i.2.2.1, .int .i32 i.2.2.2.1, .int .i64 i.2.2.2.2]
/-- one instruction of a run: from one state of the machine to the next -/
def Goes (i : Int × Int × Int × Int × Int) (P P' : List Value → Prop) : Prop :=
  ∀ (w : World) (g : Nat) (cells : List Value), TabIs 0 w → 0 ≠ g → Blk w g 119 cells → P cells →
    ∀ b, Calls Tryd.prog 26 #[.pointer (some ⟨g, 0, none⟩), insV i, .int .i32 11, .slice b 5 5, .int .i64 16] w fun e w' => e = .returned (.agg #[.int .i64 0, .int .i64 0, .int .u32 0]) ∧ ∃ cells', CW w g cells' w' ∧ P' cells'

set_option maxRecDepth 100000 in
set_option maxHeartbeats 4000000 in
theorem does_any (a : Nat) (want : Int) (b N c : Nat) (I : Nat → Int × Int × Int × Int × Int) (St : Nat → List Value → Prop) (w : World) (hT : TabIs 0 w) (hb : b < w.heap.size) (hI : ∀ k, k < N → InsAt b (k * 5) (I k) w) (hN : N ≤ 10) (hc : N ≤ c) (ha : a < 8)
    (h0 : ∀ cells, RG cells → St 0 cells) (hst : ∀ k, k < N → Goes (I k) (St k) (St (k + 1))) (hend : ∀ cells, St N cells → cells[a]? = some (.int .i32 want)) :
    Calls Tryd.prog 40 #[.int .i64 a, .int .i32 want, .slice (some ⟨b, 0, none⟩) N c] w fun e w' => e = .returned (.bool true) ∧ Below w.heap.size w w' := by
  have hTlt := hT.lt
  have HI := Lib.hid hI
  have HS := Lib.hid hst
  have H0 := Lib.hid h0
  have HE := Lib.hid hend
  clear hI hst h0 hend
  have s2 : Sl (w.alloc (.cells #[.int .i32 7, .int .i32 (-9)] 21)) (w.alloc (.cells #[.int .i32 7, .int .i32 (-9)] 21)).heap.size 1 (some ⟨w.heap.size, 0, none⟩) 2 [.int .i32 7, .int .i32 (-9)] := (sl_new w [.int .i32 7, .int .i32 (-9)] 1 2 rfl 21).more (by simp)
  go_enter Tryd.func40, Tryd.ntmps40
  go_wp2_with (first
    | (go_at_call 24; refine (fresh_any _ 2 2 _ _ s2 (by intro u hu; simp at hu; rcases hu with rfl | rfl <;> rfl) (by omega) (by intro h; cases h)).mono ?_; rintro e w1 ⟨g, cells, rfl, hg, hB, hr, hb1⟩)
    | fail)
  rw [World.size_alloc] at hg
  have hB1 : Below w.heap.size w w1 := ((Below.refl _ _).alloc (Nat.le_refl _) _).trans (hb1.mono (by simp))
  have htg : 0 ≠ g := by omega
  go_loopw [9] (fun i wr => ∃ (k : Nat) (cs : List Value), i = .int .i64 k ∧ k ≤ N ∧ CW w1 g cs wr ∧ St k cs) (fun i _ => N - (intOf i).toNat)
  case atStart => exact ⟨0, cells, rfl, Nat.zero_le _, CW.start hB, H0.out cells hr⟩
  case round =>
    obtain ⟨k, cs, rfl, hk, hC, hS⟩ := hrel
    by_cases hlt : k < N
    · have hlt' : (k : Int) < N := by omega
      obtain ⟨p0, p1, p2, p3, p4⟩ := (HI.out k hlt).keep (w' := wr) (fun j => (hC.bel (B := w.heap.size) (by omega)).cell (p := ⟨b, j, none⟩) hb |>.trans (hB1.cell (p := ⟨b, j, none⟩) hb))
      have HC := Lib.hid hC
      have HSt := Lib.hid hS
      clear hC hS
      have HG := HS.out k hlt
      rcases hik : I k with ⟨i0, i1, i2, i3, i4⟩
      rw [hik] at HG p0 p1 p2 p3 p4
      simp only at p0 p1 p2 p3 p4
      have HG' := Lib.hid HG
      clear HG hik
      have hbr : b < wr.heap.size := by have := HC.out.size; have := hB1.size; omega
      go_wp2_with (first
        | (go_at_call 26; refine (HG'.out _ g cs (((HC.out.tab ((hT.grow (hB1))) htg)).alloc _) htg (HC.out.blk.alloc _) HSt.out _).mono ?_; rintro e w3 ⟨rfl, cs', hC3, hS3⟩)
        | fail)
      go_roundw
      case rel => exact ⟨k + 1, cs', by go_num, by omega, (HC.out.alloc _).trans hC3, hS3⟩
      case measure => simp [intOf]; omega
    · obtain rfl : N = k := by omega
      have hx := HE.out cs hS
      go_wp2_with (first
        | (go_at_call 28; refine (reg_any a want wr g cs hC.blk ha hx).mono ?_; rintro e w3 ⟨rfl, rfl⟩)
        | fail)
      go_ret
      exact ⟨by simp, hB1.trans ((hC.bel (B := w.heap.size) (by omega)))⟩
end Go.Proofs.YthcjnkakfpmpbaaDoor
