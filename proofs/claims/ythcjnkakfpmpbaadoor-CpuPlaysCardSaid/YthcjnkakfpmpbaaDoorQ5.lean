import Derived.Test.YthcjnkakfpmpbaaDoorQ4
import Derived.Test.YthcjnkakfpmpbaaDoorQ3
import Derived.Test.YthcjnkakfpmpbaaDoorQ1
import Derived.Laws.BitsAllLaws
import Derived.Laws.IdiomStrings
import Derived.Laws.BytesArg
namespace Go.Proofs.YthcjnkakfpmpbaaDoor
set_option linter.unusedVariables false
set_option linter.unusedSimpArgs false
def isNaN (p : Nat) : Prop := ∃ s t,Ieee.double.read p = .nan s t
def FR (op : BinOp) (p q r : Nat) : Prop := floatBits op .f64 p q = some r ∨ (floatBits op .f64 p q = none ∧ isNaN r)
def ZR (p p' : Nat) : Prop := p = p' ∨ (isNaN p ∧ isNaN p')
theorem ZR.refl (p : Nat) : ZR p p := .inl rfl
theorem f64_fmt : FloatKind.f64.format = Ieee.double := rfl
theorem nan_none {op : BinOp} (hop : op = .add ∨ op = .sub ∨ op = .mul) {p q : Nat} (h : isNaN p ∨ isNaN q) : floatBits op .f64 p q = none := by
  have h1 : ∀ {d e : Ieee.Datum},(∃ s t,d = .nan s t) ∨ (∃ s t,e = .nan s t) → Ieee.Datum.sum d e = none := by
    rintro d e (⟨s,t,rfl⟩ | ⟨s,t,rfl⟩)
    · cases e <;> rfl
    · cases d <;> rfl
  have h2 : ∀ {d e : Ieee.Datum},(∃ s t,d = .nan s t) ∨ (∃ s t,e = .nan s t) → Ieee.Datum.product d e = none := by
    rintro d e (⟨s,t,rfl⟩ | ⟨s,t,rfl⟩)
    · cases e <;> rfl
    · cases d <;> rfl
  have h3 : ∀ {e : Ieee.Datum},(∃ s t,e = .nan s t) → ∃ s t,e.opposite = .nan s t := by
    rintro e ⟨s,t,rfl⟩
    exact ⟨_,_,rfl⟩
  rcases hop with rfl | rfl | rfl
  · show (((Ieee.double.read p).sum (Ieee.double.read q)).map Ieee.double.write) = none
    rw [h1 h]; rfl
  · show (((Ieee.double.read p).sum (Ieee.double.read q).opposite).map Ieee.double.write) = none
    rw [h1 (h.imp id h3)]; rfl
  · show (((Ieee.double.read p).product (Ieee.double.read q)).map Ieee.double.write) = none
    rw [h2 h]; rfl
theorem FR.zr {op : BinOp} (hop : op = .add ∨ op = .sub ∨ op = .mul) {p q r p' q' r' : Nat} (h : FR op p q r) (h' : FR op p' q' r') (h1 : ZR p p') (h2 : ZR q q') : ZR r r' := by
  have key : ∀ {x y z : Nat},FR op x y z → (isNaN x ∨ isNaN y) → isNaN z := by
    intro x y z hf hn
    rcases hf with hf | hf
    · rw [nan_none hop hn] at hf; cases hf
    · exact hf.2
  rcases h1 with rfl | ⟨h1,h1'⟩
  · rcases h2 with rfl | ⟨h2,h2'⟩
    · rcases h with h | h
      · rcases h' with h' | h'
        · rw [h] at h'; cases h'; exact .inl rfl
        · rw [h] at h'; cases h'.1
      · rcases h' with h' | h'
        · rw [h.1] at h'; cases h'
        · exact .inr ⟨h.2,h'.2⟩
    · exact .inr ⟨key h (.inr h2),key h' (.inr h2')⟩
  · exact .inr ⟨key h (.inl h1),key h' (.inl h1')⟩
theorem nan_of_rung (s : Nat) (k : Nat) (hs : s < 2) (hk : k < 4503599627370495) : isNaN (s * 9223372036854775808 + 9218868437227405312 + 1 + k) := by
  have hb : Ieee.double.binade = 4503599627370496 := by decide
  have hw : Ieee.double.signWeight = 9223372036854775808 := by decide
  have hi : Ieee.double.infRung = 9218868437227405312 := by decide
  unfold isNaN Ieee.Format.read
  rw [hb,hw,hi]
  have e : (s * 9223372036854775808 + 9218868437227405312 + 1 + k) % 9223372036854775808 = 9218868437227405312 + 1 + k := by omega
  simp only [e]
  rw [if_neg (by omega),if_neg (by omega),if_neg (by omega)]
  exact ⟨_,_,rfl⟩
def fres (op : BinOp) (p q : Nat) (w : World) : Nat :=
  match floatBits op .f64 p q with
  | some r => r
  | none => Question.cut (.nanBits .f64 p q) (w.tape w.drawn (.nanBits .f64 p q))
def fwld (op : BinOp) (p q : Nat) (w : World) : World :=
  match floatBits op .f64 p q with
  | some _ => w
  | none => w.drew
theorem fres_FR (op : BinOp) (p q : Nat) (w : World) : FR op p q (fres op p q w) := by
  unfold FR fres
  cases h : floatBits op .f64 p q with
  | some r => exact .inl rfl
  | none =>
    refine .inr ⟨rfl,?_⟩
    exact nan_of_rung _ _ (Nat.mod_lt _ (by decide)) (Nat.mod_lt _ (by decide))
theorem fwld_drewN (op : BinOp) (p q : Nat) (w : World) : ∃ k,fwld op p q w = w.drewN k := by
  unfold fwld
  split
  · exact ⟨0,rfl⟩
  · exact ⟨1,rfl⟩
theorem run_fop {P : Program} (w : World) (op : BinOp) (hop : op = .add ∨ op = .sub ∨ op = .mul) (t : TypeId) (p q : Nat) :
    (binOp op t (.float .f64 p) (.float .f64 q)).run P w = .ok (.float .f64 (fres op p q w)) (fwld op p q w) := by
  unfold fres fwld
  cases h : floatBits op .f64 p q with
  | some r => exact run_float_arith w op t .f64 p q r h
  | none =>
    unfold floatBits at h
    rcases hop with rfl | rfl | rfl <;> simp only at h <;> simp [binOp,Op.floatArith,h,Question.forced]
def geMin (p : Nat) : Bool := FloatKind.f64.format.order p 13970166044103278592 == some .gt || FloatKind.f64.format.order p 13970166044103278592 == some .eq
def leMax (p : Nat) : Bool := FloatKind.f64.format.order p 4746794007244308480 == some .lt || FloatKind.f64.format.order p 4746794007244308480 == some .eq
theorem cut_zero (s : Bool) (n d : Nat) : Ieee.Toward.zero.cut s n d = n / 2 ^ d := by
  unfold Ieee.Toward.cut
  simp only [Bool.toNat_false,Nat.add_zero,Nat.shiftLeft_eq,Nat.one_mul]
  rcases Nat.le_total d (n.log2 + 2) with h | h
  · rw [Nat.min_eq_left h]
  · rw [Nat.min_eq_right h]
    have h1 : n < 2 ^ (n.log2 + 1) := Nat.lt_log2_self
    have h2 : 2 ^ (n.log2 + 1) ≤ 2 ^ (n.log2 + 2) := Nat.pow_le_pow_right (by decide) (by omega)
    have h3 : 2 ^ (n.log2 + 1) ≤ 2 ^ d := Nat.pow_le_pow_right (by decide) (by omega)
    rw [Nat.div_eq_of_lt (by omega),Nat.div_eq_of_lt (by omega)]
theorem cut_bound (m : Nat) (e b : Int) (C : Nat) (hb : b ≤ e) (hb0 : b ≤ 0) (h : m * 2 ^ (e - b).toNat ≤ C * 2 ^ (-b).toNat) : (m * 2 ^ e.toNat) / 2 ^ (-e).toNat ≤ C := by
  have h1 : (m * 2 ^ e.toNat) / 2 ^ (-e).toNat * 2 ^ (-e).toNat ≤ m * 2 ^ e.toNat := Nat.div_mul_le_self _ _
  have h2 := Nat.mul_le_mul_right (2 ^ ((-b).toNat - (-e).toNat)) h1
  rw [Nat.mul_assoc,← Nat.pow_add,Nat.mul_assoc,← Nat.pow_add] at h2
  rw [show (-e).toNat + ((-b).toNat - (-e).toNat) = (-b).toNat by omega,show e.toNat + ((-b).toNat - (-e).toNat) = (e - b).toNat by omega] at h2
  exact Nat.le_of_mul_le_mul_right (Nat.le_trans h2 h) (Nat.pow_pos (by decide))
theorem read_min : Ieee.double.read 13970166044103278592 = .number true 4503599627370496 (-21) := by kernel_rfl
theorem read_max : Ieee.double.read 4746794007244308480 = .number false 9007199250546688 (-22) := by kernel_rfl
theorem within {p : Nat} (h1 : geMin p = true) (h2 : leMax p = true) :
    ∃ s m e n,Ieee.double.read p = .number s m e ∧ (Ieee.Datum.number s m e).integral .zero = .number s n.natAbs 0 ∧ IsN s n.natAbs 0 n ∧ -2147483648 ≤ n ∧ n ≤ 2147483647 := by
  unfold geMin at h1
  unfold leMax at h2
  rw [f64_fmt] at h1 h2
  unfold Ieee.Format.order at h1 h2
  rw [read_min] at h1
  rw [read_max] at h2
  rcases hr : Ieee.double.read p with ⟨s,m,e⟩ | s | ⟨s,t⟩
  · rw [hr] at h1 h2
    have hint : (Ieee.Datum.number s m e).integral .zero = .number s ((m * 2 ^ e.toNat) / 2 ^ (-e).toNat) 0 := by
      show Ieee.Datum.number s (Ieee.Toward.zero.cut s (m <<< e.toNat) (-e).toNat) 0 = _
      rw [cut_zero,Nat.shiftLeft_eq]
    unfold Ieee.Datum.order at h1 h2
    simp only at h1 h2
    have hs : s = true → (m * 2 ^ e.toNat) / 2 ^ (-e).toNat ≤ 2147483648 := by
      rintro rfl
      have hge : Ieee.signed true 4503599627370496 (-21 - min e (-21)).toNat ≤ Ieee.signed true m (e - min e (-21)).toNat := by
        rcases Int.lt_or_le (Ieee.signed true m (e - min e (-21)).toNat) (Ieee.signed true 4503599627370496 (-21 - min e (-21)).toNat) with hl | hl
        · rw [Int.compare_eq_lt.2 hl] at h1
          cases h1
        · exact hl
      refine cut_bound m e (min e (-21)) 2147483648 (by omega) (by omega) ?_
      unfold Ieee.signed at hge
      simp only [if_true,Nat.shiftLeft_eq] at hge
      have : m * 2 ^ (e - min e (-21)).toNat ≤ 4503599627370496 * 2 ^ (-21 - min e (-21)).toNat := by omega
      refine Nat.le_trans this (Nat.le_of_eq ?_)
      rw [show (-(min e (-21))).toNat = 21 + (-21 - min e (-21)).toNat by omega,Nat.pow_add,← Nat.mul_assoc]
    have hn : s = false → (m * 2 ^ e.toNat) / 2 ^ (-e).toNat ≤ 2147483647 := by
      rintro rfl
      have hge : Ieee.signed false m (e - min e (-22)).toNat ≤ Ieee.signed false 9007199250546688 (-22 - min e (-22)).toNat := by
        rcases Int.lt_or_le (Ieee.signed false 9007199250546688 (-22 - min e (-22)).toNat) (Ieee.signed false m (e - min e (-22)).toNat) with hl | hl
        · rw [Int.compare_eq_gt.2 hl] at h2
          cases h2
        · exact hl
      refine cut_bound m e (min e (-22)) 2147483647 (by omega) (by omega) ?_
      unfold Ieee.signed at hge
      simp only [Bool.false_eq_true,if_false,Nat.shiftLeft_eq] at hge
      have : m * 2 ^ (e - min e (-22)).toNat ≤ 9007199250546688 * 2 ^ (-22 - min e (-22)).toNat := by omega
      refine Nat.le_trans this (Nat.le_of_eq ?_)
      rw [show (-(min e (-22))).toNat = 22 + (-22 - min e (-22)).toNat by omega,Nat.pow_add,← Nat.mul_assoc]
    obtain ⟨q,hq⟩ : ∃ q,q = (m * 2 ^ e.toNat) / 2 ^ (-e).toNat := ⟨_,rfl⟩
    rw [← hq] at hint hs hn
    refine ⟨s,m,e,sg s * (q : Int),rfl,?_,?_,?_,?_⟩
    · rw [hint]
      have : (sg s * (q : Int)).natAbs = q := by cases s <;> simp [sg]
      rw [this]
    · refine ⟨0,by simp,?_⟩
      have : (sg s * (q : Int)).natAbs = q := by cases s <;> simp [sg]
      rw [this]
      simp
    · cases s
      · simp only [sg,Bool.false_eq_true,if_false]; omega
      · have := hs rfl; simp only [sg,if_true]; omega
    · cases s
      · have := hn rfl; simp only [sg,Bool.false_eq_true,if_false]; omega
      · simp only [sg,if_true]; omega
  · rw [hr] at h1 h2
    cases s <;> simp [Ieee.Datum.order] at h1 h2
  · rw [hr] at h1
    simp [Ieee.Datum.order] at h1
theorem nan_out {p : Nat} (h : isNaN p) : geMin p = false ∧ leMax p = false := by
  obtain ⟨s,t,h⟩ := h
  unfold geMin leMax
  rw [f64_fmt]
  unfold Ieee.Format.order
  rw [h]
  constructor <;> rfl
theorem ZR.geMin {p p' : Nat} (h : ZR p p') : geMin p = geMin p' := by
  rcases h with rfl | ⟨h,h'⟩
  · rfl
  · rw [(nan_out h).1,(nan_out h').1]
theorem ZR.leMax {p p' : Nat} (h : ZR p p') : leMax p = leMax p' := by
  rcases h with rfl | ⟨h,h'⟩
  · rfl
  · rw [(nan_out h).2,(nan_out h').2]
theorem ZR.eq {p p' : Nat} (h : ZR p p') (h1 : Go.Proofs.YthcjnkakfpmpbaaDoor.geMin p = true) : p = p' := by
  rcases h with h | ⟨h,_⟩
  · exact h
  · rw [(nan_out h).1] at h1; cases h1
theorem order_int {s t u : Bool} {m m' m'' : Nat} {e e' e'' n : Int} (h : IsN t m' e' n) (h' : IsN u m'' e'' n) :
    (Ieee.Datum.number s m e).order (.number t m' e') = (Ieee.Datum.number s m e).order (.number u m'' e'') := by
  have key : ∀ {t : Bool} {m' : Nat} {e' : Int},IsN t m' e' n → ∀ B : Nat,0 ≤ min e e' + B →
      (Ieee.signed s m (e - min e e').toNat < Ieee.signed t m' (e' - min e e').toNat ↔ sg s * (m : Int) * 2 ^ (e + B).toNat < n * 2 ^ B) ∧
      (Ieee.signed s m (e - min e e').toNat = Ieee.signed t m' (e' - min e e').toNat ↔ sg s * (m : Int) * 2 ^ (e + B).toNat = n * 2 ^ B) := by
    intro t m' e' hi B hB
    have h2 := hi.at_ B (by omega)
    have e1 : Ieee.signed s m (e - min e e').toNat * 2 ^ (min e e' + B).toNat = sg s * (m : Int) * 2 ^ (e + B).toNat := by
      rw [signed_eq,Int.mul_assoc,← Int.pow_add]
      congr 2
      omega
    have e2 : Ieee.signed t m' (e' - min e e').toNat * 2 ^ (min e e' + B).toNat = n * 2 ^ B := by
      rw [signed_eq,Int.mul_assoc,← Int.pow_add,← h2]
      congr 2
      omega
    have p1 := pow_pos_ (min e e' + B).toNat
    rw [← e1,← e2]
    refine ⟨⟨fun hl => Int.mul_lt_mul_of_pos_right hl p1,fun hl => Int.lt_of_mul_lt_mul_right hl (Int.le_of_lt p1)⟩,⟨fun hl => by rw [hl],fun hl => pow_cancel _ hl⟩⟩
  obtain ⟨B,hB⟩ : ∃ B : Nat,B = e.natAbs + e'.natAbs + e''.natAbs := ⟨_,rfl⟩
  obtain ⟨a1,a2⟩ := key h B (by omega)
  obtain ⟨b1,b2⟩ := key h' B (by omega)
  unfold Ieee.Datum.order
  simp only [Option.some.injEq,compare,compareOfLessAndEq,a1,a2,b1,b2]
theorem order_swap (d e : Ieee.Datum) : (d.order e = some .eq) ↔ (e.order d = some .eq) := by
  rcases d with ⟨s,m,i⟩ | s | ⟨s,t⟩ <;> rcases e with ⟨u,k,j⟩ | u | ⟨u,v⟩ <;> simp only [Ieee.Datum.order,Option.some.injEq,reduceCtorEq]
  · rw [Int.compare_eq_eq,Int.compare_eq_eq,Int.min_comm]; exact eq_comm
  · cases u <;> simp
  · cases s <;> simp
  · cases s <;> cases u <;> simp
theorem part_int {p : Nat} (h1 : geMin p = true) (h2 : leMax p = true) : ∃ n : Int,∃ b : Bool,∃ y : Nat,-2147483648 ≤ n ∧ n ≤ 2147483647 ∧ floatToIntVal .f64 p .i32 = some n ∧
    y = FloatKind.f64.encode ((FloatKind.f64.decode p).integral .zero) ∧ (∃ s m e,FloatKind.f64.decode p = .number s m e) ∧
    (FloatKind.f64.format.order p y != some .eq) = !b ∧ (FloatKind.f64.format.order (floatOfInt .f64 n) p == some .eq) = b := by
  obtain ⟨s,m,e,n,hr,hint,hN,n0,n1⟩ := within h1 h2
  have hd : FloatKind.f64.decode p = .number s m e := hr
  obtain ⟨y,hy⟩ : ∃ y,y = FloatKind.f64.encode ((FloatKind.f64.decode p).integral .zero) := ⟨_,rfl⟩
  have hrep : Rep y n := by
    rw [hy,hd,hint]
    exact rep_write hN (by omega)
  have hrf : Rep (floatOfInt .f64 n) n := rep_int (by omega)
  obtain ⟨t,m',e',r1,r2⟩ := hrep
  obtain ⟨u,m'',e'',r3,r4⟩ := hrf
  refine ⟨n,FloatKind.f64.format.order (floatOfInt .f64 n) p == some .eq,y,n0,n1,?_,hy,⟨s,m,e,hd⟩,?_,rfl⟩
  · unfold floatToIntVal
    have : (FloatKind.f64.decode p).toInt .zero = some n := by
      rw [hd]
      unfold Ieee.Datum.toInt
      rw [hint]
      simp only [Option.some.injEq]
      have hz := hN.at_ 0 (by simp)
      rw [signed_eq]
      simpa using hz
    rw [this]
    simp [IntKind.min,IntKind.max,IntKind.bits,IntKind.signed,n0,n1]
  · rw [f64_fmt]
    unfold Ieee.Format.order
    rw [r1,r3,hr,order_int r2 r4]
    have := order_swap (.number s m e) (.number u m'' e'')
    rcases hc : (Ieee.Datum.number u m'' e'').order (.number s m e) with _ | o
    · rw [hc] at this
      have h5 : (Ieee.Datum.number s m e).order (.number u m'' e'') ≠ some .eq := fun h => by have := this.1 h; cases this
      simp [h5,bne]
    · cases o
      all_goals rw [hc] at this
      · have h5 : (Ieee.Datum.number s m e).order (.number u m'' e'') ≠ some .eq := fun h => by have := this.1 h; cases this
        simp [h5,bne]
      · have h5 := this.2 rfl
        simp [h5,bne]
      · have h5 : (Ieee.Datum.number s m e).order (.number u m'' e'') ≠ some .eq := fun h => by have := this.1 h; cases this
        simp [h5,bne]
theorem neg_nan {p : Nat} (h : isNaN p) : isNaN (Op.negFloat .f64 p) := by
  obtain ⟨s,t,h⟩ := h
  have hb : Ieee.double.binade = 4503599627370496 := by decide
  have hw : Ieee.double.signWeight = 2 ^ 63 := by decide
  have hi : Ieee.double.infRung = 9218868437227405312 := by decide
  have e : Op.negFloat .f64 p % 2 ^ 63 = p % 2 ^ 63 := by
    show (p ^^^ 2 ^ 63) % 2 ^ 63 = p % 2 ^ 63
    rw [Nat.xor_mod_two_pow,Nat.mod_self,Nat.xor_zero]
  unfold Ieee.Format.read at h
  unfold isNaN Ieee.Format.read
  rw [hb,hw,hi] at h ⊢
  simp only [e] at h ⊢
  split at h
  · cases h
  split at h
  · cases h
  split at h
  · cases h
  rename_i g1 g2 g3
  rw [if_neg g1,if_neg g2,if_neg g3]
  exact ⟨_,_,rfl⟩
theorem ZR.neg {p p' : Nat} (h : ZR p p') : ZR (Op.negFloat .f64 p) (Op.negFloat .f64 p') := by
  rcases h with rfl | ⟨h,h'⟩
  · exact .inl rfl
  · exact .inr ⟨neg_nan h,neg_nan h'⟩
end Go.Proofs.YthcjnkakfpmpbaaDoor
namespace Go.Proofs.YthcjnkakfpmpbaaDoor
open Go.RowKit
def lowB (y : Int) : UInt8 := UInt8.ofNat (y % 256).toNat
def le (x : Int) : Nat → List UInt8
  | 0 => []
  | k + 1 => le x k ++ [lowB (x / 256 ^ k)]
def sameB {α : Type} [DecidableEq α] (xs ys : List α) : Bool := decide (xs = ys)
theorem sameB_yes {α : Type} [DecidableEq α] {xs ys : List α} (h : xs = ys) : sameB xs ys = true := by simp [sameB,h]
theorem sameB_no {α : Type} [DecidableEq α] {xs ys : List α} (h : xs ≠ ys) : sameB xs ys = false := by simp [sameB,h]
theorem same_step {α : Type} {xs ys : List α} {k : Nat} {x : α} (h : xs.take k = ys.take k) (hx : xs[k]? = some x) (hy : ys[k]? = some x) : xs.take (k + 1) = ys.take (k + 1) := by
  rw [List.take_add_one,List.take_add_one,h,hx,hy]
theorem same_end {α : Type} {xs ys : List α} {n : Nat} (h : xs.take n = ys.take n) (hx : xs.length = n) (hy : ys.length = n) : xs = ys := by
  rw [List.take_of_length_le (by omega),List.take_of_length_le (by omega)] at h
  exact h
theorem same_not {α : Type} {xs ys : List α} {k : Nat} {x y : α} (hx : xs[k]? = some x) (hy : ys[k]? = some y) (h : x ≠ y) : xs ≠ ys := by
  rintro rfl
  rw [hx] at hy
  exact h (Option.some.inj hy)
end Go.Proofs.YthcjnkakfpmpbaaDoor
namespace Go.Proofs.YthcjnkakfpmpbaaDoor
open Go.RowKit
def leVal : List UInt8 → Int
  | [] => 0
  | x :: r => (x.toNat : Int) + 256 * leVal r
theorem leVal_bounds (l : List UInt8) : 0 ≤ leVal l ∧ leVal l < 256 ^ l.length := by
  induction l with
  | nil => simp [leVal]
  | cons x r ih =>
    have hx : x.toNat < 256 := x.toNat_lt
    simp only [leVal,List.length_cons,Int.pow_succ]
    omega
theorem or_low (y : Int) (x : UInt8) (h0 : 0 ≤ y) (h1 : y < 16777216) : bits .or .u32 (y * 256) (x.toNat : Int) = y * 256 + (x.toNat : Int) := by
  obtain ⟨Y,rfl⟩ := Int.eq_ofNat_of_zero_le h0
  have hx : x.toNat < 2 ^ 8 := x.toNat_lt
  have e : ((Y : Int) * 256) = ((Y * 256 : Nat) : Int) := by omega
  rw [e,u32_or_nat _ _ (by omega) (by omega)]
  have := Nat.shiftLeft_add_eq_or_of_lt hx Y
  rw [Nat.shiftLeft_eq] at this
  have e2 : Y * 256 ||| x.toNat = Y * 256 + x.toNat := by rw [show (256 : Nat) = 2 ^ 8 from rfl,this]
  rw [e2]
  omega
theorem leVal_step {l : List UInt8} {a k W : Nat} {x : UInt8} (hx : l[a + k]? = some x) (hk : k < W) :
    leVal ((l.drop (a + k)).take (W - k)) = (x.toNat : Int) + 256 * leVal ((l.drop (a + (k + 1))).take (W - (k + 1))) := by
  obtain ⟨hlt,rfl⟩ := List.getElem?_eq_some_iff.1 hx
  rw [List.drop_eq_getElem_cons hlt,show W - k = (W - (k + 1)) + 1 by omega,List.take_succ_cons,leVal,Nat.add_assoc]
theorem leVal_small {l : List UInt8} {a k W : Nat} (hk : k < W) (hW : W ≤ 4) : leVal ((l.drop (a + (k + 1))).take (W - (k + 1))) < 16777216 := by
  have hb := leVal_bounds ((l.drop (a + (k + 1))).take (W - (k + 1)))
  have hl : ((l.drop (a + (k + 1))).take (W - (k + 1))).length ≤ 3 := by simp; omega
  refine Int.lt_of_lt_of_le hb.2 ?_
  generalize ((l.drop (a + (k + 1))).take (W - (k + 1))).length = m at hl
  rcases (show m = 0 ∨ m = 1 ∨ m = 2 ∨ m = 3 by omega) with h | h | h | h <;> rw [h] <;> decide
end Go.Proofs.YthcjnkakfpmpbaaDoor
