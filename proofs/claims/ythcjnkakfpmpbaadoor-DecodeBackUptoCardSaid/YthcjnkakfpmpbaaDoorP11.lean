/- Plain words: what is decoded is encoded to just the bytes that it took. Conditions: none. -/
import Derived.Test.YthcjnkakfpmpbaaDoorP10
namespace Go.Proofs.YthcjnkakfpmpbaaDoor
open Go.RowKit
set_option linter.unusedVariables false
set_option linter.unusedSimpArgs false

theorem lowB_of {y : Int} {a : UInt8} (h : y % 256 = (a.toNat : Int)) : lowB y = a := by
  apply UInt8.toNat_inj.1
  have := lowB_toNat y
  omega
theorem le_word (xs : List UInt8) (W : Nat) (hW : W = 1 ∨ W = 2 ∨ W = 4) (hl : xs.length = W) (y : Int) (hy : y % 256 ^ W = leVal xs) : le (y % 4294967296) W = xs := by
  rcases hW with rfl | rfl | rfl
  · match xs, hl with
    | [a], _ =>
      have ha := a.toNat_lt
      simp only [leVal] at hy
      simp only [le, List.nil_append, List.cons.injEq, and_true]
      apply lowB_of
      simp at hy ⊢
      omega
  · match xs, hl with
    | [a, b], _ =>
      have ha := a.toNat_lt
      have hb := b.toNat_lt
      simp only [leVal] at hy
      simp only [le, List.nil_append, List.cons_append, List.cons.injEq, and_true]
      refine ⟨lowB_of ?_, lowB_of ?_⟩ <;> simp at hy ⊢ <;> omega
  · match xs, hl with
    | [a, b, c, d], _ =>
      have ha := a.toNat_lt
      have hb := b.toNat_lt
      have hc := c.toNat_lt
      have hd := d.toNat_lt
      simp only [leVal] at hy
      simp only [le, List.nil_append, List.cons_append, List.cons.injEq, and_true]
      refine ⟨lowB_of ?_, lowB_of ?_, lowB_of ?_, lowB_of ?_⟩ <;> simp at hy ⊢ <;> omega
theorem sgn_mod (v : Int) (W : Nat) (hW : W = 1 ∨ W = 2 ∨ W = 4) : sgn v W % 256 ^ W = v % 256 ^ W := by
  rcases hW with rfl | rfl | rfl <;> simp [sgn] <;> omega
theorem leVal_mod (xs : List UInt8) : leVal xs % 256 ^ xs.length = leVal xs := by
  have := leVal_bounds xs
  exact Int.emod_eq_of_lt this.1 this.2
theorem le_told (r : List UInt8) (J W : Nat) (s : Int) (hW : W = 1 ∨ W = 2 ∨ W = 4) (h : J + W ≤ r.length) : le (toldR r J W s % 4294967296) W = (r.drop J).take W := by
  have hlg : legalB (W : Int) = true := by rcases hW with rfl | rfl | rfl <;> rfl
  have hg := getR_ok (l := r) (at_ := J) (width := W) hlg (by omega) (by omega) (by omega)
  have hl : ((r.drop J).take W).length = W := by rw [List.length_take, List.length_drop]; omega
  refine le_word _ W hW hl _ ?_
  unfold toldR
  rw [hg]
  simp only [Int.toNat_natCast]
  split
  · have := leVal_mod ((r.drop J).take W)
    rwa [hl] at this
  · rw [sgn_mod _ W hW]
    have := leVal_mod ((r.drop J).take W)
    rwa [hl] at this
theorem lowB_rb (r : List UInt8) (k : Nat) (h : k < r.length) : lowB (rb r k) = r[k] := by
  apply lowB_of
  unfold rb
  rw [List.getD_eq_getElem?_getD, List.getElem?_eq_getElem h]
  have := (r[k]).toNat_lt
  show ((r[k]).toNat : Int) % 256 = _
  omega
theorem lowB_two (r : List UInt8) (k : Nat) (h : k < r.length) : lowB (16 * (rb r k / 16) + rb r k % 16) = r[k] := by
  rw [show 16 * (rb r k / 16) + rb r k % 16 = rb r k by omega]
  exact lowB_rb r k h

theorem tail_dec {op f s : Int} {r : List UInt8} (hs : 1 ≤ s ∧ s ≤ 13) (hf : f ∈ formsOf s) (hr : sizeR s f ≤ (r.length : Int) + 1) :
    tailA s (insD op f s r).a (insD op f s r).b (insD op f s r).n ++ le ((insD op f s r).n % 4294967296) (widthE s f).toNat = r.take (sizeR s f - 1).toNat := by
  have T := fun (J W : Nat) hW h => le_told r J W s hW h
  rcases thirteen hs with rfl | rfl | rfl | rfl | rfl | rfl | rfl | rfl | rfl | rfl | rfl | rfl | rfl <;> simp [formsOf] at hf
  · simp [insD, tailA, widthE, sizeR, le]
  · subst hf
    obtain ⟨y, r', rfl⟩ : ∃ y r', r = y :: r' := by cases r with | nil => simp [sizeR] at hr | cons y r' => exact ⟨y, r', rfl⟩
    have L := lowB_rb (y :: r') 0 (by simp)
    simp only [List.getElem_cons_zero] at L
    simp [insD, tailA, widthE, sizeR, le, L]
  · subst hf
    obtain ⟨y, r', rfl⟩ : ∃ y r', r = y :: r' := by cases r with | nil => simp [sizeR] at hr | cons y r' => exact ⟨y, r', rfl⟩
    have L := lowB_rb (y :: r') 0 (by simp)
    simp only [List.getElem_cons_zero] at L
    simp [insD, tailA, widthE, sizeR, le, L]
  · subst hf
    obtain ⟨y, r', rfl⟩ : ∃ y r', r = y :: r' := by cases r with | nil => simp [sizeR] at hr | cons y r' => exact ⟨y, r', rfl⟩
    have L := lowB_two (y :: r') 0 (by simp)
    simp only [List.getElem_cons_zero] at L
    simp [insD, tailA, widthE, sizeR, le, L]
  · subst hf
    obtain ⟨y, r', rfl⟩ : ∃ y r', r = y :: r' := by cases r with | nil => simp [sizeR] at hr | cons y r' => exact ⟨y, r', rfl⟩
    have L := lowB_two (y :: r') 0 (by simp)
    simp only [List.getElem_cons_zero] at L
    simp [insD, tailA, widthE, sizeR, le, L]
  · subst hf
    obtain ⟨y, r', rfl⟩ : ∃ y r', r = y :: r' := by cases r with | nil => simp [sizeR] at hr | cons y r' => exact ⟨y, r', rfl⟩
    have L := lowB_two (y :: r') 0 (by simp)
    simp only [List.getElem_cons_zero] at L
    simp [insD, tailA, widthE, sizeR, le, L]
  · subst hf
    obtain ⟨y, z, r', rfl⟩ : ∃ y z r', r = y :: z :: r' := by match r, hr with | [], hr => simp [sizeR] at hr | [y], hr => simp [sizeR] at hr | y :: z :: r', _ => exact ⟨y, z, r', rfl⟩
    have L := lowB_rb (y :: z :: r') 0 (by simp)
    have L2 := lowB_two (y :: z :: r') 1 (by simp)
    simp only [List.getElem_cons_zero, List.getElem_cons_succ] at L L2
    simp [insD, tailA, widthE, sizeR, le, L, L2]
  · subst hf
    obtain ⟨y, r', rfl⟩ : ∃ y r', r = y :: r' := by cases r with | nil => simp [sizeR] at hr | cons y r' => exact ⟨y, r', rfl⟩
    have L := lowB_rb (y :: r') 0 (by simp)
    simp only [List.getElem_cons_zero] at L
    have t := le_told (y :: r') 1 1 8 (by decide) (by simp [sizeR] at hr ⊢; omega)
    simp only [show ((1 : Nat) : Int) = 1 from rfl, show ((1 : Nat) : Int) = 1 from rfl, List.drop_succ_cons, List.drop_zero] at t
    simp [insD, tailA, widthE, widthD, sizeR, L, t]
  · subst hf
    have t := le_told r 0 1 9 (by decide) (by simp [sizeR] at hr ⊢; omega)
    simp only [show ((0 : Nat) : Int) = 0 from rfl, show ((1 : Nat) : Int) = 1 from rfl, List.drop_zero] at t
    simp [insD, tailA, widthE, widthD, sizeR, t]
  · subst hf
    obtain ⟨y, r', rfl⟩ : ∃ y r', r = y :: r' := by cases r with | nil => simp [sizeR] at hr | cons y r' => exact ⟨y, r', rfl⟩
    have L := lowB_rb (y :: r') 0 (by simp)
    simp only [List.getElem_cons_zero] at L
    have t := le_told (y :: r') 1 4 10 (by decide) (by simp [sizeR] at hr ⊢; omega)
    simp only [show ((1 : Nat) : Int) = 1 from rfl, show ((4 : Nat) : Int) = 4 from rfl, List.drop_succ_cons, List.drop_zero] at t
    simp [insD, tailA, widthE, widthD, sizeR, L, t]
  · subst hf
    obtain ⟨y, r', rfl⟩ : ∃ y r', r = y :: r' := by cases r with | nil => simp [sizeR] at hr | cons y r' => exact ⟨y, r', rfl⟩
    have L := lowB_rb (y :: r') 0 (by simp)
    simp only [List.getElem_cons_zero] at L
    have t := le_told (y :: r') 1 2 11 (by decide) (by simp [sizeR] at hr ⊢; omega)
    simp only [show ((1 : Nat) : Int) = 1 from rfl, show ((2 : Nat) : Int) = 2 from rfl, List.drop_succ_cons, List.drop_zero] at t
    simp [insD, tailA, widthE, widthD, sizeR, L, t]
  · rcases hf with rfl | rfl | rfl
    · have t := le_told r 0 1 12 (by decide) (by simp [sizeR] at hr ⊢; omega)
      simp only [show ((0 : Nat) : Int) = 0 from rfl, show ((1 : Nat) : Int) = 1 from rfl, List.drop_zero] at t
      simp [insD, tailA, widthE, widthD, sizeR, t]
    · have t := le_told r 0 2 12 (by decide) (by simp [sizeR] at hr ⊢; omega)
      simp only [show ((0 : Nat) : Int) = 0 from rfl, show ((2 : Nat) : Int) = 2 from rfl, List.drop_zero] at t
      simp [insD, tailA, widthE, widthD, sizeR, t]
    · have t := le_told r 0 4 12 (by decide) (by simp [sizeR] at hr ⊢; omega)
      simp only [show ((0 : Nat) : Int) = 0 from rfl, show ((4 : Nat) : Int) = 4 from rfl, List.drop_zero] at t
      simp [insD, tailA, widthE, widthD, sizeR, t]
  · rcases hf with rfl | rfl | rfl
    · obtain ⟨y, r', rfl⟩ : ∃ y r', r = y :: r' := by cases r with | nil => simp [sizeR] at hr | cons y r' => exact ⟨y, r', rfl⟩
      have L := lowB_rb (y :: r') 0 (by simp)
      simp only [List.getElem_cons_zero] at L
      have t := le_told (y :: r') 1 1 13 (by decide) (by simp [sizeR] at hr ⊢; omega)
      simp only [show ((1 : Nat) : Int) = 1 from rfl, show ((1 : Nat) : Int) = 1 from rfl, List.drop_succ_cons, List.drop_zero] at t
      simp [insD, tailA, widthE, widthD, sizeR, L, t]
    · obtain ⟨y, r', rfl⟩ : ∃ y r', r = y :: r' := by cases r with | nil => simp [sizeR] at hr | cons y r' => exact ⟨y, r', rfl⟩
      have L := lowB_rb (y :: r') 0 (by simp)
      simp only [List.getElem_cons_zero] at L
      have t := le_told (y :: r') 1 2 13 (by decide) (by simp [sizeR] at hr ⊢; omega)
      simp only [show ((1 : Nat) : Int) = 1 from rfl, show ((2 : Nat) : Int) = 2 from rfl, List.drop_succ_cons, List.drop_zero] at t
      simp [insD, tailA, widthE, widthD, sizeR, L, t]
    · obtain ⟨y, r', rfl⟩ : ∃ y r', r = y :: r' := by cases r with | nil => simp [sizeR] at hr | cons y r' => exact ⟨y, r', rfl⟩
      have L := lowB_rb (y :: r') 0 (by simp)
      simp only [List.getElem_cons_zero] at L
      have t := le_told (y :: r') 1 4 13 (by decide) (by simp [sizeR] at hr ⊢; omega)
      simp only [show ((1 : Nat) : Int) = 1 from rfl, show ((4 : Nat) : Int) = 4 from rfl, List.drop_succ_cons, List.drop_zero] at t
      simp [insD, tailA, widthE, widthD, sizeR, L, t]
end Go.Proofs.YthcjnkakfpmpbaaDoor
