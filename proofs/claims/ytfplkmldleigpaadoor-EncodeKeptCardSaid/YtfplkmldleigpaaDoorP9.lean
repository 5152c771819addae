/- Plain words on encodings: unlike instructions have unlike encodings, none a beginning of the other's; how many bytes. No program in sight. No condition. -/
import Derived.Test.YtfplkmldleigpaaDoorP8
namespace Go.Proofs.YtfplkmldleigpaaDoor
open Go.RowKit

theorem lowB_inj {x y : Int} (h : lowB x = lowB y) : x % 256 = y % 256 := by
  have := congrArg (fun u : UInt8 => (u.toNat : Int)) h
  simpa only [lowB_toNat] using this
theorem le_inj {x y : Int} {k : Nat} (hk : k = 0 ∨ k = 1 ∨ k = 2 ∨ k = 4) (h : le x k = le y k) : x % 256 ^ k = y % 256 ^ k := by
  rcases hk with rfl | rfl | rfl | rfl
  · simp
  · simp only [le, List.nil_append, List.cons.injEq, and_true] at h
    have h0 := lowB_inj h
    simp at h0 ⊢
    omega
  · simp only [le, List.nil_append, List.cons_append, List.cons.injEq, and_true] at h
    have h0 := lowB_inj h.1
    have h1 := lowB_inj h.2
    simp at h0 h1 ⊢
    omega
  · simp only [le, List.nil_append, List.cons_append, List.cons.injEq, and_true] at h
    have h0 := lowB_inj h.1
    have h1 := lowB_inj h.2.1
    have h2 := lowB_inj h.2.2.1
    have h3 := lowB_inj h.2.2.2
    simp at h0 h1 h2 h3 ⊢
    omega
theorem tailA_length (s a b n a' b' n' : Int) : (tailA s a b n).length = (tailA s a' b' n').length := by
  unfold tailA
  split
  · rfl
  split
  · rfl
  split <;> rfl
theorem encR_length (op a b n f : Int) : (encR op a b n f).length = 1 + (tailA (opShape op) 0 0 0).length + (widthE (opShape op) f).toNat := by
  unfold encR
  rw [List.length_cons, List.length_append, le_length, tailA_length (opShape op) a b n 0 0 0]
  omega
/-- which first byte says which operation and form -/
def formsOf (s : Int) : List Int := if s = 12 ∨ s = 13 then [1, 2, 4] else [0]
theorem first_apart : ∀ k : Nat, k < 43 → ∀ j : Nat, j < 43 → ∀ f ∈ formsOf (opShape ((k : Int) + 1)), ∀ g ∈ formsOf (opShape ((j : Int) + 1)),
    opByte ((k : Int) + 1) + addF f = opByte ((j : Int) + 1) + addF g → k = j ∧ f = g := by decide +kernel
theorem byte_small : ∀ k : Nat, k < 43 → 0 ≤ opByte ((k : Int) + 1) ∧ opByte ((k : Int) + 1) ≤ 100 := by decide +kernel
theorem addF_small (f : Int) : 0 ≤ addF f ∧ addF f ≤ 2 := by unfold addF; split <;> (try split) <;> decide
/-- the form of a right instruction -/
theorem checkR_forms {op a b n f : Int} (h : checkR op a b n f = 0) : f ∈ formsOf (opShape op) := by
  obtain ⟨h1, h2, h3, h4⟩ := checkR_parts h
  unfold formsOf
  by_cases hs : opShape op = 12 ∨ opShape op = 13
  · rw [if_pos hs]
    unfold numB at h4
    rcases width_cases f with rfl | rfl | rfl | hf
    · simp
    · simp
    · simp
    · exfalso
      rcases hs with e | e <;> rw [e] at h4 <;> simp [fitsB_not hf] at h4
  · rw [if_neg hs]
    rw [not_or] at hs
    rw [h3 (by simp [spansB, hs.1, hs.2])]
    simp
theorem okLim_zero {x : Int} (h : okLim x 0 = true) : x = 0 := by simpa [okLim] using h
theorem append_same_len {α : Type} {a b c d : List α} (hl : a.length = c.length) (h : a ++ b = c ++ d) : a = c ∧ b = d := List.append_inj h hl

/-- the tail of the bytes says the rest -/
theorem tail_apart {s a b n a' b' n' f : Int} (hs : 1 ≤ s ∧ s ≤ 13) (hf : f ∈ formsOf s) (h2 : regB s a b n = true) (h2' : regB s a' b' n' = true) (h4 : numB s n f = true) (h4' : numB s n' f = true)
    (hn : -2147483648 ≤ n ∧ n ≤ 2147483647) (hn' : -2147483648 ≤ n' ∧ n' ≤ 2147483647)
    (h : tailA s a b n ++ le (n % 4294967296) (widthE s f).toNat = tailA s a' b' n' ++ le (n' % 4294967296) (widthE s f).toNat) : a = a' ∧ b = b' ∧ n = n' := by
  obtain ⟨ht, hl⟩ := append_same_len (tailA_length s a b n a' b' n') h
  obtain ⟨⟨ha0, ha1⟩, ⟨hb0, hb1⟩, hn7⟩ := regB_bounds h2
  obtain ⟨⟨ha0', ha1'⟩, ⟨hb0', hb1'⟩, hn7'⟩ := regB_bounds h2'
  unfold regB at h2 h2'
  simp only [Bool.and_eq_true] at h2 h2'
  obtain ⟨⟨hA, hB⟩, _⟩ := h2
  obtain ⟨⟨hA', hB'⟩, _⟩ := h2'
  have hw : (widthE s f).toNat = 0 ∨ (widthE s f).toNat = 1 ∨ (widthE s f).toNat = 2 ∨ (widthE s f).toNat = 4 := by
    rcases thirteen hs with rfl | rfl | rfl | rfl | rfl | rfl | rfl | rfl | rfl | rfl | rfl | rfl | rfl <;> simp [formsOf] at hf <;> (try rcases hf with rfl | rfl | rfl) <;> simp [widthE]
  have hlm := le_inj hw hl
  clear hl h hw
  rcases thirteen hs with rfl | rfl | rfl | rfl | rfl | rfl | rfl | rfl | rfl | rfl | rfl | rfl | rfl <;>
    simp [limA, limB, okLim, numB, tailA, widthE, formsOf] at hA hB hA' hB' h4 h4' ht hlm hf hn7 hn7'
  all_goals first
    | omega
    | (have e0 := lowB_inj ht; omega)
    | (have e0 := lowB_inj ht.1; have e1 := lowB_inj ht.2; omega)
    | (rcases hf with rfl | rfl | rfl <;> simp [fitsB] at h4 h4' hlm <;> omega)
    | (have e0 := lowB_inj ht; rcases hf with rfl | rfl | rfl <;> simp [fitsB] at h4 h4' hlm <;> omega)

theorem encR_apart {op a b n f op' a' b' n' f' : Int} (h : checkR op a b n f = 0) (h' : checkR op' a' b' n' f' = 0) (hn : -2147483648 ≤ n ∧ n ≤ 2147483647) (hn' : -2147483648 ≤ n' ∧ n' ≤ 2147483647)
    (m : Nat) (hm : m = (encR op a b n f).length ∨ m = (encR op' a' b' n' f').length) (ht : (encR op a b n f).take m = (encR op' a' b' n' f').take m) :
    op = op' ∧ a = a' ∧ b = b' ∧ n = n' ∧ f = f' := by
  obtain ⟨h1, h2, _, h4⟩ := checkR_parts h
  obtain ⟨h1', h2', _, h4'⟩ := checkR_parts h'
  have hf := checkR_forms h
  have hf' := checkR_forms h'
  have hm1 : ∃ m', m = m' + 1 := by
    refine ⟨m - 1, ?_⟩
    rcases hm with rfl | rfl <;> rw [encR_length] <;> omega
  obtain ⟨m', rfl⟩ := hm1
  have hh : lowB (opByte op + addF f) = lowB (opByte op' + addF f') := by
    have := ht
    unfold encR at this
    simp only [List.take_succ_cons, List.cons.injEq] at this
    exact this.1
  have e0 := lowB_inj hh
  simp only [isOp, decide_eq_true_eq] at h1 h1'
  obtain ⟨k, rfl⟩ : ∃ k : Nat, op = (k : Int) + 1 := ⟨(op - 1).toNat, by omega⟩
  obtain ⟨j, rfl⟩ : ∃ k : Nat, op' = (k : Int) + 1 := ⟨(op' - 1).toNat, by omega⟩
  have hk : k < 43 := by omega
  have hj : j < 43 := by omega
  have b1 := byte_small k hk
  have b2 := byte_small j hj
  have c1 := addF_small f
  have c2 := addF_small f'
  obtain ⟨hkj, hff⟩ := first_apart k hk j hj f hf f' hf' (by omega)
  subst hkj
  subst hff
  have hl : (encR ((k : Int) + 1) a b n f).length = (encR ((k : Int) + 1) a' b' n' f).length := by rw [encR_length, encR_length]
  have he : encR ((k : Int) + 1) a b n f = encR ((k : Int) + 1) a' b' n' f := by
    rw [List.take_of_length_le (by rcases hm with hm | hm <;> omega), List.take_of_length_le (by rcases hm with hm | hm <;> omega)] at ht
    exact ht
  unfold encR at he
  rw [List.cons.injEq] at he
  obtain ⟨x1, x2, x3⟩ := tail_apart ((shape_bounds _).1 (isOp_yes k hk)) hf h2 h2' h4 h4' hn hn' he.2
  exact ⟨rfl, x1, x2, x3, rfl⟩
/-- how long: what isa says -/
theorem encR_len {op a b n f : Int} (h : checkR op a b n f = 0) : ((encR op a b n f).length : Int) = lenR op a b n f ∧ (encR op a b n f).length ≤ 6 := by
  obtain ⟨h1, h2, _, h4⟩ := checkR_parts h
  have hf := checkR_forms h
  have hs := (shape_bounds op).1 h1
  rw [encR_length]
  unfold lenR
  rw [if_pos h]
  generalize opShape op = s at *
  rcases thirteen hs with rfl | rfl | rfl | rfl | rfl | rfl | rfl | rfl | rfl | rfl | rfl | rfl | rfl <;> simp [formsOf] at hf <;> (try rcases hf with rfl | rfl | rfl) <;> simp [tailA, widthE, sizeR]
end Go.Proofs.YtfplkmldleigpaaDoor
