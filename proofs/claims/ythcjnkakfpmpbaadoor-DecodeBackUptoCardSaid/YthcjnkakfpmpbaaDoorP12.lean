/- Plain words: what is decoded is right, and is encoded to just the bytes that it took. Conditions: none. -/
import Derived.Test.YthcjnkakfpmpbaaDoorP11
namespace Go.Proofs.YthcjnkakfpmpbaaDoor
open Go.RowKit
set_option linter.unusedVariables false
set_option linter.unusedSimpArgs false

theorem insD_op (op f s : Int) (r : List UInt8) : (insD op f s r).op = op ∧ (insD op f s r).f = f := by
  unfold insD
  split
  · exact ⟨rfl, rfl⟩
  split
  · exact ⟨rfl, rfl⟩
  split
  · exact ⟨rfl, rfl⟩
  split
  · exact ⟨rfl, rfl⟩
  split <;> exact ⟨rfl, rfl⟩
theorem insD_n (op f s : Int) (r : List UInt8) (hw : widthD s f = 1 ∨ widthD s f = 2 ∨ (s ≠ 9 ∧ s ≠ 11)) : -2147483648 ≤ (insD op f s r).n ∧ (insD op f s r).n ≤ 2147483647 := by
  have hb := rb_bounds r 1
  have ht : ∀ J, -2147483648 ≤ toldR r J (widthD s f) s ∧ toldR r J (widthD s f) s ≤ 2147483647 := fun J => toldR_bounds r J _ s (fun h => by omega)
  unfold insD
  split
  · simp
  split
  · simp
  split
  · simp
  split
  · simp; omega
  split
  · exact ht 0
  · exact ht 1
theorem sizeR_pos {s f : Int} (hs : 1 ≤ s ∧ s ≤ 13) (hf : f ∈ formsOf s) : 1 ≤ sizeR s f ∧ sizeR s f ≤ 6 := by
  rcases thirteen hs with rfl | rfl | rfl | rfl | rfl | rfl | rfl | rfl | rfl | rfl | rfl | rfl | rfl <;> simp [formsOf] at hf <;> (try rcases hf with rfl | rfl | rfl) <;> simp [sizeR]
theorem enc_dec {l : List UInt8} {at_ N : Int} {j : Ins} (h : decR l at_ = (j, N, 0)) :
    checkR j.op j.a j.b j.n j.f = 0 ∧ (-2147483648 ≤ j.n ∧ j.n ≤ 2147483647) ∧ 0 ≤ at_ ∧ 1 ≤ N ∧ N ≤ 6 ∧ at_ + N ≤ l.length ∧ encR j.op j.a j.b j.n j.f = (l.drop at_.toNat).take N.toNat := by
  unfold decR at h
  split at h
  · simp at h
  rename_i g1
  split at h
  · simp at h
  rename_i g2
  rw [not_or] at g1
  have h0 : 0 ≤ at_ := by omega
  have hlt : at_.toNat < l.length := by omega
  have hxb := rb_bounds l at_.toNat
  have hdec : (byteD (rb l at_.toNat)).1 ≠ 0 → opByte (byteD (rb l at_.toNat)).1 + addF (byteD (rb l at_.toNat)).2 = rb l at_.toNat := by
    obtain ⟨k, hk⟩ := Int.eq_ofNat_of_zero_le hxb.1
    rw [hk]
    exact byteD_dec k (by omega)
  have hforms : (byteD (rb l at_.toNat)).1 ≠ 0 → (byteD (rb l at_.toNat)).2 ∈ formsOf (opShape (byteD (rb l at_.toNat)).1) := by
    obtain ⟨k, hk⟩ := Int.eq_ofNat_of_zero_le hxb.1
    rw [hk]
    exact byteD_forms k (by omega)
  have hbd : 0 ≤ (byteD (rb l at_.toNat)).1 ∧ (byteD (rb l at_.toNat)).1 ≤ 43 := by
    obtain ⟨k, hk⟩ := Int.eq_ofNat_of_zero_le hxb.1
    rw [hk]
    have := byteD_bounds k (by omega)
    exact ⟨this.1, this.2.1⟩
  have hL := lowB_rb l at_.toNat hlt
  simp only at h
  generalize (byteD (rb l at_.toNat)).2 = f at *
  generalize (byteD (rb l at_.toNat)).1 = op at *
  split at h
  · simp at h
  rename_i g3
  split at h
  · simp at h
  rename_i g4
  split at h
  case isFalse g5 => simp at h; exact absurd h.2.2 g5
  rename_i g5
  simp only [Prod.mk.injEq] at h
  obtain ⟨hj, hN, _⟩ := h
  have hisop : isOp op = true := by simp [isOp]; omega
  have hs13 := (shape_bounds op).1 hisop
  have hff := hforms g3
  have hsz := sizeR_pos hs13 hff
  have hrest : (l.drop at_.toNat) = l[at_.toNat] :: l.drop (at_ + 1).toNat := by
    rw [List.drop_eq_getElem_cons hlt, show (at_ + 1).toNat = at_.toNat + 1 by omega]
  have htl := tail_dec (op := op) (f := f) (s := opShape op) (r := l.drop (at_ + 1).toNat) hs13 hff (by rw [List.length_drop]; omega)
  obtain ⟨io, if_⟩ := insD_op op f (opShape op) (l.drop (at_ + 1).toNat)
  have hnb := insD_n op f (opShape op) (l.drop (at_ + 1).toNat) (by
    unfold widthD
    rcases thirteen hs13 with e | e | e | e | e | e | e | e | e | e | e | e | e <;> rw [e] <;> simp)
  subst hj
  subst hN
  refine ⟨g5, hnb, h0, hsz.1, hsz.2, by omega, ?_⟩
  rw [hrest, show (sizeR (opShape op) f).toNat = (sizeR (opShape op) f - 1).toNat + 1 by omega, List.take_succ_cons, ← htl]
  unfold encR
  rw [io, if_, hdec g3, hL]
end Go.Proofs.YthcjnkakfpmpbaaDoor
