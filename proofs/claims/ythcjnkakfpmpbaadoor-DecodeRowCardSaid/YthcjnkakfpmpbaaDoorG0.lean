/- Plain words on the iterator decode.All: a run of steps from a place on. No program in sight but what decR says. Condition: none. -/
import Derived.Test.YthcjnkakfpmpbaaDoorD11
namespace Go.Proofs.YthcjnkakfpmpbaaDoor
open Go.RowKit
set_option linter.unusedVariables false
set_option linter.unusedSimpArgs false

theorem sizeR_six {s f : Int} (hs : 1 ≤ s ∧ s ≤ 13) (hf : f ∈ formsOf s) : 1 ≤ sizeR s f ∧ sizeR s f ≤ 6 := by
  rcases thirteen hs with rfl | rfl | rfl | rfl | rfl | rfl | rfl | rfl | rfl | rfl | rfl | rfl | rfl <;> simp [formsOf] at hf <;> (try rcases hf with rfl | rfl | rfl) <;> simp [sizeR]
/-- a step that is handed out -/
structure Stp where
  at_ : Int
  len : Int
  i : Ins
def Stp.val (x : Stp) : Value := .agg #[.int .i64 x.at_, .int .i64 x.len, .int .i64 x.i.op, .int .i64 x.i.a, .int .i64 x.i.b, .int .i32 x.i.n, .int .i64 x.i.f]
def Stp.encs (x : Stp) : Array Value := #[x.val]
/-- xs are right steps, one behind the other, from k to e -/
def RunD (l : List UInt8) : Int → List Stp → Int → Prop
  | k, [], e => k = e
  | k, x :: xs, e => x.at_ = k ∧ decR l k = (x.i, x.len, 0) ∧ RunD l (k + x.len) xs e
theorem decR_ok {l : List UInt8} {k m : Int} {j : Ins} (h : decR l k = (j, m, 0)) : 0 ≤ k ∧ k < l.length ∧ 1 ≤ m ∧ m ≤ 6 ∧ k + m ≤ l.length := by
  unfold decR at h
  split at h
  · simp at h
  split at h
  · simp at h
  dsimp only at h
  split at h
  · simp at h
  split at h
  · simp at h
  rename_i h1 h2 h3 h4
  split at h
  · have e : sizeR (opShape (byteD (rb l k.toNat)).1) (byteD (rb l k.toNat)).2 = m := by simp at h; exact h.2
    have hxb := rb_bounds l k.toNat
    have hforms : (byteD (rb l k.toNat)).2 ∈ formsOf (opShape (byteD (rb l k.toNat)).1) := by
      obtain ⟨c, hk⟩ := Int.eq_ofNat_of_zero_le hxb.1
      rw [hk] at h3 ⊢
      exact byteD_forms c (by omega) h3
    have hbd : 0 ≤ (byteD (rb l k.toNat)).1 ∧ (byteD (rb l k.toNat)).1 ≤ 43 := by
      obtain ⟨c, hk⟩ := Int.eq_ofNat_of_zero_le hxb.1
      rw [hk]
      have := byteD_bounds c (by omega)
      omega
    have := sizeR_six ((shape_bounds _).1 (by simp [isOp]; omega)) hforms
    omega
  · rename_i h5
    simp only [Prod.mk.injEq] at h
    exact absurd h.2.2 h5
theorem RunD.snoc {l : List UInt8} : ∀ {xs : List Stp} {k e : Int} {x : Stp}, RunD l k xs e → x.at_ = e → decR l e = (x.i, x.len, 0) → RunD l k (xs ++ [x]) (e + x.len)
  | [], k, e, x, h, h1, h2 => by obtain rfl : k = e := h; exact ⟨h1, h2, rfl⟩
  | y :: ys, k, e, x, h, h1, h2 => ⟨h.1, h.2.1, h.2.2.snoc h1 h2⟩
theorem RunD.fun_ {l : List UInt8} : ∀ {xs : List Stp} {k e e' : Int}, RunD l k xs e → RunD l k xs e' → e = e'
  | [], k, e, e', h, h' => by obtain rfl : k = e := h; exact h'
  | y :: ys, k, e, e', h, h' => h.2.2.fun_ h'.2.2
/-- the last step of a run -/
theorem RunD.last {l : List UInt8} : ∀ {xs : List Stp} {k e : Int} {x : Stp}, RunD l k (xs ++ [x]) e → ∃ d, RunD l k xs d ∧ x.at_ = d ∧ decR l d = (x.i, x.len, 0) ∧ e = d + x.len
  | [], k, e, x, h => ⟨k, rfl, h.1, h.2.1, h.2.2.symm⟩
  | y :: ys, k, e, x, h => by obtain ⟨d, h1, h2⟩ := h.2.2.last; exact ⟨d, ⟨h.1, h.2.1, h1⟩, h2⟩
theorem RunD.len {l : List UInt8} : ∀ {xs : List Stp} {k e : Int}, RunD l k xs e → k + (xs.length : Int) ≤ e ∧ (xs ≠ [] → 0 ≤ k ∧ e ≤ l.length)
  | [], k, e, h => by obtain rfl : k = e := h; simp
  | y :: ys, k, e, h => by
    obtain ⟨h1, h2⟩ := h.2.2.len
    have := decR_ok h.2.1
    refine ⟨by simp; omega, fun _ => ⟨this.1, ?_⟩⟩
    by_cases hy : ys = []
    · subst hy
      obtain rfl : k + y.len = e := h.2.2
      omega
    · exact (h2 hy).2
end Go.Proofs.YthcjnkakfpmpbaaDoor
