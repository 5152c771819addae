/- Small words on what Put and Same come to. -/
import Derived.Test.YtjcoanpnbaeobaaA6
import Derived.Test.YtjcoanpnbaeobaaA7
import Derived.Test.YtjcoanpnbaeobaaA8
namespace Go.Proofs.Ytjcoanpnbaeobaa
open Go.RowKit
set_option linter.unusedVariables false

theorem Sl.blen {w : World} {B n : Nat} {A : Option Addr} {l : List UInt8} (h : Sl w B 1 A n (bs l)) : l.length = n := by
  have := h.len
  rw [bs_length] at this
  omega
theorem putL_len_le (l : List UInt8) (x width : Int) : (putL l x width).length ≤ l.length + 4 := by
  unfold putL
  split
  · rename_i h
    rcases width_cases width with rfl | rfl | rfl | h'
    · simp [le_length]
    · simp [le_length]
    · simp [le_length]
    · rw [legalB_not h'] at h; cases h
  · omega
theorem same_yes (A B : Option Addr) (n m c d : Nat) (xs : List UInt8) (w : World) (hx : Sl w w.heap.size 1 A n (bs xs)) (hy : Sl w w.heap.size 1 B m (bs xs)) (hn : xs.length ≤ 140737488355328) :
    Calls Try.prog 17 #[.slice A n c, .slice B m d] w fun e w' => e = .returned (.bool true) ∧ ∃ k, w' = w.drewN k := by
  have := same_u8 A B n m c d xs xs w hx hy (by have := hx.blen; unfold maxLen; omega)
  rwa [sameB_yes rfl] at this
/-- the front of a roomy list -/
theorem room_front {w : World} {B n : Nat} {A : Option Addr} {l : List UInt8} {m : UInt8} (h : Sl w B 1 A (n + 80) (bs (l ++ List.replicate 80 m))) (hl : l.length = n) : Sl w B 1 A n (bs l) := by
  have h := h.front (k := n) (by omega)
  rwa [Nat.mul_one, bs_take, List.take_left' hl] at h
theorem room_all {w : World} {g t n : Nat} {l : List UInt8} {m : UInt8} (h : Blk w g t (bs (l ++ List.replicate 80 m))) (hl : l.length = n) : Sl w w.heap.size 1 (some ⟨g, 0, none⟩) (n + 80) (bs (l ++ List.replicate 80 m)) :=
  h.sl (by simp [bs_length]; omega)
end Go.Proofs.Ytjcoanpnbaeobaa
