/- The walk of law 7's known runs. Conditions: none. -/
import Derived.Test.YthcjnkakfpmpbaaDoorD11

namespace Go.Proofs.YthcjnkakfpmpbaaDoor
open Go.RowKit
set_option linter.unusedVariables false
set_option linter.unusedSimpArgs false

theorem k7 (x y : UInt8) (r : Ins × Int × Int) (hr : decR [x, y] 0 = r) (w : World) (hT : TabIs 0 w) :
    Calls Tryd.prog 16 #[.slice (some ⟨w.heap.size, 0, none⟩) 2 2, .int .i64 0] (w.alloc (.cells #[.int .u8 x.toNat, .int .u8 y.toNat] 5)) fun e w' =>
      e = .returned (.tuple #[r.1.val, .int .i64 r.2.1, .int .i64 r.2.2]) ∧ Below (w.alloc (.cells #[.int .u8 x.toNat, .int .u8 y.toNat] 5)).heap.size (w.alloc (.cells #[.int .u8 x.toNat, .int .u8 y.toNat] 5)) w' := by
  have hs := (sl_new w (bs [x, y]) 1 2 rfl 5).more (B' := (w.alloc (.cells (bs [x, y]).toArray 5)).heap.size) (by simp)
  have := decode_any (some ⟨w.heap.size, 0, none⟩) 2 2 [x, y] 0 _ (hT.alloc _) hs (Nat.le_refl _) (by omega) (by omega) (by omega)
  rw [hr] at this
  exact this
theorem k7a (w : World) (hT : TabIs 0 w) : Calls Tryd.prog 16 #[.slice (some ⟨w.heap.size, 0, none⟩) 2 2, .int .i64 0] (w.alloc (.cells #[.int .u8 16, .int .u8 18] 5)) fun e w' =>
      e = .returned (.tuple #[.agg #[.int .i64 13, .int .i64 1, .int .i64 2, .int .i32 0, .int .i64 0], .int .i64 2, .int .i64 0]) ∧ Below (w.alloc (.cells #[.int .u8 16, .int .u8 18] 5)).heap.size (w.alloc (.cells #[.int .u8 16, .int .u8 18] 5)) w' := k7 16 18 (⟨13, 1, 2, 0, 0⟩, 2, 0) (by kernel_rfl) w hT
theorem k7b (w : World) (hT : TabIs 0 w) : Calls Tryd.prog 16 #[.slice (some ⟨w.heap.size, 0, none⟩) 2 2, .int .i64 0] (w.alloc (.cells #[.int .u8 16, .int .u8 146] 5)) fun e w' =>
      e = .returned (.tuple #[.agg #[.int .i64 0, .int .i64 0, .int .i64 0, .int .i32 0, .int .i64 0], .int .i64 0, .int .i64 12]) ∧ Below (w.alloc (.cells #[.int .u8 16, .int .u8 146] 5)).heap.size (w.alloc (.cells #[.int .u8 16, .int .u8 146] 5)) w' := k7 16 146 (ZI, 0, 12) (by kernel_rfl) w hT
theorem k7c (w : World) (hT : TabIs 0 w) : Calls Tryd.prog 16 #[.slice (some ⟨w.heap.size + 1, 0, none⟩) 2 2, .int .i64 0] ((w.alloc (.cells #[.int .i64 13, .int .i64 1, .int .i64 2, .int .i32 0, .int .i64 0] 25)).alloc (.cells #[.int .u8 16, .int .u8 146] 5)) fun e w' =>
      e = .returned (.tuple #[.agg #[.int .i64 0, .int .i64 0, .int .i64 0, .int .i32 0, .int .i64 0], .int .i64 0, .int .i64 12]) ∧ Below ((w.alloc (.cells #[.int .i64 13, .int .i64 1, .int .i64 2, .int .i32 0, .int .i64 0] 25)).alloc (.cells #[.int .u8 16, .int .u8 146] 5)).heap.size ((w.alloc (.cells #[.int .i64 13, .int .i64 1, .int .i64 2, .int .i32 0, .int .i64 0] 25)).alloc (.cells #[.int .u8 16, .int .u8 146] 5)) w' := by
  have h := k7b (w.alloc (.cells #[.int .i64 13, .int .i64 1, .int .i64 2, .int .i32 0, .int .i64 0] 25)) (hT.alloc _)
  rw [show (w.alloc (.cells #[.int .i64 13, .int .i64 1, .int .i64 2, .int .i32 0, .int .i64 0] 25)).heap.size = w.heap.size + 1 by simp] at h
  exact h
theorem stepA7 {W w w' : World} {o : Obj} (hB : Below W.heap.size W w) (hb : Below (w.alloc o).heap.size (w.alloc o) w') : Below W.heap.size W w' :=
  (hB.alloc hB.size o).trans (hb.mono (by have := hB.size; simp; omega))
set_option maxHeartbeats 1000000 in
theorem known7_any (w : World) (hT : TabIs 0 w) : Calls Tryd.prog 19 #[] w fun e w' => e = .returned (.bool true) ∧ Below w.heap.size w w' := by
  have H1 := Lib.hid k7a
  have H2 := Lib.hid k7c
  go_enter Tryd.func19, Tryd.ntmps19
  go_wp2_with (first
    | (go_at_call 16; (with_reducible refine (H1.out w hT).mono ?_); rintro e w2 ⟨rfl, hb2⟩; have hT2 := (hT.alloc _).grow hb2; have hB2 := stepA7 (Below.refl w.heap.size w) hb2; have hz2 := hb2.size)
    | (go_at_call 16; (with_reducible refine (H2.out w2 hT2).mono ?_); rintro e w3 ⟨rfl, hb3⟩; (have hB3 := stepA7 (hB2.alloc hB2.size _) hb3; have hz3 := hb3.size; have hX : Blk w3 w2.heap.size 25 [.int .i64 13, .int .i64 1, .int .i64 2, .int .i32 0, .int .i64 0] := ((Blk.new w2 25 [.int .i64 13, .int .i64 1, .int .i64 2, .int .i32 0, .int .i64 0]).alloc _).below hb3 (by simp; omega); have u0 := hX.cell 0; have u1 := hX.cell 1; have u2 := hX.cell 2; have u3 := hX.cell 3; have u4 := hX.cell 4; simp only [List.getElem?_cons_zero, List.getElem?_cons_succ] at u0 u1 u2 u3 u4; have hzz : w2.heap.size < w3.heap.size := (by have := hb3.size; simp at this; omega))))
  go_ret
  exact ⟨rfl, hB3.alloc hB3.size _⟩
end Go.Proofs.YthcjnkakfpmpbaaDoor
