/- Law EncodeEncodes: an instruction's bytes are the document's. Conditions: none. -/
import Derived.Test.YtfplkmldleigpaaDoorE4
import Derived.Test.YtfplkmldleigpaaDoorE2
import Derived.Test.YtfplkmldleigpaaDoorO3
namespace Go.Proofs.YtfplkmldleigpaaDoor.encodeEncodes
open Go.RowKit
set_option linter.unusedVariables false
set_option linter.unusedSimpArgs false

theorem one_block {w w1 : World} {t : TypeId} {a b c d e : Value} (hb : Below (w.alloc (.cells #[a, b, c, d, e] t)).heap.size (w.alloc (.cells #[a, b, c, d, e] t)) w1) :
    Blk w1 w.heap.size t [a, b, c, d, e] ∧ w.heap.size < w1.heap.size ∧ Below w.heap.size w w1 := by
  have hz := hb.size
  simp at hz
  exact ⟨(Blk.new w t [a, b, c, d, e]).below hb (by simp), by omega, ((Below.refl _ _).alloc (Nat.le_refl _) _).trans (hb.mono (by simp))⟩
theorem ins_cells {W : World} {g : Nat} {t : TypeId} {a b c d e : Value} (h : Blk W g t [a, b, c, d, e]) : W.cell? ⟨g, 0, none⟩ = some a ∧ W.cell? ⟨g, 1, none⟩ = some b ∧ W.cell? ⟨g, 2, none⟩ = some c ∧ W.cell? ⟨g, 3, none⟩ = some d ∧ W.cell? ⟨g, 4, none⟩ = some e :=
  ⟨h.cell 0, h.cell 1, h.cell 2, h.cell 3, h.cell 4⟩

set_option maxHeartbeats 1000000 in
theorem good (op a b n f : Int) (l : List UInt8) (w : World) (hT : TabIs 0 w) (hl : l.length ≤ 6)
    (Hi : Hid (∀ w, TabIs 0 w → Calls Tryd.prog 34 #[.agg #[.int .i64 op, .int .i64 a, .int .i64 b, .int .i32 n, .int .i64 f]] w (GivesE w l)))
    (Hj : Hid (∀ w, Calls Tryd.prog 35 #[.agg #[.int .i64 op, .int .i64 a, .int .i64 b, .int .i32 n, .int .i64 f]] w (GivesE w l))) :
    Calls Tryd.prog 10 #[.agg #[.int .i64 op, .int .i64 a, .int .i64 b, .int .i32 n, .int .i64 f]] w fun e w' => e = .returned (.bool true) ∧ Below w.heap.size w w' := by
  have hsm : sameB l l = true := sameB_yes rfl
  go_enter Tryd.func10, Tryd.ntmps10
  go_wp2_with (first
    | (go_at_call 34; refine (Hi.out _ (hT.alloc _)).mono ?_; rintro e w2 ⟨A2, n2, c2, rfl, hc2, hs2, hb2⟩; have hT2 := (hT.alloc _).grow hb2; obtain ⟨hk2, hz2, hB2⟩ := one_block hb2; obtain ⟨x0, x1, x2, x3, x4⟩ := ins_cells hk2)
    | (go_at_call 35; refine (Hj.out _).mono ?_; rintro e w3 ⟨A3, n3, c3, rfl, hc3, hs3, hb3⟩; have hT3 := hT2.grow hb3; have hz3 := hb3.size; have hs2' := (hs2.below hb3).more hb3.size; have hn2 : n2 ≤ maxLen := (by have := hs2.len; rw [bs_length] at this; unfold maxLen; omega))
    | (go_at_call 36; refine (same_u8 A2 A3 n2 n3 c2 c3 l l _ hs2' hs3 hn2).mono ?_; rw [hsm]; rintro e w4 ⟨rfl, k4, rfl⟩; have hT4 := hT3.drewN k4)
    | (go_at_call 37; refine (known6_any _ hT4).mono ?_; rintro e w5 ⟨rfl, hb5⟩))
  go_ret
  exact ⟨rfl, (below_drewN (hB2.trans (hb3.mono (by omega))) _).trans (hb5.mono (by show w.heap.size ≤ w3.heap.size; omega))⟩
set_option maxHeartbeats 1000000 in
theorem bad (op a b n f C : Int) (w : World) (hT : TabIs 0 w)
    (Hi : Hid (∀ w, TabIs 0 w → Calls Tryd.prog 34 #[.agg #[.int .i64 op, .int .i64 a, .int .i64 b, .int .i32 n, .int .i64 f]] w fun e w' => e = .returned (.tuple #[.slice none 0 0, .int .i64 C]) ∧ Below w.heap.size w w'))
    (Hj : Hid (∀ w, Calls Tryd.prog 35 #[.agg #[.int .i64 op, .int .i64 a, .int .i64 b, .int .i32 n, .int .i64 f]] w fun e w' => e = .returned (.tuple #[.slice none 0 0, .int .i64 C]) ∧ Below w.heap.size w w')) :
    Calls Tryd.prog 10 #[.agg #[.int .i64 op, .int .i64 a, .int .i64 b, .int .i32 n, .int .i64 f]] w fun e w' => e = .returned (.bool true) ∧ Below w.heap.size w w' := by
  have hsm : sameB ([] : List UInt8) [] = true := sameB_yes rfl
  go_enter Tryd.func10, Tryd.ntmps10
  go_wp2_with (first
    | (go_at_call 34; refine (Hi.out _ (hT.alloc _)).mono ?_; rintro e w2 ⟨rfl, hb2⟩; have hT2 := (hT.alloc _).grow hb2; obtain ⟨hk2, hz2, hB2⟩ := one_block hb2; obtain ⟨x0, x1, x2, x3, x4⟩ := ins_cells hk2)
    | (go_at_call 35; refine (Hj.out _).mono ?_; rintro e w3 ⟨rfl, hb3⟩; have hT3 := hT2.grow hb3; have hz3 := hb3.size)
    | (go_at_call 36; refine (same_u8 none none 0 0 0 0 [] [] _ (Sl.nil_ _ _ _ _) (Sl.nil_ _ _ _ _) (by unfold maxLen; omega)).mono ?_; rw [hsm]; rintro e w4 ⟨rfl, k4, rfl⟩; have hT4 := hT3.drewN k4)
    | (go_at_call 37; refine (known6_any _ hT4).mono ?_; rintro e w5 ⟨rfl, hb5⟩))
  go_ret
  exact ⟨rfl, (below_drewN (hB2.trans (hb3.mono (by omega))) _).trans (hb5.mono (by show w.heap.size ≤ w3.heap.size; omega))⟩
theorem walk (w : World) (i : Ins) (hi : i.Ok) (hT : TabIs 0 w) :
    Calls Tryd.prog 10 #[i.val] w fun e w' => e = .returned (.bool true) ∧ Below w.heap.size w w' := by
  obtain ⟨op, a, b, n, f⟩ := i
  obtain ⟨_, _, _, hn, _⟩ := hi
  by_cases h : checkR op a b n f = 0
  · exact good op a b n f _ w hT (encR_len h).2 (Lib.hid fun w hT => encode_yes op a b n f w hT hn h) (Lib.hid fun w => refEnc_yes op a b n f w hn h)
  · exact bad op a b n f _ w hT (Lib.hid fun w hT => encode_no op a b n f w hT hn h) (Lib.hid fun w => refEnc_no op a b n f w hn h)
end Go.Proofs.YtfplkmldleigpaaDoor.encodeEncodes
