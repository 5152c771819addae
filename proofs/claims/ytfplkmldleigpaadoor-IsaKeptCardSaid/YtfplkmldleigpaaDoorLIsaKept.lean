/- Law IsaKept: Ops is new memory each time. Conditions: none. -/
import Derived.Test.YtfplkmldleigpaaDoorK8op
namespace Go.Proofs.YtfplkmldleigpaaDoor.isaKept
open Go.RowKit Go.Proofs.YtfplkmldleigpaaDoor.bookop
set_option linter.unusedVariables false
set_option linter.unusedSimpArgs false

set_option maxRecDepth 100000 in
set_option maxHeartbeats 2000000 in
theorem walk (w : World) (hT : TabIs 0 w) :
    Calls Tryd.prog 9 #[] w fun e w' => e = .returned (.bool true) ∧ Below w.heap.size w w' := by
  have htb : 0 < w.heap.size := hT.lt
  have hG : bookop.Good tabCells := rfl
  have hB0 : BAt (w.alloc (.cells #[.slice none 0 0, .slice none 0 0, .int .i64 0, .bool false] 51)) w.heap.size (· = w.heap.size) := BookAt.new_ (heap_alloc_new w _)
  have hb0 : Below w.heap.size w (w.alloc (.cells #[.slice none 0 0, .slice none 0 0, .int .i64 0, .bool false] 51)) := (Below.refl _ _).alloc (Nat.le_refl _) _
  have hz0 : w.heap.size ≤ (w.alloc (.cells #[.slice none 0 0, .slice none 0 0, .int .i64 0, .bool false] 51)).heap.size := by simp
  have HB0 := Lib.hid hB0
  clear hB0
  go_enter Tryd.func9, Tryd.ntmps9
  go_wp2_with (first
    | (go_at_call 28; (with_reducible refine Calls.mono (ops_own _ (hT.below hb0 htb)) ?_); rintro e w1 ⟨A1, c1, rfl, hown1, hb1⟩)
    | (go_at_call 31; (with_reducible refine Calls.mono (keep_new HB0.out hb1 (Kept.of_own hown1) hG (by omega)) ?_); rintro e w2 ⟨rfl, U2, hB2, hK2⟩; have hA2 := At.put hb0 hb1 hz0 (fun k hk => (HB0.out.bound k hk).1) hB2 hK2; obtain ⟨U3, hB3, hb3⟩ := hA2; have hz3 := hb3.size; have HB3 := Lib.hid hB3; clear hB3 hB2)
    | (go_at_call 28; (with_reducible refine Calls.mono (ops_own w2 (hT.below hb3 htb)) ?_); rintro e w4 ⟨A4, c4, rfl, hown4, hb4⟩)
    | (go_at_call 31; (with_reducible refine Calls.mono (keep_new HB3.out hb4 (Kept.of_own hown4) hG (by omega)) ?_); rintro e w5 ⟨rfl, U5, hB5, hK5⟩; have hA5 := At.put hb3 hb4 hz3 (fun k hk => (HB3.out.bound k hk).1) hB5 hK5; obtain ⟨U6, hB6, hb6⟩ := hA5; have hz6 := hb6.size; have HB6 := Lib.hid hB6; clear hB6 hB5)
    | (go_at_call 32; (with_reducible refine Calls.mono (apart_any w.heap.size U6 w5 HB6.out) ?_); rintro e w7 ⟨rfl, hK7⟩; have hb7 := hb6.trans (hK7.below (fun k hk => (HB6.out.bound k hk).1) hz6))
    | (go_at_call 23; refine (known5_any _ (hT.below hb7 htb)).mono ?_; rintro e w8 ⟨rfl, hb8⟩)
    | fail)
  go_ret
  exact ⟨rfl, hb7.trans (hb8.mono hb7.size)⟩
end Go.Proofs.YtfplkmldleigpaaDoor.isaKept
