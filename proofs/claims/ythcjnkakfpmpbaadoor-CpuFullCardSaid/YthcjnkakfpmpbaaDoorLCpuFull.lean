/- Law CpuFull: as many prints and entries as may be, and one more. Conditions: none. -/
import Derived.Test.YthcjnkakfpmpbaaDoorC19
import Derived.Test.YthcjnkakfpmpbaaDoorC12
namespace Go.Proofs.YthcjnkakfpmpbaaDoor.cpuFull
open Go.RowKit
set_option linter.unusedVariables false
set_option linter.unusedSimpArgs false

set_option maxRecDepth 100000 in
set_option maxHeartbeats 8000000 in
theorem walk (w : World) (hT : TabIs 0 w) : Calls Tryd.prog 13 #[] w fun e w' => e = .returned (.bool true) ∧ Below w.heap.size w w' := by
  have htb : 0 < w.heap.size := hT.lt
  go_enter Tryd.func13, Tryd.ntmps13
  go_wp2_with (first
    | (go_at_call 24; refine (fresh_mr w).mono ?_; rintro e w1 ⟨g, rfl, hM1⟩)
    | fail)
  go_loopw [3] (fun i wr => ∃ k : Nat, i = .int .i64 k ∧ k ≤ 4096 ∧ Mst w w.heap.size g k 0 wr) (fun i _ => 4096 - (intOf i).toNat)
  case atStart => exact ⟨0, rfl, Nat.zero_le _, hM1⟩
  case round =>
    obtain ⟨k, rfl, hk, hM⟩ := hrel
    by_cases hlt : k < 4096
    · have hI : (k : Int) < 4096 := by omega
      go_wp2_with (first
        | (go_at_call 27; (with_reducible refine Calls.mono (opf_print wr) ?_); rintro e w2 ⟨rfl, hb2⟩; have hM2 := hM.below hb2)
        | (go_at_call 26; (with_reducible refine Calls.mono (m_print w w2 w.heap.size g k 0 hM2 hT htb hlt) ?_); rintro e w3 ⟨rfl, hM3⟩)
        | fail)
      go_roundw
      case rel => exact ⟨k + 1, by go_num, by omega, hM3⟩
      case measure => simp [intOf]; omega
    · have hk4 := Lib.hid (show k = 4096 by omega)
      go_wp2_with fail
      go_loopw [4] (fun i wr => ∃ j : Nat, i = .int .i64 j ∧ j ≤ 256 ∧ Mst w w.heap.size g k j wr) (fun i _ => 256 - (intOf i).toNat)
      case atStart => exact ⟨0, rfl, Nat.zero_le _, hM⟩
      case round =>
        obtain ⟨j, rfl, hk2, hN⟩ := hrel
        by_cases hlt2 : j < 256
        · have hI : (j : Int) < 256 := by omega
          go_wp2_with (first
            | (go_at_call 27; (with_reducible refine Calls.mono (opf_push _) ?_); rintro e w2 ⟨rfl, hb2⟩; have hM2 := hN.below hb2)
            | (go_at_call 26; (with_reducible refine Calls.mono (m_push w w2 w.heap.size g k j hM2 hT htb hlt2) ?_); rintro e w3 ⟨rfl, hM3⟩)
            | fail)
          go_roundw
          case rel => exact ⟨j + 1, by go_num, by omega, hM3⟩
          case measure => simp [intOf]; omega
        · have hj4 := Lib.hid (show j = 256 by omega)
          have hkI : (k : Int) = 4096 := by omega
          have hjI : (j : Int) = 256 := by omega
          go_wp2_with (first
            | (go_at_call 27; (with_reducible refine Calls.mono (opf_print_full _) ?_); rintro e w2 ⟨rfl, hb2⟩; have hM2 := hN.below hb2)
            | (go_at_call 26; (with_reducible refine Calls.mono (m_print_full w w2 w.heap.size g k j hM2 hT htb hk4.out) ?_); rintro e w3 ⟨rfl, hb3⟩; have hM3 := (hM2.below hb3).alloc (.cells #[.int .i64 6, .int .i64 7, .int .u32 0] 56); have hX3 := Blk.new w3 56 [.int .i64 6, .int .i64 7, .int .u32 0])
            | (go_at_call 27; (with_reducible refine Calls.mono (opf_push_full _) ?_); rintro e w5 ⟨rfl, hb5⟩; have hM5 := hM3.below hb5; have hX5 := hX3.below hb5 (by simp))
            | (go_at_call 26; (with_reducible refine Calls.mono (m_push_full w w5 w.heap.size g k j hM5 hT htb hj4.out) ?_); rintro e w6 ⟨rfl, hb6⟩; have hM6 := hM5.below hb6; have hX6 := hX5.below hb6 hX5.lt; have hX6l := hX6.lt; have y0 := hX6.cell 0; have y1 := hX6.cell 1; have y2 := hX6.cell 2; simp only [List.getElem?_cons_zero, List.getElem?_cons_succ] at y0 y1 y2; have hM7 := hM6.alloc (.cells #[.int .i64 6, .int .i64 4, .int .u32 0] 56))
            | (go_at_call 35; (with_reducible refine Calls.mono (trace_any w _ w.heap.size g k j hM7 (by omega)) ?_); rintro e w8 ⟨A8, c8, rfl, hb8⟩; have hM8 := hM7.below hb8)
            | (go_at_call 39; (with_reducible refine Calls.mono (depth_any w w8 w.heap.size g k j hM8) ?_); rintro e w9 ⟨rfl, rfl⟩)
            | (go_at_call 30; (with_reducible refine Calls.mono (known18_any w8 (hM8.tab hT htb)) ?_); rintro e w10 ⟨rfl, hb10⟩)
            | fail)
          go_ret
          exact ⟨by simp, hM8.1.trans (hb10.mono hM8.2.1)⟩
end Go.Proofs.YthcjnkakfpmpbaaDoor.cpuFull
