/- A new machine with its rows; print, push, Trace and Depth. Conditions: the table of operations is laid. -/
import Derived.Test.YthcjnkakfpmpbaaDoorC18
import Derived.Test.YthcjnkakfpmpbaaDoorC9
namespace Go.Proofs.YthcjnkakfpmpbaaDoor
open Go.RowKit
set_option linter.unusedVariables false
set_option linter.unusedSimpArgs false
set_option maxRecDepth 20000

theorem zero_268 : Tryd.zeroCells119[268]? = some (.slice none 0 0) := by kernel_rfl
theorem zero_269 : Tryd.zeroCells119[269]? = some (.slice none 0 0) := by kernel_rfl
theorem new_mr {w : World} {g base : Nat} {v : Value} (hB : Blk w g 119 (cells0 v)) (hb : base ≤ g) : MR w g base (cells0 v) none 0 0 [] none 0 0 [] where
  blk := hB
  rg := cells0_rg v
  eT := by unfold cells0; rw [Array.getElem?_toList, Array.getElem?_setIfInBounds_ne (by omega)]; exact zero_269
  eS := by unfold cells0; rw [Array.getElem?_toList, Array.getElem?_setIfInBounds_ne (by omega)]; exact zero_268
  rT := Row.nil_ _ _ _
  rS := Row.nil_ _ _ _
  oT := by simp
  gT := by simp [Value.ownBlock]
  gS := by simp [Value.ownBlock]
  ap := by intro k hk; simp [Value.ownBlock] at hk
  bg := hb
/-- between two instructions: the machine, so many prints and entries; what was there before base is as it was -/
def Mst (w0 : World) (base g nT nS : Nat) (wr : World) : Prop := Below base w0 wr ∧ base ≤ wr.heap.size ∧ ∃ cells AT cT xT AS cS xS, MR wr g base cells AT cT nT xT AS cS nS xS
theorem Mst.below {w0 w w' : World} {base g nT nS : Nat} (h : Mst w0 base g nT nS w) (hb : Below w.heap.size w w') : Mst w0 base g nT nS w' := by
  obtain ⟨h1, h2, cells, AT, cT, xT, AS, cS, xS, m⟩ := h
  exact ⟨h1.trans (hb.mono h2), Nat.le_trans h2 hb.size, cells, AT, cT, xT, AS, cS, xS, m.below hb⟩
theorem Mst.alloc {w0 w : World} {base g nT nS : Nat} (h : Mst w0 base g nT nS w) (o : Obj) : Mst w0 base g nT nS (w.alloc o) := h.below ((Below.refl _ _).alloc (Nat.le_refl _) o)
theorem Mst.tab {w0 w : World} {base g nT nS t : Nat} (h : Mst w0 base g nT nS w) (hT : TabIs t w0) (ht : t < base) : TabIs t w := hT.below h.1 ht
set_option maxHeartbeats 1000000 in
theorem fresh_mr (w : World) : Calls Tryd.prog 24 #[.slice none 0 0] w fun e w' => ∃ g, e = .returned (.tuple #[.pointer (some ⟨g, 0, none⟩), .bool true]) ∧ Mst w w.heap.size g 0 0 w' := by
  have hne : ∀ g w, (binOp BinOp.neq 50 (.pointer (some ⟨g, 0, none⟩)) (.pointer none)).run Tryd.prog w = .ok (.bool true) w := by intro g w; kernel_rfl
  go_enter Tryd.func24, Tryd.ntmps24
  go_wp2_with (first
    | (go_at_call 33; refine (new_any none 0 0 [] w (Sl.nil_ _ _ _ _) (by simp) (by omega) (fun _ => ⟨rfl, rfl⟩)).mono ?_; rintro e w1 ⟨g, A1, c1, rfl, hg, hB, _, _, hb1⟩)
    | fail)
  refine bodyPost_ret (v := .tuple #[.pointer (some ⟨g, 0, none⟩), .bool true]) (by simp [results, Tryd.results24, go_sem]) rfl ⟨g, rfl, hb1, hb1.size, _, _, _, _, _, _, _, new_mr hB hg⟩
theorem trace_any (w0 w : World) (base g nT nS : Nat) (h : Mst w0 base g nT nS w) (hn : nT ≤ 1000000) : Calls Tryd.prog 35 #[.pointer (some ⟨g, 0, none⟩)] w fun e w' => ∃ A c, e = .returned (.slice A nT c) ∧ Below w.heap.size w w' := by
  obtain ⟨h1, h2, cells, AT, cT, xT, AS, cS, xS, m⟩ := h
  have q := (m.blk.cell 269).trans m.eT
  have hnil : AT = none → nT = 0 ∧ cT = 0 := fun e => by
    rcases m.rT.2 with ⟨hv, h0⟩ | ⟨g', o, cap, cur, hv, _⟩
    · injection hv with _ _ h3; exact ⟨h0, h3⟩
    · injection hv with h3; rw [e] at h3; cases h3
  have hs := m.rT.sl
  have hone := m.oT
  clear m
  go_enter Tryd.func35, Tryd.ntmps35
  go_wp2_with (first
    | (go_at_call 64; refine (clone_any AT nT cT xT w hs hone hn hnil).mono ?_; rintro e w1 ⟨A1, c1, rfl, _, hb1⟩)
    | fail)
  go_ret
  exact ⟨A1, c1, rfl, hb1⟩
theorem depth_any (w0 w : World) (base g nT nS : Nat) (h : Mst w0 base g nT nS w) : Calls Tryd.prog 39 #[.pointer (some ⟨g, 0, none⟩)] w fun e w' => e = .returned (.int .i64 nS) ∧ w = w' := by
  obtain ⟨h1, h2, cells, AT, cT, xT, AS, cS, xS, m⟩ := h
  have q := (m.blk.cell 268).trans m.eS
  clear m
  go_enter Tryd.func39, Tryd.ntmps39
  go_wp2_with fail
  go_ret
  exact ⟨rfl, rfl⟩
theorem m_print (w0 w : World) (base g nT nS : Nat) (h : Mst w0 base g nT nS w) (hT : TabIs 0 w0) (htb : 0 < base) (hl : nT < 4096) :
    Calls Tryd.prog 26 #[.pointer (some ⟨g, 0, none⟩), .agg #[.int .i64 4, .int .i64 0, .int .i64 0, .int .i32 0, .int .i64 0], .int .i32 0, .slice none 0 0, .int .i64 0] w fun e w' => e = .returned (.agg #[.int .i64 0, .int .i64 0, .int .u32 0]) ∧ Mst w0 base g (nT + 1) nS w' := by
  have hTw := h.tab hT htb
  obtain ⟨h1, h2, cells, AT, cT, xT, AS, cS, xS, m⟩ := h
  obtain ⟨x, hx⟩ := m.rg.1 0 (by omega)
  refine (do_oneG 4 0 0 0 0 0 0 (.slice none 0 0) 0 0 0 (nT + 1) nS w g base cells AT AS cT nT cS nS xT xS m hTw htb h2 (by omega) (by kernel_rfl) (by kernel_rfl) (Lib.hid fun W hT' m' => one_print 4 0 0 0 0 x W g base cells AT cT nT xT AS cS nS xS m' hT' (Nat.le_trans m.bg (Nat.le_of_lt m'.blk.lt)) (by omega) hx (by kernel_rfl) hl)).mono fun e w' h => ⟨h.1, h1.trans h.2.1, ?_, h.2.2⟩
  exact Nat.le_trans h2 h.2.1.size

theorem opf_print (w : World) : Calls Tryd.prog 27 #[.string ⟨#[112, 114, 105, 110, 116]⟩, .int .i64 0, .int .i64 0, .int .i32 0] w fun e w' => e = .returned (.agg #[.int .i64 4, .int .i64 0, .int .i64 0, .int .i32 0, .int .i64 0]) ∧ Below w.heap.size w w' := by
  have h := op_any ⟨#[112, 114, 105, 110, 116]⟩ 0 0 0 w
  rwa [show findR (ByteArray.toList ⟨#[112, 114, 105, 110, 116]⟩) = 4 from by kernel_rfl] at h
theorem m_print_full (w0 w : World) (base g nT nS : Nat) (h : Mst w0 base g nT nS w) (hT : TabIs 0 w0) (htb : 0 < base) (hl : nT = 4096) :
    Calls Tryd.prog 26 #[.pointer (some ⟨g, 0, none⟩), .agg #[.int .i64 4, .int .i64 0, .int .i64 0, .int .i32 0, .int .i64 0], .int .i32 0, .slice none 0 0, .int .i64 0] w fun e w' => e = .returned (.agg #[.int .i64 6, .int .i64 7, .int .u32 0]) ∧ Below w.heap.size w w' := by
  have hTw := h.tab hT htb
  obtain ⟨h1, h2, cells, AT, cT, xT, AS, cS, xS, m⟩ := h
  obtain ⟨x, hx⟩ := m.rg.1 0 (by omega)
  have hbg := m.bg
  have hcw : ∀ W, CW w g cells W → Below w.heap.size w W := fun W hc => ⟨hc.fr.os, hc.fr.tape, hc.fr.output, hc.fr.size, fun k hk => by
    by_cases e : k = g
    · subst e; exact hc.blk.trans m.blk.symm
    · exact hc.fr.block k hk e⟩
  refine (do_one 4 0 0 0 0 0 0 (.slice none 0 0) 6 7 0 w g cells cells hTw (by omega) m.blk (by omega) (by kernel_rfl) (by kernel_rfl) (Lib.hid fun W hT' hB' => ((one_print_full 4 0 0 0 0 x W g cells AT cT nT AS cS nS hB' m.eT hT' (by omega) hx (by kernel_rfl) hl).mono fun e w' h => ⟨h.1, (CW.start hB').below h.2⟩))).mono fun e w' h => ⟨h.1, hcw _ h.2⟩

theorem opf_print_full (w : World) : Calls Tryd.prog 27 #[.string ⟨#[112, 114, 105, 110, 116]⟩, .int .i64 0, .int .i64 0, .int .i32 0] w fun e w' => e = .returned (.agg #[.int .i64 4, .int .i64 0, .int .i64 0, .int .i32 0, .int .i64 0]) ∧ Below w.heap.size w w' := by
  have h := op_any ⟨#[112, 114, 105, 110, 116]⟩ 0 0 0 w
  rwa [show findR (ByteArray.toList ⟨#[112, 114, 105, 110, 116]⟩) = 4 from by kernel_rfl] at h
theorem m_push (w0 w : World) (base g nT nS : Nat) (h : Mst w0 base g nT nS w) (hT : TabIs 0 w0) (htb : 0 < base) (hl : nS < 256) :
    Calls Tryd.prog 26 #[.pointer (some ⟨g, 0, none⟩), .agg #[.int .i64 6, .int .i64 0, .int .i64 0, .int .i32 0, .int .i64 0], .int .i32 0, .slice none 0 0, .int .i64 0] w fun e w' => e = .returned (.agg #[.int .i64 0, .int .i64 0, .int .u32 0]) ∧ Mst w0 base g nT (nS + 1) w' := by
  have hTw := h.tab hT htb
  obtain ⟨h1, h2, cells, AT, cT, xT, AS, cS, xS, m⟩ := h
  obtain ⟨x, hx⟩ := m.rg.1 0 (by omega)
  refine (do_oneG 6 0 0 0 0 0 0 (.slice none 0 0) 0 0 0 nT (nS + 1) w g base cells AT AS cT nT cS nS xT xS m hTw htb h2 (by omega) (by kernel_rfl) (by kernel_rfl) (Lib.hid fun W hT' m' => one_push 6 0 0 0 0 x W g base cells AT cT nT xT AS cS nS xS m' hT' (Nat.le_trans m.bg (Nat.le_of_lt m'.blk.lt)) (by omega) hx (by kernel_rfl) hl)).mono fun e w' h => ⟨h.1, h1.trans h.2.1, ?_, h.2.2⟩
  exact Nat.le_trans h2 h.2.1.size

theorem opf_push (w : World) : Calls Tryd.prog 27 #[.string ⟨#[112, 117, 115, 104]⟩, .int .i64 0, .int .i64 0, .int .i32 0] w fun e w' => e = .returned (.agg #[.int .i64 6, .int .i64 0, .int .i64 0, .int .i32 0, .int .i64 0]) ∧ Below w.heap.size w w' := by
  have h := op_any ⟨#[112, 117, 115, 104]⟩ 0 0 0 w
  rwa [show findR (ByteArray.toList ⟨#[112, 117, 115, 104]⟩) = 6 from by kernel_rfl] at h
theorem m_push_full (w0 w : World) (base g nT nS : Nat) (h : Mst w0 base g nT nS w) (hT : TabIs 0 w0) (htb : 0 < base) (hl : nS = 256) :
    Calls Tryd.prog 26 #[.pointer (some ⟨g, 0, none⟩), .agg #[.int .i64 6, .int .i64 0, .int .i64 0, .int .i32 0, .int .i64 0], .int .i32 0, .slice none 0 0, .int .i64 0] w fun e w' => e = .returned (.agg #[.int .i64 6, .int .i64 4, .int .u32 0]) ∧ Below w.heap.size w w' := by
  have hTw := h.tab hT htb
  obtain ⟨h1, h2, cells, AT, cT, xT, AS, cS, xS, m⟩ := h
  obtain ⟨x, hx⟩ := m.rg.1 0 (by omega)
  have hbg := m.bg
  have hcw : ∀ W, CW w g cells W → Below w.heap.size w W := fun W hc => ⟨hc.fr.os, hc.fr.tape, hc.fr.output, hc.fr.size, fun k hk => by
    by_cases e : k = g
    · subst e; exact hc.blk.trans m.blk.symm
    · exact hc.fr.block k hk e⟩
  refine (do_one 6 0 0 0 0 0 0 (.slice none 0 0) 6 4 0 w g cells cells hTw (by omega) m.blk (by omega) (by kernel_rfl) (by kernel_rfl) (Lib.hid fun W hT' hB' => ((one_push_full 6 0 0 0 0 x W g cells AT cT nT AS cS nS hB' m.eS hT' (by omega) hx (by kernel_rfl) hl).mono fun e w' h => ⟨h.1, (CW.start hB').below h.2⟩))).mono fun e w' h => ⟨h.1, hcw _ h.2⟩

theorem opf_push_full (w : World) : Calls Tryd.prog 27 #[.string ⟨#[112, 117, 115, 104]⟩, .int .i64 0, .int .i64 0, .int .i32 0] w fun e w' => e = .returned (.agg #[.int .i64 6, .int .i64 0, .int .i64 0, .int .i32 0, .int .i64 0]) ∧ Below w.heap.size w w' := by
  have h := op_any ⟨#[112, 117, 115, 104]⟩ 0 0 0 w
  rwa [show findR (ByteArray.toList ⟨#[112, 117, 115, 104]⟩) = 6 from by kernel_rfl] at h
end Go.Proofs.YthcjnkakfpmpbaaDoor
