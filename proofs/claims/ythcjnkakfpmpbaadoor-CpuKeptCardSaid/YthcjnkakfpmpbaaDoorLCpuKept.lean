/- Law CpuKept: prints are new memory each time. Conditions: none. -/
import Derived.Test.YthcjnkakfpmpbaaDoorC28
import Derived.Test.YthcjnkakfpmpbaaDoorC12
namespace Go.Proofs.YthcjnkakfpmpbaaDoor.cpuKept
open Go.RowKit Go.Proofs.YthcjnkakfpmpbaaDoor.booki32
set_option linter.unusedVariables false
set_option linter.unusedSimpArgs false

set_option maxRecDepth 100000 in
set_option maxHeartbeats 8000000 in
theorem walk (w : World) (A : Option Addr) (n c : Nat) (l : List Int) (s : Sl w w.heap.size 1 A n (is32 l) ∧ (A = none → n = 0 ∧ c = 0)) (hc : n ≤ c) (hb : n * 4 ≤ 140737488351232) (hT : TabIs 0 w) :
    Calls Tryd.prog 11 #[.slice A n c] w fun e w' => e = .returned (.bool true) ∧ Below w.heap.size w w' := by
  obtain ⟨hs, hnil⟩ := s
  have htb : 0 < w.heap.size := hT.lt
  have hne : ∀ g w, (binOp BinOp.eql 50 (.pointer (some ⟨g, 0, none⟩)) (.pointer none)).run Tryd.prog w = .ok (.bool false) w := by intro g w; kernel_rfl
  have hll : l.length = n := by have := hs.len; rw [is32_length] at this; omega
  by_cases hn : 100 < n
  · have hnI : (100 : Int) < n := by omega
    obtain ⟨L, hLd⟩ : ∃ L, L = l.take 100 := ⟨_, rfl⟩
    have hL : L.length = 100 := by rw [hLd, List.length_take]; omega
    have hsm : Sl w w.heap.size 1 A 100 (is32 L) := by rw [hLd]; have h := hs.front (k := 100) (by omega); rwa [Nat.mul_one, is32_take] at h
    have hnm : A = none → 100 = 0 ∧ c = 0 := fun e => by have := (hnil e).1; omega

    go_enter Tryd.func11, Tryd.ntmps11
    go_wp2_with (first
      | (go_at_call 33; (with_reducible refine Calls.mono (new_any A 100 c (is32 L) w hsm (is32_one L) (by omega) hnm) ?_); rintro e w1 ⟨g, A1, c1, rfl, hg1, hBg, ho1, hne1, hb1⟩; have hz1 := hb1.size)
      | fail)
    go_loopw [6] (fun i wr => ∃ k : Nat, i = .int .i64 k ∧ k ≤ 100 ∧ KS w w.heap.size w1.heap.size g 100 k L wr) (fun i _ => 100 - (intOf i).toNat)
    case atStart =>
      refine ⟨0, rfl, Nat.zero_le _, _, _, _, _, _, (· = w1.heap.size), (new_mi hBg ho1 hne1 hg1).alloc _, BookAt.new_ (heap_alloc_new w1 _), ⟨fun e => by have := hBg.lt; omega, fun k e => by simp [Value.ownBlock] at e, fun k e hu => ?_⟩, hb1.alloc hz1 _, by simp; omega, hz1⟩
      have := ((Row.of_own ho1).lt k e).2
      omega
    case round =>
      obtain ⟨k, rfl, hk, hS⟩ := hrel
      by_cases hlt : k < 100
      · have hI : (k : Int) < 100 := by omega
        obtain ⟨cells, AT, cT, AI, cI, U, mi, hB, hs, hbel, hbw, hgB⟩ := hS
        obtain ⟨x, hlx⟩ : ∃ x, L[k]? = some x := ⟨_, List.getElem?_eq_getElem (by omega)⟩
        have hdr : is32 (L.drop k) = .int .i32 x :: is32 (L.drop (k + 1)) := by
          have hkl : k < L.length := by omega
          rw [List.drop_eq_getElem_cons hkl]
          rw [List.getElem?_eq_getElem hkl] at hlx
          injection hlx with hlx
          rw [hlx]
          rfl
        have hmk : 100 - k = 100 - (k + 1) + 1 := by omega
        obtain ⟨N, hN⟩ : ∃ N, N = 100 - (k + 1) := ⟨_, rfl⟩
        rw [hdr, hmk, ← hN] at mi
        rw [hmk, ← hN] at hs
        have hG : booki32.Good (is32 (L.take k) ++ [.int .i32 x]) := ⟨L.take k ++ [x], by rw [is32_append]; rfl⟩
        have HMI := Lib.hid mi
        have HB := Lib.hid hB
        have HS := Lib.hid hs
        clear mi hB hs
        go_wp2_with (first
          | (go_at_call 27; (with_reducible refine Calls.mono (op_in1 wr) ?_); rintro e w2 ⟨rfl, hb2⟩; have hz2 := hb2.size; have H2 := Lib.hid (HMI.out.below hb2); have hT2 := (hT.below hbel htb).below (hb2.mono hbw) htb)
          | (go_at_call 26; (with_reducible refine Calls.mono (m_inI w2 g w.heap.size cells AT AI cT k cI N _ _ x H2.out hT2 htb (Nat.le_trans hbw hz2)) ?_); rintro e w3 ⟨rfl, hP3, hM3⟩; obtain ⟨cells3, AT3, cT3, AI3, cI3, m3, hx3, f3, g3⟩ := hM3; have B3 := Lib.hid (PF.book (HB.out.below hb2) hP3 HS.out); have S3 := Lib.hid (HS.out.step (fun j hu => (HB.out.below hb2).bound j hu |>.2) f3 g3); have H3 := Lib.hid m3; have hz3 := hP3.size; have hbl3 := Lib.hid (hP3.bel (base := w.heap.size) HMI.out.bg (fun j e => (HMI.out.rT.lt j e).1) (fun j e => (HMI.out.rS.lt j e).1) (Nat.le_trans hbw hz2)); have hT3 := hT2.below hbl3.out htb; clear m3 f3 g3 hP3)
          | (go_at_call 27; (with_reducible refine Calls.mono (op_print1 w3) ?_); rintro e w4 ⟨rfl, hb4⟩; have hz4 := hb4.size; have H4 := Lib.hid (H3.out.below hb4); have hT4 := hT3.below (hb4.mono (Nat.le_trans hbw (Nat.le_trans hz2 hz3))) htb)
          | (go_at_call 26; (with_reducible refine Calls.mono (m_printI w4 g w.heap.size cells3 AT3 AI3 cT3 k cI3 N _ _ x H4.out hx3 (by omega) hT4 htb (by omega)) ?_); rintro e w5 ⟨rfl, hP5, hM5⟩; obtain ⟨cells5, AT5, cT5, AI5, cI5, m5, _, f5, g5⟩ := hM5; have B5 := Lib.hid (PF.book (B3.out.below hb4) hP5 S3.out); have S5 := Lib.hid (S3.out.step (fun j hu => (B3.out.below hb4).bound j hu |>.2) f5 g5); have H5 := Lib.hid m5; have hz5 := hP5.size; have hbl5 := Lib.hid (hP5.bel (base := w.heap.size) H4.out.bg (fun j e => (H4.out.rT.lt j e).1) (fun j e => (H4.out.rS.lt j e).1) (by omega)); clear m5 f5 g5 hP5)
          | (go_at_call 35; (with_reducible refine Calls.mono (traceI w5 g w.heap.size cells5 AT5 AI5 cT5 (k + 1) cI5 N _ _ H5.out (by omega)) ?_); rintro e w6 ⟨A6, c6, rfl, hown6, hb6⟩)
          | (go_at_call 34; (with_reducible refine Calls.mono (keep_newU B5.out hb6 (Kept.of_own hown6) hG (by omega)) ?_); rintro e w7 ⟨rfl, U7, hB7, hK7, hU7⟩)
          | fail)
        go_roundw
        case rel =>
          refine ⟨k + 1, by go_num, by omega, ?_⟩
          have hbase := ((hbel.trans (hb2.mono hbw)).trans hbl3.out).trans ((hb4.mono (by omega)).trans hbl5.out)
          subst hN
          have hs0 := HS.out
          rw [← hmk] at hs0
          exact KS.next HB.out hs0 hbel hbw hgB hmk hlx S5.out H5.out hbase B5.out hb6 hB7 hK7 hU7 (by omega)
        case measure => simp [intOf]; omega
      · obtain rfl : k = 100 := by omega
        obtain ⟨cells, AT, cT, AI, cI, U, mi, hB, hs, hbel, hbw, hgB⟩ := hS
        rw [List.take_of_length_le (by omega)] at mi
        have HMI := Lib.hid mi
        have HB := Lib.hid hB
        have HS := Lib.hid hs
        clear mi hB hs
        go_wp2_with (first
          | (go_at_call 36; (with_reducible refine Calls.mono (apart_any w1.heap.size U wr HB.out) ?_); rintro e w6 ⟨rfl, hK6⟩; have m6 := Lib.hid (HMI.out.keep3 (w' := w6) (hK6.block g HMI.out.blk.lt HS.out.g) (fun j e => hK6.block j (HMI.out.rT.lt j e).2 (HS.out.a j e)) (fun j e => hK6.block j (HMI.out.rS.lt j e).2 (HS.out.b j e))); have hb6 := hbel.trans (hK6.below (fun j hu => Nat.le_trans hgB (HB.out.bound j hu).1) hbw); have hz6 := hK6.size)
          | (go_at_call 35; (with_reducible refine Calls.mono (traceI w6 g w.heap.size cells AT AI cT _ cI _ _ _ m6.out (by omega)) ?_); rintro e w7 ⟨A7, c7, rfl, hown7, hb7⟩; have hb7' := hb6.trans (hb7.mono (Nat.le_trans hbw hz6)); have hsl7 := (Kept.of_own hown7).sl; have hin7 := (hsm.below hb7').more hb7'.size)
          | (go_at_call 38; (with_reducible refine Calls.mono (same_i32 A7 A _ _ c7 c L L w7 hsl7 hin7 (by unfold maxLen; omega)) ?_); rw [show sameB L L = true from sameB_yes rfl]; rintro e w8 ⟨rfl, kd, rfl⟩)
          | (go_at_call 30; refine (known18_any _ ((hT.below hb7' htb).drewN kd)).mono ?_; rintro e w9 ⟨rfl, hb9⟩)
          | fail)
        go_ret
        refine ⟨rfl, ?_⟩
        have hb8 := below_drewN hb7' kd
        exact hb8.trans (hb9.mono hb8.size)

  · have hnI : ¬ (100 : Int) < n := by omega
    obtain ⟨m, hm⟩ : ∃ m, m = n := ⟨_, rfl⟩
    obtain ⟨L, hLd⟩ : ∃ L, L = l := ⟨_, rfl⟩
    subst hm hLd
    have hL : L.length = m := hll
    have hsm := hs
    have hnm := hnil

    go_enter Tryd.func11, Tryd.ntmps11
    go_wp2_with (first
      | (go_at_call 33; (with_reducible refine Calls.mono (new_any A m c (is32 L) w hsm (is32_one L) (by omega) hnm) ?_); rintro e w1 ⟨g, A1, c1, rfl, hg1, hBg, ho1, hne1, hb1⟩; have hz1 := hb1.size)
      | fail)
    go_loopw [6] (fun i wr => ∃ k : Nat, i = .int .i64 k ∧ k ≤ m ∧ KS w w.heap.size w1.heap.size g m k L wr) (fun i _ => m - (intOf i).toNat)
    case atStart =>
      refine ⟨0, rfl, Nat.zero_le _, _, _, _, _, _, (· = w1.heap.size), (new_mi hBg ho1 hne1 hg1).alloc _, BookAt.new_ (heap_alloc_new w1 _), ⟨fun e => by have := hBg.lt; omega, fun k e => by simp [Value.ownBlock] at e, fun k e hu => ?_⟩, hb1.alloc hz1 _, by simp; omega, hz1⟩
      have := ((Row.of_own ho1).lt k e).2
      omega
    case round =>
      obtain ⟨k, rfl, hk, hS⟩ := hrel
      by_cases hlt : k < m
      · have hI : (k : Int) < m := by omega
        obtain ⟨cells, AT, cT, AI, cI, U, mi, hB, hs, hbel, hbw, hgB⟩ := hS
        obtain ⟨x, hlx⟩ : ∃ x, L[k]? = some x := ⟨_, List.getElem?_eq_getElem (by omega)⟩
        have hdr : is32 (L.drop k) = .int .i32 x :: is32 (L.drop (k + 1)) := by
          have hkl : k < L.length := by omega
          rw [List.drop_eq_getElem_cons hkl]
          rw [List.getElem?_eq_getElem hkl] at hlx
          injection hlx with hlx
          rw [hlx]
          rfl
        have hmk : m - k = m - (k + 1) + 1 := by omega
        obtain ⟨N, hN⟩ : ∃ N, N = m - (k + 1) := ⟨_, rfl⟩
        rw [hdr, hmk, ← hN] at mi
        rw [hmk, ← hN] at hs
        have hG : booki32.Good (is32 (L.take k) ++ [.int .i32 x]) := ⟨L.take k ++ [x], by rw [is32_append]; rfl⟩
        have HMI := Lib.hid mi
        have HB := Lib.hid hB
        have HS := Lib.hid hs
        clear mi hB hs
        go_wp2_with (first
          | (go_at_call 27; (with_reducible refine Calls.mono (op_in1 wr) ?_); rintro e w2 ⟨rfl, hb2⟩; have hz2 := hb2.size; have H2 := Lib.hid (HMI.out.below hb2); have hT2 := (hT.below hbel htb).below (hb2.mono hbw) htb)
          | (go_at_call 26; (with_reducible refine Calls.mono (m_inI w2 g w.heap.size cells AT AI cT k cI N _ _ x H2.out hT2 htb (Nat.le_trans hbw hz2)) ?_); rintro e w3 ⟨rfl, hP3, hM3⟩; obtain ⟨cells3, AT3, cT3, AI3, cI3, m3, hx3, f3, g3⟩ := hM3; have B3 := Lib.hid (PF.book (HB.out.below hb2) hP3 HS.out); have S3 := Lib.hid (HS.out.step (fun j hu => (HB.out.below hb2).bound j hu |>.2) f3 g3); have H3 := Lib.hid m3; have hz3 := hP3.size; have hbl3 := Lib.hid (hP3.bel (base := w.heap.size) HMI.out.bg (fun j e => (HMI.out.rT.lt j e).1) (fun j e => (HMI.out.rS.lt j e).1) (Nat.le_trans hbw hz2)); have hT3 := hT2.below hbl3.out htb; clear m3 f3 g3 hP3)
          | (go_at_call 27; (with_reducible refine Calls.mono (op_print1 w3) ?_); rintro e w4 ⟨rfl, hb4⟩; have hz4 := hb4.size; have H4 := Lib.hid (H3.out.below hb4); have hT4 := hT3.below (hb4.mono (Nat.le_trans hbw (Nat.le_trans hz2 hz3))) htb)
          | (go_at_call 26; (with_reducible refine Calls.mono (m_printI w4 g w.heap.size cells3 AT3 AI3 cT3 k cI3 N _ _ x H4.out hx3 (by omega) hT4 htb (by omega)) ?_); rintro e w5 ⟨rfl, hP5, hM5⟩; obtain ⟨cells5, AT5, cT5, AI5, cI5, m5, _, f5, g5⟩ := hM5; have B5 := Lib.hid (PF.book (B3.out.below hb4) hP5 S3.out); have S5 := Lib.hid (S3.out.step (fun j hu => (B3.out.below hb4).bound j hu |>.2) f5 g5); have H5 := Lib.hid m5; have hz5 := hP5.size; have hbl5 := Lib.hid (hP5.bel (base := w.heap.size) H4.out.bg (fun j e => (H4.out.rT.lt j e).1) (fun j e => (H4.out.rS.lt j e).1) (by omega)); clear m5 f5 g5 hP5)
          | (go_at_call 35; (with_reducible refine Calls.mono (traceI w5 g w.heap.size cells5 AT5 AI5 cT5 (k + 1) cI5 N _ _ H5.out (by omega)) ?_); rintro e w6 ⟨A6, c6, rfl, hown6, hb6⟩)
          | (go_at_call 34; (with_reducible refine Calls.mono (keep_newU B5.out hb6 (Kept.of_own hown6) hG (by omega)) ?_); rintro e w7 ⟨rfl, U7, hB7, hK7, hU7⟩)
          | fail)
        go_roundw
        case rel =>
          refine ⟨k + 1, by go_num, by omega, ?_⟩
          have hbase := ((hbel.trans (hb2.mono hbw)).trans hbl3.out).trans ((hb4.mono (by omega)).trans hbl5.out)
          subst hN
          have hs0 := HS.out
          rw [← hmk] at hs0
          exact KS.next HB.out hs0 hbel hbw hgB hmk hlx S5.out H5.out hbase B5.out hb6 hB7 hK7 hU7 (by omega)
        case measure => simp [intOf]; omega
      · obtain rfl : k = m := by omega
        obtain ⟨cells, AT, cT, AI, cI, U, mi, hB, hs, hbel, hbw, hgB⟩ := hS
        rw [List.take_of_length_le (by omega)] at mi
        have HMI := Lib.hid mi
        have HB := Lib.hid hB
        have HS := Lib.hid hs
        clear mi hB hs
        go_wp2_with (first
          | (go_at_call 36; (with_reducible refine Calls.mono (apart_any w1.heap.size U wr HB.out) ?_); rintro e w6 ⟨rfl, hK6⟩; have m6 := Lib.hid (HMI.out.keep3 (w' := w6) (hK6.block g HMI.out.blk.lt HS.out.g) (fun j e => hK6.block j (HMI.out.rT.lt j e).2 (HS.out.a j e)) (fun j e => hK6.block j (HMI.out.rS.lt j e).2 (HS.out.b j e))); have hb6 := hbel.trans (hK6.below (fun j hu => Nat.le_trans hgB (HB.out.bound j hu).1) hbw); have hz6 := hK6.size)
          | (go_at_call 35; (with_reducible refine Calls.mono (traceI w6 g w.heap.size cells AT AI cT _ cI _ _ _ m6.out (by omega)) ?_); rintro e w7 ⟨A7, c7, rfl, hown7, hb7⟩; have hb7' := hb6.trans (hb7.mono (Nat.le_trans hbw hz6)); have hsl7 := (Kept.of_own hown7).sl; have hin7 := (hsm.below hb7').more hb7'.size)
          | (go_at_call 38; (with_reducible refine Calls.mono (same_i32 A7 A _ _ c7 c L L w7 hsl7 hin7 (by unfold maxLen; omega)) ?_); rw [show sameB L L = true from sameB_yes rfl]; rintro e w8 ⟨rfl, kd, rfl⟩)
          | (go_at_call 30; refine (known18_any _ ((hT.below hb7' htb).drewN kd)).mono ?_; rintro e w9 ⟨rfl, hb9⟩)
          | fail)
        go_ret
        refine ⟨rfl, ?_⟩
        have hb8 := below_drewN hb7' kd
        exact hb8.trans (hb9.mono hb8.size)

end Go.Proofs.YthcjnkakfpmpbaaDoor.cpuKept
