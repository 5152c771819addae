/- Law EncodeAll: any instructions: their encodings, one behind the other, or the first that has none. Conditions: none. -/
import Derived.Test.YtfplkmldleigpaaDoorE6
namespace Go.Proofs.YtfplkmldleigpaaDoor.encodeAll
open Go.RowKit
set_option linter.unusedVariables false
set_option linter.unusedSimpArgs false

theorem slB {w w' : World} {A : Option Addr} {n sz : Nat} {cs : List Value} (hs : Sl w w.heap.size sz A n cs) (hb : Below w.heap.size w w') : Sl w' w'.heap.size sz A n cs := (hs.below hb).more hb.size
def MK : Ins := ⟨-7, 0, 0, 0, 0⟩

set_option maxHeartbeats 2000000 in
theorem small_ok (N c0 : Nat) (A : Option Addr) (L : List Ins) (w : World) (hbig : ¬ 200 < N) (hok : Hid (∀ i ∈ L, i.chk = 0)) (hT : TabIs 0 w) (hL : L.length = N) (hNs : (N : Int) ≤ 200) (hcap : (N : Int) ≤ c0) (hs : Sl w w.heap.size 5 A N (insCells L)) (hn : ∀ i ∈ L, I32 i.n)
    (Hro : Hid (∀ w, Sl w w.heap.size 5 A N (insCells L) → Calls Tryd.prog 42 #[.slice A N c0, .agg #[.int .i64 (-7), .int .i64 0, .int .i64 0, .int .i32 0, .int .i64 0]] w (GivesRoomI w N (insCells (L ++ List.replicate 80 MK)))))
    (Hin : Hid (∀ w F, Sl w w.heap.size 5 F (N + 80) (insCells (L ++ List.replicate 80 MK)) → Sl w w.heap.size 5 A N (insCells L) → Calls Tryd.prog 43 #[.slice F (N + 80) (N + 80), .slice A N c0, .agg #[.int .i64 (-7), .int .i64 0, .int .i64 0, .int .i32 0, .int .i64 0]] w fun e w' => e = .returned (.bool true) ∧ Below w.heap.size w w'))
    (Hal : Hid (∀ w F, TabIs 0 w → Sl w w.heap.size 5 F N (insCells L) → Calls Tryd.prog 38 #[.slice F N (N + 80)] w (GivesAll w (encAll L)))) :
    Calls Tryd.prog 14 #[.slice A N c0] w fun e w' => e = .returned (.bool true) ∧ Below w.heap.size w w' := by
  obtain ⟨i0, hi0, hk0, hk1, hk2⟩ := info_parts u8_info
  have HP := Lib.hid hn
  have HL := Lib.hid hL
  clear hn hL
  have hI200 : ¬ (200 : Int) < N := by omega
  go_enter Tryd.func14, Tryd.ntmps14
  go_wp2_with (first
    | (go_at_call 42; refine (Hro.out _ hs).mono ?_; rintro e w1 ⟨rfl, hblk, hb1⟩; have hT1 := hT.grow hb1; have hz1 := hb1.size; have hs1 := slB hs hb1; have hfu := hblk.sl (sz := 5) (n := N + 80) (by rw [insCells_length, List.length_append, List.length_replicate, HL.out]); have hfr := (hfu.front (k := N) (by omega)); rw [insCells_take, List.take_left' HL.out] at hfr)
    | (go_at_call 38; refine (Hal.out _ _ hT1 hfr).mono ?_; rintro e w2 ⟨Ab, nb, cb, rfl, hcb, hownb, hb2⟩; have hT2 := hT1.grow hb2; have hz2 := hb2.size; have hs2 := slB hs1 hb2; have hf2 := slB hfu hb2)
    | (go_at_call 43; refine (Hin.out _ _ hf2 hs2).mono ?_; rintro e w3 ⟨rfl, hb3⟩; have hT3 := hT2.grow hb3; have hz3 := hb3.size; have hs3 := slB hs2 hb3))
  have hB3 : Below w.heap.size w w3 := (hb1.trans (hb2.mono (by omega))).trans (hb3.mono (by omega))
  go_loopw [7, 8] (fun out i wr => ∃ (k m : Nat) (Ao : Option Addr) (co : Nat), i = .int .i64 k ∧ k ≤ N ∧ out = .slice Ao m co ∧ m ≤ co ∧ m ≤ 6 * k ∧ wr.ownsRow w3.heap.size 5 1 (.slice Ao m co) m (bs (encAll (L.take k))) ∧ Below w3.heap.size w3 wr) (fun _ i _ => N - (intOf i).toNat)
  case atStart => exact ⟨0, 0, none, 0, rfl, Nat.zero_le _, rfl, Nat.le_refl _, by omega, own_nil _ _ _ _, Below.refl _ _⟩
  case round =>
    obtain ⟨k, m, Ao, co, rfl, hk, rfl, hmc, hm6, hown, hbr⟩ := hrel
    have hzr := hbr.size
    have hTr := hT3.grow hbr
    by_cases hlt : k < N
    · obtain ⟨x, hx⟩ : ∃ x, L[k]? = some x := ⟨L[k]'(by rw [HL.out]; omega), List.getElem?_eq_getElem _⟩
      have hxn : I32 x.n := HP.out x (List.mem_of_getElem? hx)
      have hxc : x.chk = 0 := hok.out x (by exact List.mem_of_getElem? hx)
      obtain ⟨b0, o0, rfl, hb0, hhas⟩ := hs3.at_ (by omega)
      have hI : (k : Int) < N := by omega
      obtain ⟨hc0, hc1, hc2, hc3, hc4⟩ := ins_at (hhas.keep fun i => (bcell hbr).1 b0 i hb0) hx
      have HX := Lib.hid hx
      clear hx
      obtain ⟨op, a, b, n, f⟩ := x
      simp only at hc0 hc1 hc2 hc3 hc4 hxn
      have hxc' : checkR op a b n f = 0 := hxc
      have HE := Lib.hid (fun w hT => encode_yes op a b n f w hT hxn hxc')
      have HLn := Lib.hid (fun w hT => len_any op a b n f w hxn hT)
      obtain ⟨hL1, hL6⟩ := encR_len hxc'
      have hET := encAll_take HX.out
      simp only [Ins.enc] at hET
      have HET := Lib.hid hET
      clear hET hxc hxc'
      rw [← hL1] at HLn
      clear hL1
      generalize encR op a b n f = E at *
      go_wp2_with (first
        | (go_at_call 34; refine (HE.out _ hTr).mono ?_; rintro e w4 ⟨A4, n4, c4, rfl, hc4', hs4, hb4⟩; have hl4 := hs4.len; rw [bs_length, Nat.mul_one] at hl4; rw [hl4] at HLn hL6; have hz4 := hb4.size; have hT4 := hTr.grow hb4; have hown4 := own_below hown hb4; have CC := (bcell hb4).1; have hz0 : b0 < wr.heap.size := (by omega); have g0 := (CC b0 _ hz0).trans hc0; have g1 := (CC b0 _ hz0).trans hc1; have g2 := (CC b0 _ hz0).trans hc2; have g3 := (CC b0 _ hz0).trans hc3; have g4 := (CC b0 _ hz0).trans hc4)
        | (go_at_call 27; refine (HLn.out _ hT4).mono ?_; rintro e w5 ⟨rfl, hb5⟩; have hz5 := hb5.size; have hown5 := own_below hown4 hb5; have hs5 := slB hs4 hb5)
        | (at_builtin
           refine wpList_app _ rfl (.tmp 82) (.tmp 83) _ rfl w3.heap.size 5 i0 _ 1 1 Tryd.underlying55 hi0 hk0 hk1 hk2 rfl (by omega) (.slice Ao m co) m (bs (encAll (L.take k))) rfl hown5 w5.heap.size A4 n4 c4 (bs E) rfl hs5 (bs_one _) (by unfold maxLen; omega) (by omega) (by omega) (m + n4) rfl (bs (encAll (L.take (k + 1)))) (by rw [HET.out, bs_append]) ?_
           intro A6 c6 w6 hc6 hown6 hg6 _
           have hb6 : Below w3.heap.size w3 w6 := below_app ((hbr.trans (hb4.mono (by omega))).trans (hb5.mono (by omega))) hown5 hg6 (by omega)))
      go_roundw
      case rel => exact ⟨k + 1, m + n4, A6, c6, by go_num, by omega, rfl, hc6, by omega, hown6, hb6⟩
      case measure => simp [intOf]; omega
    · obtain rfl : N = k := by omega
      have hfull : L.take N = L := List.take_of_length_le (by rw [HL.out]; exact Nat.le_refl _)
      rw [hfull] at hown
      have hnb : nb ≤ maxLen := by have h1 := hownb.1; have h2 := encAll_le L hok.out; rw [bs_length] at h1; rw [HL.out] at h2; unfold maxLen; omega
      have hsb := slB (slB (Sl.of_own hownb) hb3) hbr
      have hsm : sameB (encAll L) (encAll L) = true := sameB_yes rfl
      go_wp2_with (first
        | (go_at_call 36; refine (same_u8 Ab Ao nb m cb co (encAll L) (encAll L) _ hsb (Sl.of_own hown) hnb).mono ?_; rw [hsm]; rintro e w7 ⟨rfl, k7, rfl⟩; have hT7 := hTr.drewN k7)
        | (go_at_call 37; refine (known6_any _ hT7).mono ?_; rintro e w8 ⟨rfl, hb8⟩))
      go_ret
      exact ⟨rfl, (below_drewN (hB3.trans (hbr.mono (by omega))) _).trans (hb8.mono (by show w.heap.size ≤ wr.heap.size; omega))⟩

set_option maxHeartbeats 2000000 in
theorem small_bad (N c0 : Nat) (A : Option Addr) (L : List Ins) (w : World) (hbig : ¬ 200 < N) (K : Nat) (C : Int) (hK : K < N) (hok : Hid (∀ j ∈ L.take K, j.chk = 0)) (hat : Hid (∃ x, L[K]? = some x ∧ x.chk = C)) (hC : (C != 0) = true) (hC0 : Hid (C ≠ 0)) (hT : TabIs 0 w) (hL : L.length = N) (hNs : (N : Int) ≤ 200) (hcap : (N : Int) ≤ c0) (hs : Sl w w.heap.size 5 A N (insCells L)) (hn : ∀ i ∈ L, I32 i.n)
    (Hro : Hid (∀ w, Sl w w.heap.size 5 A N (insCells L) → Calls Tryd.prog 42 #[.slice A N c0, .agg #[.int .i64 (-7), .int .i64 0, .int .i64 0, .int .i32 0, .int .i64 0]] w (GivesRoomI w N (insCells (L ++ List.replicate 80 MK)))))
    (Hin : Hid (∀ w F, Sl w w.heap.size 5 F (N + 80) (insCells (L ++ List.replicate 80 MK)) → Sl w w.heap.size 5 A N (insCells L) → Calls Tryd.prog 43 #[.slice F (N + 80) (N + 80), .slice A N c0, .agg #[.int .i64 (-7), .int .i64 0, .int .i64 0, .int .i32 0, .int .i64 0]] w fun e w' => e = .returned (.bool true) ∧ Below w.heap.size w w'))
    (Hal : Hid (∀ w F, TabIs 0 w → Sl w w.heap.size 5 F N (insCells L) → Calls Tryd.prog 38 #[.slice F N (N + 80)] w fun e w' => e = .returned (.tuple #[.slice none 0 0, .int .i64 K, .int .i64 C]) ∧ Below w.heap.size w w')) :
    Calls Tryd.prog 14 #[.slice A N c0] w fun e w' => e = .returned (.bool true) ∧ Below w.heap.size w w' := by
  obtain ⟨i0, hi0, hk0, hk1, hk2⟩ := info_parts u8_info
  have HP := Lib.hid hn
  have HL := Lib.hid hL
  clear hn hL
  have hI200 : ¬ (200 : Int) < N := by omega
  go_enter Tryd.func14, Tryd.ntmps14
  go_wp2_with (first
    | (go_at_call 42; refine (Hro.out _ hs).mono ?_; rintro e w1 ⟨rfl, hblk, hb1⟩; have hT1 := hT.grow hb1; have hz1 := hb1.size; have hs1 := slB hs hb1; have hfu := hblk.sl (sz := 5) (n := N + 80) (by rw [insCells_length, List.length_append, List.length_replicate, HL.out]); have hfr := (hfu.front (k := N) (by omega)); rw [insCells_take, List.take_left' HL.out] at hfr)
    | (go_at_call 38; refine (Hal.out _ _ hT1 hfr).mono ?_; rintro e w2 ⟨rfl, hb2⟩; have hT2 := hT1.grow hb2; have hz2 := hb2.size; have hs2 := slB hs1 hb2; have hf2 := slB hfu hb2)
    | (go_at_call 43; refine (Hin.out _ _ hf2 hs2).mono ?_; rintro e w3 ⟨rfl, hb3⟩; have hT3 := hT2.grow hb3; have hz3 := hb3.size; have hs3 := slB hs2 hb3))
  have hB3 : Below w.heap.size w w3 := (hb1.trans (hb2.mono (by omega))).trans (hb3.mono (by omega))
  go_loopw [7, 8] (fun out i wr => ∃ (k m : Nat) (Ao : Option Addr) (co : Nat), i = .int .i64 k ∧ k ≤ K ∧ out = .slice Ao m co ∧ m ≤ co ∧ m ≤ 6 * k ∧ wr.ownsRow w3.heap.size 5 1 (.slice Ao m co) m (bs (encAll (L.take k))) ∧ Below w3.heap.size w3 wr) (fun _ i _ => N - (intOf i).toNat)
  case atStart => exact ⟨0, 0, none, 0, rfl, Nat.zero_le _, rfl, Nat.le_refl _, by omega, own_nil _ _ _ _, Below.refl _ _⟩
  case round =>
    obtain ⟨k, m, Ao, co, rfl, hk, rfl, hmc, hm6, hown, hbr⟩ := hrel
    have hzr := hbr.size
    have hTr := hT3.grow hbr
    by_cases hlt : k < K
    · obtain ⟨x, hx⟩ : ∃ x, L[k]? = some x := ⟨L[k]'(by rw [HL.out]; omega), List.getElem?_eq_getElem _⟩
      have hxn : I32 x.n := HP.out x (List.mem_of_getElem? hx)
      have hxc : x.chk = 0 := hok.out x (by refine List.mem_of_getElem? (i := k) ?_; rw [List.getElem?_take, if_pos hlt]; exact hx)
      obtain ⟨b0, o0, rfl, hb0, hhas⟩ := hs3.at_ (by omega)
      have hI : (k : Int) < N := by omega
      obtain ⟨hc0, hc1, hc2, hc3, hc4⟩ := ins_at (hhas.keep fun i => (bcell hbr).1 b0 i hb0) hx
      have HX := Lib.hid hx
      clear hx
      obtain ⟨op, a, b, n, f⟩ := x
      simp only at hc0 hc1 hc2 hc3 hc4 hxn
      have hxc' : checkR op a b n f = 0 := hxc
      have HE := Lib.hid (fun w hT => encode_yes op a b n f w hT hxn hxc')
      have HLn := Lib.hid (fun w hT => len_any op a b n f w hxn hT)
      obtain ⟨hL1, hL6⟩ := encR_len hxc'
      have hET := encAll_take HX.out
      simp only [Ins.enc] at hET
      have HET := Lib.hid hET
      clear hET hxc hxc'
      rw [← hL1] at HLn
      clear hL1
      generalize encR op a b n f = E at *
      go_wp2_with (first
        | (go_at_call 34; refine (HE.out _ hTr).mono ?_; rintro e w4 ⟨A4, n4, c4, rfl, hc4', hs4, hb4⟩; have hl4 := hs4.len; rw [bs_length, Nat.mul_one] at hl4; rw [hl4] at HLn hL6; have hz4 := hb4.size; have hT4 := hTr.grow hb4; have hown4 := own_below hown hb4; have CC := (bcell hb4).1; have hz0 : b0 < wr.heap.size := (by omega); have g0 := (CC b0 _ hz0).trans hc0; have g1 := (CC b0 _ hz0).trans hc1; have g2 := (CC b0 _ hz0).trans hc2; have g3 := (CC b0 _ hz0).trans hc3; have g4 := (CC b0 _ hz0).trans hc4)
        | (go_at_call 27; refine (HLn.out _ hT4).mono ?_; rintro e w5 ⟨rfl, hb5⟩; have hz5 := hb5.size; have hown5 := own_below hown4 hb5; have hs5 := slB hs4 hb5)
        | (at_builtin
           refine wpList_app _ rfl (.tmp 82) (.tmp 83) _ rfl w3.heap.size 5 i0 _ 1 1 Tryd.underlying55 hi0 hk0 hk1 hk2 rfl (by omega) (.slice Ao m co) m (bs (encAll (L.take k))) rfl hown5 w5.heap.size A4 n4 c4 (bs E) rfl hs5 (bs_one _) (by unfold maxLen; omega) (by omega) (by omega) (m + n4) rfl (bs (encAll (L.take (k + 1)))) (by rw [HET.out, bs_append]) ?_
           intro A6 c6 w6 hc6 hown6 hg6 _
           have hb6 : Below w3.heap.size w3 w6 := below_app ((hbr.trans (hb4.mono (by omega))).trans (hb5.mono (by omega))) hown5 hg6 (by omega)))
      go_roundw
      case rel => exact ⟨k + 1, m + n4, A6, c6, by go_num, by omega, rfl, hc6, by omega, hown6, hb6⟩
      case measure => simp [intOf]; omega
    · obtain rfl : K = k := by omega
      obtain ⟨x, hx, hxC⟩ := hat.out
      have hxn : I32 x.n := HP.out x (List.mem_of_getElem? hx)
      obtain ⟨b0, o0, rfl, hb0, hhas⟩ := hs3.at_ (by omega)
      have hI : (K : Int) < N := by omega
      obtain ⟨hc0, hc1, hc2, hc3, hc4⟩ := ins_at (hhas.keep fun i => (bcell hbr).1 b0 i hb0) hx
      clear hx
      obtain ⟨op, a, b, n, f⟩ := x
      simp only at hc0 hc1 hc2 hc3 hc4 hxn
      have hxc' : checkR op a b n f = C := hxC
      have HE := Lib.hid (fun w hT => encode_no op a b n f w hT hxn (by rw [hxc']; exact hC0.out))
      have HCh := Lib.hid (fun w hT => check_any op a b n f w hxn hT)
      rw [hxc'] at HE HCh
      clear hxC hxc'
      go_wp2_with (first
        | (go_at_call 34; refine (HE.out _ hTr).mono ?_; rintro e w4 ⟨rfl, hb4⟩; have hz4 := hb4.size; have hT4 := hTr.grow hb4; have CC := (bcell hb4).1; have hz0 : b0 < wr.heap.size := (by omega); have g0 := (CC b0 _ hz0).trans hc0; have g1 := (CC b0 _ hz0).trans hc1; have g2 := (CC b0 _ hz0).trans hc2; have g3 := (CC b0 _ hz0).trans hc3; have g4 := (CC b0 _ hz0).trans hc4)
        | (go_at_call 26; refine (HCh.out _ hT4).mono ?_; rintro e w5 ⟨rfl, hb5⟩; have hz5 := hb5.size; have hT5 := hT4.grow hb5)
        | (go_at_call 37; refine (known6_any _ hT5).mono ?_; rintro e w8 ⟨rfl, hb8⟩))
      go_ret
      exact ⟨rfl, (((hB3.trans (hbr.mono (by omega))).trans (hb4.mono (by omega))).trans (hb5.mono (by omega))).trans (hb8.mono (by omega))⟩

set_option maxHeartbeats 2000000 in
theorem big_ok (n0 N c0 : Nat) (A : Option Addr) (L : List Ins) (w : World) (hbig : 200 < n0) (hN : N = 200) (hok : Hid (∀ i ∈ L, i.chk = 0)) (hT : TabIs 0 w) (hL : L.length = N) (hNs : (N : Int) ≤ 200) (hcap : (n0 : Int) ≤ c0) (hs : Sl w w.heap.size 5 A N (insCells L)) (hn : ∀ i ∈ L, I32 i.n)
    (Hro : Hid (∀ w, Sl w w.heap.size 5 A N (insCells L) → Calls Tryd.prog 42 #[.slice A N c0, .agg #[.int .i64 (-7), .int .i64 0, .int .i64 0, .int .i32 0, .int .i64 0]] w (GivesRoomI w N (insCells (L ++ List.replicate 80 MK)))))
    (Hin : Hid (∀ w F, Sl w w.heap.size 5 F (N + 80) (insCells (L ++ List.replicate 80 MK)) → Sl w w.heap.size 5 A N (insCells L) → Calls Tryd.prog 43 #[.slice F (N + 80) (N + 80), .slice A N c0, .agg #[.int .i64 (-7), .int .i64 0, .int .i64 0, .int .i32 0, .int .i64 0]] w fun e w' => e = .returned (.bool true) ∧ Below w.heap.size w w'))
    (Hal : Hid (∀ w F, TabIs 0 w → Sl w w.heap.size 5 F N (insCells L) → Calls Tryd.prog 38 #[.slice F N (N + 80)] w (GivesAll w (encAll L)))) :
    Calls Tryd.prog 14 #[.slice A n0 c0] w fun e w' => e = .returned (.bool true) ∧ Below w.heap.size w w' := by
  obtain ⟨i0, hi0, hk0, hk1, hk2⟩ := info_parts u8_info
  have HP := Lib.hid hn
  have HL := Lib.hid hL
  clear hn hL
  subst hN
  have hI200 : (200 : Int) < n0 := by omega
  have hc200 : (200 : Int) ≤ c0 := by omega
  clear hNs
  go_enter Tryd.func14, Tryd.ntmps14
  go_wp2_with (first
    | (go_at_call 42; refine (Hro.out _ hs).mono ?_; rintro e w1 ⟨rfl, hblk, hb1⟩; have hT1 := hT.grow hb1; have hz1 := hb1.size; have hs1 := slB hs hb1; have hfu := hblk.sl (sz := 5) (n := 200 + 80) (by rw [insCells_length, List.length_append, List.length_replicate, HL.out]); have hfr := (hfu.front (k := 200) (by omega)); rw [insCells_take, List.take_left' HL.out] at hfr)
    | (go_at_call 38; refine (Hal.out _ _ hT1 hfr).mono ?_; rintro e w2 ⟨Ab, nb, cb, rfl, hcb, hownb, hb2⟩; have hT2 := hT1.grow hb2; have hz2 := hb2.size; have hs2 := slB hs1 hb2; have hf2 := slB hfu hb2)
    | (go_at_call 43; refine (Hin.out _ _ hf2 hs2).mono ?_; rintro e w3 ⟨rfl, hb3⟩; have hT3 := hT2.grow hb3; have hz3 := hb3.size; have hs3 := slB hs2 hb3))
  have hB3 : Below w.heap.size w w3 := (hb1.trans (hb2.mono (by omega))).trans (hb3.mono (by omega))
  go_loopw [7, 8] (fun out i wr => ∃ (k m : Nat) (Ao : Option Addr) (co : Nat), i = .int .i64 k ∧ k ≤ 200 ∧ out = .slice Ao m co ∧ m ≤ co ∧ m ≤ 6 * k ∧ wr.ownsRow w3.heap.size 5 1 (.slice Ao m co) m (bs (encAll (L.take k))) ∧ Below w3.heap.size w3 wr) (fun _ i _ => 200 - (intOf i).toNat)
  case atStart => exact ⟨0, 0, none, 0, rfl, Nat.zero_le _, rfl, Nat.le_refl _, by omega, own_nil _ _ _ _, Below.refl _ _⟩
  case round =>
    obtain ⟨k, m, Ao, co, rfl, hk, rfl, hmc, hm6, hown, hbr⟩ := hrel
    have hzr := hbr.size
    have hTr := hT3.grow hbr
    by_cases hlt : k < 200
    · obtain ⟨x, hx⟩ : ∃ x, L[k]? = some x := ⟨L[k]'(by rw [HL.out]; omega), List.getElem?_eq_getElem _⟩
      have hxn : I32 x.n := HP.out x (List.mem_of_getElem? hx)
      have hxc : x.chk = 0 := hok.out x (by exact List.mem_of_getElem? hx)
      obtain ⟨b0, o0, rfl, hb0, hhas⟩ := hs3.at_ (by omega)
      have hI : (k : Int) < 200 := by omega
      obtain ⟨hc0, hc1, hc2, hc3, hc4⟩ := ins_at (hhas.keep fun i => (bcell hbr).1 b0 i hb0) hx
      have HX := Lib.hid hx
      clear hx
      obtain ⟨op, a, b, n, f⟩ := x
      simp only at hc0 hc1 hc2 hc3 hc4 hxn
      have hxc' : checkR op a b n f = 0 := hxc
      have HE := Lib.hid (fun w hT => encode_yes op a b n f w hT hxn hxc')
      have HLn := Lib.hid (fun w hT => len_any op a b n f w hxn hT)
      obtain ⟨hL1, hL6⟩ := encR_len hxc'
      have hET := encAll_take HX.out
      simp only [Ins.enc] at hET
      have HET := Lib.hid hET
      clear hET hxc hxc'
      rw [← hL1] at HLn
      clear hL1
      generalize encR op a b n f = E at *
      go_wp2_with (first
        | (go_at_call 34; refine (HE.out _ hTr).mono ?_; rintro e w4 ⟨A4, n4, c4, rfl, hc4', hs4, hb4⟩; have hl4 := hs4.len; rw [bs_length, Nat.mul_one] at hl4; rw [hl4] at HLn hL6; have hz4 := hb4.size; have hT4 := hTr.grow hb4; have hown4 := own_below hown hb4; have CC := (bcell hb4).1; have hz0 : b0 < wr.heap.size := (by omega); have g0 := (CC b0 _ hz0).trans hc0; have g1 := (CC b0 _ hz0).trans hc1; have g2 := (CC b0 _ hz0).trans hc2; have g3 := (CC b0 _ hz0).trans hc3; have g4 := (CC b0 _ hz0).trans hc4)
        | (go_at_call 27; refine (HLn.out _ hT4).mono ?_; rintro e w5 ⟨rfl, hb5⟩; have hz5 := hb5.size; have hown5 := own_below hown4 hb5; have hs5 := slB hs4 hb5)
        | (at_builtin
           refine wpList_app _ rfl (.tmp 82) (.tmp 83) _ rfl w3.heap.size 5 i0 _ 1 1 Tryd.underlying55 hi0 hk0 hk1 hk2 rfl (by omega) (.slice Ao m co) m (bs (encAll (L.take k))) rfl hown5 w5.heap.size A4 n4 c4 (bs E) rfl hs5 (bs_one _) (by unfold maxLen; omega) (by omega) (by omega) (m + n4) rfl (bs (encAll (L.take (k + 1)))) (by rw [HET.out, bs_append]) ?_
           intro A6 c6 w6 hc6 hown6 hg6 _
           have hb6 : Below w3.heap.size w3 w6 := below_app ((hbr.trans (hb4.mono (by omega))).trans (hb5.mono (by omega))) hown5 hg6 (by omega)))
      go_roundw
      case rel => exact ⟨k + 1, m + n4, A6, c6, by go_num, by omega, rfl, hc6, by omega, hown6, hb6⟩
      case measure => simp [intOf]; omega
    · obtain rfl : 200 = k := by omega
      have hfull : L.take 200 = L := List.take_of_length_le (by rw [HL.out]; exact Nat.le_refl _)
      rw [hfull] at hown
      have hnb : nb ≤ maxLen := by have h1 := hownb.1; have h2 := encAll_le L hok.out; rw [bs_length] at h1; rw [HL.out] at h2; unfold maxLen; omega
      have hsb := slB (slB (Sl.of_own hownb) hb3) hbr
      have hsm : sameB (encAll L) (encAll L) = true := sameB_yes rfl
      go_wp2_with (first
        | (go_at_call 36; refine (same_u8 Ab Ao nb m cb co (encAll L) (encAll L) _ hsb (Sl.of_own hown) hnb).mono ?_; rw [hsm]; rintro e w7 ⟨rfl, k7, rfl⟩; have hT7 := hTr.drewN k7)
        | (go_at_call 37; refine (known6_any _ hT7).mono ?_; rintro e w8 ⟨rfl, hb8⟩))
      go_ret
      exact ⟨rfl, (below_drewN (hB3.trans (hbr.mono (by omega))) _).trans (hb8.mono (by show w.heap.size ≤ wr.heap.size; omega))⟩

set_option maxHeartbeats 2000000 in
theorem big_bad (n0 N c0 : Nat) (A : Option Addr) (L : List Ins) (w : World) (hbig : 200 < n0) (hN : N = 200) (K : Nat) (C : Int) (hK : K < N) (hok : Hid (∀ j ∈ L.take K, j.chk = 0)) (hat : Hid (∃ x, L[K]? = some x ∧ x.chk = C)) (hC : (C != 0) = true) (hC0 : Hid (C ≠ 0)) (hT : TabIs 0 w) (hL : L.length = N) (hNs : (N : Int) ≤ 200) (hcap : (n0 : Int) ≤ c0) (hs : Sl w w.heap.size 5 A N (insCells L)) (hn : ∀ i ∈ L, I32 i.n)
    (Hro : Hid (∀ w, Sl w w.heap.size 5 A N (insCells L) → Calls Tryd.prog 42 #[.slice A N c0, .agg #[.int .i64 (-7), .int .i64 0, .int .i64 0, .int .i32 0, .int .i64 0]] w (GivesRoomI w N (insCells (L ++ List.replicate 80 MK)))))
    (Hin : Hid (∀ w F, Sl w w.heap.size 5 F (N + 80) (insCells (L ++ List.replicate 80 MK)) → Sl w w.heap.size 5 A N (insCells L) → Calls Tryd.prog 43 #[.slice F (N + 80) (N + 80), .slice A N c0, .agg #[.int .i64 (-7), .int .i64 0, .int .i64 0, .int .i32 0, .int .i64 0]] w fun e w' => e = .returned (.bool true) ∧ Below w.heap.size w w'))
    (Hal : Hid (∀ w F, TabIs 0 w → Sl w w.heap.size 5 F N (insCells L) → Calls Tryd.prog 38 #[.slice F N (N + 80)] w fun e w' => e = .returned (.tuple #[.slice none 0 0, .int .i64 K, .int .i64 C]) ∧ Below w.heap.size w w')) :
    Calls Tryd.prog 14 #[.slice A n0 c0] w fun e w' => e = .returned (.bool true) ∧ Below w.heap.size w w' := by
  obtain ⟨i0, hi0, hk0, hk1, hk2⟩ := info_parts u8_info
  have HP := Lib.hid hn
  have HL := Lib.hid hL
  clear hn hL
  subst hN
  have hI200 : (200 : Int) < n0 := by omega
  have hc200 : (200 : Int) ≤ c0 := by omega
  clear hNs
  go_enter Tryd.func14, Tryd.ntmps14
  go_wp2_with (first
    | (go_at_call 42; refine (Hro.out _ hs).mono ?_; rintro e w1 ⟨rfl, hblk, hb1⟩; have hT1 := hT.grow hb1; have hz1 := hb1.size; have hs1 := slB hs hb1; have hfu := hblk.sl (sz := 5) (n := 200 + 80) (by rw [insCells_length, List.length_append, List.length_replicate, HL.out]); have hfr := (hfu.front (k := 200) (by omega)); rw [insCells_take, List.take_left' HL.out] at hfr)
    | (go_at_call 38; refine (Hal.out _ _ hT1 hfr).mono ?_; rintro e w2 ⟨rfl, hb2⟩; have hT2 := hT1.grow hb2; have hz2 := hb2.size; have hs2 := slB hs1 hb2; have hf2 := slB hfu hb2)
    | (go_at_call 43; refine (Hin.out _ _ hf2 hs2).mono ?_; rintro e w3 ⟨rfl, hb3⟩; have hT3 := hT2.grow hb3; have hz3 := hb3.size; have hs3 := slB hs2 hb3))
  have hB3 : Below w.heap.size w w3 := (hb1.trans (hb2.mono (by omega))).trans (hb3.mono (by omega))
  go_loopw [7, 8] (fun out i wr => ∃ (k m : Nat) (Ao : Option Addr) (co : Nat), i = .int .i64 k ∧ k ≤ K ∧ out = .slice Ao m co ∧ m ≤ co ∧ m ≤ 6 * k ∧ wr.ownsRow w3.heap.size 5 1 (.slice Ao m co) m (bs (encAll (L.take k))) ∧ Below w3.heap.size w3 wr) (fun _ i _ => 200 - (intOf i).toNat)
  case atStart => exact ⟨0, 0, none, 0, rfl, Nat.zero_le _, rfl, Nat.le_refl _, by omega, own_nil _ _ _ _, Below.refl _ _⟩
  case round =>
    obtain ⟨k, m, Ao, co, rfl, hk, rfl, hmc, hm6, hown, hbr⟩ := hrel
    have hzr := hbr.size
    have hTr := hT3.grow hbr
    by_cases hlt : k < K
    · obtain ⟨x, hx⟩ : ∃ x, L[k]? = some x := ⟨L[k]'(by rw [HL.out]; omega), List.getElem?_eq_getElem _⟩
      have hxn : I32 x.n := HP.out x (List.mem_of_getElem? hx)
      have hxc : x.chk = 0 := hok.out x (by refine List.mem_of_getElem? (i := k) ?_; rw [List.getElem?_take, if_pos hlt]; exact hx)
      obtain ⟨b0, o0, rfl, hb0, hhas⟩ := hs3.at_ (by omega)
      have hI : (k : Int) < 200 := by omega
      obtain ⟨hc0, hc1, hc2, hc3, hc4⟩ := ins_at (hhas.keep fun i => (bcell hbr).1 b0 i hb0) hx
      have HX := Lib.hid hx
      clear hx
      obtain ⟨op, a, b, n, f⟩ := x
      simp only at hc0 hc1 hc2 hc3 hc4 hxn
      have hxc' : checkR op a b n f = 0 := hxc
      have HE := Lib.hid (fun w hT => encode_yes op a b n f w hT hxn hxc')
      have HLn := Lib.hid (fun w hT => len_any op a b n f w hxn hT)
      obtain ⟨hL1, hL6⟩ := encR_len hxc'
      have hET := encAll_take HX.out
      simp only [Ins.enc] at hET
      have HET := Lib.hid hET
      clear hET hxc hxc'
      rw [← hL1] at HLn
      clear hL1
      generalize encR op a b n f = E at *
      go_wp2_with (first
        | (go_at_call 34; refine (HE.out _ hTr).mono ?_; rintro e w4 ⟨A4, n4, c4, rfl, hc4', hs4, hb4⟩; have hl4 := hs4.len; rw [bs_length, Nat.mul_one] at hl4; rw [hl4] at HLn hL6; have hz4 := hb4.size; have hT4 := hTr.grow hb4; have hown4 := own_below hown hb4; have CC := (bcell hb4).1; have hz0 : b0 < wr.heap.size := (by omega); have g0 := (CC b0 _ hz0).trans hc0; have g1 := (CC b0 _ hz0).trans hc1; have g2 := (CC b0 _ hz0).trans hc2; have g3 := (CC b0 _ hz0).trans hc3; have g4 := (CC b0 _ hz0).trans hc4)
        | (go_at_call 27; refine (HLn.out _ hT4).mono ?_; rintro e w5 ⟨rfl, hb5⟩; have hz5 := hb5.size; have hown5 := own_below hown4 hb5; have hs5 := slB hs4 hb5)
        | (at_builtin
           refine wpList_app _ rfl (.tmp 82) (.tmp 83) _ rfl w3.heap.size 5 i0 _ 1 1 Tryd.underlying55 hi0 hk0 hk1 hk2 rfl (by omega) (.slice Ao m co) m (bs (encAll (L.take k))) rfl hown5 w5.heap.size A4 n4 c4 (bs E) rfl hs5 (bs_one _) (by unfold maxLen; omega) (by omega) (by omega) (m + n4) rfl (bs (encAll (L.take (k + 1)))) (by rw [HET.out, bs_append]) ?_
           intro A6 c6 w6 hc6 hown6 hg6 _
           have hb6 : Below w3.heap.size w3 w6 := below_app ((hbr.trans (hb4.mono (by omega))).trans (hb5.mono (by omega))) hown5 hg6 (by omega)))
      go_roundw
      case rel => exact ⟨k + 1, m + n4, A6, c6, by go_num, by omega, rfl, hc6, by omega, hown6, hb6⟩
      case measure => simp [intOf]; omega
    · obtain rfl : K = k := by omega
      obtain ⟨x, hx, hxC⟩ := hat.out
      have hxn : I32 x.n := HP.out x (List.mem_of_getElem? hx)
      obtain ⟨b0, o0, rfl, hb0, hhas⟩ := hs3.at_ (by omega)
      have hI : (K : Int) < 200 := by omega
      obtain ⟨hc0, hc1, hc2, hc3, hc4⟩ := ins_at (hhas.keep fun i => (bcell hbr).1 b0 i hb0) hx
      clear hx
      obtain ⟨op, a, b, n, f⟩ := x
      simp only at hc0 hc1 hc2 hc3 hc4 hxn
      have hxc' : checkR op a b n f = C := hxC
      have HE := Lib.hid (fun w hT => encode_no op a b n f w hT hxn (by rw [hxc']; exact hC0.out))
      have HCh := Lib.hid (fun w hT => check_any op a b n f w hxn hT)
      rw [hxc'] at HE HCh
      clear hxC hxc'
      go_wp2_with (first
        | (go_at_call 34; refine (HE.out _ hTr).mono ?_; rintro e w4 ⟨rfl, hb4⟩; have hz4 := hb4.size; have hT4 := hTr.grow hb4; have CC := (bcell hb4).1; have hz0 : b0 < wr.heap.size := (by omega); have g0 := (CC b0 _ hz0).trans hc0; have g1 := (CC b0 _ hz0).trans hc1; have g2 := (CC b0 _ hz0).trans hc2; have g3 := (CC b0 _ hz0).trans hc3; have g4 := (CC b0 _ hz0).trans hc4)
        | (go_at_call 26; refine (HCh.out _ hT4).mono ?_; rintro e w5 ⟨rfl, hb5⟩; have hz5 := hb5.size; have hT5 := hT4.grow hb5)
        | (go_at_call 37; refine (known6_any _ hT5).mono ?_; rintro e w8 ⟨rfl, hb8⟩))
      go_ret
      exact ⟨rfl, (((hB3.trans (hbr.mono (by omega))).trans (hb4.mono (by omega))).trans (hb5.mono (by omega))).trans (hb8.mono (by omega))⟩

theorem first_bad : ∀ (l : List Ins), (∀ i ∈ l, i.chk = 0) ∨ ∃ K x, l[K]? = some x ∧ x.chk ≠ 0 ∧ ∀ j ∈ l.take K, j.chk = 0
  | [] => Or.inl (by simp)
  | i :: r => by
    by_cases h : i.chk = 0
    · rcases first_bad r with h1 | ⟨K, x, h1, h2, h3⟩
      · exact Or.inl (fun j hj => by rcases List.mem_cons.1 hj with rfl | hj; · exact h
                                     · exact h1 j hj)
      · exact Or.inr ⟨K + 1, x, by simpa using h1, h2, fun j hj => by
          rw [List.take_succ_cons] at hj
          rcases List.mem_cons.1 hj with rfl | hj
          · exact h
          · exact h3 j hj⟩
    · exact Or.inr ⟨0, i, rfl, h, by simp⟩
theorem all_ok (L : List Ins) (N c : Nat) (hN : N ≤ 200) (hL : L.length = N) (hn : ∀ i ∈ L, I32 i.n) (h : ∀ i ∈ L, i.chk = 0) (w : World) (F : Option Addr) (hT : TabIs 0 w) (hs : Sl w w.heap.size 5 F N (insCells L)) :
    Calls Tryd.prog 38 #[.slice F N c] w (GivesAll w (encAll L)) := by
  refine (all_gen L F N c w hT hL hs (by omega) hn).mono ?_
  rintro e w' (⟨_, h1⟩ | ⟨k, i, hk, _, hi, _⟩)
  · exact h1
  · exact absurd (h i (List.mem_of_getElem? hk)) hi
theorem all_bad (L : List Ins) (N c K : Nat) (x : Ins) (hN : N ≤ 200) (hL : L.length = N) (hn : ∀ i ∈ L, I32 i.n) (hx : L[K]? = some x) (hc : x.chk ≠ 0) (h : ∀ j ∈ L.take K, j.chk = 0) (w : World) (F : Option Addr) (hT : TabIs 0 w) (hs : Sl w w.heap.size 5 F N (insCells L)) :
    Calls Tryd.prog 38 #[.slice F N c] w fun e w' => e = .returned (.tuple #[.slice none 0 0, .int .i64 K, .int .i64 x.chk]) ∧ Below w.heap.size w w' := by
  refine (all_gen L F N c w hT hL hs (by omega) hn).mono ?_
  rintro e w' (⟨h1, _⟩ | ⟨k, i, hk, ht, hi, rfl, hb⟩)
  · exact absurd (h1 x (List.mem_of_getElem? hx)) hc
  · have hkK : k = K := by
      rcases Nat.lt_trichotomy k K with h0 | h0 | h0
      · exact absurd (h i (List.mem_of_getElem? (i := k) (by rw [List.getElem?_take, if_pos h0]; exact hk))) hi
      · exact h0
      · exact absurd (ht x (List.mem_of_getElem? (i := K) (by rw [List.getElem?_take, if_pos h0]; exact hx))) hc
    subst hkK
    rw [hx] at hk
    injection hk with hk
    subst hk
    exact ⟨rfl, hb⟩
theorem walk (w : World) (A : Option Addr) (n0 c0 : Nat) (l : List Ins) (hs : Sl w w.heap.size 5 A n0 (insCells l) ∧ ∀ i ∈ l, i.Ok) (hc : n0 ≤ c0) {B : Prop} (_ : B) (hT : TabIs 0 w) :
    Calls Tryd.prog 14 #[.slice A n0 c0] w fun e w' => e = .returned (.bool true) ∧ Below w.heap.size w w' := by
  obtain ⟨hs, hok⟩ := hs
  have hn : ∀ i ∈ l, I32 i.n := fun i hi => (hok i hi).2.2.2.1
  have hA : A = none → n0 = 0 := by
    intro h0
    rcases Nat.eq_zero_or_pos n0 with h | h
    · exact h
    · obtain ⟨b, o, e, _⟩ := hs.at_ h
      rw [h0] at e
      cases e
  have hl : l.length = n0 := by have := hs.len; rw [insCells_length] at this; omega
  by_cases hbig : 200 < n0
  · have hs2 : Sl w w.heap.size 5 A 200 (insCells (l.take 200)) := by
      have := hs.front (k := 200) (by omega)
      rwa [insCells_take] at this
    have hl2 : (l.take 200).length = 200 := by rw [List.length_take]; omega
    have hn2 : ∀ i ∈ l.take 200, I32 i.n := fun i hi => hn i (List.mem_of_mem_take hi)
    have hro := fun w hs => roomy_inst A 200 c0 (l.take 200) MK w hs (fun h => absurd (hA h) (by omega)) (by omega)
    have hin := fun w F hf hs => intact_inst F A 200 (200 + 80) c0 (l.take 200) MK w hf hs (Nat.le_refl _) (by omega)
    rcases first_bad (l.take 200) with h | ⟨K, x, h1, h2, h3⟩
    · exact big_ok n0 200 c0 A (l.take 200) w hbig rfl (Lib.hid h) hT hl2 (by omega) (by omega) hs2 hn2 (Lib.hid hro) (Lib.hid hin) (Lib.hid fun w F hT hs => all_ok (l.take 200) 200 _ (by omega) hl2 hn2 h w F hT hs)
    · exact big_bad n0 200 c0 A (l.take 200) w hbig rfl K x.chk (by have := (List.getElem?_eq_some_iff.1 h1).1; omega) (Lib.hid h3) (Lib.hid ⟨x, h1, rfl⟩) (by simpa using h2) (Lib.hid h2) hT hl2 (by omega) (by omega) hs2 hn2 (Lib.hid hro) (Lib.hid hin) (Lib.hid fun w F hT hs => all_bad (l.take 200) 200 _ K x (by omega) hl2 hn2 h1 h2 h3 w F hT hs)
  · have hro := fun w hs => roomy_inst A n0 c0 l MK w hs hA (by omega)
    have hin := fun w F hf hs => intact_inst F A n0 (n0 + 80) c0 l MK w hf hs (Nat.le_refl _) (by omega)
    rcases first_bad l with h | ⟨K, x, h1, h2, h3⟩
    · exact small_ok n0 c0 A l w hbig (Lib.hid h) hT hl (by omega) (by omega) hs hn (Lib.hid hro) (Lib.hid hin) (Lib.hid fun w F hT hs => all_ok l n0 _ (by omega) hl hn h w F hT hs)
    · exact small_bad n0 c0 A l w hbig K x.chk (by have := (List.getElem?_eq_some_iff.1 h1).1; omega) (Lib.hid h3) (Lib.hid ⟨x, h1, rfl⟩) (by simpa using h2) (Lib.hid h2) hT hl (by omega) (by omega) hs hn (Lib.hid hro) (Lib.hid hin) (Lib.hid fun w F hT hs => all_bad l n0 _ K x (by omega) hl hn h1 h2 h3 w F hT hs)
end Go.Proofs.YtfplkmldleigpaaDoor.encodeAll
