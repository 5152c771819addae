/- The walk of decode's Decode: what bytes decode to. Conditions: no more bytes than the form reaches. -/
import Derived.Test.YthcjnkakfpmpbaaDoorD5
import Derived.Test.YthcjnkakfpmpbaaDoorD6
import Derived.Test.YthcjnkakfpmpbaaDoorD7
import Derived.Test.YthcjnkakfpmpbaaDoorD8
import Derived.Test.YthcjnkakfpmpbaaDoorD9
import Derived.Test.YthcjnkakfpmpbaaDoorD10
namespace Go.Proofs.YthcjnkakfpmpbaaDoor
open Go.RowKit
set_option linter.unusedVariables false
set_option linter.unusedSimpArgs false

theorem byteD_none : ∀ c : Nat, c < 256 → (byteD c).1 = 0 → (byteD c).2 = 0 := by decide +kernel
theorem byteD_forms : ∀ c : Nat, c < 256 → (byteD c).1 ≠ 0 → (byteD c).2 ∈ formsOf (opShape (byteD c).1) := by decide +kernel
theorem rb_bounds (r : List UInt8) (k : Nat) : 0 ≤ rb r k ∧ rb r k < 256 := by
  unfold rb
  have := (r.getD k 0).toNat_lt
  omega
theorem getR_word (l : List UInt8) (at_ W : Int) (hW : W = 1 ∨ W = 2) : (getR l at_ W).1 < 2147483648 := by
  unfold getR
  split
  · decide
  split
  · decide
  · have hb := leVal_bounds ((l.drop at_.toNat).take W.toNat)
    have hl : ((l.drop at_.toNat).take W.toNat).length ≤ 2 := by rw [List.length_take]; rcases hW with rfl | rfl <;> omega
    have : ((l.drop at_.toNat).take W.toNat).length = 0 ∨ ((l.drop at_.toNat).take W.toNat).length = 1 ∨ ((l.drop at_.toNat).take W.toNat).length = 2 := by omega
    show leVal _ < _
    rcases this with h | h | h <;> rw [h] at hb <;> omega
/-- the byte at a place of a slice -/
theorem sl_rb {w : World} {B b o n : Nat} {l : List UInt8} (h : Sl w B 1 (some ⟨b, o, none⟩) n (bs l)) (k : Nat) (hk : k < n) : w.cell? ⟨b, o + k, none⟩ = some (.int .u8 (rb l k)) := by
  obtain ⟨b', o', x, e, _, hx, hc⟩ := h.byte hk
  injection e with e
  injection e with e1 e2
  subst e1; subst e2
  rw [hc]
  unfold rb
  rw [List.getD_eq_getElem?_getD, hx]
  rfl
theorem rb_drop (l : List UInt8) (F k : Nat) : rb (l.drop F) k = rb l (F + k) := by
  unfold rb
  rw [List.getD_eq_getElem?_getD, List.getD_eq_getElem?_getD, List.getElem?_drop]

theorem told_rest {w : World} {b o n F m c : Nat} {l : List UInt8} (hs : Sl w w.heap.size 1 (some ⟨b, o, none⟩) n (bs l)) (hb : b < w.heap.size) (hm : n - F = m) (hF : F ≤ n) (hn : (n : Int) ≤ 140737488351232) (J W s : Int) (hw : s = 9 ∨ s = 11 → W = 1 ∨ W = 2) (w' : World)
    (hc : ∀ k, w'.cell? ⟨b, k, none⟩ = w.cell? ⟨b, k, none⟩) (hb' : b < w'.heap.size) :
    Calls Tryd.prog 45 #[.slice (some ⟨b, o + F, none⟩) m (c - F), .int .i64 J, .int .i64 W, .int .i64 s] w' fun e w'' => e = .returned (.int .i32 (toldR (l.drop F) J W s)) ∧ w' = w'' := by
  have hl : l.length = n := by have := hs.len; rw [bs_length] at this; omega
  have h1 := hs.mid (i := F) (m := m) (by omega) hb
  rw [List.take_of_length_le (by rw [List.length_drop]; omega)] at h1
  have h2 : Sl w' w'.heap.size 1 (some ⟨b, o + F, none⟩) m (bs (l.drop F)) := by
    refine ⟨h1.len, fun hm0 => ?_⟩
    obtain ⟨b1, o1, e, _, hh⟩ := h1.at_ hm0
    injection e with e
    injection e with e1 e2
    subst e1; subst e2
    exact ⟨b, _, rfl, hb', hh.keep hc⟩
  exact told_any (some ⟨b, o + F, none⟩) m (c - F) (l.drop F) J W s w' h2 (by unfold maxLen; omega) (fun h => getR_word _ _ _ (hw h))

theorem toldR_bounds (r : List UInt8) (J W s : Int) (hw : s = 9 ∨ s = 11 → W = 1 ∨ W = 2) : -2147483648 ≤ toldR r J W s ∧ toldR r J W s ≤ 2147483647 := by
  unfold toldR
  split
  · rename_i h
    have h1 := getR_word r J W (hw h)
    have h2 := getR_bounds r J W
    omega
  · exact sgn_bounds _ _

set_option maxHeartbeats 1000000 in
theorem decode_any (A : Option Addr) (n c : Nat) (l : List UInt8) (at_ : Int) (w : World) (hT : TabIs 0 w) (hs : Sl w w.heap.size 1 A n (bs l)) (hnc : n ≤ c) (hn : (n : Int) ≤ 140737488351232) (ha0 : -9223372036854775808 ≤ at_) (ha1 : at_ ≤ 9223372036854775807) :
    Calls Tryd.prog 16 #[.slice A n c, .int .i64 at_] w (GivesD w (decR l at_)) := by
  have hl : l.length = n := by have := hs.len; rw [bs_length] at this; omega
  unfold decR
  rw [hl]
  by_cases h1 : at_ < 0 ∨ (n : Int) < at_
  · rw [if_pos h1]
    exact dec_arg A n c at_ w h1 ha0 ha1
  rw [if_neg h1]
  by_cases h2 : at_ = n
  · rw [if_pos h2]
    subst h2
    exact dec_end A n c w
  rw [if_neg h2]
  rw [not_or] at h1
  have h0 : 0 ≤ at_ := by omega
  have h1' : at_ < n := by omega
  obtain ⟨b, o, rfl, hb, _⟩ := hs.at_ (by omega)
  have hx := sl_rb hs at_.toNat (by omega)
  have hxb := rb_bounds l at_.toNat
  obtain ⟨x, hxx⟩ : ∃ x, x = rb l at_.toNat := ⟨_, rfl⟩
  rw [← hxx] at hx hxb ⊢
  have hfi := fun w hT => dfind_any x w hT hxb.1 hxb.2
  have hnone : (byteD x).1 = 0 → (byteD x).2 = 0 := by
    obtain ⟨k, rfl⟩ := Int.eq_ofNat_of_zero_le hxb.1
    exact byteD_none k (by omega)
  have hforms : (byteD x).1 ≠ 0 → (byteD x).2 ∈ formsOf (opShape (byteD x).1) := by
    obtain ⟨k, rfl⟩ := Int.eq_ofNat_of_zero_le hxb.1
    exact byteD_forms k (by omega)
  have hbd : 0 ≤ (byteD x).1 ∧ (byteD x).1 ≤ 43 := by
    obtain ⟨k, rfl⟩ := Int.eq_ofNat_of_zero_le hxb.1
    have := byteD_bounds k (by omega)
    exact ⟨this.1, this.2.1⟩
  simp only
  generalize (byteD x).2 = f at *
  generalize (byteD x).1 = op at *
  by_cases hop : op = 0
  · rw [if_pos hop]
    subst hop
    rw [hnone rfl] at hfi
    exact dec_none b o n c at_ x w hT h0 h1' hb hx (Lib.hid (fun w hT => hfi w hT))
  rw [if_neg hop]
  have hisop : isOp op = true := by simp [isOp]; omega
  have hff := hforms hop
  have hs13 := (shape_bounds op).1 hisop
  unfold opVal at hfi
  rw [hisop] at hfi
  clear hnone hforms hbd
  obtain ⟨F, hF⟩ : ∃ F, (at_ + 1).toNat = F := ⟨_, rfl⟩
  obtain ⟨m, hm⟩ : ∃ m, n - F = m := ⟨_, rfl⟩
  have hcap : F ≤ n := by omega
  have hmI : (n : Int) - (F : Int) = m := by omega
  have hatF : (n : Int) - at_ = (m : Int) + 1 := by omega
  rw [hF, hatF]
  have hr0 : 1 ≤ m → w.cell? ⟨b, o + F, none⟩ = some (.int .u8 (rb (l.drop F) 0)) := fun h => by rw [rb_drop]; exact sl_rb hs F (by omega)
  have hr1 : 2 ≤ m → w.cell? ⟨b, o + F + 1, none⟩ = some (.int .u8 (rb (l.drop F) 1)) := fun h => by rw [rb_drop, Nat.add_assoc]; exact sl_rb hs (F + 1) (by omega)
  have hto := fun J W s hw w' hc hb' => told_rest (c := c) hs hb hm hcap hn J W s hw w' hc hb'
  have hN := fun (op a b n f : Int) (h : -2147483648 ≤ n ∧ n ≤ 2147483647) w hT => check_any op a b n f w h hT
  generalize l.drop F = r at *
  have hb0 := rb_bounds r 0
  have hb1 := rb_bounds r 1
  obtain ⟨s, hse⟩ : ∃ s, s = opShape op := ⟨_, rfl⟩
  rw [← hse] at hff hs13 hfi ⊢
  clear hse
  rcases thirteen hs13 with rfl | rfl | rfl | rfl | rfl | rfl | rfl | rfl | rfl | rfl | rfl | rfl | rfl <;> simp [formsOf] at hff
  · subst hff
    have hI : insD op 0 1 r = ⟨op, 0, 0, 0, 0⟩ := by simp [insD, widthD]
    rw [hI, show sizeR 1 0 = 1 from by decide]
    simp only
    rw [if_neg (by omega)]
    have hch := hN op 0 0 0 0 (by omega)
    by_cases hC : checkR op 0 0 0 0 = 0
    · rw [if_pos hC]
      rw [hC] at hch
      by_cases hcF : c = F
      · exact dec_1_0_okc b o n c F m at_ x op (opByte op) _ w hT h0 h1' hn hnc hb hF hm (by simp [hcF]) (by omega) hmI hcap hx  (Lib.hid hch) (Lib.hid fun w hT => hfi w hT)
      · exact dec_1_0_ok b o n c F m at_ x op (opByte op) _ w hT h0 h1' hn hnc hb hF hm (by simp [hcF]) hmI hcap hx  (Lib.hid hch) (Lib.hid fun w hT => hfi w hT)
    · rw [if_neg hC]
      by_cases hcF : c = F
      · exact dec_1_0_badc b o n c F m at_ x op (opByte op) _ w hT h0 h1' hn hnc hb hF hm (by simp [hcF]) (by omega) hmI hcap hx  _ (by simpa using hC) (Lib.hid hch) (Lib.hid fun w hT => hfi w hT)
      · exact dec_1_0_bad b o n c F m at_ x op (opByte op) _ w hT h0 h1' hn hnc hb hF hm (by simp [hcF]) hmI hcap hx  _ (by simpa using hC) (Lib.hid hch) (Lib.hid fun w hT => hfi w hT)
  · subst hff
    have hI : insD op 0 2 r = ⟨op, (rb r 0), 0, 0, 0⟩ := by simp [insD, widthD]
    rw [hI, show sizeR 2 0 = 2 from by decide]
    simp only
    by_cases hsh : (m : Int) + 1 < 2
    · rw [if_pos hsh]
      by_cases hcF : c = F
      · exact dec_2_0_shortc b o n c F m at_ x op (opByte op) _ w hT h0 h1' hn hnc hb hF hm (by simp [hcF]) (by omega) hmI hcap (by omega) hx (Lib.hid fun w hT => hfi w hT)
      · exact dec_2_0_short b o n c F m at_ x op (opByte op) _ w hT h0 h1' hn hnc hb hF hm (by simp [hcF]) hmI hcap (by omega) hx (Lib.hid fun w hT => hfi w hT)
    · rw [if_neg hsh]
      have hcF : (c = F) = False := by simp; omega
      have hch := hN op (rb r 0) 0 0 0 (by omega)
      by_cases hC : checkR op (rb r 0) 0 0 0 = 0
      · rw [if_pos hC]
        rw [hC] at hch
        exact dec_2_0_ok b o n c F m at_ x op (opByte op) _ w hT h0 h1' hn hnc hb hF hm hcF hmI hcap (by omega) hx (rb r 0) hb0 (hr0 (by omega)) (Lib.hid hch) (Lib.hid fun w hT => hfi w hT)
      · rw [if_neg hC]
        exact dec_2_0_bad b o n c F m at_ x op (opByte op) _ w hT h0 h1' hn hnc hb hF hm hcF hmI hcap (by omega) hx (rb r 0) hb0 (hr0 (by omega)) _ (by simpa using hC) (Lib.hid hch) (Lib.hid fun w hT => hfi w hT)
  · subst hff
    have hI : insD op 0 3 r = ⟨op, (rb r 0), 0, 0, 0⟩ := by simp [insD, widthD]
    rw [hI, show sizeR 3 0 = 2 from by decide]
    simp only
    by_cases hsh : (m : Int) + 1 < 2
    · rw [if_pos hsh]
      by_cases hcF : c = F
      · exact dec_3_0_shortc b o n c F m at_ x op (opByte op) _ w hT h0 h1' hn hnc hb hF hm (by simp [hcF]) (by omega) hmI hcap (by omega) hx (Lib.hid fun w hT => hfi w hT)
      · exact dec_3_0_short b o n c F m at_ x op (opByte op) _ w hT h0 h1' hn hnc hb hF hm (by simp [hcF]) hmI hcap (by omega) hx (Lib.hid fun w hT => hfi w hT)
    · rw [if_neg hsh]
      have hcF : (c = F) = False := by simp; omega
      have hch := hN op (rb r 0) 0 0 0 (by omega)
      by_cases hC : checkR op (rb r 0) 0 0 0 = 0
      · rw [if_pos hC]
        rw [hC] at hch
        exact dec_3_0_ok b o n c F m at_ x op (opByte op) _ w hT h0 h1' hn hnc hb hF hm hcF hmI hcap (by omega) hx (rb r 0) hb0 (hr0 (by omega)) (Lib.hid hch) (Lib.hid fun w hT => hfi w hT)
      · rw [if_neg hC]
        exact dec_3_0_bad b o n c F m at_ x op (opByte op) _ w hT h0 h1' hn hnc hb hF hm hcF hmI hcap (by omega) hx (rb r 0) hb0 (hr0 (by omega)) _ (by simpa using hC) (Lib.hid hch) (Lib.hid fun w hT => hfi w hT)
  · subst hff
    have hI : insD op 0 4 r = ⟨op, (rb r 0 / 16), (rb r 0 % 16), 0, 0⟩ := by simp [insD, widthD]
    rw [hI, show sizeR 4 0 = 2 from by decide]
    simp only
    by_cases hsh : (m : Int) + 1 < 2
    · rw [if_pos hsh]
      by_cases hcF : c = F
      · exact dec_4_0_shortc b o n c F m at_ x op (opByte op) _ w hT h0 h1' hn hnc hb hF hm (by simp [hcF]) (by omega) hmI hcap (by omega) hx (Lib.hid fun w hT => hfi w hT)
      · exact dec_4_0_short b o n c F m at_ x op (opByte op) _ w hT h0 h1' hn hnc hb hF hm (by simp [hcF]) hmI hcap (by omega) hx (Lib.hid fun w hT => hfi w hT)
    · rw [if_neg hsh]
      have hcF : (c = F) = False := by simp; omega
      have hch := hN op (rb r 0 / 16) (rb r 0 % 16) 0 0 (by omega)
      by_cases hC : checkR op (rb r 0 / 16) (rb r 0 % 16) 0 0 = 0
      · rw [if_pos hC]
        rw [hC] at hch
        exact dec_4_0_ok b o n c F m at_ x op (opByte op) _ w hT h0 h1' hn hnc hb hF hm hcF hmI hcap (by omega) hx (rb r 0) hb0 (hr0 (by omega)) (Lib.hid hch) (Lib.hid fun w hT => hfi w hT)
      · rw [if_neg hC]
        exact dec_4_0_bad b o n c F m at_ x op (opByte op) _ w hT h0 h1' hn hnc hb hF hm hcF hmI hcap (by omega) hx (rb r 0) hb0 (hr0 (by omega)) _ (by simpa using hC) (Lib.hid hch) (Lib.hid fun w hT => hfi w hT)
  · subst hff
    have hI : insD op 0 5 r = ⟨op, (rb r 0 / 16), (rb r 0 % 16), 0, 0⟩ := by simp [insD, widthD]
    rw [hI, show sizeR 5 0 = 2 from by decide]
    simp only
    by_cases hsh : (m : Int) + 1 < 2
    · rw [if_pos hsh]
      by_cases hcF : c = F
      · exact dec_5_0_shortc b o n c F m at_ x op (opByte op) _ w hT h0 h1' hn hnc hb hF hm (by simp [hcF]) (by omega) hmI hcap (by omega) hx (Lib.hid fun w hT => hfi w hT)
      · exact dec_5_0_short b o n c F m at_ x op (opByte op) _ w hT h0 h1' hn hnc hb hF hm (by simp [hcF]) hmI hcap (by omega) hx (Lib.hid fun w hT => hfi w hT)
    · rw [if_neg hsh]
      have hcF : (c = F) = False := by simp; omega
      have hch := hN op (rb r 0 / 16) (rb r 0 % 16) 0 0 (by omega)
      by_cases hC : checkR op (rb r 0 / 16) (rb r 0 % 16) 0 0 = 0
      · rw [if_pos hC]
        rw [hC] at hch
        exact dec_5_0_ok b o n c F m at_ x op (opByte op) _ w hT h0 h1' hn hnc hb hF hm hcF hmI hcap (by omega) hx (rb r 0) hb0 (hr0 (by omega)) (Lib.hid hch) (Lib.hid fun w hT => hfi w hT)
      · rw [if_neg hC]
        exact dec_5_0_bad b o n c F m at_ x op (opByte op) _ w hT h0 h1' hn hnc hb hF hm hcF hmI hcap (by omega) hx (rb r 0) hb0 (hr0 (by omega)) _ (by simpa using hC) (Lib.hid hch) (Lib.hid fun w hT => hfi w hT)
  · subst hff
    have hI : insD op 0 6 r = ⟨op, (rb r 0 / 16), (rb r 0 % 16), 0, 0⟩ := by simp [insD, widthD]
    rw [hI, show sizeR 6 0 = 2 from by decide]
    simp only
    by_cases hsh : (m : Int) + 1 < 2
    · rw [if_pos hsh]
      by_cases hcF : c = F
      · exact dec_6_0_shortc b o n c F m at_ x op (opByte op) _ w hT h0 h1' hn hnc hb hF hm (by simp [hcF]) (by omega) hmI hcap (by omega) hx (Lib.hid fun w hT => hfi w hT)
      · exact dec_6_0_short b o n c F m at_ x op (opByte op) _ w hT h0 h1' hn hnc hb hF hm (by simp [hcF]) hmI hcap (by omega) hx (Lib.hid fun w hT => hfi w hT)
    · rw [if_neg hsh]
      have hcF : (c = F) = False := by simp; omega
      have hch := hN op (rb r 0 / 16) (rb r 0 % 16) 0 0 (by omega)
      by_cases hC : checkR op (rb r 0 / 16) (rb r 0 % 16) 0 0 = 0
      · rw [if_pos hC]
        rw [hC] at hch
        exact dec_6_0_ok b o n c F m at_ x op (opByte op) _ w hT h0 h1' hn hnc hb hF hm hcF hmI hcap (by omega) hx (rb r 0) hb0 (hr0 (by omega)) (Lib.hid hch) (Lib.hid fun w hT => hfi w hT)
      · rw [if_neg hC]
        exact dec_6_0_bad b o n c F m at_ x op (opByte op) _ w hT h0 h1' hn hnc hb hF hm hcF hmI hcap (by omega) hx (rb r 0) hb0 (hr0 (by omega)) _ (by simpa using hC) (Lib.hid hch) (Lib.hid fun w hT => hfi w hT)
  · subst hff
    have hI : insD op 0 7 r = ⟨op, (rb r 0), (rb r 1 / 16), (rb r 1 % 16), 0⟩ := by simp [insD, widthD]
    rw [hI, show sizeR 7 0 = 3 from by decide]
    simp only
    by_cases hsh : (m : Int) + 1 < 3
    · rw [if_pos hsh]
      by_cases hcF : c = F
      · exact dec_7_0_shortc b o n c F m at_ x op (opByte op) _ w hT h0 h1' hn hnc hb hF hm (by simp [hcF]) (by omega) hmI hcap (by omega) hx (Lib.hid fun w hT => hfi w hT)
      · exact dec_7_0_short b o n c F m at_ x op (opByte op) _ w hT h0 h1' hn hnc hb hF hm (by simp [hcF]) hmI hcap (by omega) hx (Lib.hid fun w hT => hfi w hT)
    · rw [if_neg hsh]
      have hcF : (c = F) = False := by simp; omega
      have hch := hN op (rb r 0) (rb r 1 / 16) (rb r 1 % 16) 0 (by omega)
      by_cases hC : checkR op (rb r 0) (rb r 1 / 16) (rb r 1 % 16) 0 = 0
      · rw [if_pos hC]
        rw [hC] at hch
        exact dec_7_0_ok b o n c F m at_ x op (opByte op) _ w hT h0 h1' hn hnc hb hF hm hcF hmI hcap (by omega) hx (rb r 0) hb0 (hr0 (by omega)) (rb r 1) hb1 (hr1 (by omega)) (Lib.hid hch) (Lib.hid fun w hT => hfi w hT)
      · rw [if_neg hC]
        exact dec_7_0_bad b o n c F m at_ x op (opByte op) _ w hT h0 h1' hn hnc hb hF hm hcF hmI hcap (by omega) hx (rb r 0) hb0 (hr0 (by omega)) (rb r 1) hb1 (hr1 (by omega)) _ (by simpa using hC) (Lib.hid hch) (Lib.hid fun w hT => hfi w hT)
  · subst hff
    have hI : insD op 0 8 r = ⟨op, (rb r 0), 0, (toldR r 1 1 8), 0⟩ := by simp [insD, widthD]
    rw [hI, show sizeR 8 0 = 3 from by decide]
    simp only
    by_cases hsh : (m : Int) + 1 < 3
    · rw [if_pos hsh]
      by_cases hcF : c = F
      · exact dec_8_0_shortc b o n c F m at_ x op (opByte op) _ w hT h0 h1' hn hnc hb hF hm (by simp [hcF]) (by omega) hmI hcap (by omega) hx (Lib.hid fun w hT => hfi w hT)
      · exact dec_8_0_short b o n c F m at_ x op (opByte op) _ w hT h0 h1' hn hnc hb hF hm (by simp [hcF]) hmI hcap (by omega) hx (Lib.hid fun w hT => hfi w hT)
    · rw [if_neg hsh]
      have hcF : (c = F) = False := by simp; omega
      have hch := hN op (rb r 0) 0 (toldR r 1 1 8) 0 (toldR_bounds r 1 1 8 (by omega))
      by_cases hC : checkR op (rb r 0) 0 (toldR r 1 1 8) 0 = 0
      · rw [if_pos hC]
        rw [hC] at hch
        exact dec_8_0_ok b o n c F m at_ x op (opByte op) _ w hT h0 h1' hn hnc hb hF hm hcF hmI hcap (by omega) hx (rb r 0) hb0 (hr0 (by omega)) (toldR r 1 1 8) (Lib.hid fun w' hc hb' => hto 1 1 8 (by omega) w' hc hb') (Lib.hid hch) (Lib.hid fun w hT => hfi w hT)
      · rw [if_neg hC]
        exact dec_8_0_bad b o n c F m at_ x op (opByte op) _ w hT h0 h1' hn hnc hb hF hm hcF hmI hcap (by omega) hx (rb r 0) hb0 (hr0 (by omega)) (toldR r 1 1 8) (Lib.hid fun w' hc hb' => hto 1 1 8 (by omega) w' hc hb') _ (by simpa using hC) (Lib.hid hch) (Lib.hid fun w hT => hfi w hT)
  · subst hff
    have hI : insD op 0 9 r = ⟨op, 0, 0, (toldR r 0 1 9), 0⟩ := by simp [insD, widthD]
    rw [hI, show sizeR 9 0 = 2 from by decide]
    simp only
    by_cases hsh : (m : Int) + 1 < 2
    · rw [if_pos hsh]
      by_cases hcF : c = F
      · exact dec_9_0_shortc b o n c F m at_ x op (opByte op) _ w hT h0 h1' hn hnc hb hF hm (by simp [hcF]) (by omega) hmI hcap (by omega) hx (Lib.hid fun w hT => hfi w hT)
      · exact dec_9_0_short b o n c F m at_ x op (opByte op) _ w hT h0 h1' hn hnc hb hF hm (by simp [hcF]) hmI hcap (by omega) hx (Lib.hid fun w hT => hfi w hT)
    · rw [if_neg hsh]
      have hcF : (c = F) = False := by simp; omega
      have hch := hN op 0 0 (toldR r 0 1 9) 0 (toldR_bounds r 0 1 9 (by omega))
      by_cases hC : checkR op 0 0 (toldR r 0 1 9) 0 = 0
      · rw [if_pos hC]
        rw [hC] at hch
        exact dec_9_0_ok b o n c F m at_ x op (opByte op) _ w hT h0 h1' hn hnc hb hF hm hcF hmI hcap (by omega) hx (toldR r 0 1 9) (Lib.hid fun w' hc hb' => hto 0 1 9 (by omega) w' hc hb') (Lib.hid hch) (Lib.hid fun w hT => hfi w hT)
      · rw [if_neg hC]
        exact dec_9_0_bad b o n c F m at_ x op (opByte op) _ w hT h0 h1' hn hnc hb hF hm hcF hmI hcap (by omega) hx (toldR r 0 1 9) (Lib.hid fun w' hc hb' => hto 0 1 9 (by omega) w' hc hb') _ (by simpa using hC) (Lib.hid hch) (Lib.hid fun w hT => hfi w hT)
  · subst hff
    have hI : insD op 0 10 r = ⟨op, (rb r 0), 0, (toldR r 1 4 10), 0⟩ := by simp [insD, widthD]
    rw [hI, show sizeR 10 0 = 6 from by decide]
    simp only
    by_cases hsh : (m : Int) + 1 < 6
    · rw [if_pos hsh]
      by_cases hcF : c = F
      · exact dec_10_0_shortc b o n c F m at_ x op (opByte op) _ w hT h0 h1' hn hnc hb hF hm (by simp [hcF]) (by omega) hmI hcap (by omega) hx (Lib.hid fun w hT => hfi w hT)
      · exact dec_10_0_short b o n c F m at_ x op (opByte op) _ w hT h0 h1' hn hnc hb hF hm (by simp [hcF]) hmI hcap (by omega) hx (Lib.hid fun w hT => hfi w hT)
    · rw [if_neg hsh]
      have hcF : (c = F) = False := by simp; omega
      have hch := hN op (rb r 0) 0 (toldR r 1 4 10) 0 (toldR_bounds r 1 4 10 (by omega))
      by_cases hC : checkR op (rb r 0) 0 (toldR r 1 4 10) 0 = 0
      · rw [if_pos hC]
        rw [hC] at hch
        exact dec_10_0_ok b o n c F m at_ x op (opByte op) _ w hT h0 h1' hn hnc hb hF hm hcF hmI hcap (by omega) hx (rb r 0) hb0 (hr0 (by omega)) (toldR r 1 4 10) (Lib.hid fun w' hc hb' => hto 1 4 10 (by omega) w' hc hb') (Lib.hid hch) (Lib.hid fun w hT => hfi w hT)
      · rw [if_neg hC]
        exact dec_10_0_bad b o n c F m at_ x op (opByte op) _ w hT h0 h1' hn hnc hb hF hm hcF hmI hcap (by omega) hx (rb r 0) hb0 (hr0 (by omega)) (toldR r 1 4 10) (Lib.hid fun w' hc hb' => hto 1 4 10 (by omega) w' hc hb') _ (by simpa using hC) (Lib.hid hch) (Lib.hid fun w hT => hfi w hT)
  · subst hff
    have hI : insD op 0 11 r = ⟨op, (rb r 0), 0, (toldR r 1 2 11), 0⟩ := by simp [insD, widthD]
    rw [hI, show sizeR 11 0 = 4 from by decide]
    simp only
    by_cases hsh : (m : Int) + 1 < 4
    · rw [if_pos hsh]
      by_cases hcF : c = F
      · exact dec_11_0_shortc b o n c F m at_ x op (opByte op) _ w hT h0 h1' hn hnc hb hF hm (by simp [hcF]) (by omega) hmI hcap (by omega) hx (Lib.hid fun w hT => hfi w hT)
      · exact dec_11_0_short b o n c F m at_ x op (opByte op) _ w hT h0 h1' hn hnc hb hF hm (by simp [hcF]) hmI hcap (by omega) hx (Lib.hid fun w hT => hfi w hT)
    · rw [if_neg hsh]
      have hcF : (c = F) = False := by simp; omega
      have hch := hN op (rb r 0) 0 (toldR r 1 2 11) 0 (toldR_bounds r 1 2 11 (by omega))
      by_cases hC : checkR op (rb r 0) 0 (toldR r 1 2 11) 0 = 0
      · rw [if_pos hC]
        rw [hC] at hch
        exact dec_11_0_ok b o n c F m at_ x op (opByte op) _ w hT h0 h1' hn hnc hb hF hm hcF hmI hcap (by omega) hx (rb r 0) hb0 (hr0 (by omega)) (toldR r 1 2 11) (Lib.hid fun w' hc hb' => hto 1 2 11 (by omega) w' hc hb') (Lib.hid hch) (Lib.hid fun w hT => hfi w hT)
      · rw [if_neg hC]
        exact dec_11_0_bad b o n c F m at_ x op (opByte op) _ w hT h0 h1' hn hnc hb hF hm hcF hmI hcap (by omega) hx (rb r 0) hb0 (hr0 (by omega)) (toldR r 1 2 11) (Lib.hid fun w' hc hb' => hto 1 2 11 (by omega) w' hc hb') _ (by simpa using hC) (Lib.hid hch) (Lib.hid fun w hT => hfi w hT)
  · rcases hff with rfl | rfl | rfl
    · have hI : insD op 1 12 r = ⟨op, 0, 0, (toldR r 0 1 12), 1⟩ := by simp [insD, widthD]
      rw [hI, show sizeR 12 1 = 2 from by decide]
      simp only
      by_cases hsh : (m : Int) + 1 < 2
      · rw [if_pos hsh]
        by_cases hcF : c = F
        · exact dec_12_1_shortc b o n c F m at_ x op (opByte op) _ w hT h0 h1' hn hnc hb hF hm (by simp [hcF]) (by omega) hmI hcap (by omega) hx (Lib.hid fun w hT => hfi w hT)
        · exact dec_12_1_short b o n c F m at_ x op (opByte op) _ w hT h0 h1' hn hnc hb hF hm (by simp [hcF]) hmI hcap (by omega) hx (Lib.hid fun w hT => hfi w hT)
      · rw [if_neg hsh]
        have hcF : (c = F) = False := by simp; omega
        have hch := hN op 0 0 (toldR r 0 1 12) 1 (toldR_bounds r 0 1 12 (by omega))
        by_cases hC : checkR op 0 0 (toldR r 0 1 12) 1 = 0
        · rw [if_pos hC]
          rw [hC] at hch
          exact dec_12_1_ok b o n c F m at_ x op (opByte op) _ w hT h0 h1' hn hnc hb hF hm hcF hmI hcap (by omega) hx (toldR r 0 1 12) (Lib.hid fun w' hc hb' => hto 0 1 12 (by omega) w' hc hb') (Lib.hid hch) (Lib.hid fun w hT => hfi w hT)
        · rw [if_neg hC]
          exact dec_12_1_bad b o n c F m at_ x op (opByte op) _ w hT h0 h1' hn hnc hb hF hm hcF hmI hcap (by omega) hx (toldR r 0 1 12) (Lib.hid fun w' hc hb' => hto 0 1 12 (by omega) w' hc hb') _ (by simpa using hC) (Lib.hid hch) (Lib.hid fun w hT => hfi w hT)
    · have hI : insD op 2 12 r = ⟨op, 0, 0, (toldR r 0 2 12), 2⟩ := by simp [insD, widthD]
      rw [hI, show sizeR 12 2 = 3 from by decide]
      simp only
      by_cases hsh : (m : Int) + 1 < 3
      · rw [if_pos hsh]
        by_cases hcF : c = F
        · exact dec_12_2_shortc b o n c F m at_ x op (opByte op) _ w hT h0 h1' hn hnc hb hF hm (by simp [hcF]) (by omega) hmI hcap (by omega) hx (Lib.hid fun w hT => hfi w hT)
        · exact dec_12_2_short b o n c F m at_ x op (opByte op) _ w hT h0 h1' hn hnc hb hF hm (by simp [hcF]) hmI hcap (by omega) hx (Lib.hid fun w hT => hfi w hT)
      · rw [if_neg hsh]
        have hcF : (c = F) = False := by simp; omega
        have hch := hN op 0 0 (toldR r 0 2 12) 2 (toldR_bounds r 0 2 12 (by omega))
        by_cases hC : checkR op 0 0 (toldR r 0 2 12) 2 = 0
        · rw [if_pos hC]
          rw [hC] at hch
          exact dec_12_2_ok b o n c F m at_ x op (opByte op) _ w hT h0 h1' hn hnc hb hF hm hcF hmI hcap (by omega) hx (toldR r 0 2 12) (Lib.hid fun w' hc hb' => hto 0 2 12 (by omega) w' hc hb') (Lib.hid hch) (Lib.hid fun w hT => hfi w hT)
        · rw [if_neg hC]
          exact dec_12_2_bad b o n c F m at_ x op (opByte op) _ w hT h0 h1' hn hnc hb hF hm hcF hmI hcap (by omega) hx (toldR r 0 2 12) (Lib.hid fun w' hc hb' => hto 0 2 12 (by omega) w' hc hb') _ (by simpa using hC) (Lib.hid hch) (Lib.hid fun w hT => hfi w hT)
    · have hI : insD op 4 12 r = ⟨op, 0, 0, (toldR r 0 4 12), 4⟩ := by simp [insD, widthD]
      rw [hI, show sizeR 12 4 = 5 from by decide]
      simp only
      by_cases hsh : (m : Int) + 1 < 5
      · rw [if_pos hsh]
        by_cases hcF : c = F
        · exact dec_12_4_shortc b o n c F m at_ x op (opByte op) _ w hT h0 h1' hn hnc hb hF hm (by simp [hcF]) (by omega) hmI hcap (by omega) hx (Lib.hid fun w hT => hfi w hT)
        · exact dec_12_4_short b o n c F m at_ x op (opByte op) _ w hT h0 h1' hn hnc hb hF hm (by simp [hcF]) hmI hcap (by omega) hx (Lib.hid fun w hT => hfi w hT)
      · rw [if_neg hsh]
        have hcF : (c = F) = False := by simp; omega
        have hch := hN op 0 0 (toldR r 0 4 12) 4 (toldR_bounds r 0 4 12 (by omega))
        by_cases hC : checkR op 0 0 (toldR r 0 4 12) 4 = 0
        · rw [if_pos hC]
          rw [hC] at hch
          exact dec_12_4_ok b o n c F m at_ x op (opByte op) _ w hT h0 h1' hn hnc hb hF hm hcF hmI hcap (by omega) hx (toldR r 0 4 12) (Lib.hid fun w' hc hb' => hto 0 4 12 (by omega) w' hc hb') (Lib.hid hch) (Lib.hid fun w hT => hfi w hT)
        · rw [if_neg hC]
          exact dec_12_4_bad b o n c F m at_ x op (opByte op) _ w hT h0 h1' hn hnc hb hF hm hcF hmI hcap (by omega) hx (toldR r 0 4 12) (Lib.hid fun w' hc hb' => hto 0 4 12 (by omega) w' hc hb') _ (by simpa using hC) (Lib.hid hch) (Lib.hid fun w hT => hfi w hT)
  · rcases hff with rfl | rfl | rfl
    · have hI : insD op 1 13 r = ⟨op, (rb r 0), 0, (toldR r 1 1 13), 1⟩ := by simp [insD, widthD]
      rw [hI, show sizeR 13 1 = 3 from by decide]
      simp only
      by_cases hsh : (m : Int) + 1 < 3
      · rw [if_pos hsh]
        by_cases hcF : c = F
        · exact dec_13_1_shortc b o n c F m at_ x op (opByte op) _ w hT h0 h1' hn hnc hb hF hm (by simp [hcF]) (by omega) hmI hcap (by omega) hx (Lib.hid fun w hT => hfi w hT)
        · exact dec_13_1_short b o n c F m at_ x op (opByte op) _ w hT h0 h1' hn hnc hb hF hm (by simp [hcF]) hmI hcap (by omega) hx (Lib.hid fun w hT => hfi w hT)
      · rw [if_neg hsh]
        have hcF : (c = F) = False := by simp; omega
        have hch := hN op (rb r 0) 0 (toldR r 1 1 13) 1 (toldR_bounds r 1 1 13 (by omega))
        by_cases hC : checkR op (rb r 0) 0 (toldR r 1 1 13) 1 = 0
        · rw [if_pos hC]
          rw [hC] at hch
          exact dec_13_1_ok b o n c F m at_ x op (opByte op) _ w hT h0 h1' hn hnc hb hF hm hcF hmI hcap (by omega) hx (rb r 0) hb0 (hr0 (by omega)) (toldR r 1 1 13) (Lib.hid fun w' hc hb' => hto 1 1 13 (by omega) w' hc hb') (Lib.hid hch) (Lib.hid fun w hT => hfi w hT)
        · rw [if_neg hC]
          exact dec_13_1_bad b o n c F m at_ x op (opByte op) _ w hT h0 h1' hn hnc hb hF hm hcF hmI hcap (by omega) hx (rb r 0) hb0 (hr0 (by omega)) (toldR r 1 1 13) (Lib.hid fun w' hc hb' => hto 1 1 13 (by omega) w' hc hb') _ (by simpa using hC) (Lib.hid hch) (Lib.hid fun w hT => hfi w hT)
    · have hI : insD op 2 13 r = ⟨op, (rb r 0), 0, (toldR r 1 2 13), 2⟩ := by simp [insD, widthD]
      rw [hI, show sizeR 13 2 = 4 from by decide]
      simp only
      by_cases hsh : (m : Int) + 1 < 4
      · rw [if_pos hsh]
        by_cases hcF : c = F
        · exact dec_13_2_shortc b o n c F m at_ x op (opByte op) _ w hT h0 h1' hn hnc hb hF hm (by simp [hcF]) (by omega) hmI hcap (by omega) hx (Lib.hid fun w hT => hfi w hT)
        · exact dec_13_2_short b o n c F m at_ x op (opByte op) _ w hT h0 h1' hn hnc hb hF hm (by simp [hcF]) hmI hcap (by omega) hx (Lib.hid fun w hT => hfi w hT)
      · rw [if_neg hsh]
        have hcF : (c = F) = False := by simp; omega
        have hch := hN op (rb r 0) 0 (toldR r 1 2 13) 2 (toldR_bounds r 1 2 13 (by omega))
        by_cases hC : checkR op (rb r 0) 0 (toldR r 1 2 13) 2 = 0
        · rw [if_pos hC]
          rw [hC] at hch
          exact dec_13_2_ok b o n c F m at_ x op (opByte op) _ w hT h0 h1' hn hnc hb hF hm hcF hmI hcap (by omega) hx (rb r 0) hb0 (hr0 (by omega)) (toldR r 1 2 13) (Lib.hid fun w' hc hb' => hto 1 2 13 (by omega) w' hc hb') (Lib.hid hch) (Lib.hid fun w hT => hfi w hT)
        · rw [if_neg hC]
          exact dec_13_2_bad b o n c F m at_ x op (opByte op) _ w hT h0 h1' hn hnc hb hF hm hcF hmI hcap (by omega) hx (rb r 0) hb0 (hr0 (by omega)) (toldR r 1 2 13) (Lib.hid fun w' hc hb' => hto 1 2 13 (by omega) w' hc hb') _ (by simpa using hC) (Lib.hid hch) (Lib.hid fun w hT => hfi w hT)
    · have hI : insD op 4 13 r = ⟨op, (rb r 0), 0, (toldR r 1 4 13), 4⟩ := by simp [insD, widthD]
      rw [hI, show sizeR 13 4 = 6 from by decide]
      simp only
      by_cases hsh : (m : Int) + 1 < 6
      · rw [if_pos hsh]
        by_cases hcF : c = F
        · exact dec_13_4_shortc b o n c F m at_ x op (opByte op) _ w hT h0 h1' hn hnc hb hF hm (by simp [hcF]) (by omega) hmI hcap (by omega) hx (Lib.hid fun w hT => hfi w hT)
        · exact dec_13_4_short b o n c F m at_ x op (opByte op) _ w hT h0 h1' hn hnc hb hF hm (by simp [hcF]) hmI hcap (by omega) hx (Lib.hid fun w hT => hfi w hT)
      · rw [if_neg hsh]
        have hcF : (c = F) = False := by simp; omega
        have hch := hN op (rb r 0) 0 (toldR r 1 4 13) 4 (toldR_bounds r 1 4 13 (by omega))
        by_cases hC : checkR op (rb r 0) 0 (toldR r 1 4 13) 4 = 0
        · rw [if_pos hC]
          rw [hC] at hch
          exact dec_13_4_ok b o n c F m at_ x op (opByte op) _ w hT h0 h1' hn hnc hb hF hm hcF hmI hcap (by omega) hx (rb r 0) hb0 (hr0 (by omega)) (toldR r 1 4 13) (Lib.hid fun w' hc hb' => hto 1 4 13 (by omega) w' hc hb') (Lib.hid hch) (Lib.hid fun w hT => hfi w hT)
        · rw [if_neg hC]
          exact dec_13_4_bad b o n c F m at_ x op (opByte op) _ w hT h0 h1' hn hnc hb hF hm hcF hmI hcap (by omega) hx (rb r 0) hb0 (hr0 (by omega)) (toldR r 1 4 13) (Lib.hid fun w' hc hb' => hto 1 4 13 (by omega) w' hc hb') _ (by simpa using hC) (Lib.hid hch) (Lib.hid fun w hT => hfi w hT)
end Go.Proofs.YthcjnkakfpmpbaaDoor
