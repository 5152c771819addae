/- The walks of PutText and GetText, octet's and the reference's. -/
import Derived.Test.YtjcoanpnbaeobaaA4
import Derived.Test.YtjcoanpnbaeobaaA5
import Derived.Lib.AppendStr
namespace Go.Proofs.Ytjcoanpnbaeobaa
open Go.RowKit
set_option linter.unusedVariables false

/-- append(s, text...) in a walk, s the call's own -/
theorem wpList_appS {P : Program} (w : World) {ops : Array Oper} {rest : List Oper} {o : Oper} {a : Act} {Q : Exit → Act → World → Prop} (hgd : o.guard = none) (sl x : Operand) (t u : TypeId)
    (ho : o.op = .call { callee := .builtin .append, args := #[sl, x], argTypes := #[t, u] })
    (base : Nat) (e : TypeId) (i : TypeInfo) (ht : P.underlying t = some (.slice e)) (hu : P.underlying u = some .string) (hi : P.info? e = some i) (hz : i.zero = some (.int .u8 0))
    (hsize : i.size = 1) (hby : i.bytes = 1)
    (v : Value) (n : Nat) (xs : List UInt8) (hs : a.eval sl = v) (hown : w.ownsRow base e 1 v n (bs xs)) (s : ByteArray) (hx : a.eval x = .string s)
    (hbytes : n + s.size ≤ 140737488355328) (hbase : base ≤ w.heap.size)
    (h : ∀ A' N c' w', N ≤ c' → w'.ownsRow base e 1 (.slice A' N c') N (bs (xs ++ s.data.toList)) → w.grownBy w' v.ownBlock → wpList P ops Q rest (a.put o.dst (.slice A' N c')) w') : wpList P ops Q (o :: rest) a w := by
  refine Lib.wpList_append_own_string w hgd sl x t u ho base e i ht hu hi hz hsize hby v n (bs xs) hs hown s hx (by unfold maxLen; omega) hbytes hbase fun v' w' h1 h2 _ => ?_
  obtain ⟨A', c', rfl, hc⟩ := own_shape h1
  exact h A' _ c' w' hc (by rw [bs_append]; exact h1) h2

theorem putText_any (A : Option Addr) (n c : Nat) (l : List UInt8) (s : ByteArray) (w : World) (hs : Sl w w.heap.size 1 A n (bs l)) (hn : n ≤ 2097152) (hm : s.size ≤ 2097152) :
    Calls Try.prog 16 #[.slice A n c, .string s] w (GivesOwn w (putL l (s.size : Int) 2 ++ s.data.toList)) := by
  obtain ⟨i0, hi0, hz0, hz1, hz2⟩ := info_parts u8_info
  rw [putL_yes (show legalB 2 = true from rfl)]
  go_enter Try.func16, Try.ntmps16
  go_wp2_with (first
    | (go_at_call 15; refine (put_yes A n c l s.size 2 w (by omega) rfl hs (by omega) (by omega) (by omega)).mono ?_; rintro e w1 ⟨A1, n1, c1, rfl, hc1, hown1, hb1⟩; have hn1 : n1 ≤ 2097154 := by (have h1 := hown1.1; have h2 := hs.len; simp only [bs_length, List.length_append, le_length] at h1 h2; omega))
    | (at_builtin
       refine wpList_appS _ rfl (.tmp 9) (.tmp 10) _ _ rfl w.heap.size 5 i0 Try.underlying27 Try.underlying9 hi0 hz0 hz1 hz2 (.slice A1 n1 c1) n1 (l ++ le s.size 2) rfl hown1 s rfl (by omega) hb1.size ?_
       intro A2 n2 c2 w2 hc2 hown2 hg2
       have hb2 : Below w.heap.size w w2 := below_app hb1 hown1 hg2 hb1.size))
  go_ret
  exact ⟨A2, n2, c2, rfl, hc2, hown2, hb2⟩

theorem le_mod (x : Int) (h0 : 0 ≤ x) : le (x % 65536) 2 = le x 2 := by
  simp only [le, List.nil_append, Int.pow_zero, Int.pow_one, Int.ediv_one]
  have e1 : lowB (x % 65536) = lowB x := by unfold lowB; congr 1; omega
  have e2 : lowB (x % 65536 / 256) = lowB (x / 256) := by unfold lowB; congr 1; omega
  simp [e1, e2]

theorem refPutText_any (A : Option Addr) (n c : Nat) (l : List UInt8) (s : ByteArray) (w : World) (hs : Sl w w.heap.size 1 A n (bs l)) (hn : n ≤ 2097152) (hm : s.size ≤ 2097152) :
    Calls Try.prog 19 #[.slice A n c, .string s] w (GivesOwn w (putL l (s.size : Int) 2 ++ s.data.toList)) := by
  obtain ⟨i0, hi0, hz0, hz1, hz2⟩ := info_parts u8_info
  rw [putL_yes (show legalB 2 = true from rfl), show le (s.size : Int) (Int.toNat 2) = le ((s.size : Int) % 65536) 2 from (le_mod _ (by omega)).symm]
  go_enter Try.func19, Try.ntmps19
  go_wp2_with (first
    | (go_at_call 18; refine (refPut_yes A n c l ((s.size : Int) % 65536) 2 w (by omega) hs (by omega) (by omega) (by omega)).mono ?_; rintro e w1 ⟨A1, n1, c1, rfl, hc1, hown1, hb1⟩; have hn1 : n1 ≤ 2097154 := by (have h1 := hown1.1; have h2 := hs.len; simp only [bs_length, List.length_append, le_length] at h1 h2; omega))
    | (at_builtin
       refine wpList_appS _ rfl (.tmp 10) (.tmp 11) _ _ rfl w.heap.size 5 i0 Try.underlying27 Try.underlying9 hi0 hz0 hz1 hz2 (.slice A1 n1 c1) n1 (l ++ le ((s.size : Int) % 65536) 2) rfl hown1 s rfl (by omega) hb1.size ?_
       intro A2 n2 c2 w2 hc2 hown2 hg2
       have hb2 : Below w.heap.size w w2 := below_app hb1 hown1 hg2 hb1.size))
  go_ret
  exact ⟨A2, n2, c2, rfl, hc2, hown2, hb2⟩

/-! ### GetText -/
theorem tup3 {k k2 : IntKind} {s s2 : List UInt8} {a b c d : Int} (h0 : s = s2) (h1 : a = b) (h2 : c = d) :
    Ending.returned (.tuple #[.string ⟨s.toArray⟩, .int k a, .int k2 c]) = .returned (.tuple #[.string ⟨s2.toArray⟩, .int k b, .int k2 d]) := by rw [h0, h1, h2]

/-- the call answers as the plain word says -/
def GivesText (w : World) (r : List UInt8 × Int × Int) (e : Ending) (w' : World) : Prop :=
  e = .returned (.tuple #[.string ⟨r.1.toArray⟩, .int .i64 r.2.1, .int .i64 r.2.2]) ∧ w = w'

set_option maxRecDepth 100000 in
set_option maxHeartbeats 400000 in
theorem getText_any (A : Option Addr) (n c : Nat) (l : List UInt8) (at_ most : Int) (w : World) (hs : Sl w w.heap.size 1 A n (bs l)) (hnc : n ≤ c) (hn : n ≤ 140737488351232) (hat : -9223372036854775808 ≤ at_ ∧ at_ ≤ 9223372036854775807) :
    Calls Try.prog 26 #[.slice A n c, .int .i64 at_, .int .i64 most] w (GivesText w (getTextR l at_ most)) := by
  have hl : l.length = n := by have := hs.len; rw [bs_length] at this; omega
  obtain ⟨N, hN⟩ : ∃ N, N = getR l at_ 2 := ⟨_, rfl⟩
  have hg : ∀ w, Sl w w.heap.size 1 A n (bs l) → Calls Try.prog 24 #[.slice A n c, .int .i64 at_, .int .i64 2] w fun e w' => e = .returned (.tuple #[.int .u32 N.1, .int .i64 N.2]) ∧ w = w' := by
    intro w hs
    rw [hN]
    exact get_any A n c l at_ 2 w hs (by unfold maxLen; omega)
  have hb := getR_bounds l at_ 2
  unfold getTextR
  rw [hl, ← hN]
  rw [← hN] at hb
  obtain ⟨v, y⟩ := N
  obtain ⟨hb0, hb1⟩ := hb
  simp only at hg hb0 hb1 ⊢
  have Hg := Lib.hid hg
  clear hg
  by_cases hy : y ≠ 0
  · rw [if_pos hy]
    have hy1 : (y != 0) = true := by simpa using hy
    clear hy hN hl
    go_enter Try.func26, Try.ntmps26
    go_wp2_with (go_at_call 24; refine (Hg.out _ hs).mono ?_; rintro e w' ⟨rfl, rfl⟩)
    go_ret3
    exact ⟨rfl, rfl⟩
  · obtain rfl : y = 0 := by simpa using hy
    rw [if_neg hy]
    clear hy
    obtain ⟨h2, h3⟩ := getR_zero hN
    rw [hl] at h3
    have hpos : 0 < n := by omega
    obtain ⟨b, o, rfl, hbl, hcell⟩ := hs.at_ hpos
    clear hcell hN hl
    by_cases hm : most < v
    · rw [if_pos hm]
      go_enter Try.func26, Try.ntmps26
      go_wp2_with (go_at_call 24; refine (Hg.out _ hs).mono ?_; rintro e w' ⟨rfl, rfl⟩)
      go_ret3
      exact ⟨rfl, rfl⟩
    · rw [if_neg hm]
      have hm2 : v ≤ most := by omega
      by_cases hv : (n : Int) - (at_ + 2) < v
      · rw [if_pos hv]
        clear hm
        go_enter Try.func26, Try.ntmps26
        go_wp2_with (go_at_call 24; refine (Hg.out _ hs).mono ?_; rintro e w' ⟨rfl, rfl⟩)
        go_ret3
        exact ⟨rfl, rfl⟩
      · rw [if_neg hv]
        have hv2 : v ≤ (n : Int) - (at_ + 2) := by omega
        obtain ⟨F, hF⟩ : ∃ F, (at_ + 2).toNat = F := ⟨_, rfl⟩
        obtain ⟨V, hV⟩ : ∃ V, v.toNat = V := ⟨_, rfl⟩
        have hT : (at_ + 2 + v).toNat = F + V := by omega
        have hFV : F + V ≤ n := by omega
        have hN0 : n - F = 0 → V = 0 := by omega
        rw [hF, hV]
        clear hm hv hV
        have hstr : ∀ C (W : World), W = w → (convert 27 9 (.slice (some ⟨b, o + F, none⟩) V C)).run Try.prog W = .ok (.string ⟨((l.drop F).take V).toArray⟩) W := by
          rintro C W rfl
          exact run_str _ _ 5 Try.underlying27 Try.underlying5 Try.underlying9 (hs.mid (by omega) hbl) (by intro h; cases h)
        have hstr0 : ∀ C (W : World), V = 0 → (convert 27 9 (.slice (some ⟨b, o, none⟩) 0 C)).run Try.prog W = .ok (.string ⟨((l.drop F).take V).toArray⟩) W := by
          rintro C W rfl
          exact run_str _ _ 5 Try.underlying27 Try.underlying5 Try.underlying9 (B := 0) (l := (l.drop F).take 0) ⟨by simp [bs], fun h => by omega⟩ (by intro h; cases h)
        obtain ⟨R, hR⟩ : ∃ R, R = (l.drop F).take V := ⟨_, rfl⟩
        rw [← hR] at hstr hstr0 ⊢
        by_cases hcf : c = F
        · obtain rfl : V = 0 := by omega
          subst hcf
          have hs0 := fun C W => hstr0 C W rfl
          clear hstr hstr0 hR hN0
          simp only [Nat.add_zero] at hT
          go_enter Try.func26, Try.ntmps26
          go_wp2_with (go_at_call 24; refine (Hg.out _ hs).mono ?_; rintro e w' ⟨rfl, rfl⟩)
          go_ret3
          exact ⟨rfl, rfl⟩
        · have hs1 := fun C => hstr C w rfl
          have hsub : F + V - F = V := by omega
          clear hstr hstr0 hR hN0
          go_enter Try.func26, Try.ntmps26
          go_wp2_with (go_at_call 24; refine (Hg.out _ hs).mono ?_; rintro e w' ⟨rfl, rfl⟩)
          go_ret3
          exact ⟨rfl, rfl⟩

set_option maxRecDepth 100000 in
set_option maxHeartbeats 400000 in
theorem refGetText_any (A : Option Addr) (n c : Nat) (l : List UInt8) (at_ most : Int) (w : World) (hs : Sl w w.heap.size 1 A n (bs l)) (hnc : n ≤ c) (hn : n ≤ 140737488351232) (hat : -9223372036854775808 ≤ at_ ∧ at_ ≤ 9223372036854775807) :
    Calls Try.prog 27 #[.slice A n c, .int .i64 at_, .int .i64 most] w (GivesText w (getTextR l at_ most)) := by
  have hl : l.length = n := by have := hs.len; rw [bs_length] at this; omega
  obtain ⟨N, hN⟩ : ∃ N, N = getR l at_ 2 := ⟨_, rfl⟩
  have hg : ∀ w, Sl w w.heap.size 1 A n (bs l) → Calls Try.prog 25 #[.slice A n c, .int .i64 at_, .int .i64 2] w fun e w' => e = .returned (.tuple #[.int .u32 N.1, .int .i64 N.2]) ∧ w = w' := by
    intro w hs
    rw [hN]
    exact refGet_any A n c l at_ 2 w hs (by unfold maxLen; omega)
  have hb := getR_bounds l at_ 2
  unfold getTextR
  rw [hl, ← hN]
  rw [← hN] at hb
  obtain ⟨v, y⟩ := N
  obtain ⟨hb0, hb1⟩ := hb
  simp only at hg hb0 hb1 ⊢
  have Hg := Lib.hid hg
  clear hg
  by_cases hy : y ≠ 0
  · rw [if_pos hy]
    have hy1 : (y != 0) = true := by simpa using hy
    clear hy hN hl
    go_enter Try.func27, Try.ntmps27
    go_wp2_with (go_at_call 25; refine (Hg.out _ hs).mono ?_; rintro e w' ⟨rfl, rfl⟩)
    go_ret3
    exact ⟨rfl, rfl⟩
  · obtain rfl : y = 0 := by simpa using hy
    rw [if_neg hy]
    clear hy
    obtain ⟨h2, h3⟩ := getR_zero hN
    rw [hl] at h3
    have hpos : 0 < n := by omega
    obtain ⟨b, o, rfl, hbl, hcell⟩ := hs.at_ hpos
    clear hcell hN hl
    by_cases hm : most < v
    · rw [if_pos hm]
      go_enter Try.func27, Try.ntmps27
      go_wp2_with (go_at_call 25; refine (Hg.out _ hs).mono ?_; rintro e w' ⟨rfl, rfl⟩)
      go_ret3
      exact ⟨rfl, rfl⟩
    · rw [if_neg hm]
      have hm2 : v ≤ most := by omega
      by_cases hv : (n : Int) - (at_ + 2) < v
      · rw [if_pos hv]
        clear hm
        go_enter Try.func27, Try.ntmps27
        go_wp2_with (go_at_call 25; refine (Hg.out _ hs).mono ?_; rintro e w' ⟨rfl, rfl⟩)
        go_ret3
        exact ⟨rfl, rfl⟩
      · rw [if_neg hv]
        have hv2 : v ≤ (n : Int) - (at_ + 2) := by omega
        obtain ⟨F, hF⟩ : ∃ F, (at_ + 2).toNat = F := ⟨_, rfl⟩
        obtain ⟨V, hV⟩ : ∃ V, v.toNat = V := ⟨_, rfl⟩
        have hT : (at_ + 2 + v).toNat = F + V := by omega
        have hFV : F + V ≤ n := by omega
        have hN0 : n - F = 0 → V = 0 := by omega
        rw [hF, hV]
        clear hm hv hV
        have hstr : ∀ C (W : World), W = w → (convert 27 9 (.slice (some ⟨b, o + F, none⟩) V C)).run Try.prog W = .ok (.string ⟨((l.drop F).take V).toArray⟩) W := by
          rintro C W rfl
          exact run_str _ _ 5 Try.underlying27 Try.underlying5 Try.underlying9 (hs.mid (by omega) hbl) (by intro h; cases h)
        have hstr0 : ∀ C (W : World), V = 0 → (convert 27 9 (.slice (some ⟨b, o, none⟩) 0 C)).run Try.prog W = .ok (.string ⟨((l.drop F).take V).toArray⟩) W := by
          rintro C W rfl
          exact run_str _ _ 5 Try.underlying27 Try.underlying5 Try.underlying9 (B := 0) (l := (l.drop F).take 0) ⟨by simp [bs], fun h => by omega⟩ (by intro h; cases h)
        obtain ⟨R, hR⟩ : ∃ R, R = (l.drop F).take V := ⟨_, rfl⟩
        rw [← hR] at hstr hstr0 ⊢
        by_cases hcf : c = F
        · obtain rfl : V = 0 := by omega
          subst hcf
          have hs0 := fun C W => hstr0 C W rfl
          clear hstr hstr0 hR hN0
          simp only [Nat.add_zero] at hT
          go_enter Try.func27, Try.ntmps27
          go_wp2_with (go_at_call 25; refine (Hg.out _ hs).mono ?_; rintro e w' ⟨rfl, rfl⟩)
          go_ret3
          exact ⟨rfl, rfl⟩
        · have hs1 := fun C => hstr C w rfl
          have hsub : F + V - F = V := by omega
          clear hstr hstr0 hR hN0
          go_enter Try.func27, Try.ntmps27
          go_wp2_with (go_at_call 25; refine (Hg.out _ hs).mono ?_; rintro e w' ⟨rfl, rfl⟩)
          go_ret3
          exact ⟨rfl, rfl⟩
end Go.Proofs.Ytjcoanpnbaeobaa
