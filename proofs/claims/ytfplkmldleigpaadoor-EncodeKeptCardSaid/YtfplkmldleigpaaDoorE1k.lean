/- The walk of Encode: an instruction's bytes, in new memory, its spare room too. Conditions: none. -/
import Derived.Test.YtfplkmldleigpaaDoorP8
import Derived.Test.YtfplkmldleigpaaDoorB11
import Derived.Test.YtfplkmldleigpaaDoorA4
import Derived.Test.YtfplkmldleigpaaDoorK2
namespace Go.Proofs.YtfplkmldleigpaaDoor
open Go.RowKit
set_option linter.unusedVariables false
set_option linter.unusedSimpArgs false

/-- the slice of a literal is its own -/
theorem own_new (w : World) (e : TypeId) (sz n : Nat) (cs : List Value) (hn : cs.length = n * sz) (hm : n ≤ maxLen) :
    (w.alloc (.cells cs.toArray e)).ownsRow w.heap.size e sz (.slice (some ⟨w.heap.size, 0, none⟩) n n) n cs :=
  ⟨hn, .inr ⟨w.heap.size, n, cs.toArray, rfl, Nat.le_refl _, heap_alloc_new w _, Nat.le_refl _, hm, by simp [hn], by rw [← hn]; exact List.take_of_length_le (Nat.le_refl _)⟩⟩
/-- a call that returns bytes and no error -/
def GivesE (W : World) (l : List UInt8) (e : Ending) (w' : World) : Prop :=
  ∃ A n c, e = .returned (.tuple #[.slice A n c, .int .i64 0]) ∧ n ≤ c ∧ Sl w' w'.heap.size 1 A n (bs l) ∧ Below W.heap.size W w'
/-- the same, in new memory, its spare room too -/
def GivesEK (W : World) (l : List UInt8) (e : Ending) (w' : World) : Prop :=
  ∃ A n c, e = .returned (.tuple #[.slice A n c, .int .i64 0]) ∧ n ≤ c ∧ Kept w' W.heap.size 5 1 A n c (bs l) ∧ Below W.heap.size W w'
def GivesK (W : World) (l : List UInt8) (e : Ending) (w' : World) : Prop :=
  ∃ A n c, e = .returned (.slice A n c) ∧ n ≤ c ∧ Kept w' W.heap.size 5 1 A n c (bs l) ∧ Below W.heap.size W w'
theorem GivesOwn.kept {W : World} {l : List UInt8} {e : Ending} {w' : World} (h : GivesOwn W l e w') : GivesK W l e w' := by
  obtain ⟨A, n, c, he, hc, ho, hb⟩ := h
  exact ⟨A, n, c, he, hc, Kept.of_own ho, hb⟩
theorem GivesEK.sl {W : World} {l : List UInt8} {e : Ending} {w' : World} (h : GivesEK W l e w') : GivesE W l e w' := by
  obtain ⟨A, n, c, he, hc, ho, hb⟩ := h
  exact ⟨A, n, c, he, hc, ho.sl, hb⟩
set_option maxHeartbeats 400000 in
theorem put_no_kept (A : Option Addr) (n c : Nat) (l : List UInt8) (x width : Int) (w : World) (hl : legalB width = false) (hs : Sl w w.heap.size 1 A n (bs l)) (hn : n + 8 ≤ 140737488355328) :
    Calls Tryd.prog 50 #[.slice A n c, .int .u32 x, .int .i64 width] w (GivesK w l) := by
  obtain ⟨i0, hi0, hz0, hz1, hz2⟩ := info_parts u8_info
  go_enter Tryd.func50, Tryd.ntmps50
  go_wp2_with (first
    | (at_builtin
       refine wpList_app _ rfl (.const (.slice none 0 0)) (.tmp 8) _ rfl w.heap.size 5 i0 _ 1 1 Tryd.underlying55 hi0 hz0 hz1 hz2 rfl (by omega) (.slice none 0 0) 0 [] rfl (own_nil _ _ _ _) w.heap.size A n c (bs l) rfl hs (bs_one l) (by unfold maxLen; omega) (by omega) (Nat.le_refl _) n (by omega) (bs l) rfl ?_
       intro A1 c1 w1 hc1 hown1 hg1 _
       have hb1 : Below w.heap.size w w1 := below_app (Below.refl _ _) (own_nil w w.heap.size 5 1) hg1 (Nat.le_refl _))
    | (go_at_call 55; refine (legal_any _ _).mono ?_; rintro e w' ⟨rfl, rfl⟩))
  go_ret
  exact ⟨A1, n, n, rfl, Nat.le_refl _, Kept.cut hown1, hb1⟩
theorem put_kept (A : Option Addr) (n c : Nat) (l : List UInt8) (x width : Int) (w : World) (hs : Sl w w.heap.size 1 A n (bs l)) (hn : n + 8 ≤ 140737488355328) (h0 : 0 ≤ x) (h1 : x < 4294967296) :
    Calls Tryd.prog 50 #[.slice A n c, .int .u32 x, .int .i64 width] w (GivesK w (putL l x width)) := by
  rcases width_cases width with rfl | rfl | rfl | h
  · exact (put_yes A n c l x 1 w (by omega) rfl hs hn h0 h1).mono fun _ _ h => h.kept
  · exact (put_yes A n c l x 2 w (by omega) rfl hs hn h0 h1).mono fun _ _ h => h.kept
  · exact (put_yes A n c l x 4 w (by omega) rfl hs hn h0 h1).mono fun _ _ h => h.kept
  · rw [putL_no (legalB_not h)]
    exact put_no_kept A n c l x width w (legalB_not h) hs hn
theorem first_any (v0 : ByteArray) (B s f : Int) (w : World) (hB : 0 ≤ B ∧ B ≤ 200) :
    Calls Tryd.prog 49 #[.agg #[.string v0, .int .u8 B, .int .i64 s], .int .i64 f] w fun e w' => e = .returned (.int .u8 (B + addF f)) ∧ Below w.heap.size w w' := by
  obtain ⟨hB0, hB1⟩ := hB
  by_cases h2 : f = 2
  · subst h2
    go_enter Tryd.func49, Tryd.ntmps49
    go_wp2
    go_ret
    exact ⟨rfl, (Below.refl _ _).alloc (Nat.le_refl _) _⟩
  · by_cases h4 : f = 4
    · subst h4
      go_enter Tryd.func49, Tryd.ntmps49
      go_wp2
      go_ret
      exact ⟨rfl, (Below.refl _ _).alloc (Nat.le_refl _) _⟩
    · have hz : addF f = 0 := by unfold addF; rw [if_neg h2, if_neg h4]
      rw [hz]
      have e2 : (f == 2) = false := by simpa using h2
      have e4 : (f == 4) = false := by simpa using h4
      go_enter Tryd.func49, Tryd.ntmps49
      go_wp2
      go_ret
      exact ⟨by simp, (Below.refl _ _).alloc (Nat.le_refl _) _⟩



set_option maxHeartbeats 1000000 in
theorem enc_1 (op a b n F B : Int) (v0 : ByteArray) (w : World) (hT : TabIs 0 w) (ha0 : 0 ≤ a) (ha1 : a < 8) (hb0 : 0 ≤ b) (hb1 : b < 8) (hn : -2147483648 ≤ n ∧ n ≤ 2147483647)   (hF : F % 256 = F)
    (Hch : Hid (∀ w, TabIs 0 w → Calls Tryd.prog 26 #[.agg #[.int .i64 op, .int .i64 a, .int .i64 b, .int .i32 n, .int .i64 0]] w fun e w' => e = .returned (.int .i64 0) ∧ Below w.heap.size w w'))
    (Hat : Hid (∀ w, TabIs 0 w → Calls Tryd.prog 16 #[.int .i64 op] w fun e w' => e = .returned (.tuple #[.agg #[.string v0, .int .u8 B, .int .i64 1], .bool true]) ∧ Below w.heap.size w w'))
    (Hfi : Hid (∀ w, Calls Tryd.prog 49 #[.agg #[.string v0, .int .u8 B, .int .i64 1], .int .i64 0] w fun e w' => e = .returned (.int .u8 F) ∧ Below w.heap.size w w')) :
    Calls Tryd.prog 34 #[.agg #[.int .i64 op, .int .i64 a, .int .i64 b, .int .i32 n, .int .i64 0]] w (GivesEK w (lowB F :: ([] ++ le (n % 4294967296) (0 : Int).toNat))) := by
  obtain ⟨i0, hi0, hk0, hk1, hk2⟩ := info_parts u8_info
  obtain ⟨hn0, hn1⟩ := hn
  skip
  go_enter Tryd.func34, Tryd.ntmps34
  go_wp2_with (first
    | (go_at_call 26; refine (Hch.out _ (hT.alloc _)).mono ?_; rintro e w2 ⟨rfl, hb2⟩; have hT2 := (hT.alloc _).grow hb2; have hz2 : w.heap.size < w2.heap.size := (by have := hb2.size; simp at this; omega); obtain ⟨hc2, _⟩ := bcell hb2
       have p0 : w2.cell? ⟨w.heap.size, 0, none⟩ = some (.int .i64 op) := (by rw [hc2 _ _ (by simp)]; exact (Blk.new w _ _).cell 0)
       have p1 : w2.cell? ⟨w.heap.size, 1, none⟩ = some (.int .i64 a) := (by rw [hc2 _ _ (by simp)]; exact (Blk.new w _ _).cell 1)
       have p2 : w2.cell? ⟨w.heap.size, 2, none⟩ = some (.int .i64 b) := (by rw [hc2 _ _ (by simp)]; exact (Blk.new w _ _).cell 2)
       have p3 : w2.cell? ⟨w.heap.size, 3, none⟩ = some (.int .i32 n) := (by rw [hc2 _ _ (by simp)]; exact (Blk.new w _ _).cell 3)
       have p4 : w2.cell? ⟨w.heap.size, 4, none⟩ = some (.int .i64 0) := (by rw [hc2 _ _ (by simp)]; exact (Blk.new w _ _).cell 4))
    | (go_at_call 16; refine (Hat.out _ hT2).mono ?_; rintro e w3 ⟨rfl, hb3⟩; have hz3' := hb3.size; have hz3 : w.heap.size < w3.heap.size := (by omega); obtain ⟨hc3, _⟩ := bcell hb3
       have q1 := (hc3 _ _ hz2).trans p1; have q2 := (hc3 _ _ hz2).trans p2; have q3 := (hc3 _ _ hz2).trans p3; have q4 := (hc3 _ _ hz2).trans p4)
    | (go_at_call 49; refine (Hfi.out _).mono ?_; rintro e w4 ⟨rfl, hb4⟩; have hz4 : w3.heap.size < w4.heap.size := (by have := hb4.size; simp at this; omega); have hz4' : w.heap.size < w4.heap.size := (by omega); obtain ⟨hc4, _⟩ := bcell hb4
       have r1 := ((hc4 _ 1 (by simp; omega)).trans (World.cell?_alloc_lt w3 _ ⟨w.heap.size, 1, none⟩ hz3)).trans q1
       have r2 := ((hc4 _ 2 (by simp; omega)).trans (World.cell?_alloc_lt w3 _ ⟨w.heap.size, 2, none⟩ hz3)).trans q2
       have r3 := ((hc4 _ 3 (by simp; omega)).trans (World.cell?_alloc_lt w3 _ ⟨w.heap.size, 3, none⟩ hz3)).trans q3
       have r4 := ((hc4 _ 4 (by simp; omega)).trans (World.cell?_alloc_lt w3 _ ⟨w.heap.size, 4, none⟩ hz3)).trans q4
       have rx : w4.cell? ⟨w3.heap.size, 2, none⟩ = some (.int .i64 1) := (by rw [hc4 _ _ (by simp)]; exact (Blk.new w3 _ _).cell 2)
       have hB4 : Below w.heap.size w w4 := (((Below.refl w.heap.size w).alloc (Nat.le_refl _) _).trans (hb2.mono (by simp))).trans (hb3.mono (by omega)) |>.alloc (by omega) _ |>.trans (hb4.mono (by simp; omega)))
    | (go_at_call 50; (refine (put_kept (some ⟨w4.heap.size, 0, none⟩) 1 1 (lowB F :: []) (n % 4294967296) 0 _ (by have := (Sl.of_own (own_new w4 5 1 1 [.int .u8 F] rfl (by unfold maxLen; omega))); simpa [bs, lowB_toNat, hF] using this) (by omega) (by omega) (by omega)).mono ?_; rintro e w7 ⟨A7, n7, c7, rfl, hc7, hs7, hb7⟩; have hB7 : Below w.heap.size w w7 := (hB4.alloc (by omega) _).trans (hb7.mono (by first | omega | (simp; omega))))))
  refine bodyPost_ret (v := .tuple #[.slice A7 n7 c7, .int .i64 0]) (by simp [results, Tryd.results34, go_sem]) rfl ⟨A7, n7, c7, rfl, hc7, ?_, hB7⟩
  rw [putL_e (by first | omega | exact Or.inr hf)] at hs7
  have hs8 := hs7.more (base' := w.heap.size) (by first | omega | (simp; omega))
  simpa using hs8

set_option maxHeartbeats 1000000 in
theorem enc_2 (op a b n F B : Int) (v0 : ByteArray) (w : World) (hT : TabIs 0 w) (ha0 : 0 ≤ a) (ha1 : a < 8) (hb0 : 0 ≤ b) (hb1 : b < 8) (hn : -2147483648 ≤ n ∧ n ≤ 2147483647)   (hF : F % 256 = F)
    (Hch : Hid (∀ w, TabIs 0 w → Calls Tryd.prog 26 #[.agg #[.int .i64 op, .int .i64 a, .int .i64 b, .int .i32 n, .int .i64 0]] w fun e w' => e = .returned (.int .i64 0) ∧ Below w.heap.size w w'))
    (Hat : Hid (∀ w, TabIs 0 w → Calls Tryd.prog 16 #[.int .i64 op] w fun e w' => e = .returned (.tuple #[.agg #[.string v0, .int .u8 B, .int .i64 2], .bool true]) ∧ Below w.heap.size w w'))
    (Hfi : Hid (∀ w, Calls Tryd.prog 49 #[.agg #[.string v0, .int .u8 B, .int .i64 2], .int .i64 0] w fun e w' => e = .returned (.int .u8 F) ∧ Below w.heap.size w w')) :
    Calls Tryd.prog 34 #[.agg #[.int .i64 op, .int .i64 a, .int .i64 b, .int .i32 n, .int .i64 0]] w (GivesEK w (lowB F :: ([lowB a] ++ le (n % 4294967296) (0 : Int).toNat))) := by
  obtain ⟨i0, hi0, hk0, hk1, hk2⟩ := info_parts u8_info
  obtain ⟨hn0, hn1⟩ := hn
  skip
  go_enter Tryd.func34, Tryd.ntmps34
  go_wp2_with (first
    | (go_at_call 26; refine (Hch.out _ (hT.alloc _)).mono ?_; rintro e w2 ⟨rfl, hb2⟩; have hT2 := (hT.alloc _).grow hb2; have hz2 : w.heap.size < w2.heap.size := (by have := hb2.size; simp at this; omega); obtain ⟨hc2, _⟩ := bcell hb2
       have p0 : w2.cell? ⟨w.heap.size, 0, none⟩ = some (.int .i64 op) := (by rw [hc2 _ _ (by simp)]; exact (Blk.new w _ _).cell 0)
       have p1 : w2.cell? ⟨w.heap.size, 1, none⟩ = some (.int .i64 a) := (by rw [hc2 _ _ (by simp)]; exact (Blk.new w _ _).cell 1)
       have p2 : w2.cell? ⟨w.heap.size, 2, none⟩ = some (.int .i64 b) := (by rw [hc2 _ _ (by simp)]; exact (Blk.new w _ _).cell 2)
       have p3 : w2.cell? ⟨w.heap.size, 3, none⟩ = some (.int .i32 n) := (by rw [hc2 _ _ (by simp)]; exact (Blk.new w _ _).cell 3)
       have p4 : w2.cell? ⟨w.heap.size, 4, none⟩ = some (.int .i64 0) := (by rw [hc2 _ _ (by simp)]; exact (Blk.new w _ _).cell 4))
    | (go_at_call 16; refine (Hat.out _ hT2).mono ?_; rintro e w3 ⟨rfl, hb3⟩; have hz3' := hb3.size; have hz3 : w.heap.size < w3.heap.size := (by omega); obtain ⟨hc3, _⟩ := bcell hb3
       have q1 := (hc3 _ _ hz2).trans p1; have q2 := (hc3 _ _ hz2).trans p2; have q3 := (hc3 _ _ hz2).trans p3; have q4 := (hc3 _ _ hz2).trans p4)
    | (go_at_call 49; refine (Hfi.out _).mono ?_; rintro e w4 ⟨rfl, hb4⟩; have hz4 : w3.heap.size < w4.heap.size := (by have := hb4.size; simp at this; omega); have hz4' : w.heap.size < w4.heap.size := (by omega); obtain ⟨hc4, _⟩ := bcell hb4
       have r1 := ((hc4 _ 1 (by simp; omega)).trans (World.cell?_alloc_lt w3 _ ⟨w.heap.size, 1, none⟩ hz3)).trans q1
       have r2 := ((hc4 _ 2 (by simp; omega)).trans (World.cell?_alloc_lt w3 _ ⟨w.heap.size, 2, none⟩ hz3)).trans q2
       have r3 := ((hc4 _ 3 (by simp; omega)).trans (World.cell?_alloc_lt w3 _ ⟨w.heap.size, 3, none⟩ hz3)).trans q3
       have r4 := ((hc4 _ 4 (by simp; omega)).trans (World.cell?_alloc_lt w3 _ ⟨w.heap.size, 4, none⟩ hz3)).trans q4
       have rx : w4.cell? ⟨w3.heap.size, 2, none⟩ = some (.int .i64 2) := (by rw [hc4 _ _ (by simp)]; exact (Blk.new w3 _ _).cell 2)
       have hB4 : Below w.heap.size w w4 := (((Below.refl w.heap.size w).alloc (Nat.le_refl _) _).trans (hb2.mono (by simp))).trans (hb3.mono (by omega)) |>.alloc (by omega) _ |>.trans (hb4.mono (by simp; omega)))
    | (at_builtin
       refine wpList_app _ rfl (.tmp 64) (.tmp 68) _ rfl w4.heap.size 5 i0 _ 1 1 Tryd.underlying55 hi0 hk0 hk1 hk2 rfl (by omega) (.slice (some ⟨w4.heap.size, 0, none⟩) 1 1) 1 [.int .u8 F] rfl ((own_new w4 5 1 1 [.int .u8 F] rfl (by unfold maxLen; omega)).alloc _) (w4.heap.size + 2) (some ⟨w4.heap.size + 1, 0, none⟩) 1 1 [.int .u8 a] rfl (by have := sl_new (w4.alloc (.cells #[.int .u8 F] 5)) [.int .u8 a] 1 1 rfl 5; simpa using this) (by intro u hu; simp at hu; rcases hu with rfl | rfl <;> rfl) (by unfold maxLen; omega) (by omega) (by simp; omega) 2 rfl (bs (lowB F :: [lowB a])) (by simp only [bs, List.map_cons, List.map_nil, lowB_toNat, List.cons_append, List.nil_append]; simp only [List.cons.injEq, Value.int.injEq, true_and, and_true]; omega) ?_
       intro A6 c6 w6 hc6 hown6 hg6 _
       have hb6 : Below w4.heap.size w4 w6 := below_app (((Below.refl _ _).alloc (Nat.le_refl _) _).alloc (by simp) _) ((own_new w4 5 1 1 [.int .u8 F] rfl (by unfold maxLen; omega)).alloc _) hg6 (by simp; omega)
       have hz6 := hb6.size
       obtain ⟨hc6', _⟩ := bcell hb6
       have s3 := (hc6' _ _ hz4').trans r3
       have s4 := (hc6' _ _ hz4').trans r4
       have sx := (hc6' _ _ hz4).trans rx
       have hz6' : w.heap.size < w6.heap.size := (by omega)
       have hz6x : w3.heap.size < w6.heap.size := (by omega))
    | (go_at_call 50; (refine (put_kept A6 2 c6 (lowB F :: [lowB a]) (n % 4294967296) 0 _ (Sl.of_own hown6) (by omega) (by omega) (by omega)).mono ?_; rintro e w7 ⟨A7, n7, c7, rfl, hc7, hs7, hb7⟩; have hB7 : Below w.heap.size w w7 := (hB4.trans (hb6.mono (by omega))).trans (hb7.mono (by first | omega | (simp; omega))))))
  refine bodyPost_ret (v := .tuple #[.slice A7 n7 c7, .int .i64 0]) (by simp [results, Tryd.results34, go_sem]) rfl ⟨A7, n7, c7, rfl, hc7, ?_, hB7⟩
  rw [putL_e (by first | omega | exact Or.inr hf)] at hs7
  have hs8 := hs7.more (base' := w.heap.size) (by first | omega | (simp; omega))
  simpa using hs8

set_option maxHeartbeats 1000000 in
theorem enc_3 (op a b n F B : Int) (v0 : ByteArray) (w : World) (hT : TabIs 0 w) (ha0 : 0 ≤ a) (ha1 : a < 8) (hb0 : 0 ≤ b) (hb1 : b < 8) (hn : -2147483648 ≤ n ∧ n ≤ 2147483647)   (hF : F % 256 = F)
    (Hch : Hid (∀ w, TabIs 0 w → Calls Tryd.prog 26 #[.agg #[.int .i64 op, .int .i64 a, .int .i64 b, .int .i32 n, .int .i64 0]] w fun e w' => e = .returned (.int .i64 0) ∧ Below w.heap.size w w'))
    (Hat : Hid (∀ w, TabIs 0 w → Calls Tryd.prog 16 #[.int .i64 op] w fun e w' => e = .returned (.tuple #[.agg #[.string v0, .int .u8 B, .int .i64 3], .bool true]) ∧ Below w.heap.size w w'))
    (Hfi : Hid (∀ w, Calls Tryd.prog 49 #[.agg #[.string v0, .int .u8 B, .int .i64 3], .int .i64 0] w fun e w' => e = .returned (.int .u8 F) ∧ Below w.heap.size w w')) :
    Calls Tryd.prog 34 #[.agg #[.int .i64 op, .int .i64 a, .int .i64 b, .int .i32 n, .int .i64 0]] w (GivesEK w (lowB F :: ([lowB a] ++ le (n % 4294967296) (0 : Int).toNat))) := by
  obtain ⟨i0, hi0, hk0, hk1, hk2⟩ := info_parts u8_info
  obtain ⟨hn0, hn1⟩ := hn
  skip
  go_enter Tryd.func34, Tryd.ntmps34
  go_wp2_with (first
    | (go_at_call 26; refine (Hch.out _ (hT.alloc _)).mono ?_; rintro e w2 ⟨rfl, hb2⟩; have hT2 := (hT.alloc _).grow hb2; have hz2 : w.heap.size < w2.heap.size := (by have := hb2.size; simp at this; omega); obtain ⟨hc2, _⟩ := bcell hb2
       have p0 : w2.cell? ⟨w.heap.size, 0, none⟩ = some (.int .i64 op) := (by rw [hc2 _ _ (by simp)]; exact (Blk.new w _ _).cell 0)
       have p1 : w2.cell? ⟨w.heap.size, 1, none⟩ = some (.int .i64 a) := (by rw [hc2 _ _ (by simp)]; exact (Blk.new w _ _).cell 1)
       have p2 : w2.cell? ⟨w.heap.size, 2, none⟩ = some (.int .i64 b) := (by rw [hc2 _ _ (by simp)]; exact (Blk.new w _ _).cell 2)
       have p3 : w2.cell? ⟨w.heap.size, 3, none⟩ = some (.int .i32 n) := (by rw [hc2 _ _ (by simp)]; exact (Blk.new w _ _).cell 3)
       have p4 : w2.cell? ⟨w.heap.size, 4, none⟩ = some (.int .i64 0) := (by rw [hc2 _ _ (by simp)]; exact (Blk.new w _ _).cell 4))
    | (go_at_call 16; refine (Hat.out _ hT2).mono ?_; rintro e w3 ⟨rfl, hb3⟩; have hz3' := hb3.size; have hz3 : w.heap.size < w3.heap.size := (by omega); obtain ⟨hc3, _⟩ := bcell hb3
       have q1 := (hc3 _ _ hz2).trans p1; have q2 := (hc3 _ _ hz2).trans p2; have q3 := (hc3 _ _ hz2).trans p3; have q4 := (hc3 _ _ hz2).trans p4)
    | (go_at_call 49; refine (Hfi.out _).mono ?_; rintro e w4 ⟨rfl, hb4⟩; have hz4 : w3.heap.size < w4.heap.size := (by have := hb4.size; simp at this; omega); have hz4' : w.heap.size < w4.heap.size := (by omega); obtain ⟨hc4, _⟩ := bcell hb4
       have r1 := ((hc4 _ 1 (by simp; omega)).trans (World.cell?_alloc_lt w3 _ ⟨w.heap.size, 1, none⟩ hz3)).trans q1
       have r2 := ((hc4 _ 2 (by simp; omega)).trans (World.cell?_alloc_lt w3 _ ⟨w.heap.size, 2, none⟩ hz3)).trans q2
       have r3 := ((hc4 _ 3 (by simp; omega)).trans (World.cell?_alloc_lt w3 _ ⟨w.heap.size, 3, none⟩ hz3)).trans q3
       have r4 := ((hc4 _ 4 (by simp; omega)).trans (World.cell?_alloc_lt w3 _ ⟨w.heap.size, 4, none⟩ hz3)).trans q4
       have rx : w4.cell? ⟨w3.heap.size, 2, none⟩ = some (.int .i64 3) := (by rw [hc4 _ _ (by simp)]; exact (Blk.new w3 _ _).cell 2)
       have hB4 : Below w.heap.size w w4 := (((Below.refl w.heap.size w).alloc (Nat.le_refl _) _).trans (hb2.mono (by simp))).trans (hb3.mono (by omega)) |>.alloc (by omega) _ |>.trans (hb4.mono (by simp; omega)))
    | (at_builtin
       refine wpList_app _ rfl (.tmp 64) (.tmp 68) _ rfl w4.heap.size 5 i0 _ 1 1 Tryd.underlying55 hi0 hk0 hk1 hk2 rfl (by omega) (.slice (some ⟨w4.heap.size, 0, none⟩) 1 1) 1 [.int .u8 F] rfl ((own_new w4 5 1 1 [.int .u8 F] rfl (by unfold maxLen; omega)).alloc _) (w4.heap.size + 2) (some ⟨w4.heap.size + 1, 0, none⟩) 1 1 [.int .u8 a] rfl (by have := sl_new (w4.alloc (.cells #[.int .u8 F] 5)) [.int .u8 a] 1 1 rfl 5; simpa using this) (by intro u hu; simp at hu; rcases hu with rfl | rfl <;> rfl) (by unfold maxLen; omega) (by omega) (by simp; omega) 2 rfl (bs (lowB F :: [lowB a])) (by simp only [bs, List.map_cons, List.map_nil, lowB_toNat, List.cons_append, List.nil_append]; simp only [List.cons.injEq, Value.int.injEq, true_and, and_true]; omega) ?_
       intro A6 c6 w6 hc6 hown6 hg6 _
       have hb6 : Below w4.heap.size w4 w6 := below_app (((Below.refl _ _).alloc (Nat.le_refl _) _).alloc (by simp) _) ((own_new w4 5 1 1 [.int .u8 F] rfl (by unfold maxLen; omega)).alloc _) hg6 (by simp; omega)
       have hz6 := hb6.size
       obtain ⟨hc6', _⟩ := bcell hb6
       have s3 := (hc6' _ _ hz4').trans r3
       have s4 := (hc6' _ _ hz4').trans r4
       have sx := (hc6' _ _ hz4).trans rx
       have hz6' : w.heap.size < w6.heap.size := (by omega)
       have hz6x : w3.heap.size < w6.heap.size := (by omega))
    | (go_at_call 50; (refine (put_kept A6 2 c6 (lowB F :: [lowB a]) (n % 4294967296) 0 _ (Sl.of_own hown6) (by omega) (by omega) (by omega)).mono ?_; rintro e w7 ⟨A7, n7, c7, rfl, hc7, hs7, hb7⟩; have hB7 : Below w.heap.size w w7 := (hB4.trans (hb6.mono (by omega))).trans (hb7.mono (by first | omega | (simp; omega))))))
  refine bodyPost_ret (v := .tuple #[.slice A7 n7 c7, .int .i64 0]) (by simp [results, Tryd.results34, go_sem]) rfl ⟨A7, n7, c7, rfl, hc7, ?_, hB7⟩
  rw [putL_e (by first | omega | exact Or.inr hf)] at hs7
  have hs8 := hs7.more (base' := w.heap.size) (by first | omega | (simp; omega))
  simpa using hs8

set_option maxHeartbeats 1000000 in
theorem enc_4 (op a b n F B : Int) (v0 : ByteArray) (w : World) (hT : TabIs 0 w) (ha0 : 0 ≤ a) (ha1 : a < 8) (hb0 : 0 ≤ b) (hb1 : b < 8) (hn : -2147483648 ≤ n ∧ n ≤ 2147483647)   (hF : F % 256 = F)
    (Hch : Hid (∀ w, TabIs 0 w → Calls Tryd.prog 26 #[.agg #[.int .i64 op, .int .i64 a, .int .i64 b, .int .i32 n, .int .i64 0]] w fun e w' => e = .returned (.int .i64 0) ∧ Below w.heap.size w w'))
    (Hat : Hid (∀ w, TabIs 0 w → Calls Tryd.prog 16 #[.int .i64 op] w fun e w' => e = .returned (.tuple #[.agg #[.string v0, .int .u8 B, .int .i64 4], .bool true]) ∧ Below w.heap.size w w'))
    (Hfi : Hid (∀ w, Calls Tryd.prog 49 #[.agg #[.string v0, .int .u8 B, .int .i64 4], .int .i64 0] w fun e w' => e = .returned (.int .u8 F) ∧ Below w.heap.size w w')) :
    Calls Tryd.prog 34 #[.agg #[.int .i64 op, .int .i64 a, .int .i64 b, .int .i32 n, .int .i64 0]] w (GivesEK w (lowB F :: ([lowB (16 * a + b)] ++ le (n % 4294967296) (0 : Int).toNat))) := by
  obtain ⟨i0, hi0, hk0, hk1, hk2⟩ := info_parts u8_info
  obtain ⟨hn0, hn1⟩ := hn
  skip
  go_enter Tryd.func34, Tryd.ntmps34
  go_wp2_with (first
    | (go_at_call 26; refine (Hch.out _ (hT.alloc _)).mono ?_; rintro e w2 ⟨rfl, hb2⟩; have hT2 := (hT.alloc _).grow hb2; have hz2 : w.heap.size < w2.heap.size := (by have := hb2.size; simp at this; omega); obtain ⟨hc2, _⟩ := bcell hb2
       have p0 : w2.cell? ⟨w.heap.size, 0, none⟩ = some (.int .i64 op) := (by rw [hc2 _ _ (by simp)]; exact (Blk.new w _ _).cell 0)
       have p1 : w2.cell? ⟨w.heap.size, 1, none⟩ = some (.int .i64 a) := (by rw [hc2 _ _ (by simp)]; exact (Blk.new w _ _).cell 1)
       have p2 : w2.cell? ⟨w.heap.size, 2, none⟩ = some (.int .i64 b) := (by rw [hc2 _ _ (by simp)]; exact (Blk.new w _ _).cell 2)
       have p3 : w2.cell? ⟨w.heap.size, 3, none⟩ = some (.int .i32 n) := (by rw [hc2 _ _ (by simp)]; exact (Blk.new w _ _).cell 3)
       have p4 : w2.cell? ⟨w.heap.size, 4, none⟩ = some (.int .i64 0) := (by rw [hc2 _ _ (by simp)]; exact (Blk.new w _ _).cell 4))
    | (go_at_call 16; refine (Hat.out _ hT2).mono ?_; rintro e w3 ⟨rfl, hb3⟩; have hz3' := hb3.size; have hz3 : w.heap.size < w3.heap.size := (by omega); obtain ⟨hc3, _⟩ := bcell hb3
       have q1 := (hc3 _ _ hz2).trans p1; have q2 := (hc3 _ _ hz2).trans p2; have q3 := (hc3 _ _ hz2).trans p3; have q4 := (hc3 _ _ hz2).trans p4)
    | (go_at_call 49; refine (Hfi.out _).mono ?_; rintro e w4 ⟨rfl, hb4⟩; have hz4 : w3.heap.size < w4.heap.size := (by have := hb4.size; simp at this; omega); have hz4' : w.heap.size < w4.heap.size := (by omega); obtain ⟨hc4, _⟩ := bcell hb4
       have r1 := ((hc4 _ 1 (by simp; omega)).trans (World.cell?_alloc_lt w3 _ ⟨w.heap.size, 1, none⟩ hz3)).trans q1
       have r2 := ((hc4 _ 2 (by simp; omega)).trans (World.cell?_alloc_lt w3 _ ⟨w.heap.size, 2, none⟩ hz3)).trans q2
       have r3 := ((hc4 _ 3 (by simp; omega)).trans (World.cell?_alloc_lt w3 _ ⟨w.heap.size, 3, none⟩ hz3)).trans q3
       have r4 := ((hc4 _ 4 (by simp; omega)).trans (World.cell?_alloc_lt w3 _ ⟨w.heap.size, 4, none⟩ hz3)).trans q4
       have rx : w4.cell? ⟨w3.heap.size, 2, none⟩ = some (.int .i64 4) := (by rw [hc4 _ _ (by simp)]; exact (Blk.new w3 _ _).cell 2)
       have hB4 : Below w.heap.size w w4 := (((Below.refl w.heap.size w).alloc (Nat.le_refl _) _).trans (hb2.mono (by simp))).trans (hb3.mono (by omega)) |>.alloc (by omega) _ |>.trans (hb4.mono (by simp; omega)))
    | (at_builtin
       refine wpList_app _ rfl (.tmp 31) (.tmp 39) _ rfl w4.heap.size 5 i0 _ 1 1 Tryd.underlying55 hi0 hk0 hk1 hk2 rfl (by omega) (.slice (some ⟨w4.heap.size, 0, none⟩) 1 1) 1 [.int .u8 F] rfl ((own_new w4 5 1 1 [.int .u8 F] rfl (by unfold maxLen; omega)).alloc _) (w4.heap.size + 2) (some ⟨w4.heap.size + 1, 0, none⟩) 1 1 [.int .u8 (16 * a + b)] rfl (by have := sl_new (w4.alloc (.cells #[.int .u8 F] 5)) [.int .u8 (16 * a + b)] 1 1 rfl 5; simpa using this) (by intro u hu; simp at hu; rcases hu with rfl | rfl <;> rfl) (by unfold maxLen; omega) (by omega) (by simp; omega) 2 rfl (bs (lowB F :: [lowB (16 * a + b)])) (by simp only [bs, List.map_cons, List.map_nil, lowB_toNat, List.cons_append, List.nil_append]; simp only [List.cons.injEq, Value.int.injEq, true_and, and_true]; omega) ?_
       intro A6 c6 w6 hc6 hown6 hg6 _
       have hb6 : Below w4.heap.size w4 w6 := below_app (((Below.refl _ _).alloc (Nat.le_refl _) _).alloc (by simp) _) ((own_new w4 5 1 1 [.int .u8 F] rfl (by unfold maxLen; omega)).alloc _) hg6 (by simp; omega)
       have hz6 := hb6.size
       obtain ⟨hc6', _⟩ := bcell hb6
       have s3 := (hc6' _ _ hz4').trans r3
       have s4 := (hc6' _ _ hz4').trans r4
       have sx := (hc6' _ _ hz4).trans rx
       have hz6' : w.heap.size < w6.heap.size := (by omega)
       have hz6x : w3.heap.size < w6.heap.size := (by omega)))
  refine bodyPost_ret (v := .tuple #[.slice A6 2 c6, .int .i64 0]) (by simp [results, Tryd.results34, go_sem]) rfl ⟨A6, 2, c6, rfl, hc6, ?_, hB4.trans (hb6.mono (by omega))⟩
  have := (Kept.of_own hown6).more (base' := w.heap.size) (by omega)
  simpa [le] using this

set_option maxHeartbeats 1000000 in
theorem enc_5 (op a b n F B : Int) (v0 : ByteArray) (w : World) (hT : TabIs 0 w) (ha0 : 0 ≤ a) (ha1 : a < 8) (hb0 : 0 ≤ b) (hb1 : b < 8) (hn : -2147483648 ≤ n ∧ n ≤ 2147483647)   (hF : F % 256 = F)
    (Hch : Hid (∀ w, TabIs 0 w → Calls Tryd.prog 26 #[.agg #[.int .i64 op, .int .i64 a, .int .i64 b, .int .i32 n, .int .i64 0]] w fun e w' => e = .returned (.int .i64 0) ∧ Below w.heap.size w w'))
    (Hat : Hid (∀ w, TabIs 0 w → Calls Tryd.prog 16 #[.int .i64 op] w fun e w' => e = .returned (.tuple #[.agg #[.string v0, .int .u8 B, .int .i64 5], .bool true]) ∧ Below w.heap.size w w'))
    (Hfi : Hid (∀ w, Calls Tryd.prog 49 #[.agg #[.string v0, .int .u8 B, .int .i64 5], .int .i64 0] w fun e w' => e = .returned (.int .u8 F) ∧ Below w.heap.size w w')) :
    Calls Tryd.prog 34 #[.agg #[.int .i64 op, .int .i64 a, .int .i64 b, .int .i32 n, .int .i64 0]] w (GivesEK w (lowB F :: ([lowB (16 * a + b)] ++ le (n % 4294967296) (0 : Int).toNat))) := by
  obtain ⟨i0, hi0, hk0, hk1, hk2⟩ := info_parts u8_info
  obtain ⟨hn0, hn1⟩ := hn
  skip
  go_enter Tryd.func34, Tryd.ntmps34
  go_wp2_with (first
    | (go_at_call 26; refine (Hch.out _ (hT.alloc _)).mono ?_; rintro e w2 ⟨rfl, hb2⟩; have hT2 := (hT.alloc _).grow hb2; have hz2 : w.heap.size < w2.heap.size := (by have := hb2.size; simp at this; omega); obtain ⟨hc2, _⟩ := bcell hb2
       have p0 : w2.cell? ⟨w.heap.size, 0, none⟩ = some (.int .i64 op) := (by rw [hc2 _ _ (by simp)]; exact (Blk.new w _ _).cell 0)
       have p1 : w2.cell? ⟨w.heap.size, 1, none⟩ = some (.int .i64 a) := (by rw [hc2 _ _ (by simp)]; exact (Blk.new w _ _).cell 1)
       have p2 : w2.cell? ⟨w.heap.size, 2, none⟩ = some (.int .i64 b) := (by rw [hc2 _ _ (by simp)]; exact (Blk.new w _ _).cell 2)
       have p3 : w2.cell? ⟨w.heap.size, 3, none⟩ = some (.int .i32 n) := (by rw [hc2 _ _ (by simp)]; exact (Blk.new w _ _).cell 3)
       have p4 : w2.cell? ⟨w.heap.size, 4, none⟩ = some (.int .i64 0) := (by rw [hc2 _ _ (by simp)]; exact (Blk.new w _ _).cell 4))
    | (go_at_call 16; refine (Hat.out _ hT2).mono ?_; rintro e w3 ⟨rfl, hb3⟩; have hz3' := hb3.size; have hz3 : w.heap.size < w3.heap.size := (by omega); obtain ⟨hc3, _⟩ := bcell hb3
       have q1 := (hc3 _ _ hz2).trans p1; have q2 := (hc3 _ _ hz2).trans p2; have q3 := (hc3 _ _ hz2).trans p3; have q4 := (hc3 _ _ hz2).trans p4)
    | (go_at_call 49; refine (Hfi.out _).mono ?_; rintro e w4 ⟨rfl, hb4⟩; have hz4 : w3.heap.size < w4.heap.size := (by have := hb4.size; simp at this; omega); have hz4' : w.heap.size < w4.heap.size := (by omega); obtain ⟨hc4, _⟩ := bcell hb4
       have r1 := ((hc4 _ 1 (by simp; omega)).trans (World.cell?_alloc_lt w3 _ ⟨w.heap.size, 1, none⟩ hz3)).trans q1
       have r2 := ((hc4 _ 2 (by simp; omega)).trans (World.cell?_alloc_lt w3 _ ⟨w.heap.size, 2, none⟩ hz3)).trans q2
       have r3 := ((hc4 _ 3 (by simp; omega)).trans (World.cell?_alloc_lt w3 _ ⟨w.heap.size, 3, none⟩ hz3)).trans q3
       have r4 := ((hc4 _ 4 (by simp; omega)).trans (World.cell?_alloc_lt w3 _ ⟨w.heap.size, 4, none⟩ hz3)).trans q4
       have rx : w4.cell? ⟨w3.heap.size, 2, none⟩ = some (.int .i64 5) := (by rw [hc4 _ _ (by simp)]; exact (Blk.new w3 _ _).cell 2)
       have hB4 : Below w.heap.size w w4 := (((Below.refl w.heap.size w).alloc (Nat.le_refl _) _).trans (hb2.mono (by simp))).trans (hb3.mono (by omega)) |>.alloc (by omega) _ |>.trans (hb4.mono (by simp; omega)))
    | (at_builtin
       refine wpList_app _ rfl (.tmp 31) (.tmp 39) _ rfl w4.heap.size 5 i0 _ 1 1 Tryd.underlying55 hi0 hk0 hk1 hk2 rfl (by omega) (.slice (some ⟨w4.heap.size, 0, none⟩) 1 1) 1 [.int .u8 F] rfl ((own_new w4 5 1 1 [.int .u8 F] rfl (by unfold maxLen; omega)).alloc _) (w4.heap.size + 2) (some ⟨w4.heap.size + 1, 0, none⟩) 1 1 [.int .u8 (16 * a + b)] rfl (by have := sl_new (w4.alloc (.cells #[.int .u8 F] 5)) [.int .u8 (16 * a + b)] 1 1 rfl 5; simpa using this) (by intro u hu; simp at hu; rcases hu with rfl | rfl <;> rfl) (by unfold maxLen; omega) (by omega) (by simp; omega) 2 rfl (bs (lowB F :: [lowB (16 * a + b)])) (by simp only [bs, List.map_cons, List.map_nil, lowB_toNat, List.cons_append, List.nil_append]; simp only [List.cons.injEq, Value.int.injEq, true_and, and_true]; omega) ?_
       intro A6 c6 w6 hc6 hown6 hg6 _
       have hb6 : Below w4.heap.size w4 w6 := below_app (((Below.refl _ _).alloc (Nat.le_refl _) _).alloc (by simp) _) ((own_new w4 5 1 1 [.int .u8 F] rfl (by unfold maxLen; omega)).alloc _) hg6 (by simp; omega)
       have hz6 := hb6.size
       obtain ⟨hc6', _⟩ := bcell hb6
       have s3 := (hc6' _ _ hz4').trans r3
       have s4 := (hc6' _ _ hz4').trans r4
       have sx := (hc6' _ _ hz4).trans rx
       have hz6' : w.heap.size < w6.heap.size := (by omega)
       have hz6x : w3.heap.size < w6.heap.size := (by omega)))
  refine bodyPost_ret (v := .tuple #[.slice A6 2 c6, .int .i64 0]) (by simp [results, Tryd.results34, go_sem]) rfl ⟨A6, 2, c6, rfl, hc6, ?_, hB4.trans (hb6.mono (by omega))⟩
  have := (Kept.of_own hown6).more (base' := w.heap.size) (by omega)
  simpa [le] using this

set_option maxHeartbeats 1000000 in
theorem enc_6 (op a b n F B : Int) (v0 : ByteArray) (w : World) (hT : TabIs 0 w) (ha0 : 0 ≤ a) (ha1 : a < 8) (hb0 : 0 ≤ b) (hb1 : b < 8) (hn : -2147483648 ≤ n ∧ n ≤ 2147483647)   (hF : F % 256 = F)
    (Hch : Hid (∀ w, TabIs 0 w → Calls Tryd.prog 26 #[.agg #[.int .i64 op, .int .i64 a, .int .i64 b, .int .i32 n, .int .i64 0]] w fun e w' => e = .returned (.int .i64 0) ∧ Below w.heap.size w w'))
    (Hat : Hid (∀ w, TabIs 0 w → Calls Tryd.prog 16 #[.int .i64 op] w fun e w' => e = .returned (.tuple #[.agg #[.string v0, .int .u8 B, .int .i64 6], .bool true]) ∧ Below w.heap.size w w'))
    (Hfi : Hid (∀ w, Calls Tryd.prog 49 #[.agg #[.string v0, .int .u8 B, .int .i64 6], .int .i64 0] w fun e w' => e = .returned (.int .u8 F) ∧ Below w.heap.size w w')) :
    Calls Tryd.prog 34 #[.agg #[.int .i64 op, .int .i64 a, .int .i64 b, .int .i32 n, .int .i64 0]] w (GivesEK w (lowB F :: ([lowB (16 * a + b)] ++ le (n % 4294967296) (0 : Int).toNat))) := by
  obtain ⟨i0, hi0, hk0, hk1, hk2⟩ := info_parts u8_info
  obtain ⟨hn0, hn1⟩ := hn
  skip
  go_enter Tryd.func34, Tryd.ntmps34
  go_wp2_with (first
    | (go_at_call 26; refine (Hch.out _ (hT.alloc _)).mono ?_; rintro e w2 ⟨rfl, hb2⟩; have hT2 := (hT.alloc _).grow hb2; have hz2 : w.heap.size < w2.heap.size := (by have := hb2.size; simp at this; omega); obtain ⟨hc2, _⟩ := bcell hb2
       have p0 : w2.cell? ⟨w.heap.size, 0, none⟩ = some (.int .i64 op) := (by rw [hc2 _ _ (by simp)]; exact (Blk.new w _ _).cell 0)
       have p1 : w2.cell? ⟨w.heap.size, 1, none⟩ = some (.int .i64 a) := (by rw [hc2 _ _ (by simp)]; exact (Blk.new w _ _).cell 1)
       have p2 : w2.cell? ⟨w.heap.size, 2, none⟩ = some (.int .i64 b) := (by rw [hc2 _ _ (by simp)]; exact (Blk.new w _ _).cell 2)
       have p3 : w2.cell? ⟨w.heap.size, 3, none⟩ = some (.int .i32 n) := (by rw [hc2 _ _ (by simp)]; exact (Blk.new w _ _).cell 3)
       have p4 : w2.cell? ⟨w.heap.size, 4, none⟩ = some (.int .i64 0) := (by rw [hc2 _ _ (by simp)]; exact (Blk.new w _ _).cell 4))
    | (go_at_call 16; refine (Hat.out _ hT2).mono ?_; rintro e w3 ⟨rfl, hb3⟩; have hz3' := hb3.size; have hz3 : w.heap.size < w3.heap.size := (by omega); obtain ⟨hc3, _⟩ := bcell hb3
       have q1 := (hc3 _ _ hz2).trans p1; have q2 := (hc3 _ _ hz2).trans p2; have q3 := (hc3 _ _ hz2).trans p3; have q4 := (hc3 _ _ hz2).trans p4)
    | (go_at_call 49; refine (Hfi.out _).mono ?_; rintro e w4 ⟨rfl, hb4⟩; have hz4 : w3.heap.size < w4.heap.size := (by have := hb4.size; simp at this; omega); have hz4' : w.heap.size < w4.heap.size := (by omega); obtain ⟨hc4, _⟩ := bcell hb4
       have r1 := ((hc4 _ 1 (by simp; omega)).trans (World.cell?_alloc_lt w3 _ ⟨w.heap.size, 1, none⟩ hz3)).trans q1
       have r2 := ((hc4 _ 2 (by simp; omega)).trans (World.cell?_alloc_lt w3 _ ⟨w.heap.size, 2, none⟩ hz3)).trans q2
       have r3 := ((hc4 _ 3 (by simp; omega)).trans (World.cell?_alloc_lt w3 _ ⟨w.heap.size, 3, none⟩ hz3)).trans q3
       have r4 := ((hc4 _ 4 (by simp; omega)).trans (World.cell?_alloc_lt w3 _ ⟨w.heap.size, 4, none⟩ hz3)).trans q4
       have rx : w4.cell? ⟨w3.heap.size, 2, none⟩ = some (.int .i64 6) := (by rw [hc4 _ _ (by simp)]; exact (Blk.new w3 _ _).cell 2)
       have hB4 : Below w.heap.size w w4 := (((Below.refl w.heap.size w).alloc (Nat.le_refl _) _).trans (hb2.mono (by simp))).trans (hb3.mono (by omega)) |>.alloc (by omega) _ |>.trans (hb4.mono (by simp; omega)))
    | (at_builtin
       refine wpList_app _ rfl (.tmp 31) (.tmp 39) _ rfl w4.heap.size 5 i0 _ 1 1 Tryd.underlying55 hi0 hk0 hk1 hk2 rfl (by omega) (.slice (some ⟨w4.heap.size, 0, none⟩) 1 1) 1 [.int .u8 F] rfl ((own_new w4 5 1 1 [.int .u8 F] rfl (by unfold maxLen; omega)).alloc _) (w4.heap.size + 2) (some ⟨w4.heap.size + 1, 0, none⟩) 1 1 [.int .u8 (16 * a + b)] rfl (by have := sl_new (w4.alloc (.cells #[.int .u8 F] 5)) [.int .u8 (16 * a + b)] 1 1 rfl 5; simpa using this) (by intro u hu; simp at hu; rcases hu with rfl | rfl <;> rfl) (by unfold maxLen; omega) (by omega) (by simp; omega) 2 rfl (bs (lowB F :: [lowB (16 * a + b)])) (by simp only [bs, List.map_cons, List.map_nil, lowB_toNat, List.cons_append, List.nil_append]; simp only [List.cons.injEq, Value.int.injEq, true_and, and_true]; omega) ?_
       intro A6 c6 w6 hc6 hown6 hg6 _
       have hb6 : Below w4.heap.size w4 w6 := below_app (((Below.refl _ _).alloc (Nat.le_refl _) _).alloc (by simp) _) ((own_new w4 5 1 1 [.int .u8 F] rfl (by unfold maxLen; omega)).alloc _) hg6 (by simp; omega)
       have hz6 := hb6.size
       obtain ⟨hc6', _⟩ := bcell hb6
       have s3 := (hc6' _ _ hz4').trans r3
       have s4 := (hc6' _ _ hz4').trans r4
       have sx := (hc6' _ _ hz4).trans rx
       have hz6' : w.heap.size < w6.heap.size := (by omega)
       have hz6x : w3.heap.size < w6.heap.size := (by omega)))
  refine bodyPost_ret (v := .tuple #[.slice A6 2 c6, .int .i64 0]) (by simp [results, Tryd.results34, go_sem]) rfl ⟨A6, 2, c6, rfl, hc6, ?_, hB4.trans (hb6.mono (by omega))⟩
  have := (Kept.of_own hown6).more (base' := w.heap.size) (by omega)
  simpa [le] using this

set_option maxHeartbeats 1000000 in
theorem enc_7 (op a b n F B : Int) (v0 : ByteArray) (w : World) (hT : TabIs 0 w) (ha0 : 0 ≤ a) (ha1 : a < 8) (hb0 : 0 ≤ b) (hb1 : b < 8) (hn : -2147483648 ≤ n ∧ n ≤ 2147483647) (hn7 : 0 ≤ n ∧ n < 8)  (hF : F % 256 = F)
    (Hch : Hid (∀ w, TabIs 0 w → Calls Tryd.prog 26 #[.agg #[.int .i64 op, .int .i64 a, .int .i64 b, .int .i32 n, .int .i64 0]] w fun e w' => e = .returned (.int .i64 0) ∧ Below w.heap.size w w'))
    (Hat : Hid (∀ w, TabIs 0 w → Calls Tryd.prog 16 #[.int .i64 op] w fun e w' => e = .returned (.tuple #[.agg #[.string v0, .int .u8 B, .int .i64 7], .bool true]) ∧ Below w.heap.size w w'))
    (Hfi : Hid (∀ w, Calls Tryd.prog 49 #[.agg #[.string v0, .int .u8 B, .int .i64 7], .int .i64 0] w fun e w' => e = .returned (.int .u8 F) ∧ Below w.heap.size w w')) :
    Calls Tryd.prog 34 #[.agg #[.int .i64 op, .int .i64 a, .int .i64 b, .int .i32 n, .int .i64 0]] w (GivesEK w (lowB F :: ([lowB a, lowB (16 * b + n)] ++ le (n % 4294967296) (0 : Int).toNat))) := by
  obtain ⟨i0, hi0, hk0, hk1, hk2⟩ := info_parts u8_info
  obtain ⟨hn0, hn1⟩ := hn
  obtain ⟨hn2, hn3⟩ := hn7
  go_enter Tryd.func34, Tryd.ntmps34
  go_wp2_with (first
    | (go_at_call 26; refine (Hch.out _ (hT.alloc _)).mono ?_; rintro e w2 ⟨rfl, hb2⟩; have hT2 := (hT.alloc _).grow hb2; have hz2 : w.heap.size < w2.heap.size := (by have := hb2.size; simp at this; omega); obtain ⟨hc2, _⟩ := bcell hb2
       have p0 : w2.cell? ⟨w.heap.size, 0, none⟩ = some (.int .i64 op) := (by rw [hc2 _ _ (by simp)]; exact (Blk.new w _ _).cell 0)
       have p1 : w2.cell? ⟨w.heap.size, 1, none⟩ = some (.int .i64 a) := (by rw [hc2 _ _ (by simp)]; exact (Blk.new w _ _).cell 1)
       have p2 : w2.cell? ⟨w.heap.size, 2, none⟩ = some (.int .i64 b) := (by rw [hc2 _ _ (by simp)]; exact (Blk.new w _ _).cell 2)
       have p3 : w2.cell? ⟨w.heap.size, 3, none⟩ = some (.int .i32 n) := (by rw [hc2 _ _ (by simp)]; exact (Blk.new w _ _).cell 3)
       have p4 : w2.cell? ⟨w.heap.size, 4, none⟩ = some (.int .i64 0) := (by rw [hc2 _ _ (by simp)]; exact (Blk.new w _ _).cell 4))
    | (go_at_call 16; refine (Hat.out _ hT2).mono ?_; rintro e w3 ⟨rfl, hb3⟩; have hz3' := hb3.size; have hz3 : w.heap.size < w3.heap.size := (by omega); obtain ⟨hc3, _⟩ := bcell hb3
       have q1 := (hc3 _ _ hz2).trans p1; have q2 := (hc3 _ _ hz2).trans p2; have q3 := (hc3 _ _ hz2).trans p3; have q4 := (hc3 _ _ hz2).trans p4)
    | (go_at_call 49; refine (Hfi.out _).mono ?_; rintro e w4 ⟨rfl, hb4⟩; have hz4 : w3.heap.size < w4.heap.size := (by have := hb4.size; simp at this; omega); have hz4' : w.heap.size < w4.heap.size := (by omega); obtain ⟨hc4, _⟩ := bcell hb4
       have r1 := ((hc4 _ 1 (by simp; omega)).trans (World.cell?_alloc_lt w3 _ ⟨w.heap.size, 1, none⟩ hz3)).trans q1
       have r2 := ((hc4 _ 2 (by simp; omega)).trans (World.cell?_alloc_lt w3 _ ⟨w.heap.size, 2, none⟩ hz3)).trans q2
       have r3 := ((hc4 _ 3 (by simp; omega)).trans (World.cell?_alloc_lt w3 _ ⟨w.heap.size, 3, none⟩ hz3)).trans q3
       have r4 := ((hc4 _ 4 (by simp; omega)).trans (World.cell?_alloc_lt w3 _ ⟨w.heap.size, 4, none⟩ hz3)).trans q4
       have rx : w4.cell? ⟨w3.heap.size, 2, none⟩ = some (.int .i64 7) := (by rw [hc4 _ _ (by simp)]; exact (Blk.new w3 _ _).cell 2)
       have hB4 : Below w.heap.size w w4 := (((Below.refl w.heap.size w).alloc (Nat.le_refl _) _).trans (hb2.mono (by simp))).trans (hb3.mono (by omega)) |>.alloc (by omega) _ |>.trans (hb4.mono (by simp; omega)))
    | (at_builtin
       refine wpList_app _ rfl (.tmp 43) (.tmp 55) _ rfl w4.heap.size 5 i0 _ 1 1 Tryd.underlying55 hi0 hk0 hk1 hk2 rfl (by omega) (.slice (some ⟨w4.heap.size, 0, none⟩) 1 1) 1 [.int .u8 F] rfl ((own_new w4 5 1 1 [.int .u8 F] rfl (by unfold maxLen; omega)).alloc _) (w4.heap.size + 2) (some ⟨w4.heap.size + 1, 0, none⟩) 2 2 [.int .u8 a, .int .u8 (16 * b + n)] rfl (by have := sl_new (w4.alloc (.cells #[.int .u8 F] 5)) [.int .u8 a, .int .u8 (16 * b + n)] 1 2 rfl 5; simpa using this) (by intro u hu; simp at hu; rcases hu with rfl | rfl <;> rfl) (by unfold maxLen; omega) (by omega) (by simp; omega) 3 rfl (bs (lowB F :: [lowB a, lowB (16 * b + n)])) (by simp only [bs, List.map_cons, List.map_nil, lowB_toNat, List.cons_append, List.nil_append]; simp only [List.cons.injEq, Value.int.injEq, true_and, and_true]; omega) ?_
       intro A6 c6 w6 hc6 hown6 hg6 _
       have hb6 : Below w4.heap.size w4 w6 := below_app (((Below.refl _ _).alloc (Nat.le_refl _) _).alloc (by simp) _) ((own_new w4 5 1 1 [.int .u8 F] rfl (by unfold maxLen; omega)).alloc _) hg6 (by simp; omega)
       have hz6 := hb6.size
       obtain ⟨hc6', _⟩ := bcell hb6
       have s3 := (hc6' _ _ hz4').trans r3
       have s4 := (hc6' _ _ hz4').trans r4
       have sx := (hc6' _ _ hz4).trans rx
       have hz6' : w.heap.size < w6.heap.size := (by omega)
       have hz6x : w3.heap.size < w6.heap.size := (by omega)))
  refine bodyPost_ret (v := .tuple #[.slice A6 3 c6, .int .i64 0]) (by simp [results, Tryd.results34, go_sem]) rfl ⟨A6, 3, c6, rfl, hc6, ?_, hB4.trans (hb6.mono (by omega))⟩
  have := (Kept.of_own hown6).more (base' := w.heap.size) (by omega)
  simpa [le] using this

set_option maxHeartbeats 1000000 in
theorem enc_8 (op a b n F B : Int) (v0 : ByteArray) (w : World) (hT : TabIs 0 w) (ha0 : 0 ≤ a) (ha1 : a < 8) (hb0 : 0 ≤ b) (hb1 : b < 8) (hn : -2147483648 ≤ n ∧ n ≤ 2147483647)   (hF : F % 256 = F)
    (Hch : Hid (∀ w, TabIs 0 w → Calls Tryd.prog 26 #[.agg #[.int .i64 op, .int .i64 a, .int .i64 b, .int .i32 n, .int .i64 0]] w fun e w' => e = .returned (.int .i64 0) ∧ Below w.heap.size w w'))
    (Hat : Hid (∀ w, TabIs 0 w → Calls Tryd.prog 16 #[.int .i64 op] w fun e w' => e = .returned (.tuple #[.agg #[.string v0, .int .u8 B, .int .i64 8], .bool true]) ∧ Below w.heap.size w w'))
    (Hfi : Hid (∀ w, Calls Tryd.prog 49 #[.agg #[.string v0, .int .u8 B, .int .i64 8], .int .i64 0] w fun e w' => e = .returned (.int .u8 F) ∧ Below w.heap.size w w')) :
    Calls Tryd.prog 34 #[.agg #[.int .i64 op, .int .i64 a, .int .i64 b, .int .i32 n, .int .i64 0]] w (GivesEK w (lowB F :: ([lowB a] ++ le (n % 4294967296) (1 : Int).toNat))) := by
  obtain ⟨i0, hi0, hk0, hk1, hk2⟩ := info_parts u8_info
  obtain ⟨hn0, hn1⟩ := hn
  skip
  go_enter Tryd.func34, Tryd.ntmps34
  go_wp2_with (first
    | (go_at_call 26; refine (Hch.out _ (hT.alloc _)).mono ?_; rintro e w2 ⟨rfl, hb2⟩; have hT2 := (hT.alloc _).grow hb2; have hz2 : w.heap.size < w2.heap.size := (by have := hb2.size; simp at this; omega); obtain ⟨hc2, _⟩ := bcell hb2
       have p0 : w2.cell? ⟨w.heap.size, 0, none⟩ = some (.int .i64 op) := (by rw [hc2 _ _ (by simp)]; exact (Blk.new w _ _).cell 0)
       have p1 : w2.cell? ⟨w.heap.size, 1, none⟩ = some (.int .i64 a) := (by rw [hc2 _ _ (by simp)]; exact (Blk.new w _ _).cell 1)
       have p2 : w2.cell? ⟨w.heap.size, 2, none⟩ = some (.int .i64 b) := (by rw [hc2 _ _ (by simp)]; exact (Blk.new w _ _).cell 2)
       have p3 : w2.cell? ⟨w.heap.size, 3, none⟩ = some (.int .i32 n) := (by rw [hc2 _ _ (by simp)]; exact (Blk.new w _ _).cell 3)
       have p4 : w2.cell? ⟨w.heap.size, 4, none⟩ = some (.int .i64 0) := (by rw [hc2 _ _ (by simp)]; exact (Blk.new w _ _).cell 4))
    | (go_at_call 16; refine (Hat.out _ hT2).mono ?_; rintro e w3 ⟨rfl, hb3⟩; have hz3' := hb3.size; have hz3 : w.heap.size < w3.heap.size := (by omega); obtain ⟨hc3, _⟩ := bcell hb3
       have q1 := (hc3 _ _ hz2).trans p1; have q2 := (hc3 _ _ hz2).trans p2; have q3 := (hc3 _ _ hz2).trans p3; have q4 := (hc3 _ _ hz2).trans p4)
    | (go_at_call 49; refine (Hfi.out _).mono ?_; rintro e w4 ⟨rfl, hb4⟩; have hz4 : w3.heap.size < w4.heap.size := (by have := hb4.size; simp at this; omega); have hz4' : w.heap.size < w4.heap.size := (by omega); obtain ⟨hc4, _⟩ := bcell hb4
       have r1 := ((hc4 _ 1 (by simp; omega)).trans (World.cell?_alloc_lt w3 _ ⟨w.heap.size, 1, none⟩ hz3)).trans q1
       have r2 := ((hc4 _ 2 (by simp; omega)).trans (World.cell?_alloc_lt w3 _ ⟨w.heap.size, 2, none⟩ hz3)).trans q2
       have r3 := ((hc4 _ 3 (by simp; omega)).trans (World.cell?_alloc_lt w3 _ ⟨w.heap.size, 3, none⟩ hz3)).trans q3
       have r4 := ((hc4 _ 4 (by simp; omega)).trans (World.cell?_alloc_lt w3 _ ⟨w.heap.size, 4, none⟩ hz3)).trans q4
       have rx : w4.cell? ⟨w3.heap.size, 2, none⟩ = some (.int .i64 8) := (by rw [hc4 _ _ (by simp)]; exact (Blk.new w3 _ _).cell 2)
       have hB4 : Below w.heap.size w w4 := (((Below.refl w.heap.size w).alloc (Nat.le_refl _) _).trans (hb2.mono (by simp))).trans (hb3.mono (by omega)) |>.alloc (by omega) _ |>.trans (hb4.mono (by simp; omega)))
    | (at_builtin
       refine wpList_app _ rfl (.tmp 64) (.tmp 68) _ rfl w4.heap.size 5 i0 _ 1 1 Tryd.underlying55 hi0 hk0 hk1 hk2 rfl (by omega) (.slice (some ⟨w4.heap.size, 0, none⟩) 1 1) 1 [.int .u8 F] rfl ((own_new w4 5 1 1 [.int .u8 F] rfl (by unfold maxLen; omega)).alloc _) (w4.heap.size + 2) (some ⟨w4.heap.size + 1, 0, none⟩) 1 1 [.int .u8 a] rfl (by have := sl_new (w4.alloc (.cells #[.int .u8 F] 5)) [.int .u8 a] 1 1 rfl 5; simpa using this) (by intro u hu; simp at hu; rcases hu with rfl | rfl <;> rfl) (by unfold maxLen; omega) (by omega) (by simp; omega) 2 rfl (bs (lowB F :: [lowB a])) (by simp only [bs, List.map_cons, List.map_nil, lowB_toNat, List.cons_append, List.nil_append]; simp only [List.cons.injEq, Value.int.injEq, true_and, and_true]; omega) ?_
       intro A6 c6 w6 hc6 hown6 hg6 _
       have hb6 : Below w4.heap.size w4 w6 := below_app (((Below.refl _ _).alloc (Nat.le_refl _) _).alloc (by simp) _) ((own_new w4 5 1 1 [.int .u8 F] rfl (by unfold maxLen; omega)).alloc _) hg6 (by simp; omega)
       have hz6 := hb6.size
       obtain ⟨hc6', _⟩ := bcell hb6
       have s3 := (hc6' _ _ hz4').trans r3
       have s4 := (hc6' _ _ hz4').trans r4
       have sx := (hc6' _ _ hz4).trans rx
       have hz6' : w.heap.size < w6.heap.size := (by omega)
       have hz6x : w3.heap.size < w6.heap.size := (by omega))
    | (go_at_call 50; (refine (put_kept A6 2 c6 (lowB F :: [lowB a]) (n % 4294967296) 1 _ (Sl.of_own hown6) (by omega) (by omega) (by omega)).mono ?_; rintro e w7 ⟨A7, n7, c7, rfl, hc7, hs7, hb7⟩; have hB7 : Below w.heap.size w w7 := (hB4.trans (hb6.mono (by omega))).trans (hb7.mono (by first | omega | (simp; omega))))))
  refine bodyPost_ret (v := .tuple #[.slice A7 n7 c7, .int .i64 0]) (by simp [results, Tryd.results34, go_sem]) rfl ⟨A7, n7, c7, rfl, hc7, ?_, hB7⟩
  rw [putL_e (by first | omega | exact Or.inr hf)] at hs7
  have hs8 := hs7.more (base' := w.heap.size) (by first | omega | (simp; omega))
  simpa using hs8

set_option maxHeartbeats 1000000 in
theorem enc_9 (op a b n F B : Int) (v0 : ByteArray) (w : World) (hT : TabIs 0 w) (ha0 : 0 ≤ a) (ha1 : a < 8) (hb0 : 0 ≤ b) (hb1 : b < 8) (hn : -2147483648 ≤ n ∧ n ≤ 2147483647)   (hF : F % 256 = F)
    (Hch : Hid (∀ w, TabIs 0 w → Calls Tryd.prog 26 #[.agg #[.int .i64 op, .int .i64 a, .int .i64 b, .int .i32 n, .int .i64 0]] w fun e w' => e = .returned (.int .i64 0) ∧ Below w.heap.size w w'))
    (Hat : Hid (∀ w, TabIs 0 w → Calls Tryd.prog 16 #[.int .i64 op] w fun e w' => e = .returned (.tuple #[.agg #[.string v0, .int .u8 B, .int .i64 9], .bool true]) ∧ Below w.heap.size w w'))
    (Hfi : Hid (∀ w, Calls Tryd.prog 49 #[.agg #[.string v0, .int .u8 B, .int .i64 9], .int .i64 0] w fun e w' => e = .returned (.int .u8 F) ∧ Below w.heap.size w w')) :
    Calls Tryd.prog 34 #[.agg #[.int .i64 op, .int .i64 a, .int .i64 b, .int .i32 n, .int .i64 0]] w (GivesEK w (lowB F :: ([] ++ le (n % 4294967296) (1 : Int).toNat))) := by
  obtain ⟨i0, hi0, hk0, hk1, hk2⟩ := info_parts u8_info
  obtain ⟨hn0, hn1⟩ := hn
  skip
  go_enter Tryd.func34, Tryd.ntmps34
  go_wp2_with (first
    | (go_at_call 26; refine (Hch.out _ (hT.alloc _)).mono ?_; rintro e w2 ⟨rfl, hb2⟩; have hT2 := (hT.alloc _).grow hb2; have hz2 : w.heap.size < w2.heap.size := (by have := hb2.size; simp at this; omega); obtain ⟨hc2, _⟩ := bcell hb2
       have p0 : w2.cell? ⟨w.heap.size, 0, none⟩ = some (.int .i64 op) := (by rw [hc2 _ _ (by simp)]; exact (Blk.new w _ _).cell 0)
       have p1 : w2.cell? ⟨w.heap.size, 1, none⟩ = some (.int .i64 a) := (by rw [hc2 _ _ (by simp)]; exact (Blk.new w _ _).cell 1)
       have p2 : w2.cell? ⟨w.heap.size, 2, none⟩ = some (.int .i64 b) := (by rw [hc2 _ _ (by simp)]; exact (Blk.new w _ _).cell 2)
       have p3 : w2.cell? ⟨w.heap.size, 3, none⟩ = some (.int .i32 n) := (by rw [hc2 _ _ (by simp)]; exact (Blk.new w _ _).cell 3)
       have p4 : w2.cell? ⟨w.heap.size, 4, none⟩ = some (.int .i64 0) := (by rw [hc2 _ _ (by simp)]; exact (Blk.new w _ _).cell 4))
    | (go_at_call 16; refine (Hat.out _ hT2).mono ?_; rintro e w3 ⟨rfl, hb3⟩; have hz3' := hb3.size; have hz3 : w.heap.size < w3.heap.size := (by omega); obtain ⟨hc3, _⟩ := bcell hb3
       have q1 := (hc3 _ _ hz2).trans p1; have q2 := (hc3 _ _ hz2).trans p2; have q3 := (hc3 _ _ hz2).trans p3; have q4 := (hc3 _ _ hz2).trans p4)
    | (go_at_call 49; refine (Hfi.out _).mono ?_; rintro e w4 ⟨rfl, hb4⟩; have hz4 : w3.heap.size < w4.heap.size := (by have := hb4.size; simp at this; omega); have hz4' : w.heap.size < w4.heap.size := (by omega); obtain ⟨hc4, _⟩ := bcell hb4
       have r1 := ((hc4 _ 1 (by simp; omega)).trans (World.cell?_alloc_lt w3 _ ⟨w.heap.size, 1, none⟩ hz3)).trans q1
       have r2 := ((hc4 _ 2 (by simp; omega)).trans (World.cell?_alloc_lt w3 _ ⟨w.heap.size, 2, none⟩ hz3)).trans q2
       have r3 := ((hc4 _ 3 (by simp; omega)).trans (World.cell?_alloc_lt w3 _ ⟨w.heap.size, 3, none⟩ hz3)).trans q3
       have r4 := ((hc4 _ 4 (by simp; omega)).trans (World.cell?_alloc_lt w3 _ ⟨w.heap.size, 4, none⟩ hz3)).trans q4
       have rx : w4.cell? ⟨w3.heap.size, 2, none⟩ = some (.int .i64 9) := (by rw [hc4 _ _ (by simp)]; exact (Blk.new w3 _ _).cell 2)
       have hB4 : Below w.heap.size w w4 := (((Below.refl w.heap.size w).alloc (Nat.le_refl _) _).trans (hb2.mono (by simp))).trans (hb3.mono (by omega)) |>.alloc (by omega) _ |>.trans (hb4.mono (by simp; omega)))
    | (go_at_call 50; (refine (put_kept (some ⟨w4.heap.size, 0, none⟩) 1 1 (lowB F :: []) (n % 4294967296) 1 _ (by have := (Sl.of_own (own_new w4 5 1 1 [.int .u8 F] rfl (by unfold maxLen; omega))); simpa [bs, lowB_toNat, hF] using this) (by omega) (by omega) (by omega)).mono ?_; rintro e w7 ⟨A7, n7, c7, rfl, hc7, hs7, hb7⟩; have hB7 : Below w.heap.size w w7 := (hB4.alloc (by omega) _).trans (hb7.mono (by first | omega | (simp; omega))))))
  refine bodyPost_ret (v := .tuple #[.slice A7 n7 c7, .int .i64 0]) (by simp [results, Tryd.results34, go_sem]) rfl ⟨A7, n7, c7, rfl, hc7, ?_, hB7⟩
  rw [putL_e (by first | omega | exact Or.inr hf)] at hs7
  have hs8 := hs7.more (base' := w.heap.size) (by first | omega | (simp; omega))
  simpa using hs8

set_option maxHeartbeats 1000000 in
theorem enc_10 (op a b n F B : Int) (v0 : ByteArray) (w : World) (hT : TabIs 0 w) (ha0 : 0 ≤ a) (ha1 : a < 8) (hb0 : 0 ≤ b) (hb1 : b < 8) (hn : -2147483648 ≤ n ∧ n ≤ 2147483647)   (hF : F % 256 = F)
    (Hch : Hid (∀ w, TabIs 0 w → Calls Tryd.prog 26 #[.agg #[.int .i64 op, .int .i64 a, .int .i64 b, .int .i32 n, .int .i64 0]] w fun e w' => e = .returned (.int .i64 0) ∧ Below w.heap.size w w'))
    (Hat : Hid (∀ w, TabIs 0 w → Calls Tryd.prog 16 #[.int .i64 op] w fun e w' => e = .returned (.tuple #[.agg #[.string v0, .int .u8 B, .int .i64 10], .bool true]) ∧ Below w.heap.size w w'))
    (Hfi : Hid (∀ w, Calls Tryd.prog 49 #[.agg #[.string v0, .int .u8 B, .int .i64 10], .int .i64 0] w fun e w' => e = .returned (.int .u8 F) ∧ Below w.heap.size w w')) :
    Calls Tryd.prog 34 #[.agg #[.int .i64 op, .int .i64 a, .int .i64 b, .int .i32 n, .int .i64 0]] w (GivesEK w (lowB F :: ([lowB a] ++ le (n % 4294967296) (4 : Int).toNat))) := by
  obtain ⟨i0, hi0, hk0, hk1, hk2⟩ := info_parts u8_info
  obtain ⟨hn0, hn1⟩ := hn
  skip
  go_enter Tryd.func34, Tryd.ntmps34
  go_wp2_with (first
    | (go_at_call 26; refine (Hch.out _ (hT.alloc _)).mono ?_; rintro e w2 ⟨rfl, hb2⟩; have hT2 := (hT.alloc _).grow hb2; have hz2 : w.heap.size < w2.heap.size := (by have := hb2.size; simp at this; omega); obtain ⟨hc2, _⟩ := bcell hb2
       have p0 : w2.cell? ⟨w.heap.size, 0, none⟩ = some (.int .i64 op) := (by rw [hc2 _ _ (by simp)]; exact (Blk.new w _ _).cell 0)
       have p1 : w2.cell? ⟨w.heap.size, 1, none⟩ = some (.int .i64 a) := (by rw [hc2 _ _ (by simp)]; exact (Blk.new w _ _).cell 1)
       have p2 : w2.cell? ⟨w.heap.size, 2, none⟩ = some (.int .i64 b) := (by rw [hc2 _ _ (by simp)]; exact (Blk.new w _ _).cell 2)
       have p3 : w2.cell? ⟨w.heap.size, 3, none⟩ = some (.int .i32 n) := (by rw [hc2 _ _ (by simp)]; exact (Blk.new w _ _).cell 3)
       have p4 : w2.cell? ⟨w.heap.size, 4, none⟩ = some (.int .i64 0) := (by rw [hc2 _ _ (by simp)]; exact (Blk.new w _ _).cell 4))
    | (go_at_call 16; refine (Hat.out _ hT2).mono ?_; rintro e w3 ⟨rfl, hb3⟩; have hz3' := hb3.size; have hz3 : w.heap.size < w3.heap.size := (by omega); obtain ⟨hc3, _⟩ := bcell hb3
       have q1 := (hc3 _ _ hz2).trans p1; have q2 := (hc3 _ _ hz2).trans p2; have q3 := (hc3 _ _ hz2).trans p3; have q4 := (hc3 _ _ hz2).trans p4)
    | (go_at_call 49; refine (Hfi.out _).mono ?_; rintro e w4 ⟨rfl, hb4⟩; have hz4 : w3.heap.size < w4.heap.size := (by have := hb4.size; simp at this; omega); have hz4' : w.heap.size < w4.heap.size := (by omega); obtain ⟨hc4, _⟩ := bcell hb4
       have r1 := ((hc4 _ 1 (by simp; omega)).trans (World.cell?_alloc_lt w3 _ ⟨w.heap.size, 1, none⟩ hz3)).trans q1
       have r2 := ((hc4 _ 2 (by simp; omega)).trans (World.cell?_alloc_lt w3 _ ⟨w.heap.size, 2, none⟩ hz3)).trans q2
       have r3 := ((hc4 _ 3 (by simp; omega)).trans (World.cell?_alloc_lt w3 _ ⟨w.heap.size, 3, none⟩ hz3)).trans q3
       have r4 := ((hc4 _ 4 (by simp; omega)).trans (World.cell?_alloc_lt w3 _ ⟨w.heap.size, 4, none⟩ hz3)).trans q4
       have rx : w4.cell? ⟨w3.heap.size, 2, none⟩ = some (.int .i64 10) := (by rw [hc4 _ _ (by simp)]; exact (Blk.new w3 _ _).cell 2)
       have hB4 : Below w.heap.size w w4 := (((Below.refl w.heap.size w).alloc (Nat.le_refl _) _).trans (hb2.mono (by simp))).trans (hb3.mono (by omega)) |>.alloc (by omega) _ |>.trans (hb4.mono (by simp; omega)))
    | (at_builtin
       refine wpList_app _ rfl (.tmp 64) (.tmp 68) _ rfl w4.heap.size 5 i0 _ 1 1 Tryd.underlying55 hi0 hk0 hk1 hk2 rfl (by omega) (.slice (some ⟨w4.heap.size, 0, none⟩) 1 1) 1 [.int .u8 F] rfl ((own_new w4 5 1 1 [.int .u8 F] rfl (by unfold maxLen; omega)).alloc _) (w4.heap.size + 2) (some ⟨w4.heap.size + 1, 0, none⟩) 1 1 [.int .u8 a] rfl (by have := sl_new (w4.alloc (.cells #[.int .u8 F] 5)) [.int .u8 a] 1 1 rfl 5; simpa using this) (by intro u hu; simp at hu; rcases hu with rfl | rfl <;> rfl) (by unfold maxLen; omega) (by omega) (by simp; omega) 2 rfl (bs (lowB F :: [lowB a])) (by simp only [bs, List.map_cons, List.map_nil, lowB_toNat, List.cons_append, List.nil_append]; simp only [List.cons.injEq, Value.int.injEq, true_and, and_true]; omega) ?_
       intro A6 c6 w6 hc6 hown6 hg6 _
       have hb6 : Below w4.heap.size w4 w6 := below_app (((Below.refl _ _).alloc (Nat.le_refl _) _).alloc (by simp) _) ((own_new w4 5 1 1 [.int .u8 F] rfl (by unfold maxLen; omega)).alloc _) hg6 (by simp; omega)
       have hz6 := hb6.size
       obtain ⟨hc6', _⟩ := bcell hb6
       have s3 := (hc6' _ _ hz4').trans r3
       have s4 := (hc6' _ _ hz4').trans r4
       have sx := (hc6' _ _ hz4).trans rx
       have hz6' : w.heap.size < w6.heap.size := (by omega)
       have hz6x : w3.heap.size < w6.heap.size := (by omega))
    | (go_at_call 50; (refine (put_kept A6 2 c6 (lowB F :: [lowB a]) (n % 4294967296) 4 _ (Sl.of_own hown6) (by omega) (by omega) (by omega)).mono ?_; rintro e w7 ⟨A7, n7, c7, rfl, hc7, hs7, hb7⟩; have hB7 : Below w.heap.size w w7 := (hB4.trans (hb6.mono (by omega))).trans (hb7.mono (by first | omega | (simp; omega))))))
  refine bodyPost_ret (v := .tuple #[.slice A7 n7 c7, .int .i64 0]) (by simp [results, Tryd.results34, go_sem]) rfl ⟨A7, n7, c7, rfl, hc7, ?_, hB7⟩
  rw [putL_e (by first | omega | exact Or.inr hf)] at hs7
  have hs8 := hs7.more (base' := w.heap.size) (by first | omega | (simp; omega))
  simpa using hs8

set_option maxHeartbeats 1000000 in
theorem enc_11 (op a b n F B : Int) (v0 : ByteArray) (w : World) (hT : TabIs 0 w) (ha0 : 0 ≤ a) (ha1 : a < 8) (hb0 : 0 ≤ b) (hb1 : b < 8) (hn : -2147483648 ≤ n ∧ n ≤ 2147483647)   (hF : F % 256 = F)
    (Hch : Hid (∀ w, TabIs 0 w → Calls Tryd.prog 26 #[.agg #[.int .i64 op, .int .i64 a, .int .i64 b, .int .i32 n, .int .i64 0]] w fun e w' => e = .returned (.int .i64 0) ∧ Below w.heap.size w w'))
    (Hat : Hid (∀ w, TabIs 0 w → Calls Tryd.prog 16 #[.int .i64 op] w fun e w' => e = .returned (.tuple #[.agg #[.string v0, .int .u8 B, .int .i64 11], .bool true]) ∧ Below w.heap.size w w'))
    (Hfi : Hid (∀ w, Calls Tryd.prog 49 #[.agg #[.string v0, .int .u8 B, .int .i64 11], .int .i64 0] w fun e w' => e = .returned (.int .u8 F) ∧ Below w.heap.size w w')) :
    Calls Tryd.prog 34 #[.agg #[.int .i64 op, .int .i64 a, .int .i64 b, .int .i32 n, .int .i64 0]] w (GivesEK w (lowB F :: ([lowB a] ++ le (n % 4294967296) (2 : Int).toNat))) := by
  obtain ⟨i0, hi0, hk0, hk1, hk2⟩ := info_parts u8_info
  obtain ⟨hn0, hn1⟩ := hn
  skip
  go_enter Tryd.func34, Tryd.ntmps34
  go_wp2_with (first
    | (go_at_call 26; refine (Hch.out _ (hT.alloc _)).mono ?_; rintro e w2 ⟨rfl, hb2⟩; have hT2 := (hT.alloc _).grow hb2; have hz2 : w.heap.size < w2.heap.size := (by have := hb2.size; simp at this; omega); obtain ⟨hc2, _⟩ := bcell hb2
       have p0 : w2.cell? ⟨w.heap.size, 0, none⟩ = some (.int .i64 op) := (by rw [hc2 _ _ (by simp)]; exact (Blk.new w _ _).cell 0)
       have p1 : w2.cell? ⟨w.heap.size, 1, none⟩ = some (.int .i64 a) := (by rw [hc2 _ _ (by simp)]; exact (Blk.new w _ _).cell 1)
       have p2 : w2.cell? ⟨w.heap.size, 2, none⟩ = some (.int .i64 b) := (by rw [hc2 _ _ (by simp)]; exact (Blk.new w _ _).cell 2)
       have p3 : w2.cell? ⟨w.heap.size, 3, none⟩ = some (.int .i32 n) := (by rw [hc2 _ _ (by simp)]; exact (Blk.new w _ _).cell 3)
       have p4 : w2.cell? ⟨w.heap.size, 4, none⟩ = some (.int .i64 0) := (by rw [hc2 _ _ (by simp)]; exact (Blk.new w _ _).cell 4))
    | (go_at_call 16; refine (Hat.out _ hT2).mono ?_; rintro e w3 ⟨rfl, hb3⟩; have hz3' := hb3.size; have hz3 : w.heap.size < w3.heap.size := (by omega); obtain ⟨hc3, _⟩ := bcell hb3
       have q1 := (hc3 _ _ hz2).trans p1; have q2 := (hc3 _ _ hz2).trans p2; have q3 := (hc3 _ _ hz2).trans p3; have q4 := (hc3 _ _ hz2).trans p4)
    | (go_at_call 49; refine (Hfi.out _).mono ?_; rintro e w4 ⟨rfl, hb4⟩; have hz4 : w3.heap.size < w4.heap.size := (by have := hb4.size; simp at this; omega); have hz4' : w.heap.size < w4.heap.size := (by omega); obtain ⟨hc4, _⟩ := bcell hb4
       have r1 := ((hc4 _ 1 (by simp; omega)).trans (World.cell?_alloc_lt w3 _ ⟨w.heap.size, 1, none⟩ hz3)).trans q1
       have r2 := ((hc4 _ 2 (by simp; omega)).trans (World.cell?_alloc_lt w3 _ ⟨w.heap.size, 2, none⟩ hz3)).trans q2
       have r3 := ((hc4 _ 3 (by simp; omega)).trans (World.cell?_alloc_lt w3 _ ⟨w.heap.size, 3, none⟩ hz3)).trans q3
       have r4 := ((hc4 _ 4 (by simp; omega)).trans (World.cell?_alloc_lt w3 _ ⟨w.heap.size, 4, none⟩ hz3)).trans q4
       have rx : w4.cell? ⟨w3.heap.size, 2, none⟩ = some (.int .i64 11) := (by rw [hc4 _ _ (by simp)]; exact (Blk.new w3 _ _).cell 2)
       have hB4 : Below w.heap.size w w4 := (((Below.refl w.heap.size w).alloc (Nat.le_refl _) _).trans (hb2.mono (by simp))).trans (hb3.mono (by omega)) |>.alloc (by omega) _ |>.trans (hb4.mono (by simp; omega)))
    | (at_builtin
       refine wpList_app _ rfl (.tmp 64) (.tmp 68) _ rfl w4.heap.size 5 i0 _ 1 1 Tryd.underlying55 hi0 hk0 hk1 hk2 rfl (by omega) (.slice (some ⟨w4.heap.size, 0, none⟩) 1 1) 1 [.int .u8 F] rfl ((own_new w4 5 1 1 [.int .u8 F] rfl (by unfold maxLen; omega)).alloc _) (w4.heap.size + 2) (some ⟨w4.heap.size + 1, 0, none⟩) 1 1 [.int .u8 a] rfl (by have := sl_new (w4.alloc (.cells #[.int .u8 F] 5)) [.int .u8 a] 1 1 rfl 5; simpa using this) (by intro u hu; simp at hu; rcases hu with rfl | rfl <;> rfl) (by unfold maxLen; omega) (by omega) (by simp; omega) 2 rfl (bs (lowB F :: [lowB a])) (by simp only [bs, List.map_cons, List.map_nil, lowB_toNat, List.cons_append, List.nil_append]; simp only [List.cons.injEq, Value.int.injEq, true_and, and_true]; omega) ?_
       intro A6 c6 w6 hc6 hown6 hg6 _
       have hb6 : Below w4.heap.size w4 w6 := below_app (((Below.refl _ _).alloc (Nat.le_refl _) _).alloc (by simp) _) ((own_new w4 5 1 1 [.int .u8 F] rfl (by unfold maxLen; omega)).alloc _) hg6 (by simp; omega)
       have hz6 := hb6.size
       obtain ⟨hc6', _⟩ := bcell hb6
       have s3 := (hc6' _ _ hz4').trans r3
       have s4 := (hc6' _ _ hz4').trans r4
       have sx := (hc6' _ _ hz4).trans rx
       have hz6' : w.heap.size < w6.heap.size := (by omega)
       have hz6x : w3.heap.size < w6.heap.size := (by omega))
    | (go_at_call 50; (refine (put_kept A6 2 c6 (lowB F :: [lowB a]) (n % 4294967296) 2 _ (Sl.of_own hown6) (by omega) (by omega) (by omega)).mono ?_; rintro e w7 ⟨A7, n7, c7, rfl, hc7, hs7, hb7⟩; have hB7 : Below w.heap.size w w7 := (hB4.trans (hb6.mono (by omega))).trans (hb7.mono (by first | omega | (simp; omega))))))
  refine bodyPost_ret (v := .tuple #[.slice A7 n7 c7, .int .i64 0]) (by simp [results, Tryd.results34, go_sem]) rfl ⟨A7, n7, c7, rfl, hc7, ?_, hB7⟩
  rw [putL_e (by first | omega | exact Or.inr hf)] at hs7
  have hs8 := hs7.more (base' := w.heap.size) (by first | omega | (simp; omega))
  simpa using hs8

set_option maxHeartbeats 1000000 in
theorem enc_12 (op a b n f F B : Int) (v0 : ByteArray) (w : World) (hT : TabIs 0 w) (ha0 : 0 ≤ a) (ha1 : a < 8) (hb0 : 0 ≤ b) (hb1 : b < 8) (hn : -2147483648 ≤ n ∧ n ≤ 2147483647)  (hf : f = 1 ∨ f = 2 ∨ f = 4) (hF : F % 256 = F)
    (Hch : Hid (∀ w, TabIs 0 w → Calls Tryd.prog 26 #[.agg #[.int .i64 op, .int .i64 a, .int .i64 b, .int .i32 n, .int .i64 f]] w fun e w' => e = .returned (.int .i64 0) ∧ Below w.heap.size w w'))
    (Hat : Hid (∀ w, TabIs 0 w → Calls Tryd.prog 16 #[.int .i64 op] w fun e w' => e = .returned (.tuple #[.agg #[.string v0, .int .u8 B, .int .i64 12], .bool true]) ∧ Below w.heap.size w w'))
    (Hfi : Hid (∀ w, Calls Tryd.prog 49 #[.agg #[.string v0, .int .u8 B, .int .i64 12], .int .i64 f] w fun e w' => e = .returned (.int .u8 F) ∧ Below w.heap.size w w')) :
    Calls Tryd.prog 34 #[.agg #[.int .i64 op, .int .i64 a, .int .i64 b, .int .i32 n, .int .i64 f]] w (GivesEK w (lowB F :: ([] ++ le (n % 4294967296) (f : Int).toNat))) := by
  obtain ⟨i0, hi0, hk0, hk1, hk2⟩ := info_parts u8_info
  obtain ⟨hn0, hn1⟩ := hn
  skip
  go_enter Tryd.func34, Tryd.ntmps34
  go_wp2_with (first
    | (go_at_call 26; refine (Hch.out _ (hT.alloc _)).mono ?_; rintro e w2 ⟨rfl, hb2⟩; have hT2 := (hT.alloc _).grow hb2; have hz2 : w.heap.size < w2.heap.size := (by have := hb2.size; simp at this; omega); obtain ⟨hc2, _⟩ := bcell hb2
       have p0 : w2.cell? ⟨w.heap.size, 0, none⟩ = some (.int .i64 op) := (by rw [hc2 _ _ (by simp)]; exact (Blk.new w _ _).cell 0)
       have p1 : w2.cell? ⟨w.heap.size, 1, none⟩ = some (.int .i64 a) := (by rw [hc2 _ _ (by simp)]; exact (Blk.new w _ _).cell 1)
       have p2 : w2.cell? ⟨w.heap.size, 2, none⟩ = some (.int .i64 b) := (by rw [hc2 _ _ (by simp)]; exact (Blk.new w _ _).cell 2)
       have p3 : w2.cell? ⟨w.heap.size, 3, none⟩ = some (.int .i32 n) := (by rw [hc2 _ _ (by simp)]; exact (Blk.new w _ _).cell 3)
       have p4 : w2.cell? ⟨w.heap.size, 4, none⟩ = some (.int .i64 f) := (by rw [hc2 _ _ (by simp)]; exact (Blk.new w _ _).cell 4))
    | (go_at_call 16; refine (Hat.out _ hT2).mono ?_; rintro e w3 ⟨rfl, hb3⟩; have hz3' := hb3.size; have hz3 : w.heap.size < w3.heap.size := (by omega); obtain ⟨hc3, _⟩ := bcell hb3
       have q1 := (hc3 _ _ hz2).trans p1; have q2 := (hc3 _ _ hz2).trans p2; have q3 := (hc3 _ _ hz2).trans p3; have q4 := (hc3 _ _ hz2).trans p4)
    | (go_at_call 49; refine (Hfi.out _).mono ?_; rintro e w4 ⟨rfl, hb4⟩; have hz4 : w3.heap.size < w4.heap.size := (by have := hb4.size; simp at this; omega); have hz4' : w.heap.size < w4.heap.size := (by omega); obtain ⟨hc4, _⟩ := bcell hb4
       have r1 := ((hc4 _ 1 (by simp; omega)).trans (World.cell?_alloc_lt w3 _ ⟨w.heap.size, 1, none⟩ hz3)).trans q1
       have r2 := ((hc4 _ 2 (by simp; omega)).trans (World.cell?_alloc_lt w3 _ ⟨w.heap.size, 2, none⟩ hz3)).trans q2
       have r3 := ((hc4 _ 3 (by simp; omega)).trans (World.cell?_alloc_lt w3 _ ⟨w.heap.size, 3, none⟩ hz3)).trans q3
       have r4 := ((hc4 _ 4 (by simp; omega)).trans (World.cell?_alloc_lt w3 _ ⟨w.heap.size, 4, none⟩ hz3)).trans q4
       have rx : w4.cell? ⟨w3.heap.size, 2, none⟩ = some (.int .i64 12) := (by rw [hc4 _ _ (by simp)]; exact (Blk.new w3 _ _).cell 2)
       have hB4 : Below w.heap.size w w4 := (((Below.refl w.heap.size w).alloc (Nat.le_refl _) _).trans (hb2.mono (by simp))).trans (hb3.mono (by omega)) |>.alloc (by omega) _ |>.trans (hb4.mono (by simp; omega)))
    | (go_at_call 50; (refine (put_kept (some ⟨w4.heap.size, 0, none⟩) 1 1 (lowB F :: []) (n % 4294967296) f _ (by have := (Sl.of_own (own_new w4 5 1 1 [.int .u8 F] rfl (by unfold maxLen; omega))); simpa [bs, lowB_toNat, hF] using this) (by omega) (by omega) (by omega)).mono ?_; rintro e w7 ⟨A7, n7, c7, rfl, hc7, hs7, hb7⟩; have hB7 : Below w.heap.size w w7 := (hB4.alloc (by omega) _).trans (hb7.mono (by first | omega | (simp; omega))))))
  refine bodyPost_ret (v := .tuple #[.slice A7 n7 c7, .int .i64 0]) (by simp [results, Tryd.results34, go_sem]) rfl ⟨A7, n7, c7, rfl, hc7, ?_, hB7⟩
  rw [putL_e (by first | omega | exact Or.inr hf)] at hs7
  have hs8 := hs7.more (base' := w.heap.size) (by first | omega | (simp; omega))
  simpa using hs8

set_option maxHeartbeats 1000000 in
theorem enc_13 (op a b n f F B : Int) (v0 : ByteArray) (w : World) (hT : TabIs 0 w) (ha0 : 0 ≤ a) (ha1 : a < 8) (hb0 : 0 ≤ b) (hb1 : b < 8) (hn : -2147483648 ≤ n ∧ n ≤ 2147483647)  (hf : f = 1 ∨ f = 2 ∨ f = 4) (hF : F % 256 = F)
    (Hch : Hid (∀ w, TabIs 0 w → Calls Tryd.prog 26 #[.agg #[.int .i64 op, .int .i64 a, .int .i64 b, .int .i32 n, .int .i64 f]] w fun e w' => e = .returned (.int .i64 0) ∧ Below w.heap.size w w'))
    (Hat : Hid (∀ w, TabIs 0 w → Calls Tryd.prog 16 #[.int .i64 op] w fun e w' => e = .returned (.tuple #[.agg #[.string v0, .int .u8 B, .int .i64 13], .bool true]) ∧ Below w.heap.size w w'))
    (Hfi : Hid (∀ w, Calls Tryd.prog 49 #[.agg #[.string v0, .int .u8 B, .int .i64 13], .int .i64 f] w fun e w' => e = .returned (.int .u8 F) ∧ Below w.heap.size w w')) :
    Calls Tryd.prog 34 #[.agg #[.int .i64 op, .int .i64 a, .int .i64 b, .int .i32 n, .int .i64 f]] w (GivesEK w (lowB F :: ([lowB a] ++ le (n % 4294967296) (f : Int).toNat))) := by
  obtain ⟨i0, hi0, hk0, hk1, hk2⟩ := info_parts u8_info
  obtain ⟨hn0, hn1⟩ := hn
  skip
  go_enter Tryd.func34, Tryd.ntmps34
  go_wp2_with (first
    | (go_at_call 26; refine (Hch.out _ (hT.alloc _)).mono ?_; rintro e w2 ⟨rfl, hb2⟩; have hT2 := (hT.alloc _).grow hb2; have hz2 : w.heap.size < w2.heap.size := (by have := hb2.size; simp at this; omega); obtain ⟨hc2, _⟩ := bcell hb2
       have p0 : w2.cell? ⟨w.heap.size, 0, none⟩ = some (.int .i64 op) := (by rw [hc2 _ _ (by simp)]; exact (Blk.new w _ _).cell 0)
       have p1 : w2.cell? ⟨w.heap.size, 1, none⟩ = some (.int .i64 a) := (by rw [hc2 _ _ (by simp)]; exact (Blk.new w _ _).cell 1)
       have p2 : w2.cell? ⟨w.heap.size, 2, none⟩ = some (.int .i64 b) := (by rw [hc2 _ _ (by simp)]; exact (Blk.new w _ _).cell 2)
       have p3 : w2.cell? ⟨w.heap.size, 3, none⟩ = some (.int .i32 n) := (by rw [hc2 _ _ (by simp)]; exact (Blk.new w _ _).cell 3)
       have p4 : w2.cell? ⟨w.heap.size, 4, none⟩ = some (.int .i64 f) := (by rw [hc2 _ _ (by simp)]; exact (Blk.new w _ _).cell 4))
    | (go_at_call 16; refine (Hat.out _ hT2).mono ?_; rintro e w3 ⟨rfl, hb3⟩; have hz3' := hb3.size; have hz3 : w.heap.size < w3.heap.size := (by omega); obtain ⟨hc3, _⟩ := bcell hb3
       have q1 := (hc3 _ _ hz2).trans p1; have q2 := (hc3 _ _ hz2).trans p2; have q3 := (hc3 _ _ hz2).trans p3; have q4 := (hc3 _ _ hz2).trans p4)
    | (go_at_call 49; refine (Hfi.out _).mono ?_; rintro e w4 ⟨rfl, hb4⟩; have hz4 : w3.heap.size < w4.heap.size := (by have := hb4.size; simp at this; omega); have hz4' : w.heap.size < w4.heap.size := (by omega); obtain ⟨hc4, _⟩ := bcell hb4
       have r1 := ((hc4 _ 1 (by simp; omega)).trans (World.cell?_alloc_lt w3 _ ⟨w.heap.size, 1, none⟩ hz3)).trans q1
       have r2 := ((hc4 _ 2 (by simp; omega)).trans (World.cell?_alloc_lt w3 _ ⟨w.heap.size, 2, none⟩ hz3)).trans q2
       have r3 := ((hc4 _ 3 (by simp; omega)).trans (World.cell?_alloc_lt w3 _ ⟨w.heap.size, 3, none⟩ hz3)).trans q3
       have r4 := ((hc4 _ 4 (by simp; omega)).trans (World.cell?_alloc_lt w3 _ ⟨w.heap.size, 4, none⟩ hz3)).trans q4
       have rx : w4.cell? ⟨w3.heap.size, 2, none⟩ = some (.int .i64 13) := (by rw [hc4 _ _ (by simp)]; exact (Blk.new w3 _ _).cell 2)
       have hB4 : Below w.heap.size w w4 := (((Below.refl w.heap.size w).alloc (Nat.le_refl _) _).trans (hb2.mono (by simp))).trans (hb3.mono (by omega)) |>.alloc (by omega) _ |>.trans (hb4.mono (by simp; omega)))
    | (at_builtin
       refine wpList_app _ rfl (.tmp 64) (.tmp 68) _ rfl w4.heap.size 5 i0 _ 1 1 Tryd.underlying55 hi0 hk0 hk1 hk2 rfl (by omega) (.slice (some ⟨w4.heap.size, 0, none⟩) 1 1) 1 [.int .u8 F] rfl ((own_new w4 5 1 1 [.int .u8 F] rfl (by unfold maxLen; omega)).alloc _) (w4.heap.size + 2) (some ⟨w4.heap.size + 1, 0, none⟩) 1 1 [.int .u8 a] rfl (by have := sl_new (w4.alloc (.cells #[.int .u8 F] 5)) [.int .u8 a] 1 1 rfl 5; simpa using this) (by intro u hu; simp at hu; rcases hu with rfl | rfl <;> rfl) (by unfold maxLen; omega) (by omega) (by simp; omega) 2 rfl (bs (lowB F :: [lowB a])) (by simp only [bs, List.map_cons, List.map_nil, lowB_toNat, List.cons_append, List.nil_append]; simp only [List.cons.injEq, Value.int.injEq, true_and, and_true]; omega) ?_
       intro A6 c6 w6 hc6 hown6 hg6 _
       have hb6 : Below w4.heap.size w4 w6 := below_app (((Below.refl _ _).alloc (Nat.le_refl _) _).alloc (by simp) _) ((own_new w4 5 1 1 [.int .u8 F] rfl (by unfold maxLen; omega)).alloc _) hg6 (by simp; omega)
       have hz6 := hb6.size
       obtain ⟨hc6', _⟩ := bcell hb6
       have s3 := (hc6' _ _ hz4').trans r3
       have s4 := (hc6' _ _ hz4').trans r4
       have sx := (hc6' _ _ hz4).trans rx
       have hz6' : w.heap.size < w6.heap.size := (by omega)
       have hz6x : w3.heap.size < w6.heap.size := (by omega))
    | (go_at_call 50; (refine (put_kept A6 2 c6 (lowB F :: [lowB a]) (n % 4294967296) f _ (Sl.of_own hown6) (by omega) (by omega) (by omega)).mono ?_; rintro e w7 ⟨A7, n7, c7, rfl, hc7, hs7, hb7⟩; have hB7 : Below w.heap.size w w7 := (hB4.trans (hb6.mono (by omega))).trans (hb7.mono (by first | omega | (simp; omega))))))
  refine bodyPost_ret (v := .tuple #[.slice A7 n7 c7, .int .i64 0]) (by simp [results, Tryd.results34, go_sem]) rfl ⟨A7, n7, c7, rfl, hc7, ?_, hB7⟩
  rw [putL_e (by first | omega | exact Or.inr hf)] at hs7
  have hs8 := hs7.more (base' := w.heap.size) (by first | omega | (simp; omega))
  simpa using hs8

theorem opByte_bounds (op : Int) : 0 ≤ opByte op ∧ opByte op ≤ 100 := by
  by_cases h : 1 ≤ op ∧ op ≤ 43
  · obtain ⟨k, rfl⟩ : ∃ k : Nat, op = (k : Int) + 1 := ⟨(op - 1).toNat, by omega⟩
    have hk : k < 43 := by omega
    have all : ∀ k : Nat, k < 43 → 0 ≤ opByte ((k : Int) + 1) ∧ opByte ((k : Int) + 1) ≤ 100 := by decide +kernel
    exact all k hk
  · unfold opByte
    rw [opAt_no h]
    decide
theorem addF_bounds (f : Int) : 0 ≤ addF f ∧ addF f ≤ 2 := by unfold addF; split <;> (try split) <;> decide

theorem encode_kept (op a b n f : Int) (w : World) (hT : TabIs 0 w) (hn : -2147483648 ≤ n ∧ n ≤ 2147483647) (h : checkR op a b n f = 0) :
    Calls Tryd.prog 34 #[.agg #[.int .i64 op, .int .i64 a, .int .i64 b, .int .i32 n, .int .i64 f]] w (GivesEK w (encR op a b n f)) := by
  obtain ⟨h1, h2, h3, h4⟩ := checkR_parts h
  obtain ⟨⟨ha0, ha1⟩, ⟨hb0, hb1⟩, hn7⟩ := regB_bounds h2
  have hff := checkR_form h
  have hch : ∀ w, TabIs 0 w → Calls Tryd.prog 26 #[.agg #[.int .i64 op, .int .i64 a, .int .i64 b, .int .i32 n, .int .i64 f]] w fun e w' => e = .returned (.int .i64 0) ∧ Below w.heap.size w w' := fun w hT => h ▸ check_any op a b n f w hn hT
  have hat : ∀ w, TabIs 0 w → Calls Tryd.prog 16 #[.int .i64 op] w fun e w' => e = .returned (.tuple #[.agg #[.string ⟨(opName op).toArray⟩, .int .u8 (opByte op), .int .i64 (opShape op)], .bool true]) ∧ Below w.heap.size w w' := fun w hT => h1 ▸ at_any op w hT
  have B1 := opByte_bounds op
  have B2 := addF_bounds f
  have hF : (opByte op + addF f) % 256 = opByte op + addF f := by omega
  have hfi := fun (w : World) (s : Int) => first_any ⟨(opName op).toArray⟩ (opByte op) s f w (by omega)
  have hsp : opShape op ≠ 12 → opShape op ≠ 13 → f = 0 := fun h12 h13 => h3 (by simp [spansB, h12, h13])
  have hfn : opShape op = 12 ∨ opShape op = 13 → f = 1 ∨ f = 2 ∨ f = 4 := by
    intro hs
    unfold numB at h4
    rcases width_cases f with rfl | rfl | rfl | hf
    · exact .inl rfl
    · exact .inr (.inl rfl)
    · exact .inr (.inr rfl)
    · exfalso
      rcases hs with e | e <;> rw [e] at h4 <;> simp [fitsB_not hf] at h4
  unfold encR
  generalize opByte op + addF f = F at *
  generalize opByte op = B at *
  obtain ⟨s, hs⟩ : ∃ s, s = opShape op := ⟨_, rfl⟩
  rw [← hs] at hat hsp hfn hn7 h2 ⊢
  have hs13 : 1 ≤ s ∧ s ≤ 13 := by rw [hs]; exact (shape_bounds op).1 h1
  clear h4 h3
  rcases thirteen hs13 with rfl | rfl | rfl | rfl | rfl | rfl | rfl | rfl | rfl | rfl | rfl | rfl | rfl
  · obtain rfl : f = 0 := hsp (by decide) (by decide)
    exact enc_1 op a b n F B _ w hT ha0 ha1 hb0 hb1 hn hF (Lib.hid hch) (Lib.hid hat) (Lib.hid fun w => hfi w _)
  · obtain rfl : f = 0 := hsp (by decide) (by decide)
    exact enc_2 op a b n F B _ w hT ha0 ha1 hb0 hb1 hn hF (Lib.hid hch) (Lib.hid hat) (Lib.hid fun w => hfi w _)
  · obtain rfl : f = 0 := hsp (by decide) (by decide)
    exact enc_3 op a b n F B _ w hT ha0 ha1 hb0 hb1 hn hF (Lib.hid hch) (Lib.hid hat) (Lib.hid fun w => hfi w _)
  · obtain rfl : f = 0 := hsp (by decide) (by decide)
    exact enc_4 op a b n F B _ w hT ha0 ha1 hb0 hb1 hn hF (Lib.hid hch) (Lib.hid hat) (Lib.hid fun w => hfi w _)
  · obtain rfl : f = 0 := hsp (by decide) (by decide)
    exact enc_5 op a b n F B _ w hT ha0 ha1 hb0 hb1 hn hF (Lib.hid hch) (Lib.hid hat) (Lib.hid fun w => hfi w _)
  · obtain rfl : f = 0 := hsp (by decide) (by decide)
    exact enc_6 op a b n F B _ w hT ha0 ha1 hb0 hb1 hn hF (Lib.hid hch) (Lib.hid hat) (Lib.hid fun w => hfi w _)
  · obtain rfl : f = 0 := hsp (by decide) (by decide)
    exact enc_7 op a b n F B _ w hT ha0 ha1 hb0 hb1 hn (hn7 rfl) hF (Lib.hid hch) (Lib.hid hat) (Lib.hid fun w => hfi w _)
  · obtain rfl : f = 0 := hsp (by decide) (by decide)
    exact enc_8 op a b n F B _ w hT ha0 ha1 hb0 hb1 hn hF (Lib.hid hch) (Lib.hid hat) (Lib.hid fun w => hfi w _)
  · obtain rfl : f = 0 := hsp (by decide) (by decide)
    exact enc_9 op a b n F B _ w hT ha0 ha1 hb0 hb1 hn hF (Lib.hid hch) (Lib.hid hat) (Lib.hid fun w => hfi w _)
  · obtain rfl : f = 0 := hsp (by decide) (by decide)
    exact enc_10 op a b n F B _ w hT ha0 ha1 hb0 hb1 hn hF (Lib.hid hch) (Lib.hid hat) (Lib.hid fun w => hfi w _)
  · obtain rfl : f = 0 := hsp (by decide) (by decide)
    exact enc_11 op a b n F B _ w hT ha0 ha1 hb0 hb1 hn hF (Lib.hid hch) (Lib.hid hat) (Lib.hid fun w => hfi w _)
  · exact enc_12 op a b n f F B _ w hT ha0 ha1 hb0 hb1 hn (hfn (by decide)) hF (Lib.hid hch) (Lib.hid hat) (Lib.hid fun w => hfi w _)
  · exact enc_13 op a b n f F B _ w hT ha0 ha1 hb0 hb1 hn (hfn (by decide)) hF (Lib.hid hch) (Lib.hid hat) (Lib.hid fun w => hfi w _)

theorem encode_yes (op a b n f : Int) (w : World) (hT : TabIs 0 w) (hn : -2147483648 ≤ n ∧ n ≤ 2147483647) (h : checkR op a b n f = 0) :
    Calls Tryd.prog 34 #[.agg #[.int .i64 op, .int .i64 a, .int .i64 b, .int .i32 n, .int .i64 f]] w (GivesE w (encR op a b n f)) :=
  (encode_kept op a b n f w hT hn h).mono fun _ _ h => h.sl
theorem enc_bad (op a b n f C : Int) (w : World) (hT : TabIs 0 w) (hC : (C != 0) = true)
    (Hch : Hid (∀ w, TabIs 0 w → Calls Tryd.prog 26 #[.agg #[.int .i64 op, .int .i64 a, .int .i64 b, .int .i32 n, .int .i64 f]] w fun e w' => e = .returned (.int .i64 C) ∧ Below w.heap.size w w')) :
    Calls Tryd.prog 34 #[.agg #[.int .i64 op, .int .i64 a, .int .i64 b, .int .i32 n, .int .i64 f]] w fun e w' => e = .returned (.tuple #[.slice none 0 0, .int .i64 C]) ∧ Below w.heap.size w w' := by
  go_enter Tryd.func34, Tryd.ntmps34
  go_wp2_with (go_at_call 26; refine (Hch.out _ (hT.alloc _)).mono ?_; rintro e w2 ⟨rfl, hb2⟩)
  refine bodyPost_ret (v := .tuple #[.slice none 0 0, .int .i64 C]) (by simp [results, Tryd.results34, go_sem]) rfl ⟨rfl, ?_⟩
  exact ((Below.refl w.heap.size w).alloc (Nat.le_refl _) _).trans (hb2.mono (by simp))
theorem encode_no (op a b n f : Int) (w : World) (hT : TabIs 0 w) (hn : -2147483648 ≤ n ∧ n ≤ 2147483647) (h : checkR op a b n f ≠ 0) :
    Calls Tryd.prog 34 #[.agg #[.int .i64 op, .int .i64 a, .int .i64 b, .int .i32 n, .int .i64 f]] w fun e w' => e = .returned (.tuple #[.slice none 0 0, .int .i64 (checkR op a b n f)]) ∧ Below w.heap.size w w' :=
  enc_bad op a b n f _ w hT (by simpa using h) (Lib.hid fun w hT => check_any op a b n f w hn hT)
end Go.Proofs.YtfplkmldleigpaaDoor
