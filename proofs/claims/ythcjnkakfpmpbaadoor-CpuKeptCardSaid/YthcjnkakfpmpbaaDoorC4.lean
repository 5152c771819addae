/- The walks of cpu's Do, by what it hands on to. Conditions: the table of operations is laid; the instruction is right. -/
import Derived.Test.YthcjnkakfpmpbaaDoorC2
import Derived.Test.YthcjnkakfpmpbaaDoorP8
import Derived.Deep.QuietTactic
import Derived.BigQuiet
namespace Go.Proofs.YthcjnkakfpmpbaaDoor
open Go.RowKit
set_option linter.unusedVariables false
set_option linter.unusedSimpArgs false

noncomputable def doR17 : Array Oper := regOf Tryd.f26.body 17
set_option maxRecDepth 100000 in
set_option maxHeartbeats 4000000 in
theorem do_r17 (g I a : Nat) (n word x : Int) (u1 u3 u4 u5 u7 u8 u9 u10 u11 u12 u13 u14 u15 u16 u17 u18 u19 u20 u21 u22 u23 u24 u25 u26 u27 u28 u29 u30 u31 u32 u33 u34 u35 u36 u37 u38 u39 u40 u41 u42 u43 u44 u45 u46 u47 u48 u49 u50 u51 u52 u53 u54 u55 u56 u57 u58 u59 u60 u61 u62 u63 u64 u65 u66 u67 u68 u69 u70 u71 u72 u73 : Value) (W : World) (Q : Exit → Act → World → Prop) (ha : a < 8) (hgI : g ≠ I) (p1 : W.cell? ⟨I, 1, none⟩ = some (.int .i64 a)) (p3 : W.cell? ⟨I, 3, none⟩ = some (.int .i32 n))
    (q : W.cell? ⟨g, a, none⟩ = some (.int .i32 x)) (fz : W.frozen? ⟨g, a, none⟩ = false)
    (hQ : ∀ (v51 v52 v53 v54 v55 v56 v57 v58 : Value), Q .normal { tmps := #[.pointer (some ⟨g, 0, none⟩), u1, .int .i32 word, u3, u4, u5, .pointer (some ⟨I, 0, none⟩), u7, u8, u9, u10, u11, u12, u13, u14, u15, u16, u17, u18, u19, u20, u21, u22, u23, u24, u25, u26, u27, u28, u29, u30, u31, u32, u33, u34, u35, u36, u37, u38, u39, u40, u41, u42, u43, u44, u45, u46, u47, u48, u49, u50, v51, v52, v53, v54, v55, v56, v57, v58, u59, u60, u61, u62, u63, u64, u65, u66, u67, u68, u69, u70, u71, u72, u73], defers := [] } ((W.drewN 1).setCell ⟨g, a, none⟩ (.int .i32 n))) :
    (Code.region 17 doR17 true).wp Tryd.prog Q { tmps := #[.pointer (some ⟨g, 0, none⟩), u1, .int .i32 word, u3, u4, u5, .pointer (some ⟨I, 0, none⟩), u7, u8, u9, u10, u11, u12, u13, u14, u15, u16, u17, u18, u19, u20, u21, u22, u23, u24, u25, u26, u27, u28, u29, u30, u31, u32, u33, u34, u35, u36, u37, u38, u39, u40, u41, u42, u43, u44, u45, u46, u47, u48, u49, u50, u51, u52, u53, u54, u55, u56, u57, u58, u59, u60, u61, u62, u63, u64, u65, u66, u67, u68, u69, u70, u71, u72, u73], defers := [] } W := by
  have hA : (a : Int) < 8 := by omega
  refine held_start (ops' := doR17) (l0 := #[false, false, false, false, false, false, false, false, false]) (S := fun w' => (w'.cell? ⟨I, 1, none⟩ = some (.int .i64 a) ∧ w'.cell? ⟨I, 3, none⟩ = some (.int .i32 n)) ∧ (∃ x, w'.cell? ⟨g, a, none⟩ = some x) ∧ w'.frozen? ⟨g, a, none⟩ = false) (by kernel_rfl) (by kernel_rfl) (by kernel_rfl) (by kernel_rfl) ⟨⟨p1, p3⟩, ⟨_, q⟩, fz⟩ (fun R hR => ?_)
  (refine held_take (v := ?_) (d := some 51) 0 (by kernel_rfl) (by kernel_rfl) rfl ?_ ?_
   rotate_left
   · intro w hSw
     conv in opOf _ _ => whnf
     (obtain ⟨⟨s1, s3⟩, ⟨sx, s4⟩, s5⟩ := hSw)
     go_simp
     try (with_reducible rfl)
   try simp only [Act.put, List.setIfInBounds_toArray, List.set_cons_zero, List.set_cons_succ])
  (refine held_take (v := ?_) (d := some 52) 1 (by kernel_rfl) (by kernel_rfl) rfl ?_ ?_
   rotate_left
   · intro w hSw
     conv in opOf _ _ => whnf
     (obtain ⟨⟨s1, s3⟩, ⟨sx, s4⟩, s5⟩ := hSw)
     go_simp
     try (with_reducible rfl)
   try simp only [Act.put, List.setIfInBounds_toArray, List.set_cons_zero, List.set_cons_succ])
  (refine held_take (v := ?_) (d := some 53) 2 (by kernel_rfl) (by kernel_rfl) rfl ?_ ?_
   rotate_left
   · intro w hSw
     conv in opOf _ _ => whnf
     (obtain ⟨⟨s1, s3⟩, ⟨sx, s4⟩, s5⟩ := hSw)
     go_simp
     try (with_reducible rfl)
   try simp only [Act.put, List.setIfInBounds_toArray, List.set_cons_zero, List.set_cons_succ])
  (refine held_take (v := ?_) (d := some 54) 3 (by kernel_rfl) (by kernel_rfl) rfl ?_ ?_
   rotate_left
   · intro w hSw
     conv in opOf _ _ => whnf
     (obtain ⟨⟨s1, s3⟩, ⟨sx, s4⟩, s5⟩ := hSw)
     go_simp
     try (with_reducible rfl)
   try simp only [Act.put, List.setIfInBounds_toArray, List.set_cons_zero, List.set_cons_succ])
  (refine held_take (v := ?_) (d := some 55) 4 (by kernel_rfl) (by kernel_rfl) rfl ?_ ?_
   rotate_left
   · intro w hSw
     conv in opOf _ _ => whnf
     (obtain ⟨⟨s1, s3⟩, ⟨sx, s4⟩, s5⟩ := hSw)
     go_simp
     try (with_reducible rfl)
   try simp only [Act.put, List.setIfInBounds_toArray, List.set_cons_zero, List.set_cons_succ])
  (refine held_take (v := ?_) (d := some 56) 5 (by kernel_rfl) (by kernel_rfl) rfl ?_ ?_
   rotate_left
   · intro w hSw
     conv in opOf _ _ => whnf
     (obtain ⟨⟨s1, s3⟩, ⟨sx, s4⟩, s5⟩ := hSw)
     go_simp
     try (with_reducible rfl)
   try simp only [Act.put, List.setIfInBounds_toArray, List.set_cons_zero, List.set_cons_succ])
  (refine held_take (v := ?_) (d := some 57) 6 (by kernel_rfl) (by kernel_rfl) rfl ?_ ?_
   rotate_left
   · intro w hSw
     conv in opOf _ _ => whnf
     (obtain ⟨⟨s1, s3⟩, ⟨sx, s4⟩, s5⟩ := hSw)
     go_simp
     try (with_reducible rfl)
   try simp only [Act.put, List.setIfInBounds_toArray, List.set_cons_zero, List.set_cons_succ])
  (refine held_take (v := ?_) (d := some 58) 7 (by kernel_rfl) (by kernel_rfl) rfl ?_ ?_
   rotate_left
   · intro w hSw
     conv in opOf _ _ => whnf
     (obtain ⟨⟨s1, s3⟩, ⟨sx, s4⟩, s5⟩ := hSw)
     go_simp
     try (with_reducible rfl)
   try simp only [Act.put, List.setIfInBounds_toArray, List.set_cons_zero, List.set_cons_succ])
  refine held_one 8 (by kernel_rfl) (by kernel_rfl) (held_mute (w' := ?_) (d := none) 8 (by kernel_rfl) (by kernel_rfl) rfl ?_ ?_)
  rotate_left 1
  · rintro ⟨⟨s1, s3⟩, ⟨sx, s4⟩, s5⟩
    conv in opOf _ _ => whnf
    go_simp
    first | done | (with_reducible rfl)
  intro hS
  refine ⟨⟨⟨(World.cell?_setCell_other _ _ _ _ (by first | (simp; done) | (simp; omega))).trans hS.1.1, (World.cell?_setCell_other _ _ _ _ (by first | (simp; done) | (simp; omega))).trans hS.1.2⟩, ⟨_, World.cell?_setCell_same' _ _ _ (by obtain ⟨y, hy⟩ := hS.2.1; have hy' : W.cell? ⟨g, a, none⟩ = some y := hy; simp [hy'])⟩, by simpa using hS.2.2⟩, ?_⟩
  try simp only [Act.put, List.setIfInBounds_toArray, List.set_cons_zero, List.set_cons_succ]
  refine held_done (by kernel_rfl) (fun hS => hR.out _ _ ?_)
  exact hQ _ _ _ _ _ _ _ _

noncomputable def doR19 : Array Oper := regOf Tryd.f26.body 19
set_option maxRecDepth 100000 in
set_option maxHeartbeats 4000000 in
theorem do_r19 (g I a : Nat) (n word x : Int) (u1 u3 u4 u5 u7 u8 u9 u10 u11 u12 u13 u14 u15 u16 u17 u18 u19 u20 u21 u22 u23 u24 u25 u26 u27 u28 u29 u30 u31 u32 u33 u34 u35 u36 u37 u38 u39 u40 u41 u42 u43 u44 u45 u46 u47 u48 u49 u50 u51 u52 u53 u54 u55 u56 u57 u58 u59 u60 u61 u62 u63 u64 u65 u66 u67 u68 u69 u70 u71 u72 u73 : Value) (W : World) (Q : Exit → Act → World → Prop) (ha : a < 8) (hgI : g ≠ I) (p1 : W.cell? ⟨I, 1, none⟩ = some (.int .i64 a)) (p3 : W.cell? ⟨I, 3, none⟩ = some (.int .i32 n))
    (q : W.cell? ⟨g, a, none⟩ = some (.int .i32 x)) (fz : W.frozen? ⟨g, a, none⟩ = false)
    (hQ : ∀ (v61 v62 v63 v64 v65 v66 v67 : Value), Q .normal { tmps := #[.pointer (some ⟨g, 0, none⟩), u1, .int .i32 word, u3, u4, u5, .pointer (some ⟨I, 0, none⟩), u7, u8, u9, u10, u11, u12, u13, u14, u15, u16, u17, u18, u19, u20, u21, u22, u23, u24, u25, u26, u27, u28, u29, u30, u31, u32, u33, u34, u35, u36, u37, u38, u39, u40, u41, u42, u43, u44, u45, u46, u47, u48, u49, u50, u51, u52, u53, u54, u55, u56, u57, u58, u59, u60, v61, v62, v63, v64, v65, v66, v67, u68, u69, u70, u71, u72, u73], defers := [] } ((W.drewN 1).setCell ⟨g, a, none⟩ (.int .i32 word))) :
    (Code.region 19 doR19 true).wp Tryd.prog Q { tmps := #[.pointer (some ⟨g, 0, none⟩), u1, .int .i32 word, u3, u4, u5, .pointer (some ⟨I, 0, none⟩), u7, u8, u9, u10, u11, u12, u13, u14, u15, u16, u17, u18, u19, u20, u21, u22, u23, u24, u25, u26, u27, u28, u29, u30, u31, u32, u33, u34, u35, u36, u37, u38, u39, u40, u41, u42, u43, u44, u45, u46, u47, u48, u49, u50, u51, u52, u53, u54, u55, u56, u57, u58, u59, u60, u61, u62, u63, u64, u65, u66, u67, u68, u69, u70, u71, u72, u73], defers := [] } W := by
  have hA : (a : Int) < 8 := by omega
  refine held_start (ops' := doR19) (l0 := #[false, false, false, false, false, false, false, false]) (S := fun w' => (w'.cell? ⟨I, 1, none⟩ = some (.int .i64 a) ∧ w'.cell? ⟨I, 3, none⟩ = some (.int .i32 n)) ∧ (∃ x, w'.cell? ⟨g, a, none⟩ = some x) ∧ w'.frozen? ⟨g, a, none⟩ = false) (by kernel_rfl) (by kernel_rfl) (by kernel_rfl) (by kernel_rfl) ⟨⟨p1, p3⟩, ⟨_, q⟩, fz⟩ (fun R hR => ?_)
  (refine held_take (v := ?_) (d := some 61) 0 (by kernel_rfl) (by kernel_rfl) rfl ?_ ?_
   rotate_left
   · intro w hSw
     conv in opOf _ _ => whnf
     (obtain ⟨⟨s1, s3⟩, ⟨sx, s4⟩, s5⟩ := hSw)
     go_simp
     try (with_reducible rfl)
   try simp only [Act.put, List.setIfInBounds_toArray, List.set_cons_zero, List.set_cons_succ])
  (refine held_take (v := ?_) (d := some 62) 1 (by kernel_rfl) (by kernel_rfl) rfl ?_ ?_
   rotate_left
   · intro w hSw
     conv in opOf _ _ => whnf
     (obtain ⟨⟨s1, s3⟩, ⟨sx, s4⟩, s5⟩ := hSw)
     go_simp
     try (with_reducible rfl)
   try simp only [Act.put, List.setIfInBounds_toArray, List.set_cons_zero, List.set_cons_succ])
  (refine held_take (v := ?_) (d := some 63) 2 (by kernel_rfl) (by kernel_rfl) rfl ?_ ?_
   rotate_left
   · intro w hSw
     conv in opOf _ _ => whnf
     (obtain ⟨⟨s1, s3⟩, ⟨sx, s4⟩, s5⟩ := hSw)
     go_simp
     try (with_reducible rfl)
   try simp only [Act.put, List.setIfInBounds_toArray, List.set_cons_zero, List.set_cons_succ])
  (refine held_take (v := ?_) (d := some 64) 3 (by kernel_rfl) (by kernel_rfl) rfl ?_ ?_
   rotate_left
   · intro w hSw
     conv in opOf _ _ => whnf
     (obtain ⟨⟨s1, s3⟩, ⟨sx, s4⟩, s5⟩ := hSw)
     go_simp
     try (with_reducible rfl)
   try simp only [Act.put, List.setIfInBounds_toArray, List.set_cons_zero, List.set_cons_succ])
  (refine held_take (v := ?_) (d := some 65) 4 (by kernel_rfl) (by kernel_rfl) rfl ?_ ?_
   rotate_left
   · intro w hSw
     conv in opOf _ _ => whnf
     (obtain ⟨⟨s1, s3⟩, ⟨sx, s4⟩, s5⟩ := hSw)
     go_simp
     try (with_reducible rfl)
   try simp only [Act.put, List.setIfInBounds_toArray, List.set_cons_zero, List.set_cons_succ])
  (refine held_take (v := ?_) (d := some 66) 5 (by kernel_rfl) (by kernel_rfl) rfl ?_ ?_
   rotate_left
   · intro w hSw
     conv in opOf _ _ => whnf
     (obtain ⟨⟨s1, s3⟩, ⟨sx, s4⟩, s5⟩ := hSw)
     go_simp
     try (with_reducible rfl)
   try simp only [Act.put, List.setIfInBounds_toArray, List.set_cons_zero, List.set_cons_succ])
  (refine held_take (v := ?_) (d := some 67) 6 (by kernel_rfl) (by kernel_rfl) rfl ?_ ?_
   rotate_left
   · intro w hSw
     conv in opOf _ _ => whnf
     (obtain ⟨⟨s1, s3⟩, ⟨sx, s4⟩, s5⟩ := hSw)
     go_simp
     try (with_reducible rfl)
   try simp only [Act.put, List.setIfInBounds_toArray, List.set_cons_zero, List.set_cons_succ])
  refine held_one 7 (by kernel_rfl) (by kernel_rfl) (held_mute (w' := ?_) (d := none) 7 (by kernel_rfl) (by kernel_rfl) rfl ?_ ?_)
  rotate_left 1
  · rintro ⟨⟨s1, s3⟩, ⟨sx, s4⟩, s5⟩
    conv in opOf _ _ => whnf
    go_simp
    first | done | (with_reducible rfl)
  intro hS
  refine ⟨⟨⟨(World.cell?_setCell_other _ _ _ _ (by first | (simp; done) | (simp; omega))).trans hS.1.1, (World.cell?_setCell_other _ _ _ _ (by first | (simp; done) | (simp; omega))).trans hS.1.2⟩, ⟨_, World.cell?_setCell_same' _ _ _ (by obtain ⟨y, hy⟩ := hS.2.1; have hy' : W.cell? ⟨g, a, none⟩ = some y := hy; simp [hy'])⟩, by simpa using hS.2.2⟩, ?_⟩
  try simp only [Act.put, List.setIfInBounds_toArray, List.set_cons_zero, List.set_cons_succ]
  refine held_done (by kernel_rfl) (fun hS => hR.out _ _ ?_)
  exact hQ _ _ _ _ _ _ _

set_option maxRecDepth 20000 in
set_option maxHeartbeats 2000000 in
theorem do_two (op f n word from_ : Int) (a b : Int) (M : Value) (K T To : Int) (w : World) (g : Nat) (cells cells' : List Value) (hT : TabIs 0 w) (htg : 0 ≠ g) (hB : Blk w g 119 cells) (hn : -2147483648 ≤ n ∧ n ≤ 2147483647) (hc : checkR op a b n f = 0) (hs : opShape op = 4)
    (H : Hid (∀ W, TabIs 0 W → Blk W g 119 cells → Calls Tryd.prog 60 #[.pointer (some ⟨g, 0, none⟩), .agg #[.int .i64 op, .int .i64 a, .int .i64 b, .int .i32 n, .int .i64 f], M, .int .i64 from_] W fun e w' => e = .returned (.agg #[.int .i64 K, .int .i64 T, .int .u32 To]) ∧ CW W g cells' w')) :
    Calls Tryd.prog 26 #[.pointer (some ⟨g, 0, none⟩), .agg #[.int .i64 op, .int .i64 a, .int .i64 b, .int .i32 n, .int .i64 f], .int .i32 word, M, .int .i64 from_] w fun e w' => e = .returned (.agg #[.int .i64 K, .int .i64 T, .int .u32 To]) ∧ CW w g (cells') w' := by
  have hg := hB.lt
  obtain ⟨hiop, _, _, _⟩ := checkR_parts hc
  have hch : ∀ w, TabIs 0 w → Calls Tryd.prog 46 #[.agg #[.int .i64 op, .int .i64 a, .int .i64 b, .int .i32 n, .int .i64 f]] w fun e w' => e = .returned (.int .i64 0) ∧ Below w.heap.size w w' := fun w hT => hc ▸ check_any op a b n f w hn hT
  have hat : ∀ w, TabIs 0 w → Calls Tryd.prog 54 #[.int .i64 op] w fun e w' => e = .returned (.tuple #[.agg #[.string ⟨(opName op).toArray⟩, .int .u8 (opByte op), .int .i64 4], .bool true]) ∧ Below w.heap.size w w' := fun w hT => hiop ▸ hs ▸ at_any op w hT
  have Hch := Lib.hid hch
  have Hat := Lib.hid hat
  have HB := Lib.hid hB
  have hI0 : Blk ((w.alloc (.cells #[.int .i64 op, .int .i64 a, .int .i64 b, .int .i32 n, .int .i64 f] 25)).alloc (.cells #[.int .i64 0, .int .i64 0, .int .u32 0] 56)) w.heap.size 25 [.int .i64 op, .int .i64 a, .int .i64 b, .int .i32 n, .int .i64 f] := (Blk.new w 25 [.int .i64 op, .int .i64 a, .int .i64 b, .int .i32 n, .int .i64 f]).alloc _
  have hX0 : Blk ((w.alloc (.cells #[.int .i64 op, .int .i64 a, .int .i64 b, .int .i32 n, .int .i64 f] 25)).alloc (.cells #[.int .i64 0, .int .i64 0, .int .u32 0] 56)) (w.heap.size + 1) 56 [.int .i64 0, .int .i64 0, .int .u32 0] := by
    have := Blk.new (w.alloc (.cells #[.int .i64 op, .int .i64 a, .int .i64 b, .int .i32 n, .int .i64 f] 25)) 56 [.int .i64 0, .int .i64 0, .int .u32 0]
    rw [World.size_alloc] at this
    exact this
  generalize opName op = nm at Hat
  generalize opByte op = by_ at Hat
  clear hch hat hB hc hiop hs hn
  go_enter Tryd.func26, Tryd.ntmps26
  go_wp2_with (first
    | (go_at_call 46; refine (Hch.out _ ((hT.alloc _).alloc _)).mono ?_; rintro e w2 ⟨rfl, hb2⟩; have hC2 := (((CW.start HB.out).alloc (.cells #[.int .i64 op, .int .i64 a, .int .i64 b, .int .i32 n, .int .i64 f] 25)).alloc (.cells #[.int .i64 0, .int .i64 0, .int .u32 0] 56)).below hb2; have hI2 := hI0.below hb2 hI0.lt; have hX2 := hX0.below hb2 hX0.lt; have p0 := hI2.cell 0; simp only [List.getElem?_cons_zero] at p0; have HC2 := Lib.hid hC2; clear hC2)
    | (go_at_call 54; refine (Hat.out _ (HC2.out.tab hT htg)).mono ?_; rintro e w3 ⟨rfl, hb3⟩; have hC3 := HC2.out.below hb3; have hI3 := hI2.below hb3 hI2.lt; have hX3 := hX2.below hb3 hX2.lt; have r0 := hI3.cell 0; have r1 := hI3.cell 1; have r2 := hI3.cell 2; have r3 := hI3.cell 3; have r4 := hI3.cell 4; simp only [List.getElem?_cons_zero, List.getElem?_cons_succ] at r0 r1 r2 r3 r4; have hz3 := hI3.lt; have HC3 := Lib.hid hC3; clear hC3)
    | (go_at_call 60; refine (H.out _ ((HC3.out.tab hT htg).alloc _) (HC3.out.blk.alloc _)).mono ?_; rintro e w5 ⟨rfl, hC5⟩; have hX5 : Blk w5 (w.heap.size + 1) 56 [.int .i64 0, .int .i64 0, .int .u32 0] := (hC5.fr.block _ (by have := hX3.lt; simp; omega) (by show w.heap.size + 1 ≠ g; omega)).trans (hX3.alloc _); have hC6 := (HC3.out.alloc _).trans hC5; have HC6 := Lib.hid hC6; clear hC6 hC5)
    | ((with_reducible show wpList _ _ _ (Oper.mk none (Op.store _ (Operand.tmp 10) (Operand.tmp 47)) _ _ _ _ :: _) _ _); refine wpList_st3 hX5 rfl 56 (.tmp 10) (.tmp 47) (.int .i64 K) (.int .i64 T) (.int .u32 To) rfl (by kernel_rfl) (by kernel_rfl) (by simp [Value.oneCell']) (by kernel_rfl) ?_; rintro ⟨z0, z1, z2⟩)
    | fail)
  refine bodyPost_ret (v := .agg #[.int .i64 K, .int .i64 T, .int .u32 To]) (by simp [results, Tryd.results26, go_sem, z0, z1, z2]) rfl ⟨rfl, ?_⟩
  exact CW.farCells (by omega) _ _ _ HC6.out

set_option maxRecDepth 20000 in
set_option maxHeartbeats 2000000 in
theorem do_one (op f n word from_ : Int) (a b : Int) (M : Value) (K T To : Int) (w : World) (g : Nat) (cells cells' : List Value) (hT : TabIs 0 w) (htg : 0 ≠ g) (hB : Blk w g 119 cells) (hn : -2147483648 ≤ n ∧ n ≤ 2147483647) (hc : checkR op a b n f = 0) (hs : opShape op = 2)
    (H : Hid (∀ W, TabIs 0 W → Blk W g 119 cells → Calls Tryd.prog 59 #[.pointer (some ⟨g, 0, none⟩), .agg #[.int .i64 op, .int .i64 a, .int .i64 b, .int .i32 n, .int .i64 f]] W fun e w' => e = .returned (.agg #[.int .i64 K, .int .i64 T, .int .u32 To]) ∧ CW W g cells' w')) :
    Calls Tryd.prog 26 #[.pointer (some ⟨g, 0, none⟩), .agg #[.int .i64 op, .int .i64 a, .int .i64 b, .int .i32 n, .int .i64 f], .int .i32 word, M, .int .i64 from_] w fun e w' => e = .returned (.agg #[.int .i64 K, .int .i64 T, .int .u32 To]) ∧ CW w g (cells') w' := by
  have hg := hB.lt
  obtain ⟨hiop, _, _, _⟩ := checkR_parts hc
  have hch : ∀ w, TabIs 0 w → Calls Tryd.prog 46 #[.agg #[.int .i64 op, .int .i64 a, .int .i64 b, .int .i32 n, .int .i64 f]] w fun e w' => e = .returned (.int .i64 0) ∧ Below w.heap.size w w' := fun w hT => hc ▸ check_any op a b n f w hn hT
  have hat : ∀ w, TabIs 0 w → Calls Tryd.prog 54 #[.int .i64 op] w fun e w' => e = .returned (.tuple #[.agg #[.string ⟨(opName op).toArray⟩, .int .u8 (opByte op), .int .i64 2], .bool true]) ∧ Below w.heap.size w w' := fun w hT => hiop ▸ hs ▸ at_any op w hT
  have Hch := Lib.hid hch
  have Hat := Lib.hid hat
  have HB := Lib.hid hB
  have hI0 : Blk ((w.alloc (.cells #[.int .i64 op, .int .i64 a, .int .i64 b, .int .i32 n, .int .i64 f] 25)).alloc (.cells #[.int .i64 0, .int .i64 0, .int .u32 0] 56)) w.heap.size 25 [.int .i64 op, .int .i64 a, .int .i64 b, .int .i32 n, .int .i64 f] := (Blk.new w 25 [.int .i64 op, .int .i64 a, .int .i64 b, .int .i32 n, .int .i64 f]).alloc _
  have hX0 : Blk ((w.alloc (.cells #[.int .i64 op, .int .i64 a, .int .i64 b, .int .i32 n, .int .i64 f] 25)).alloc (.cells #[.int .i64 0, .int .i64 0, .int .u32 0] 56)) (w.heap.size + 1) 56 [.int .i64 0, .int .i64 0, .int .u32 0] := by
    have := Blk.new (w.alloc (.cells #[.int .i64 op, .int .i64 a, .int .i64 b, .int .i32 n, .int .i64 f] 25)) 56 [.int .i64 0, .int .i64 0, .int .u32 0]
    rw [World.size_alloc] at this
    exact this
  generalize opName op = nm at Hat
  generalize opByte op = by_ at Hat
  clear hch hat hB hc hiop hs hn
  go_enter Tryd.func26, Tryd.ntmps26
  go_wp2_with (first
    | (go_at_call 46; refine (Hch.out _ ((hT.alloc _).alloc _)).mono ?_; rintro e w2 ⟨rfl, hb2⟩; have hC2 := (((CW.start HB.out).alloc (.cells #[.int .i64 op, .int .i64 a, .int .i64 b, .int .i32 n, .int .i64 f] 25)).alloc (.cells #[.int .i64 0, .int .i64 0, .int .u32 0] 56)).below hb2; have hI2 := hI0.below hb2 hI0.lt; have hX2 := hX0.below hb2 hX0.lt; have p0 := hI2.cell 0; simp only [List.getElem?_cons_zero] at p0; have HC2 := Lib.hid hC2; clear hC2)
    | (go_at_call 54; refine (Hat.out _ (HC2.out.tab hT htg)).mono ?_; rintro e w3 ⟨rfl, hb3⟩; have hC3 := HC2.out.below hb3; have hI3 := hI2.below hb3 hI2.lt; have hX3 := hX2.below hb3 hX2.lt; have r0 := hI3.cell 0; have r1 := hI3.cell 1; have r2 := hI3.cell 2; have r3 := hI3.cell 3; have r4 := hI3.cell 4; simp only [List.getElem?_cons_zero, List.getElem?_cons_succ] at r0 r1 r2 r3 r4; have hz3 := hI3.lt; have HC3 := Lib.hid hC3; clear hC3)
    | (go_at_call 59; refine (H.out _ ((HC3.out.tab hT htg).alloc _) (HC3.out.blk.alloc _)).mono ?_; rintro e w5 ⟨rfl, hC5⟩; have hX5 : Blk w5 (w.heap.size + 1) 56 [.int .i64 0, .int .i64 0, .int .u32 0] := (hC5.fr.block _ (by have := hX3.lt; simp; omega) (by show w.heap.size + 1 ≠ g; omega)).trans (hX3.alloc _); have hC6 := (HC3.out.alloc _).trans hC5; have HC6 := Lib.hid hC6; clear hC6 hC5)
    | ((with_reducible show wpList _ _ _ (Oper.mk none (Op.store _ (Operand.tmp 10) (Operand.tmp 40)) _ _ _ _ :: _) _ _); refine wpList_st3 hX5 rfl 56 (.tmp 10) (.tmp 40) (.int .i64 K) (.int .i64 T) (.int .u32 To) rfl (by kernel_rfl) (by kernel_rfl) (by simp [Value.oneCell']) (by kernel_rfl) ?_; rintro ⟨z0, z1, z2⟩)
    | fail)
  refine bodyPost_ret (v := .agg #[.int .i64 K, .int .i64 T, .int .u32 To]) (by simp [results, Tryd.results26, go_sem, z0, z1, z2]) rfl ⟨rfl, ?_⟩
  exact CW.farCells (by omega) _ _ _ HC6.out

set_option maxRecDepth 20000 in
set_option maxHeartbeats 2000000 in
theorem do_part (op f n word from_ : Int) (a b : Int) (M : Value) (K T To : Int) (w : World) (g : Nat) (cells cells' : List Value) (hT : TabIs 0 w) (htg : 0 ≠ g) (hB : Blk w g 119 cells) (hn : -2147483648 ≤ n ∧ n ≤ 2147483647) (hc : checkR op a b n f = 0) (hs : opShape op = 6)
    (H : Hid (∀ W, TabIs 0 W → Blk W g 119 cells → Calls Tryd.prog 61 #[.pointer (some ⟨g, 0, none⟩), .agg #[.int .i64 op, .int .i64 a, .int .i64 b, .int .i32 n, .int .i64 f]] W fun e w' => e = .returned (.agg #[.int .i64 K, .int .i64 T, .int .u32 To]) ∧ CW W g cells' w')) :
    Calls Tryd.prog 26 #[.pointer (some ⟨g, 0, none⟩), .agg #[.int .i64 op, .int .i64 a, .int .i64 b, .int .i32 n, .int .i64 f], .int .i32 word, M, .int .i64 from_] w fun e w' => e = .returned (.agg #[.int .i64 K, .int .i64 T, .int .u32 To]) ∧ CW w g (cells') w' := by
  have hg := hB.lt
  obtain ⟨hiop, _, _, _⟩ := checkR_parts hc
  have hch : ∀ w, TabIs 0 w → Calls Tryd.prog 46 #[.agg #[.int .i64 op, .int .i64 a, .int .i64 b, .int .i32 n, .int .i64 f]] w fun e w' => e = .returned (.int .i64 0) ∧ Below w.heap.size w w' := fun w hT => hc ▸ check_any op a b n f w hn hT
  have hat : ∀ w, TabIs 0 w → Calls Tryd.prog 54 #[.int .i64 op] w fun e w' => e = .returned (.tuple #[.agg #[.string ⟨(opName op).toArray⟩, .int .u8 (opByte op), .int .i64 6], .bool true]) ∧ Below w.heap.size w w' := fun w hT => hiop ▸ hs ▸ at_any op w hT
  have Hch := Lib.hid hch
  have Hat := Lib.hid hat
  have HB := Lib.hid hB
  have hI0 : Blk ((w.alloc (.cells #[.int .i64 op, .int .i64 a, .int .i64 b, .int .i32 n, .int .i64 f] 25)).alloc (.cells #[.int .i64 0, .int .i64 0, .int .u32 0] 56)) w.heap.size 25 [.int .i64 op, .int .i64 a, .int .i64 b, .int .i32 n, .int .i64 f] := (Blk.new w 25 [.int .i64 op, .int .i64 a, .int .i64 b, .int .i32 n, .int .i64 f]).alloc _
  have hX0 : Blk ((w.alloc (.cells #[.int .i64 op, .int .i64 a, .int .i64 b, .int .i32 n, .int .i64 f] 25)).alloc (.cells #[.int .i64 0, .int .i64 0, .int .u32 0] 56)) (w.heap.size + 1) 56 [.int .i64 0, .int .i64 0, .int .u32 0] := by
    have := Blk.new (w.alloc (.cells #[.int .i64 op, .int .i64 a, .int .i64 b, .int .i32 n, .int .i64 f] 25)) 56 [.int .i64 0, .int .i64 0, .int .u32 0]
    rw [World.size_alloc] at this
    exact this
  generalize opName op = nm at Hat
  generalize opByte op = by_ at Hat
  clear hch hat hB hc hiop hs hn
  go_enter Tryd.func26, Tryd.ntmps26
  go_wp2_with (first
    | (go_at_call 46; refine (Hch.out _ ((hT.alloc _).alloc _)).mono ?_; rintro e w2 ⟨rfl, hb2⟩; have hC2 := (((CW.start HB.out).alloc (.cells #[.int .i64 op, .int .i64 a, .int .i64 b, .int .i32 n, .int .i64 f] 25)).alloc (.cells #[.int .i64 0, .int .i64 0, .int .u32 0] 56)).below hb2; have hI2 := hI0.below hb2 hI0.lt; have hX2 := hX0.below hb2 hX0.lt; have p0 := hI2.cell 0; simp only [List.getElem?_cons_zero] at p0; have HC2 := Lib.hid hC2; clear hC2)
    | (go_at_call 54; refine (Hat.out _ (HC2.out.tab hT htg)).mono ?_; rintro e w3 ⟨rfl, hb3⟩; have hC3 := HC2.out.below hb3; have hI3 := hI2.below hb3 hI2.lt; have hX3 := hX2.below hb3 hX2.lt; have r0 := hI3.cell 0; have r1 := hI3.cell 1; have r2 := hI3.cell 2; have r3 := hI3.cell 3; have r4 := hI3.cell 4; simp only [List.getElem?_cons_zero, List.getElem?_cons_succ] at r0 r1 r2 r3 r4; have hz3 := hI3.lt; have HC3 := Lib.hid hC3; clear hC3)
    | (go_at_call 61; refine (H.out _ ((HC3.out.tab hT htg).alloc _) (HC3.out.blk.alloc _)).mono ?_; rintro e w5 ⟨rfl, hC5⟩; have hX5 : Blk w5 (w.heap.size + 1) 56 [.int .i64 0, .int .i64 0, .int .u32 0] := (hC5.fr.block _ (by have := hX3.lt; simp; omega) (by show w.heap.size + 1 ≠ g; omega)).trans (hX3.alloc _); have hC6 := (HC3.out.alloc _).trans hC5; have HC6 := Lib.hid hC6; clear hC6 hC5)
    | ((with_reducible show wpList _ _ _ (Oper.mk none (Op.store _ (Operand.tmp 10) (Operand.tmp 72)) _ _ _ _ :: _) _ _); refine wpList_st3 hX5 rfl 56 (.tmp 10) (.tmp 72) (.int .i64 K) (.int .i64 T) (.int .u32 To) rfl (by kernel_rfl) (by kernel_rfl) (by simp [Value.oneCell']) (by kernel_rfl) ?_; rintro ⟨z0, z1, z2⟩)
    | fail)
  refine bodyPost_ret (v := .agg #[.int .i64 K, .int .i64 T, .int .u32 To]) (by simp [results, Tryd.results26, go_sem, z0, z1, z2]) rfl ⟨rfl, ?_⟩
  exact CW.farCells (by omega) _ _ _ HC6.out

set_option maxRecDepth 20000 in
set_option maxHeartbeats 2000000 in
theorem do_goes1 (op f n word from_ : Int) (a b : Int) (M : Value) (K T To : Int) (w : World) (g : Nat) (cells cells' : List Value) (hT : TabIs 0 w) (htg : 0 ≠ g) (hB : Blk w g 119 cells) (hn : -2147483648 ≤ n ∧ n ≤ 2147483647) (hc : checkR op a b n f = 0) (hs : opShape op = 1)
    (H : Hid (∀ W, TabIs 0 W → Blk W g 119 cells → Calls Tryd.prog 58 #[.pointer (some ⟨g, 0, none⟩), .agg #[.int .i64 op, .int .i64 a, .int .i64 b, .int .i32 n, .int .i64 f]] W fun e w' => e = .returned (.agg #[.int .i64 K, .int .i64 T, .int .u32 To]) ∧ CW W g cells' w')) :
    Calls Tryd.prog 26 #[.pointer (some ⟨g, 0, none⟩), .agg #[.int .i64 op, .int .i64 a, .int .i64 b, .int .i32 n, .int .i64 f], .int .i32 word, M, .int .i64 from_] w fun e w' => e = .returned (.agg #[.int .i64 K, .int .i64 T, .int .u32 To]) ∧ CW w g (cells') w' := by
  have hg := hB.lt
  obtain ⟨hiop, _, _, _⟩ := checkR_parts hc
  have hch : ∀ w, TabIs 0 w → Calls Tryd.prog 46 #[.agg #[.int .i64 op, .int .i64 a, .int .i64 b, .int .i32 n, .int .i64 f]] w fun e w' => e = .returned (.int .i64 0) ∧ Below w.heap.size w w' := fun w hT => hc ▸ check_any op a b n f w hn hT
  have hat : ∀ w, TabIs 0 w → Calls Tryd.prog 54 #[.int .i64 op] w fun e w' => e = .returned (.tuple #[.agg #[.string ⟨(opName op).toArray⟩, .int .u8 (opByte op), .int .i64 1], .bool true]) ∧ Below w.heap.size w w' := fun w hT => hiop ▸ hs ▸ at_any op w hT
  have Hch := Lib.hid hch
  have Hat := Lib.hid hat
  have HB := Lib.hid hB
  have hI0 : Blk ((w.alloc (.cells #[.int .i64 op, .int .i64 a, .int .i64 b, .int .i32 n, .int .i64 f] 25)).alloc (.cells #[.int .i64 0, .int .i64 0, .int .u32 0] 56)) w.heap.size 25 [.int .i64 op, .int .i64 a, .int .i64 b, .int .i32 n, .int .i64 f] := (Blk.new w 25 [.int .i64 op, .int .i64 a, .int .i64 b, .int .i32 n, .int .i64 f]).alloc _
  have hX0 : Blk ((w.alloc (.cells #[.int .i64 op, .int .i64 a, .int .i64 b, .int .i32 n, .int .i64 f] 25)).alloc (.cells #[.int .i64 0, .int .i64 0, .int .u32 0] 56)) (w.heap.size + 1) 56 [.int .i64 0, .int .i64 0, .int .u32 0] := by
    have := Blk.new (w.alloc (.cells #[.int .i64 op, .int .i64 a, .int .i64 b, .int .i32 n, .int .i64 f] 25)) 56 [.int .i64 0, .int .i64 0, .int .u32 0]
    rw [World.size_alloc] at this
    exact this
  generalize opName op = nm at Hat
  generalize opByte op = by_ at Hat
  clear hch hat hB hc hiop hs hn
  go_enter Tryd.func26, Tryd.ntmps26
  go_wp2_with (first
    | (go_at_call 46; refine (Hch.out _ ((hT.alloc _).alloc _)).mono ?_; rintro e w2 ⟨rfl, hb2⟩; have hC2 := (((CW.start HB.out).alloc (.cells #[.int .i64 op, .int .i64 a, .int .i64 b, .int .i32 n, .int .i64 f] 25)).alloc (.cells #[.int .i64 0, .int .i64 0, .int .u32 0] 56)).below hb2; have hI2 := hI0.below hb2 hI0.lt; have hX2 := hX0.below hb2 hX0.lt; have p0 := hI2.cell 0; simp only [List.getElem?_cons_zero] at p0; have HC2 := Lib.hid hC2; clear hC2)
    | (go_at_call 54; refine (Hat.out _ (HC2.out.tab hT htg)).mono ?_; rintro e w3 ⟨rfl, hb3⟩; have hC3 := HC2.out.below hb3; have hI3 := hI2.below hb3 hI2.lt; have hX3 := hX2.below hb3 hX2.lt; have r0 := hI3.cell 0; have r1 := hI3.cell 1; have r2 := hI3.cell 2; have r3 := hI3.cell 3; have r4 := hI3.cell 4; simp only [List.getElem?_cons_zero, List.getElem?_cons_succ] at r0 r1 r2 r3 r4; have hz3 := hI3.lt; have HC3 := Lib.hid hC3; clear hC3)
    | (go_at_call 58; refine (H.out _ ((HC3.out.tab hT htg).alloc _) (HC3.out.blk.alloc _)).mono ?_; rintro e w5 ⟨rfl, hC5⟩; have hX5 : Blk w5 (w.heap.size + 1) 56 [.int .i64 0, .int .i64 0, .int .u32 0] := (hC5.fr.block _ (by have := hX3.lt; simp; omega) (by show w.heap.size + 1 ≠ g; omega)).trans (hX3.alloc _); have hC6 := (HC3.out.alloc _).trans hC5; have HC6 := Lib.hid hC6; clear hC6 hC5)
    | ((with_reducible show wpList _ _ _ (Oper.mk none (Op.store _ (Operand.tmp 10) (Operand.tmp 35)) _ _ _ _ :: _) _ _); refine wpList_st3 hX5 rfl 56 (.tmp 10) (.tmp 35) (.int .i64 K) (.int .i64 T) (.int .u32 To) rfl (by kernel_rfl) (by kernel_rfl) (by simp [Value.oneCell']) (by kernel_rfl) ?_; rintro ⟨z0, z1, z2⟩)
    | fail)
  refine bodyPost_ret (v := .agg #[.int .i64 K, .int .i64 T, .int .u32 To]) (by simp [results, Tryd.results26, go_sem, z0, z1, z2]) rfl ⟨rfl, ?_⟩
  exact CW.farCells (by omega) _ _ _ HC6.out

set_option maxRecDepth 20000 in
set_option maxHeartbeats 2000000 in
theorem do_goes9 (op f n word from_ : Int) (a b : Int) (M : Value) (K T To : Int) (w : World) (g : Nat) (cells cells' : List Value) (hT : TabIs 0 w) (htg : 0 ≠ g) (hB : Blk w g 119 cells) (hn : -2147483648 ≤ n ∧ n ≤ 2147483647) (hc : checkR op a b n f = 0) (hs : opShape op = 9)
    (H : Hid (∀ W, TabIs 0 W → Blk W g 119 cells → Calls Tryd.prog 58 #[.pointer (some ⟨g, 0, none⟩), .agg #[.int .i64 op, .int .i64 a, .int .i64 b, .int .i32 n, .int .i64 f]] W fun e w' => e = .returned (.agg #[.int .i64 K, .int .i64 T, .int .u32 To]) ∧ CW W g cells' w')) :
    Calls Tryd.prog 26 #[.pointer (some ⟨g, 0, none⟩), .agg #[.int .i64 op, .int .i64 a, .int .i64 b, .int .i32 n, .int .i64 f], .int .i32 word, M, .int .i64 from_] w fun e w' => e = .returned (.agg #[.int .i64 K, .int .i64 T, .int .u32 To]) ∧ CW w g (cells') w' := by
  have hg := hB.lt
  obtain ⟨hiop, _, _, _⟩ := checkR_parts hc
  have hch : ∀ w, TabIs 0 w → Calls Tryd.prog 46 #[.agg #[.int .i64 op, .int .i64 a, .int .i64 b, .int .i32 n, .int .i64 f]] w fun e w' => e = .returned (.int .i64 0) ∧ Below w.heap.size w w' := fun w hT => hc ▸ check_any op a b n f w hn hT
  have hat : ∀ w, TabIs 0 w → Calls Tryd.prog 54 #[.int .i64 op] w fun e w' => e = .returned (.tuple #[.agg #[.string ⟨(opName op).toArray⟩, .int .u8 (opByte op), .int .i64 9], .bool true]) ∧ Below w.heap.size w w' := fun w hT => hiop ▸ hs ▸ at_any op w hT
  have Hch := Lib.hid hch
  have Hat := Lib.hid hat
  have HB := Lib.hid hB
  have hI0 : Blk ((w.alloc (.cells #[.int .i64 op, .int .i64 a, .int .i64 b, .int .i32 n, .int .i64 f] 25)).alloc (.cells #[.int .i64 0, .int .i64 0, .int .u32 0] 56)) w.heap.size 25 [.int .i64 op, .int .i64 a, .int .i64 b, .int .i32 n, .int .i64 f] := (Blk.new w 25 [.int .i64 op, .int .i64 a, .int .i64 b, .int .i32 n, .int .i64 f]).alloc _
  have hX0 : Blk ((w.alloc (.cells #[.int .i64 op, .int .i64 a, .int .i64 b, .int .i32 n, .int .i64 f] 25)).alloc (.cells #[.int .i64 0, .int .i64 0, .int .u32 0] 56)) (w.heap.size + 1) 56 [.int .i64 0, .int .i64 0, .int .u32 0] := by
    have := Blk.new (w.alloc (.cells #[.int .i64 op, .int .i64 a, .int .i64 b, .int .i32 n, .int .i64 f] 25)) 56 [.int .i64 0, .int .i64 0, .int .u32 0]
    rw [World.size_alloc] at this
    exact this
  generalize opName op = nm at Hat
  generalize opByte op = by_ at Hat
  clear hch hat hB hc hiop hs hn
  go_enter Tryd.func26, Tryd.ntmps26
  go_wp2_with (first
    | (go_at_call 46; refine (Hch.out _ ((hT.alloc _).alloc _)).mono ?_; rintro e w2 ⟨rfl, hb2⟩; have hC2 := (((CW.start HB.out).alloc (.cells #[.int .i64 op, .int .i64 a, .int .i64 b, .int .i32 n, .int .i64 f] 25)).alloc (.cells #[.int .i64 0, .int .i64 0, .int .u32 0] 56)).below hb2; have hI2 := hI0.below hb2 hI0.lt; have hX2 := hX0.below hb2 hX0.lt; have p0 := hI2.cell 0; simp only [List.getElem?_cons_zero] at p0; have HC2 := Lib.hid hC2; clear hC2)
    | (go_at_call 54; refine (Hat.out _ (HC2.out.tab hT htg)).mono ?_; rintro e w3 ⟨rfl, hb3⟩; have hC3 := HC2.out.below hb3; have hI3 := hI2.below hb3 hI2.lt; have hX3 := hX2.below hb3 hX2.lt; have r0 := hI3.cell 0; have r1 := hI3.cell 1; have r2 := hI3.cell 2; have r3 := hI3.cell 3; have r4 := hI3.cell 4; simp only [List.getElem?_cons_zero, List.getElem?_cons_succ] at r0 r1 r2 r3 r4; have hz3 := hI3.lt; have HC3 := Lib.hid hC3; clear hC3)
    | (go_at_call 58; refine (H.out _ ((HC3.out.tab hT htg).alloc _) (HC3.out.blk.alloc _)).mono ?_; rintro e w5 ⟨rfl, hC5⟩; have hX5 : Blk w5 (w.heap.size + 1) 56 [.int .i64 0, .int .i64 0, .int .u32 0] := (hC5.fr.block _ (by have := hX3.lt; simp; omega) (by show w.heap.size + 1 ≠ g; omega)).trans (hX3.alloc _); have hC6 := (HC3.out.alloc _).trans hC5; have HC6 := Lib.hid hC6; clear hC6 hC5)
    | ((with_reducible show wpList _ _ _ (Oper.mk none (Op.store _ (Operand.tmp 10) (Operand.tmp 35)) _ _ _ _ :: _) _ _); refine wpList_st3 hX5 rfl 56 (.tmp 10) (.tmp 35) (.int .i64 K) (.int .i64 T) (.int .u32 To) rfl (by kernel_rfl) (by kernel_rfl) (by simp [Value.oneCell']) (by kernel_rfl) ?_; rintro ⟨z0, z1, z2⟩)
    | fail)
  refine bodyPost_ret (v := .agg #[.int .i64 K, .int .i64 T, .int .u32 To]) (by simp [results, Tryd.results26, go_sem, z0, z1, z2]) rfl ⟨rfl, ?_⟩
  exact CW.farCells (by omega) _ _ _ HC6.out

set_option maxRecDepth 20000 in
set_option maxHeartbeats 2000000 in
theorem do_goes12 (op f n word from_ : Int) (a b : Int) (M : Value) (K T To : Int) (w : World) (g : Nat) (cells cells' : List Value) (hT : TabIs 0 w) (htg : 0 ≠ g) (hB : Blk w g 119 cells) (hn : -2147483648 ≤ n ∧ n ≤ 2147483647) (hc : checkR op a b n f = 0) (hs : opShape op = 12)
    (H : Hid (∀ W, TabIs 0 W → Blk W g 119 cells → Calls Tryd.prog 58 #[.pointer (some ⟨g, 0, none⟩), .agg #[.int .i64 op, .int .i64 a, .int .i64 b, .int .i32 n, .int .i64 f]] W fun e w' => e = .returned (.agg #[.int .i64 K, .int .i64 T, .int .u32 To]) ∧ CW W g cells' w')) :
    Calls Tryd.prog 26 #[.pointer (some ⟨g, 0, none⟩), .agg #[.int .i64 op, .int .i64 a, .int .i64 b, .int .i32 n, .int .i64 f], .int .i32 word, M, .int .i64 from_] w fun e w' => e = .returned (.agg #[.int .i64 K, .int .i64 T, .int .u32 To]) ∧ CW w g (cells') w' := by
  have hg := hB.lt
  obtain ⟨hiop, _, _, _⟩ := checkR_parts hc
  have hch : ∀ w, TabIs 0 w → Calls Tryd.prog 46 #[.agg #[.int .i64 op, .int .i64 a, .int .i64 b, .int .i32 n, .int .i64 f]] w fun e w' => e = .returned (.int .i64 0) ∧ Below w.heap.size w w' := fun w hT => hc ▸ check_any op a b n f w hn hT
  have hat : ∀ w, TabIs 0 w → Calls Tryd.prog 54 #[.int .i64 op] w fun e w' => e = .returned (.tuple #[.agg #[.string ⟨(opName op).toArray⟩, .int .u8 (opByte op), .int .i64 12], .bool true]) ∧ Below w.heap.size w w' := fun w hT => hiop ▸ hs ▸ at_any op w hT
  have Hch := Lib.hid hch
  have Hat := Lib.hid hat
  have HB := Lib.hid hB
  have hI0 : Blk ((w.alloc (.cells #[.int .i64 op, .int .i64 a, .int .i64 b, .int .i32 n, .int .i64 f] 25)).alloc (.cells #[.int .i64 0, .int .i64 0, .int .u32 0] 56)) w.heap.size 25 [.int .i64 op, .int .i64 a, .int .i64 b, .int .i32 n, .int .i64 f] := (Blk.new w 25 [.int .i64 op, .int .i64 a, .int .i64 b, .int .i32 n, .int .i64 f]).alloc _
  have hX0 : Blk ((w.alloc (.cells #[.int .i64 op, .int .i64 a, .int .i64 b, .int .i32 n, .int .i64 f] 25)).alloc (.cells #[.int .i64 0, .int .i64 0, .int .u32 0] 56)) (w.heap.size + 1) 56 [.int .i64 0, .int .i64 0, .int .u32 0] := by
    have := Blk.new (w.alloc (.cells #[.int .i64 op, .int .i64 a, .int .i64 b, .int .i32 n, .int .i64 f] 25)) 56 [.int .i64 0, .int .i64 0, .int .u32 0]
    rw [World.size_alloc] at this
    exact this
  generalize opName op = nm at Hat
  generalize opByte op = by_ at Hat
  clear hch hat hB hc hiop hs hn
  go_enter Tryd.func26, Tryd.ntmps26
  go_wp2_with (first
    | (go_at_call 46; refine (Hch.out _ ((hT.alloc _).alloc _)).mono ?_; rintro e w2 ⟨rfl, hb2⟩; have hC2 := (((CW.start HB.out).alloc (.cells #[.int .i64 op, .int .i64 a, .int .i64 b, .int .i32 n, .int .i64 f] 25)).alloc (.cells #[.int .i64 0, .int .i64 0, .int .u32 0] 56)).below hb2; have hI2 := hI0.below hb2 hI0.lt; have hX2 := hX0.below hb2 hX0.lt; have p0 := hI2.cell 0; simp only [List.getElem?_cons_zero] at p0; have HC2 := Lib.hid hC2; clear hC2)
    | (go_at_call 54; refine (Hat.out _ (HC2.out.tab hT htg)).mono ?_; rintro e w3 ⟨rfl, hb3⟩; have hC3 := HC2.out.below hb3; have hI3 := hI2.below hb3 hI2.lt; have hX3 := hX2.below hb3 hX2.lt; have r0 := hI3.cell 0; have r1 := hI3.cell 1; have r2 := hI3.cell 2; have r3 := hI3.cell 3; have r4 := hI3.cell 4; simp only [List.getElem?_cons_zero, List.getElem?_cons_succ] at r0 r1 r2 r3 r4; have hz3 := hI3.lt; have HC3 := Lib.hid hC3; clear hC3)
    | (go_at_call 58; refine (H.out _ ((HC3.out.tab hT htg).alloc _) (HC3.out.blk.alloc _)).mono ?_; rintro e w5 ⟨rfl, hC5⟩; have hX5 : Blk w5 (w.heap.size + 1) 56 [.int .i64 0, .int .i64 0, .int .u32 0] := (hC5.fr.block _ (by have := hX3.lt; simp; omega) (by show w.heap.size + 1 ≠ g; omega)).trans (hX3.alloc _); have hC6 := (HC3.out.alloc _).trans hC5; have HC6 := Lib.hid hC6; clear hC6 hC5)
    | ((with_reducible show wpList _ _ _ (Oper.mk none (Op.store _ (Operand.tmp 10) (Operand.tmp 35)) _ _ _ _ :: _) _ _); refine wpList_st3 hX5 rfl 56 (.tmp 10) (.tmp 35) (.int .i64 K) (.int .i64 T) (.int .u32 To) rfl (by kernel_rfl) (by kernel_rfl) (by simp [Value.oneCell']) (by kernel_rfl) ?_; rintro ⟨z0, z1, z2⟩)
    | fail)
  refine bodyPost_ret (v := .agg #[.int .i64 K, .int .i64 T, .int .u32 To]) (by simp [results, Tryd.results26, go_sem, z0, z1, z2]) rfl ⟨rfl, ?_⟩
  exact CW.farCells (by omega) _ _ _ HC6.out

set_option maxRecDepth 20000 in
set_option maxHeartbeats 2000000 in
theorem do_goes13 (op f n word from_ : Int) (a b : Int) (M : Value) (K T To : Int) (w : World) (g : Nat) (cells cells' : List Value) (hT : TabIs 0 w) (htg : 0 ≠ g) (hB : Blk w g 119 cells) (hn : -2147483648 ≤ n ∧ n ≤ 2147483647) (hc : checkR op a b n f = 0) (hs : opShape op = 13)
    (H : Hid (∀ W, TabIs 0 W → Blk W g 119 cells → Calls Tryd.prog 58 #[.pointer (some ⟨g, 0, none⟩), .agg #[.int .i64 op, .int .i64 a, .int .i64 b, .int .i32 n, .int .i64 f]] W fun e w' => e = .returned (.agg #[.int .i64 K, .int .i64 T, .int .u32 To]) ∧ CW W g cells' w')) :
    Calls Tryd.prog 26 #[.pointer (some ⟨g, 0, none⟩), .agg #[.int .i64 op, .int .i64 a, .int .i64 b, .int .i32 n, .int .i64 f], .int .i32 word, M, .int .i64 from_] w fun e w' => e = .returned (.agg #[.int .i64 K, .int .i64 T, .int .u32 To]) ∧ CW w g (cells') w' := by
  have hg := hB.lt
  obtain ⟨hiop, _, _, _⟩ := checkR_parts hc
  have hch : ∀ w, TabIs 0 w → Calls Tryd.prog 46 #[.agg #[.int .i64 op, .int .i64 a, .int .i64 b, .int .i32 n, .int .i64 f]] w fun e w' => e = .returned (.int .i64 0) ∧ Below w.heap.size w w' := fun w hT => hc ▸ check_any op a b n f w hn hT
  have hat : ∀ w, TabIs 0 w → Calls Tryd.prog 54 #[.int .i64 op] w fun e w' => e = .returned (.tuple #[.agg #[.string ⟨(opName op).toArray⟩, .int .u8 (opByte op), .int .i64 13], .bool true]) ∧ Below w.heap.size w w' := fun w hT => hiop ▸ hs ▸ at_any op w hT
  have Hch := Lib.hid hch
  have Hat := Lib.hid hat
  have HB := Lib.hid hB
  have hI0 : Blk ((w.alloc (.cells #[.int .i64 op, .int .i64 a, .int .i64 b, .int .i32 n, .int .i64 f] 25)).alloc (.cells #[.int .i64 0, .int .i64 0, .int .u32 0] 56)) w.heap.size 25 [.int .i64 op, .int .i64 a, .int .i64 b, .int .i32 n, .int .i64 f] := (Blk.new w 25 [.int .i64 op, .int .i64 a, .int .i64 b, .int .i32 n, .int .i64 f]).alloc _
  have hX0 : Blk ((w.alloc (.cells #[.int .i64 op, .int .i64 a, .int .i64 b, .int .i32 n, .int .i64 f] 25)).alloc (.cells #[.int .i64 0, .int .i64 0, .int .u32 0] 56)) (w.heap.size + 1) 56 [.int .i64 0, .int .i64 0, .int .u32 0] := by
    have := Blk.new (w.alloc (.cells #[.int .i64 op, .int .i64 a, .int .i64 b, .int .i32 n, .int .i64 f] 25)) 56 [.int .i64 0, .int .i64 0, .int .u32 0]
    rw [World.size_alloc] at this
    exact this
  generalize opName op = nm at Hat
  generalize opByte op = by_ at Hat
  clear hch hat hB hc hiop hs hn
  go_enter Tryd.func26, Tryd.ntmps26
  go_wp2_with (first
    | (go_at_call 46; refine (Hch.out _ ((hT.alloc _).alloc _)).mono ?_; rintro e w2 ⟨rfl, hb2⟩; have hC2 := (((CW.start HB.out).alloc (.cells #[.int .i64 op, .int .i64 a, .int .i64 b, .int .i32 n, .int .i64 f] 25)).alloc (.cells #[.int .i64 0, .int .i64 0, .int .u32 0] 56)).below hb2; have hI2 := hI0.below hb2 hI0.lt; have hX2 := hX0.below hb2 hX0.lt; have p0 := hI2.cell 0; simp only [List.getElem?_cons_zero] at p0; have HC2 := Lib.hid hC2; clear hC2)
    | (go_at_call 54; refine (Hat.out _ (HC2.out.tab hT htg)).mono ?_; rintro e w3 ⟨rfl, hb3⟩; have hC3 := HC2.out.below hb3; have hI3 := hI2.below hb3 hI2.lt; have hX3 := hX2.below hb3 hX2.lt; have r0 := hI3.cell 0; have r1 := hI3.cell 1; have r2 := hI3.cell 2; have r3 := hI3.cell 3; have r4 := hI3.cell 4; simp only [List.getElem?_cons_zero, List.getElem?_cons_succ] at r0 r1 r2 r3 r4; have hz3 := hI3.lt; have HC3 := Lib.hid hC3; clear hC3)
    | (go_at_call 58; refine (H.out _ ((HC3.out.tab hT htg).alloc _) (HC3.out.blk.alloc _)).mono ?_; rintro e w5 ⟨rfl, hC5⟩; have hX5 : Blk w5 (w.heap.size + 1) 56 [.int .i64 0, .int .i64 0, .int .u32 0] := (hC5.fr.block _ (by have := hX3.lt; simp; omega) (by show w.heap.size + 1 ≠ g; omega)).trans (hX3.alloc _); have hC6 := (HC3.out.alloc _).trans hC5; have HC6 := Lib.hid hC6; clear hC6 hC5)
    | ((with_reducible show wpList _ _ _ (Oper.mk none (Op.store _ (Operand.tmp 10) (Operand.tmp 35)) _ _ _ _ :: _) _ _); refine wpList_st3 hX5 rfl 56 (.tmp 10) (.tmp 35) (.int .i64 K) (.int .i64 T) (.int .u32 To) rfl (by kernel_rfl) (by kernel_rfl) (by simp [Value.oneCell']) (by kernel_rfl) ?_; rintro ⟨z0, z1, z2⟩)
    | fail)
  refine bodyPost_ret (v := .agg #[.int .i64 K, .int .i64 T, .int .u32 To]) (by simp [results, Tryd.results26, go_sem, z0, z1, z2]) rfl ⟨rfl, ?_⟩
  exact CW.farCells (by omega) _ _ _ HC6.out

set_option maxRecDepth 20000 in
set_option maxHeartbeats 2000000 in
theorem do_cplx3 (op f n word from_ : Int) (a b : Int) (M : Value)  (w : World) (g : Nat) (cells cells' : List Value) (hT : TabIs 0 w) (htg : 0 ≠ g) (hB : Blk w g 119 cells) (hn : -2147483648 ≤ n ∧ n ≤ 2147483647) (hc : checkR op a b n f = 0) (hs : opShape op = 3)
    (H : Hid (∀ W, TabIs 0 W → Blk W g 119 cells → Calls Tryd.prog 62 #[.pointer (some ⟨g, 0, none⟩), .agg #[.int .i64 op, .int .i64 a, .int .i64 b, .int .i32 n, .int .i64 f]] W fun e w' => e = .returned (.tuple #[]) ∧ CW W g cells' w')) :
    Calls Tryd.prog 26 #[.pointer (some ⟨g, 0, none⟩), .agg #[.int .i64 op, .int .i64 a, .int .i64 b, .int .i32 n, .int .i64 f], .int .i32 word, M, .int .i64 from_] w fun e w' => e = .returned (.agg #[.int .i64 0, .int .i64 0, .int .u32 0]) ∧ CW w g (cells') w' := by
  have hg := hB.lt
  obtain ⟨hiop, _, _, _⟩ := checkR_parts hc
  have hch : ∀ w, TabIs 0 w → Calls Tryd.prog 46 #[.agg #[.int .i64 op, .int .i64 a, .int .i64 b, .int .i32 n, .int .i64 f]] w fun e w' => e = .returned (.int .i64 0) ∧ Below w.heap.size w w' := fun w hT => hc ▸ check_any op a b n f w hn hT
  have hat : ∀ w, TabIs 0 w → Calls Tryd.prog 54 #[.int .i64 op] w fun e w' => e = .returned (.tuple #[.agg #[.string ⟨(opName op).toArray⟩, .int .u8 (opByte op), .int .i64 3], .bool true]) ∧ Below w.heap.size w w' := fun w hT => hiop ▸ hs ▸ at_any op w hT
  have Hch := Lib.hid hch
  have Hat := Lib.hid hat
  have HB := Lib.hid hB
  have hI0 : Blk ((w.alloc (.cells #[.int .i64 op, .int .i64 a, .int .i64 b, .int .i32 n, .int .i64 f] 25)).alloc (.cells #[.int .i64 0, .int .i64 0, .int .u32 0] 56)) w.heap.size 25 [.int .i64 op, .int .i64 a, .int .i64 b, .int .i32 n, .int .i64 f] := (Blk.new w 25 [.int .i64 op, .int .i64 a, .int .i64 b, .int .i32 n, .int .i64 f]).alloc _
  have hX0 : Blk ((w.alloc (.cells #[.int .i64 op, .int .i64 a, .int .i64 b, .int .i32 n, .int .i64 f] 25)).alloc (.cells #[.int .i64 0, .int .i64 0, .int .u32 0] 56)) (w.heap.size + 1) 56 [.int .i64 0, .int .i64 0, .int .u32 0] := by
    have := Blk.new (w.alloc (.cells #[.int .i64 op, .int .i64 a, .int .i64 b, .int .i32 n, .int .i64 f] 25)) 56 [.int .i64 0, .int .i64 0, .int .u32 0]
    rw [World.size_alloc] at this
    exact this
  generalize opName op = nm at Hat
  generalize opByte op = by_ at Hat
  clear hch hat hB hc hiop hs hn
  go_enter Tryd.func26, Tryd.ntmps26
  go_wp2_with (first
    | (go_at_call 46; refine (Hch.out _ ((hT.alloc _).alloc _)).mono ?_; rintro e w2 ⟨rfl, hb2⟩; have hC2 := (((CW.start HB.out).alloc (.cells #[.int .i64 op, .int .i64 a, .int .i64 b, .int .i32 n, .int .i64 f] 25)).alloc (.cells #[.int .i64 0, .int .i64 0, .int .u32 0] 56)).below hb2; have hI2 := hI0.below hb2 hI0.lt; have hX2 := hX0.below hb2 hX0.lt; have p0 := hI2.cell 0; simp only [List.getElem?_cons_zero] at p0; have HC2 := Lib.hid hC2; clear hC2)
    | (go_at_call 54; refine (Hat.out _ (HC2.out.tab hT htg)).mono ?_; rintro e w3 ⟨rfl, hb3⟩; have hC3 := HC2.out.below hb3; have hI3 := hI2.below hb3 hI2.lt; have hX3 := hX2.below hb3 hX2.lt; have r0 := hI3.cell 0; have r1 := hI3.cell 1; have r2 := hI3.cell 2; have r3 := hI3.cell 3; have r4 := hI3.cell 4; simp only [List.getElem?_cons_zero, List.getElem?_cons_succ] at r0 r1 r2 r3 r4; have hz3 := hI3.lt; have HC3 := Lib.hid hC3; clear hC3)
    | (go_at_call 62; refine (H.out _ ((HC3.out.tab hT htg).alloc _) (HC3.out.blk.alloc _)).mono ?_; rintro e w5 ⟨rfl, hC5⟩; have hX5 : Blk w5 (w.heap.size + 1) 56 [.int .i64 0, .int .i64 0, .int .u32 0] := (hC5.fr.block _ (by have := hX3.lt; simp; omega) (by show w.heap.size + 1 ≠ g; omega)).trans (hX3.alloc _); have hC6 := (HC3.out.alloc _).trans hC5; have HC6 := Lib.hid hC6; clear hC6 hC5)
    | ((with_reducible show wpList _ _ _ (Oper.mk none (Op.store _ (Operand.tmp 10) (Operand.tmp 73)) _ _ _ _ :: _) _ _); refine wpList_st3 hX5 rfl 56 (.tmp 10) (.tmp 73) (.int .i64 0) (.int .i64 0) (.int .u32 0) rfl (by kernel_rfl) (by kernel_rfl) (by simp [Value.oneCell']) (by kernel_rfl) ?_; rintro ⟨z0, z1, z2⟩)
    | fail)
  refine bodyPost_ret (v := .agg #[.int .i64 0, .int .i64 0, .int .u32 0]) (by simp [results, Tryd.results26, go_sem, z0, z1, z2]) rfl ⟨rfl, ?_⟩
  exact CW.farCells (by omega) _ _ _ HC6.out

set_option maxRecDepth 20000 in
set_option maxHeartbeats 2000000 in
theorem do_cplx5 (op f n word from_ : Int) (a b : Int) (M : Value)  (w : World) (g : Nat) (cells cells' : List Value) (hT : TabIs 0 w) (htg : 0 ≠ g) (hB : Blk w g 119 cells) (hn : -2147483648 ≤ n ∧ n ≤ 2147483647) (hc : checkR op a b n f = 0) (hs : opShape op = 5)
    (H : Hid (∀ W, TabIs 0 W → Blk W g 119 cells → Calls Tryd.prog 62 #[.pointer (some ⟨g, 0, none⟩), .agg #[.int .i64 op, .int .i64 a, .int .i64 b, .int .i32 n, .int .i64 f]] W fun e w' => e = .returned (.tuple #[]) ∧ CW W g cells' w')) :
    Calls Tryd.prog 26 #[.pointer (some ⟨g, 0, none⟩), .agg #[.int .i64 op, .int .i64 a, .int .i64 b, .int .i32 n, .int .i64 f], .int .i32 word, M, .int .i64 from_] w fun e w' => e = .returned (.agg #[.int .i64 0, .int .i64 0, .int .u32 0]) ∧ CW w g (cells') w' := by
  have hg := hB.lt
  obtain ⟨hiop, _, _, _⟩ := checkR_parts hc
  have hch : ∀ w, TabIs 0 w → Calls Tryd.prog 46 #[.agg #[.int .i64 op, .int .i64 a, .int .i64 b, .int .i32 n, .int .i64 f]] w fun e w' => e = .returned (.int .i64 0) ∧ Below w.heap.size w w' := fun w hT => hc ▸ check_any op a b n f w hn hT
  have hat : ∀ w, TabIs 0 w → Calls Tryd.prog 54 #[.int .i64 op] w fun e w' => e = .returned (.tuple #[.agg #[.string ⟨(opName op).toArray⟩, .int .u8 (opByte op), .int .i64 5], .bool true]) ∧ Below w.heap.size w w' := fun w hT => hiop ▸ hs ▸ at_any op w hT
  have Hch := Lib.hid hch
  have Hat := Lib.hid hat
  have HB := Lib.hid hB
  have hI0 : Blk ((w.alloc (.cells #[.int .i64 op, .int .i64 a, .int .i64 b, .int .i32 n, .int .i64 f] 25)).alloc (.cells #[.int .i64 0, .int .i64 0, .int .u32 0] 56)) w.heap.size 25 [.int .i64 op, .int .i64 a, .int .i64 b, .int .i32 n, .int .i64 f] := (Blk.new w 25 [.int .i64 op, .int .i64 a, .int .i64 b, .int .i32 n, .int .i64 f]).alloc _
  have hX0 : Blk ((w.alloc (.cells #[.int .i64 op, .int .i64 a, .int .i64 b, .int .i32 n, .int .i64 f] 25)).alloc (.cells #[.int .i64 0, .int .i64 0, .int .u32 0] 56)) (w.heap.size + 1) 56 [.int .i64 0, .int .i64 0, .int .u32 0] := by
    have := Blk.new (w.alloc (.cells #[.int .i64 op, .int .i64 a, .int .i64 b, .int .i32 n, .int .i64 f] 25)) 56 [.int .i64 0, .int .i64 0, .int .u32 0]
    rw [World.size_alloc] at this
    exact this
  generalize opName op = nm at Hat
  generalize opByte op = by_ at Hat
  clear hch hat hB hc hiop hs hn
  go_enter Tryd.func26, Tryd.ntmps26
  go_wp2_with (first
    | (go_at_call 46; refine (Hch.out _ ((hT.alloc _).alloc _)).mono ?_; rintro e w2 ⟨rfl, hb2⟩; have hC2 := (((CW.start HB.out).alloc (.cells #[.int .i64 op, .int .i64 a, .int .i64 b, .int .i32 n, .int .i64 f] 25)).alloc (.cells #[.int .i64 0, .int .i64 0, .int .u32 0] 56)).below hb2; have hI2 := hI0.below hb2 hI0.lt; have hX2 := hX0.below hb2 hX0.lt; have p0 := hI2.cell 0; simp only [List.getElem?_cons_zero] at p0; have HC2 := Lib.hid hC2; clear hC2)
    | (go_at_call 54; refine (Hat.out _ (HC2.out.tab hT htg)).mono ?_; rintro e w3 ⟨rfl, hb3⟩; have hC3 := HC2.out.below hb3; have hI3 := hI2.below hb3 hI2.lt; have hX3 := hX2.below hb3 hX2.lt; have r0 := hI3.cell 0; have r1 := hI3.cell 1; have r2 := hI3.cell 2; have r3 := hI3.cell 3; have r4 := hI3.cell 4; simp only [List.getElem?_cons_zero, List.getElem?_cons_succ] at r0 r1 r2 r3 r4; have hz3 := hI3.lt; have HC3 := Lib.hid hC3; clear hC3)
    | (go_at_call 62; refine (H.out _ ((HC3.out.tab hT htg).alloc _) (HC3.out.blk.alloc _)).mono ?_; rintro e w5 ⟨rfl, hC5⟩; have hX5 : Blk w5 (w.heap.size + 1) 56 [.int .i64 0, .int .i64 0, .int .u32 0] := (hC5.fr.block _ (by have := hX3.lt; simp; omega) (by show w.heap.size + 1 ≠ g; omega)).trans (hX3.alloc _); have hC6 := (HC3.out.alloc _).trans hC5; have HC6 := Lib.hid hC6; clear hC6 hC5)
    | ((with_reducible show wpList _ _ _ (Oper.mk none (Op.store _ (Operand.tmp 10) (Operand.tmp 73)) _ _ _ _ :: _) _ _); refine wpList_st3 hX5 rfl 56 (.tmp 10) (.tmp 73) (.int .i64 0) (.int .i64 0) (.int .u32 0) rfl (by kernel_rfl) (by kernel_rfl) (by simp [Value.oneCell']) (by kernel_rfl) ?_; rintro ⟨z0, z1, z2⟩)
    | fail)
  refine bodyPost_ret (v := .agg #[.int .i64 0, .int .i64 0, .int .u32 0]) (by simp [results, Tryd.results26, go_sem, z0, z1, z2]) rfl ⟨rfl, ?_⟩
  exact CW.farCells (by omega) _ _ _ HC6.out

set_option maxRecDepth 20000 in
set_option maxHeartbeats 2000000 in
theorem do_cplx7 (op f n word from_ : Int) (a b : Int) (M : Value)  (w : World) (g : Nat) (cells cells' : List Value) (hT : TabIs 0 w) (htg : 0 ≠ g) (hB : Blk w g 119 cells) (hn : -2147483648 ≤ n ∧ n ≤ 2147483647) (hc : checkR op a b n f = 0) (hs : opShape op = 7)
    (H : Hid (∀ W, TabIs 0 W → Blk W g 119 cells → Calls Tryd.prog 62 #[.pointer (some ⟨g, 0, none⟩), .agg #[.int .i64 op, .int .i64 a, .int .i64 b, .int .i32 n, .int .i64 f]] W fun e w' => e = .returned (.tuple #[]) ∧ CW W g cells' w')) :
    Calls Tryd.prog 26 #[.pointer (some ⟨g, 0, none⟩), .agg #[.int .i64 op, .int .i64 a, .int .i64 b, .int .i32 n, .int .i64 f], .int .i32 word, M, .int .i64 from_] w fun e w' => e = .returned (.agg #[.int .i64 0, .int .i64 0, .int .u32 0]) ∧ CW w g (cells') w' := by
  have hg := hB.lt
  obtain ⟨hiop, _, _, _⟩ := checkR_parts hc
  have hch : ∀ w, TabIs 0 w → Calls Tryd.prog 46 #[.agg #[.int .i64 op, .int .i64 a, .int .i64 b, .int .i32 n, .int .i64 f]] w fun e w' => e = .returned (.int .i64 0) ∧ Below w.heap.size w w' := fun w hT => hc ▸ check_any op a b n f w hn hT
  have hat : ∀ w, TabIs 0 w → Calls Tryd.prog 54 #[.int .i64 op] w fun e w' => e = .returned (.tuple #[.agg #[.string ⟨(opName op).toArray⟩, .int .u8 (opByte op), .int .i64 7], .bool true]) ∧ Below w.heap.size w w' := fun w hT => hiop ▸ hs ▸ at_any op w hT
  have Hch := Lib.hid hch
  have Hat := Lib.hid hat
  have HB := Lib.hid hB
  have hI0 : Blk ((w.alloc (.cells #[.int .i64 op, .int .i64 a, .int .i64 b, .int .i32 n, .int .i64 f] 25)).alloc (.cells #[.int .i64 0, .int .i64 0, .int .u32 0] 56)) w.heap.size 25 [.int .i64 op, .int .i64 a, .int .i64 b, .int .i32 n, .int .i64 f] := (Blk.new w 25 [.int .i64 op, .int .i64 a, .int .i64 b, .int .i32 n, .int .i64 f]).alloc _
  have hX0 : Blk ((w.alloc (.cells #[.int .i64 op, .int .i64 a, .int .i64 b, .int .i32 n, .int .i64 f] 25)).alloc (.cells #[.int .i64 0, .int .i64 0, .int .u32 0] 56)) (w.heap.size + 1) 56 [.int .i64 0, .int .i64 0, .int .u32 0] := by
    have := Blk.new (w.alloc (.cells #[.int .i64 op, .int .i64 a, .int .i64 b, .int .i32 n, .int .i64 f] 25)) 56 [.int .i64 0, .int .i64 0, .int .u32 0]
    rw [World.size_alloc] at this
    exact this
  generalize opName op = nm at Hat
  generalize opByte op = by_ at Hat
  clear hch hat hB hc hiop hs hn
  go_enter Tryd.func26, Tryd.ntmps26
  go_wp2_with (first
    | (go_at_call 46; refine (Hch.out _ ((hT.alloc _).alloc _)).mono ?_; rintro e w2 ⟨rfl, hb2⟩; have hC2 := (((CW.start HB.out).alloc (.cells #[.int .i64 op, .int .i64 a, .int .i64 b, .int .i32 n, .int .i64 f] 25)).alloc (.cells #[.int .i64 0, .int .i64 0, .int .u32 0] 56)).below hb2; have hI2 := hI0.below hb2 hI0.lt; have hX2 := hX0.below hb2 hX0.lt; have p0 := hI2.cell 0; simp only [List.getElem?_cons_zero] at p0; have HC2 := Lib.hid hC2; clear hC2)
    | (go_at_call 54; refine (Hat.out _ (HC2.out.tab hT htg)).mono ?_; rintro e w3 ⟨rfl, hb3⟩; have hC3 := HC2.out.below hb3; have hI3 := hI2.below hb3 hI2.lt; have hX3 := hX2.below hb3 hX2.lt; have r0 := hI3.cell 0; have r1 := hI3.cell 1; have r2 := hI3.cell 2; have r3 := hI3.cell 3; have r4 := hI3.cell 4; simp only [List.getElem?_cons_zero, List.getElem?_cons_succ] at r0 r1 r2 r3 r4; have hz3 := hI3.lt; have HC3 := Lib.hid hC3; clear hC3)
    | (go_at_call 62; refine (H.out _ ((HC3.out.tab hT htg).alloc _) (HC3.out.blk.alloc _)).mono ?_; rintro e w5 ⟨rfl, hC5⟩; have hX5 : Blk w5 (w.heap.size + 1) 56 [.int .i64 0, .int .i64 0, .int .u32 0] := (hC5.fr.block _ (by have := hX3.lt; simp; omega) (by show w.heap.size + 1 ≠ g; omega)).trans (hX3.alloc _); have hC6 := (HC3.out.alloc _).trans hC5; have HC6 := Lib.hid hC6; clear hC6 hC5)
    | ((with_reducible show wpList _ _ _ (Oper.mk none (Op.store _ (Operand.tmp 10) (Operand.tmp 73)) _ _ _ _ :: _) _ _); refine wpList_st3 hX5 rfl 56 (.tmp 10) (.tmp 73) (.int .i64 0) (.int .i64 0) (.int .u32 0) rfl (by kernel_rfl) (by kernel_rfl) (by simp [Value.oneCell']) (by kernel_rfl) ?_; rintro ⟨z0, z1, z2⟩)
    | fail)
  refine bodyPost_ret (v := .agg #[.int .i64 0, .int .i64 0, .int .u32 0]) (by simp [results, Tryd.results26, go_sem, z0, z1, z2]) rfl ⟨rfl, ?_⟩
  exact CW.farCells (by omega) _ _ _ HC6.out

set_option maxRecDepth 20000 in
set_option maxHeartbeats 2000000 in
theorem do_set8 (op f n word from_ : Int) (a : Nat) (b : Int) (M : Value)  (w : World) (g : Nat) (cells : List Value) (hT : TabIs 0 w) (htg : 0 ≠ g) (hB : Blk w g 119 cells) (hn : -2147483648 ≤ n ∧ n ≤ 2147483647) (hc : checkR op a b n f = 0) (hs : opShape op = 8)
    (ha : a < 8) (x : Int) (hx : cells[a]? = some (.int .i32 x)) :
    Calls Tryd.prog 26 #[.pointer (some ⟨g, 0, none⟩), .agg #[.int .i64 op, .int .i64 a, .int .i64 b, .int .i32 n, .int .i64 f], .int .i32 word, M, .int .i64 from_] w fun e w' => e = .returned (.agg #[.int .i64 0, .int .i64 0, .int .u32 0]) ∧ CW w g (cells.set a (.int .i32 n)) w' := by
  have hg := hB.lt
  obtain ⟨hiop, _, _, _⟩ := checkR_parts hc
  have hch : ∀ w, TabIs 0 w → Calls Tryd.prog 46 #[.agg #[.int .i64 op, .int .i64 a, .int .i64 b, .int .i32 n, .int .i64 f]] w fun e w' => e = .returned (.int .i64 0) ∧ Below w.heap.size w w' := fun w hT => hc ▸ check_any op a b n f w hn hT
  have hat : ∀ w, TabIs 0 w → Calls Tryd.prog 54 #[.int .i64 op] w fun e w' => e = .returned (.tuple #[.agg #[.string ⟨(opName op).toArray⟩, .int .u8 (opByte op), .int .i64 8], .bool true]) ∧ Below w.heap.size w w' := fun w hT => hiop ▸ hs ▸ at_any op w hT
  have Hch := Lib.hid hch
  have Hat := Lib.hid hat
  have HB := Lib.hid hB
  have hI0 : Blk ((w.alloc (.cells #[.int .i64 op, .int .i64 a, .int .i64 b, .int .i32 n, .int .i64 f] 25)).alloc (.cells #[.int .i64 0, .int .i64 0, .int .u32 0] 56)) w.heap.size 25 [.int .i64 op, .int .i64 a, .int .i64 b, .int .i32 n, .int .i64 f] := (Blk.new w 25 [.int .i64 op, .int .i64 a, .int .i64 b, .int .i32 n, .int .i64 f]).alloc _
  have hX0 : Blk ((w.alloc (.cells #[.int .i64 op, .int .i64 a, .int .i64 b, .int .i32 n, .int .i64 f] 25)).alloc (.cells #[.int .i64 0, .int .i64 0, .int .u32 0] 56)) (w.heap.size + 1) 56 [.int .i64 0, .int .i64 0, .int .u32 0] := by
    have := Blk.new (w.alloc (.cells #[.int .i64 op, .int .i64 a, .int .i64 b, .int .i32 n, .int .i64 f] 25)) 56 [.int .i64 0, .int .i64 0, .int .u32 0]
    rw [World.size_alloc] at this
    exact this
  generalize opName op = nm at Hat
  generalize opByte op = by_ at Hat
  clear hch hat hB hc hiop hs hn
  go_enter Tryd.func26, Tryd.ntmps26
  go_wp2_with (first
    | (go_at_call 46; refine (Hch.out _ ((hT.alloc _).alloc _)).mono ?_; rintro e w2 ⟨rfl, hb2⟩; have hC2 := (((CW.start HB.out).alloc (.cells #[.int .i64 op, .int .i64 a, .int .i64 b, .int .i32 n, .int .i64 f] 25)).alloc (.cells #[.int .i64 0, .int .i64 0, .int .u32 0] 56)).below hb2; have hI2 := hI0.below hb2 hI0.lt; have hX2 := hX0.below hb2 hX0.lt; have p0 := hI2.cell 0; simp only [List.getElem?_cons_zero] at p0; have HC2 := Lib.hid hC2; clear hC2)
    | (go_at_call 54; refine (Hat.out _ (HC2.out.tab hT htg)).mono ?_; rintro e w3 ⟨rfl, hb3⟩; have hC3 := HC2.out.below hb3; have hI3 := hI2.below hb3 hI2.lt; have hX3 := hX2.below hb3 hX2.lt; have r0 := hI3.cell 0; have r1 := hI3.cell 1; have r2 := hI3.cell 2; have r3 := hI3.cell 3; have r4 := hI3.cell 4; simp only [List.getElem?_cons_zero, List.getElem?_cons_succ] at r0 r1 r2 r3 r4; have hz3 := hI3.lt; have HC3 := Lib.hid hC3; clear hC3)
    | fail)
  have q3 := (HC3.out.blk.cell a).trans hx
  have f3 := HC3.out.blk.free a
  have hlt3 := HC3.out.blk.lt
  refine wp_region_swap (ops' := doR17) (by kernel_rfl) (do_r17 g w.heap.size a n word x _ _ _ _ _ _ _ _ _ _ _ _ _ _ _ _ _ _ _ _ _ _ _ _ _ _ _ _ _ _ _ _ _ _ _ _ _ _ _ _ _ _ _ _ _ _ _ _ _ _ _ _ _ _ _ _ _ _ _ _ _ _ _ _ _ _ _ _ _ _ _ _ _ ha (by omega) ?_ ?_ ?_ ?_ ?_)
  · rw [World.cell?_alloc_lt _ _ ⟨w.heap.size, 1, none⟩ hz3]; exact r1
  · rw [World.cell?_alloc_lt _ _ ⟨w.heap.size, 3, none⟩ hz3]; exact r3
  · rw [World.cell?_alloc_lt _ _ ⟨g, a, none⟩ hlt3]; exact q3
  · exact (HC3.out.blk.alloc _).free a
  intro v51 v52 v53 v54 v55 v56 v57 v58
  have hC6 := ((HC3.out.alloc (.cells #[.string ⟨nm.toArray⟩, .int .u8 by_, .int .i64 8] 97)).drewN 1).setReg a (.int .i32 n)
  have hX5 : Blk (((w3.alloc (.cells #[.string ⟨nm.toArray⟩, .int .u8 by_, .int .i64 8] 97)).drewN 1).setCell ⟨g, a, none⟩ (.int .i32 n)) (w.heap.size + 1) 56 [.int .i64 0, .int .i64 0, .int .u32 0] := (show Blk ((w3.alloc _).drewN 1) _ _ _ from hX3.alloc _).other (by show w.heap.size + 1 ≠ g; omega)
  have HC6 := Lib.hid hC6
  clear hC6 q3 f3
  go_wp2_with (first
    | ((with_reducible show wpList _ _ _ (Oper.mk none (Op.store _ (Operand.tmp 10) (Operand.tmp 73)) _ _ _ _ :: _) _ _); refine wpList_st3 hX5 rfl 56 (.tmp 10) (.tmp 73) (.int .i64 0) (.int .i64 0) (.int .u32 0) rfl (by kernel_rfl) (by kernel_rfl) (by simp [Value.oneCell']) (by kernel_rfl) ?_; rintro ⟨z0, z1, z2⟩)
    | fail)
  refine bodyPost_ret (v := .agg #[.int .i64 0, .int .i64 0, .int .u32 0]) (by simp [results, Tryd.results26, go_sem, z0, z1, z2]) rfl ⟨rfl, ?_⟩
  exact CW.farCells (by omega) _ _ _ HC6.out

set_option maxRecDepth 20000 in
set_option maxHeartbeats 2000000 in
theorem do_set10 (op f n word from_ : Int) (a : Nat) (b : Int) (M : Value)  (w : World) (g : Nat) (cells : List Value) (hT : TabIs 0 w) (htg : 0 ≠ g) (hB : Blk w g 119 cells) (hn : -2147483648 ≤ n ∧ n ≤ 2147483647) (hc : checkR op a b n f = 0) (hs : opShape op = 10)
    (ha : a < 8) (x : Int) (hx : cells[a]? = some (.int .i32 x)) :
    Calls Tryd.prog 26 #[.pointer (some ⟨g, 0, none⟩), .agg #[.int .i64 op, .int .i64 a, .int .i64 b, .int .i32 n, .int .i64 f], .int .i32 word, M, .int .i64 from_] w fun e w' => e = .returned (.agg #[.int .i64 0, .int .i64 0, .int .u32 0]) ∧ CW w g (cells.set a (.int .i32 n)) w' := by
  have hg := hB.lt
  obtain ⟨hiop, _, _, _⟩ := checkR_parts hc
  have hch : ∀ w, TabIs 0 w → Calls Tryd.prog 46 #[.agg #[.int .i64 op, .int .i64 a, .int .i64 b, .int .i32 n, .int .i64 f]] w fun e w' => e = .returned (.int .i64 0) ∧ Below w.heap.size w w' := fun w hT => hc ▸ check_any op a b n f w hn hT
  have hat : ∀ w, TabIs 0 w → Calls Tryd.prog 54 #[.int .i64 op] w fun e w' => e = .returned (.tuple #[.agg #[.string ⟨(opName op).toArray⟩, .int .u8 (opByte op), .int .i64 10], .bool true]) ∧ Below w.heap.size w w' := fun w hT => hiop ▸ hs ▸ at_any op w hT
  have Hch := Lib.hid hch
  have Hat := Lib.hid hat
  have HB := Lib.hid hB
  have hI0 : Blk ((w.alloc (.cells #[.int .i64 op, .int .i64 a, .int .i64 b, .int .i32 n, .int .i64 f] 25)).alloc (.cells #[.int .i64 0, .int .i64 0, .int .u32 0] 56)) w.heap.size 25 [.int .i64 op, .int .i64 a, .int .i64 b, .int .i32 n, .int .i64 f] := (Blk.new w 25 [.int .i64 op, .int .i64 a, .int .i64 b, .int .i32 n, .int .i64 f]).alloc _
  have hX0 : Blk ((w.alloc (.cells #[.int .i64 op, .int .i64 a, .int .i64 b, .int .i32 n, .int .i64 f] 25)).alloc (.cells #[.int .i64 0, .int .i64 0, .int .u32 0] 56)) (w.heap.size + 1) 56 [.int .i64 0, .int .i64 0, .int .u32 0] := by
    have := Blk.new (w.alloc (.cells #[.int .i64 op, .int .i64 a, .int .i64 b, .int .i32 n, .int .i64 f] 25)) 56 [.int .i64 0, .int .i64 0, .int .u32 0]
    rw [World.size_alloc] at this
    exact this
  generalize opName op = nm at Hat
  generalize opByte op = by_ at Hat
  clear hch hat hB hc hiop hs hn
  go_enter Tryd.func26, Tryd.ntmps26
  go_wp2_with (first
    | (go_at_call 46; refine (Hch.out _ ((hT.alloc _).alloc _)).mono ?_; rintro e w2 ⟨rfl, hb2⟩; have hC2 := (((CW.start HB.out).alloc (.cells #[.int .i64 op, .int .i64 a, .int .i64 b, .int .i32 n, .int .i64 f] 25)).alloc (.cells #[.int .i64 0, .int .i64 0, .int .u32 0] 56)).below hb2; have hI2 := hI0.below hb2 hI0.lt; have hX2 := hX0.below hb2 hX0.lt; have p0 := hI2.cell 0; simp only [List.getElem?_cons_zero] at p0; have HC2 := Lib.hid hC2; clear hC2)
    | (go_at_call 54; refine (Hat.out _ (HC2.out.tab hT htg)).mono ?_; rintro e w3 ⟨rfl, hb3⟩; have hC3 := HC2.out.below hb3; have hI3 := hI2.below hb3 hI2.lt; have hX3 := hX2.below hb3 hX2.lt; have r0 := hI3.cell 0; have r1 := hI3.cell 1; have r2 := hI3.cell 2; have r3 := hI3.cell 3; have r4 := hI3.cell 4; simp only [List.getElem?_cons_zero, List.getElem?_cons_succ] at r0 r1 r2 r3 r4; have hz3 := hI3.lt; have HC3 := Lib.hid hC3; clear hC3)
    | fail)
  have q3 := (HC3.out.blk.cell a).trans hx
  have f3 := HC3.out.blk.free a
  have hlt3 := HC3.out.blk.lt
  refine wp_region_swap (ops' := doR17) (by kernel_rfl) (do_r17 g w.heap.size a n word x _ _ _ _ _ _ _ _ _ _ _ _ _ _ _ _ _ _ _ _ _ _ _ _ _ _ _ _ _ _ _ _ _ _ _ _ _ _ _ _ _ _ _ _ _ _ _ _ _ _ _ _ _ _ _ _ _ _ _ _ _ _ _ _ _ _ _ _ _ _ _ _ _ ha (by omega) ?_ ?_ ?_ ?_ ?_)
  · rw [World.cell?_alloc_lt _ _ ⟨w.heap.size, 1, none⟩ hz3]; exact r1
  · rw [World.cell?_alloc_lt _ _ ⟨w.heap.size, 3, none⟩ hz3]; exact r3
  · rw [World.cell?_alloc_lt _ _ ⟨g, a, none⟩ hlt3]; exact q3
  · exact (HC3.out.blk.alloc _).free a
  intro v51 v52 v53 v54 v55 v56 v57 v58
  have hC6 := ((HC3.out.alloc (.cells #[.string ⟨nm.toArray⟩, .int .u8 by_, .int .i64 10] 97)).drewN 1).setReg a (.int .i32 n)
  have hX5 : Blk (((w3.alloc (.cells #[.string ⟨nm.toArray⟩, .int .u8 by_, .int .i64 10] 97)).drewN 1).setCell ⟨g, a, none⟩ (.int .i32 n)) (w.heap.size + 1) 56 [.int .i64 0, .int .i64 0, .int .u32 0] := (show Blk ((w3.alloc _).drewN 1) _ _ _ from hX3.alloc _).other (by show w.heap.size + 1 ≠ g; omega)
  have HC6 := Lib.hid hC6
  clear hC6 q3 f3
  go_wp2_with (first
    | ((with_reducible show wpList _ _ _ (Oper.mk none (Op.store _ (Operand.tmp 10) (Operand.tmp 73)) _ _ _ _ :: _) _ _); refine wpList_st3 hX5 rfl 56 (.tmp 10) (.tmp 73) (.int .i64 0) (.int .i64 0) (.int .u32 0) rfl (by kernel_rfl) (by kernel_rfl) (by simp [Value.oneCell']) (by kernel_rfl) ?_; rintro ⟨z0, z1, z2⟩)
    | fail)
  refine bodyPost_ret (v := .agg #[.int .i64 0, .int .i64 0, .int .u32 0]) (by simp [results, Tryd.results26, go_sem, z0, z1, z2]) rfl ⟨rfl, ?_⟩
  exact CW.farCells (by omega) _ _ _ HC6.out

set_option maxRecDepth 20000 in
set_option maxHeartbeats 2000000 in
theorem do_set11 (op f n word from_ : Int) (a : Nat) (b : Int) (M : Value)  (w : World) (g : Nat) (cells : List Value) (hT : TabIs 0 w) (htg : 0 ≠ g) (hB : Blk w g 119 cells) (hn : -2147483648 ≤ n ∧ n ≤ 2147483647) (hc : checkR op a b n f = 0) (hs : opShape op = 11)
    (ha : a < 8) (x : Int) (hx : cells[a]? = some (.int .i32 x)) :
    Calls Tryd.prog 26 #[.pointer (some ⟨g, 0, none⟩), .agg #[.int .i64 op, .int .i64 a, .int .i64 b, .int .i32 n, .int .i64 f], .int .i32 word, M, .int .i64 from_] w fun e w' => e = .returned (.agg #[.int .i64 0, .int .i64 0, .int .u32 0]) ∧ CW w g (cells.set a (.int .i32 word)) w' := by
  have hg := hB.lt
  obtain ⟨hiop, _, _, _⟩ := checkR_parts hc
  have hch : ∀ w, TabIs 0 w → Calls Tryd.prog 46 #[.agg #[.int .i64 op, .int .i64 a, .int .i64 b, .int .i32 n, .int .i64 f]] w fun e w' => e = .returned (.int .i64 0) ∧ Below w.heap.size w w' := fun w hT => hc ▸ check_any op a b n f w hn hT
  have hat : ∀ w, TabIs 0 w → Calls Tryd.prog 54 #[.int .i64 op] w fun e w' => e = .returned (.tuple #[.agg #[.string ⟨(opName op).toArray⟩, .int .u8 (opByte op), .int .i64 11], .bool true]) ∧ Below w.heap.size w w' := fun w hT => hiop ▸ hs ▸ at_any op w hT
  have Hch := Lib.hid hch
  have Hat := Lib.hid hat
  have HB := Lib.hid hB
  have hI0 : Blk ((w.alloc (.cells #[.int .i64 op, .int .i64 a, .int .i64 b, .int .i32 n, .int .i64 f] 25)).alloc (.cells #[.int .i64 0, .int .i64 0, .int .u32 0] 56)) w.heap.size 25 [.int .i64 op, .int .i64 a, .int .i64 b, .int .i32 n, .int .i64 f] := (Blk.new w 25 [.int .i64 op, .int .i64 a, .int .i64 b, .int .i32 n, .int .i64 f]).alloc _
  have hX0 : Blk ((w.alloc (.cells #[.int .i64 op, .int .i64 a, .int .i64 b, .int .i32 n, .int .i64 f] 25)).alloc (.cells #[.int .i64 0, .int .i64 0, .int .u32 0] 56)) (w.heap.size + 1) 56 [.int .i64 0, .int .i64 0, .int .u32 0] := by
    have := Blk.new (w.alloc (.cells #[.int .i64 op, .int .i64 a, .int .i64 b, .int .i32 n, .int .i64 f] 25)) 56 [.int .i64 0, .int .i64 0, .int .u32 0]
    rw [World.size_alloc] at this
    exact this
  generalize opName op = nm at Hat
  generalize opByte op = by_ at Hat
  clear hch hat hB hc hiop hs hn
  go_enter Tryd.func26, Tryd.ntmps26
  go_wp2_with (first
    | (go_at_call 46; refine (Hch.out _ ((hT.alloc _).alloc _)).mono ?_; rintro e w2 ⟨rfl, hb2⟩; have hC2 := (((CW.start HB.out).alloc (.cells #[.int .i64 op, .int .i64 a, .int .i64 b, .int .i32 n, .int .i64 f] 25)).alloc (.cells #[.int .i64 0, .int .i64 0, .int .u32 0] 56)).below hb2; have hI2 := hI0.below hb2 hI0.lt; have hX2 := hX0.below hb2 hX0.lt; have p0 := hI2.cell 0; simp only [List.getElem?_cons_zero] at p0; have HC2 := Lib.hid hC2; clear hC2)
    | (go_at_call 54; refine (Hat.out _ (HC2.out.tab hT htg)).mono ?_; rintro e w3 ⟨rfl, hb3⟩; have hC3 := HC2.out.below hb3; have hI3 := hI2.below hb3 hI2.lt; have hX3 := hX2.below hb3 hX2.lt; have r0 := hI3.cell 0; have r1 := hI3.cell 1; have r2 := hI3.cell 2; have r3 := hI3.cell 3; have r4 := hI3.cell 4; simp only [List.getElem?_cons_zero, List.getElem?_cons_succ] at r0 r1 r2 r3 r4; have hz3 := hI3.lt; have HC3 := Lib.hid hC3; clear hC3)
    | fail)
  have q3 := (HC3.out.blk.cell a).trans hx
  have f3 := HC3.out.blk.free a
  have hlt3 := HC3.out.blk.lt
  refine wp_region_swap (ops' := doR19) (by kernel_rfl) (do_r19 g w.heap.size a n word x _ _ _ _ _ _ _ _ _ _ _ _ _ _ _ _ _ _ _ _ _ _ _ _ _ _ _ _ _ _ _ _ _ _ _ _ _ _ _ _ _ _ _ _ _ _ _ _ _ _ _ _ _ _ _ _ _ _ _ _ _ _ _ _ _ _ _ _ _ _ _ _ _ ha (by omega) ?_ ?_ ?_ ?_ ?_)
  · rw [World.cell?_alloc_lt _ _ ⟨w.heap.size, 1, none⟩ hz3]; exact r1
  · rw [World.cell?_alloc_lt _ _ ⟨w.heap.size, 3, none⟩ hz3]; exact r3
  · rw [World.cell?_alloc_lt _ _ ⟨g, a, none⟩ hlt3]; exact q3
  · exact (HC3.out.blk.alloc _).free a
  intro v61 v62 v63 v64 v65 v66 v67
  have hC6 := ((HC3.out.alloc (.cells #[.string ⟨nm.toArray⟩, .int .u8 by_, .int .i64 11] 97)).drewN 1).setReg a (.int .i32 word)
  have hX5 : Blk (((w3.alloc (.cells #[.string ⟨nm.toArray⟩, .int .u8 by_, .int .i64 11] 97)).drewN 1).setCell ⟨g, a, none⟩ (.int .i32 word)) (w.heap.size + 1) 56 [.int .i64 0, .int .i64 0, .int .u32 0] := (show Blk ((w3.alloc _).drewN 1) _ _ _ from hX3.alloc _).other (by show w.heap.size + 1 ≠ g; omega)
  have HC6 := Lib.hid hC6
  clear hC6 q3 f3
  go_wp2_with (first
    | ((with_reducible show wpList _ _ _ (Oper.mk none (Op.store _ (Operand.tmp 10) (Operand.tmp 73)) _ _ _ _ :: _) _ _); refine wpList_st3 hX5 rfl 56 (.tmp 10) (.tmp 73) (.int .i64 0) (.int .i64 0) (.int .u32 0) rfl (by kernel_rfl) (by kernel_rfl) (by simp [Value.oneCell']) (by kernel_rfl) ?_; rintro ⟨z0, z1, z2⟩)
    | fail)
  refine bodyPost_ret (v := .agg #[.int .i64 0, .int .i64 0, .int .u32 0]) (by simp [results, Tryd.results26, go_sem, z0, z1, z2]) rfl ⟨rfl, ?_⟩
  exact CW.farCells (by omega) _ _ _ HC6.out

end Go.Proofs.YthcjnkakfpmpbaaDoor
