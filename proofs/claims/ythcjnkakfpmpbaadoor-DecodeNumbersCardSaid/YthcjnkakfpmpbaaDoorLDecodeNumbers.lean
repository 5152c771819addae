/- Law DecodeNumbers: chapter 7's runs. Conditions: none. -/
import Derived.Test.YthcjnkakfpmpbaaDoorN2
import Derived.Test.YthcjnkakfpmpbaaDoorD12
namespace Go.Proofs.YthcjnkakfpmpbaaDoor.decodeNumbers
open Go.RowKit Go.Shelf
set_option linter.unusedVariables false
set_option linter.unusedSimpArgs false
attribute [local go_sem] Oper.semAt_some

def allocs : World → List Obj → World
  | w, [] => w
  | w, o :: os => allocs (w.alloc o) os
theorem allocs_below : ∀ (os : List Obj) (w : World), Below w.heap.size w (allocs w os) ∧ (allocs w os).heap.size = w.heap.size + os.length
  | [], w => ⟨Below.refl _ _, rfl⟩
  | o :: os, w => by
    obtain ⟨h1, h2⟩ := allocs_below os (w.alloc o)
    exact ⟨((Below.refl _ w).alloc (Nat.le_refl _) o).trans (h1.mono (by simp)), by rw [show allocs w (o :: os) = allocs (w.alloc o) os from rfl, h2]; simp; omega⟩
theorem allocs_get : ∀ (os : List Obj) (w : World) (i : Nat) (o : Obj), os[i]? = some o → (allocs w os).heap[w.heap.size + i]? = some o
  | [], w, i, o, h => by simp at h
  | o' :: os, w, 0, o, h => by
    obtain rfl : o' = o := by simpa using h
    exact ((allocs_below os (w.alloc o')).1.block w.heap.size (by simp)).trans (World.alloc_heap_new w o')
  | o' :: os, w, i + 1, o, h => by
    have := allocs_get os (w.alloc o') i o (by simpa using h)
    rw [World.size_alloc] at this
    rw [show w.heap.size + (i + 1) = w.heap.size + 1 + i by omega]
    exact this
def objs (w : World) : List Obj := [(.cells #[.bool false] 4), (.cells #[.int .u8 16] 5), (.cells #[.int .u8 255] 5), (.cells #[] 5), (.cells #[] 5), (.cells #[.int .u8 51, .int .u8 0, .int .u8 0, .int .u8 16] 5), (.cells #[.int .u8 38, .int .u8 1, .int .u8 131] 5), (.cells #[.int .u8 1] 5), (.cells #[.slice (some ⟨w.heap.size + 1, 0, none⟩) 1 1, .slice (some ⟨w.heap.size + 1 + 1, 0, none⟩) 1 1, .slice (some ⟨w.heap.size + 1 + 1 + 1, 0, none⟩) 0 0, .slice (some ⟨w.heap.size + 1 + 1 + 1 + 1, 0, none⟩) 0 0, .slice (some ⟨w.heap.size + 1 + 1 + 1 + 1 + 1, 0, none⟩) 4 4, .slice (some ⟨w.heap.size + 1 + 1 + 1 + 1 + 1 + 1, 0, none⟩) 3 3, .slice (some ⟨w.heap.size + 1 + 1 + 1 + 1 + 1 + 1 + 1, 0, none⟩) 1 1] 22), (.cells #[.int .i64 0, .int .i64 0, .int .i64 0, .int .i64 1, .int .i64 0, .int .i64 0, .int .i64 (-1)] 3), (.cells #[.int .i64 10, .int .i64 11, .int .i64 10, .int .i64 1, .int .i64 13, .int .i64 12, .int .i64 1] 3)]
/-- the seven lists, where they lie, what is asked and what is answered -/
def Asked (w : World) (k n : Nat) (A : Option Addr) (l : List UInt8) (x y : Int) : Prop :=
  (allocs w (objs w)).cell? ⟨w.heap.size + 1 + 1 + 1 + 1 + 1 + 1 + 1 + 1, k, none⟩ = some (.slice A n n) ∧ Sl (allocs w (objs w)) (allocs w (objs w)).heap.size 1 A n (bs l) ∧ n ≤ 4 ∧ (allocs w (objs w)).cell? ⟨w.heap.size + 1 + 1 + 1 + 1 + 1 + 1 + 1 + 1 + 1, k, none⟩ = some (.int .i64 x) ∧ (allocs w (objs w)).cell? ⟨w.heap.size + 1 + 1 + 1 + 1 + 1 + 1 + 1 + 1 + 1 + 1, k, none⟩ = some (.int .i64 y) ∧
    decR l x = (ZI, 0, y) ∧ -1 ≤ x ∧ x ≤ 1
theorem asked (w : World) (k : Nat) (hk : k < 7) : ∃ n A l x y, Asked w k n A l x y := by
  have g := allocs_get (objs w) w
  have b8 : Blk (allocs w (objs w)) (w.heap.size + 8) 22 _ := g 8 _ rfl
  have b9 : Blk (allocs w (objs w)) (w.heap.size + 9) 3 _ := g 9 _ rfl
  have b10 : Blk (allocs w (objs w)) (w.heap.size + 10) 3 _ := g 10 _ rfl
  rcases (show k = 0 ∨ k = 1 ∨ k = 2 ∨ k = 3 ∨ k = 4 ∨ k = 5 ∨ k = 6 by omega) with rfl | rfl | rfl | rfl | rfl | rfl | rfl
  · have b : Blk (allocs w (objs w)) (w.heap.size + 1) 5 (bs [16]) := g 1 _ rfl
    exact ⟨1, some ⟨w.heap.size + 1, 0, none⟩, [16], 0, 10, b8.cell 0, b.sl rfl, by omega, b9.cell 0, b10.cell 0, by kernel_rfl, by omega, by omega⟩
  · have b : Blk (allocs w (objs w)) (w.heap.size + 2) 5 (bs [255]) := g 2 _ rfl
    exact ⟨1, some ⟨w.heap.size + 1 + 1, 0, none⟩, [255], 0, 11, b8.cell 1, b.sl rfl, by omega, b9.cell 1, b10.cell 1, by kernel_rfl, by omega, by omega⟩
  · have b : Blk (allocs w (objs w)) (w.heap.size + 3) 5 (bs []) := g 3 _ rfl
    exact ⟨0, some ⟨w.heap.size + 1 + 1 + 1, 0, none⟩, [], 0, 10, b8.cell 2, b.sl rfl, by omega, b9.cell 2, b10.cell 2, by kernel_rfl, by omega, by omega⟩
  · have b : Blk (allocs w (objs w)) (w.heap.size + 4) 5 (bs []) := g 4 _ rfl
    exact ⟨0, some ⟨w.heap.size + 1 + 1 + 1 + 1, 0, none⟩, [], 1, 1, b8.cell 3, b.sl rfl, by omega, b9.cell 3, b10.cell 3, by kernel_rfl, by omega, by omega⟩
  · have b : Blk (allocs w (objs w)) (w.heap.size + 5) 5 (bs [51, 0, 0, 16]) := g 5 _ rfl
    exact ⟨4, some ⟨w.heap.size + 1 + 1 + 1 + 1 + 1, 0, none⟩, [51, 0, 0, 16], 0, 13, b8.cell 4, b.sl rfl, by omega, b9.cell 4, b10.cell 4, by kernel_rfl, by omega, by omega⟩
  · have b : Blk (allocs w (objs w)) (w.heap.size + 6) 5 (bs [38, 1, 131]) := g 6 _ rfl
    exact ⟨3, some ⟨w.heap.size + 1 + 1 + 1 + 1 + 1 + 1, 0, none⟩, [38, 1, 131], 0, 12, b8.cell 5, b.sl rfl, by omega, b9.cell 5, b10.cell 5, by kernel_rfl, by omega, by omega⟩
  · have b : Blk (allocs w (objs w)) (w.heap.size + 7) 5 (bs [1]) := g 7 _ rfl
    exact ⟨1, some ⟨w.heap.size + 1 + 1 + 1 + 1 + 1 + 1 + 1, 0, none⟩, [1], (-1), 1, b8.cell 6, b.sl rfl, by omega, b9.cell 6, b10.cell 6, by kernel_rfl, by omega, by omega⟩

set_option maxRecDepth 100000 in
set_option maxHeartbeats 8000000 in
theorem walk (w : World) (hT : TabIs 0 w) :
    Calls Tryd.prog 4 #[] w fun e w' => e = .returned (.bool true) ∧ Below w.heap.size w w' := by
  refine (callsIn_wide (n := 5)).1 ?_
  refine callsIn_of_wp_marks Tryd.func4 rfl trivial ?_ rfl
  refine wpIn_wide.2 ?_
  simp only [Tryd.ntmps4, List.size_toArray, List.length_cons, List.length_nil, Nat.reduceAdd, Nat.reduceSub, Array.replicate_succ, Array.replicate_zero, List.push_toArray, List.append_toArray, List.nil_append, List.cons_append]
  go_wp2_with fail
  obtain ⟨W1, hW1⟩ : ∃ W1, (World.alloc (World.alloc (World.alloc (World.alloc (World.alloc (World.alloc (World.alloc (World.alloc (World.alloc (World.alloc (World.alloc w (.cells #[.bool false] 4)) (.cells #[.int .u8 16] 5)) (.cells #[.int .u8 255] 5)) (.cells #[] 5)) (.cells #[] 5)) (.cells #[.int .u8 51, .int .u8 0, .int .u8 0, .int .u8 16] 5)) (.cells #[.int .u8 38, .int .u8 1, .int .u8 131] 5)) (.cells #[.int .u8 1] 5)) (.cells #[.slice (some ⟨w.heap.size + 1, 0, none⟩) 1 1, .slice (some ⟨w.heap.size + 1 + 1, 0, none⟩) 1 1, .slice (some ⟨w.heap.size + 1 + 1 + 1, 0, none⟩) 0 0, .slice (some ⟨w.heap.size + 1 + 1 + 1 + 1, 0, none⟩) 0 0, .slice (some ⟨w.heap.size + 1 + 1 + 1 + 1 + 1, 0, none⟩) 4 4, .slice (some ⟨w.heap.size + 1 + 1 + 1 + 1 + 1 + 1, 0, none⟩) 3 3, .slice (some ⟨w.heap.size + 1 + 1 + 1 + 1 + 1 + 1 + 1, 0, none⟩) 1 1] 22)) (.cells #[.int .i64 0, .int .i64 0, .int .i64 0, .int .i64 1, .int .i64 0, .int .i64 0, .int .i64 (-1)] 3)) (.cells #[.int .i64 10, .int .i64 11, .int .i64 10, .int .i64 1, .int .i64 13, .int .i64 12, .int .i64 1] 3)) = W1 := ⟨_, rfl⟩
  have hW : W1 = allocs w (objs w) := hW1.symm
  have hB1 : Below w.heap.size w W1 := by rw [hW]; exact (allocs_below _ _).1
  have hz1 : W1.heap.size = w.heap.size + 11 := by rw [hW]; exact (allocs_below _ _).2
  have b0 : Blk W1 w.heap.size 4 [.bool false] := by rw [hW]; exact allocs_get (objs w) w 0 _ rfl
  have hq := asked w
  unfold Asked at hq
  rw [← hW] at hq
  have Hq := Lib.hid hq
  rw [hW1]
  clear hW1 hW hq
  have hT1 := hT.grow hB1
  have hsn := seq_not_nil
  go_loopw [4] (fun i wr => ∃ k : Nat, i = .int .i64 k ∧ k ≤ 7 ∧ Below W1.heap.size W1 wr) (fun i _ => 7 - (intOf i).toNat)
  case atStart => exact ⟨0, rfl, by omega, Below.refl _ _⟩
  case round =>
    obtain ⟨k, rfl, hk, hb⟩ := hrel
    have hzr := hb.size
    have hTr := hT1.grow hb
    by_cases hlt : k < 7
    · obtain ⟨n, A, l, x, y, q1, q2, q3, q4, q5, q6, q7, q8⟩ := Hq.out k hlt
      have hI : (k : Int) < 7 := by omega
      have p1 := (hb.cell (p := ⟨w.heap.size + 1 + 1 + 1 + 1 + 1 + 1 + 1 + 1, k, none⟩) (by simp; omega)).trans q1
      have p2 := (hb.cell (p := ⟨w.heap.size + 1 + 1 + 1 + 1 + 1 + 1 + 1 + 1 + 1, k, none⟩) (by simp; omega)).trans q4
      have hd : ∀ W, Below wr.heap.size wr W → wr.heap.size ≤ W.heap.size → Calls Tryd.prog 16 #[.slice A n n, .int .i64 x] W fun e w' => e = .returned (.tuple #[.agg #[.int .i64 0, .int .i64 0, .int .i64 0, .int .i32 0, .int .i64 0], .int .i64 0, .int .i64 y]) ∧ Below W.heap.size W w' := by
        intro W hW hz
        have h := decode_any A n n l x W (hTr.grow hW) ((q2.below (hb.trans (hW.mono hzr))).more (by omega)) (Nat.le_refl _) (by omega) (by omega) (by omega)
        rw [q6] at h
        exact h
      have p3 := (hb.cell (p := ⟨w.heap.size + 1 + 1 + 1 + 1 + 1 + 1 + 1 + 1 + 1 + 1, k, none⟩) (by simp; omega)).trans q5
      clear q1 q2 q4 q5 q6
      go_wp2_with fail
      refine wp_region_swap (ops' := reg7) (by kernel_rfl) (region7 _ _ _ _ k n A x y _ _ _ _ _ _ _ _ _ _ _ _ _ _ _ _ _ _ _ _ _ _ _ _ _ _ _ _ _ _ _ _ _ _ _ _ _ _ _ _ _ _ _ _ _ _ _ _ _ _ _ _ _ _ _ _ _ _ _ _ _ _ _ _ _ _ _ _ _ _ _ _ _ _ _ _ _ _ _ _ _ _ _ _ _ _ _ _ _ _ wr _ hlt (by omega) (by omega) p1 p2 (Lib.hid hd) ?_)
      intro g W' v30 v31 v32 v33 v34 v35 v36 v37 v38 v39 v40 v41 v42 v43 v44 hg bG hb'
      have p3' := (hb'.cell (p := ⟨w.heap.size + 1 + 1 + 1 + 1 + 1 + 1 + 1 + 1 + 1 + 1, k, none⟩) (by simp; omega)).trans p3
      have g0 := bG.cell 0
      have g1 := bG.cell 1
      have g2 := bG.cell 2
      have g3 := bG.cell 3
      have g4 := bG.cell 4
      simp only [List.getElem?_cons_zero, List.getElem?_cons_succ] at g0 g1 g2 g3 g4
      go_wp2_with fail
      go_roundw
      case rel => exact ⟨k + 1, by go_num, by omega, hb.trans (hb'.mono hzr)⟩
      case measure => simp [intOf]; omega
    · obtain rfl : k = 7 := by omega
      have s0 : Sl (wr.alloc (.cells #[.int .u8 65, .int .u8 253, .int .u8 255] 5)) (wr.alloc (.cells #[.int .u8 65, .int .u8 253, .int .u8 255] 5)).heap.size 1 (some ⟨wr.heap.size, 0, none⟩) 3 (bs [65, 253, 255]) := (sl_new wr (bs [65, 253, 255]) 1 3 rfl 5).more (by simp)
      have hd := decode_any (some ⟨wr.heap.size, 0, none⟩) 3 3 [65, 253, 255] 0 _ (hTr.alloc _) s0 (Nat.le_refl _) (by omega) (by omega) (by omega)
      rw [show decR [65, 253, 255] 0 = (⟨40, 0, 0, -3, 2⟩, 3, 0) from by kernel_rfl] at hd
      have Hd := Lib.hid hd
      clear hd s0
      go_wp2_with (first
        | (go_at_call 16; refine (Hd.out).mono ?_; rintro e w2 ⟨rfl, hb2⟩)
        | (go_at_call 20; refine (dall_make _ _ _ _ _).mono ?_; rintro e w3 ⟨rfl, rfl⟩)
        | fail)
      have hz2 := hb2.size
      rw [World.size_alloc] at hz2
      have hB2 : Below wr.heap.size wr w2 := ((Below.refl _ wr).alloc (Nat.le_refl _) _).trans (hb2.mono (by simp))
      obtain ⟨W0, hW0⟩ : ∃ W0, (World.alloc (World.alloc (World.alloc (World.alloc (World.alloc w2 (.cells #[.int .i64 40, .int .i64 0, .int .i64 0, .int .i32 (-3), .int .i64 2] 25)) (.cells #[.int .u8 0, .int .u8 0, .int .u8 255] 5)) (.cells #[.slice (some ⟨w2.heap.size + 1, 0, none⟩) 3 3] 22)) (.cells #[.int .i64 0] 3)) (.cells #[.int .i64 0] 3)) = W0 := ⟨_, rfl⟩
      have hA : W0 = allocs w2 [(.cells #[.int .i64 40, .int .i64 0, .int .i64 0, .int .i32 (-3), .int .i64 2] 25), (.cells #[.int .u8 0, .int .u8 0, .int .u8 255] 5), (.cells #[.slice (some ⟨w2.heap.size + 1, 0, none⟩) 3 3] 22), (.cells #[.int .i64 0] 3), (.cells #[.int .i64 0] 3)] := hW0.symm
      have hBA : Below w2.heap.size w2 W0 := by rw [hA]; exact (allocs_below _ _).1
      have hz0 : W0.heap.size = w2.heap.size + 5 := by rw [hA]; exact (allocs_below _ _).2
      have x8 : Blk W0 w2.heap.size 25 [.int .i64 40, .int .i64 0, .int .i64 0, .int .i32 (-3), .int .i64 2] := by rw [hA]; exact allocs_get _ w2 0 _ rfl
      have l9 : Blk W0 (w2.heap.size + 1) 5 (bs L3) := by rw [hA]; exact allocs_get _ w2 1 _ rfl
      have d3 : Blk W0 (w2.heap.size + 1 + 1) 22 [.slice (some ⟨w2.heap.size + 1, 0, none⟩) 3 3] := by rw [hA]; exact allocs_get _ w2 2 _ rfl
      have d4 : Blk W0 (w2.heap.size + 1 + 1 + 1) 3 [.int .i64 0] := by rw [hA]; exact allocs_get _ w2 3 _ rfl
      have k0 : Blk W0 (w2.heap.size + 1 + 1 + 1 + 1) 3 [.int .i64 (([] : List Stp).length : Int)] := by rw [hA]; exact allocs_get _ w2 4 _ rfl
      rw [hW0]
      clear hW0 hA
      have hB0 : Below w.heap.size w W0 := ((hB1.trans (hb.mono (by omega))).trans (hB2.mono (by omega))).trans (hBA.mono (by omega))
      have r0 : Blk W0 w.heap.size 4 [.bool false] := ((b0.below hb (by omega)).below hB2 (by omega)).below hBA (by omega)
      have hT0 := hT.grow hB0
      have hg0 := hT.lt
      have s0 : Sl W0 (w2.heap.size + 1 + 1 + 1 + 1) 1 (some ⟨w2.heap.size + 1, 0, none⟩) 3 (bs L3) := ⟨rfl, fun _ => ⟨_, 0, rfl, by omega, l9.has⟩⟩
      refine (wpIn_wide (n := 5)).1 ?_
      refine wpIn_rangeFunc_ownH (F := Fence.wide) (n := 5) (α := Stp) rfl (by omega) (gf := 53) (lb := #[.pointer (some ⟨w2.heap.size + 1 + 1 + 1, 0, none⟩), .pointer (some ⟨w2.heap.size + 1 + 1, 0, none⟩)]) rfl trivial (enters_of Tryd.func53 (by kernel_rfl) rfl)
        (dall_stops 4 (w2.heap.size + 1 + 1 + 1) (w2.heap.size + 1 + 1) (w2.heap.size + 1 + 1 + 1 + 1) (by omega) _ 3 3 L3 0 W0 (Nat.le_refl _) (by omega) (by omega) (by omega) (by omega) (d4.cell 0) (by omega) (d3.cell 0) (by omega) hT0 (by omega) s0)
        belowK_t (belowK_b (by omega)) (Below.refl _ _) (fun _ => rfl) (Mid (w2.heap.size + 1 + 1 + 1 + 1) W0) Gone (mid_own _ W0 (by omega)) (gone_own _)
        ⟨k0, Below.refl _ _⟩ (AtX w.heap.size (w2.heap.size + 1 + 1 + 1 + 1)) (atX_own _ _ _) ?assign ?body ?done ?stop
      case assign =>
        intro lp pre x W K hi hK
        have hzW := hi.2.size
        dsimp only [Stp.encs, Stp.val]
        gi_wp2_with fail
        exact hK _ _ ((KeepsOthers.alloc _ _).from _) ((Below.refl _ W).alloc (by omega) _) ((mid_own _ W0 (by omega)).alloc _ hi) ⟨W.heap.size, _, _, _, _, _, _, _, _, _, _, _, _, _, _, _, _, _, _, _, _, _, _, _, _, _, _, _, _, _, _, _, _, _, _, _, _, _, _, _, _, _, _, _, _, _, _, _, _, _, _, _, _, _, _, _, _, _, _, _, _, _, _, _, _, _, _, _, _, _, _, _, _, _, _, _, _, _, _, _, _, _, _, _, _, _, _, _, _, _, _, _, _, by omega, Blk.new W _ _, rfl⟩
      case body =>
        intro lp pre x a' W hlp hr hM hX hlt
        exact decodeAll.wpIn_swap (by kernel_rfl) (round_any lp w.heap.size _ W0 W pre x a' r0 (by omega) (by omega) hM hX)
      case stop =>
        rintro D cd pre W hD hS ⟨_, hno⟩ hK
        exact absurd hS hno
      case done =>
        rintro D xs W hD ⟨e, hrun, he⟩ ⟨q0, hbW⟩ hK
        have hxl : (xs.length : Int) = 2 := by
          obtain ⟨h1, h2⟩ := l3_run hrun (by omega) (by omega)
          have h3 := (hrun.len).2
          rcases (show (xs.length : Int) = 0 ∨ (xs.length : Int) = 1 ∨ (xs.length : Int) = 2 by omega) with h | h | h
          · rw [show e = 0 by omega, l3_0] at he; simp at he
          · rw [show e = 1 by omega, l3_1] at he; simp at he
          · exact h
        rw [hxl] at q0
        have X8 := x8.below hbW (by omega)
        have R0 := r0.below hbW (by omega)
        have hTW := hT0.below hbW (by omega)
        have y0 := X8.cell 0
        have y1 := X8.cell 1
        have y2 := X8.cell 2
        have y3 := X8.cell 3
        have y4 := X8.cell 4
        have y5 := q0.cell 0
        have y6 := R0.cell 0
        have y7 := R0.free 0
        simp only [List.getElem?_cons_zero, List.getElem?_cons_succ] at y0 y1 y2 y3 y4 y5 y6
        have hDW := (Array.getElem?_eq_some_iff.1 hK).1
        have HK := Lib.hid hK
        clear hK he hxl
        have zR := R0.lt
        dsimp only
        go_wp2_with (go_at_call 19; refine (known7_any _ hTW).mono ?_; rintro e w4 ⟨rfl, hb4⟩; obtain ⟨c4, f4⟩ := bcell hb4; have hz4 := hb4.size; have zR4 : w.heap.size < w4.heap.size := (by omega))
        have hR4 : Blk (w4.setCell ⟨w.heap.size, 0, none⟩ (.bool true)) w.heap.size 4 [.bool true] := (R0.below hb4 zR).set_ 0 _
        have hB4 : Below w.heap.size w (w4.setCell ⟨w.heap.size, 0, none⟩ (.bool true)) := (((hB0.trans (hbW.mono (by omega))).trans (hb4.mono (by omega)))).setCell (p := ⟨w.heap.size, 0, none⟩) (Nat.le_refl _) _
        have hK4 : (w4.setCell ⟨w.heap.size, 0, none⟩ (.bool true)).heap[D]? = some (.deferred (some [])) := (KeepsOthers.setCell _ _ _).same _ _ ((hb4.block D hDW).trans HK.out) rfl
        refine ⟨by simp, .inl ⟨_, _, rfl, run_takeDeferred hK4, ?_⟩⟩
        have hp : Below (w.heap.size + 1) (w4.setCell ⟨w.heap.size, 0, none⟩ (.bool true)) ((w4.setCell ⟨w.heap.size, 0, none⟩ (.bool true)).putObj D (.deferred none)) := (Below.refl _ _).grown (grownBy_putObj' _ D _) (by rw [World.size_setCell]; omega) (fun k e => by cases e; omega)
        refine ⟨.bool true, ?_, rfl, hB4.trans (hp.mono (by omega))⟩
        have hc := (hR4.below hp (by omega)).cell 0
        simp only [List.getElem?_cons_zero] at hc
        simp [results, Tryd.results4, go_sem, hc]
end Go.Proofs.YthcjnkakfpmpbaaDoor.decodeNumbers
