/- Law DecodeDecodes: any bytes, any place: decoded as the document says; the bytes stay. Conditions: none. -/
import Derived.Test.YthcjnkakfpmpbaaDoorD18
import Derived.Test.YthcjnkakfpmpbaaDoorD12
import Derived.Test.YthcjnkakfpmpbaaDoorA8
namespace Go.Proofs.YthcjnkakfpmpbaaDoor.decodeDecodes
open Go.RowKit
set_option linter.unusedVariables false
set_option linter.unusedSimpArgs false

theorem slB {w w' : World} {A : Option Addr} {n : Nat} {cs : List Value} (hs : Sl w w.heap.size 1 A n cs) (hb : Below w.heap.size w w') : Sl w' w'.heap.size 1 A n cs := (hs.below hb).more hb.size
theorem slA {w w' : World} {o : Obj} {A : Option Addr} {n : Nat} {cs : List Value} (hs : Sl w w.heap.size 1 A n cs) (hb : Below (w.alloc o).heap.size (w.alloc o) w') : Sl w' w'.heap.size 1 A n cs :=
  slB ((hs.alloc (Nat.le_refl _) o).more (by simp)) hb
set_option maxRecDepth 20000 in
set_option maxHeartbeats 2000000 in
theorem core (A : Option Addr) (n c : Nat) (l : List UInt8) (at_ jo ja jb jn jf N E : Int) (w : World) (hT : TabIs 0 w) (hs : Sl w w.heap.size 1 A n (bs l)) (hnc : n ≤ c) (hn : (n : Int) ≤ 140737488351232)
    (Hro : Hid (∀ w, Sl w w.heap.size 1 A n (bs l) → Calls Tryd.prog 15 #[.slice A n c, .int .u8 165] w (GivesRoom w 5 n (bs (l ++ List.replicate 80 165)))))
    (Hin : Hid (∀ w F, Sl w w.heap.size 1 F (n + 80) (bs (l ++ List.replicate 80 165)) → Sl w w.heap.size 1 A n (bs l) → Calls Tryd.prog 18 #[.slice F (n + 80) (n + 80), .slice A n c, .int .u8 165] w fun e w' => e = .returned (.bool true) ∧ ∃ k, w' = w.drewN k))
    (Hd : Hid (∀ w F, TabIs 0 w → Sl w w.heap.size 1 F n (bs l) → Calls Tryd.prog 16 #[.slice F n (n + 80), .int .i64 at_] w fun e w' => e = .returned (.tuple #[.agg #[.int .i64 jo, .int .i64 ja, .int .i64 jb, .int .i32 jn, .int .i64 jf], .int .i64 N, .int .i64 E]) ∧ Below w.heap.size w w'))
    (Hr : Hid (∀ w, Sl w w.heap.size 1 A n (bs l) → Calls Tryd.prog 17 #[.slice A n c, .int .i64 at_] w fun e w' => e = .returned (.tuple #[.agg #[.int .i64 jo, .int .i64 ja, .int .i64 jb, .int .i32 jn, .int .i64 jf], .int .i64 N, .int .i64 E]) ∧ Below w.heap.size w w')) :
    Calls Tryd.prog 3 #[.slice A n c, .int .i64 at_] w fun e w' => e = .returned (.bool true) ∧ Below w.heap.size w w' := by
  have hl : l.length = n := by have := hs.len; rw [bs_length] at this; omega
  have HL := Lib.hid hl
  have S1 := Lib.hid hs
  clear hl hs
  go_enter Tryd.func3, Tryd.ntmps3
  go_wp2_with (first
    | (go_at_call 15; refine (Hro.out _ S1.out).mono ?_; rintro e w1 ⟨rfl, hblk, hb1⟩; have hT1 := hT.grow hb1; have hz1 := hb1.size; have hs1 := slB S1.out hb1; have hfu := hblk.sl (sz := 1) (n := n + 80) (by rw [bs_length, List.length_append, List.length_replicate, HL.out]; omega); have hfr := (hfu.front (k := n) (by omega)); rw [Nat.mul_one, bs_take, List.take_left' HL.out] at hfr)
    | (go_at_call 16; refine (Hd.out _ _ hT1 hfr).mono ?_; rintro e w2 ⟨rfl, hb2⟩; have hT2 := hT1.grow hb2; have hz2 := hb2.size; have hs2 := slB hs1 hb2; have hf2 := slB hfu hb2; have hB2 : Below w.heap.size w w2 := hb1.trans (hb2.mono hz1))
    | (go_at_call 17; refine (Hr.out _ ((hs2.alloc (Nat.le_refl _) _).more (by simp))).mono ?_; rintro e w3 ⟨rfl, hb3⟩; have hT3 := (hT2.alloc _).grow hb3; have hs3 := slA hs2 hb3; have hf3 := slA hf2 hb3; have hB3 : Below w.heap.size w w3 := (hB2.alloc hB2.size _).trans (hb3.mono (by have := hB2.size; simp; omega)); have hzw : w2.heap.size < w3.heap.size := (by have := hb3.size; simp at this; omega); have hX : Blk w3 w2.heap.size 25 [.int .i64 jo, .int .i64 ja, .int .i64 jb, .int .i32 jn, .int .i64 jf] := (Blk.new w2 25 [.int .i64 jo, .int .i64 ja, .int .i64 jb, .int .i32 jn, .int .i64 jf]).below hb3 (by simp); have u0 := hX.cell 0; have u1 := hX.cell 1; have u2 := hX.cell 2; have u3 := hX.cell 3; have u4 := hX.cell 4; simp only [List.getElem?_cons_zero, List.getElem?_cons_succ] at u0 u1 u2 u3 u4)
    | (go_at_call 18; refine (Hin.out _ _ ((hf3.alloc (Nat.le_refl _) _).more (by simp)) ((hs3.alloc (Nat.le_refl _) _).more (by simp))).mono ?_; rintro e w4 ⟨rfl, k4, rfl⟩; have hT4 := (hT3.alloc (.cells #[.int .i64 jo, .int .i64 ja, .int .i64 jb, .int .i32 jn, .int .i64 jf] 25)).drewN k4)
    | (go_at_call 19; refine (known7_any _ hT4).mono ?_; rintro e w5 ⟨rfl, hb5⟩))
  go_ret
  exact ⟨rfl, (below_drewN (hB3.alloc hB3.size _) _).trans (hb5.mono (by show w.heap.size ≤ (w3.alloc _).heap.size; have := hB3.size; simp; omega))⟩
theorem walk (w : World) (A : Option Addr) (n c : Nat) (l : List UInt8) (hs : Sl w w.heap.size 1 A n (bs l)) (hnc : n ≤ c) (hn : n * 1 ≤ 140737488351232) (at_ : Int) (hat : -9223372036854775808 ≤ at_ ∧ at_ ≤ 9223372036854775807) (hT : TabIs 0 w) :
    Calls Tryd.prog 3 #[.slice A n c, .int .i64 at_] w fun e w' => e = .returned (.bool true) ∧ Below w.heap.size w w' := by
  have hd := fun w F hT hs => decode_any F n (n + 80) l at_ w hT hs (by omega) (by omega) hat.1 hat.2
  have hr := fun w hs => refDecode_any A n c l at_ w hs hnc (by omega)
  obtain ⟨r, hrr⟩ : ∃ r, r = decR l at_ := ⟨_, rfl⟩
  rw [← hrr] at hd hr
  obtain ⟨⟨jo, ja, jb, jn, jf⟩, N, E⟩ := r
  exact core A n c l at_ jo ja jb jn jf N E w hT hs hnc (by omega) (Lib.hid fun w hs => roomy_u8 A n c l 165 w hs (by omega)) (Lib.hid fun w F hf hs => intact_u8 F A n (n + 80) c l 165 w hf hs (Nat.le_refl _) (by omega)) (Lib.hid hd) (Lib.hid hr)
end Go.Proofs.YthcjnkakfpmpbaaDoor.decodeDecodes
