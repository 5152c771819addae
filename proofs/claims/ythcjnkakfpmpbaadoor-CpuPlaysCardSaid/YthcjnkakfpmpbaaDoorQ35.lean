import Derived.Test.YthcjnkakfpmpbaaDoorQ31
namespace Go.Proofs.YthcjnkakfpmpbaaDoor
open Go.RowKit
set_option linter.unusedVariables false
set_option linter.unusedSimpArgs false
def GrowP (W : World) (g base F : Nat) (cells : List Value) (A : Option Addr) (c n : Nat) (xs : List Value) (x : Int) (w' : World) : Prop :=
  PF W g (Value.ownBlock (.slice A n c)) (Value.ownBlock (.slice A n c)) w' ∧ ∃ A' c',Blk w' g 119 (cells.set F (.slice A' (n + 1) c')) ∧ Row w' base 21 (.slice A' (n + 1) c') (n + 1) (xs ++ [.int .i32 x]) ∧
    (∀ k,Value.ownBlock (.slice A' (n + 1) c') = some k → Value.ownBlock (.slice A n c) = some k ∨ W.heap.size ≤ k)
theorem GrowP.far {W w' : World} {g base F : Nat} {cells : List Value} {A : Option Addr} {c n : Nat} {xs : List Value} {x : Int} (h : GrowP W g base F cells A c n xs x w') {X : Nat} (hX : X ≠ g) (hA : ∀ k,Value.ownBlock (.slice A n c) = some k → k ≠ X) (hW : X < W.heap.size) {w : World} (hw : PF w g (Value.ownBlock (.slice A n c)) (Value.ownBlock (.slice A n c)) W) (hXw : w.heap.size ≤ X) (vs : List Value) (o : Nat) :
    GrowP w g base F cells A c n xs x (w'.setCells X o vs) := by
  obtain ⟨hp,A',c',h1,h2,h3⟩ := h
  have h4 : ∀ k,Value.ownBlock (.slice A' (n + 1) c') = some k → k ≠ X := fun k e => by
    rcases h3 k e with h | h
    · exact hA k h
    · omega
  refine ⟨PF.farCells hXw vs o w' ⟨hp.os.trans hw.os,hp.tape.trans hw.tape,hp.output.trans hw.output,Nat.le_trans hw.size hp.size,fun k hk a b d => (hp.block k (Nat.lt_of_lt_of_le hk hw.size) a b d).trans (hw.block k hk a b d)⟩,A',c',?_,?_,fun k e => (h3 k e).imp id fun h => Nat.le_trans hw.size h⟩
  · have : ∀ (vs : List Value) (o : Nat) (w' : World),Blk w' g 119 (cells.set F (.slice A' (n + 1) c')) → Blk (w'.setCells X o vs) g 119 (cells.set F (.slice A' (n + 1) c')) := by
      intro vs
      induction vs with
      | nil => intro o w' h; exact h
      | cons v r ih => intro o w' h; exact ih (o + 1) _ (h.other (p := ⟨X,o,none⟩) (by show g ≠ X; exact Ne.symm hX))
    exact this vs o w' h1
  · have : ∀ (vs : List Value) (o : Nat) (w' : World),Row w' base 21 (.slice A' (n + 1) c') (n + 1) (xs ++ [.int .i32 x]) → Row (w'.setCells X o vs) base 21 (.slice A' (n + 1) c') (n + 1) (xs ++ [.int .i32 x]) := by
      intro vs
      induction vs with
      | nil => intro o w' h; exact h
      | cons v r ih => intro o w' h; exact ih (o + 1) _ (h.keep fun k e => Below.heap_setCell w' _ _ k (by show k ≠ X; exact h4 k e))
    exact this vs o w' h2
set_option maxRecDepth 20000 in
set_option maxHeartbeats 4000000 in
theorem one_printR (op b n' f : Int) (a : Nat) (x : Int) (w : World) (g base : Nat) (cells : List Value) (A : Option Addr) (c n : Nat) (xs : List Value) (hBk : Blk w g 119 cells) (hA : cells[269]? = some (.slice A n c)) (hrow : Row w base 21 (.slice A n c) n xs) (hgo : Value.ownBlock (.slice A n c) ≠ some g)
    (hT : TabIs 0 w) (hbw : base ≤ w.heap.size) (ha : a < 8) (hx : cells[a]? = some (.int .i32 x)) (hnm : opName op = [112,114,105,110,116]) (hl : n < 4096) :
    Calls Tryd.prog 59 #[.pointer (some ⟨g,0,none⟩),.agg #[.int .i64 op,.int .i64 a,.int .i64 b,.int .i32 n',.int .i64 f]] w fun e w' => e = .returned (.agg #[.int .i64 0,.int .i64 0,.int .u32 0]) ∧ GrowP w g base 269 cells A c n xs x w' := by
  have hg := hBk.lt
  have hlI : (n : Int) < 4096 := by omega
  have Hn := Lib.hid (fun w hT => hnm ▸ cname_any op w hT)
  have HB := Lib.hid hBk
  have HA := Lib.hid hA
  have HR := Lib.hid hrow
  have HO := Lib.hid hgo
  have Hx := Lib.hid hx
  clear hBk hA hrow hgo hx
  have hB0 : Below w.heap.size w ((w.alloc (.cells #[.int .i64 op,.int .i64 a,.int .i64 b,.int .i32 n',.int .i64 f] 25)).alloc (.cells #[.int .i64 0,.int .i64 0,.int .u32 0] 56)) := ((Below.refl _ _).alloc (Nat.le_refl _) _).alloc (by simp) _
  have hX0 : Blk ((w.alloc (.cells #[.int .i64 op,.int .i64 a,.int .i64 b,.int .i32 n',.int .i64 f] 25)).alloc (.cells #[.int .i64 0,.int .i64 0,.int .u32 0] 56)) (w.heap.size + 1) 56 [.int .i64 0,.int .i64 0,.int .u32 0] := by
    have := Blk.new (w.alloc (.cells #[.int .i64 op,.int .i64 a,.int .i64 b,.int .i32 n',.int .i64 f] 25)) 56 [.int .i64 0,.int .i64 0,.int .u32 0]
    rw [World.size_alloc] at this
    exact this
  go_enter Tryd.func59,Tryd.ntmps59
  go_wp2_with fail
  go_quiet (fail)
  have hX1 : Blk (((w.alloc (.cells #[.int .i64 op,.int .i64 a,.int .i64 b,.int .i32 n',.int .i64 f] 25)).alloc (.cells #[.int .i64 0,.int .i64 0,.int .u32 0] 56)).drewN nq) (w.heap.size + 1) 56 [.int .i64 0,.int .i64 0,.int .u32 0] := hX0
  have hB1 : Below w.heap.size w (((w.alloc (.cells #[.int .i64 op,.int .i64 a,.int .i64 b,.int .i32 n',.int .i64 f] 25)).alloc (.cells #[.int .i64 0,.int .i64 0,.int .u32 0] 56)).drewN nq) := below_drewN hB0 nq
  go_wp2_with (first
    | (go_at_call 82; refine (Hn.out _ (((hT.alloc _).alloc _).drewN nq)).mono ?_; rintro e w2 ⟨rfl,hb2⟩; have hB2 := hB1.trans (hb2.mono hB1.size); have hX2 := hX1.below hb2 hX1.lt; have hM2 := HB.out.below hB2 hg; have q2 := (hM2.cell 269).trans HA.out; have hz2 := hM2.lt; have hX2l := hX2.lt)
    | fail)
  have hs2 := hB2.size
  have hR2 : Row w2 base 21 (.slice A n c) n xs := HR.out.keep fun k e => hB2.block k (HR.out.lt k e).2
  refine wp_region_swap (ops' := oneR6) (by kernel_rfl) (one_r6 g a n c base A xs cells x _ _ _ _ _ _ _ _ _ _ _ _ _ _ _ _ _ _ _ _ _ _ _ _ _ _ _ _ _ _ _ _ _ _ _ _ _ _ _ _ _ _ _ _ _ _ _ _ _ _ _ _ _ _ _ _ _ _ _ _ _ _ _ _ _ _ _ _ _ _ _ _ _ _ _ _ _ _ _ _ _ _ _ _ _ _ _ _ _ _ _ _ _ _ _ _ _ _ _ _ _ _ _ _ _ _ _ _ _ _ _ _ _ _ _ _ _ _ _ _ _ _ _ _ _ _ _ _ _ _ _ _ _ _ _ _ _ ha hM2 HA.out Hx.out hR2 (by omega) (by omega) HO.out ?_)
  intro A' c' w6 Ua Ub Uc Ud Ue Uf Ug Uh Ui Uj Uk Ul hrow6 hg6 ho6
  have hX6 : Blk w6 (w.heap.size + 1) 56 [.int .i64 0,.int .i64 0,.int .u32 0] := Blk.grown ((show Blk w2.drew (w.heap.size + 1) 56 _ from hX2).alloc _) hg6 (fun e => by have := (HR.out.lt _ e.symm).2; omega)
  have hB6 : Blk w6 g 119 cells := Blk.grown ((show Blk w2.drew g 119 cells from hM2).alloc _) hg6 (fun e => HO.out e.symm)
  have hng : Value.ownBlock (.slice A' (n + 1) c') ≠ some g := fun e => by
    rcases ho6 g e with h | h
    · exact HO.out h
    · simp at h; omega
  have ho7 : ∀ k,Value.ownBlock (.slice A' (n + 1) c') = some k → (Value.ownBlock (.slice A n c)) = some k ∨ w.heap.size + 2 ≤ k := fun k e => (ho6 k e).imp id (fun h => by simp at h; omega)
  have hX7 := fun u => hX6.other (p := ⟨g,269,none⟩) (u := u) (by show w.heap.size + 1 ≠ g; omega)
  go_wp2_with (first
    | ((with_reducible show wpList _ _ _ (Oper.mk none (Op.store _ (Operand.tmp 4) (Operand.tmp 136)) _ _ _ _ :: _) _ _); refine wpList_st3 (hX7 _) rfl 56 (.tmp 4) (.tmp 136) (.int .i64 0) (.int .i64 0) (.int .u32 0) rfl (by kernel_rfl) (by kernel_rfl) (by simp [Value.oneCell']) (by kernel_rfl) ?_; rintro ⟨z0,z1,z2⟩)
    | fail)
  refine bodyPost_ret (v := .agg #[.int .i64 0,.int .i64 0,.int .u32 0]) (by simp [results,Tryd.results59,go_sem,z0,z1,z2]) rfl ⟨rfl,?_⟩
  have hPA : PF w g (Value.ownBlock (.slice A n c)) (Value.ownBlock (.slice A n c)) (w2.drew.alloc (.cells #[.int .i32 x] 21)) := ((PF.refl w g _ _).then_ hB2).then_ (Below.alloc (show Below w2.heap.size w2 w2.drew from below_drewN (Below.refl _ _) 1) (Nat.le_refl _) _)
  have hG : GrowP w g base 269 cells A c n xs x (w6.setCell ⟨g,269,none⟩ (.slice A' (n + 1) c')) := by
    refine ⟨⟨hg6.os.trans hPA.os,hg6.tape.trans hPA.tape,hg6.output.trans hPA.output,by have := hg6.size; have := hPA.size; simp at *; omega,fun k hk h1 h2 h3 => ?_⟩,A',c',hB6.set_ 269 _,hrow6.keep fun k e => Below.heap_setCell w6 _ _ k (fun h => hng (e.trans (congrArg some h))),fun k e => (ho7 k e).imp id fun h => by omega⟩
    exact (Below.heap_setCell w6 _ _ k h1).trans ((hg6.block k (by simp; omega) (fun e => h2 e.symm)).trans (hPA.block k hk h1 h2 h3))
  obtain ⟨hp,A1,c1,g1,g2,g3⟩ := hG
  have hne : ∀ k,Value.ownBlock (.slice A' (n + 1) c') = some k → k ≠ w.heap.size + 1 := fun k e => by
    rcases ho7 k e with h | h
    · have := (HR.out.lt k h).2; omega
    · omega
  refine ⟨PF.farCells (by omega) _ _ _ hp,A',c',?_,?_,fun k e => (ho7 k e).imp id fun h => by omega⟩
  · exact (((hB6.set_ 269 _).other (p := ⟨w.heap.size + 1,0,none⟩) (by show g ≠ w.heap.size + 1; omega)).other (p := ⟨w.heap.size + 1,0 + 1,none⟩) (by show g ≠ w.heap.size + 1; omega)).other (p := ⟨w.heap.size + 1,0 + 1 + 1,none⟩) (by show g ≠ w.heap.size + 1; omega)
  · exact (((hrow6.keep fun k e => Below.heap_setCell w6 _ _ k (fun h => hng (e.trans (congrArg some h)))).keep fun k e => Below.heap_setCell _ ⟨w.heap.size + 1,0,none⟩ _ k (hne k e)).keep fun k e => Below.heap_setCell _ ⟨w.heap.size + 1,0 + 1,none⟩ _ k (hne k e)).keep fun k e => Below.heap_setCell _ ⟨w.heap.size + 1,0 + 1 + 1,none⟩ _ k (hne k e)
set_option maxRecDepth 20000 in
set_option maxHeartbeats 4000000 in
theorem one_pushR (op b n' f : Int) (a : Nat) (x : Int) (w : World) (g base : Nat) (cells : List Value) (A : Option Addr) (c n : Nat) (xs : List Value) (hBk : Blk w g 119 cells) (hA : cells[268]? = some (.slice A n c)) (hrow : Row w base 21 (.slice A n c) n xs) (hgo : Value.ownBlock (.slice A n c) ≠ some g)
    (hT : TabIs 0 w) (hbw : base ≤ w.heap.size) (ha : a < 8) (hx : cells[a]? = some (.int .i32 x)) (hnm : opName op = [112,117,115,104]) (hl : n < 256) :
    Calls Tryd.prog 59 #[.pointer (some ⟨g,0,none⟩),.agg #[.int .i64 op,.int .i64 a,.int .i64 b,.int .i32 n',.int .i64 f]] w fun e w' => e = .returned (.agg #[.int .i64 0,.int .i64 0,.int .u32 0]) ∧ GrowP w g base 268 cells A c n xs x w' := by
  have hg := hBk.lt
  have hlI : (n : Int) < 256 := by omega
  have Hn := Lib.hid (fun w hT => hnm ▸ cname_any op w hT)
  have HB := Lib.hid hBk
  have HA := Lib.hid hA
  have HR := Lib.hid hrow
  have HO := Lib.hid hgo
  have Hx := Lib.hid hx
  clear hBk hA hrow hgo hx
  have hB0 : Below w.heap.size w ((w.alloc (.cells #[.int .i64 op,.int .i64 a,.int .i64 b,.int .i32 n',.int .i64 f] 25)).alloc (.cells #[.int .i64 0,.int .i64 0,.int .u32 0] 56)) := ((Below.refl _ _).alloc (Nat.le_refl _) _).alloc (by simp) _
  have hX0 : Blk ((w.alloc (.cells #[.int .i64 op,.int .i64 a,.int .i64 b,.int .i32 n',.int .i64 f] 25)).alloc (.cells #[.int .i64 0,.int .i64 0,.int .u32 0] 56)) (w.heap.size + 1) 56 [.int .i64 0,.int .i64 0,.int .u32 0] := by
    have := Blk.new (w.alloc (.cells #[.int .i64 op,.int .i64 a,.int .i64 b,.int .i32 n',.int .i64 f] 25)) 56 [.int .i64 0,.int .i64 0,.int .u32 0]
    rw [World.size_alloc] at this
    exact this
  go_enter Tryd.func59,Tryd.ntmps59
  go_wp2_with fail
  go_quiet (fail)
  have hX1 : Blk (((w.alloc (.cells #[.int .i64 op,.int .i64 a,.int .i64 b,.int .i32 n',.int .i64 f] 25)).alloc (.cells #[.int .i64 0,.int .i64 0,.int .u32 0] 56)).drewN nq) (w.heap.size + 1) 56 [.int .i64 0,.int .i64 0,.int .u32 0] := hX0
  have hB1 : Below w.heap.size w (((w.alloc (.cells #[.int .i64 op,.int .i64 a,.int .i64 b,.int .i32 n',.int .i64 f] 25)).alloc (.cells #[.int .i64 0,.int .i64 0,.int .u32 0] 56)).drewN nq) := below_drewN hB0 nq
  go_wp2_with (first
    | (go_at_call 82; refine (Hn.out _ (((hT.alloc _).alloc _).drewN nq)).mono ?_; rintro e w2 ⟨rfl,hb2⟩; have hB2 := hB1.trans (hb2.mono hB1.size); have hX2 := hX1.below hb2 hX1.lt; have hM2 := HB.out.below hB2 hg; have q2 := (hM2.cell 268).trans HA.out; have hz2 := hM2.lt; have hX2l := hX2.lt)
    | fail)
  have hs2 := hB2.size
  have hR2 : Row w2 base 21 (.slice A n c) n xs := HR.out.keep fun k e => hB2.block k (HR.out.lt k e).2
  refine wp_region_swap (ops' := oneR14) (by kernel_rfl) (one_r14 g a n c base A xs cells x _ _ _ _ _ _ _ _ _ _ _ _ _ _ _ _ _ _ _ _ _ _ _ _ _ _ _ _ _ _ _ _ _ _ _ _ _ _ _ _ _ _ _ _ _ _ _ _ _ _ _ _ _ _ _ _ _ _ _ _ _ _ _ _ _ _ _ _ _ _ _ _ _ _ _ _ _ _ _ _ _ _ _ _ _ _ _ _ _ _ _ _ _ _ _ _ _ _ _ _ _ _ _ _ _ _ _ _ _ _ _ _ _ _ _ _ _ _ _ _ _ _ _ _ _ _ _ _ _ _ _ _ _ _ _ _ _ ha hM2 HA.out Hx.out hR2 (by omega) (by omega) HO.out ?_)
  intro A' c' w6 Um Un Uo Up Uq Ur Us Ut Uu Uv Uw Ux hrow6 hg6 ho6
  have hX6 : Blk w6 (w.heap.size + 1) 56 [.int .i64 0,.int .i64 0,.int .u32 0] := Blk.grown ((show Blk w2.drew (w.heap.size + 1) 56 _ from hX2).alloc _) hg6 (fun e => by have := (HR.out.lt _ e.symm).2; omega)
  have hB6 : Blk w6 g 119 cells := Blk.grown ((show Blk w2.drew g 119 cells from hM2).alloc _) hg6 (fun e => HO.out e.symm)
  have hng : Value.ownBlock (.slice A' (n + 1) c') ≠ some g := fun e => by
    rcases ho6 g e with h | h
    · exact HO.out h
    · simp at h; omega
  have ho7 : ∀ k,Value.ownBlock (.slice A' (n + 1) c') = some k → (Value.ownBlock (.slice A n c)) = some k ∨ w.heap.size + 2 ≤ k := fun k e => (ho6 k e).imp id (fun h => by simp at h; omega)
  have hX7 := fun u => hX6.other (p := ⟨g,268,none⟩) (u := u) (by show w.heap.size + 1 ≠ g; omega)
  go_wp2_with (first
    | ((with_reducible show wpList _ _ _ (Oper.mk none (Op.store _ (Operand.tmp 4) (Operand.tmp 136)) _ _ _ _ :: _) _ _); refine wpList_st3 (hX7 _) rfl 56 (.tmp 4) (.tmp 136) (.int .i64 0) (.int .i64 0) (.int .u32 0) rfl (by kernel_rfl) (by kernel_rfl) (by simp [Value.oneCell']) (by kernel_rfl) ?_; rintro ⟨z0,z1,z2⟩)
    | fail)
  refine bodyPost_ret (v := .agg #[.int .i64 0,.int .i64 0,.int .u32 0]) (by simp [results,Tryd.results59,go_sem,z0,z1,z2]) rfl ⟨rfl,?_⟩
  have hPA : PF w g (Value.ownBlock (.slice A n c)) (Value.ownBlock (.slice A n c)) (w2.drew.alloc (.cells #[.int .i32 x] 21)) := ((PF.refl w g _ _).then_ hB2).then_ (Below.alloc (show Below w2.heap.size w2 w2.drew from below_drewN (Below.refl _ _) 1) (Nat.le_refl _) _)
  have hG : GrowP w g base 268 cells A c n xs x (w6.setCell ⟨g,268,none⟩ (.slice A' (n + 1) c')) := by
    refine ⟨⟨hg6.os.trans hPA.os,hg6.tape.trans hPA.tape,hg6.output.trans hPA.output,by have := hg6.size; have := hPA.size; simp at *; omega,fun k hk h1 h2 h3 => ?_⟩,A',c',hB6.set_ 268 _,hrow6.keep fun k e => Below.heap_setCell w6 _ _ k (fun h => hng (e.trans (congrArg some h))),fun k e => (ho7 k e).imp id fun h => by omega⟩
    exact (Below.heap_setCell w6 _ _ k h1).trans ((hg6.block k (by simp; omega) (fun e => h2 e.symm)).trans (hPA.block k hk h1 h2 h3))
  obtain ⟨hp,A1,c1,g1,g2,g3⟩ := hG
  have hne : ∀ k,Value.ownBlock (.slice A' (n + 1) c') = some k → k ≠ w.heap.size + 1 := fun k e => by
    rcases ho7 k e with h | h
    · have := (HR.out.lt k h).2; omega
    · omega
  refine ⟨PF.farCells (by omega) _ _ _ hp,A',c',?_,?_,fun k e => (ho7 k e).imp id fun h => by omega⟩
  · exact (((hB6.set_ 268 _).other (p := ⟨w.heap.size + 1,0,none⟩) (by show g ≠ w.heap.size + 1; omega)).other (p := ⟨w.heap.size + 1,0 + 1,none⟩) (by show g ≠ w.heap.size + 1; omega)).other (p := ⟨w.heap.size + 1,0 + 1 + 1,none⟩) (by show g ≠ w.heap.size + 1; omega)
  · exact (((hrow6.keep fun k e => Below.heap_setCell w6 _ _ k (fun h => hng (e.trans (congrArg some h)))).keep fun k e => Below.heap_setCell _ ⟨w.heap.size + 1,0,none⟩ _ k (hne k e)).keep fun k e => Below.heap_setCell _ ⟨w.heap.size + 1,0 + 1,none⟩ _ k (hne k e)).keep fun k e => Below.heap_setCell _ ⟨w.heap.size + 1,0 + 1 + 1,none⟩ _ k (hne k e)
set_option maxRecDepth 20000 in
set_option maxHeartbeats 2000000 in
theorem do_oneR (op f n' word from_ a b : Int) (M : Value) (F : Nat) (w : World) (g base : Nat) (cells : List Value) (A : Option Addr) (c n : Nat) (xs : List Value) (x : Int) (hBk : Blk w g 119 cells) (hrow : Row w base 21 (.slice A n c) n xs) (hgo : Value.ownBlock (.slice A n c) ≠ some g) (hT : TabIs 0 w) (htg : 0 ≠ g)
    (hn : -2147483648 ≤ n' ∧ n' ≤ 2147483647) (hc : checkR op a b n' f = 0) (hs : opShape op = 2)
    (H : Hid (∀ W,TabIs 0 W → Blk W g 119 cells → Row W base 21 (.slice A n c) n xs → w.heap.size ≤ W.heap.size → Calls Tryd.prog 59 #[.pointer (some ⟨g,0,none⟩),.agg #[.int .i64 op,.int .i64 a,.int .i64 b,.int .i32 n',.int .i64 f]] W fun e w' => e = .returned (.agg #[.int .i64 0,.int .i64 0,.int .u32 0]) ∧ GrowP W g base F cells A c n xs x w')) :
    Calls Tryd.prog 26 #[.pointer (some ⟨g,0,none⟩),.agg #[.int .i64 op,.int .i64 a,.int .i64 b,.int .i32 n',.int .i64 f],.int .i32 word,M,.int .i64 from_] w fun e w' => e = .returned (.agg #[.int .i64 0,.int .i64 0,.int .u32 0]) ∧ GrowP w g base F cells A c n xs x w' := by
  have hg := hBk.lt
  obtain ⟨hiop,_,_,_⟩ := checkR_parts hc
  have hch : ∀ w,TabIs 0 w → Calls Tryd.prog 46 #[.agg #[.int .i64 op,.int .i64 a,.int .i64 b,.int .i32 n',.int .i64 f]] w fun e w' => e = .returned (.int .i64 0) ∧ Below w.heap.size w w' := fun w hT => hc ▸ check_any op a b n' f w hn hT
  have hat : ∀ w,TabIs 0 w → Calls Tryd.prog 54 #[.int .i64 op] w fun e w' => e = .returned (.tuple #[.agg #[.string ⟨(opName op).toArray⟩,.int .u8 (opByte op),.int .i64 2],.bool true]) ∧ Below w.heap.size w w' := fun w hT => hiop ▸ hs ▸ at_any op w hT
  have Hch := Lib.hid hch
  have Hat := Lib.hid hat
  have HB := Lib.hid hBk
  have HR := Lib.hid hrow
  have HO := Lib.hid hgo
  have hB0 : Below w.heap.size w ((w.alloc (.cells #[.int .i64 op,.int .i64 a,.int .i64 b,.int .i32 n',.int .i64 f] 25)).alloc (.cells #[.int .i64 0,.int .i64 0,.int .u32 0] 56)) := ((Below.refl _ _).alloc (Nat.le_refl _) _).alloc (by simp) _
  have hI0 : Blk ((w.alloc (.cells #[.int .i64 op,.int .i64 a,.int .i64 b,.int .i32 n',.int .i64 f] 25)).alloc (.cells #[.int .i64 0,.int .i64 0,.int .u32 0] 56)) w.heap.size 25 [.int .i64 op,.int .i64 a,.int .i64 b,.int .i32 n',.int .i64 f] := (Blk.new w 25 [.int .i64 op,.int .i64 a,.int .i64 b,.int .i32 n',.int .i64 f]).alloc _
  have hX0 : Blk ((w.alloc (.cells #[.int .i64 op,.int .i64 a,.int .i64 b,.int .i32 n',.int .i64 f] 25)).alloc (.cells #[.int .i64 0,.int .i64 0,.int .u32 0] 56)) (w.heap.size + 1) 56 [.int .i64 0,.int .i64 0,.int .u32 0] := by
    have := Blk.new (w.alloc (.cells #[.int .i64 op,.int .i64 a,.int .i64 b,.int .i32 n',.int .i64 f] 25)) 56 [.int .i64 0,.int .i64 0,.int .u32 0]
    rw [World.size_alloc] at this
    exact this
  generalize opName op = nm at Hat
  generalize opByte op = by_ at Hat
  clear hch hat hc hiop hs hn hBk hrow hgo
  go_enter Tryd.func26,Tryd.ntmps26
  go_wp2_with (first
    | (go_at_call 46; refine (Hch.out _ ((hT.alloc _).alloc _)).mono ?_; rintro e w2 ⟨rfl,hb2⟩; have hI2 := hI0.below hb2 hI0.lt; have hX2 := hX0.below hb2 hX0.lt; have p0 := hI2.cell 0; simp only [List.getElem?_cons_zero] at p0; have hB2 := hB0.trans (hb2.mono hB0.size))
    | (go_at_call 54; refine (Hat.out _ (hT.grow hB2)).mono ?_; rintro e w3 ⟨rfl,hb3⟩; have hI3 := hI2.below hb3 hI2.lt; have hX3 := hX2.below hb3 hX2.lt; have r0 := hI3.cell 0; have r1 := hI3.cell 1; have r2 := hI3.cell 2; have r3 := hI3.cell 3; have r4 := hI3.cell 4; simp only [List.getElem?_cons_zero,List.getElem?_cons_succ] at r0 r1 r2 r3 r4; have hz3 := hI3.lt; have hB3 := hB2.trans (hb3.mono hB2.size))
    | (go_at_call 59; refine (H.out _ ((hT.grow hB3).alloc _) (HB.out.below (hB3.alloc hB3.size _) hg) (HR.out.keep fun k e => (hB3.alloc hB3.size _).block k (HR.out.lt k e).2) (hB3.alloc hB3.size _).size).mono ?_; rintro e w5 ⟨rfl,hG5⟩; have hX5 : Blk w5 (w.heap.size + 1) 56 [.int .i64 0,.int .i64 0,.int .u32 0] := (hG5.1.block _ (by have := hX3.lt; simp; omega) (by omega) (fun e => by have := (HR.out.lt _ e).2; omega) (fun e => by have := (HR.out.lt _ e).2; omega)).trans (hX3.alloc _))
    | ((with_reducible show wpList _ _ _ (Oper.mk none (Op.store _ (Operand.tmp 10) (Operand.tmp 40)) _ _ _ _ :: _) _ _); refine wpList_st3 hX5 rfl 56 (.tmp 10) (.tmp 40) (.int .i64 0) (.int .i64 0) (.int .u32 0) rfl (by kernel_rfl) (by kernel_rfl) (by simp [Value.oneCell']) (by kernel_rfl) ?_; rintro ⟨z0,z1,z2⟩)
    | fail)
  refine bodyPost_ret (v := .agg #[.int .i64 0,.int .i64 0,.int .u32 0]) (by simp [results,Tryd.results26,go_sem,z0,z1,z2]) rfl ⟨rfl,?_⟩
  have hX3' := hX3.lt
  exact hG5.far (X := w.heap.size + 1) (by omega) (fun k e => by have := (HR.out.lt k e).2; omega) (by simp; omega) ((PF.refl w g _ _).then_ (hB3.alloc hB3.size _)) (by omega) _ 0
end Go.Proofs.YthcjnkakfpmpbaaDoor
