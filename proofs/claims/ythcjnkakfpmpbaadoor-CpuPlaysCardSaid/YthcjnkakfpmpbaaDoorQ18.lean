import Derived.Test.YthcjnkakfpmpbaaDoorQ11
import Derived.Test.YthcjnkakfpmpbaaDoorQ13
import Derived.Test.YthcjnkakfpmpbaaDoorQ16
import Derived.Test.YthcjnkakfpmpbaaDoorQ17
import Derived.Test.YthcjnkakfpmpbaaDoorRows
import Derived.Test.YthcjnkakfpmpbaaDoorQ1
import Derived.Test.YthcjnkakfpmpbaaDoorQ5
import Derived.Deep.QuietTactic
import Derived.BigQuiet
namespace Go.Proofs.YthcjnkakfpmpbaaDoor
open Go.RowKit
set_option linter.unusedVariables false
set_option linter.unusedSimpArgs false
theorem refOps_E18 (w : World) : Calls Tryd.prog 67 #[] w fun e w' => ∃ V,e = .returned V ∧ (V = .slice (some ⟨w.heap.size,0,none⟩) 43 43 ∧ TabIs w.heap.size w' ∧ Below w.heap.size w w') :=
  (refOps_gives w).mono fun e w' h => ⟨_,h.1,rfl,h.2⟩
noncomputable def rdR3 : Array Oper := regOf Tryd.f42.body 3
set_option maxRecDepth 100000 in
set_option maxHeartbeats 2000000 in
theorem rd_r3 (I k : Nat) (u0 u1 u2 u3 u4 u5 u7 u8 u9 Ua Ub Uc Ud Ue Uf Ug Uh Ui Uj Uk Ul Um Un Uo Up Uq Ur Us Ut Uu Uv Uw Ux Uy Uz UA UB UC UD UE UF UG UH UI UJ UK UL : Value) (W : World) (Q : Exit → Act → World → Prop) (hk : k < 43) (hI : I < W.heap.size) (p0 : W.cell? ⟨I,0,none⟩ = some (.int .i64 ((k : Int) + 1)))
    (hQ : ∀ (UM UN UO UP UQ UR US : Value) (w' : World),Below W.heap.size W w' → Q .normal { tmps := #[u0,u1,u2,u3,u4,u5,.pointer (some ⟨I,0,none⟩),u7,u8,u9,Ua,.string ⟨(opName ((k : Int) + 1)).toArray⟩,Uc,Ud,Ue,Uf,UM,UN,UO,UP,UQ,UR,US,Un,Uo,Up,Uq,Ur,Us,Ut,Uu,Uv,Uw,Ux,Uy,Uz,UA,UB,UC,UD,UE,UF,UG,UH,UI,UJ,UK,UL],defers := [] } w') :
    (Code.region 3 rdR3 true).wp Tryd.prog Q { tmps := #[u0,u1,u2,u3,u4,u5,.pointer (some ⟨I,0,none⟩),u7,u8,u9,Ua,Ub,Uc,Ud,Ue,Uf,Ug,Uh,Ui,Uj,Uk,Ul,Um,Un,Uo,Up,Uq,Ur,Us,Ut,Uu,Uv,Uw,Ux,Uy,Uz,UA,UB,UC,UD,UE,UF,UG,UH,UI,UJ,UK,UL],defers := [] } W := by
  have hkI : (k : Int) < 43 := by omega
  have hwr : IntKind.i64.wrap (k : Int) = k := by simp [IntKind.wrap,IntKind.bits,IntKind.signed]; omega
  refine held_start (ops' := rdR3) (l0 := #[false,false,false,false,false,false,false,false]) (S := fun w' => Below W.heap.size W w' ∧ w'.cell? ⟨I,0,none⟩ = some (.int .i64 ((k : Int) + 1))) (by kernel_rfl) (by kernel_rfl) (by kernel_rfl) (by kernel_rfl) ⟨(Below.refl _ _).drew,p0⟩ (fun R hR => ?_)
  (refine held_take (v := ?_) (d := some 17) 1 (by kernel_rfl) (by kernel_rfl) rfl ?_ ?_
   rotate_left
   · intro w hSw
     conv in opOf _ _ => whnf
     (try dsimp only at hSw)
     go_simp
     try (with_reducible rfl)
   try simp only [Act.put,List.setIfInBounds_toArray,List.set_cons_zero,List.set_cons_succ])
  (refine held_take (v := ?_) (d := some 18) 2 (by kernel_rfl) (by kernel_rfl) rfl ?_ ?_
   rotate_left
   · intro w hSw
     conv in opOf _ _ => whnf
     (try dsimp only at hSw)
     go_simp
     try (with_reducible rfl)
   try simp only [Act.put,List.setIfInBounds_toArray,List.set_cons_zero,List.set_cons_succ])
  (refine held_take (v := ?_) (d := some 19) 3 (by kernel_rfl) (by kernel_rfl) rfl ?_ ?_
   rotate_left
   · intro w hSw
     conv in opOf _ _ => whnf
     (try dsimp only at hSw)
     go_simp
     try simp only [hwr]
     try (with_reducible rfl)
   try simp only [Act.put,List.setIfInBounds_toArray,List.set_cons_zero,List.set_cons_succ])
  (refine held_one 0 (by kernel_rfl) (by kernel_rfl) (held_callE (d := some 16) 0 (by kernel_rfl) (by kernel_rfl) rfl (fun hS => refOps_E18 _) (by kernel_rfl) ?_)
   rintro V w4 hS ⟨rfl,hT,hbb⟩
   have hT : TabIs W.heap.size w4 := hT
   obtain ⟨c0,c1,c2⟩ := hT.cells k hk
   have hTl := hT.lt
   refine ⟨⟨hS.1.trans (hbb.mono hS.1.size),(hbb.cell (by have := hS.1.size; show I < _; omega)).trans hS.2⟩,?_⟩
   try simp only [Act.put,List.setIfInBounds_toArray,List.set_cons_zero,List.set_cons_succ])
  (refine held_take (v := ?_) (d := some 20) 4 (by kernel_rfl) (by kernel_rfl) rfl ?_ ?_
   rotate_left
   · intro w hSw
     conv in opOf _ _ => whnf
     (try dsimp only at hSw)
     go_simp
     try (with_reducible rfl)
   try simp only [Act.put,List.setIfInBounds_toArray,List.set_cons_zero,List.set_cons_succ])
  (refine held_take (v := ?_) (d := some 21) 5 (by kernel_rfl) (by kernel_rfl) rfl ?_ ?_
   rotate_left
   · intro w hSw
     conv in opOf _ _ => whnf
     (try dsimp only at hSw)
     go_simp
     try (with_reducible rfl)
   try simp only [Act.put,List.setIfInBounds_toArray,List.set_cons_zero,List.set_cons_succ])
  refine held_one 6 (by kernel_rfl) (by kernel_rfl) ?_
  (refine held_run (v := ?_) (w' := ?_) (d := some 22) 6 (by kernel_rfl) (by kernel_rfl) rfl ?_ ?_
   rotate_left 2
   · intro hSw
     conv in opOf _ _ => whnf
     go_simp
     first | done | (with_reducible rfl) | (constructor <;> with_reducible rfl)
   intro hS
   refine ⟨hS,?_⟩
   try simp only [Act.put,List.setIfInBounds_toArray,List.set_cons_zero,List.set_cons_succ])
  (refine held_take (v := ?_) (d := some 11) 7 (by kernel_rfl) (by kernel_rfl) rfl ?_ ?_
   rotate_left
   · intro w hSw
     conv in opOf _ _ => whnf
     (try dsimp only at hSw)
     go_simp
     try (with_reducible rfl)
   try simp only [Act.put,List.setIfInBounds_toArray,List.set_cons_zero,List.set_cons_succ])
  refine held_done (by kernel_rfl) (fun hS => hR.out _ _ ?_)
  exact hQ _ _ _ _ _ _ _ _ hS.1
set_option maxRecDepth 20000 in
set_option maxHeartbeats 2000000 in
theorem rdo_wrong (op f n word from_ : Int) (a b : Int) (M : Value) (C : Int) (w : World) (g : Nat) (cells : List Value) (hB : Blk w g 89 cells) (hn : -2147483648 ≤ n ∧ n ≤ 2147483647) (hc : checkR op a b n f = C) (hC : (C == 0) = false) :
    Calls Tryd.prog 42 #[.pointer (some ⟨g,0,none⟩),.agg #[.int .i64 op,.int .i64 a,.int .i64 b,.int .i32 n,.int .i64 f],.int .i32 word,M,.int .i64 from_] w fun e w' => e = .returned (.agg #[.int .i64 6,.int .i64 1,.int .u32 0]) ∧ RW w g cells w' := by
  have hg := hB.lt
  have hB0 : Below w.heap.size w ((w.alloc (.cells #[.int .i64 op,.int .i64 a,.int .i64 b,.int .i32 n,.int .i64 f] 25)).alloc (.cells #[.int .i64 0,.int .i64 0,.int .u32 0] 92)) := ((Below.refl _ _).alloc (Nat.le_refl _) _).alloc (by simp) _
  have hI0 : Blk ((w.alloc (.cells #[.int .i64 op,.int .i64 a,.int .i64 b,.int .i32 n,.int .i64 f] 25)).alloc (.cells #[.int .i64 0,.int .i64 0,.int .u32 0] 92)) w.heap.size 25 [.int .i64 op,.int .i64 a,.int .i64 b,.int .i32 n,.int .i64 f] := (Blk.new w 25 [.int .i64 op,.int .i64 a,.int .i64 b,.int .i32 n,.int .i64 f]).alloc _
  have hX0 : Blk ((w.alloc (.cells #[.int .i64 op,.int .i64 a,.int .i64 b,.int .i32 n,.int .i64 f] 25)).alloc (.cells #[.int .i64 0,.int .i64 0,.int .u32 0] 92)) (w.heap.size + 1) 92 [.int .i64 0,.int .i64 0,.int .u32 0] := by
    have := Blk.new (w.alloc (.cells #[.int .i64 op,.int .i64 a,.int .i64 b,.int .i32 n,.int .i64 f] 25)) 92 [.int .i64 0,.int .i64 0,.int .u32 0]
    rw [World.size_alloc] at this
    exact this
  have hch : ∀ w,Calls Tryd.prog 51 #[.agg #[.int .i64 op,.int .i64 a,.int .i64 b,.int .i32 n,.int .i64 f]] w fun e w' => e = .returned (.int .i64 C) ∧ Below w.heap.size w w' := fun w => hc ▸ refCheck_any op a b n f w hn
  have Hch := Lib.hid hch
  have hC' : (C != 0) = true := by simp only [bne,hC]; rfl
  have HB := Lib.hid hB
  clear hch hB hc hn hI0
  go_enter Tryd.func42,Tryd.ntmps42
  go_wp2_with (first
    | (go_at_call 51; refine (Hch.out _).mono ?_; rintro e w2 ⟨rfl,hb2⟩; have hX2 := hX0.below hb2 hX0.lt; have hC2 := (((RW.start HB.out).alloc _).alloc _).below hb2)
    | (go_at_call 66; refine (rtrap_any 1 w2).mono ?_; rintro e w4 ⟨rfl,hb4⟩; have hX4 := hX2.below hb4 hX2.lt; have hC4 := hC2.below hb4)
    | ((with_reducible show wpList _ _ _ (Oper.mk none (Op.store _ (Operand.tmp 10) (Operand.tmp 15)) _ _ _ _ :: _) _ _); refine wpList_st3 hX4 rfl 92 (.tmp 10) (.tmp 15) (.int .i64 6) (.int .i64 1) (.int .u32 0) rfl (by kernel_rfl) (by kernel_rfl) (by simp [Value.oneCell']) (by kernel_rfl) ?_; rintro ⟨z0,z1,z2⟩)
    | fail)
  refine bodyPost_ret (v := .agg #[.int .i64 6,.int .i64 1,.int .u32 0]) (by simp [results,Tryd.results42,go_sem,z0,z1,z2]) rfl ⟨rfl,?_⟩
  exact RW.farCells (by omega) _ _ _ hC4
set_option maxRecDepth 20000 in
set_option maxHeartbeats 2000000 in
theorem rdo_two4 (op f n word from_ : Int) (a b : Int) (M : Value) (K T To : Int) (Z : World → World → Prop) (w : World) (g : Nat) (cells : List Value) (hB : Blk w g 89 cells) (hn : -2147483648 ≤ n ∧ n ≤ 2147483647) (hc : checkR op a b n f = 0) (hs : opShape op = 4)
    (H : Hid (∀ W,Below w.heap.size w W → Calls Tryd.prog 68 #[.pointer (some ⟨g,0,none⟩),.string ⟨(opName op).toArray⟩,.agg #[.int .i64 op,.int .i64 a,.int .i64 b,.int .i32 n,.int .i64 f],M,.int .i64 from_] W fun e w' => e = .returned (.agg #[.int .i64 K,.int .i64 T,.int .u32 To]) ∧ Z W w'))
    (HF : Hid (∀ W w' X,Z W w' → w.heap.size ≤ X → X < W.heap.size → w'.heap[X]? = W.heap[X]?)) :
    Calls Tryd.prog 42 #[.pointer (some ⟨g,0,none⟩),.agg #[.int .i64 op,.int .i64 a,.int .i64 b,.int .i32 n,.int .i64 f],.int .i32 word,M,.int .i64 from_] w fun e w' => e = .returned (.agg #[.int .i64 K,.int .i64 T,.int .u32 To]) ∧ ∃ W w1,Below w.heap.size w W ∧ Z W w1 ∧ w.heap.size + 1 < W.heap.size ∧ w' = w1.setCells (w.heap.size + 1) 0 [.int .i64 K,.int .i64 T,.int .u32 To] := by
  have hg := hB.lt
  have hB0 : Below w.heap.size w ((w.alloc (.cells #[.int .i64 op,.int .i64 a,.int .i64 b,.int .i32 n,.int .i64 f] 25)).alloc (.cells #[.int .i64 0,.int .i64 0,.int .u32 0] 92)) := ((Below.refl _ _).alloc (Nat.le_refl _) _).alloc (by simp) _
  have hI0 : Blk ((w.alloc (.cells #[.int .i64 op,.int .i64 a,.int .i64 b,.int .i32 n,.int .i64 f] 25)).alloc (.cells #[.int .i64 0,.int .i64 0,.int .u32 0] 92)) w.heap.size 25 [.int .i64 op,.int .i64 a,.int .i64 b,.int .i32 n,.int .i64 f] := (Blk.new w 25 [.int .i64 op,.int .i64 a,.int .i64 b,.int .i32 n,.int .i64 f]).alloc _
  have hX0 : Blk ((w.alloc (.cells #[.int .i64 op,.int .i64 a,.int .i64 b,.int .i32 n,.int .i64 f] 25)).alloc (.cells #[.int .i64 0,.int .i64 0,.int .u32 0] 92)) (w.heap.size + 1) 92 [.int .i64 0,.int .i64 0,.int .u32 0] := by
    have := Blk.new (w.alloc (.cells #[.int .i64 op,.int .i64 a,.int .i64 b,.int .i32 n,.int .i64 f] 25)) 92 [.int .i64 0,.int .i64 0,.int .u32 0]
    rw [World.size_alloc] at this
    exact this
  obtain ⟨hiop,_,_,_⟩ := checkR_parts hc
  obtain ⟨k,hko⟩ : ∃ k : Nat,op = (k : Int) + 1 := ⟨(op - 1).toNat,by unfold isOp at hiop; simp at hiop; omega⟩
  have hk : k < 43 := by unfold isOp at hiop; simp at hiop; omega
  have hch : ∀ w,Calls Tryd.prog 51 #[.agg #[.int .i64 op,.int .i64 a,.int .i64 b,.int .i32 n,.int .i64 f]] w fun e w' => e = .returned (.int .i64 0) ∧ Below w.heap.size w w' := fun w => hc ▸ refCheck_any op a b n f w hn
  have hsh : ∀ w,Calls Tryd.prog 49 #[.int .i64 op] w fun e w' => e = .returned (.int .i64 4) ∧ Below w.heap.size w w' := fun w => hs ▸ refShape_any op w
  have Hch := Lib.hid hch
  have Hsh := Lib.hid hsh
  have Hko := Lib.hid hko
  have HB := Lib.hid hB
  clear hch hsh hB hc hn hs hiop hko
  go_enter Tryd.func42,Tryd.ntmps42
  go_wp2_with (first
    | (go_at_call 51; refine (Hch.out _).mono ?_; rintro e w2 ⟨rfl,hb2⟩; have hB2 := hB0.trans (hb2.mono hB0.size); have hX2 := hX0.below hb2 hX0.lt; have hI2 := hI0.below hb2 hI0.lt)
    | fail)
  have hI2l := hI2.lt
  refine wp_region_swap (ops' := rdR3) (by kernel_rfl) (rd_r3 w.heap.size k _ _ _ _ _ _ _ _ _ _ _ _ _ _ _ _ _ _ _ _ _ _ _ _ _ _ _ _ _ _ _ _ _ _ _ _ _ _ _ _ _ _ _ _ _ _ _ _ _ hk hI2l ((hI2.cell 0).trans (by simp [Hko.out])) ?_)
  rw [← Hko.out]
  intro UM UN UO UP UQ UR US w3 hb3
  have hB3 := hB2.trans (hb3.mono hB2.size)
  have hX3 := hX2.below hb3 hX2.lt
  have hI3 := hI2.below hb3 hI2.lt
  have i0 := hI3.cell 0
  simp only [List.getElem?_cons_zero] at i0
  generalize opName op = nm at H ⊢
  clear hB0 hI0 hX0 hB2 hX2 hI2 hb2 hI2l hb3
  go_wp2_with (first
    | (go_at_call 49; refine (Hsh.out _).mono ?_; rintro e w4 ⟨rfl,hb4⟩; have hB4 := hB3.trans (hb4.mono hB3.size); have hX4 := hX3.below hb4 hX3.lt; have hI4 := hI3.below hb4 hI3.lt; have r0 := hI4.cell 0; have r1 := hI4.cell 1; have r2 := hI4.cell 2; have r3 := hI4.cell 3; have r4 := hI4.cell 4; simp only [List.getElem?_cons_zero,List.getElem?_cons_succ] at r0 r1 r2 r3 r4)
    | (go_at_call 68; refine (H.out _ hB4).mono ?_; rintro e w5 ⟨rfl,hZ5⟩; have hX5 : Blk w5 (w.heap.size + 1) 92 [.int .i64 0,.int .i64 0,.int .u32 0] := (HF.out _ _ _ hZ5 (by omega) hX4.lt).trans hX4)
    | ((with_reducible show wpList _ _ _ (Oper.mk none (Op.store _ (Operand.tmp 10) (Operand.tmp 33)) _ _ _ _ :: _) _ _); refine wpList_st3 hX5 rfl 92 (.tmp 10) (.tmp 33) (.int .i64 K) (.int .i64 T) (.int .u32 To) rfl (by kernel_rfl) (by kernel_rfl) (by simp [Value.oneCell']) (by kernel_rfl) ?_; rintro ⟨z0,z1,z2⟩)
    | fail)
  refine bodyPost_ret (v := .agg #[.int .i64 K,.int .i64 T,.int .u32 To]) (by simp [results,Tryd.results42,go_sem,z0,z1,z2]) rfl ⟨rfl,_,w5,hB4,hZ5,hX4.lt,rfl⟩
set_option maxRecDepth 20000 in
set_option maxHeartbeats 40000000 in
theorem rdo_zA (sh : Int) (hsh3 : sh = 3 ∨ sh = 5 ∨ sh = 6 ∨ sh = 7) (op f n word from_ : Int) (a b : Int) (M : Value) (K T To : Int) (Z : World → World → Prop) (w : World) (g : Nat) (cells : List Value) (hB : Blk w g 89 cells) (hn : -2147483648 ≤ n ∧ n ≤ 2147483647) (hc : checkR op a b n f = 0) (hs : opShape op = sh)
    (H : Hid (∀ W,Below w.heap.size w W → Calls Tryd.prog 69 #[.pointer (some ⟨g,0,none⟩),.string ⟨(opName op).toArray⟩,.agg #[.int .i64 op,.int .i64 a,.int .i64 b,.int .i32 n,.int .i64 f]] W fun e w' => e = .returned (.agg #[.int .i64 K,.int .i64 T,.int .u32 To]) ∧ Z W w'))
    (HF : Hid (∀ W w' X,Z W w' → w.heap.size ≤ X → X < W.heap.size → w'.heap[X]? = W.heap[X]?)) :
    Calls Tryd.prog 42 #[.pointer (some ⟨g,0,none⟩),.agg #[.int .i64 op,.int .i64 a,.int .i64 b,.int .i32 n,.int .i64 f],.int .i32 word,M,.int .i64 from_] w fun e w' => e = .returned (.agg #[.int .i64 K,.int .i64 T,.int .u32 To]) ∧ ∃ W w1,Below w.heap.size w W ∧ Z W w1 ∧ w.heap.size + 1 < W.heap.size ∧ w' = w1.setCells (w.heap.size + 1) 0 [.int .i64 K,.int .i64 T,.int .u32 To] := by
  have hg := hB.lt
  have hB0 : Below w.heap.size w ((w.alloc (.cells #[.int .i64 op,.int .i64 a,.int .i64 b,.int .i32 n,.int .i64 f] 25)).alloc (.cells #[.int .i64 0,.int .i64 0,.int .u32 0] 92)) := ((Below.refl _ _).alloc (Nat.le_refl _) _).alloc (by simp) _
  have hI0 : Blk ((w.alloc (.cells #[.int .i64 op,.int .i64 a,.int .i64 b,.int .i32 n,.int .i64 f] 25)).alloc (.cells #[.int .i64 0,.int .i64 0,.int .u32 0] 92)) w.heap.size 25 [.int .i64 op,.int .i64 a,.int .i64 b,.int .i32 n,.int .i64 f] := (Blk.new w 25 [.int .i64 op,.int .i64 a,.int .i64 b,.int .i32 n,.int .i64 f]).alloc _
  have hX0 : Blk ((w.alloc (.cells #[.int .i64 op,.int .i64 a,.int .i64 b,.int .i32 n,.int .i64 f] 25)).alloc (.cells #[.int .i64 0,.int .i64 0,.int .u32 0] 92)) (w.heap.size + 1) 92 [.int .i64 0,.int .i64 0,.int .u32 0] := by
    have := Blk.new (w.alloc (.cells #[.int .i64 op,.int .i64 a,.int .i64 b,.int .i32 n,.int .i64 f] 25)) 92 [.int .i64 0,.int .i64 0,.int .u32 0]
    rw [World.size_alloc] at this
    exact this
  obtain ⟨hiop,_,_,_⟩ := checkR_parts hc
  obtain ⟨k,hko⟩ : ∃ k : Nat,op = (k : Int) + 1 := ⟨(op - 1).toNat,by unfold isOp at hiop; simp at hiop; omega⟩
  have hk : k < 43 := by unfold isOp at hiop; simp at hiop; omega
  have hch : ∀ w,Calls Tryd.prog 51 #[.agg #[.int .i64 op,.int .i64 a,.int .i64 b,.int .i32 n,.int .i64 f]] w fun e w' => e = .returned (.int .i64 0) ∧ Below w.heap.size w w' := fun w => hc ▸ refCheck_any op a b n f w hn
  have hsh : ∀ w,Calls Tryd.prog 49 #[.int .i64 op] w fun e w' => e = .returned (.int .i64 sh) ∧ Below w.heap.size w w' := fun w => hs ▸ refShape_any op w
  have Hch := Lib.hid hch
  have Hsh := Lib.hid hsh
  have Hko := Lib.hid hko
  have HB := Lib.hid hB
  clear hch hsh hB hc hn hs hiop hko
  rcases hsh3 with rfl | rfl | rfl | rfl
  all_goals
    go_enter Tryd.func42,Tryd.ntmps42
    go_wp2_with (first
      | (go_at_call 51; refine (Hch.out _).mono ?_; rintro e w2 ⟨rfl,hb2⟩; have hB2 := hB0.trans (hb2.mono hB0.size); have hX2 := hX0.below hb2 hX0.lt; have hI2 := hI0.below hb2 hI0.lt)
      | fail)
    have hI2l := hI2.lt
    refine wp_region_swap (ops' := rdR3) (by kernel_rfl) (rd_r3 w.heap.size k _ _ _ _ _ _ _ _ _ _ _ _ _ _ _ _ _ _ _ _ _ _ _ _ _ _ _ _ _ _ _ _ _ _ _ _ _ _ _ _ _ _ _ _ _ _ _ _ _ hk hI2l ((hI2.cell 0).trans (by simp [Hko.out])) ?_)
    rw [← Hko.out]
    intro UM UN UO UP UQ UR US w3 hb3
    have hB3 := hB2.trans (hb3.mono hB2.size)
    have hX3 := hX2.below hb3 hX2.lt
    have hI3 := hI2.below hb3 hI2.lt
    have i0 := hI3.cell 0
    simp only [List.getElem?_cons_zero] at i0
    generalize opName op = nm at H ⊢
    clear hB0 hI0 hX0 hB2 hX2 hI2 hb2 hI2l hb3
    go_wp2_with (first
      | (go_at_call 49; refine (Hsh.out _).mono ?_; rintro e w4 ⟨rfl,hb4⟩; have hB4 := hB3.trans (hb4.mono hB3.size); have hX4 := hX3.below hb4 hX3.lt; have hI4 := hI3.below hb4 hI3.lt; have r0 := hI4.cell 0; have r1 := hI4.cell 1; have r2 := hI4.cell 2; have r3 := hI4.cell 3; have r4 := hI4.cell 4; simp only [List.getElem?_cons_zero,List.getElem?_cons_succ] at r0 r1 r2 r3 r4)
      | (go_at_call 69; refine (H.out _ hB4).mono ?_; rintro e w5 ⟨rfl,hZ5⟩; have hX5 : Blk w5 (w.heap.size + 1) 92 [.int .i64 0,.int .i64 0,.int .u32 0] := (HF.out _ _ _ hZ5 (by omega) hX4.lt).trans hX4)
      | ((with_reducible show wpList _ _ _ (Oper.mk none (Op.store _ (Operand.tmp 10) (Operand.tmp 42)) _ _ _ _ :: _) _ _); refine wpList_st3 hX5 rfl 92 (.tmp 10) (.tmp 42) (.int .i64 K) (.int .i64 T) (.int .u32 To) rfl (by kernel_rfl) (by kernel_rfl) (by simp [Value.oneCell']) (by kernel_rfl) ?_; rintro ⟨z0,z1,z2⟩)
      | fail)
    refine bodyPost_ret (v := .agg #[.int .i64 K,.int .i64 T,.int .u32 To]) (by simp [results,Tryd.results42,go_sem,z0,z1,z2]) rfl ⟨rfl,_,w5,hB4,hZ5,hX4.lt,rfl⟩
set_option maxRecDepth 20000 in
set_option maxHeartbeats 40000000 in
theorem rdo_oneA (sh : Int) (hsh3 : sh = 1 ∨ sh = 2 ∨ sh = 8 ∨ sh = 9 ∨ sh = 10 ∨ sh = 11 ∨ sh = 12 ∨ sh = 13) (op f n word from_ : Int) (a b : Int) (M : Value) (K T To : Int) (Z : World → World → Prop) (w : World) (g : Nat) (cells : List Value) (hB : Blk w g 89 cells) (hn : -2147483648 ≤ n ∧ n ≤ 2147483647) (hc : checkR op a b n f = 0) (hs : opShape op = sh)
    (H : Hid (∀ W,Below w.heap.size w W → Calls Tryd.prog 70 #[.pointer (some ⟨g,0,none⟩),.string ⟨(opName op).toArray⟩,.agg #[.int .i64 op,.int .i64 a,.int .i64 b,.int .i32 n,.int .i64 f],.int .i32 word] W fun e w' => e = .returned (.agg #[.int .i64 K,.int .i64 T,.int .u32 To]) ∧ Z W w'))
    (HF : Hid (∀ W w' X,Z W w' → w.heap.size ≤ X → X < W.heap.size → w'.heap[X]? = W.heap[X]?)) :
    Calls Tryd.prog 42 #[.pointer (some ⟨g,0,none⟩),.agg #[.int .i64 op,.int .i64 a,.int .i64 b,.int .i32 n,.int .i64 f],.int .i32 word,M,.int .i64 from_] w fun e w' => e = .returned (.agg #[.int .i64 K,.int .i64 T,.int .u32 To]) ∧ ∃ W w1,Below w.heap.size w W ∧ Z W w1 ∧ w.heap.size + 1 < W.heap.size ∧ w' = w1.setCells (w.heap.size + 1) 0 [.int .i64 K,.int .i64 T,.int .u32 To] := by
  have hg := hB.lt
  have hB0 : Below w.heap.size w ((w.alloc (.cells #[.int .i64 op,.int .i64 a,.int .i64 b,.int .i32 n,.int .i64 f] 25)).alloc (.cells #[.int .i64 0,.int .i64 0,.int .u32 0] 92)) := ((Below.refl _ _).alloc (Nat.le_refl _) _).alloc (by simp) _
  have hI0 : Blk ((w.alloc (.cells #[.int .i64 op,.int .i64 a,.int .i64 b,.int .i32 n,.int .i64 f] 25)).alloc (.cells #[.int .i64 0,.int .i64 0,.int .u32 0] 92)) w.heap.size 25 [.int .i64 op,.int .i64 a,.int .i64 b,.int .i32 n,.int .i64 f] := (Blk.new w 25 [.int .i64 op,.int .i64 a,.int .i64 b,.int .i32 n,.int .i64 f]).alloc _
  have hX0 : Blk ((w.alloc (.cells #[.int .i64 op,.int .i64 a,.int .i64 b,.int .i32 n,.int .i64 f] 25)).alloc (.cells #[.int .i64 0,.int .i64 0,.int .u32 0] 92)) (w.heap.size + 1) 92 [.int .i64 0,.int .i64 0,.int .u32 0] := by
    have := Blk.new (w.alloc (.cells #[.int .i64 op,.int .i64 a,.int .i64 b,.int .i32 n,.int .i64 f] 25)) 92 [.int .i64 0,.int .i64 0,.int .u32 0]
    rw [World.size_alloc] at this
    exact this
  obtain ⟨hiop,_,_,_⟩ := checkR_parts hc
  obtain ⟨k,hko⟩ : ∃ k : Nat,op = (k : Int) + 1 := ⟨(op - 1).toNat,by unfold isOp at hiop; simp at hiop; omega⟩
  have hk : k < 43 := by unfold isOp at hiop; simp at hiop; omega
  have hch : ∀ w,Calls Tryd.prog 51 #[.agg #[.int .i64 op,.int .i64 a,.int .i64 b,.int .i32 n,.int .i64 f]] w fun e w' => e = .returned (.int .i64 0) ∧ Below w.heap.size w w' := fun w => hc ▸ refCheck_any op a b n f w hn
  have hsh : ∀ w,Calls Tryd.prog 49 #[.int .i64 op] w fun e w' => e = .returned (.int .i64 sh) ∧ Below w.heap.size w w' := fun w => hs ▸ refShape_any op w
  have Hch := Lib.hid hch
  have Hsh := Lib.hid hsh
  have Hko := Lib.hid hko
  have HB := Lib.hid hB
  clear hch hsh hB hc hn hs hiop hko
  rcases hsh3 with rfl | rfl | rfl | rfl | rfl | rfl | rfl | rfl
  all_goals
    go_enter Tryd.func42,Tryd.ntmps42
    go_wp2_with (first
      | (go_at_call 51; refine (Hch.out _).mono ?_; rintro e w2 ⟨rfl,hb2⟩; have hB2 := hB0.trans (hb2.mono hB0.size); have hX2 := hX0.below hb2 hX0.lt; have hI2 := hI0.below hb2 hI0.lt)
      | fail)
    have hI2l := hI2.lt
    refine wp_region_swap (ops' := rdR3) (by kernel_rfl) (rd_r3 w.heap.size k _ _ _ _ _ _ _ _ _ _ _ _ _ _ _ _ _ _ _ _ _ _ _ _ _ _ _ _ _ _ _ _ _ _ _ _ _ _ _ _ _ _ _ _ _ _ _ _ _ hk hI2l ((hI2.cell 0).trans (by simp [Hko.out])) ?_)
    rw [← Hko.out]
    intro UM UN UO UP UQ UR US w3 hb3
    have hB3 := hB2.trans (hb3.mono hB2.size)
    have hX3 := hX2.below hb3 hX2.lt
    have hI3 := hI2.below hb3 hI2.lt
    have i0 := hI3.cell 0
    simp only [List.getElem?_cons_zero] at i0
    generalize opName op = nm at H ⊢
    clear hB0 hI0 hX0 hB2 hX2 hI2 hb2 hI2l hb3
    go_wp2_with (first
      | (go_at_call 49; refine (Hsh.out _).mono ?_; rintro e w4 ⟨rfl,hb4⟩; have hB4 := hB3.trans (hb4.mono hB3.size); have hX4 := hX3.below hb4 hX3.lt; have hI4 := hI3.below hb4 hI3.lt; have r0 := hI4.cell 0; have r1 := hI4.cell 1; have r2 := hI4.cell 2; have r3 := hI4.cell 3; have r4 := hI4.cell 4; simp only [List.getElem?_cons_zero,List.getElem?_cons_succ] at r0 r1 r2 r3 r4)
      | (go_at_call 70; refine (H.out _ hB4).mono ?_; rintro e w5 ⟨rfl,hZ5⟩; have hX5 : Blk w5 (w.heap.size + 1) 92 [.int .i64 0,.int .i64 0,.int .u32 0] := (HF.out _ _ _ hZ5 (by omega) hX4.lt).trans hX4)
      | ((with_reducible show wpList _ _ _ (Oper.mk none (Op.store _ (Operand.tmp 10) (Operand.tmp 47)) _ _ _ _ :: _) _ _); refine wpList_st3 hX5 rfl 92 (.tmp 10) (.tmp 47) (.int .i64 K) (.int .i64 T) (.int .u32 To) rfl (by kernel_rfl) (by kernel_rfl) (by simp [Value.oneCell']) (by kernel_rfl) ?_; rintro ⟨z0,z1,z2⟩)
      | fail)
    refine bodyPost_ret (v := .agg #[.int .i64 K,.int .i64 T,.int .u32 To]) (by simp [results,Tryd.results42,go_sem,z0,z1,z2]) rfl ⟨rfl,_,w5,hB4,hZ5,hX4.lt,rfl⟩
end Go.Proofs.YthcjnkakfpmpbaaDoor
namespace Go.Proofs.YthcjnkakfpmpbaaDoor
open Go.RowKit
set_option linter.unusedVariables false
def is32 (l : List Int) : List Value := l.map fun x => .int .i32 x
theorem is32_length (l : List Int) : (is32 l).length = l.length := by simp [is32]
theorem is32_append (l r : List Int) : is32 (l ++ r) = is32 l ++ is32 r := by simp [is32]
theorem is32_one (l : List Int) : ∀ u ∈ is32 l,u.oneCell' = true := by
  intro u hu
  obtain ⟨x,_,rfl⟩ := List.mem_map.1 hu
  rfl
theorem is32_get (l : List Int) (k : Nat) : (is32 l)[k]? = (l[k]?).map fun x => Value.int .i32 x := by simp [is32]
theorem is32_take (l : List Int) (k : Nat) : (is32 l).take k = is32 (l.take k) := by simp [is32]
theorem Sl.num {w : World} {B n : Nat} {A : Option Addr} {l : List Int} (h : Sl w B 1 A n (is32 l)) {k : Nat} (hk : k < n) :
    ∃ b o x,A = some ⟨b,o,none⟩ ∧ b < B ∧ l[k]? = some x ∧ w.cell? ⟨b,o + k,none⟩ = some (.int .i32 x) := by
  obtain ⟨b,o,u,e,hb,hu,hc⟩ := h.get hk
  rw [is32_get] at hu
  obtain ⟨x,hx,rfl⟩ := Option.map_eq_some_iff.1 hu
  exact ⟨b,o,x,e,hb,hx,hc⟩
theorem same_i32 (A B : Option Addr) (n m c d : Nat) (xs ys : List Int) (w : World) (hx : Sl w w.heap.size 1 A n (is32 xs)) (hy : Sl w w.heap.size 1 B m (is32 ys)) (hn : n ≤ maxLen) :
    Calls Tryd.prog 38 #[.slice A n c,.slice B m d] w fun e w' => e = .returned (.bool (sameB xs ys)) ∧ ∃ k,w' = w.drewN k := by
  have lx : xs.length = n := by have := hx.len; rw [is32_length] at this; omega
  have ly : ys.length = m := by have := hy.len; rw [is32_length] at this; omega
  unfold maxLen at hn
  by_cases hnm : n = m
  · subst hnm
    have Lx := Lib.hid lx
    have Ly := Lib.hid ly
    clear lx ly
    obtain ⟨S,hS⟩ : ∃ S,S = sameB xs ys := ⟨_,rfl⟩
    rw [← hS]
    have HS := Lib.hid hS
    clear hS
    go_enter Tryd.func38,Tryd.ntmps38
    go_wp2
    go_loopw [5] (fun i wr => ∃ k : Nat,i = .int .i64 k ∧ k ≤ n ∧ Hid (xs.take k = ys.take k) ∧ ∃ j,wr = w.drewN j) (fun i _ => n - (intOf i).toNat)
    case atStart => exact ⟨0,rfl,Nat.zero_le _,Lib.hid rfl,0,rfl⟩
    case round =>
      obtain ⟨k,rfl,hk,ht,j,rfl⟩ := hrel
      by_cases hlt : k < n
      · obtain ⟨b,o,x,rfl,hb,hgx,hcx⟩ := hx.num hlt
        obtain ⟨b',o',y,rfl,hb',hgy,hcy⟩ := hy.num hlt
        have Hx := Lib.hid hgx
        have Hy := Lib.hid hgy
        clear hgx hgy hx hy
        have hI : (k : Int) < (n : Int) := by omega
        go_wp2
        go_quiet (fail)
        go_wp2
        · go_ret
          have hne : (x != y) = true := by assumption
          exact ⟨ret_bool (by rw [HS.out]; exact (sameB_no (same_not Hx.out Hy.out (fun e => by subst e; simp at hne))).symm),_,World.drewN_drewN _ _ _⟩
        · have hne : (x != y) = false := by assumption
          obtain rfl : x = y := by simpa using hne
          go_roundw
          case rel => exact ⟨k + 1,by go_num,by omega,Lib.hid (same_step ht.out Hx.out Hy.out),j + nq,rfl⟩
          case measure => simp [intOf]; omega
      · go_wp2
        go_ret
        exact ⟨ret_bool (by rw [HS.out]; exact (sameB_yes (same_end (by rw [show k = n by omega] at ht; exact ht.out) Lx.out Ly.out)).symm),_,rfl⟩
  · have hne : sameB xs ys = false := sameB_no (fun e => hnm (by rw [← lx,← ly,e]))
    rw [hne]
    have hI : ((n : Int) != (m : Int)) = true := by simp; omega
    clear lx ly hx hy hne
    go_enter Tryd.func38,Tryd.ntmps38
    go_wp2
    go_ret
    exact ⟨rfl,0,rfl⟩
end Go.Proofs.YthcjnkakfpmpbaaDoor
