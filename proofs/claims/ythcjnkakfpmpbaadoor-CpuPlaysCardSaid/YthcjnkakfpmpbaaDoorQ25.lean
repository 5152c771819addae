import Derived.Test.YthcjnkakfpmpbaaDoorQ4
import Derived.Deep.QuietTactic
import Derived.BigQuiet
namespace Go.Proofs.YthcjnkakfpmpbaaDoor
open Go.RowKit
set_option linter.unusedVariables false
set_option linter.unusedSimpArgs false
noncomputable def ptR6 : Array Oper := regOf Tryd.f61.body 6
set_option maxRecDepth 100000 in
set_option maxHeartbeats 4000000 in
theorem pt_r6 (g I a x : Nat) (m : Int) (u1 u2 u4 u6 u7 u8 u9 Ua Ub Uc Ud Ue Uf Ug Uh Ui Uj Uk Ul Um Un Uo Up Uq Ur Us Ut Uu Uv Uw Ux Uy Uz UA UB UC UD UE UF UG UH UI UJ UK UL UM : Value) (W : World) (Q : Exit → Act → World → Prop) (ha : a < 8) (hgI : g ≠ I) (p1 : W.cell? ⟨I,1,none⟩ = some (.int .i64 a)) (z0 : Value) (pz : W.cell? ⟨g,a,none⟩ = some z0) (fz : W.frozen? ⟨g,a,none⟩ = false)
    (hcv : ∀ w,(convert 146 21 (.float .f64 x)).run Tryd.prog w = .ok (.int .i32 m) w)
    (hQ : ∀ (UN UO UP UQ UR US UT UU : Value),Q .normal { tmps := #[.pointer (some ⟨g,0,none⟩),u1,u2,.pointer (some ⟨I,0,none⟩),u4,.float .f64 x,u6,u7,u8,u9,Ua,Ub,Uc,Ud,Ue,Uf,Ug,Uh,Ui,Uj,Uk,Ul,Um,Un,Uo,Up,Uq,Ur,Us,Ut,Uu,Uv,Uw,Ux,Uy,Uz,UA,UB,UC,UD,UN,UO,UP,UQ,UR,US,UT,UU,UM],defers := [] } ((W.drewN 1).setCell ⟨g,a,none⟩ (.int .i32 m))) :
    (Code.region 6 ptR6 true).wp Tryd.prog Q { tmps := #[.pointer (some ⟨g,0,none⟩),u1,u2,.pointer (some ⟨I,0,none⟩),u4,.float .f64 x,u6,u7,u8,u9,Ua,Ub,Uc,Ud,Ue,Uf,Ug,Uh,Ui,Uj,Uk,Ul,Um,Un,Uo,Up,Uq,Ur,Us,Ut,Uu,Uv,Uw,Ux,Uy,Uz,UA,UB,UC,UD,UE,UF,UG,UH,UI,UJ,UK,UL,UM],defers := [] } W := by
  have hA : (a : Int) < 8 := by omega
  refine held_start (ops' := ptR6) (l0 := #[false,false,false,false,false,false,false,false,false]) (S := fun w' => w'.cell? ⟨I,1,none⟩ = some (.int .i64 a) ∧ (∃ z,w'.cell? ⟨g,a,none⟩ = some z) ∧ w'.frozen? ⟨g,a,none⟩ = false) (by kernel_rfl) (by kernel_rfl) (by kernel_rfl) (by kernel_rfl) ⟨p1,⟨_,pz⟩,fz⟩ (fun R hR => ?_)
  (refine held_take (v := ?_) (d := some 40) 0 (by kernel_rfl) (by kernel_rfl) rfl ?_ ?_
   rotate_left
   · intro w hSw
     conv in opOf _ _ => whnf
     (obtain ⟨s1,⟨sz,s2⟩,s3⟩ := hSw)
     go_simp
     try (with_reducible rfl)
   try simp only [Act.put,List.setIfInBounds_toArray,List.set_cons_zero,List.set_cons_succ])
  (refine held_take (v := ?_) (d := some 41) 1 (by kernel_rfl) (by kernel_rfl) rfl ?_ ?_
   rotate_left
   · intro w hSw
     conv in opOf _ _ => whnf
     (obtain ⟨s1,⟨sz,s2⟩,s3⟩ := hSw)
     go_simp
     try (with_reducible rfl)
   try simp only [Act.put,List.setIfInBounds_toArray,List.set_cons_zero,List.set_cons_succ])
  (refine held_take (v := ?_) (d := some 42) 2 (by kernel_rfl) (by kernel_rfl) rfl ?_ ?_
   rotate_left
   · intro w hSw
     conv in opOf _ _ => whnf
     (obtain ⟨s1,⟨sz,s2⟩,s3⟩ := hSw)
     go_simp
     try (with_reducible rfl)
   try simp only [Act.put,List.setIfInBounds_toArray,List.set_cons_zero,List.set_cons_succ])
  (refine held_take (v := ?_) (d := some 43) 3 (by kernel_rfl) (by kernel_rfl) rfl ?_ ?_
   rotate_left
   · intro w hSw
     conv in opOf _ _ => whnf
     (obtain ⟨s1,⟨sz,s2⟩,s3⟩ := hSw)
     go_simp
     try (with_reducible rfl)
   try simp only [Act.put,List.setIfInBounds_toArray,List.set_cons_zero,List.set_cons_succ])
  (refine held_take (v := ?_) (d := some 44) 4 (by kernel_rfl) (by kernel_rfl) rfl ?_ ?_
   rotate_left
   · intro w hSw
     conv in opOf _ _ => whnf
     (obtain ⟨s1,⟨sz,s2⟩,s3⟩ := hSw)
     go_simp
     try (with_reducible rfl)
   try simp only [Act.put,List.setIfInBounds_toArray,List.set_cons_zero,List.set_cons_succ])
  (refine held_take (v := ?_) (d := some 45) 5 (by kernel_rfl) (by kernel_rfl) rfl ?_ ?_
   rotate_left
   · intro w hSw
     conv in opOf _ _ => whnf
     (obtain ⟨s1,⟨sz,s2⟩,s3⟩ := hSw)
     go_simp
     try (with_reducible rfl)
   try simp only [Act.put,List.setIfInBounds_toArray,List.set_cons_zero,List.set_cons_succ])
  (refine held_take (v := ?_) (d := some 46) 6 (by kernel_rfl) (by kernel_rfl) rfl ?_ ?_
   rotate_left
   · intro w hSw
     conv in opOf _ _ => whnf
     (obtain ⟨s1,⟨sz,s2⟩,s3⟩ := hSw)
     go_simp
     try (with_reducible rfl)
   try simp only [Act.put,List.setIfInBounds_toArray,List.set_cons_zero,List.set_cons_succ])
  (refine held_take (v := ?_) (d := some 47) 7 (by kernel_rfl) (by kernel_rfl) rfl ?_ ?_
   rotate_left
   · intro w hSw
     conv in opOf _ _ => whnf
     (obtain ⟨s1,⟨sz,s2⟩,s3⟩ := hSw)
     go_simp
     try (with_reducible rfl)
   try simp only [Act.put,List.setIfInBounds_toArray,List.set_cons_zero,List.set_cons_succ])
  refine held_one 8 (by kernel_rfl) (by kernel_rfl) (held_mute (w' := ?_) (d := none) 8 (by kernel_rfl) (by kernel_rfl) rfl ?_ ?_)
  rotate_left 1
  · rintro ⟨s1,⟨sz,s2⟩,s3⟩
    conv in opOf _ _ => whnf
    go_simp
    first | done | (with_reducible rfl)
  intro hS
  refine ⟨⟨(World.cell?_setCell_other _ _ _ _ (by first | (simp; done) | (simp; omega))).trans hS.1,⟨_,World.cell?_setCell_same' _ _ _ (by have hy' : W.cell? ⟨g,a,none⟩ = some z0 := pz; simp [hy'])⟩,by simpa using hS.2.2⟩,?_⟩
  try simp only [Act.put,List.setIfInBounds_toArray,List.set_cons_zero,List.set_cons_succ]
  refine held_done (by kernel_rfl) (fun hS => hR.out _ _ ?_)
  exact hQ _ _ _ _ _ _ _ _
set_option maxRecDepth 20000 in
set_option maxHeartbeats 4000000 in
theorem pt_zre (op n f : Int) (a b p q y : Nat) (m : Int) (w : World) (g : Nat) (cells : List Value) (hT : TabIs 0 w) (htg : 0 ≠ g) (hB : Blk w g 119 cells) (ha : a < 8) (hb : b < 4) (hz : cells[8 + b]? = some (.complex .f64 p q)) (z0 : Value) (hx : cells[a]? = some z0)
    (hge : (FloatKind.f64.format.order p 13970166044103278592 == some .gt || FloatKind.f64.format.order p 13970166044103278592 == some .eq) = true)
    (hle : (FloatKind.f64.format.order p 4746794007244308480 == some .lt || FloatKind.f64.format.order p 4746794007244308480 == some .eq) = true)
    (hne : (FloatKind.f64.format.order p y != some .eq) = false) (hcv : ∀ w,(convert 146 21 (.float .f64 p)).run Tryd.prog w = .ok (.int .i32 m) w)
    (Htr : Hid (∀ W,Calls Tryd.prog 85 #[.float .f64 p] W fun e w' => e = .returned (.float .f64 y) ∧ W = w')) (hnm : opName op = [122,114,101]) :
    Calls Tryd.prog 61 #[.pointer (some ⟨g,0,none⟩),.agg #[.int .i64 op,.int .i64 a,.int .i64 b,.int .i32 n,.int .i64 f]] w fun e w' => e = .returned (.agg #[.int .i64 0,.int .i64 0,.int .u32 0]) ∧ CW w g (cells.set a (.int .i32 m)) w' := by
  have hg := hB.lt
  have Hn := Lib.hid (fun w hT => hnm ▸ cname_any op w hT)
  have HB := Lib.hid hB
  have hBb : (b : Int) < 4 := by omega
  have qz : ((w.alloc (.cells #[.int .i64 op,.int .i64 a,.int .i64 b,.int .i32 n,.int .i64 f] 25)).alloc (.cells #[.int .i64 0,.int .i64 0,.int .u32 0] 56)).cell? ⟨g,8 + b,none⟩ = some (.complex .f64 p q) := by
    rw [World.cell?_alloc_lt _ _ ⟨g,8 + b,none⟩ (by simp; omega),World.cell?_alloc_lt _ _ ⟨g,8 + b,none⟩ hg]; exact (hB.cell (8 + b)).trans hz
  have hX0 : Blk ((w.alloc (.cells #[.int .i64 op,.int .i64 a,.int .i64 b,.int .i32 n,.int .i64 f] 25)).alloc (.cells #[.int .i64 0,.int .i64 0,.int .u32 0] 56)) (w.heap.size + 1) 56 [.int .i64 0,.int .i64 0,.int .u32 0] := by
    have := Blk.new (w.alloc (.cells #[.int .i64 op,.int .i64 a,.int .i64 b,.int .i32 n,.int .i64 f] 25)) 56 [.int .i64 0,.int .i64 0,.int .u32 0]
    rw [World.size_alloc] at this
    exact this
  have hI0 : Blk ((w.alloc (.cells #[.int .i64 op,.int .i64 a,.int .i64 b,.int .i32 n,.int .i64 f] 25)).alloc (.cells #[.int .i64 0,.int .i64 0,.int .u32 0] 56)) w.heap.size 25 [.int .i64 op,.int .i64 a,.int .i64 b,.int .i32 n,.int .i64 f] := (Blk.new w 25 [.int .i64 op,.int .i64 a,.int .i64 b,.int .i32 n,.int .i64 f]).alloc _
  have Hz := Lib.hid hz
  have Hx := Lib.hid hx
  clear hB hz hx
  go_enter Tryd.func61,Tryd.ntmps61
  go_wp2_with fail
  go_quiet (fail)
  have hX1 : Blk (((w.alloc (.cells #[.int .i64 op,.int .i64 a,.int .i64 b,.int .i32 n,.int .i64 f] 25)).alloc (.cells #[.int .i64 0,.int .i64 0,.int .u32 0] 56)).drewN nq) (w.heap.size + 1) 56 [.int .i64 0,.int .i64 0,.int .u32 0] := hX0
  have hI1 : Blk (((w.alloc (.cells #[.int .i64 op,.int .i64 a,.int .i64 b,.int .i32 n,.int .i64 f] 25)).alloc (.cells #[.int .i64 0,.int .i64 0,.int .u32 0] 56)).drewN nq) w.heap.size 25 [.int .i64 op,.int .i64 a,.int .i64 b,.int .i32 n,.int .i64 f] := hI0
  go_wp2_with (first
    | (go_at_call 82; refine (Hn.out _ (((hT.alloc _).alloc _).drewN nq)).mono ?_; rintro e w2 ⟨rfl,hb2⟩; have hC2 := ((((CW.start HB.out).alloc _).alloc _).drewN nq).below hb2; have hX2 := hX1.below hb2 hX1.lt; have hI2 := hI1.below hb2 hI1.lt; have i0 := hI2.cell 0; have i2 := hI2.cell 2; simp only [List.getElem?_cons_zero,List.getElem?_cons_succ] at i0 i2; have c2 := (hC2.blk.cell (8 + b)).trans Hz.out; have hz2 := hC2.blk.lt)
    | (go_at_call 85; refine (Htr.out _).mono ?_; rintro e w4 ⟨rfl,rfl⟩)
    | fail)
  refine wp_region_swap (ops' := ptR6) (by kernel_rfl) (pt_r6 g w.heap.size a p m _ _ _ _ _ _ _ _ _ _ _ _ _ _ _ _ _ _ _ _ _ _ _ _ _ _ _ _ _ _ _ _ _ _ _ _ _ _ _ _ _ _ _ _ _ _ _ _ ha (by omega) (hI2.cell 1) z0 ((hC2.blk.cell a).trans Hx.out) (hC2.blk.free _) hcv ?_)
  intro UN UO UP UQ UR US UT UU
  have hX3 : ∀ k,Blk (w2.drewN k) (w.heap.size + 1) 56 [.int .i64 0,.int .i64 0,.int .u32 0] := fun k => hX2
  go_wp2_with (first
    | ((with_reducible show wpList _ _ _ (Oper.mk none (Op.store _ (Operand.tmp 4) (Operand.tmp 48)) _ _ _ _ :: _) _ _); refine wpList_st3 ((hX3 _).other (by show w.heap.size + 1 ≠ g; omega)) rfl 56 (.tmp 4) (.tmp 48) (.int .i64 0) (.int .i64 0) (.int .u32 0) rfl (by kernel_rfl) (by kernel_rfl) (by simp [Value.oneCell']) (by kernel_rfl) ?_; rintro ⟨z0,z1,z2⟩)
    | fail)
  refine bodyPost_ret (v := .agg #[.int .i64 0,.int .i64 0,.int .u32 0]) (by simp [results,Tryd.results61,go_sem,z0,z1,z2]) rfl ⟨rfl,?_⟩
  exact CW.farCells (by omega) _ _ _ ((hC2.drewN _).setReg a _)
set_option maxRecDepth 20000 in
set_option maxHeartbeats 4000000 in
theorem pt_zim (op n f : Int) (a b p q y : Nat) (m : Int) (w : World) (g : Nat) (cells : List Value) (hT : TabIs 0 w) (htg : 0 ≠ g) (hB : Blk w g 119 cells) (ha : a < 8) (hb : b < 4) (hz : cells[8 + b]? = some (.complex .f64 p q)) (z0 : Value) (hx : cells[a]? = some z0)
    (hge : (FloatKind.f64.format.order q 13970166044103278592 == some .gt || FloatKind.f64.format.order q 13970166044103278592 == some .eq) = true)
    (hle : (FloatKind.f64.format.order q 4746794007244308480 == some .lt || FloatKind.f64.format.order q 4746794007244308480 == some .eq) = true)
    (hne : (FloatKind.f64.format.order q y != some .eq) = false) (hcv : ∀ w,(convert 146 21 (.float .f64 q)).run Tryd.prog w = .ok (.int .i32 m) w)
    (Htr : Hid (∀ W,Calls Tryd.prog 85 #[.float .f64 q] W fun e w' => e = .returned (.float .f64 y) ∧ W = w')) (hnm : opName op = [122,105,109]) :
    Calls Tryd.prog 61 #[.pointer (some ⟨g,0,none⟩),.agg #[.int .i64 op,.int .i64 a,.int .i64 b,.int .i32 n,.int .i64 f]] w fun e w' => e = .returned (.agg #[.int .i64 0,.int .i64 0,.int .u32 0]) ∧ CW w g (cells.set a (.int .i32 m)) w' := by
  have hg := hB.lt
  have Hn := Lib.hid (fun w hT => hnm ▸ cname_any op w hT)
  have HB := Lib.hid hB
  have hBb : (b : Int) < 4 := by omega
  have qz : ((w.alloc (.cells #[.int .i64 op,.int .i64 a,.int .i64 b,.int .i32 n,.int .i64 f] 25)).alloc (.cells #[.int .i64 0,.int .i64 0,.int .u32 0] 56)).cell? ⟨g,8 + b,none⟩ = some (.complex .f64 p q) := by
    rw [World.cell?_alloc_lt _ _ ⟨g,8 + b,none⟩ (by simp; omega),World.cell?_alloc_lt _ _ ⟨g,8 + b,none⟩ hg]; exact (hB.cell (8 + b)).trans hz
  have hX0 : Blk ((w.alloc (.cells #[.int .i64 op,.int .i64 a,.int .i64 b,.int .i32 n,.int .i64 f] 25)).alloc (.cells #[.int .i64 0,.int .i64 0,.int .u32 0] 56)) (w.heap.size + 1) 56 [.int .i64 0,.int .i64 0,.int .u32 0] := by
    have := Blk.new (w.alloc (.cells #[.int .i64 op,.int .i64 a,.int .i64 b,.int .i32 n,.int .i64 f] 25)) 56 [.int .i64 0,.int .i64 0,.int .u32 0]
    rw [World.size_alloc] at this
    exact this
  have hI0 : Blk ((w.alloc (.cells #[.int .i64 op,.int .i64 a,.int .i64 b,.int .i32 n,.int .i64 f] 25)).alloc (.cells #[.int .i64 0,.int .i64 0,.int .u32 0] 56)) w.heap.size 25 [.int .i64 op,.int .i64 a,.int .i64 b,.int .i32 n,.int .i64 f] := (Blk.new w 25 [.int .i64 op,.int .i64 a,.int .i64 b,.int .i32 n,.int .i64 f]).alloc _
  have Hz := Lib.hid hz
  have Hx := Lib.hid hx
  clear hB hz hx
  go_enter Tryd.func61,Tryd.ntmps61
  go_wp2_with fail
  go_quiet (fail)
  have hX1 : Blk (((w.alloc (.cells #[.int .i64 op,.int .i64 a,.int .i64 b,.int .i32 n,.int .i64 f] 25)).alloc (.cells #[.int .i64 0,.int .i64 0,.int .u32 0] 56)).drewN nq) (w.heap.size + 1) 56 [.int .i64 0,.int .i64 0,.int .u32 0] := hX0
  have hI1 : Blk (((w.alloc (.cells #[.int .i64 op,.int .i64 a,.int .i64 b,.int .i32 n,.int .i64 f] 25)).alloc (.cells #[.int .i64 0,.int .i64 0,.int .u32 0] 56)).drewN nq) w.heap.size 25 [.int .i64 op,.int .i64 a,.int .i64 b,.int .i32 n,.int .i64 f] := hI0
  go_wp2_with (first
    | (go_at_call 82; refine (Hn.out _ (((hT.alloc _).alloc _).drewN nq)).mono ?_; rintro e w2 ⟨rfl,hb2⟩; have hC2 := ((((CW.start HB.out).alloc _).alloc _).drewN nq).below hb2; have hX2 := hX1.below hb2 hX1.lt; have hI2 := hI1.below hb2 hI1.lt; have i0 := hI2.cell 0; have i2 := hI2.cell 2; simp only [List.getElem?_cons_zero,List.getElem?_cons_succ] at i0 i2; have c2 := (hC2.blk.cell (8 + b)).trans Hz.out; have hz2 := hC2.blk.lt)
    | (go_at_call 85; refine (Htr.out _).mono ?_; rintro e w4 ⟨rfl,rfl⟩)
    | fail)
  go_quiet (fail)
  go_wp2_with (first
    | (go_at_call 85; refine (Htr.out _).mono ?_; rintro e w4 ⟨rfl,rfl⟩)
    | fail)
  refine wp_region_swap (ops' := ptR6) (by kernel_rfl) (pt_r6 g w.heap.size a q m _ _ _ _ _ _ _ _ _ _ _ _ _ _ _ _ _ _ _ _ _ _ _ _ _ _ _ _ _ _ _ _ _ _ _ _ _ _ _ _ _ _ _ _ _ _ _ _ ha (by omega) (hI2.cell 1) z0 ((hC2.blk.cell a).trans Hx.out) (hC2.blk.free _) hcv ?_)
  intro UN UO UP UQ UR US UT UU
  have hX3 : ∀ k,Blk (w2.drewN k) (w.heap.size + 1) 56 [.int .i64 0,.int .i64 0,.int .u32 0] := fun k => hX2
  go_wp2_with (first
    | ((with_reducible show wpList _ _ _ (Oper.mk none (Op.store _ (Operand.tmp 4) (Operand.tmp 48)) _ _ _ _ :: _) _ _); refine wpList_st3 ((hX3 _).other (by show w.heap.size + 1 ≠ g; omega)) rfl 56 (.tmp 4) (.tmp 48) (.int .i64 0) (.int .i64 0) (.int .u32 0) rfl (by kernel_rfl) (by kernel_rfl) (by simp [Value.oneCell']) (by kernel_rfl) ?_; rintro ⟨z0,z1,z2⟩)
    | fail)
  refine bodyPost_ret (v := .agg #[.int .i64 0,.int .i64 0,.int .u32 0]) (by simp [results,Tryd.results61,go_sem,z0,z1,z2]) rfl ⟨rfl,?_⟩
  exact CW.farCells (by omega) _ _ _ ((hC2.drewN _).setReg a _)
end Go.Proofs.YthcjnkakfpmpbaaDoor
namespace Go.Proofs.YthcjnkakfpmpbaaDoor
open Go.RowKit
set_option linter.unusedVariables false
set_option linter.unusedSimpArgs false
set_option maxRecDepth 20000 in
set_option maxHeartbeats 2000000 in
theorem one_neg (op b n f : Int) (a : Nat) (x : Int) (w : World) (g : Nat) (cells : List Value) (hT : TabIs 0 w) (htg : 0 ≠ g) (hB : Blk w g 119 cells) (ha : a < 8) (hx : cells[a]? = some (.int .i32 x)) (hx0 : -2147483648 ≤ x) (hx1 : x ≤ 2147483647) (hnm : opName op = [110,101,103]) :
    Calls Tryd.prog 59 #[.pointer (some ⟨g,0,none⟩),.agg #[.int .i64 op,.int .i64 a,.int .i64 b,.int .i32 n,.int .i64 f]] w fun e w' => e = .returned (.agg #[.int .i64 0,.int .i64 0,.int .u32 0]) ∧ CW w g (cells.set a (.int .i32 (wrap32 (-x)))) w' := by
  have hg := hB.lt
  have Hn := Lib.hid (fun w hT => hnm ▸ cname_any op w hT)
  have HB := Lib.hid hB
  have Hx := Lib.hid hx
  clear hB hx
  have hX0 : Blk ((w.alloc (.cells #[.int .i64 op,.int .i64 a,.int .i64 b,.int .i32 n,.int .i64 f] 25)).alloc (.cells #[.int .i64 0,.int .i64 0,.int .u32 0] 56)) (w.heap.size + 1) 56 [.int .i64 0,.int .i64 0,.int .u32 0] := by
    have := Blk.new (w.alloc (.cells #[.int .i64 op,.int .i64 a,.int .i64 b,.int .i32 n,.int .i64 f] 25)) 56 [.int .i64 0,.int .i64 0,.int .u32 0]
    rw [World.size_alloc] at this
    exact this
  go_enter Tryd.func59,Tryd.ntmps59
  go_wp2_with fail
  go_quiet (fail)
  have hX1 : Blk (((w.alloc (.cells #[.int .i64 op,.int .i64 a,.int .i64 b,.int .i32 n,.int .i64 f] 25)).alloc (.cells #[.int .i64 0,.int .i64 0,.int .u32 0] 56)).drewN nq) (w.heap.size + 1) 56 [.int .i64 0,.int .i64 0,.int .u32 0] := hX0
  go_wp2_with (first
    | (go_at_call 82; refine (Hn.out _ (((hT.alloc _).alloc _).drewN nq)).mono ?_; rintro e w2 ⟨rfl,hb2⟩; have hC2 := ((((CW.start HB.out).alloc _).alloc _).drewN nq).below hb2; have hX2 := hX1.below hb2 hX1.lt; have q2 := (hC2.blk.cell a).trans Hx.out; have f2 := hC2.blk.free a; have HC2 := Lib.hid hC2; clear hC2)
    | ((with_reducible show wpList _ _ _ (Oper.mk none (Op.store _ (Operand.tmp 4) (Operand.tmp 136)) _ _ _ _ :: _) _ _); refine wpList_st3 (hX2.other (by show w.heap.size + 1 ≠ g; omega)) rfl 56 (.tmp 4) (.tmp 136) (.int .i64 0) (.int .i64 0) (.int .u32 0) rfl (by kernel_rfl) (by kernel_rfl) (by simp [Value.oneCell']) (by kernel_rfl) ?_; rintro ⟨z0,z1,z2⟩)
    | fail)
  have e1 : (if IntKind.i32.signed = true then (-1 : Int) else IntKind.i32.max) = -1 := rfl
  (try rw [e1] at z0 z1 z2)
  (try rw [e1])
  clear e1
  refine bodyPost_ret (v := .agg #[.int .i64 0,.int .i64 0,.int .u32 0]) (by simp [results,Tryd.results59,go_sem,z0,z1,z2]) rfl ⟨rfl,?_⟩
  exact CW.farCells (by omega) _ _ _ (HC2.out.setReg a _)
set_option maxRecDepth 20000 in
set_option maxHeartbeats 2000000 in
theorem one_not (op b n f : Int) (a : Nat) (x : Int) (w : World) (g : Nat) (cells : List Value) (hT : TabIs 0 w) (htg : 0 ≠ g) (hB : Blk w g 119 cells) (ha : a < 8) (hx : cells[a]? = some (.int .i32 x)) (hx0 : -2147483648 ≤ x) (hx1 : x ≤ 2147483647) (hnm : opName op = [110,111,116]) :
    Calls Tryd.prog 59 #[.pointer (some ⟨g,0,none⟩),.agg #[.int .i64 op,.int .i64 a,.int .i64 b,.int .i32 n,.int .i64 f]] w fun e w' => e = .returned (.agg #[.int .i64 0,.int .i64 0,.int .u32 0]) ∧ CW w g (cells.set a (.int .i32 (bits BinOp.xor IntKind.i32 (-1) x))) w' := by
  have hg := hB.lt
  have Hn := Lib.hid (fun w hT => hnm ▸ cname_any op w hT)
  have HB := Lib.hid hB
  have Hx := Lib.hid hx
  clear hB hx
  have hX0 : Blk ((w.alloc (.cells #[.int .i64 op,.int .i64 a,.int .i64 b,.int .i32 n,.int .i64 f] 25)).alloc (.cells #[.int .i64 0,.int .i64 0,.int .u32 0] 56)) (w.heap.size + 1) 56 [.int .i64 0,.int .i64 0,.int .u32 0] := by
    have := Blk.new (w.alloc (.cells #[.int .i64 op,.int .i64 a,.int .i64 b,.int .i32 n,.int .i64 f] 25)) 56 [.int .i64 0,.int .i64 0,.int .u32 0]
    rw [World.size_alloc] at this
    exact this
  go_enter Tryd.func59,Tryd.ntmps59
  go_wp2_with fail
  go_quiet (fail)
  have hX1 : Blk (((w.alloc (.cells #[.int .i64 op,.int .i64 a,.int .i64 b,.int .i32 n,.int .i64 f] 25)).alloc (.cells #[.int .i64 0,.int .i64 0,.int .u32 0] 56)).drewN nq) (w.heap.size + 1) 56 [.int .i64 0,.int .i64 0,.int .u32 0] := hX0
  go_wp2_with (first
    | (go_at_call 82; refine (Hn.out _ (((hT.alloc _).alloc _).drewN nq)).mono ?_; rintro e w2 ⟨rfl,hb2⟩; have hC2 := ((((CW.start HB.out).alloc _).alloc _).drewN nq).below hb2; have hX2 := hX1.below hb2 hX1.lt; have q2 := (hC2.blk.cell a).trans Hx.out; have f2 := hC2.blk.free a; have HC2 := Lib.hid hC2; clear hC2)
    | ((with_reducible show wpList _ _ _ (Oper.mk none (Op.store _ (Operand.tmp 4) (Operand.tmp 136)) _ _ _ _ :: _) _ _); refine wpList_st3 (hX2.other (by show w.heap.size + 1 ≠ g; omega)) rfl 56 (.tmp 4) (.tmp 136) (.int .i64 0) (.int .i64 0) (.int .u32 0) rfl (by kernel_rfl) (by kernel_rfl) (by simp [Value.oneCell']) (by kernel_rfl) ?_; rintro ⟨z0,z1,z2⟩)
    | fail)
  have e1 : (if IntKind.i32.signed = true then (-1 : Int) else IntKind.i32.max) = -1 := rfl
  (try rw [e1] at z0 z1 z2)
  (try rw [e1])
  clear e1
  refine bodyPost_ret (v := .agg #[.int .i64 0,.int .i64 0,.int .u32 0]) (by simp [results,Tryd.results59,go_sem,z0,z1,z2]) rfl ⟨rfl,?_⟩
  exact CW.farCells (by omega) _ _ _ (HC2.out.setReg a _)
theorem reg_any (a : Nat) (x : Int) (w : World) (g : Nat) (cells : List Value) (hB : Blk w g 119 cells) (ha : a < 8) (hx : cells[a]? = some (.int .i32 x)) :
    Calls Tryd.prog 28 #[.pointer (some ⟨g,0,none⟩),.int .i64 a] w fun e w' => e = .returned (.int .i32 x) ∧ w = w' := by
  have q := (hB.cell a).trans hx
  have hA : (a : Int) < 8 := by omega
  clear hB hx
  go_enter Tryd.func28,Tryd.ntmps28
  go_wp2_with fail
  go_ret
  exact ⟨rfl,rfl⟩
end Go.Proofs.YthcjnkakfpmpbaaDoor
