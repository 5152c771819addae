import Derived.Test.YthcjnkakfpmpbaaDoorQ4
import Derived.Test.YthcjnkakfpmpbaaDoorQ10
import Derived.Deep.QuietTactic
import Derived.BigQuiet
namespace Go.Proofs.YthcjnkakfpmpbaaDoor
open Go.RowKit
set_option linter.unusedVariables false
set_option linter.unusedSimpArgs false
noncomputable def doR17 : Array Oper := regOf Tryd.f26.body 17
set_option maxRecDepth 100000 in
set_option maxHeartbeats 4000000 in
theorem do_r17 (g I a : Nat) (n word x : Int) (u1 u3 u4 u5 u7 u8 u9 Ua Ub Uc Ud Ue Uf Ug Uh Ui Uj Uk Ul Um Un Uo Up Uq Ur Us Ut Uu Uv Uw Ux Uy Uz UA UB UC UD UE UF UG UH UI UJ UK UL UM UN UO UP UQ UR US UT UU UV UW UX UY UZ U0 U1 U2 U3 U4 U5 U6 U7 U8 U9 Ya Yb : Value) (W : World) (Q : Exit → Act → World → Prop) (ha : a < 8) (hgI : g ≠ I) (p1 : W.cell? ⟨I,1,none⟩ = some (.int .i64 a)) (p3 : W.cell? ⟨I,3,none⟩ = some (.int .i32 n))
    (q : W.cell? ⟨g,a,none⟩ = some (.int .i32 x)) (fz : W.frozen? ⟨g,a,none⟩ = false)
    (hQ : ∀ (Yc Yd Ye Yf Yg Yh Yi Yj : Value),Q .normal { tmps := #[.pointer (some ⟨g,0,none⟩),u1,.int .i32 word,u3,u4,u5,.pointer (some ⟨I,0,none⟩),u7,u8,u9,Ua,Ub,Uc,Ud,Ue,Uf,Ug,Uh,Ui,Uj,Uk,Ul,Um,Un,Uo,Up,Uq,Ur,Us,Ut,Uu,Uv,Uw,Ux,Uy,Uz,UA,UB,UC,UD,UE,UF,UG,UH,UI,UJ,UK,UL,UM,UN,UO,Yc,Yd,Ye,Yf,Yg,Yh,Yi,Yj,UX,UY,UZ,U0,U1,U2,U3,U4,U5,U6,U7,U8,U9,Ya,Yb],defers := [] } ((W.drewN 1).setCell ⟨g,a,none⟩ (.int .i32 n))) :
    (Code.region 17 doR17 true).wp Tryd.prog Q { tmps := #[.pointer (some ⟨g,0,none⟩),u1,.int .i32 word,u3,u4,u5,.pointer (some ⟨I,0,none⟩),u7,u8,u9,Ua,Ub,Uc,Ud,Ue,Uf,Ug,Uh,Ui,Uj,Uk,Ul,Um,Un,Uo,Up,Uq,Ur,Us,Ut,Uu,Uv,Uw,Ux,Uy,Uz,UA,UB,UC,UD,UE,UF,UG,UH,UI,UJ,UK,UL,UM,UN,UO,UP,UQ,UR,US,UT,UU,UV,UW,UX,UY,UZ,U0,U1,U2,U3,U4,U5,U6,U7,U8,U9,Ya,Yb],defers := [] } W := by
  have hA : (a : Int) < 8 := by omega
  refine held_start (ops' := doR17) (l0 := #[false,false,false,false,false,false,false,false,false]) (S := fun w' => (w'.cell? ⟨I,1,none⟩ = some (.int .i64 a) ∧ w'.cell? ⟨I,3,none⟩ = some (.int .i32 n)) ∧ (∃ x,w'.cell? ⟨g,a,none⟩ = some x) ∧ w'.frozen? ⟨g,a,none⟩ = false) (by kernel_rfl) (by kernel_rfl) (by kernel_rfl) (by kernel_rfl) ⟨⟨p1,p3⟩,⟨_,q⟩,fz⟩ (fun R hR => ?_)
  (refine held_take (v := ?_) (d := some 51) 0 (by kernel_rfl) (by kernel_rfl) rfl ?_ ?_
   rotate_left
   · intro w hSw
     conv in opOf _ _ => whnf
     (obtain ⟨⟨s1,s3⟩,⟨sx,s4⟩,s5⟩ := hSw)
     go_simp
     try (with_reducible rfl)
   try simp only [Act.put,List.setIfInBounds_toArray,List.set_cons_zero,List.set_cons_succ])
  (refine held_take (v := ?_) (d := some 52) 1 (by kernel_rfl) (by kernel_rfl) rfl ?_ ?_
   rotate_left
   · intro w hSw
     conv in opOf _ _ => whnf
     (obtain ⟨⟨s1,s3⟩,⟨sx,s4⟩,s5⟩ := hSw)
     go_simp
     try (with_reducible rfl)
   try simp only [Act.put,List.setIfInBounds_toArray,List.set_cons_zero,List.set_cons_succ])
  (refine held_take (v := ?_) (d := some 53) 2 (by kernel_rfl) (by kernel_rfl) rfl ?_ ?_
   rotate_left
   · intro w hSw
     conv in opOf _ _ => whnf
     (obtain ⟨⟨s1,s3⟩,⟨sx,s4⟩,s5⟩ := hSw)
     go_simp
     try (with_reducible rfl)
   try simp only [Act.put,List.setIfInBounds_toArray,List.set_cons_zero,List.set_cons_succ])
  (refine held_take (v := ?_) (d := some 54) 3 (by kernel_rfl) (by kernel_rfl) rfl ?_ ?_
   rotate_left
   · intro w hSw
     conv in opOf _ _ => whnf
     (obtain ⟨⟨s1,s3⟩,⟨sx,s4⟩,s5⟩ := hSw)
     go_simp
     try (with_reducible rfl)
   try simp only [Act.put,List.setIfInBounds_toArray,List.set_cons_zero,List.set_cons_succ])
  (refine held_take (v := ?_) (d := some 55) 4 (by kernel_rfl) (by kernel_rfl) rfl ?_ ?_
   rotate_left
   · intro w hSw
     conv in opOf _ _ => whnf
     (obtain ⟨⟨s1,s3⟩,⟨sx,s4⟩,s5⟩ := hSw)
     go_simp
     try (with_reducible rfl)
   try simp only [Act.put,List.setIfInBounds_toArray,List.set_cons_zero,List.set_cons_succ])
  (refine held_take (v := ?_) (d := some 56) 5 (by kernel_rfl) (by kernel_rfl) rfl ?_ ?_
   rotate_left
   · intro w hSw
     conv in opOf _ _ => whnf
     (obtain ⟨⟨s1,s3⟩,⟨sx,s4⟩,s5⟩ := hSw)
     go_simp
     try (with_reducible rfl)
   try simp only [Act.put,List.setIfInBounds_toArray,List.set_cons_zero,List.set_cons_succ])
  (refine held_take (v := ?_) (d := some 57) 6 (by kernel_rfl) (by kernel_rfl) rfl ?_ ?_
   rotate_left
   · intro w hSw
     conv in opOf _ _ => whnf
     (obtain ⟨⟨s1,s3⟩,⟨sx,s4⟩,s5⟩ := hSw)
     go_simp
     try (with_reducible rfl)
   try simp only [Act.put,List.setIfInBounds_toArray,List.set_cons_zero,List.set_cons_succ])
  (refine held_take (v := ?_) (d := some 58) 7 (by kernel_rfl) (by kernel_rfl) rfl ?_ ?_
   rotate_left
   · intro w hSw
     conv in opOf _ _ => whnf
     (obtain ⟨⟨s1,s3⟩,⟨sx,s4⟩,s5⟩ := hSw)
     go_simp
     try (with_reducible rfl)
   try simp only [Act.put,List.setIfInBounds_toArray,List.set_cons_zero,List.set_cons_succ])
  refine held_one 8 (by kernel_rfl) (by kernel_rfl) (held_mute (w' := ?_) (d := none) 8 (by kernel_rfl) (by kernel_rfl) rfl ?_ ?_)
  rotate_left 1
  · rintro ⟨⟨s1,s3⟩,⟨sx,s4⟩,s5⟩
    conv in opOf _ _ => whnf
    go_simp
    first | done | (with_reducible rfl)
  intro hS
  refine ⟨⟨⟨(World.cell?_setCell_other _ _ _ _ (by first | (simp; done) | (simp; omega))).trans hS.1.1,(World.cell?_setCell_other _ _ _ _ (by first | (simp; done) | (simp; omega))).trans hS.1.2⟩,⟨_,World.cell?_setCell_same' _ _ _ (by obtain ⟨y,hy⟩ := hS.2.1; have hy' : W.cell? ⟨g,a,none⟩ = some y := hy; simp [hy'])⟩,by simpa using hS.2.2⟩,?_⟩
  try simp only [Act.put,List.setIfInBounds_toArray,List.set_cons_zero,List.set_cons_succ]
  refine held_done (by kernel_rfl) (fun hS => hR.out _ _ ?_)
  exact hQ _ _ _ _ _ _ _ _
noncomputable def doR19 : Array Oper := regOf Tryd.f26.body 19
set_option maxRecDepth 100000 in
set_option maxHeartbeats 4000000 in
theorem do_r19 (g I a : Nat) (n word x : Int) (u1 u3 u4 u5 u7 u8 u9 Ua Ub Uc Ud Ue Uf Ug Uh Ui Uj Uk Ul Um Un Uo Up Uq Ur Us Ut Uu Uv Uw Ux Uy Uz UA UB UC UD UE UF UG UH UI UJ UK UL UM UN UO UP UQ UR US UT UU UV UW UX UY UZ U0 U1 U2 U3 U4 U5 U6 U7 U8 U9 Ya Yb : Value) (W : World) (Q : Exit → Act → World → Prop) (ha : a < 8) (hgI : g ≠ I) (p1 : W.cell? ⟨I,1,none⟩ = some (.int .i64 a)) (p3 : W.cell? ⟨I,3,none⟩ = some (.int .i32 n))
    (q : W.cell? ⟨g,a,none⟩ = some (.int .i32 x)) (fz : W.frozen? ⟨g,a,none⟩ = false)
    (hQ : ∀ (Yk Yl Ym Yn Yo Yp Yq : Value),Q .normal { tmps := #[.pointer (some ⟨g,0,none⟩),u1,.int .i32 word,u3,u4,u5,.pointer (some ⟨I,0,none⟩),u7,u8,u9,Ua,Ub,Uc,Ud,Ue,Uf,Ug,Uh,Ui,Uj,Uk,Ul,Um,Un,Uo,Up,Uq,Ur,Us,Ut,Uu,Uv,Uw,Ux,Uy,Uz,UA,UB,UC,UD,UE,UF,UG,UH,UI,UJ,UK,UL,UM,UN,UO,UP,UQ,UR,US,UT,UU,UV,UW,UX,UY,Yk,Yl,Ym,Yn,Yo,Yp,Yq,U6,U7,U8,U9,Ya,Yb],defers := [] } ((W.drewN 1).setCell ⟨g,a,none⟩ (.int .i32 word))) :
    (Code.region 19 doR19 true).wp Tryd.prog Q { tmps := #[.pointer (some ⟨g,0,none⟩),u1,.int .i32 word,u3,u4,u5,.pointer (some ⟨I,0,none⟩),u7,u8,u9,Ua,Ub,Uc,Ud,Ue,Uf,Ug,Uh,Ui,Uj,Uk,Ul,Um,Un,Uo,Up,Uq,Ur,Us,Ut,Uu,Uv,Uw,Ux,Uy,Uz,UA,UB,UC,UD,UE,UF,UG,UH,UI,UJ,UK,UL,UM,UN,UO,UP,UQ,UR,US,UT,UU,UV,UW,UX,UY,UZ,U0,U1,U2,U3,U4,U5,U6,U7,U8,U9,Ya,Yb],defers := [] } W := by
  have hA : (a : Int) < 8 := by omega
  refine held_start (ops' := doR19) (l0 := #[false,false,false,false,false,false,false,false]) (S := fun w' => (w'.cell? ⟨I,1,none⟩ = some (.int .i64 a) ∧ w'.cell? ⟨I,3,none⟩ = some (.int .i32 n)) ∧ (∃ x,w'.cell? ⟨g,a,none⟩ = some x) ∧ w'.frozen? ⟨g,a,none⟩ = false) (by kernel_rfl) (by kernel_rfl) (by kernel_rfl) (by kernel_rfl) ⟨⟨p1,p3⟩,⟨_,q⟩,fz⟩ (fun R hR => ?_)
  (refine held_take (v := ?_) (d := some 61) 0 (by kernel_rfl) (by kernel_rfl) rfl ?_ ?_
   rotate_left
   · intro w hSw
     conv in opOf _ _ => whnf
     (obtain ⟨⟨s1,s3⟩,⟨sx,s4⟩,s5⟩ := hSw)
     go_simp
     try (with_reducible rfl)
   try simp only [Act.put,List.setIfInBounds_toArray,List.set_cons_zero,List.set_cons_succ])
  (refine held_take (v := ?_) (d := some 62) 1 (by kernel_rfl) (by kernel_rfl) rfl ?_ ?_
   rotate_left
   · intro w hSw
     conv in opOf _ _ => whnf
     (obtain ⟨⟨s1,s3⟩,⟨sx,s4⟩,s5⟩ := hSw)
     go_simp
     try (with_reducible rfl)
   try simp only [Act.put,List.setIfInBounds_toArray,List.set_cons_zero,List.set_cons_succ])
  (refine held_take (v := ?_) (d := some 63) 2 (by kernel_rfl) (by kernel_rfl) rfl ?_ ?_
   rotate_left
   · intro w hSw
     conv in opOf _ _ => whnf
     (obtain ⟨⟨s1,s3⟩,⟨sx,s4⟩,s5⟩ := hSw)
     go_simp
     try (with_reducible rfl)
   try simp only [Act.put,List.setIfInBounds_toArray,List.set_cons_zero,List.set_cons_succ])
  (refine held_take (v := ?_) (d := some 64) 3 (by kernel_rfl) (by kernel_rfl) rfl ?_ ?_
   rotate_left
   · intro w hSw
     conv in opOf _ _ => whnf
     (obtain ⟨⟨s1,s3⟩,⟨sx,s4⟩,s5⟩ := hSw)
     go_simp
     try (with_reducible rfl)
   try simp only [Act.put,List.setIfInBounds_toArray,List.set_cons_zero,List.set_cons_succ])
  (refine held_take (v := ?_) (d := some 65) 4 (by kernel_rfl) (by kernel_rfl) rfl ?_ ?_
   rotate_left
   · intro w hSw
     conv in opOf _ _ => whnf
     (obtain ⟨⟨s1,s3⟩,⟨sx,s4⟩,s5⟩ := hSw)
     go_simp
     try (with_reducible rfl)
   try simp only [Act.put,List.setIfInBounds_toArray,List.set_cons_zero,List.set_cons_succ])
  (refine held_take (v := ?_) (d := some 66) 5 (by kernel_rfl) (by kernel_rfl) rfl ?_ ?_
   rotate_left
   · intro w hSw
     conv in opOf _ _ => whnf
     (obtain ⟨⟨s1,s3⟩,⟨sx,s4⟩,s5⟩ := hSw)
     go_simp
     try (with_reducible rfl)
   try simp only [Act.put,List.setIfInBounds_toArray,List.set_cons_zero,List.set_cons_succ])
  (refine held_take (v := ?_) (d := some 67) 6 (by kernel_rfl) (by kernel_rfl) rfl ?_ ?_
   rotate_left
   · intro w hSw
     conv in opOf _ _ => whnf
     (obtain ⟨⟨s1,s3⟩,⟨sx,s4⟩,s5⟩ := hSw)
     go_simp
     try (with_reducible rfl)
   try simp only [Act.put,List.setIfInBounds_toArray,List.set_cons_zero,List.set_cons_succ])
  refine held_one 7 (by kernel_rfl) (by kernel_rfl) (held_mute (w' := ?_) (d := none) 7 (by kernel_rfl) (by kernel_rfl) rfl ?_ ?_)
  rotate_left 1
  · rintro ⟨⟨s1,s3⟩,⟨sx,s4⟩,s5⟩
    conv in opOf _ _ => whnf
    go_simp
    first | done | (with_reducible rfl)
  intro hS
  refine ⟨⟨⟨(World.cell?_setCell_other _ _ _ _ (by first | (simp; done) | (simp; omega))).trans hS.1.1,(World.cell?_setCell_other _ _ _ _ (by first | (simp; done) | (simp; omega))).trans hS.1.2⟩,⟨_,World.cell?_setCell_same' _ _ _ (by obtain ⟨y,hy⟩ := hS.2.1; have hy' : W.cell? ⟨g,a,none⟩ = some y := hy; simp [hy'])⟩,by simpa using hS.2.2⟩,?_⟩
  try simp only [Act.put,List.setIfInBounds_toArray,List.set_cons_zero,List.set_cons_succ]
  refine held_done (by kernel_rfl) (fun hS => hR.out _ _ ?_)
  exact hQ _ _ _ _ _ _ _
set_option maxRecDepth 20000 in
set_option maxHeartbeats 2000000 in
theorem do_two (op f n word from_ : Int) (a b : Int) (M : Value) (K T To : Int) (w : World) (g : Nat) (cells cells' : List Value) (hT : TabIs 0 w) (htg : 0 ≠ g) (hB : Blk w g 119 cells) (hn : -2147483648 ≤ n ∧ n ≤ 2147483647) (hc : checkR op a b n f = 0) (hs : opShape op = 4)
    (H : Hid (∀ W,TabIs 0 W → Blk W g 119 cells → Calls Tryd.prog 60 #[.pointer (some ⟨g,0,none⟩),.agg #[.int .i64 op,.int .i64 a,.int .i64 b,.int .i32 n,.int .i64 f],M,.int .i64 from_] W fun e w' => e = .returned (.agg #[.int .i64 K,.int .i64 T,.int .u32 To]) ∧ CW W g cells' w')) :
    Calls Tryd.prog 26 #[.pointer (some ⟨g,0,none⟩),.agg #[.int .i64 op,.int .i64 a,.int .i64 b,.int .i32 n,.int .i64 f],.int .i32 word,M,.int .i64 from_] w fun e w' => e = .returned (.agg #[.int .i64 K,.int .i64 T,.int .u32 To]) ∧ CW w g (cells') w' := by
  have hg := hB.lt
  obtain ⟨hiop,_,_,_⟩ := checkR_parts hc
  have hch : ∀ w,TabIs 0 w → Calls Tryd.prog 46 #[.agg #[.int .i64 op,.int .i64 a,.int .i64 b,.int .i32 n,.int .i64 f]] w fun e w' => e = .returned (.int .i64 0) ∧ Below w.heap.size w w' := fun w hT => hc ▸ check_any op a b n f w hn hT
  have hat : ∀ w,TabIs 0 w → Calls Tryd.prog 54 #[.int .i64 op] w fun e w' => e = .returned (.tuple #[.agg #[.string ⟨(opName op).toArray⟩,.int .u8 (opByte op),.int .i64 4],.bool true]) ∧ Below w.heap.size w w' := fun w hT => hiop ▸ hs ▸ at_any op w hT
  have Hch := Lib.hid hch
  have Hat := Lib.hid hat
  have HB := Lib.hid hB
  have hI0 : Blk ((w.alloc (.cells #[.int .i64 op,.int .i64 a,.int .i64 b,.int .i32 n,.int .i64 f] 25)).alloc (.cells #[.int .i64 0,.int .i64 0,.int .u32 0] 56)) w.heap.size 25 [.int .i64 op,.int .i64 a,.int .i64 b,.int .i32 n,.int .i64 f] := (Blk.new w 25 [.int .i64 op,.int .i64 a,.int .i64 b,.int .i32 n,.int .i64 f]).alloc _
  have hX0 : Blk ((w.alloc (.cells #[.int .i64 op,.int .i64 a,.int .i64 b,.int .i32 n,.int .i64 f] 25)).alloc (.cells #[.int .i64 0,.int .i64 0,.int .u32 0] 56)) (w.heap.size + 1) 56 [.int .i64 0,.int .i64 0,.int .u32 0] := by
    have := Blk.new (w.alloc (.cells #[.int .i64 op,.int .i64 a,.int .i64 b,.int .i32 n,.int .i64 f] 25)) 56 [.int .i64 0,.int .i64 0,.int .u32 0]
    rw [World.size_alloc] at this
    exact this
  generalize opName op = nm at Hat
  generalize opByte op = by_ at Hat
  clear hch hat hB hc hiop hs hn
  go_enter Tryd.func26,Tryd.ntmps26
  go_wp2_with (first
    | (go_at_call 46; refine (Hch.out _ ((hT.alloc _).alloc _)).mono ?_; rintro e w2 ⟨rfl,hb2⟩; have hC2 := (((CW.start HB.out).alloc (.cells #[.int .i64 op,.int .i64 a,.int .i64 b,.int .i32 n,.int .i64 f] 25)).alloc (.cells #[.int .i64 0,.int .i64 0,.int .u32 0] 56)).below hb2; have hI2 := hI0.below hb2 hI0.lt; have hX2 := hX0.below hb2 hX0.lt; have p0 := hI2.cell 0; simp only [List.getElem?_cons_zero] at p0; have HC2 := Lib.hid hC2; clear hC2)
    | (go_at_call 54; refine (Hat.out _ (HC2.out.tab hT htg)).mono ?_; rintro e w3 ⟨rfl,hb3⟩; have hC3 := HC2.out.below hb3; have hI3 := hI2.below hb3 hI2.lt; have hX3 := hX2.below hb3 hX2.lt; have r0 := hI3.cell 0; have r1 := hI3.cell 1; have r2 := hI3.cell 2; have r3 := hI3.cell 3; have r4 := hI3.cell 4; simp only [List.getElem?_cons_zero,List.getElem?_cons_succ] at r0 r1 r2 r3 r4; have hz3 := hI3.lt; have HC3 := Lib.hid hC3; clear hC3)
    | (go_at_call 60; refine (H.out _ ((HC3.out.tab hT htg).alloc _) (HC3.out.blk.alloc _)).mono ?_; rintro e w5 ⟨rfl,hC5⟩; have hX5 : Blk w5 (w.heap.size + 1) 56 [.int .i64 0,.int .i64 0,.int .u32 0] := (hC5.fr.block _ (by have := hX3.lt; simp; omega) (by show w.heap.size + 1 ≠ g; omega)).trans (hX3.alloc _); have hC6 := (HC3.out.alloc _).trans hC5; have HC6 := Lib.hid hC6; clear hC6 hC5)
    | ((with_reducible show wpList _ _ _ (Oper.mk none (Op.store _ (Operand.tmp 10) (Operand.tmp 47)) _ _ _ _ :: _) _ _); refine wpList_st3 hX5 rfl 56 (.tmp 10) (.tmp 47) (.int .i64 K) (.int .i64 T) (.int .u32 To) rfl (by kernel_rfl) (by kernel_rfl) (by simp [Value.oneCell']) (by kernel_rfl) ?_; rintro ⟨z0,z1,z2⟩)
    | fail)
  refine bodyPost_ret (v := .agg #[.int .i64 K,.int .i64 T,.int .u32 To]) (by simp [results,Tryd.results26,go_sem,z0,z1,z2]) rfl ⟨rfl,?_⟩
  exact CW.farCells (by omega) _ _ _ HC6.out
set_option maxRecDepth 20000 in
set_option maxHeartbeats 2000000 in
theorem do_one (op f n word from_ : Int) (a b : Int) (M : Value) (K T To : Int) (w : World) (g : Nat) (cells cells' : List Value) (hT : TabIs 0 w) (htg : 0 ≠ g) (hB : Blk w g 119 cells) (hn : -2147483648 ≤ n ∧ n ≤ 2147483647) (hc : checkR op a b n f = 0) (hs : opShape op = 2)
    (H : Hid (∀ W,TabIs 0 W → Blk W g 119 cells → Calls Tryd.prog 59 #[.pointer (some ⟨g,0,none⟩),.agg #[.int .i64 op,.int .i64 a,.int .i64 b,.int .i32 n,.int .i64 f]] W fun e w' => e = .returned (.agg #[.int .i64 K,.int .i64 T,.int .u32 To]) ∧ CW W g cells' w')) :
    Calls Tryd.prog 26 #[.pointer (some ⟨g,0,none⟩),.agg #[.int .i64 op,.int .i64 a,.int .i64 b,.int .i32 n,.int .i64 f],.int .i32 word,M,.int .i64 from_] w fun e w' => e = .returned (.agg #[.int .i64 K,.int .i64 T,.int .u32 To]) ∧ CW w g (cells') w' := by
  have hg := hB.lt
  obtain ⟨hiop,_,_,_⟩ := checkR_parts hc
  have hch : ∀ w,TabIs 0 w → Calls Tryd.prog 46 #[.agg #[.int .i64 op,.int .i64 a,.int .i64 b,.int .i32 n,.int .i64 f]] w fun e w' => e = .returned (.int .i64 0) ∧ Below w.heap.size w w' := fun w hT => hc ▸ check_any op a b n f w hn hT
  have hat : ∀ w,TabIs 0 w → Calls Tryd.prog 54 #[.int .i64 op] w fun e w' => e = .returned (.tuple #[.agg #[.string ⟨(opName op).toArray⟩,.int .u8 (opByte op),.int .i64 2],.bool true]) ∧ Below w.heap.size w w' := fun w hT => hiop ▸ hs ▸ at_any op w hT
  have Hch := Lib.hid hch
  have Hat := Lib.hid hat
  have HB := Lib.hid hB
  have hI0 : Blk ((w.alloc (.cells #[.int .i64 op,.int .i64 a,.int .i64 b,.int .i32 n,.int .i64 f] 25)).alloc (.cells #[.int .i64 0,.int .i64 0,.int .u32 0] 56)) w.heap.size 25 [.int .i64 op,.int .i64 a,.int .i64 b,.int .i32 n,.int .i64 f] := (Blk.new w 25 [.int .i64 op,.int .i64 a,.int .i64 b,.int .i32 n,.int .i64 f]).alloc _
  have hX0 : Blk ((w.alloc (.cells #[.int .i64 op,.int .i64 a,.int .i64 b,.int .i32 n,.int .i64 f] 25)).alloc (.cells #[.int .i64 0,.int .i64 0,.int .u32 0] 56)) (w.heap.size + 1) 56 [.int .i64 0,.int .i64 0,.int .u32 0] := by
    have := Blk.new (w.alloc (.cells #[.int .i64 op,.int .i64 a,.int .i64 b,.int .i32 n,.int .i64 f] 25)) 56 [.int .i64 0,.int .i64 0,.int .u32 0]
    rw [World.size_alloc] at this
    exact this
  generalize opName op = nm at Hat
  generalize opByte op = by_ at Hat
  clear hch hat hB hc hiop hs hn
  go_enter Tryd.func26,Tryd.ntmps26
  go_wp2_with (first
    | (go_at_call 46; refine (Hch.out _ ((hT.alloc _).alloc _)).mono ?_; rintro e w2 ⟨rfl,hb2⟩; have hC2 := (((CW.start HB.out).alloc (.cells #[.int .i64 op,.int .i64 a,.int .i64 b,.int .i32 n,.int .i64 f] 25)).alloc (.cells #[.int .i64 0,.int .i64 0,.int .u32 0] 56)).below hb2; have hI2 := hI0.below hb2 hI0.lt; have hX2 := hX0.below hb2 hX0.lt; have p0 := hI2.cell 0; simp only [List.getElem?_cons_zero] at p0; have HC2 := Lib.hid hC2; clear hC2)
    | (go_at_call 54; refine (Hat.out _ (HC2.out.tab hT htg)).mono ?_; rintro e w3 ⟨rfl,hb3⟩; have hC3 := HC2.out.below hb3; have hI3 := hI2.below hb3 hI2.lt; have hX3 := hX2.below hb3 hX2.lt; have r0 := hI3.cell 0; have r1 := hI3.cell 1; have r2 := hI3.cell 2; have r3 := hI3.cell 3; have r4 := hI3.cell 4; simp only [List.getElem?_cons_zero,List.getElem?_cons_succ] at r0 r1 r2 r3 r4; have hz3 := hI3.lt; have HC3 := Lib.hid hC3; clear hC3)
    | (go_at_call 59; refine (H.out _ ((HC3.out.tab hT htg).alloc _) (HC3.out.blk.alloc _)).mono ?_; rintro e w5 ⟨rfl,hC5⟩; have hX5 : Blk w5 (w.heap.size + 1) 56 [.int .i64 0,.int .i64 0,.int .u32 0] := (hC5.fr.block _ (by have := hX3.lt; simp; omega) (by show w.heap.size + 1 ≠ g; omega)).trans (hX3.alloc _); have hC6 := (HC3.out.alloc _).trans hC5; have HC6 := Lib.hid hC6; clear hC6 hC5)
    | ((with_reducible show wpList _ _ _ (Oper.mk none (Op.store _ (Operand.tmp 10) (Operand.tmp 40)) _ _ _ _ :: _) _ _); refine wpList_st3 hX5 rfl 56 (.tmp 10) (.tmp 40) (.int .i64 K) (.int .i64 T) (.int .u32 To) rfl (by kernel_rfl) (by kernel_rfl) (by simp [Value.oneCell']) (by kernel_rfl) ?_; rintro ⟨z0,z1,z2⟩)
    | fail)
  refine bodyPost_ret (v := .agg #[.int .i64 K,.int .i64 T,.int .u32 To]) (by simp [results,Tryd.results26,go_sem,z0,z1,z2]) rfl ⟨rfl,?_⟩
  exact CW.farCells (by omega) _ _ _ HC6.out
set_option maxRecDepth 20000 in
set_option maxHeartbeats 2000000 in
theorem do_part (op f n word from_ : Int) (a b : Int) (M : Value) (K T To : Int) (w : World) (g : Nat) (cells cells' : List Value) (hT : TabIs 0 w) (htg : 0 ≠ g) (hB : Blk w g 119 cells) (hn : -2147483648 ≤ n ∧ n ≤ 2147483647) (hc : checkR op a b n f = 0) (hs : opShape op = 6)
    (H : Hid (∀ W,TabIs 0 W → Blk W g 119 cells → Calls Tryd.prog 61 #[.pointer (some ⟨g,0,none⟩),.agg #[.int .i64 op,.int .i64 a,.int .i64 b,.int .i32 n,.int .i64 f]] W fun e w' => e = .returned (.agg #[.int .i64 K,.int .i64 T,.int .u32 To]) ∧ CW W g cells' w')) :
    Calls Tryd.prog 26 #[.pointer (some ⟨g,0,none⟩),.agg #[.int .i64 op,.int .i64 a,.int .i64 b,.int .i32 n,.int .i64 f],.int .i32 word,M,.int .i64 from_] w fun e w' => e = .returned (.agg #[.int .i64 K,.int .i64 T,.int .u32 To]) ∧ CW w g (cells') w' := by
  have hg := hB.lt
  obtain ⟨hiop,_,_,_⟩ := checkR_parts hc
  have hch : ∀ w,TabIs 0 w → Calls Tryd.prog 46 #[.agg #[.int .i64 op,.int .i64 a,.int .i64 b,.int .i32 n,.int .i64 f]] w fun e w' => e = .returned (.int .i64 0) ∧ Below w.heap.size w w' := fun w hT => hc ▸ check_any op a b n f w hn hT
  have hat : ∀ w,TabIs 0 w → Calls Tryd.prog 54 #[.int .i64 op] w fun e w' => e = .returned (.tuple #[.agg #[.string ⟨(opName op).toArray⟩,.int .u8 (opByte op),.int .i64 6],.bool true]) ∧ Below w.heap.size w w' := fun w hT => hiop ▸ hs ▸ at_any op w hT
  have Hch := Lib.hid hch
  have Hat := Lib.hid hat
  have HB := Lib.hid hB
  have hI0 : Blk ((w.alloc (.cells #[.int .i64 op,.int .i64 a,.int .i64 b,.int .i32 n,.int .i64 f] 25)).alloc (.cells #[.int .i64 0,.int .i64 0,.int .u32 0] 56)) w.heap.size 25 [.int .i64 op,.int .i64 a,.int .i64 b,.int .i32 n,.int .i64 f] := (Blk.new w 25 [.int .i64 op,.int .i64 a,.int .i64 b,.int .i32 n,.int .i64 f]).alloc _
  have hX0 : Blk ((w.alloc (.cells #[.int .i64 op,.int .i64 a,.int .i64 b,.int .i32 n,.int .i64 f] 25)).alloc (.cells #[.int .i64 0,.int .i64 0,.int .u32 0] 56)) (w.heap.size + 1) 56 [.int .i64 0,.int .i64 0,.int .u32 0] := by
    have := Blk.new (w.alloc (.cells #[.int .i64 op,.int .i64 a,.int .i64 b,.int .i32 n,.int .i64 f] 25)) 56 [.int .i64 0,.int .i64 0,.int .u32 0]
    rw [World.size_alloc] at this
    exact this
  generalize opName op = nm at Hat
  generalize opByte op = by_ at Hat
  clear hch hat hB hc hiop hs hn
  go_enter Tryd.func26,Tryd.ntmps26
  go_wp2_with (first
    | (go_at_call 46; refine (Hch.out _ ((hT.alloc _).alloc _)).mono ?_; rintro e w2 ⟨rfl,hb2⟩; have hC2 := (((CW.start HB.out).alloc (.cells #[.int .i64 op,.int .i64 a,.int .i64 b,.int .i32 n,.int .i64 f] 25)).alloc (.cells #[.int .i64 0,.int .i64 0,.int .u32 0] 56)).below hb2; have hI2 := hI0.below hb2 hI0.lt; have hX2 := hX0.below hb2 hX0.lt; have p0 := hI2.cell 0; simp only [List.getElem?_cons_zero] at p0; have HC2 := Lib.hid hC2; clear hC2)
    | (go_at_call 54; refine (Hat.out _ (HC2.out.tab hT htg)).mono ?_; rintro e w3 ⟨rfl,hb3⟩; have hC3 := HC2.out.below hb3; have hI3 := hI2.below hb3 hI2.lt; have hX3 := hX2.below hb3 hX2.lt; have r0 := hI3.cell 0; have r1 := hI3.cell 1; have r2 := hI3.cell 2; have r3 := hI3.cell 3; have r4 := hI3.cell 4; simp only [List.getElem?_cons_zero,List.getElem?_cons_succ] at r0 r1 r2 r3 r4; have hz3 := hI3.lt; have HC3 := Lib.hid hC3; clear hC3)
    | (go_at_call 61; refine (H.out _ ((HC3.out.tab hT htg).alloc _) (HC3.out.blk.alloc _)).mono ?_; rintro e w5 ⟨rfl,hC5⟩; have hX5 : Blk w5 (w.heap.size + 1) 56 [.int .i64 0,.int .i64 0,.int .u32 0] := (hC5.fr.block _ (by have := hX3.lt; simp; omega) (by show w.heap.size + 1 ≠ g; omega)).trans (hX3.alloc _); have hC6 := (HC3.out.alloc _).trans hC5; have HC6 := Lib.hid hC6; clear hC6 hC5)
    | ((with_reducible show wpList _ _ _ (Oper.mk none (Op.store _ (Operand.tmp 10) (Operand.tmp 72)) _ _ _ _ :: _) _ _); refine wpList_st3 hX5 rfl 56 (.tmp 10) (.tmp 72) (.int .i64 K) (.int .i64 T) (.int .u32 To) rfl (by kernel_rfl) (by kernel_rfl) (by simp [Value.oneCell']) (by kernel_rfl) ?_; rintro ⟨z0,z1,z2⟩)
    | fail)
  refine bodyPost_ret (v := .agg #[.int .i64 K,.int .i64 T,.int .u32 To]) (by simp [results,Tryd.results26,go_sem,z0,z1,z2]) rfl ⟨rfl,?_⟩
  exact CW.farCells (by omega) _ _ _ HC6.out
set_option maxRecDepth 20000 in
set_option maxHeartbeats 40000000 in
theorem do_goesA (sh : Int) (hsh3 : sh = 1 ∨ sh = 9 ∨ sh = 12 ∨ sh = 13) (op f n word from_ : Int) (a b : Int) (M : Value) (K T To : Int) (w : World) (g : Nat) (cells cells' : List Value) (hT : TabIs 0 w) (htg : 0 ≠ g) (hB : Blk w g 119 cells) (hn : -2147483648 ≤ n ∧ n ≤ 2147483647) (hc : checkR op a b n f = 0) (hs : opShape op = sh)
    (H : Hid (∀ W,TabIs 0 W → Blk W g 119 cells → Calls Tryd.prog 58 #[.pointer (some ⟨g,0,none⟩),.agg #[.int .i64 op,.int .i64 a,.int .i64 b,.int .i32 n,.int .i64 f]] W fun e w' => e = .returned (.agg #[.int .i64 K,.int .i64 T,.int .u32 To]) ∧ CW W g cells' w')) :
    Calls Tryd.prog 26 #[.pointer (some ⟨g,0,none⟩),.agg #[.int .i64 op,.int .i64 a,.int .i64 b,.int .i32 n,.int .i64 f],.int .i32 word,M,.int .i64 from_] w fun e w' => e = .returned (.agg #[.int .i64 K,.int .i64 T,.int .u32 To]) ∧ CW w g (cells') w' := by
  have hg := hB.lt
  obtain ⟨hiop,_,_,_⟩ := checkR_parts hc
  have hch : ∀ w,TabIs 0 w → Calls Tryd.prog 46 #[.agg #[.int .i64 op,.int .i64 a,.int .i64 b,.int .i32 n,.int .i64 f]] w fun e w' => e = .returned (.int .i64 0) ∧ Below w.heap.size w w' := fun w hT => hc ▸ check_any op a b n f w hn hT
  have hat : ∀ w,TabIs 0 w → Calls Tryd.prog 54 #[.int .i64 op] w fun e w' => e = .returned (.tuple #[.agg #[.string ⟨(opName op).toArray⟩,.int .u8 (opByte op),.int .i64 sh],.bool true]) ∧ Below w.heap.size w w' := fun w hT => hiop ▸ hs ▸ at_any op w hT
  have Hch := Lib.hid hch
  have Hat := Lib.hid hat
  have HB := Lib.hid hB
  have hI0 : Blk ((w.alloc (.cells #[.int .i64 op,.int .i64 a,.int .i64 b,.int .i32 n,.int .i64 f] 25)).alloc (.cells #[.int .i64 0,.int .i64 0,.int .u32 0] 56)) w.heap.size 25 [.int .i64 op,.int .i64 a,.int .i64 b,.int .i32 n,.int .i64 f] := (Blk.new w 25 [.int .i64 op,.int .i64 a,.int .i64 b,.int .i32 n,.int .i64 f]).alloc _
  have hX0 : Blk ((w.alloc (.cells #[.int .i64 op,.int .i64 a,.int .i64 b,.int .i32 n,.int .i64 f] 25)).alloc (.cells #[.int .i64 0,.int .i64 0,.int .u32 0] 56)) (w.heap.size + 1) 56 [.int .i64 0,.int .i64 0,.int .u32 0] := by
    have := Blk.new (w.alloc (.cells #[.int .i64 op,.int .i64 a,.int .i64 b,.int .i32 n,.int .i64 f] 25)) 56 [.int .i64 0,.int .i64 0,.int .u32 0]
    rw [World.size_alloc] at this
    exact this
  generalize opName op = nm at Hat
  generalize opByte op = by_ at Hat
  clear hch hat hB hc hiop hs hn
  rcases hsh3 with rfl | rfl | rfl | rfl
  all_goals
    go_enter Tryd.func26,Tryd.ntmps26
    go_wp2_with (first
      | (go_at_call 46; refine (Hch.out _ ((hT.alloc _).alloc _)).mono ?_; rintro e w2 ⟨rfl,hb2⟩; have hC2 := (((CW.start HB.out).alloc (.cells #[.int .i64 op,.int .i64 a,.int .i64 b,.int .i32 n,.int .i64 f] 25)).alloc (.cells #[.int .i64 0,.int .i64 0,.int .u32 0] 56)).below hb2; have hI2 := hI0.below hb2 hI0.lt; have hX2 := hX0.below hb2 hX0.lt; have p0 := hI2.cell 0; simp only [List.getElem?_cons_zero] at p0; have HC2 := Lib.hid hC2; clear hC2)
      | (go_at_call 54; refine (Hat.out _ (HC2.out.tab hT htg)).mono ?_; rintro e w3 ⟨rfl,hb3⟩; have hC3 := HC2.out.below hb3; have hI3 := hI2.below hb3 hI2.lt; have hX3 := hX2.below hb3 hX2.lt; have r0 := hI3.cell 0; have r1 := hI3.cell 1; have r2 := hI3.cell 2; have r3 := hI3.cell 3; have r4 := hI3.cell 4; simp only [List.getElem?_cons_zero,List.getElem?_cons_succ] at r0 r1 r2 r3 r4; have hz3 := hI3.lt; have HC3 := Lib.hid hC3; clear hC3)
      | (go_at_call 58; refine (H.out _ ((HC3.out.tab hT htg).alloc _) (HC3.out.blk.alloc _)).mono ?_; rintro e w5 ⟨rfl,hC5⟩; have hX5 : Blk w5 (w.heap.size + 1) 56 [.int .i64 0,.int .i64 0,.int .u32 0] := (hC5.fr.block _ (by have := hX3.lt; simp; omega) (by show w.heap.size + 1 ≠ g; omega)).trans (hX3.alloc _); have hC6 := (HC3.out.alloc _).trans hC5; have HC6 := Lib.hid hC6; clear hC6 hC5)
      | ((with_reducible show wpList _ _ _ (Oper.mk none (Op.store _ (Operand.tmp 10) (Operand.tmp 35)) _ _ _ _ :: _) _ _); refine wpList_st3 hX5 rfl 56 (.tmp 10) (.tmp 35) (.int .i64 K) (.int .i64 T) (.int .u32 To) rfl (by kernel_rfl) (by kernel_rfl) (by simp [Value.oneCell']) (by kernel_rfl) ?_; rintro ⟨z0,z1,z2⟩)
      | fail)
    refine bodyPost_ret (v := .agg #[.int .i64 K,.int .i64 T,.int .u32 To]) (by simp [results,Tryd.results26,go_sem,z0,z1,z2]) rfl ⟨rfl,?_⟩
    exact CW.farCells (by omega) _ _ _ HC6.out
set_option maxRecDepth 20000 in
set_option maxHeartbeats 40000000 in
theorem do_cplxA (sh : Int) (hsh3 : sh = 3 ∨ sh = 5 ∨ sh = 7) (op f n word from_ : Int) (a b : Int) (M : Value)  (w : World) (g : Nat) (cells cells' : List Value) (hT : TabIs 0 w) (htg : 0 ≠ g) (hB : Blk w g 119 cells) (hn : -2147483648 ≤ n ∧ n ≤ 2147483647) (hc : checkR op a b n f = 0) (hs : opShape op = sh)
    (H : Hid (∀ W,TabIs 0 W → Blk W g 119 cells → Calls Tryd.prog 62 #[.pointer (some ⟨g,0,none⟩),.agg #[.int .i64 op,.int .i64 a,.int .i64 b,.int .i32 n,.int .i64 f]] W fun e w' => e = .returned (.tuple #[]) ∧ CW W g cells' w')) :
    Calls Tryd.prog 26 #[.pointer (some ⟨g,0,none⟩),.agg #[.int .i64 op,.int .i64 a,.int .i64 b,.int .i32 n,.int .i64 f],.int .i32 word,M,.int .i64 from_] w fun e w' => e = .returned (.agg #[.int .i64 0,.int .i64 0,.int .u32 0]) ∧ CW w g (cells') w' := by
  have hg := hB.lt
  obtain ⟨hiop,_,_,_⟩ := checkR_parts hc
  have hch : ∀ w,TabIs 0 w → Calls Tryd.prog 46 #[.agg #[.int .i64 op,.int .i64 a,.int .i64 b,.int .i32 n,.int .i64 f]] w fun e w' => e = .returned (.int .i64 0) ∧ Below w.heap.size w w' := fun w hT => hc ▸ check_any op a b n f w hn hT
  have hat : ∀ w,TabIs 0 w → Calls Tryd.prog 54 #[.int .i64 op] w fun e w' => e = .returned (.tuple #[.agg #[.string ⟨(opName op).toArray⟩,.int .u8 (opByte op),.int .i64 sh],.bool true]) ∧ Below w.heap.size w w' := fun w hT => hiop ▸ hs ▸ at_any op w hT
  have Hch := Lib.hid hch
  have Hat := Lib.hid hat
  have HB := Lib.hid hB
  have hI0 : Blk ((w.alloc (.cells #[.int .i64 op,.int .i64 a,.int .i64 b,.int .i32 n,.int .i64 f] 25)).alloc (.cells #[.int .i64 0,.int .i64 0,.int .u32 0] 56)) w.heap.size 25 [.int .i64 op,.int .i64 a,.int .i64 b,.int .i32 n,.int .i64 f] := (Blk.new w 25 [.int .i64 op,.int .i64 a,.int .i64 b,.int .i32 n,.int .i64 f]).alloc _
  have hX0 : Blk ((w.alloc (.cells #[.int .i64 op,.int .i64 a,.int .i64 b,.int .i32 n,.int .i64 f] 25)).alloc (.cells #[.int .i64 0,.int .i64 0,.int .u32 0] 56)) (w.heap.size + 1) 56 [.int .i64 0,.int .i64 0,.int .u32 0] := by
    have := Blk.new (w.alloc (.cells #[.int .i64 op,.int .i64 a,.int .i64 b,.int .i32 n,.int .i64 f] 25)) 56 [.int .i64 0,.int .i64 0,.int .u32 0]
    rw [World.size_alloc] at this
    exact this
  generalize opName op = nm at Hat
  generalize opByte op = by_ at Hat
  clear hch hat hB hc hiop hs hn
  rcases hsh3 with rfl | rfl | rfl
  all_goals
    go_enter Tryd.func26,Tryd.ntmps26
    go_wp2_with (first
      | (go_at_call 46; refine (Hch.out _ ((hT.alloc _).alloc _)).mono ?_; rintro e w2 ⟨rfl,hb2⟩; have hC2 := (((CW.start HB.out).alloc (.cells #[.int .i64 op,.int .i64 a,.int .i64 b,.int .i32 n,.int .i64 f] 25)).alloc (.cells #[.int .i64 0,.int .i64 0,.int .u32 0] 56)).below hb2; have hI2 := hI0.below hb2 hI0.lt; have hX2 := hX0.below hb2 hX0.lt; have p0 := hI2.cell 0; simp only [List.getElem?_cons_zero] at p0; have HC2 := Lib.hid hC2; clear hC2)
      | (go_at_call 54; refine (Hat.out _ (HC2.out.tab hT htg)).mono ?_; rintro e w3 ⟨rfl,hb3⟩; have hC3 := HC2.out.below hb3; have hI3 := hI2.below hb3 hI2.lt; have hX3 := hX2.below hb3 hX2.lt; have r0 := hI3.cell 0; have r1 := hI3.cell 1; have r2 := hI3.cell 2; have r3 := hI3.cell 3; have r4 := hI3.cell 4; simp only [List.getElem?_cons_zero,List.getElem?_cons_succ] at r0 r1 r2 r3 r4; have hz3 := hI3.lt; have HC3 := Lib.hid hC3; clear hC3)
      | (go_at_call 62; refine (H.out _ ((HC3.out.tab hT htg).alloc _) (HC3.out.blk.alloc _)).mono ?_; rintro e w5 ⟨rfl,hC5⟩; have hX5 : Blk w5 (w.heap.size + 1) 56 [.int .i64 0,.int .i64 0,.int .u32 0] := (hC5.fr.block _ (by have := hX3.lt; simp; omega) (by show w.heap.size + 1 ≠ g; omega)).trans (hX3.alloc _); have hC6 := (HC3.out.alloc _).trans hC5; have HC6 := Lib.hid hC6; clear hC6 hC5)
      | ((with_reducible show wpList _ _ _ (Oper.mk none (Op.store _ (Operand.tmp 10) (Operand.tmp 73)) _ _ _ _ :: _) _ _); refine wpList_st3 hX5 rfl 56 (.tmp 10) (.tmp 73) (.int .i64 0) (.int .i64 0) (.int .u32 0) rfl (by kernel_rfl) (by kernel_rfl) (by simp [Value.oneCell']) (by kernel_rfl) ?_; rintro ⟨z0,z1,z2⟩)
      | fail)
    refine bodyPost_ret (v := .agg #[.int .i64 0,.int .i64 0,.int .u32 0]) (by simp [results,Tryd.results26,go_sem,z0,z1,z2]) rfl ⟨rfl,?_⟩
    exact CW.farCells (by omega) _ _ _ HC6.out
set_option maxRecDepth 20000 in
set_option maxHeartbeats 2000000 in
theorem do_set8 (op f n word from_ : Int) (a : Nat) (b : Int) (M : Value)  (w : World) (g : Nat) (cells : List Value) (hT : TabIs 0 w) (htg : 0 ≠ g) (hB : Blk w g 119 cells) (hn : -2147483648 ≤ n ∧ n ≤ 2147483647) (hc : checkR op a b n f = 0) (hs : opShape op = 8)
    (ha : a < 8) (x : Int) (hx : cells[a]? = some (.int .i32 x)) :
    Calls Tryd.prog 26 #[.pointer (some ⟨g,0,none⟩),.agg #[.int .i64 op,.int .i64 a,.int .i64 b,.int .i32 n,.int .i64 f],.int .i32 word,M,.int .i64 from_] w fun e w' => e = .returned (.agg #[.int .i64 0,.int .i64 0,.int .u32 0]) ∧ CW w g (cells.set a (.int .i32 n)) w' := by
  have hg := hB.lt
  obtain ⟨hiop,_,_,_⟩ := checkR_parts hc
  have hch : ∀ w,TabIs 0 w → Calls Tryd.prog 46 #[.agg #[.int .i64 op,.int .i64 a,.int .i64 b,.int .i32 n,.int .i64 f]] w fun e w' => e = .returned (.int .i64 0) ∧ Below w.heap.size w w' := fun w hT => hc ▸ check_any op a b n f w hn hT
  have hat : ∀ w,TabIs 0 w → Calls Tryd.prog 54 #[.int .i64 op] w fun e w' => e = .returned (.tuple #[.agg #[.string ⟨(opName op).toArray⟩,.int .u8 (opByte op),.int .i64 8],.bool true]) ∧ Below w.heap.size w w' := fun w hT => hiop ▸ hs ▸ at_any op w hT
  have Hch := Lib.hid hch
  have Hat := Lib.hid hat
  have HB := Lib.hid hB
  have hI0 : Blk ((w.alloc (.cells #[.int .i64 op,.int .i64 a,.int .i64 b,.int .i32 n,.int .i64 f] 25)).alloc (.cells #[.int .i64 0,.int .i64 0,.int .u32 0] 56)) w.heap.size 25 [.int .i64 op,.int .i64 a,.int .i64 b,.int .i32 n,.int .i64 f] := (Blk.new w 25 [.int .i64 op,.int .i64 a,.int .i64 b,.int .i32 n,.int .i64 f]).alloc _
  have hX0 : Blk ((w.alloc (.cells #[.int .i64 op,.int .i64 a,.int .i64 b,.int .i32 n,.int .i64 f] 25)).alloc (.cells #[.int .i64 0,.int .i64 0,.int .u32 0] 56)) (w.heap.size + 1) 56 [.int .i64 0,.int .i64 0,.int .u32 0] := by
    have := Blk.new (w.alloc (.cells #[.int .i64 op,.int .i64 a,.int .i64 b,.int .i32 n,.int .i64 f] 25)) 56 [.int .i64 0,.int .i64 0,.int .u32 0]
    rw [World.size_alloc] at this
    exact this
  generalize opName op = nm at Hat
  generalize opByte op = by_ at Hat
  clear hch hat hB hc hiop hs hn
  go_enter Tryd.func26,Tryd.ntmps26
  go_wp2_with (first
    | (go_at_call 46; refine (Hch.out _ ((hT.alloc _).alloc _)).mono ?_; rintro e w2 ⟨rfl,hb2⟩; have hC2 := (((CW.start HB.out).alloc (.cells #[.int .i64 op,.int .i64 a,.int .i64 b,.int .i32 n,.int .i64 f] 25)).alloc (.cells #[.int .i64 0,.int .i64 0,.int .u32 0] 56)).below hb2; have hI2 := hI0.below hb2 hI0.lt; have hX2 := hX0.below hb2 hX0.lt; have p0 := hI2.cell 0; simp only [List.getElem?_cons_zero] at p0; have HC2 := Lib.hid hC2; clear hC2)
    | (go_at_call 54; refine (Hat.out _ (HC2.out.tab hT htg)).mono ?_; rintro e w3 ⟨rfl,hb3⟩; have hC3 := HC2.out.below hb3; have hI3 := hI2.below hb3 hI2.lt; have hX3 := hX2.below hb3 hX2.lt; have r0 := hI3.cell 0; have r1 := hI3.cell 1; have r2 := hI3.cell 2; have r3 := hI3.cell 3; have r4 := hI3.cell 4; simp only [List.getElem?_cons_zero,List.getElem?_cons_succ] at r0 r1 r2 r3 r4; have hz3 := hI3.lt; have HC3 := Lib.hid hC3; clear hC3)
    | fail)
  have q3 := (HC3.out.blk.cell a).trans hx
  have f3 := HC3.out.blk.free a
  have hlt3 := HC3.out.blk.lt
  refine wp_region_swap (ops' := doR17) (by kernel_rfl) (do_r17 g w.heap.size a n word x _ _ _ _ _ _ _ _ _ _ _ _ _ _ _ _ _ _ _ _ _ _ _ _ _ _ _ _ _ _ _ _ _ _ _ _ _ _ _ _ _ _ _ _ _ _ _ _ _ _ _ _ _ _ _ _ _ _ _ _ _ _ _ _ _ _ _ _ _ _ _ _ _ ha (by omega) ?_ ?_ ?_ ?_ ?_)
  · rw [World.cell?_alloc_lt _ _ ⟨w.heap.size,1,none⟩ hz3]; exact r1
  · rw [World.cell?_alloc_lt _ _ ⟨w.heap.size,3,none⟩ hz3]; exact r3
  · rw [World.cell?_alloc_lt _ _ ⟨g,a,none⟩ hlt3]; exact q3
  · exact (HC3.out.blk.alloc _).free a
  intro Yc Yd Ye Yf Yg Yh Yi Yj
  have hC6 := ((HC3.out.alloc (.cells #[.string ⟨nm.toArray⟩,.int .u8 by_,.int .i64 8] 97)).drewN 1).setReg a (.int .i32 n)
  have hX5 : Blk (((w3.alloc (.cells #[.string ⟨nm.toArray⟩,.int .u8 by_,.int .i64 8] 97)).drewN 1).setCell ⟨g,a,none⟩ (.int .i32 n)) (w.heap.size + 1) 56 [.int .i64 0,.int .i64 0,.int .u32 0] := (show Blk ((w3.alloc _).drewN 1) _ _ _ from hX3.alloc _).other (by show w.heap.size + 1 ≠ g; omega)
  have HC6 := Lib.hid hC6
  clear hC6 q3 f3
  go_wp2_with (first
    | ((with_reducible show wpList _ _ _ (Oper.mk none (Op.store _ (Operand.tmp 10) (Operand.tmp 73)) _ _ _ _ :: _) _ _); refine wpList_st3 hX5 rfl 56 (.tmp 10) (.tmp 73) (.int .i64 0) (.int .i64 0) (.int .u32 0) rfl (by kernel_rfl) (by kernel_rfl) (by simp [Value.oneCell']) (by kernel_rfl) ?_; rintro ⟨z0,z1,z2⟩)
    | fail)
  refine bodyPost_ret (v := .agg #[.int .i64 0,.int .i64 0,.int .u32 0]) (by simp [results,Tryd.results26,go_sem,z0,z1,z2]) rfl ⟨rfl,?_⟩
  exact CW.farCells (by omega) _ _ _ HC6.out
set_option maxRecDepth 20000 in
set_option maxHeartbeats 2000000 in
theorem do_set10 (op f n word from_ : Int) (a : Nat) (b : Int) (M : Value)  (w : World) (g : Nat) (cells : List Value) (hT : TabIs 0 w) (htg : 0 ≠ g) (hB : Blk w g 119 cells) (hn : -2147483648 ≤ n ∧ n ≤ 2147483647) (hc : checkR op a b n f = 0) (hs : opShape op = 10)
    (ha : a < 8) (x : Int) (hx : cells[a]? = some (.int .i32 x)) :
    Calls Tryd.prog 26 #[.pointer (some ⟨g,0,none⟩),.agg #[.int .i64 op,.int .i64 a,.int .i64 b,.int .i32 n,.int .i64 f],.int .i32 word,M,.int .i64 from_] w fun e w' => e = .returned (.agg #[.int .i64 0,.int .i64 0,.int .u32 0]) ∧ CW w g (cells.set a (.int .i32 n)) w' := by
  have hg := hB.lt
  obtain ⟨hiop,_,_,_⟩ := checkR_parts hc
  have hch : ∀ w,TabIs 0 w → Calls Tryd.prog 46 #[.agg #[.int .i64 op,.int .i64 a,.int .i64 b,.int .i32 n,.int .i64 f]] w fun e w' => e = .returned (.int .i64 0) ∧ Below w.heap.size w w' := fun w hT => hc ▸ check_any op a b n f w hn hT
  have hat : ∀ w,TabIs 0 w → Calls Tryd.prog 54 #[.int .i64 op] w fun e w' => e = .returned (.tuple #[.agg #[.string ⟨(opName op).toArray⟩,.int .u8 (opByte op),.int .i64 10],.bool true]) ∧ Below w.heap.size w w' := fun w hT => hiop ▸ hs ▸ at_any op w hT
  have Hch := Lib.hid hch
  have Hat := Lib.hid hat
  have HB := Lib.hid hB
  have hI0 : Blk ((w.alloc (.cells #[.int .i64 op,.int .i64 a,.int .i64 b,.int .i32 n,.int .i64 f] 25)).alloc (.cells #[.int .i64 0,.int .i64 0,.int .u32 0] 56)) w.heap.size 25 [.int .i64 op,.int .i64 a,.int .i64 b,.int .i32 n,.int .i64 f] := (Blk.new w 25 [.int .i64 op,.int .i64 a,.int .i64 b,.int .i32 n,.int .i64 f]).alloc _
  have hX0 : Blk ((w.alloc (.cells #[.int .i64 op,.int .i64 a,.int .i64 b,.int .i32 n,.int .i64 f] 25)).alloc (.cells #[.int .i64 0,.int .i64 0,.int .u32 0] 56)) (w.heap.size + 1) 56 [.int .i64 0,.int .i64 0,.int .u32 0] := by
    have := Blk.new (w.alloc (.cells #[.int .i64 op,.int .i64 a,.int .i64 b,.int .i32 n,.int .i64 f] 25)) 56 [.int .i64 0,.int .i64 0,.int .u32 0]
    rw [World.size_alloc] at this
    exact this
  generalize opName op = nm at Hat
  generalize opByte op = by_ at Hat
  clear hch hat hB hc hiop hs hn
  go_enter Tryd.func26,Tryd.ntmps26
  go_wp2_with (first
    | (go_at_call 46; refine (Hch.out _ ((hT.alloc _).alloc _)).mono ?_; rintro e w2 ⟨rfl,hb2⟩; have hC2 := (((CW.start HB.out).alloc (.cells #[.int .i64 op,.int .i64 a,.int .i64 b,.int .i32 n,.int .i64 f] 25)).alloc (.cells #[.int .i64 0,.int .i64 0,.int .u32 0] 56)).below hb2; have hI2 := hI0.below hb2 hI0.lt; have hX2 := hX0.below hb2 hX0.lt; have p0 := hI2.cell 0; simp only [List.getElem?_cons_zero] at p0; have HC2 := Lib.hid hC2; clear hC2)
    | (go_at_call 54; refine (Hat.out _ (HC2.out.tab hT htg)).mono ?_; rintro e w3 ⟨rfl,hb3⟩; have hC3 := HC2.out.below hb3; have hI3 := hI2.below hb3 hI2.lt; have hX3 := hX2.below hb3 hX2.lt; have r0 := hI3.cell 0; have r1 := hI3.cell 1; have r2 := hI3.cell 2; have r3 := hI3.cell 3; have r4 := hI3.cell 4; simp only [List.getElem?_cons_zero,List.getElem?_cons_succ] at r0 r1 r2 r3 r4; have hz3 := hI3.lt; have HC3 := Lib.hid hC3; clear hC3)
    | fail)
  have q3 := (HC3.out.blk.cell a).trans hx
  have f3 := HC3.out.blk.free a
  have hlt3 := HC3.out.blk.lt
  refine wp_region_swap (ops' := doR17) (by kernel_rfl) (do_r17 g w.heap.size a n word x _ _ _ _ _ _ _ _ _ _ _ _ _ _ _ _ _ _ _ _ _ _ _ _ _ _ _ _ _ _ _ _ _ _ _ _ _ _ _ _ _ _ _ _ _ _ _ _ _ _ _ _ _ _ _ _ _ _ _ _ _ _ _ _ _ _ _ _ _ _ _ _ _ ha (by omega) ?_ ?_ ?_ ?_ ?_)
  · rw [World.cell?_alloc_lt _ _ ⟨w.heap.size,1,none⟩ hz3]; exact r1
  · rw [World.cell?_alloc_lt _ _ ⟨w.heap.size,3,none⟩ hz3]; exact r3
  · rw [World.cell?_alloc_lt _ _ ⟨g,a,none⟩ hlt3]; exact q3
  · exact (HC3.out.blk.alloc _).free a
  intro Yc Yd Ye Yf Yg Yh Yi Yj
  have hC6 := ((HC3.out.alloc (.cells #[.string ⟨nm.toArray⟩,.int .u8 by_,.int .i64 10] 97)).drewN 1).setReg a (.int .i32 n)
  have hX5 : Blk (((w3.alloc (.cells #[.string ⟨nm.toArray⟩,.int .u8 by_,.int .i64 10] 97)).drewN 1).setCell ⟨g,a,none⟩ (.int .i32 n)) (w.heap.size + 1) 56 [.int .i64 0,.int .i64 0,.int .u32 0] := (show Blk ((w3.alloc _).drewN 1) _ _ _ from hX3.alloc _).other (by show w.heap.size + 1 ≠ g; omega)
  have HC6 := Lib.hid hC6
  clear hC6 q3 f3
  go_wp2_with (first
    | ((with_reducible show wpList _ _ _ (Oper.mk none (Op.store _ (Operand.tmp 10) (Operand.tmp 73)) _ _ _ _ :: _) _ _); refine wpList_st3 hX5 rfl 56 (.tmp 10) (.tmp 73) (.int .i64 0) (.int .i64 0) (.int .u32 0) rfl (by kernel_rfl) (by kernel_rfl) (by simp [Value.oneCell']) (by kernel_rfl) ?_; rintro ⟨z0,z1,z2⟩)
    | fail)
  refine bodyPost_ret (v := .agg #[.int .i64 0,.int .i64 0,.int .u32 0]) (by simp [results,Tryd.results26,go_sem,z0,z1,z2]) rfl ⟨rfl,?_⟩
  exact CW.farCells (by omega) _ _ _ HC6.out
set_option maxRecDepth 20000 in
set_option maxHeartbeats 2000000 in
theorem do_set11 (op f n word from_ : Int) (a : Nat) (b : Int) (M : Value)  (w : World) (g : Nat) (cells : List Value) (hT : TabIs 0 w) (htg : 0 ≠ g) (hB : Blk w g 119 cells) (hn : -2147483648 ≤ n ∧ n ≤ 2147483647) (hc : checkR op a b n f = 0) (hs : opShape op = 11)
    (ha : a < 8) (x : Int) (hx : cells[a]? = some (.int .i32 x)) :
    Calls Tryd.prog 26 #[.pointer (some ⟨g,0,none⟩),.agg #[.int .i64 op,.int .i64 a,.int .i64 b,.int .i32 n,.int .i64 f],.int .i32 word,M,.int .i64 from_] w fun e w' => e = .returned (.agg #[.int .i64 0,.int .i64 0,.int .u32 0]) ∧ CW w g (cells.set a (.int .i32 word)) w' := by
  have hg := hB.lt
  obtain ⟨hiop,_,_,_⟩ := checkR_parts hc
  have hch : ∀ w,TabIs 0 w → Calls Tryd.prog 46 #[.agg #[.int .i64 op,.int .i64 a,.int .i64 b,.int .i32 n,.int .i64 f]] w fun e w' => e = .returned (.int .i64 0) ∧ Below w.heap.size w w' := fun w hT => hc ▸ check_any op a b n f w hn hT
  have hat : ∀ w,TabIs 0 w → Calls Tryd.prog 54 #[.int .i64 op] w fun e w' => e = .returned (.tuple #[.agg #[.string ⟨(opName op).toArray⟩,.int .u8 (opByte op),.int .i64 11],.bool true]) ∧ Below w.heap.size w w' := fun w hT => hiop ▸ hs ▸ at_any op w hT
  have Hch := Lib.hid hch
  have Hat := Lib.hid hat
  have HB := Lib.hid hB
  have hI0 : Blk ((w.alloc (.cells #[.int .i64 op,.int .i64 a,.int .i64 b,.int .i32 n,.int .i64 f] 25)).alloc (.cells #[.int .i64 0,.int .i64 0,.int .u32 0] 56)) w.heap.size 25 [.int .i64 op,.int .i64 a,.int .i64 b,.int .i32 n,.int .i64 f] := (Blk.new w 25 [.int .i64 op,.int .i64 a,.int .i64 b,.int .i32 n,.int .i64 f]).alloc _
  have hX0 : Blk ((w.alloc (.cells #[.int .i64 op,.int .i64 a,.int .i64 b,.int .i32 n,.int .i64 f] 25)).alloc (.cells #[.int .i64 0,.int .i64 0,.int .u32 0] 56)) (w.heap.size + 1) 56 [.int .i64 0,.int .i64 0,.int .u32 0] := by
    have := Blk.new (w.alloc (.cells #[.int .i64 op,.int .i64 a,.int .i64 b,.int .i32 n,.int .i64 f] 25)) 56 [.int .i64 0,.int .i64 0,.int .u32 0]
    rw [World.size_alloc] at this
    exact this
  generalize opName op = nm at Hat
  generalize opByte op = by_ at Hat
  clear hch hat hB hc hiop hs hn
  go_enter Tryd.func26,Tryd.ntmps26
  go_wp2_with (first
    | (go_at_call 46; refine (Hch.out _ ((hT.alloc _).alloc _)).mono ?_; rintro e w2 ⟨rfl,hb2⟩; have hC2 := (((CW.start HB.out).alloc (.cells #[.int .i64 op,.int .i64 a,.int .i64 b,.int .i32 n,.int .i64 f] 25)).alloc (.cells #[.int .i64 0,.int .i64 0,.int .u32 0] 56)).below hb2; have hI2 := hI0.below hb2 hI0.lt; have hX2 := hX0.below hb2 hX0.lt; have p0 := hI2.cell 0; simp only [List.getElem?_cons_zero] at p0; have HC2 := Lib.hid hC2; clear hC2)
    | (go_at_call 54; refine (Hat.out _ (HC2.out.tab hT htg)).mono ?_; rintro e w3 ⟨rfl,hb3⟩; have hC3 := HC2.out.below hb3; have hI3 := hI2.below hb3 hI2.lt; have hX3 := hX2.below hb3 hX2.lt; have r0 := hI3.cell 0; have r1 := hI3.cell 1; have r2 := hI3.cell 2; have r3 := hI3.cell 3; have r4 := hI3.cell 4; simp only [List.getElem?_cons_zero,List.getElem?_cons_succ] at r0 r1 r2 r3 r4; have hz3 := hI3.lt; have HC3 := Lib.hid hC3; clear hC3)
    | fail)
  have q3 := (HC3.out.blk.cell a).trans hx
  have f3 := HC3.out.blk.free a
  have hlt3 := HC3.out.blk.lt
  refine wp_region_swap (ops' := doR19) (by kernel_rfl) (do_r19 g w.heap.size a n word x _ _ _ _ _ _ _ _ _ _ _ _ _ _ _ _ _ _ _ _ _ _ _ _ _ _ _ _ _ _ _ _ _ _ _ _ _ _ _ _ _ _ _ _ _ _ _ _ _ _ _ _ _ _ _ _ _ _ _ _ _ _ _ _ _ _ _ _ _ _ _ _ _ ha (by omega) ?_ ?_ ?_ ?_ ?_)
  · rw [World.cell?_alloc_lt _ _ ⟨w.heap.size,1,none⟩ hz3]; exact r1
  · rw [World.cell?_alloc_lt _ _ ⟨w.heap.size,3,none⟩ hz3]; exact r3
  · rw [World.cell?_alloc_lt _ _ ⟨g,a,none⟩ hlt3]; exact q3
  · exact (HC3.out.blk.alloc _).free a
  intro Yk Yl Ym Yn Yo Yp Yq
  have hC6 := ((HC3.out.alloc (.cells #[.string ⟨nm.toArray⟩,.int .u8 by_,.int .i64 11] 97)).drewN 1).setReg a (.int .i32 word)
  have hX5 : Blk (((w3.alloc (.cells #[.string ⟨nm.toArray⟩,.int .u8 by_,.int .i64 11] 97)).drewN 1).setCell ⟨g,a,none⟩ (.int .i32 word)) (w.heap.size + 1) 56 [.int .i64 0,.int .i64 0,.int .u32 0] := (show Blk ((w3.alloc _).drewN 1) _ _ _ from hX3.alloc _).other (by show w.heap.size + 1 ≠ g; omega)
  have HC6 := Lib.hid hC6
  clear hC6 q3 f3
  go_wp2_with (first
    | ((with_reducible show wpList _ _ _ (Oper.mk none (Op.store _ (Operand.tmp 10) (Operand.tmp 73)) _ _ _ _ :: _) _ _); refine wpList_st3 hX5 rfl 56 (.tmp 10) (.tmp 73) (.int .i64 0) (.int .i64 0) (.int .u32 0) rfl (by kernel_rfl) (by kernel_rfl) (by simp [Value.oneCell']) (by kernel_rfl) ?_; rintro ⟨z0,z1,z2⟩)
    | fail)
  refine bodyPost_ret (v := .agg #[.int .i64 0,.int .i64 0,.int .u32 0]) (by simp [results,Tryd.results26,go_sem,z0,z1,z2]) rfl ⟨rfl,?_⟩
  exact CW.farCells (by omega) _ _ _ HC6.out
end Go.Proofs.YthcjnkakfpmpbaaDoor
