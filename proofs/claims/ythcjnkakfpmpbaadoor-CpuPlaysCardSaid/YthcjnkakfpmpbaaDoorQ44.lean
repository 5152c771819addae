import Derived.Test.YthcjnkakfpmpbaaDoorQ43
namespace Go.Proofs.YthcjnkakfpmpbaaDoor
open Go.RowKit
set_option linter.unusedVariables false
set_option linter.unusedSimpArgs false
def AskAt (b o : Nat) (i0 i1 i2 i3 i4 wd : Int) (w : World) : Prop :=
  w.cell? ⟨b,o,none⟩ = some (.int .i64 i0) ∧ w.cell? ⟨b,o + 1,none⟩ = some (.int .i64 i1) ∧ w.cell? ⟨b,o + 2,none⟩ = some (.int .i64 i2) ∧ w.cell? ⟨b,o + 3,none⟩ = some (.int .i32 i3) ∧ w.cell? ⟨b,o + 4,none⟩ = some (.int .i64 i4) ∧ w.cell? ⟨b,o + 5,none⟩ = some (.int .i32 wd)
theorem AskAt.keep {b o : Nat} {i0 i1 i2 i3 i4 wd : Int} {w w' : World} (h : AskAt b o i0 i1 i2 i3 i4 wd w) (hk : ∀ j,w'.cell? ⟨b,j,none⟩ = w.cell? ⟨b,j,none⟩) : AskAt b o i0 i1 i2 i3 i4 wd w' :=
  ⟨(hk _).trans h.1,(hk _).trans h.2.1,(hk _).trans h.2.2.1,(hk _).trans h.2.2.2.1,(hk _).trans h.2.2.2.2.1,(hk _).trans h.2.2.2.2.2⟩
theorem AskAt.alloc {b o : Nat} {i0 i1 i2 i3 i4 wd : Int} {w : World} (h : AskAt b o i0 i1 i2 i3 i4 wd w) (hb : b < w.heap.size) (ob : Obj) : AskAt b o i0 i1 i2 i3 i4 wd (w.alloc ob) := h.keep fun j => World.cell?_alloc_lt _ _ ⟨b,j,none⟩ hb
theorem AskAt.cells {b o : Nat} {i0 i1 i2 i3 i4 wd : Int} {X : Nat} (hX : b ≠ X) : ∀ (vs : List Value) (k : Nat) (w : World),AskAt b o i0 i1 i2 i3 i4 wd w → AskAt b o i0 i1 i2 i3 i4 wd (w.setCells X k vs)
  | [],_,_,h => h
  | v :: r,k,w,h => AskAt.cells hX r (k + 1) _ (h.keep fun j => World.cell?_of_block (w := w) (a := ⟨b,j,none⟩) (Below.heap_setCell w _ v b hX))
structure Clo (P : (Nat → Prop) → World → Prop) : Prop where
  below : ∀ B w w',Below w.heap.size w w' → P B w → P B w'
  new : ∀ B w o,P B w → P (fun x => B x ∨ x = w.heap.size) (w.alloc o)
  set : ∀ B w X vs,B X → P B w → P B (w.setCells X 0 vs)
theorem size_cells {X : Nat} : ∀ (w : World) (vs : List Value) (o : Nat),(w.setCells X o vs).heap.size = w.heap.size
  | _,[],_ => rfl
  | w,v :: r,o => (size_cells (w.setCell ⟨X,o,none⟩ v) r (o + 1)).trans (by simp)
theorem setCells_other {x X : Nat} : ∀ (w : World),x ≠ X → ∀ (vs : List Value) (o : Nat),(w.setCells X o vs).heap[x]? = w.heap[x]?
  | _,_,[],_ => rfl
  | w,h,v :: r,o => (setCells_other (w.setCell ⟨X,o,none⟩ v) h r (o + 1)).trans (Below.heap_setCell w _ v x h)
noncomputable def cpR13 : Array Oper := regOf Tryd.f14.body 13
set_option maxRecDepth 100000 in
set_option maxHeartbeats 4000000 in
theorem cp_r13 (P P' : (Nat → Prop) → World → Prop) (cP : Clo P) (cP' : Clo P') (Bd : Nat → Prop) (g lb lo ln lc k rb : Nat) (mA : Option Addr) (mm mc : Nat) (fr i0 i1 i2 i3 i4 wd E0 E1 E2 : Int) (u0 u4 u5 u6 u7 u8 u9 Ul Uw U2 U3 U4 U5 U6 U7 U8 U9 Ya Yb Yc Yd Ye Yf Yg Yh Yi Yj Yk Yl Ym Yn Yo Yp Yq Yr Ys Yt Yu Yv Yw Yx Yy Yz YA YB YC YD YE YF YG YH YI YJ YK YL YM YN YO YP YQ YR YS YT YU YV YW YX YY YZ Y0 Y1 Y2 Y3 Y4 Y5 Y6 Y7 Y8 Y9 Za Zb Zc Zd Ze Zf Zg Zh Zi Zj Zk Zl Zm Zn Zo Ub Uc Ud Ue Uf Ug Uh Ui Uj Uk Um Un Uo Up Uq Ur Us Ut Uu Uv Ux Uy Uz UA UB UC UD UE UF UG UI UJ UK UL UM UN UO UP UQ UR US UT UU UV UW UX UY UZ U0 U1 : Value) (W : World) (Q : Exit → Act → World → Prop)
    (hk : k < ln) (hmm : mm ≤ 140737488355328) (hP : P Bd W) (hBl : ∀ x,Bd x → x < W.heap.size) (hA : AskAt lb (lo + k * 6) i0 i1 i2 i3 i4 wd W) (hlb : lb < W.heap.size)
    (HC : Hid (∀ B w,P B w → AskAt lb (lo + k * 6) i0 i1 i2 i3 i4 wd w → lb < w.heap.size → Calls Tryd.prog 26 #[.pointer (some ⟨g,0,none⟩),insA i0 i1 i2 i3 i4,.int .i32 wd,.slice (some ⟨rb,0,none⟩) mm (mm + 80),.int .i64 fr] w fun e w' => e = .returned (.agg #[.int .i64 E0,.int .i64 E1,.int .u32 E2]) ∧ (P' B w' ∧ AskAt lb (lo + k * 6) i0 i1 i2 i3 i4 wd w' ∧ lb < w'.heap.size ∧ w.heap.size ≤ w'.heap.size ∧ ∀ x,B x → w'.heap[x]? = w.heap[x]?)))
    (hQ : ∀ (Zp Zq Zr Zs Zt Zu Zv Zw Zx Zy Zz ZA ZB ZC ZD ZE ZF : Value) (X : Nat) (w' : World),P' (fun x => Bd x ∨ x = X) w' → Blk w' X 56 [.int .i64 E0,.int .i64 E1,.int .u32 E2] → AskAt lb (lo + k * 6) i0 i1 i2 i3 i4 wd w' → lb < w'.heap.size → W.heap.size < w'.heap.size → (∀ x,Bd x → w'.heap[x]? = W.heap[x]?) → Q .normal { tmps := #[u0,.slice mA mm mc,.int .i64 fr,.slice (some ⟨lb,lo,none⟩) ln lc,u4,u5,u6,u7,u8,u9,.pointer (some ⟨g,0,none⟩),Ul,Uw,.slice (some ⟨rb,0,none⟩) (mm + 80) (mm + 80),.int .i64 k,.pointer (some ⟨X,0,none⟩),U3,U4,U5,U6,U7,U8,U9,Ya,Yb,Yc,Yd,Ye,Yf,Yg,Yh,Yi,Yj,Yk,Yl,Ym,Yn,Yo,Yp,Yq,Yr,Ys,Yt,Yu,Yv,Yw,Yx,Yy,Yz,YA,YB,YC,YD,YE,YF,YG,YH,YI,YJ,YK,YL,YM,YN,YO,YP,Zp,Zq,Zr,Zs,Zt,Zu,Zv,Zw,Zx,Zy,Zz,ZA,ZB,ZC,ZD,ZE,ZF,Y7,Y8,Y9,Za,Zb,Zc,Zd,Ze,Zf,Zg,Zh,Zi,Zj,Zk,Zl,Zm,Zn,Zo,Ub,Uc,Ud,Ue,Uf,Ug,Uh,Ui,Uj,Uk,Um,Un,Uo,Up,Uq,Ur,Us,Ut,Uu,Uv,Ux,Uy,Uz,UA,UB,UC,UD,UE,UF,UG,UI,UJ,UK,UL,UM,UN,UO,UP,UQ,UR,US,UT,UU,UV,UW,UX,UY,UZ,U0,U1],defers := [] } w') :
    (Code.region 13 cpR13 true).wp Tryd.prog Q { tmps := #[u0,.slice mA mm mc,.int .i64 fr,.slice (some ⟨lb,lo,none⟩) ln lc,u4,u5,u6,u7,u8,u9,.pointer (some ⟨g,0,none⟩),Ul,Uw,.slice (some ⟨rb,0,none⟩) (mm + 80) (mm + 80),.int .i64 k,U2,U3,U4,U5,U6,U7,U8,U9,Ya,Yb,Yc,Yd,Ye,Yf,Yg,Yh,Yi,Yj,Yk,Yl,Ym,Yn,Yo,Yp,Yq,Yr,Ys,Yt,Yu,Yv,Yw,Yx,Yy,Yz,YA,YB,YC,YD,YE,YF,YG,YH,YI,YJ,YK,YL,YM,YN,YO,YP,YQ,YR,YS,YT,YU,YV,YW,YX,YY,YZ,Y0,Y1,Y2,Y3,Y4,Y5,Y6,Y7,Y8,Y9,Za,Zb,Zc,Zd,Ze,Zf,Zg,Zh,Zi,Zj,Zk,Zl,Zm,Zn,Zo,Ub,Uc,Ud,Ue,Uf,Ug,Uh,Ui,Uj,Uk,Um,Un,Uo,Up,Uq,Ur,Us,Ut,Uu,Uv,Ux,Uy,Uz,UA,UB,UC,UD,UE,UF,UG,UI,UJ,UK,UL,UM,UN,UO,UP,UQ,UR,US,UT,UU,UV,UW,UX,UY,UZ,U0,U1],defers := [] } W := by
  have hkI : (k : Int) < ln := by omega
  have hm1 : (mm : Int) ≤ (mm : Int) + 80 := by omega
  have hm2 : (0 : Int) ≤ mm := by omega
  refine held_start (ops' := cpR13) (l0 := #[false,false,false,false,false,false,false,false,false,false,false,false,false,false,false,false,false,false,false]) (S := fun w' => AskAt lb (lo + k * 6) i0 i1 i2 i3 i4 wd w' ∧ lb < w'.heap.size) (by kernel_rfl) (by kernel_rfl) (by kernel_rfl) (by kernel_rfl) ⟨hA,hlb⟩ (fun R hR => ?_)
  (refine held_take (v := ?_) (d := some 65) 0 (by kernel_rfl) (by kernel_rfl) rfl ?_ ?_
   rotate_left
   · intro w hSw
     conv in opOf _ _ => whnf
     (obtain ⟨⟨s0,s1,s2,s3,s4,s5⟩,s6⟩ := hSw)
     go_simp
     try (with_reducible rfl)
   try simp only [Act.put,List.setIfInBounds_toArray,List.set_cons_zero,List.set_cons_succ])
  (refine held_take (v := ?_) (d := some 66) 1 (by kernel_rfl) (by kernel_rfl) rfl ?_ ?_
   rotate_left
   · intro w hSw
     conv in opOf _ _ => whnf
     (obtain ⟨⟨s0,s1,s2,s3,s4,s5⟩,s6⟩ := hSw)
     go_simp
     try (with_reducible rfl)
   try simp only [Act.put,List.setIfInBounds_toArray,List.set_cons_zero,List.set_cons_succ])
  (refine held_take (v := ?_) (d := some 67) 2 (by kernel_rfl) (by kernel_rfl) rfl ?_ ?_
   rotate_left
   · intro w hSw
     conv in opOf _ _ => whnf
     (obtain ⟨⟨s0,s1,s2,s3,s4,s5⟩,s6⟩ := hSw)
     go_simp
     try (with_reducible rfl)
   try simp only [Act.put,List.setIfInBounds_toArray,List.set_cons_zero,List.set_cons_succ])
  (refine held_take (v := ?_) (d := some 68) 3 (by kernel_rfl) (by kernel_rfl) rfl ?_ ?_
   rotate_left
   · intro w hSw
     conv in opOf _ _ => whnf
     (obtain ⟨⟨s0,s1,s2,s3,s4,s5⟩,s6⟩ := hSw)
     go_simp
     try (with_reducible rfl)
   try simp only [Act.put,List.setIfInBounds_toArray,List.set_cons_zero,List.set_cons_succ])
  (refine held_take (v := ?_) (d := some 69) 4 (by kernel_rfl) (by kernel_rfl) rfl ?_ ?_
   rotate_left
   · intro w hSw
     conv in opOf _ _ => whnf
     (obtain ⟨⟨s0,s1,s2,s3,s4,s5⟩,s6⟩ := hSw)
     go_simp
     try (with_reducible rfl)
   try simp only [Act.put,List.setIfInBounds_toArray,List.set_cons_zero,List.set_cons_succ])
  (refine held_take (v := ?_) (d := some 70) 5 (by kernel_rfl) (by kernel_rfl) rfl ?_ ?_
   rotate_left
   · intro w hSw
     conv in opOf _ _ => whnf
     (obtain ⟨⟨s0,s1,s2,s3,s4,s5⟩,s6⟩ := hSw)
     go_simp
     try (with_reducible rfl)
   try simp only [Act.put,List.setIfInBounds_toArray,List.set_cons_zero,List.set_cons_succ])
  (refine held_take (v := ?_) (d := some 71) 6 (by kernel_rfl) (by kernel_rfl) rfl ?_ ?_
   rotate_left
   · intro w hSw
     conv in opOf _ _ => whnf
     (obtain ⟨⟨s0,s1,s2,s3,s4,s5⟩,s6⟩ := hSw)
     go_simp
     try (with_reducible rfl)
   try simp only [Act.put,List.setIfInBounds_toArray,List.set_cons_zero,List.set_cons_succ])
  (refine held_take (v := ?_) (d := some 72) 7 (by kernel_rfl) (by kernel_rfl) rfl ?_ ?_
   rotate_left
   · intro w hSw
     conv in opOf _ _ => whnf
     (obtain ⟨⟨s0,s1,s2,s3,s4,s5⟩,s6⟩ := hSw)
     go_simp
     try (with_reducible rfl)
   try simp only [Act.put,List.setIfInBounds_toArray,List.set_cons_zero,List.set_cons_succ])
  (refine held_take (v := ?_) (d := some 73) 8 (by kernel_rfl) (by kernel_rfl) rfl ?_ ?_
   rotate_left
   · intro w hSw
     conv in opOf _ _ => whnf
     (obtain ⟨⟨s0,s1,s2,s3,s4,s5⟩,s6⟩ := hSw)
     go_simp
     try (with_reducible rfl)
   try simp only [Act.put,List.setIfInBounds_toArray,List.set_cons_zero,List.set_cons_succ])
  (refine held_take (v := ?_) (d := some 74) 9 (by kernel_rfl) (by kernel_rfl) rfl ?_ ?_
   rotate_left
   · intro w hSw
     conv in opOf _ _ => whnf
     (obtain ⟨⟨s0,s1,s2,s3,s4,s5⟩,s6⟩ := hSw)
     go_simp
     try (with_reducible rfl)
   try simp only [Act.put,List.setIfInBounds_toArray,List.set_cons_zero,List.set_cons_succ])
  (refine held_take (v := ?_) (d := some 75) 10 (by kernel_rfl) (by kernel_rfl) rfl ?_ ?_
   rotate_left
   · intro w hSw
     conv in opOf _ _ => whnf
     (obtain ⟨⟨s0,s1,s2,s3,s4,s5⟩,s6⟩ := hSw)
     go_simp
     try (with_reducible rfl)
   try simp only [Act.put,List.setIfInBounds_toArray,List.set_cons_zero,List.set_cons_succ])
  (refine held_take (v := ?_) (d := some 76) 11 (by kernel_rfl) (by kernel_rfl) rfl ?_ ?_
   rotate_left
   · intro w hSw
     conv in opOf _ _ => whnf
     (obtain ⟨⟨s0,s1,s2,s3,s4,s5⟩,s6⟩ := hSw)
     go_simp
     try (with_reducible rfl)
   try simp only [Act.put,List.setIfInBounds_toArray,List.set_cons_zero,List.set_cons_succ])
  (refine held_take (v := ?_) (d := some 77) 12 (by kernel_rfl) (by kernel_rfl) rfl ?_ ?_
   rotate_left
   · intro w hSw
     conv in opOf _ _ => whnf
     (obtain ⟨⟨s0,s1,s2,s3,s4,s5⟩,s6⟩ := hSw)
     go_simp
     try (with_reducible rfl)
   try simp only [Act.put,List.setIfInBounds_toArray,List.set_cons_zero,List.set_cons_succ])
  (refine held_take (v := ?_) (d := some 78) 13 (by kernel_rfl) (by kernel_rfl) rfl ?_ ?_
   rotate_left
   · intro w hSw
     conv in opOf _ _ => whnf
     (obtain ⟨⟨s0,s1,s2,s3,s4,s5⟩,s6⟩ := hSw)
     go_simp
     try (with_reducible rfl)
   try simp only [Act.put,List.setIfInBounds_toArray,List.set_cons_zero,List.set_cons_succ])
  (refine held_take (v := ?_) (d := some 79) 14 (by kernel_rfl) (by kernel_rfl) rfl ?_ ?_
   rotate_left
   · intro w hSw
     conv in opOf _ _ => whnf
     (obtain ⟨⟨s0,s1,s2,s3,s4,s5⟩,s6⟩ := hSw)
     go_simp
     try (with_reducible rfl)
   try simp only [Act.put,List.setIfInBounds_toArray,List.set_cons_zero,List.set_cons_succ])
  (refine held_take (v := ?_) (d := some 80) 15 (by kernel_rfl) (by kernel_rfl) rfl ?_ ?_
   rotate_left
   · intro w hSw
     conv in opOf _ _ => whnf
     (obtain ⟨⟨s0,s1,s2,s3,s4,s5⟩,s6⟩ := hSw)
     go_simp
     try (with_reducible rfl)
   try simp only [Act.put,List.setIfInBounds_toArray,List.set_cons_zero,List.set_cons_succ])
  refine held_two 16 17 (by kernel_rfl) (by kernel_rfl) (by kernel_rfl) ?_ ?_
  · skip
    (refine held_call (B := fun w' => P' Bd w' ∧ AskAt lb (lo + k * 6) i0 i1 i2 i3 i4 wd w' ∧ lb < w'.heap.size ∧ W.drew.heap.size ≤ w'.heap.size ∧ ∀ x,Bd x → w'.heap[x]? = W.drew.heap[x]?) (d := some 81) 16 (by kernel_rfl) (by kernel_rfl) rfl (fun hS => HC.out Bd W.drew (cP.below _ _ _ (below_drewN (Below.refl _ _) 1) hP) hS.1 hS.2) (by kernel_rfl) ?_
     rintro w5 hS ⟨hP5,hA5,hl5,hz5,hf5⟩
     refine ⟨⟨hA5,hl5⟩,?_⟩
     try simp only [Act.put,List.setIfInBounds_toArray,List.set_cons_zero,List.set_cons_succ])
    refine held_one 17 (by kernel_rfl) (by kernel_rfl) ?_
    (refine held_run (v := .pointer (some ⟨w5.heap.size,0,none⟩)) (w' := w5.alloc (.cells #[.int .i64 0,.int .i64 0,.int .u32 0] 56)) (d := some 15) 17 (by kernel_rfl) (by kernel_rfl) rfl ?_ ?_
     · intro hSw
       conv in opOf _ _ => whnf
       go_simp
       try (with_reducible rfl)
     intro hS
     refine ⟨⟨hS.1.alloc hS.2 _,by have := hS.2; simp; omega⟩,?_⟩
     try simp only [Act.put,List.setIfInBounds_toArray,List.set_cons_zero,List.set_cons_succ])
    have hX5 : Blk (w5.alloc (.cells #[.int .i64 0,.int .i64 0,.int .u32 0] 56)) w5.heap.size 56 [.int .i64 0,.int .i64 0,.int .u32 0] := Blk.new w5 56 [.int .i64 0,.int .i64 0,.int .u32 0]
    have hne5 : lb ≠ w5.heap.size := by omega
    (refine held_one 18 (by kernel_rfl) (by kernel_rfl) (held_store 18 (d := none) (by kernel_rfl) (by kernel_rfl) rfl 56 (.tmp 15) (.tmp 81) (by kernel_rfl) w5.heap.size 0 #[.int .i64 E0,.int .i64 E1,.int .u32 E2] rfl rfl (fun _ => there_of hX5 rfl) (by kernel_rfl) (by simp [Value.oneCell']) ?_)
     intro hS
     refine ⟨⟨AskAt.cells (by have := hS.2; omega) _ _ _ hS.1,by rw [size_cells]; exact hS.2⟩,?_⟩
     try simp only [Act.put,List.setIfInBounds_toArray,List.set_cons_zero,List.set_cons_succ])
    refine held_done (by kernel_rfl) (fun hS => hR.out _ _ ?_)
    refine hQ _ _ _ _ _ _ _ _ _ _ _ _ _ _ _ _ _ w5.heap.size _ (cP'.set _ _ _ _ (.inr rfl) (cP'.new _ _ _ hP5)) (((hX5.set_ 0 _).set_ 1 _).set_ 2 _) hS.1 hS.2 ?_ ?_
    · have h1 : W.heap.size ≤ w5.heap.size := hz5; rw [size_cells,World.size_alloc]; omega
    · intro x hx
      have hxl := hBl x hx
      have h1 : W.heap.size ≤ w5.heap.size := hz5
      exact (setCells_other _ (show x ≠ w5.heap.size by omega) _ _).trans ((Below.heap_alloc w5 _ x (by omega)).trans (hf5 x hx))
  · skip
    (refine held_run (v := .pointer (some ⟨W.heap.size,0,none⟩)) (w' := W.drew.alloc (.cells #[.int .i64 0,.int .i64 0,.int .u32 0] 56)) (d := some 15) 17 (by kernel_rfl) (by kernel_rfl) rfl ?_ ?_
     · intro hSw
       conv in opOf _ _ => whnf
       go_simp
       try (with_reducible rfl)
     intro hS
     refine ⟨⟨hS.1.alloc hS.2 _,by have := hS.2; simp; omega⟩,?_⟩
     try simp only [Act.put,List.setIfInBounds_toArray,List.set_cons_zero,List.set_cons_succ])
    refine held_one 16 (by kernel_rfl) (by kernel_rfl) ?_
    (refine held_call (B := fun w' => P' (fun x => Bd x ∨ x = W.heap.size) w' ∧ AskAt lb (lo + k * 6) i0 i1 i2 i3 i4 wd w' ∧ lb < w'.heap.size ∧ (W.drew.alloc (.cells #[.int .i64 0,.int .i64 0,.int .u32 0] 56)).heap.size ≤ w'.heap.size ∧ ∀ x,(fun x => Bd x ∨ x = W.heap.size) x → w'.heap[x]? = (W.drew.alloc (.cells #[.int .i64 0,.int .i64 0,.int .u32 0] 56)).heap[x]?) (d := some 81) 16 (by kernel_rfl) (by kernel_rfl) rfl (fun hS => HC.out (fun x => Bd x ∨ x = W.heap.size) (W.drew.alloc (.cells #[.int .i64 0,.int .i64 0,.int .u32 0] 56)) (cP.new _ _ _ (cP.below _ _ _ (below_drewN (Below.refl _ _) 1) hP)) hS.1 hS.2) (by kernel_rfl) ?_
     rintro w5 hS ⟨hP5,hA5,hl5,hz5,hf5⟩
     refine ⟨⟨hA5,hl5⟩,?_⟩
     try simp only [Act.put,List.setIfInBounds_toArray,List.set_cons_zero,List.set_cons_succ])
    have hX5 : Blk w5 W.heap.size 56 [.int .i64 0,.int .i64 0,.int .u32 0] := (hf5 _ (.inr rfl)).trans (Blk.new W.drew 56 [.int .i64 0,.int .i64 0,.int .u32 0])
    have hne5 : lb ≠ W.heap.size := by omega
    (refine held_one 18 (by kernel_rfl) (by kernel_rfl) (held_store 18 (d := none) (by kernel_rfl) (by kernel_rfl) rfl 56 (.tmp 15) (.tmp 81) (by kernel_rfl) W.heap.size 0 #[.int .i64 E0,.int .i64 E1,.int .u32 E2] rfl rfl (fun _ => there_of hX5 rfl) (by kernel_rfl) (by simp [Value.oneCell']) ?_)
     intro hS
     refine ⟨⟨AskAt.cells (by have := hS.2; omega) _ _ _ hS.1,by rw [size_cells]; exact hS.2⟩,?_⟩
     try simp only [Act.put,List.setIfInBounds_toArray,List.set_cons_zero,List.set_cons_succ])
    refine held_done (by kernel_rfl) (fun hS => hR.out _ _ ?_)
    refine hQ _ _ _ _ _ _ _ _ _ _ _ _ _ _ _ _ _ W.heap.size _ (cP'.set _ _ _ _ (.inr rfl) hP5) (((hX5.set_ 0 _).set_ 1 _).set_ 2 _) hS.1 hS.2 ?_ ?_
    · have h1 : (W.drew.alloc (.cells #[.int .i64 0,.int .i64 0,.int .u32 0] 56)).heap.size ≤ w5.heap.size := hz5; rw [World.size_alloc] at h1; rw [size_cells]; have h2 : W.drew.heap.size = W.heap.size := rfl; omega
    · intro x hx
      have hxl := hBl x hx
      exact (setCells_other _ (show x ≠ W.heap.size by omega) _ _).trans ((hf5 x (.inl hx)).trans (Below.heap_alloc W.drew _ x hxl))
noncomputable def cpR14 : Array Oper := regOf Tryd.f14.body 14
set_option maxRecDepth 100000 in
set_option maxHeartbeats 4000000 in
theorem cp_r14 (P P' : (Nat → Prop) → World → Prop) (cP : Clo P) (cP' : Clo P') (Bd : Nat → Prop) (g lb lo ln lc k  : Nat) (mA : Option Addr) (mm mc : Nat) (fr i0 i1 i2 i3 i4 wd E0 E1 E2 : Int) (u0 u4 u5 u6 u7 u8 u9 Ua Ul UH U2 U3 U4 U5 U6 U7 U8 U9 Ya Yb Yc Yd Ye Yf Yg Yh Yi Yj Yk Yl Ym Yn Yo Yp Yq Yr Ys Yt Yu Yv Yw Yx Yy Yz YA YB YC YD YE YF YG YH YI YJ YK YL YM YN YO YP YQ YR YS YT YU YV YW YX YY YZ Y0 Y1 Y2 Y3 Y4 Y5 Y6 Y7 Y8 Y9 Za Zb Zc Zd Ze Zf Zg Zh Zi Zj Zk Zl Zm Zn Zo Ub Uc Ud Ue Uf Ug Uh Ui Uj Uk Um Un Uo Up Uq Ur Us Ut Uu Uv Ux Uy Uz UA UB UC UD UE UF UG UI UJ UK UL UM UN UO UP UQ UR US UT UU UV UW UX UY UZ U0 U1 : Value) (W : World) (Q : Exit → Act → World → Prop)
    (hk : k < ln) (hmm : mm ≤ 140737488355328) (hP : P Bd W) (hBl : ∀ x,Bd x → x < W.heap.size) (hA : AskAt lb (lo + k * 6) i0 i1 i2 i3 i4 wd W) (hlb : lb < W.heap.size)
    (HC : Hid (∀ B w,P B w → AskAt lb (lo + k * 6) i0 i1 i2 i3 i4 wd w → lb < w.heap.size → Calls Tryd.prog 42 #[.pointer (some ⟨g,0,none⟩),insA i0 i1 i2 i3 i4,.int .i32 wd,.slice mA mm mc,.int .i64 fr] w fun e w' => e = .returned (.agg #[.int .i64 E0,.int .i64 E1,.int .u32 E2]) ∧ (P' B w' ∧ AskAt lb (lo + k * 6) i0 i1 i2 i3 i4 wd w' ∧ lb < w'.heap.size ∧ w.heap.size ≤ w'.heap.size ∧ ∀ x,B x → w'.heap[x]? = w.heap[x]?)))
    (hQ : ∀ (ZG ZH ZI ZJ ZK ZL ZM ZN ZO ZP ZQ ZR ZS ZT : Value) (X : Nat) (w' : World),P' (fun x => Bd x ∨ x = X) w' → Blk w' X 92 [.int .i64 E0,.int .i64 E1,.int .u32 E2] → AskAt lb (lo + k * 6) i0 i1 i2 i3 i4 wd w' → lb < w'.heap.size → W.heap.size < w'.heap.size → (∀ x,Bd x → w'.heap[x]? = W.heap[x]?) → Q .normal { tmps := #[u0,.slice mA mm mc,.int .i64 fr,.slice (some ⟨lb,lo,none⟩) ln lc,u4,u5,u6,u7,u8,u9,Ua,Ul,.pointer (some ⟨g,0,none⟩),UH,.int .i64 k,U2,.pointer (some ⟨X,0,none⟩),U4,U5,U6,U7,U8,U9,Ya,Yb,Yc,Yd,Ye,Yf,Yg,Yh,Yi,Yj,Yk,Yl,Ym,Yn,Yo,Yp,Yq,Yr,Ys,Yt,Yu,Yv,Yw,Yx,Yy,Yz,YA,YB,YC,YD,YE,YF,YG,YH,YI,YJ,YK,YL,YM,YN,YO,YP,YQ,YR,YS,YT,YU,YV,YW,YX,YY,YZ,Y0,Y1,Y2,Y3,Y4,Y5,Y6,ZG,ZH,ZI,ZJ,ZK,ZL,ZM,ZN,ZO,ZP,ZQ,ZR,ZS,ZT,Zl,Zm,Zn,Zo,Ub,Uc,Ud,Ue,Uf,Ug,Uh,Ui,Uj,Uk,Um,Un,Uo,Up,Uq,Ur,Us,Ut,Uu,Uv,Ux,Uy,Uz,UA,UB,UC,UD,UE,UF,UG,UI,UJ,UK,UL,UM,UN,UO,UP,UQ,UR,US,UT,UU,UV,UW,UX,UY,UZ,U0,U1],defers := [] } w') :
    (Code.region 14 cpR14 true).wp Tryd.prog Q { tmps := #[u0,.slice mA mm mc,.int .i64 fr,.slice (some ⟨lb,lo,none⟩) ln lc,u4,u5,u6,u7,u8,u9,Ua,Ul,.pointer (some ⟨g,0,none⟩),UH,.int .i64 k,U2,U3,U4,U5,U6,U7,U8,U9,Ya,Yb,Yc,Yd,Ye,Yf,Yg,Yh,Yi,Yj,Yk,Yl,Ym,Yn,Yo,Yp,Yq,Yr,Ys,Yt,Yu,Yv,Yw,Yx,Yy,Yz,YA,YB,YC,YD,YE,YF,YG,YH,YI,YJ,YK,YL,YM,YN,YO,YP,YQ,YR,YS,YT,YU,YV,YW,YX,YY,YZ,Y0,Y1,Y2,Y3,Y4,Y5,Y6,Y7,Y8,Y9,Za,Zb,Zc,Zd,Ze,Zf,Zg,Zh,Zi,Zj,Zk,Zl,Zm,Zn,Zo,Ub,Uc,Ud,Ue,Uf,Ug,Uh,Ui,Uj,Uk,Um,Un,Uo,Up,Uq,Ur,Us,Ut,Uu,Uv,Ux,Uy,Uz,UA,UB,UC,UD,UE,UF,UG,UI,UJ,UK,UL,UM,UN,UO,UP,UQ,UR,US,UT,UU,UV,UW,UX,UY,UZ,U0,U1],defers := [] } W := by
  have hkI : (k : Int) < ln := by omega
  have hm1 : (mm : Int) ≤ (mm : Int) + 80 := by omega
  have hm2 : (0 : Int) ≤ mm := by omega
  refine held_start (ops' := cpR14) (l0 := #[false,false,false,false,false,false,false,false,false,false,false,false,false,false,false,false]) (S := fun w' => AskAt lb (lo + k * 6) i0 i1 i2 i3 i4 wd w' ∧ lb < w'.heap.size) (by kernel_rfl) (by kernel_rfl) (by kernel_rfl) (by kernel_rfl) ⟨hA,hlb⟩ (fun R hR => ?_)
  (refine held_take (v := ?_) (d := some 82) 0 (by kernel_rfl) (by kernel_rfl) rfl ?_ ?_
   rotate_left
   · intro w hSw
     conv in opOf _ _ => whnf
     (obtain ⟨⟨s0,s1,s2,s3,s4,s5⟩,s6⟩ := hSw)
     go_simp
     try (with_reducible rfl)
   try simp only [Act.put,List.setIfInBounds_toArray,List.set_cons_zero,List.set_cons_succ])
  (refine held_take (v := ?_) (d := some 83) 1 (by kernel_rfl) (by kernel_rfl) rfl ?_ ?_
   rotate_left
   · intro w hSw
     conv in opOf _ _ => whnf
     (obtain ⟨⟨s0,s1,s2,s3,s4,s5⟩,s6⟩ := hSw)
     go_simp
     try (with_reducible rfl)
   try simp only [Act.put,List.setIfInBounds_toArray,List.set_cons_zero,List.set_cons_succ])
  (refine held_take (v := ?_) (d := some 84) 2 (by kernel_rfl) (by kernel_rfl) rfl ?_ ?_
   rotate_left
   · intro w hSw
     conv in opOf _ _ => whnf
     (obtain ⟨⟨s0,s1,s2,s3,s4,s5⟩,s6⟩ := hSw)
     go_simp
     try (with_reducible rfl)
   try simp only [Act.put,List.setIfInBounds_toArray,List.set_cons_zero,List.set_cons_succ])
  (refine held_take (v := ?_) (d := some 85) 3 (by kernel_rfl) (by kernel_rfl) rfl ?_ ?_
   rotate_left
   · intro w hSw
     conv in opOf _ _ => whnf
     (obtain ⟨⟨s0,s1,s2,s3,s4,s5⟩,s6⟩ := hSw)
     go_simp
     try (with_reducible rfl)
   try simp only [Act.put,List.setIfInBounds_toArray,List.set_cons_zero,List.set_cons_succ])
  (refine held_take (v := ?_) (d := some 86) 4 (by kernel_rfl) (by kernel_rfl) rfl ?_ ?_
   rotate_left
   · intro w hSw
     conv in opOf _ _ => whnf
     (obtain ⟨⟨s0,s1,s2,s3,s4,s5⟩,s6⟩ := hSw)
     go_simp
     try (with_reducible rfl)
   try simp only [Act.put,List.setIfInBounds_toArray,List.set_cons_zero,List.set_cons_succ])
  (refine held_take (v := ?_) (d := some 87) 5 (by kernel_rfl) (by kernel_rfl) rfl ?_ ?_
   rotate_left
   · intro w hSw
     conv in opOf _ _ => whnf
     (obtain ⟨⟨s0,s1,s2,s3,s4,s5⟩,s6⟩ := hSw)
     go_simp
     try (with_reducible rfl)
   try simp only [Act.put,List.setIfInBounds_toArray,List.set_cons_zero,List.set_cons_succ])
  (refine held_take (v := ?_) (d := some 88) 6 (by kernel_rfl) (by kernel_rfl) rfl ?_ ?_
   rotate_left
   · intro w hSw
     conv in opOf _ _ => whnf
     (obtain ⟨⟨s0,s1,s2,s3,s4,s5⟩,s6⟩ := hSw)
     go_simp
     try (with_reducible rfl)
   try simp only [Act.put,List.setIfInBounds_toArray,List.set_cons_zero,List.set_cons_succ])
  (refine held_take (v := ?_) (d := some 89) 7 (by kernel_rfl) (by kernel_rfl) rfl ?_ ?_
   rotate_left
   · intro w hSw
     conv in opOf _ _ => whnf
     (obtain ⟨⟨s0,s1,s2,s3,s4,s5⟩,s6⟩ := hSw)
     go_simp
     try (with_reducible rfl)
   try simp only [Act.put,List.setIfInBounds_toArray,List.set_cons_zero,List.set_cons_succ])
  (refine held_take (v := ?_) (d := some 90) 8 (by kernel_rfl) (by kernel_rfl) rfl ?_ ?_
   rotate_left
   · intro w hSw
     conv in opOf _ _ => whnf
     (obtain ⟨⟨s0,s1,s2,s3,s4,s5⟩,s6⟩ := hSw)
     go_simp
     try (with_reducible rfl)
   try simp only [Act.put,List.setIfInBounds_toArray,List.set_cons_zero,List.set_cons_succ])
  (refine held_take (v := ?_) (d := some 91) 9 (by kernel_rfl) (by kernel_rfl) rfl ?_ ?_
   rotate_left
   · intro w hSw
     conv in opOf _ _ => whnf
     (obtain ⟨⟨s0,s1,s2,s3,s4,s5⟩,s6⟩ := hSw)
     go_simp
     try (with_reducible rfl)
   try simp only [Act.put,List.setIfInBounds_toArray,List.set_cons_zero,List.set_cons_succ])
  (refine held_take (v := ?_) (d := some 92) 10 (by kernel_rfl) (by kernel_rfl) rfl ?_ ?_
   rotate_left
   · intro w hSw
     conv in opOf _ _ => whnf
     (obtain ⟨⟨s0,s1,s2,s3,s4,s5⟩,s6⟩ := hSw)
     go_simp
     try (with_reducible rfl)
   try simp only [Act.put,List.setIfInBounds_toArray,List.set_cons_zero,List.set_cons_succ])
  (refine held_take (v := ?_) (d := some 93) 11 (by kernel_rfl) (by kernel_rfl) rfl ?_ ?_
   rotate_left
   · intro w hSw
     conv in opOf _ _ => whnf
     (obtain ⟨⟨s0,s1,s2,s3,s4,s5⟩,s6⟩ := hSw)
     go_simp
     try (with_reducible rfl)
   try simp only [Act.put,List.setIfInBounds_toArray,List.set_cons_zero,List.set_cons_succ])
  (refine held_take (v := ?_) (d := some 94) 12 (by kernel_rfl) (by kernel_rfl) rfl ?_ ?_
   rotate_left
   · intro w hSw
     conv in opOf _ _ => whnf
     (obtain ⟨⟨s0,s1,s2,s3,s4,s5⟩,s6⟩ := hSw)
     go_simp
     try (with_reducible rfl)
   try simp only [Act.put,List.setIfInBounds_toArray,List.set_cons_zero,List.set_cons_succ])
  refine held_two 13 14 (by kernel_rfl) (by kernel_rfl) (by kernel_rfl) ?_ ?_
  · skip
    (refine held_call (B := fun w' => P' Bd w' ∧ AskAt lb (lo + k * 6) i0 i1 i2 i3 i4 wd w' ∧ lb < w'.heap.size ∧ W.drew.heap.size ≤ w'.heap.size ∧ ∀ x,Bd x → w'.heap[x]? = W.drew.heap[x]?) (d := some 95) 13 (by kernel_rfl) (by kernel_rfl) rfl (fun hS => HC.out Bd W.drew (cP.below _ _ _ (below_drewN (Below.refl _ _) 1) hP) hS.1 hS.2) (by kernel_rfl) ?_
     rintro w5 hS ⟨hP5,hA5,hl5,hz5,hf5⟩
     refine ⟨⟨hA5,hl5⟩,?_⟩
     try simp only [Act.put,List.setIfInBounds_toArray,List.set_cons_zero,List.set_cons_succ])
    refine held_one 14 (by kernel_rfl) (by kernel_rfl) ?_
    (refine held_run (v := .pointer (some ⟨w5.heap.size,0,none⟩)) (w' := w5.alloc (.cells #[.int .i64 0,.int .i64 0,.int .u32 0] 92)) (d := some 16) 14 (by kernel_rfl) (by kernel_rfl) rfl ?_ ?_
     · intro hSw
       conv in opOf _ _ => whnf
       go_simp
       try (with_reducible rfl)
     intro hS
     refine ⟨⟨hS.1.alloc hS.2 _,by have := hS.2; simp; omega⟩,?_⟩
     try simp only [Act.put,List.setIfInBounds_toArray,List.set_cons_zero,List.set_cons_succ])
    have hX5 : Blk (w5.alloc (.cells #[.int .i64 0,.int .i64 0,.int .u32 0] 92)) w5.heap.size 92 [.int .i64 0,.int .i64 0,.int .u32 0] := Blk.new w5 92 [.int .i64 0,.int .i64 0,.int .u32 0]
    have hne5 : lb ≠ w5.heap.size := by omega
    (refine held_one 15 (by kernel_rfl) (by kernel_rfl) (held_store 15 (d := none) (by kernel_rfl) (by kernel_rfl) rfl 92 (.tmp 16) (.tmp 95) (by kernel_rfl) w5.heap.size 0 #[.int .i64 E0,.int .i64 E1,.int .u32 E2] rfl rfl (fun _ => there_of hX5 rfl) (by kernel_rfl) (by simp [Value.oneCell']) ?_)
     intro hS
     refine ⟨⟨AskAt.cells (by have := hS.2; omega) _ _ _ hS.1,by rw [size_cells]; exact hS.2⟩,?_⟩
     try simp only [Act.put,List.setIfInBounds_toArray,List.set_cons_zero,List.set_cons_succ])
    refine held_done (by kernel_rfl) (fun hS => hR.out _ _ ?_)
    refine hQ _ _ _ _ _ _ _ _ _ _ _ _ _ _ w5.heap.size _ (cP'.set _ _ _ _ (.inr rfl) (cP'.new _ _ _ hP5)) (((hX5.set_ 0 _).set_ 1 _).set_ 2 _) hS.1 hS.2 ?_ ?_
    · have h1 : W.heap.size ≤ w5.heap.size := hz5; rw [size_cells,World.size_alloc]; omega
    · intro x hx
      have hxl := hBl x hx
      have h1 : W.heap.size ≤ w5.heap.size := hz5
      exact (setCells_other _ (show x ≠ w5.heap.size by omega) _ _).trans ((Below.heap_alloc w5 _ x (by omega)).trans (hf5 x hx))
  · skip
    (refine held_run (v := .pointer (some ⟨W.heap.size,0,none⟩)) (w' := W.drew.alloc (.cells #[.int .i64 0,.int .i64 0,.int .u32 0] 92)) (d := some 16) 14 (by kernel_rfl) (by kernel_rfl) rfl ?_ ?_
     · intro hSw
       conv in opOf _ _ => whnf
       go_simp
       try (with_reducible rfl)
     intro hS
     refine ⟨⟨hS.1.alloc hS.2 _,by have := hS.2; simp; omega⟩,?_⟩
     try simp only [Act.put,List.setIfInBounds_toArray,List.set_cons_zero,List.set_cons_succ])
    refine held_one 13 (by kernel_rfl) (by kernel_rfl) ?_
    (refine held_call (B := fun w' => P' (fun x => Bd x ∨ x = W.heap.size) w' ∧ AskAt lb (lo + k * 6) i0 i1 i2 i3 i4 wd w' ∧ lb < w'.heap.size ∧ (W.drew.alloc (.cells #[.int .i64 0,.int .i64 0,.int .u32 0] 92)).heap.size ≤ w'.heap.size ∧ ∀ x,(fun x => Bd x ∨ x = W.heap.size) x → w'.heap[x]? = (W.drew.alloc (.cells #[.int .i64 0,.int .i64 0,.int .u32 0] 92)).heap[x]?) (d := some 95) 13 (by kernel_rfl) (by kernel_rfl) rfl (fun hS => HC.out (fun x => Bd x ∨ x = W.heap.size) (W.drew.alloc (.cells #[.int .i64 0,.int .i64 0,.int .u32 0] 92)) (cP.new _ _ _ (cP.below _ _ _ (below_drewN (Below.refl _ _) 1) hP)) hS.1 hS.2) (by kernel_rfl) ?_
     rintro w5 hS ⟨hP5,hA5,hl5,hz5,hf5⟩
     refine ⟨⟨hA5,hl5⟩,?_⟩
     try simp only [Act.put,List.setIfInBounds_toArray,List.set_cons_zero,List.set_cons_succ])
    have hX5 : Blk w5 W.heap.size 92 [.int .i64 0,.int .i64 0,.int .u32 0] := (hf5 _ (.inr rfl)).trans (Blk.new W.drew 92 [.int .i64 0,.int .i64 0,.int .u32 0])
    have hne5 : lb ≠ W.heap.size := by omega
    (refine held_one 15 (by kernel_rfl) (by kernel_rfl) (held_store 15 (d := none) (by kernel_rfl) (by kernel_rfl) rfl 92 (.tmp 16) (.tmp 95) (by kernel_rfl) W.heap.size 0 #[.int .i64 E0,.int .i64 E1,.int .u32 E2] rfl rfl (fun _ => there_of hX5 rfl) (by kernel_rfl) (by simp [Value.oneCell']) ?_)
     intro hS
     refine ⟨⟨AskAt.cells (by have := hS.2; omega) _ _ _ hS.1,by rw [size_cells]; exact hS.2⟩,?_⟩
     try simp only [Act.put,List.setIfInBounds_toArray,List.set_cons_zero,List.set_cons_succ])
    refine held_done (by kernel_rfl) (fun hS => hR.out _ _ ?_)
    refine hQ _ _ _ _ _ _ _ _ _ _ _ _ _ _ W.heap.size _ (cP'.set _ _ _ _ (.inr rfl) hP5) (((hX5.set_ 0 _).set_ 1 _).set_ 2 _) hS.1 hS.2 ?_ ?_
    · have h1 : (W.drew.alloc (.cells #[.int .i64 0,.int .i64 0,.int .u32 0] 92)).heap.size ≤ w5.heap.size := hz5; rw [World.size_alloc] at h1; rw [size_cells]; have h2 : W.drew.heap.size = W.heap.size := rfl; omega
    · intro x hx
      have hxl := hBl x hx
      exact (setCells_other _ (show x ≠ W.heap.size by omega) _ _).trans ((hf5 x (.inl hx)).trans (Below.heap_alloc W.drew _ x hxl))
end Go.Proofs.YthcjnkakfpmpbaaDoor
