import Derived.Test.YthcjnkakfpmpbaaDoorQ4
import Derived.Test.YthcjnkakfpmpbaaDoorQ3
namespace Go.Proofs.YthcjnkakfpmpbaaDoor
open Go.RowKit
set_option linter.unusedVariables false
set_option linter.unusedSimpArgs false
noncomputable def oneR6 : Array Oper := regOf Tryd.f59.body 6
set_option maxRecDepth 100000 in
set_option maxHeartbeats 8000000 in
theorem one_r6 (g a n c base : Nat) (A : Option Addr) (xs cells : List Value) (x : Int) (u1 u2 u3 u4 u6 u7 u8 u9 Ua Ul Uw UH UP UQ UR US UT UU UV UW UX UY UZ U0 U1 U2 U3 U4 U5 U6 U7 U8 U9 Ya Yb Yc Yd Ye Yf Yg Yh Yi Yj Yk Yl Ym Yn Yo Yp Yq Yr Ys Yt Yu Yv Yw Yx Yy Yz YA YB YC YD YE YF YG YH YI YJ YK YL YM YN YO YP YQ YR YS YT YU YV YW YX YY YZ Y0 Y1 Y2 Y3 Y4 Y5 Y6 Y7 Y8 Y9 Za Zb Zc Ub Uc Ud Ue Uf Ug Uh Ui Uj Uk Um Un Uo Up Uq Ur Us Ut Uu Uv Ux Uy Uz UA UB UC UD UE UF UG UI UJ UK UL UM UN UO : Value) (W : World) (Q : Exit → Act → World → Prop) (ha : a < 8) (hB : Blk W g 119 cells) (hA : cells[269]? = some (.slice A n c)) (hx : cells[a]? = some (.int .i32 x))
    (hrow : Row W base 21 (.slice A n c) n xs) (hbase : base ≤ W.heap.size) (hn : n ≤ 1000000) (hgo : Value.ownBlock (.slice A n c) ≠ some g)
    (hQ : ∀ (A' : Option Addr) (c' : Nat) (w6 : World) (Zd Ze Zf Zg Zh Zi Zj Zk Zl Zm Zn Zo : Value),Row w6 base 21 (.slice A' (n + 1) c') (n + 1) (xs ++ [.int .i32 x]) → (W.drew.alloc (.cells #[.int .i32 x] 21)).grownBy w6 (Value.ownBlock (.slice A n c)) →
      (∀ k,Value.ownBlock (.slice A' (n + 1) c') = some k → Value.ownBlock (.slice A n c) = some k ∨ (W.drew.alloc (.cells #[.int .i32 x] 21)).heap.size ≤ k) → Q .normal { tmps := #[.pointer (some ⟨g,0,none⟩),u1,u2,u3,u4,.pointer (some ⟨g,a,none⟩),u6,u7,u8,u9,Ua,Ul,Uw,UH,UP,UQ,UR,US,UT,UU,UV,UW,UX,UY,UZ,Zd,Ze,Zf,Zg,Zh,Zi,Zj,Zk,Zl,Zm,Zn,Zo,Yc,Yd,Ye,Yf,Yg,Yh,Yi,Yj,Yk,Yl,Ym,Yn,Yo,Yp,Yq,Yr,Ys,Yt,Yu,Yv,Yw,Yx,Yy,Yz,YA,YB,YC,YD,YE,YF,YG,YH,YI,YJ,YK,YL,YM,YN,YO,YP,YQ,YR,YS,YT,YU,YV,YW,YX,YY,YZ,Y0,Y1,Y2,Y3,Y4,Y5,Y6,Y7,Y8,Y9,Za,Zb,Zc,Ub,Uc,Ud,Ue,Uf,Ug,Uh,Ui,Uj,Uk,Um,Un,Uo,Up,Uq,Ur,Us,Ut,Uu,Uv,Ux,Uy,Uz,UA,UB,UC,UD,UE,UF,UG,UI,UJ,UK,UL,UM,UN,UO],defers := [] } (w6.setCell ⟨g,269,none⟩ (.slice A' (n + 1) c'))) :
    (Code.region 6 oneR6 true).wp Tryd.prog Q { tmps := #[.pointer (some ⟨g,0,none⟩),u1,u2,u3,u4,.pointer (some ⟨g,a,none⟩),u6,u7,u8,u9,Ua,Ul,Uw,UH,UP,UQ,UR,US,UT,UU,UV,UW,UX,UY,UZ,U0,U1,U2,U3,U4,U5,U6,U7,U8,U9,Ya,Yb,Yc,Yd,Ye,Yf,Yg,Yh,Yi,Yj,Yk,Yl,Ym,Yn,Yo,Yp,Yq,Yr,Ys,Yt,Yu,Yv,Yw,Yx,Yy,Yz,YA,YB,YC,YD,YE,YF,YG,YH,YI,YJ,YK,YL,YM,YN,YO,YP,YQ,YR,YS,YT,YU,YV,YW,YX,YY,YZ,Y0,Y1,Y2,Y3,Y4,Y5,Y6,Y7,Y8,Y9,Za,Zb,Zc,Ub,Uc,Ud,Ue,Uf,Ug,Uh,Ui,Uj,Uk,Um,Un,Uo,Up,Uq,Ur,Us,Ut,Uu,Uv,Ux,Uy,Uz,UA,UB,UC,UD,UE,UF,UG,UI,UJ,UK,UL,UM,UN,UO],defers := [] } W := by
  obtain ⟨i0,hi0,hz0,hz1,hz2⟩ := info_parts i32_info
  have hgl := hB.lt
  have q1 := (hB.cell 269).trans hA
  have q2 := (hB.cell a).trans hx
  refine held_start (ops' := oneR6) (l0 := #[false,false,false,false,false,false,false,false,false,false,false,false,false]) (S := fun _ => True) (by kernel_rfl) (by kernel_rfl) (by kernel_rfl) (by kernel_rfl) trivial (fun R hR => ?_)
  (refine held_take (v := ?_) (d := some 25) 0 (by kernel_rfl) (by kernel_rfl) rfl ?_ ?_
   rotate_left
   · intro w hSw
     conv in opOf _ _ => whnf
     (try dsimp only at hSw)
     go_simp
     try (with_reducible rfl)
   try simp only [Act.put,List.setIfInBounds_toArray,List.set_cons_zero,List.set_cons_succ])
  (refine held_take (v := ?_) (d := some 26) 1 (by kernel_rfl) (by kernel_rfl) rfl ?_ ?_
   rotate_left
   · intro w hSw
     conv in opOf _ _ => whnf
     (try dsimp only at hSw)
     go_simp
     try (with_reducible rfl)
   try simp only [Act.put,List.setIfInBounds_toArray,List.set_cons_zero,List.set_cons_succ])
  (refine held_take (v := ?_) (d := some 27) 2 (by kernel_rfl) (by kernel_rfl) rfl ?_ ?_
   rotate_left
   · intro w hSw
     conv in opOf _ _ => whnf
     (try dsimp only at hSw)
     go_simp
     try (with_reducible rfl)
   try simp only [Act.put,List.setIfInBounds_toArray,List.set_cons_zero,List.set_cons_succ])
  (refine held_take (v := ?_) (d := some 28) 3 (by kernel_rfl) (by kernel_rfl) rfl ?_ ?_
   rotate_left
   · intro w hSw
     conv in opOf _ _ => whnf
     (try dsimp only at hSw)
     go_simp
     try (with_reducible rfl)
   try simp only [Act.put,List.setIfInBounds_toArray,List.set_cons_zero,List.set_cons_succ])
  (refine held_take (v := ?_) (d := some 30) 5 (by kernel_rfl) (by kernel_rfl) rfl ?_ ?_
   rotate_left
   · intro w hSw
     conv in opOf _ _ => whnf
     (try dsimp only at hSw)
     go_simp
     try (with_reducible rfl)
   try simp only [Act.put,List.setIfInBounds_toArray,List.set_cons_zero,List.set_cons_succ])
  (refine held_take (v := ?_) (d := some 31) 6 (by kernel_rfl) (by kernel_rfl) rfl ?_ ?_
   rotate_left
   · intro w hSw
     conv in opOf _ _ => whnf
     (try dsimp only at hSw)
     go_simp
     try (with_reducible rfl)
   try simp only [Act.put,List.setIfInBounds_toArray,List.set_cons_zero,List.set_cons_succ])
  refine held_many [4,7] (by kernel_rfl) (by simp) (by intro i hi; simp only [List.mem_cons,List.not_mem_nil,or_false] at hi; rcases hi with rfl | rfl <;> kernel_rfl) (fun i hi => ?_)
  simp only [List.mem_cons,List.not_mem_nil,or_false] at hi
  rcases hi with rfl | rfl
  · skip
    (refine held_run (v := ?_) (w' := ?_) (d := some 29) 4 (by kernel_rfl) (by kernel_rfl) rfl ?_ ?_
     rotate_left 2
     · intro hSw
       conv in opOf _ _ => whnf
       go_simp
       first | done | (with_reducible rfl) | (constructor <;> with_reducible rfl)
     intro hS
     refine ⟨trivial,?_⟩
     try simp only [Act.put,List.setIfInBounds_toArray,List.set_cons_zero,List.set_cons_succ])
    refine held_one 7 (by kernel_rfl) (by kernel_rfl) ?_
    (refine held_run (v := ?_) (w' := ?_) (d := some 32) 7 (by kernel_rfl) (by kernel_rfl) rfl ?_ ?_
     rotate_left 2
     · intro hSw
       conv in opOf _ _ => whnf
       go_simp
       first | done | (with_reducible rfl) | (constructor <;> with_reducible rfl)
     intro hS
     refine ⟨trivial,?_⟩
     try simp only [Act.put,List.setIfInBounds_toArray,List.set_cons_zero,List.set_cons_succ])
    refine held_one 8 (by kernel_rfl) (by kernel_rfl) ?_
    (refine held_run (v := ?_) (w' := ?_) (d := some 33) 8 (by kernel_rfl) (by kernel_rfl) rfl ?_ ?_
     rotate_left 2
     · intro hSw
       conv in opOf _ _ => whnf
       go_simp
       first | done | (with_reducible rfl) | (constructor <;> with_reducible rfl)
     intro hS
     refine ⟨trivial,?_⟩
     try simp only [Act.put,List.setIfInBounds_toArray,List.set_cons_zero,List.set_cons_succ])
    (refine held_one 9 (by kernel_rfl) (by kernel_rfl) (held_row 9 (d := some 34) (by kernel_rfl) (by kernel_rfl) rfl (.tmp 29) (.tmp 33) 67 (by kernel_rfl) base 21 i0 (.int .i32 0) 4 Tryd.underlying67 hi0 hz0 hz1 hz2 rfl (.slice A n c) n xs (by kernel_rfl) (hrow.keep fun k hk => Below.heap_alloc W.drew _ k (hrow.lt k hk).2) W.heap.size 0 1 (.int .i32 x) (by kernel_rfl) (by simp) rfl (by unfold maxLen; omega) (by omega) (by simp; omega) (fun A' c' w6 _ hrow6 hg6 ho6 => ⟨trivial,?_⟩))
     try simp only [Act.put,List.setIfInBounds_toArray,List.set_cons_zero,List.set_cons_succ])
    have hB6 : Blk w6 g 119 cells := Blk.grown ((show Blk W.drew g 119 cells from hB).alloc _) hg6 (fun e => hgo e.symm)
    have q6 := (hB6.cell 269).trans hA
    have f6 := hB6.free 269
    (refine held_take (v := ?_) (d := some 35) 10 (by kernel_rfl) (by kernel_rfl) rfl ?_ ?_
     rotate_left
     · intro w hSw
       conv in opOf _ _ => whnf
       (try dsimp only at hSw)
       go_simp
       try (with_reducible rfl)
     try simp only [Act.put,List.setIfInBounds_toArray,List.set_cons_zero,List.set_cons_succ])
    (refine held_take (v := ?_) (d := some 36) 11 (by kernel_rfl) (by kernel_rfl) rfl ?_ ?_
     rotate_left
     · intro w hSw
       conv in opOf _ _ => whnf
       (try dsimp only at hSw)
       go_simp
       try (with_reducible rfl)
     try simp only [Act.put,List.setIfInBounds_toArray,List.set_cons_zero,List.set_cons_succ])
    refine held_one 12 (by kernel_rfl) (by kernel_rfl) (held_mute (w' := ?_) (d := none) 12 (by kernel_rfl) (by kernel_rfl) rfl ?_ ?_)
    rotate_left 1
    · intro hSw
      conv in opOf _ _ => whnf
      go_simp
      first | done | (with_reducible rfl)
    intro hS
    refine ⟨trivial,?_⟩
    try simp only [Act.put,List.setIfInBounds_toArray,List.set_cons_zero,List.set_cons_succ]
    refine held_done (by kernel_rfl) (fun hS => hR.out _ _ ?_)
    exact hQ _ _ _ _ _ _ _ _ _ _ _ _ _ _ _ hrow6 hg6 ho6
  · skip
    (refine held_run (v := ?_) (w' := ?_) (d := some 32) 7 (by kernel_rfl) (by kernel_rfl) rfl ?_ ?_
     rotate_left 2
     · intro hSw
       conv in opOf _ _ => whnf
       go_simp
       first | done | (with_reducible rfl) | (constructor <;> with_reducible rfl)
     intro hS
     refine ⟨trivial,?_⟩
     try simp only [Act.put,List.setIfInBounds_toArray,List.set_cons_zero,List.set_cons_succ])
    refine held_many [4,8] (by kernel_rfl) (by simp) (by intro i hi; simp only [List.mem_cons,List.not_mem_nil,or_false] at hi; rcases hi with rfl | rfl <;> kernel_rfl) (fun i hi => ?_)
    simp only [List.mem_cons,List.not_mem_nil,or_false] at hi
    rcases hi with rfl | rfl
    · skip
      (refine held_run (v := ?_) (w' := ?_) (d := some 29) 4 (by kernel_rfl) (by kernel_rfl) rfl ?_ ?_
       rotate_left 2
       · intro hSw
         conv in opOf _ _ => whnf
         go_simp
         first | done | (with_reducible rfl) | (constructor <;> with_reducible rfl)
       intro hS
       refine ⟨trivial,?_⟩
       try simp only [Act.put,List.setIfInBounds_toArray,List.set_cons_zero,List.set_cons_succ])
      refine held_one 8 (by kernel_rfl) (by kernel_rfl) ?_
      (refine held_run (v := ?_) (w' := ?_) (d := some 33) 8 (by kernel_rfl) (by kernel_rfl) rfl ?_ ?_
       rotate_left 2
       · intro hSw
         conv in opOf _ _ => whnf
         go_simp
         first | done | (with_reducible rfl) | (constructor <;> with_reducible rfl)
       intro hS
       refine ⟨trivial,?_⟩
       try simp only [Act.put,List.setIfInBounds_toArray,List.set_cons_zero,List.set_cons_succ])
      (refine held_one 9 (by kernel_rfl) (by kernel_rfl) (held_row 9 (d := some 34) (by kernel_rfl) (by kernel_rfl) rfl (.tmp 29) (.tmp 33) 67 (by kernel_rfl) base 21 i0 (.int .i32 0) 4 Tryd.underlying67 hi0 hz0 hz1 hz2 rfl (.slice A n c) n xs (by kernel_rfl) (hrow.keep fun k hk => Below.heap_alloc W.drew _ k (hrow.lt k hk).2) W.heap.size 0 1 (.int .i32 x) (by kernel_rfl) (by simp) rfl (by unfold maxLen; omega) (by omega) (by simp; omega) (fun A' c' w6 _ hrow6 hg6 ho6 => ⟨trivial,?_⟩))
       try simp only [Act.put,List.setIfInBounds_toArray,List.set_cons_zero,List.set_cons_succ])
      have hB6 : Blk w6 g 119 cells := Blk.grown ((show Blk W.drew g 119 cells from hB).alloc _) hg6 (fun e => hgo e.symm)
      have q6 := (hB6.cell 269).trans hA
      have f6 := hB6.free 269
      (refine held_take (v := ?_) (d := some 35) 10 (by kernel_rfl) (by kernel_rfl) rfl ?_ ?_
       rotate_left
       · intro w hSw
         conv in opOf _ _ => whnf
         (try dsimp only at hSw)
         go_simp
         try (with_reducible rfl)
       try simp only [Act.put,List.setIfInBounds_toArray,List.set_cons_zero,List.set_cons_succ])
      (refine held_take (v := ?_) (d := some 36) 11 (by kernel_rfl) (by kernel_rfl) rfl ?_ ?_
       rotate_left
       · intro w hSw
         conv in opOf _ _ => whnf
         (try dsimp only at hSw)
         go_simp
         try (with_reducible rfl)
       try simp only [Act.put,List.setIfInBounds_toArray,List.set_cons_zero,List.set_cons_succ])
      refine held_one 12 (by kernel_rfl) (by kernel_rfl) (held_mute (w' := ?_) (d := none) 12 (by kernel_rfl) (by kernel_rfl) rfl ?_ ?_)
      rotate_left 1
      · intro hSw
        conv in opOf _ _ => whnf
        go_simp
        first | done | (with_reducible rfl)
      intro hS
      refine ⟨trivial,?_⟩
      try simp only [Act.put,List.setIfInBounds_toArray,List.set_cons_zero,List.set_cons_succ]
      refine held_done (by kernel_rfl) (fun hS => hR.out _ _ ?_)
      exact hQ _ _ _ _ _ _ _ _ _ _ _ _ _ _ _ hrow6 hg6 ho6
    · skip
      (refine held_run (v := ?_) (w' := ?_) (d := some 33) 8 (by kernel_rfl) (by kernel_rfl) rfl ?_ ?_
       rotate_left 2
       · intro hSw
         conv in opOf _ _ => whnf
         go_simp
         first | done | (with_reducible rfl) | (constructor <;> with_reducible rfl)
       intro hS
       refine ⟨trivial,?_⟩
       try simp only [Act.put,List.setIfInBounds_toArray,List.set_cons_zero,List.set_cons_succ])
      refine held_one 4 (by kernel_rfl) (by kernel_rfl) ?_
      (refine held_run (v := ?_) (w' := ?_) (d := some 29) 4 (by kernel_rfl) (by kernel_rfl) rfl ?_ ?_
       rotate_left 2
       · intro hSw
         conv in opOf _ _ => whnf
         go_simp
         first | done | (with_reducible rfl) | (constructor <;> with_reducible rfl)
       intro hS
       refine ⟨trivial,?_⟩
       try simp only [Act.put,List.setIfInBounds_toArray,List.set_cons_zero,List.set_cons_succ])
      (refine held_one 9 (by kernel_rfl) (by kernel_rfl) (held_row 9 (d := some 34) (by kernel_rfl) (by kernel_rfl) rfl (.tmp 29) (.tmp 33) 67 (by kernel_rfl) base 21 i0 (.int .i32 0) 4 Tryd.underlying67 hi0 hz0 hz1 hz2 rfl (.slice A n c) n xs (by kernel_rfl) (hrow.keep fun k hk => Below.heap_alloc W.drew _ k (hrow.lt k hk).2) W.heap.size 0 1 (.int .i32 x) (by kernel_rfl) (by simp) rfl (by unfold maxLen; omega) (by omega) (by simp; omega) (fun A' c' w6 _ hrow6 hg6 ho6 => ⟨trivial,?_⟩))
       try simp only [Act.put,List.setIfInBounds_toArray,List.set_cons_zero,List.set_cons_succ])
      have hB6 : Blk w6 g 119 cells := Blk.grown ((show Blk W.drew g 119 cells from hB).alloc _) hg6 (fun e => hgo e.symm)
      have q6 := (hB6.cell 269).trans hA
      have f6 := hB6.free 269
      (refine held_take (v := ?_) (d := some 35) 10 (by kernel_rfl) (by kernel_rfl) rfl ?_ ?_
       rotate_left
       · intro w hSw
         conv in opOf _ _ => whnf
         (try dsimp only at hSw)
         go_simp
         try (with_reducible rfl)
       try simp only [Act.put,List.setIfInBounds_toArray,List.set_cons_zero,List.set_cons_succ])
      (refine held_take (v := ?_) (d := some 36) 11 (by kernel_rfl) (by kernel_rfl) rfl ?_ ?_
       rotate_left
       · intro w hSw
         conv in opOf _ _ => whnf
         (try dsimp only at hSw)
         go_simp
         try (with_reducible rfl)
       try simp only [Act.put,List.setIfInBounds_toArray,List.set_cons_zero,List.set_cons_succ])
      refine held_one 12 (by kernel_rfl) (by kernel_rfl) (held_mute (w' := ?_) (d := none) 12 (by kernel_rfl) (by kernel_rfl) rfl ?_ ?_)
      rotate_left 1
      · intro hSw
        conv in opOf _ _ => whnf
        go_simp
        first | done | (with_reducible rfl)
      intro hS
      refine ⟨trivial,?_⟩
      try simp only [Act.put,List.setIfInBounds_toArray,List.set_cons_zero,List.set_cons_succ]
      refine held_done (by kernel_rfl) (fun hS => hR.out _ _ ?_)
      exact hQ _ _ _ _ _ _ _ _ _ _ _ _ _ _ _ hrow6 hg6 ho6
noncomputable def oneR14 : Array Oper := regOf Tryd.f59.body 14
set_option maxRecDepth 100000 in
set_option maxHeartbeats 8000000 in
theorem one_r14 (g a n c base : Nat) (A : Option Addr) (xs cells : List Value) (x : Int) (u1 u2 u3 u4 u6 u7 u8 u9 Ua Ul Uw UH UP UQ UR US UT UU UV UW UX UY UZ U0 U1 U2 U3 U4 U5 U6 U7 U8 U9 Ya Yb Yc Yd Ye Yf Yg Yh Yi Yj Yk Yl Ym Yn Yo Yp Yq Yr Ys Yt Yu Yv Yw Yx Yy Yz YA YB YC YD YE YF YG YH YI YJ YK YL YM YN YO YP YQ YR YS YT YU YV YW YX YY YZ Y0 Y1 Y2 Y3 Y4 Y5 Y6 Y7 Y8 Y9 Za Zb Zc Ub Uc Ud Ue Uf Ug Uh Ui Uj Uk Um Un Uo Up Uq Ur Us Ut Uu Uv Ux Uy Uz UA UB UC UD UE UF UG UI UJ UK UL UM UN UO : Value) (W : World) (Q : Exit → Act → World → Prop) (ha : a < 8) (hB : Blk W g 119 cells) (hA : cells[268]? = some (.slice A n c)) (hx : cells[a]? = some (.int .i32 x))
    (hrow : Row W base 21 (.slice A n c) n xs) (hbase : base ≤ W.heap.size) (hn : n ≤ 1000000) (hgo : Value.ownBlock (.slice A n c) ≠ some g)
    (hQ : ∀ (A' : Option Addr) (c' : Nat) (w6 : World) (Zp Zq Zr Zs Zt Zu Zv Zw Zx Zy Zz ZA : Value),Row w6 base 21 (.slice A' (n + 1) c') (n + 1) (xs ++ [.int .i32 x]) → (W.drew.alloc (.cells #[.int .i32 x] 21)).grownBy w6 (Value.ownBlock (.slice A n c)) →
      (∀ k,Value.ownBlock (.slice A' (n + 1) c') = some k → Value.ownBlock (.slice A n c) = some k ∨ (W.drew.alloc (.cells #[.int .i32 x] 21)).heap.size ≤ k) → Q .normal { tmps := #[.pointer (some ⟨g,0,none⟩),u1,u2,u3,u4,.pointer (some ⟨g,a,none⟩),u6,u7,u8,u9,Ua,Ul,Uw,UH,UP,UQ,UR,US,UT,UU,UV,UW,UX,UY,UZ,U0,U1,U2,U3,U4,U5,U6,U7,U8,U9,Ya,Yb,Yc,Yd,Ye,Yf,Yg,Yh,Yi,Yj,Yk,Yl,Ym,Yn,Yo,Yp,Yq,Yr,Ys,Yt,Yu,Yv,Yw,Yx,Yy,Yz,YA,YB,YC,YD,YE,YF,YG,YH,YI,YJ,Zp,Zq,Zr,Zs,Zt,Zu,Zv,Zw,Zx,Zy,Zz,ZA,YW,YX,YY,YZ,Y0,Y1,Y2,Y3,Y4,Y5,Y6,Y7,Y8,Y9,Za,Zb,Zc,Ub,Uc,Ud,Ue,Uf,Ug,Uh,Ui,Uj,Uk,Um,Un,Uo,Up,Uq,Ur,Us,Ut,Uu,Uv,Ux,Uy,Uz,UA,UB,UC,UD,UE,UF,UG,UI,UJ,UK,UL,UM,UN,UO],defers := [] } (w6.setCell ⟨g,268,none⟩ (.slice A' (n + 1) c'))) :
    (Code.region 14 oneR14 true).wp Tryd.prog Q { tmps := #[.pointer (some ⟨g,0,none⟩),u1,u2,u3,u4,.pointer (some ⟨g,a,none⟩),u6,u7,u8,u9,Ua,Ul,Uw,UH,UP,UQ,UR,US,UT,UU,UV,UW,UX,UY,UZ,U0,U1,U2,U3,U4,U5,U6,U7,U8,U9,Ya,Yb,Yc,Yd,Ye,Yf,Yg,Yh,Yi,Yj,Yk,Yl,Ym,Yn,Yo,Yp,Yq,Yr,Ys,Yt,Yu,Yv,Yw,Yx,Yy,Yz,YA,YB,YC,YD,YE,YF,YG,YH,YI,YJ,YK,YL,YM,YN,YO,YP,YQ,YR,YS,YT,YU,YV,YW,YX,YY,YZ,Y0,Y1,Y2,Y3,Y4,Y5,Y6,Y7,Y8,Y9,Za,Zb,Zc,Ub,Uc,Ud,Ue,Uf,Ug,Uh,Ui,Uj,Uk,Um,Un,Uo,Up,Uq,Ur,Us,Ut,Uu,Uv,Ux,Uy,Uz,UA,UB,UC,UD,UE,UF,UG,UI,UJ,UK,UL,UM,UN,UO],defers := [] } W := by
  obtain ⟨i0,hi0,hz0,hz1,hz2⟩ := info_parts i32_info
  have hgl := hB.lt
  have q1 := (hB.cell 268).trans hA
  have q2 := (hB.cell a).trans hx
  refine held_start (ops' := oneR14) (l0 := #[false,false,false,false,false,false,false,false,false,false,false,false,false]) (S := fun _ => True) (by kernel_rfl) (by kernel_rfl) (by kernel_rfl) (by kernel_rfl) trivial (fun R hR => ?_)
  (refine held_take (v := ?_) (d := some 71) 0 (by kernel_rfl) (by kernel_rfl) rfl ?_ ?_
   rotate_left
   · intro w hSw
     conv in opOf _ _ => whnf
     (try dsimp only at hSw)
     go_simp
     try (with_reducible rfl)
   try simp only [Act.put,List.setIfInBounds_toArray,List.set_cons_zero,List.set_cons_succ])
  (refine held_take (v := ?_) (d := some 72) 1 (by kernel_rfl) (by kernel_rfl) rfl ?_ ?_
   rotate_left
   · intro w hSw
     conv in opOf _ _ => whnf
     (try dsimp only at hSw)
     go_simp
     try (with_reducible rfl)
   try simp only [Act.put,List.setIfInBounds_toArray,List.set_cons_zero,List.set_cons_succ])
  (refine held_take (v := ?_) (d := some 73) 2 (by kernel_rfl) (by kernel_rfl) rfl ?_ ?_
   rotate_left
   · intro w hSw
     conv in opOf _ _ => whnf
     (try dsimp only at hSw)
     go_simp
     try (with_reducible rfl)
   try simp only [Act.put,List.setIfInBounds_toArray,List.set_cons_zero,List.set_cons_succ])
  (refine held_take (v := ?_) (d := some 74) 3 (by kernel_rfl) (by kernel_rfl) rfl ?_ ?_
   rotate_left
   · intro w hSw
     conv in opOf _ _ => whnf
     (try dsimp only at hSw)
     go_simp
     try (with_reducible rfl)
   try simp only [Act.put,List.setIfInBounds_toArray,List.set_cons_zero,List.set_cons_succ])
  (refine held_take (v := ?_) (d := some 76) 5 (by kernel_rfl) (by kernel_rfl) rfl ?_ ?_
   rotate_left
   · intro w hSw
     conv in opOf _ _ => whnf
     (try dsimp only at hSw)
     go_simp
     try (with_reducible rfl)
   try simp only [Act.put,List.setIfInBounds_toArray,List.set_cons_zero,List.set_cons_succ])
  (refine held_take (v := ?_) (d := some 77) 6 (by kernel_rfl) (by kernel_rfl) rfl ?_ ?_
   rotate_left
   · intro w hSw
     conv in opOf _ _ => whnf
     (try dsimp only at hSw)
     go_simp
     try (with_reducible rfl)
   try simp only [Act.put,List.setIfInBounds_toArray,List.set_cons_zero,List.set_cons_succ])
  refine held_many [4,7] (by kernel_rfl) (by simp) (by intro i hi; simp only [List.mem_cons,List.not_mem_nil,or_false] at hi; rcases hi with rfl | rfl <;> kernel_rfl) (fun i hi => ?_)
  simp only [List.mem_cons,List.not_mem_nil,or_false] at hi
  rcases hi with rfl | rfl
  · skip
    (refine held_run (v := ?_) (w' := ?_) (d := some 75) 4 (by kernel_rfl) (by kernel_rfl) rfl ?_ ?_
     rotate_left 2
     · intro hSw
       conv in opOf _ _ => whnf
       go_simp
       first | done | (with_reducible rfl) | (constructor <;> with_reducible rfl)
     intro hS
     refine ⟨trivial,?_⟩
     try simp only [Act.put,List.setIfInBounds_toArray,List.set_cons_zero,List.set_cons_succ])
    refine held_one 7 (by kernel_rfl) (by kernel_rfl) ?_
    (refine held_run (v := ?_) (w' := ?_) (d := some 78) 7 (by kernel_rfl) (by kernel_rfl) rfl ?_ ?_
     rotate_left 2
     · intro hSw
       conv in opOf _ _ => whnf
       go_simp
       first | done | (with_reducible rfl) | (constructor <;> with_reducible rfl)
     intro hS
     refine ⟨trivial,?_⟩
     try simp only [Act.put,List.setIfInBounds_toArray,List.set_cons_zero,List.set_cons_succ])
    refine held_one 8 (by kernel_rfl) (by kernel_rfl) ?_
    (refine held_run (v := ?_) (w' := ?_) (d := some 79) 8 (by kernel_rfl) (by kernel_rfl) rfl ?_ ?_
     rotate_left 2
     · intro hSw
       conv in opOf _ _ => whnf
       go_simp
       first | done | (with_reducible rfl) | (constructor <;> with_reducible rfl)
     intro hS
     refine ⟨trivial,?_⟩
     try simp only [Act.put,List.setIfInBounds_toArray,List.set_cons_zero,List.set_cons_succ])
    (refine held_one 9 (by kernel_rfl) (by kernel_rfl) (held_row 9 (d := some 80) (by kernel_rfl) (by kernel_rfl) rfl (.tmp 75) (.tmp 79) 67 (by kernel_rfl) base 21 i0 (.int .i32 0) 4 Tryd.underlying67 hi0 hz0 hz1 hz2 rfl (.slice A n c) n xs (by kernel_rfl) (hrow.keep fun k hk => Below.heap_alloc W.drew _ k (hrow.lt k hk).2) W.heap.size 0 1 (.int .i32 x) (by kernel_rfl) (by simp) rfl (by unfold maxLen; omega) (by omega) (by simp; omega) (fun A' c' w6 _ hrow6 hg6 ho6 => ⟨trivial,?_⟩))
     try simp only [Act.put,List.setIfInBounds_toArray,List.set_cons_zero,List.set_cons_succ])
    have hB6 : Blk w6 g 119 cells := Blk.grown ((show Blk W.drew g 119 cells from hB).alloc _) hg6 (fun e => hgo e.symm)
    have q6 := (hB6.cell 268).trans hA
    have f6 := hB6.free 268
    (refine held_take (v := ?_) (d := some 81) 10 (by kernel_rfl) (by kernel_rfl) rfl ?_ ?_
     rotate_left
     · intro w hSw
       conv in opOf _ _ => whnf
       (try dsimp only at hSw)
       go_simp
       try (with_reducible rfl)
     try simp only [Act.put,List.setIfInBounds_toArray,List.set_cons_zero,List.set_cons_succ])
    (refine held_take (v := ?_) (d := some 82) 11 (by kernel_rfl) (by kernel_rfl) rfl ?_ ?_
     rotate_left
     · intro w hSw
       conv in opOf _ _ => whnf
       (try dsimp only at hSw)
       go_simp
       try (with_reducible rfl)
     try simp only [Act.put,List.setIfInBounds_toArray,List.set_cons_zero,List.set_cons_succ])
    refine held_one 12 (by kernel_rfl) (by kernel_rfl) (held_mute (w' := ?_) (d := none) 12 (by kernel_rfl) (by kernel_rfl) rfl ?_ ?_)
    rotate_left 1
    · intro hSw
      conv in opOf _ _ => whnf
      go_simp
      first | done | (with_reducible rfl)
    intro hS
    refine ⟨trivial,?_⟩
    try simp only [Act.put,List.setIfInBounds_toArray,List.set_cons_zero,List.set_cons_succ]
    refine held_done (by kernel_rfl) (fun hS => hR.out _ _ ?_)
    exact hQ _ _ _ _ _ _ _ _ _ _ _ _ _ _ _ hrow6 hg6 ho6
  · skip
    (refine held_run (v := ?_) (w' := ?_) (d := some 78) 7 (by kernel_rfl) (by kernel_rfl) rfl ?_ ?_
     rotate_left 2
     · intro hSw
       conv in opOf _ _ => whnf
       go_simp
       first | done | (with_reducible rfl) | (constructor <;> with_reducible rfl)
     intro hS
     refine ⟨trivial,?_⟩
     try simp only [Act.put,List.setIfInBounds_toArray,List.set_cons_zero,List.set_cons_succ])
    refine held_many [4,8] (by kernel_rfl) (by simp) (by intro i hi; simp only [List.mem_cons,List.not_mem_nil,or_false] at hi; rcases hi with rfl | rfl <;> kernel_rfl) (fun i hi => ?_)
    simp only [List.mem_cons,List.not_mem_nil,or_false] at hi
    rcases hi with rfl | rfl
    · skip
      (refine held_run (v := ?_) (w' := ?_) (d := some 75) 4 (by kernel_rfl) (by kernel_rfl) rfl ?_ ?_
       rotate_left 2
       · intro hSw
         conv in opOf _ _ => whnf
         go_simp
         first | done | (with_reducible rfl) | (constructor <;> with_reducible rfl)
       intro hS
       refine ⟨trivial,?_⟩
       try simp only [Act.put,List.setIfInBounds_toArray,List.set_cons_zero,List.set_cons_succ])
      refine held_one 8 (by kernel_rfl) (by kernel_rfl) ?_
      (refine held_run (v := ?_) (w' := ?_) (d := some 79) 8 (by kernel_rfl) (by kernel_rfl) rfl ?_ ?_
       rotate_left 2
       · intro hSw
         conv in opOf _ _ => whnf
         go_simp
         first | done | (with_reducible rfl) | (constructor <;> with_reducible rfl)
       intro hS
       refine ⟨trivial,?_⟩
       try simp only [Act.put,List.setIfInBounds_toArray,List.set_cons_zero,List.set_cons_succ])
      (refine held_one 9 (by kernel_rfl) (by kernel_rfl) (held_row 9 (d := some 80) (by kernel_rfl) (by kernel_rfl) rfl (.tmp 75) (.tmp 79) 67 (by kernel_rfl) base 21 i0 (.int .i32 0) 4 Tryd.underlying67 hi0 hz0 hz1 hz2 rfl (.slice A n c) n xs (by kernel_rfl) (hrow.keep fun k hk => Below.heap_alloc W.drew _ k (hrow.lt k hk).2) W.heap.size 0 1 (.int .i32 x) (by kernel_rfl) (by simp) rfl (by unfold maxLen; omega) (by omega) (by simp; omega) (fun A' c' w6 _ hrow6 hg6 ho6 => ⟨trivial,?_⟩))
       try simp only [Act.put,List.setIfInBounds_toArray,List.set_cons_zero,List.set_cons_succ])
      have hB6 : Blk w6 g 119 cells := Blk.grown ((show Blk W.drew g 119 cells from hB).alloc _) hg6 (fun e => hgo e.symm)
      have q6 := (hB6.cell 268).trans hA
      have f6 := hB6.free 268
      (refine held_take (v := ?_) (d := some 81) 10 (by kernel_rfl) (by kernel_rfl) rfl ?_ ?_
       rotate_left
       · intro w hSw
         conv in opOf _ _ => whnf
         (try dsimp only at hSw)
         go_simp
         try (with_reducible rfl)
       try simp only [Act.put,List.setIfInBounds_toArray,List.set_cons_zero,List.set_cons_succ])
      (refine held_take (v := ?_) (d := some 82) 11 (by kernel_rfl) (by kernel_rfl) rfl ?_ ?_
       rotate_left
       · intro w hSw
         conv in opOf _ _ => whnf
         (try dsimp only at hSw)
         go_simp
         try (with_reducible rfl)
       try simp only [Act.put,List.setIfInBounds_toArray,List.set_cons_zero,List.set_cons_succ])
      refine held_one 12 (by kernel_rfl) (by kernel_rfl) (held_mute (w' := ?_) (d := none) 12 (by kernel_rfl) (by kernel_rfl) rfl ?_ ?_)
      rotate_left 1
      · intro hSw
        conv in opOf _ _ => whnf
        go_simp
        first | done | (with_reducible rfl)
      intro hS
      refine ⟨trivial,?_⟩
      try simp only [Act.put,List.setIfInBounds_toArray,List.set_cons_zero,List.set_cons_succ]
      refine held_done (by kernel_rfl) (fun hS => hR.out _ _ ?_)
      exact hQ _ _ _ _ _ _ _ _ _ _ _ _ _ _ _ hrow6 hg6 ho6
    · skip
      (refine held_run (v := ?_) (w' := ?_) (d := some 79) 8 (by kernel_rfl) (by kernel_rfl) rfl ?_ ?_
       rotate_left 2
       · intro hSw
         conv in opOf _ _ => whnf
         go_simp
         first | done | (with_reducible rfl) | (constructor <;> with_reducible rfl)
       intro hS
       refine ⟨trivial,?_⟩
       try simp only [Act.put,List.setIfInBounds_toArray,List.set_cons_zero,List.set_cons_succ])
      refine held_one 4 (by kernel_rfl) (by kernel_rfl) ?_
      (refine held_run (v := ?_) (w' := ?_) (d := some 75) 4 (by kernel_rfl) (by kernel_rfl) rfl ?_ ?_
       rotate_left 2
       · intro hSw
         conv in opOf _ _ => whnf
         go_simp
         first | done | (with_reducible rfl) | (constructor <;> with_reducible rfl)
       intro hS
       refine ⟨trivial,?_⟩
       try simp only [Act.put,List.setIfInBounds_toArray,List.set_cons_zero,List.set_cons_succ])
      (refine held_one 9 (by kernel_rfl) (by kernel_rfl) (held_row 9 (d := some 80) (by kernel_rfl) (by kernel_rfl) rfl (.tmp 75) (.tmp 79) 67 (by kernel_rfl) base 21 i0 (.int .i32 0) 4 Tryd.underlying67 hi0 hz0 hz1 hz2 rfl (.slice A n c) n xs (by kernel_rfl) (hrow.keep fun k hk => Below.heap_alloc W.drew _ k (hrow.lt k hk).2) W.heap.size 0 1 (.int .i32 x) (by kernel_rfl) (by simp) rfl (by unfold maxLen; omega) (by omega) (by simp; omega) (fun A' c' w6 _ hrow6 hg6 ho6 => ⟨trivial,?_⟩))
       try simp only [Act.put,List.setIfInBounds_toArray,List.set_cons_zero,List.set_cons_succ])
      have hB6 : Blk w6 g 119 cells := Blk.grown ((show Blk W.drew g 119 cells from hB).alloc _) hg6 (fun e => hgo e.symm)
      have q6 := (hB6.cell 268).trans hA
      have f6 := hB6.free 268
      (refine held_take (v := ?_) (d := some 81) 10 (by kernel_rfl) (by kernel_rfl) rfl ?_ ?_
       rotate_left
       · intro w hSw
         conv in opOf _ _ => whnf
         (try dsimp only at hSw)
         go_simp
         try (with_reducible rfl)
       try simp only [Act.put,List.setIfInBounds_toArray,List.set_cons_zero,List.set_cons_succ])
      (refine held_take (v := ?_) (d := some 82) 11 (by kernel_rfl) (by kernel_rfl) rfl ?_ ?_
       rotate_left
       · intro w hSw
         conv in opOf _ _ => whnf
         (try dsimp only at hSw)
         go_simp
         try (with_reducible rfl)
       try simp only [Act.put,List.setIfInBounds_toArray,List.set_cons_zero,List.set_cons_succ])
      refine held_one 12 (by kernel_rfl) (by kernel_rfl) (held_mute (w' := ?_) (d := none) 12 (by kernel_rfl) (by kernel_rfl) rfl ?_ ?_)
      rotate_left 1
      · intro hSw
        conv in opOf _ _ => whnf
        go_simp
        first | done | (with_reducible rfl)
      intro hS
      refine ⟨trivial,?_⟩
      try simp only [Act.put,List.setIfInBounds_toArray,List.set_cons_zero,List.set_cons_succ]
      refine held_done (by kernel_rfl) (fun hS => hR.out _ _ ?_)
      exact hQ _ _ _ _ _ _ _ _ _ _ _ _ _ _ _ hrow6 hg6 ho6
end Go.Proofs.YthcjnkakfpmpbaaDoor
