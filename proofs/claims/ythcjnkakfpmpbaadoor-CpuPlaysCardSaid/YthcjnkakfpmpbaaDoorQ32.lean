import Derived.Test.YthcjnkakfpmpbaaDoorQ31
namespace Go.Proofs.YthcjnkakfpmpbaaDoor
open Go.RowKit
set_option linter.unusedVariables false
set_option linter.unusedSimpArgs false
noncomputable def oneR19 : Array Oper := regOf Tryd.f59.body 19
set_option maxRecDepth 100000 in
set_option maxHeartbeats 8000000 in
theorem one_r19 (g a n c b o : Nat) (T : Value) (cells : List Value) (x : Int) (z : Value) (u1 u2 u3 u4 u7 u8 u9 Ua Ul Uw UH UP UQ UR US UT UU UV UW UX UY UZ U0 U1 U2 U3 U4 U5 U6 U7 U8 U9 Ya Yb Yc Yd Ye Yf Yg Yh Yi Yj Yk Yl Ym Yn Yo Yp Yq Yr Ys Yt Yu Yv Yw Yx Yy Yz YA YB YC YD YE YF YG YH YI YJ YK YL YM YN YO YP YQ YR YS YT YU YV YW YX YY YZ Y0 Y1 Y2 Y3 Y4 Y5 Y6 Y7 Y8 Y9 Za Zb Zc Ub Uc Ud Ue Uf Ug Uh Ui Uj Uk Um Un Uo Up Uq Ur Us Ut Uu Uv Ux Uy Uz UA UB UC UD UE UF UG UI UJ UK UL UM UN UO : Value) (W : World) (Q : Exit → Act → World → Prop) (ha : a < 8) (hB : Blk W g 119 cells) (hA : cells[268]? = some (.slice (some ⟨b,o,none⟩) (n + 1) c)) (hz : cells[a]? = some z)
    (hx : W.cell? ⟨b,o + n,none⟩ = some (.int .i32 x)) (hnc : n + 1 ≤ c) (hcm : c ≤ 9223372036854775807) (hT : T = .slice (some ⟨b,o,none⟩) n c)
    (hQ : ∀ (ZG ZH ZI ZJ ZK ZL ZM Zd Ze Zf Zg Zh Zi Zj Zk Zl Zm Zn Zo Zp : Value),Q .normal { tmps := #[.pointer (some ⟨g,0,none⟩),u1,u2,u3,u4,.pointer (some ⟨g,a,none⟩),.int .i64 ((n : Int) + 1),u7,u8,u9,Ua,Ul,Uw,UH,UP,UQ,UR,US,UT,UU,UV,UW,UX,UY,UZ,U0,U1,U2,U3,U4,U5,U6,U7,U8,U9,Ya,Yb,Yc,Yd,Ye,Yf,Yg,Yh,Yi,Yj,Yk,Yl,Ym,Yn,Yo,Yp,Yq,Yr,Ys,Yt,Yu,Yv,Yw,Yx,Yy,Yz,YA,YB,YC,YD,YE,YF,YG,YH,YI,YJ,YK,YL,YM,YN,YO,YP,YQ,YR,YS,YT,YU,YV,YW,YX,YY,YZ,Y0,Y1,Y2,Y3,Y4,Y5,ZG,ZH,ZI,ZJ,ZK,ZL,ZM,Zd,Ze,Zf,Zg,Zh,Zi,Zj,Zk,Zl,Zm,Zn,Zo,Zp,Up,Uq,Ur,Us,Ut,Uu,Uv,Ux,Uy,Uz,UA,UB,UC,UD,UE,UF,UG,UI,UJ,UK,UL,UM,UN,UO],defers := [] } ((W.setCell ⟨g,a,none⟩ (.int .i32 x)).setCell ⟨g,268,none⟩ T).drew) :
    (Code.region 19 oneR19 true).wp Tryd.prog Q { tmps := #[.pointer (some ⟨g,0,none⟩),u1,u2,u3,u4,.pointer (some ⟨g,a,none⟩),.int .i64 ((n : Int) + 1),u7,u8,u9,Ua,Ul,Uw,UH,UP,UQ,UR,US,UT,UU,UV,UW,UX,UY,UZ,U0,U1,U2,U3,U4,U5,U6,U7,U8,U9,Ya,Yb,Yc,Yd,Ye,Yf,Yg,Yh,Yi,Yj,Yk,Yl,Ym,Yn,Yo,Yp,Yq,Yr,Ys,Yt,Yu,Yv,Yw,Yx,Yy,Yz,YA,YB,YC,YD,YE,YF,YG,YH,YI,YJ,YK,YL,YM,YN,YO,YP,YQ,YR,YS,YT,YU,YV,YW,YX,YY,YZ,Y0,Y1,Y2,Y3,Y4,Y5,Y6,Y7,Y8,Y9,Za,Zb,Zc,Ub,Uc,Ud,Ue,Uf,Ug,Uh,Ui,Uj,Uk,Um,Un,Uo,Up,Uq,Ur,Us,Ut,Uu,Uv,Ux,Uy,Uz,UA,UB,UC,UD,UE,UF,UG,UI,UJ,UK,UL,UM,UN,UO],defers := [] } W := by
  subst hT
  have hgl := hB.lt
  have q1 := (hB.cell 268).trans hA
  have q2 := (hB.cell a).trans hz
  have f1 := hB.free 268
  have f2 := hB.free a
  have h0 : (0 : Int) < (n : Int) + 1 := by omega
  have h1 : (n : Int) ≤ (n : Int) + 1 := by omega
  have h2 : (n : Int) < (n : Int) + 1 := by omega
  have h3 : (n : Int) + 1 - 1 = n := by omega
  have h4 : n ≤ c := by omega
  have h5 : (0 : Int) ≤ n := by omega
  have hw : IntKind.i64.wrap (n : Int) = n := by simp [IntKind.wrap,IntKind.bits,IntKind.signed]; omega
  refine held_start (ops' := oneR19) (l0 := #[false,false,false,false,false,false,false,false,false,false,false,false,false,false,false,false,false,false,false,false,false,false]) (S := fun _ => True) (by kernel_rfl) (by kernel_rfl) (by kernel_rfl) (by kernel_rfl) trivial (fun R hR => ?_)
  (refine held_take (v := ?_) (d := some 93) 0 (by kernel_rfl) (by kernel_rfl) rfl ?_ ?_
   rotate_left
   · intro w hSw
     conv in opOf _ _ => whnf
     (try dsimp only at hSw)
     go_simp
     try (with_reducible rfl)
   try simp only [Act.put,List.setIfInBounds_toArray,List.set_cons_zero,List.set_cons_succ])
  (refine held_take (v := ?_) (d := some 94) 1 (by kernel_rfl) (by kernel_rfl) rfl ?_ ?_
   rotate_left
   · intro w hSw
     conv in opOf _ _ => whnf
     (try dsimp only at hSw)
     go_simp
     try (with_reducible rfl)
   try simp only [Act.put,List.setIfInBounds_toArray,List.set_cons_zero,List.set_cons_succ])
  (refine held_take (v := ?_) (d := some 95) 2 (by kernel_rfl) (by kernel_rfl) rfl ?_ ?_
   rotate_left
   · intro w hSw
     conv in opOf _ _ => whnf
     (try dsimp only at hSw)
     go_simp
     try (with_reducible rfl)
   try simp only [Act.put,List.setIfInBounds_toArray,List.set_cons_zero,List.set_cons_succ])
  (refine held_take (v := ?_) (d := some 96) 3 (by kernel_rfl) (by kernel_rfl) rfl ?_ ?_
   rotate_left
   · intro w hSw
     conv in opOf _ _ => whnf
     (try dsimp only at hSw)
     go_simp
     try (with_reducible rfl)
   try simp only [Act.put,List.setIfInBounds_toArray,List.set_cons_zero,List.set_cons_succ])
  (refine held_take (v := ?_) (d := some 97) 4 (by kernel_rfl) (by kernel_rfl) rfl ?_ ?_
   rotate_left
   · intro w hSw
     conv in opOf _ _ => whnf
     (try dsimp only at hSw)
     go_simp
     try (with_reducible rfl)
   try simp only [Act.put,List.setIfInBounds_toArray,List.set_cons_zero,List.set_cons_succ])
  (refine held_take (v := ?_) (d := some 99) 6 (by kernel_rfl) (by kernel_rfl) rfl ?_ ?_
   rotate_left
   · intro w hSw
     conv in opOf _ _ => whnf
     (try dsimp only at hSw)
     go_simp
     try (with_reducible rfl)
   try simp only [Act.put,List.setIfInBounds_toArray,List.set_cons_zero,List.set_cons_succ])
  (refine held_take (v := ?_) (d := some 100) 7 (by kernel_rfl) (by kernel_rfl) rfl ?_ ?_
   rotate_left
   · intro w hSw
     conv in opOf _ _ => whnf
     (try dsimp only at hSw)
     go_simp
     try (with_reducible rfl)
   try simp only [Act.put,List.setIfInBounds_toArray,List.set_cons_zero,List.set_cons_succ])
  (refine held_take (v := ?_) (d := some 103) 10 (by kernel_rfl) (by kernel_rfl) rfl ?_ ?_
   rotate_left
   · intro w hSw
     conv in opOf _ _ => whnf
     (try dsimp only at hSw)
     go_simp
     try (with_reducible rfl)
   try simp only [Act.put,List.setIfInBounds_toArray,List.set_cons_zero,List.set_cons_succ])
  (refine held_take (v := ?_) (d := some 104) 11 (by kernel_rfl) (by kernel_rfl) rfl ?_ ?_
   rotate_left
   · intro w hSw
     conv in opOf _ _ => whnf
     (try dsimp only at hSw)
     go_simp
     try (with_reducible rfl)
   try simp only [Act.put,List.setIfInBounds_toArray,List.set_cons_zero,List.set_cons_succ])
  (refine held_take (v := ?_) (d := some 105) 12 (by kernel_rfl) (by kernel_rfl) rfl ?_ ?_
   rotate_left
   · intro w hSw
     conv in opOf _ _ => whnf
     (try dsimp only at hSw)
     go_simp
     try (with_reducible rfl)
   try simp only [Act.put,List.setIfInBounds_toArray,List.set_cons_zero,List.set_cons_succ])
  (refine held_take (v := ?_) (d := some 107) 14 (by kernel_rfl) (by kernel_rfl) rfl ?_ ?_
   rotate_left
   · intro w hSw
     conv in opOf _ _ => whnf
     (try dsimp only at hSw)
     go_simp
     try (with_reducible rfl)
   try simp only [Act.put,List.setIfInBounds_toArray,List.set_cons_zero,List.set_cons_succ])
  (refine held_take (v := ?_) (d := some 108) 15 (by kernel_rfl) (by kernel_rfl) rfl ?_ ?_
   rotate_left
   · intro w hSw
     conv in opOf _ _ => whnf
     (try dsimp only at hSw)
     go_simp
     try (with_reducible rfl)
   try simp only [Act.put,List.setIfInBounds_toArray,List.set_cons_zero,List.set_cons_succ])
  refine held_two 5 13 (by kernel_rfl) (by kernel_rfl) (by kernel_rfl) ?_ ?_
  · skip
    (refine held_run (v := ?_) (w' := ?_) (d := some 98) 5 (by kernel_rfl) (by kernel_rfl) rfl ?_ ?_
     rotate_left 2
     · intro hSw
       conv in opOf _ _ => whnf
       go_simp
       first | done | (with_reducible rfl) | (constructor <;> with_reducible rfl)
     intro hS
     refine ⟨trivial,?_⟩
     try simp only [Act.put,List.setIfInBounds_toArray,List.set_cons_zero,List.set_cons_succ])
    (refine held_take (v := ?_) (d := some 101) 8 (by kernel_rfl) (by kernel_rfl) rfl ?_ ?_
     rotate_left
     · intro w hSw
       conv in opOf _ _ => whnf
       (try dsimp only at hSw)
       go_simp
       try (with_reducible rfl)
     try simp only [Act.put,List.setIfInBounds_toArray,List.set_cons_zero,List.set_cons_succ])
    refine held_two 9 13 (by kernel_rfl) (by kernel_rfl) (by kernel_rfl) ?_ ?_
    · skip
      (refine held_run (v := ?_) (w' := ?_) (d := some 102) 9 (by kernel_rfl) (by kernel_rfl) rfl ?_ ?_
       rotate_left 2
       · intro hSw
         conv in opOf _ _ => whnf
         go_simp
         first | done | (with_reducible rfl) | (constructor <;> with_reducible rfl)
       intro hS
       refine ⟨trivial,?_⟩
       try simp only [Act.put,List.setIfInBounds_toArray,List.set_cons_zero,List.set_cons_succ])
      refine held_one 13 (by kernel_rfl) (by kernel_rfl) ?_
      (refine held_run (v := ?_) (w' := ?_) (d := some 106) 13 (by kernel_rfl) (by kernel_rfl) rfl ?_ ?_
       rotate_left 2
       · intro hSw
         conv in opOf _ _ => whnf
         go_simp
         first | done | (with_reducible rfl) | (constructor <;> with_reducible rfl)
       intro hS
       refine ⟨trivial,?_⟩
       try simp only [Act.put,List.setIfInBounds_toArray,List.set_cons_zero,List.set_cons_succ])
      (refine held_take (v := ?_) (d := some 109) 16 (by kernel_rfl) (by kernel_rfl) rfl ?_ ?_
       rotate_left
       · intro w hSw
         conv in opOf _ _ => whnf
         (try dsimp only at hSw)
         go_simp
         try (with_reducible rfl)
       try simp only [Act.put,List.setIfInBounds_toArray,List.set_cons_zero,List.set_cons_succ])
      (refine held_take (v := ?_) (d := some 110) 17 (by kernel_rfl) (by kernel_rfl) rfl ?_ ?_
       rotate_left
       · intro w hSw
         conv in opOf _ _ => whnf
         (try dsimp only at hSw)
         go_simp
         try (with_reducible rfl)
       try simp only [Act.put,List.setIfInBounds_toArray,List.set_cons_zero,List.set_cons_succ])
      refine held_one 18 (by kernel_rfl) (by kernel_rfl) ?_
      refine held_mute (w' := ?_) (d := none) 18 (by kernel_rfl) (by kernel_rfl) rfl ?_ ?_
      rotate_left 1
      · intro hSw
        conv in opOf _ _ => whnf
        go_simp
        first | done | (with_reducible rfl)
      intro hS
      refine ⟨trivial,?_⟩
      try simp only [Act.put,List.setIfInBounds_toArray,List.set_cons_zero,List.set_cons_succ]
      (refine held_take (v := ?_) (d := some 111) 19 (by kernel_rfl) (by kernel_rfl) rfl ?_ ?_
       rotate_left
       · intro w hSw
         conv in opOf _ _ => whnf
         (try dsimp only at hSw)
         go_simp
         try (with_reducible rfl)
       try simp only [Act.put,List.setIfInBounds_toArray,List.set_cons_zero,List.set_cons_succ])
      (refine held_take (v := ?_) (d := some 112) 20 (by kernel_rfl) (by kernel_rfl) rfl ?_ ?_
       rotate_left
       · intro w hSw
         conv in opOf _ _ => whnf
         (try dsimp only at hSw)
         go_simp
         try (with_reducible rfl)
       try simp only [Act.put,List.setIfInBounds_toArray,List.set_cons_zero,List.set_cons_succ])
      refine held_one 21 (by kernel_rfl) (by kernel_rfl) ?_
      refine held_mute (w' := ?_) (d := none) 21 (by kernel_rfl) (by kernel_rfl) rfl ?_ ?_
      rotate_left 1
      · intro hSw
        conv in opOf _ _ => whnf
        go_simp
        first | done | (with_reducible rfl)
      intro hS
      refine ⟨trivial,?_⟩
      try simp only [Act.put,List.setIfInBounds_toArray,List.set_cons_zero,List.set_cons_succ]
      refine held_done (by kernel_rfl) (fun hS => hR.out _ _ ?_)
      exact hQ _ _ _ _ _ _ _ _ _ _ _ _ _ _ _ _ _ _ _ _
    · skip
      (refine held_run (v := ?_) (w' := ?_) (d := some 106) 13 (by kernel_rfl) (by kernel_rfl) rfl ?_ ?_
       rotate_left 2
       · intro hSw
         conv in opOf _ _ => whnf
         go_simp
         first | done | (with_reducible rfl) | (constructor <;> with_reducible rfl)
       intro hS
       refine ⟨trivial,?_⟩
       try simp only [Act.put,List.setIfInBounds_toArray,List.set_cons_zero,List.set_cons_succ])
      (refine held_take (v := ?_) (d := some 109) 16 (by kernel_rfl) (by kernel_rfl) rfl ?_ ?_
       rotate_left
       · intro w hSw
         conv in opOf _ _ => whnf
         (try dsimp only at hSw)
         go_simp
         try (with_reducible rfl)
       try simp only [Act.put,List.setIfInBounds_toArray,List.set_cons_zero,List.set_cons_succ])
      refine held_one 9 (by kernel_rfl) (by kernel_rfl) ?_
      (refine held_run (v := ?_) (w' := ?_) (d := some 102) 9 (by kernel_rfl) (by kernel_rfl) rfl ?_ ?_
       rotate_left 2
       · intro hSw
         conv in opOf _ _ => whnf
         go_simp
         first | done | (with_reducible rfl) | (constructor <;> with_reducible rfl)
       intro hS
       refine ⟨trivial,?_⟩
       try simp only [Act.put,List.setIfInBounds_toArray,List.set_cons_zero,List.set_cons_succ])
      (refine held_take (v := ?_) (d := some 110) 17 (by kernel_rfl) (by kernel_rfl) rfl ?_ ?_
       rotate_left
       · intro w hSw
         conv in opOf _ _ => whnf
         (try dsimp only at hSw)
         go_simp
         try (with_reducible rfl)
       try simp only [Act.put,List.setIfInBounds_toArray,List.set_cons_zero,List.set_cons_succ])
      refine held_one 18 (by kernel_rfl) (by kernel_rfl) ?_
      refine held_mute (w' := ?_) (d := none) 18 (by kernel_rfl) (by kernel_rfl) rfl ?_ ?_
      rotate_left 1
      · intro hSw
        conv in opOf _ _ => whnf
        go_simp
        first | done | (with_reducible rfl)
      intro hS
      refine ⟨trivial,?_⟩
      try simp only [Act.put,List.setIfInBounds_toArray,List.set_cons_zero,List.set_cons_succ]
      (refine held_take (v := ?_) (d := some 111) 19 (by kernel_rfl) (by kernel_rfl) rfl ?_ ?_
       rotate_left
       · intro w hSw
         conv in opOf _ _ => whnf
         (try dsimp only at hSw)
         go_simp
         try (with_reducible rfl)
       try simp only [Act.put,List.setIfInBounds_toArray,List.set_cons_zero,List.set_cons_succ])
      (refine held_take (v := ?_) (d := some 112) 20 (by kernel_rfl) (by kernel_rfl) rfl ?_ ?_
       rotate_left
       · intro w hSw
         conv in opOf _ _ => whnf
         (try dsimp only at hSw)
         go_simp
         try (with_reducible rfl)
       try simp only [Act.put,List.setIfInBounds_toArray,List.set_cons_zero,List.set_cons_succ])
      refine held_one 21 (by kernel_rfl) (by kernel_rfl) ?_
      refine held_mute (w' := ?_) (d := none) 21 (by kernel_rfl) (by kernel_rfl) rfl ?_ ?_
      rotate_left 1
      · intro hSw
        conv in opOf _ _ => whnf
        go_simp
        first | done | (with_reducible rfl)
      intro hS
      refine ⟨trivial,?_⟩
      try simp only [Act.put,List.setIfInBounds_toArray,List.set_cons_zero,List.set_cons_succ]
      refine held_done (by kernel_rfl) (fun hS => hR.out _ _ ?_)
      exact hQ _ _ _ _ _ _ _ _ _ _ _ _ _ _ _ _ _ _ _ _
  · skip
    (refine held_run (v := ?_) (w' := ?_) (d := some 106) 13 (by kernel_rfl) (by kernel_rfl) rfl ?_ ?_
     rotate_left 2
     · intro hSw
       conv in opOf _ _ => whnf
       go_simp
       first | done | (with_reducible rfl) | (constructor <;> with_reducible rfl)
     intro hS
     refine ⟨trivial,?_⟩
     try simp only [Act.put,List.setIfInBounds_toArray,List.set_cons_zero,List.set_cons_succ])
    (refine held_take (v := ?_) (d := some 109) 16 (by kernel_rfl) (by kernel_rfl) rfl ?_ ?_
     rotate_left
     · intro w hSw
       conv in opOf _ _ => whnf
       (try dsimp only at hSw)
       go_simp
       try (with_reducible rfl)
     try simp only [Act.put,List.setIfInBounds_toArray,List.set_cons_zero,List.set_cons_succ])
    refine held_one 5 (by kernel_rfl) (by kernel_rfl) ?_
    (refine held_run (v := ?_) (w' := ?_) (d := some 98) 5 (by kernel_rfl) (by kernel_rfl) rfl ?_ ?_
     rotate_left 2
     · intro hSw
       conv in opOf _ _ => whnf
       go_simp
       first | done | (with_reducible rfl) | (constructor <;> with_reducible rfl)
     intro hS
     refine ⟨trivial,?_⟩
     try simp only [Act.put,List.setIfInBounds_toArray,List.set_cons_zero,List.set_cons_succ])
    (refine held_take (v := ?_) (d := some 101) 8 (by kernel_rfl) (by kernel_rfl) rfl ?_ ?_
     rotate_left
     · intro w hSw
       conv in opOf _ _ => whnf
       (try dsimp only at hSw)
       go_simp
       try (with_reducible rfl)
     try simp only [Act.put,List.setIfInBounds_toArray,List.set_cons_zero,List.set_cons_succ])
    refine held_one 9 (by kernel_rfl) (by kernel_rfl) ?_
    (refine held_run (v := ?_) (w' := ?_) (d := some 102) 9 (by kernel_rfl) (by kernel_rfl) rfl ?_ ?_
     rotate_left 2
     · intro hSw
       conv in opOf _ _ => whnf
       go_simp
       first | done | (with_reducible rfl) | (constructor <;> with_reducible rfl)
     intro hS
     refine ⟨trivial,?_⟩
     try simp only [Act.put,List.setIfInBounds_toArray,List.set_cons_zero,List.set_cons_succ])
    (refine held_take (v := ?_) (d := some 110) 17 (by kernel_rfl) (by kernel_rfl) rfl ?_ ?_
     rotate_left
     · intro w hSw
       conv in opOf _ _ => whnf
       (try dsimp only at hSw)
       go_simp
       try (with_reducible rfl)
     try simp only [Act.put,List.setIfInBounds_toArray,List.set_cons_zero,List.set_cons_succ])
    refine held_one 18 (by kernel_rfl) (by kernel_rfl) ?_
    refine held_mute (w' := ?_) (d := none) 18 (by kernel_rfl) (by kernel_rfl) rfl ?_ ?_
    rotate_left 1
    · intro hSw
      conv in opOf _ _ => whnf
      go_simp
      first | done | (with_reducible rfl)
    intro hS
    refine ⟨trivial,?_⟩
    try simp only [Act.put,List.setIfInBounds_toArray,List.set_cons_zero,List.set_cons_succ]
    (refine held_take (v := ?_) (d := some 111) 19 (by kernel_rfl) (by kernel_rfl) rfl ?_ ?_
     rotate_left
     · intro w hSw
       conv in opOf _ _ => whnf
       (try dsimp only at hSw)
       go_simp
       try (with_reducible rfl)
     try simp only [Act.put,List.setIfInBounds_toArray,List.set_cons_zero,List.set_cons_succ])
    (refine held_take (v := ?_) (d := some 112) 20 (by kernel_rfl) (by kernel_rfl) rfl ?_ ?_
     rotate_left
     · intro w hSw
       conv in opOf _ _ => whnf
       (try dsimp only at hSw)
       go_simp
       try (with_reducible rfl)
     try simp only [Act.put,List.setIfInBounds_toArray,List.set_cons_zero,List.set_cons_succ])
    refine held_one 21 (by kernel_rfl) (by kernel_rfl) ?_
    refine held_mute (w' := ?_) (d := none) 21 (by kernel_rfl) (by kernel_rfl) rfl ?_ ?_
    rotate_left 1
    · intro hSw
      conv in opOf _ _ => whnf
      go_simp
      first | done | (with_reducible rfl)
    intro hS
    refine ⟨trivial,?_⟩
    try simp only [Act.put,List.setIfInBounds_toArray,List.set_cons_zero,List.set_cons_succ]
    refine held_done (by kernel_rfl) (fun hS => hR.out _ _ ?_)
    exact hQ _ _ _ _ _ _ _ _ _ _ _ _ _ _ _ _ _ _ _ _
set_option maxRecDepth 20000 in
set_option maxHeartbeats 4000000 in
theorem one_pop (op b n f : Int) (a : Nat) (w : World) (g : Nat) (cells : List Value) (hT : TabIs 0 w) (htg : 0 ≠ g) (hB : Blk w g 119 cells) (ha : a < 8) (z : Value) (hz : cells[a]? = some z) (b' o' nS cS : Nat) (x : Int) (hA : cells[268]? = some (.slice (some ⟨b',o',none⟩) (nS + 1) cS))
    (hx : w.cell? ⟨b',o' + nS,none⟩ = some (.int .i32 x)) (hbg : b' ≠ g) (hcap : nS + 1 ≤ cS ∧ cS ≤ 9223372036854775807) (T : Value) (HTd : Hid (T = Value.slice (some ⟨b',o',none⟩) nS cS)) (hnm : opName op = [112,111,112]) :
    Calls Tryd.prog 59 #[.pointer (some ⟨g,0,none⟩),.agg #[.int .i64 op,.int .i64 a,.int .i64 b,.int .i32 n,.int .i64 f]] w fun e w' => e = .returned (.agg #[.int .i64 0,.int .i64 0,.int .u32 0]) ∧ CW w g ((cells.set a (.int .i32 x)).set 268 T) w' := by
  have hg := hB.lt
  have hne : ¬ ((nS : Int) + 1 = 0) := by omega
  have hbl := World.block_lt_of_cell? _ _ hx
  have Hn := Lib.hid (fun w hT => hnm ▸ cname_any op w hT)
  have HB := Lib.hid hB
  have HA := Lib.hid hA
  have Hx := Lib.hid hx
  have Hz := Lib.hid hz
  clear hB hx hA hz
  have hX0 : Blk ((w.alloc (.cells #[.int .i64 op,.int .i64 a,.int .i64 b,.int .i32 n,.int .i64 f] 25)).alloc (.cells #[.int .i64 0,.int .i64 0,.int .u32 0] 56)) (w.heap.size + 1) 56 [.int .i64 0,.int .i64 0,.int .u32 0] := by
    have := Blk.new (w.alloc (.cells #[.int .i64 op,.int .i64 a,.int .i64 b,.int .i32 n,.int .i64 f] 25)) 56 [.int .i64 0,.int .i64 0,.int .u32 0]
    rw [World.size_alloc] at this
    exact this
  go_enter Tryd.func59,Tryd.ntmps59
  go_wp2_with fail
  go_quiet (fail)
  have hX1 : Blk (((w.alloc (.cells #[.int .i64 op,.int .i64 a,.int .i64 b,.int .i32 n,.int .i64 f] 25)).alloc (.cells #[.int .i64 0,.int .i64 0,.int .u32 0] 56)).drewN nq) (w.heap.size + 1) 56 [.int .i64 0,.int .i64 0,.int .u32 0] := hX0
  go_wp2_with (first
    | (go_at_call 82; refine (Hn.out _ (((hT.alloc _).alloc _).drewN nq)).mono ?_; rintro e w2 ⟨rfl,hb2⟩; have hC2 := ((((CW.start HB.out).alloc _).alloc _).drewN nq).below hb2; have hX2 := hX1.below hb2 hX1.lt; have q2 := (hC2.blk.cell 268).trans HA.out; have hX2l := hX2.lt)
    | fail)
  have hx2 : w2.cell? ⟨b',o' + nS,none⟩ = some (.int .i32 x) := (World.cell?_of_block (w := w) (a := ⟨b',o' + nS,none⟩) (hC2.fr.block b' hbl hbg)).trans Hx.out
  refine wp_region_swap (ops' := oneR19) (by kernel_rfl) (one_r19 g a nS cS b' o' T cells x z _ _ _ _ _ _ _ _ _ _ _ _ _ _ _ _ _ _ _ _ _ _ _ _ _ _ _ _ _ _ _ _ _ _ _ _ _ _ _ _ _ _ _ _ _ _ _ _ _ _ _ _ _ _ _ _ _ _ _ _ _ _ _ _ _ _ _ _ _ _ _ _ _ _ _ _ _ _ _ _ _ _ _ _ _ _ _ _ _ _ _ _ _ _ _ _ _ _ _ _ _ _ _ _ _ _ _ _ _ _ _ _ _ _ _ _ _ _ _ _ _ _ _ _ _ _ _ _ _ _ _ _ _ _ _ _ ha hC2.blk HA.out Hz.out hx2 hcap.1 hcap.2 HTd.out ?_)
  intro ZG ZH ZI ZJ ZK ZL ZM Zd Ze Zf Zg Zh Zi Zj Zk Zl Zm Zn Zo Zp
  have hX5 : Blk ((w2.setCell ⟨g,a,none⟩ (.int .i32 x)).setCell ⟨g,268,none⟩ T).drew (w.heap.size + 1) 56 [.int .i64 0,.int .i64 0,.int .u32 0] := (hX2.other (p := ⟨g,a,none⟩) (u := .int .i32 x) (by show w.heap.size + 1 ≠ g; omega)).other (p := ⟨g,268,none⟩) (u := T) (by show w.heap.size + 1 ≠ g; omega)
  go_wp2_with (first
    | ((with_reducible show wpList _ _ _ (Oper.mk none (Op.store _ (Operand.tmp 4) (Operand.tmp 136)) _ _ _ _ :: _) _ _); refine wpList_st3 hX5 rfl 56 (.tmp 4) (.tmp 136) (.int .i64 0) (.int .i64 0) (.int .u32 0) rfl (by kernel_rfl) (by kernel_rfl) (by simp [Value.oneCell']) (by kernel_rfl) ?_; rintro ⟨z0,z1,z2⟩)
    | fail)
  refine bodyPost_ret (v := .agg #[.int .i64 0,.int .i64 0,.int .u32 0]) (by simp [results,Tryd.results59,go_sem,z0,z1,z2]) rfl ⟨rfl,CW.farCells (by omega) _ _ _ ?_⟩
  exact ((hC2.setReg a (.int .i32 x)).setReg 268 T).drewN 1
set_option maxRecDepth 20000 in
set_option maxHeartbeats 4000000 in
theorem one_in (op b n f : Int) (a : Nat) (w : World) (g : Nat) (cells : List Value) (hT : TabIs 0 w) (htg : 0 ≠ g) (hB : Blk w g 119 cells) (ha : a < 8) (z : Value) (hz : cells[a]? = some z) (b' o' nS cS : Nat) (x : Int) (hA : cells[270]? = some (.slice (some ⟨b',o',none⟩) (nS + 1) cS))
    (hx : w.cell? ⟨b',o',none⟩ = some (.int .i32 x)) (hbg : b' ≠ g) (hcap : nS + 1 ≤ cS ∧ cS ≤ 9223372036854775807) (T : Value) (HTd : Hid (T = Value.slice (if cS = 1 then some ⟨b',o',none⟩ else some ⟨b',o' + 1,none⟩) nS (cS - 1))) (hnm : opName op = [105,110]) :
    Calls Tryd.prog 59 #[.pointer (some ⟨g,0,none⟩),.agg #[.int .i64 op,.int .i64 a,.int .i64 b,.int .i32 n,.int .i64 f]] w fun e w' => e = .returned (.agg #[.int .i64 0,.int .i64 0,.int .u32 0]) ∧ CW w g ((cells.set a (.int .i32 x)).set 270 T) w' := by
  have hg := hB.lt
  have hne : ¬ ((nS : Int) + 1 = 0) := by omega
  have hbl := World.block_lt_of_cell? _ _ hx
  have Hn := Lib.hid (fun w hT => hnm ▸ cname_any op w hT)
  have HB := Lib.hid hB
  have HA := Lib.hid hA
  have Hx := Lib.hid hx
  have Hz := Lib.hid hz
  clear hB hx hA hz
  have hX0 : Blk ((w.alloc (.cells #[.int .i64 op,.int .i64 a,.int .i64 b,.int .i32 n,.int .i64 f] 25)).alloc (.cells #[.int .i64 0,.int .i64 0,.int .u32 0] 56)) (w.heap.size + 1) 56 [.int .i64 0,.int .i64 0,.int .u32 0] := by
    have := Blk.new (w.alloc (.cells #[.int .i64 op,.int .i64 a,.int .i64 b,.int .i32 n,.int .i64 f] 25)) 56 [.int .i64 0,.int .i64 0,.int .u32 0]
    rw [World.size_alloc] at this
    exact this
  go_enter Tryd.func59,Tryd.ntmps59
  go_wp2_with fail
  go_quiet (fail)
  have hX1 : Blk (((w.alloc (.cells #[.int .i64 op,.int .i64 a,.int .i64 b,.int .i32 n,.int .i64 f] 25)).alloc (.cells #[.int .i64 0,.int .i64 0,.int .u32 0] 56)).drewN nq) (w.heap.size + 1) 56 [.int .i64 0,.int .i64 0,.int .u32 0] := hX0
  go_wp2_with (first
    | (go_at_call 82; refine (Hn.out _ (((hT.alloc _).alloc _).drewN nq)).mono ?_; rintro e w2 ⟨rfl,hb2⟩; have hC2 := ((((CW.start HB.out).alloc _).alloc _).drewN nq).below hb2; have hX2 := hX1.below hb2 hX1.lt; have q2 := (hC2.blk.cell 270).trans HA.out; have hX2l := hX2.lt)
    | fail)
  have hx2 : w2.cell? ⟨b',o',none⟩ = some (.int .i32 x) := (World.cell?_of_block (w := w) (a := ⟨b',o',none⟩) (hC2.fr.block b' hbl hbg)).trans Hx.out
  refine wp_region_swap (ops' := oneR10) (by kernel_rfl) (one_r10 g a nS cS b' o' T cells x z _ _ _ _ _ _ _ _ _ _ _ _ _ _ _ _ _ _ _ _ _ _ _ _ _ _ _ _ _ _ _ _ _ _ _ _ _ _ _ _ _ _ _ _ _ _ _ _ _ _ _ _ _ _ _ _ _ _ _ _ _ _ _ _ _ _ _ _ _ _ _ _ _ _ _ _ _ _ _ _ _ _ _ _ _ _ _ _ _ _ _ _ _ _ _ _ _ _ _ _ _ _ _ _ _ _ _ _ _ _ _ _ _ _ _ _ _ _ _ _ _ _ _ _ _ _ _ _ _ _ _ _ _ _ _ _ _ ha hC2.blk HA.out Hz.out hx2 hcap.1 hcap.2 HTd.out ?_)
  intro Zq Zr Zs Zt Zu Zv Zw Zx Zy Zz ZA ZB ZC ZD ZE ZF
  have hX5 : Blk ((w2.setCell ⟨g,a,none⟩ (.int .i32 x)).setCell ⟨g,270,none⟩ T).drew (w.heap.size + 1) 56 [.int .i64 0,.int .i64 0,.int .u32 0] := (hX2.other (p := ⟨g,a,none⟩) (u := .int .i32 x) (by show w.heap.size + 1 ≠ g; omega)).other (p := ⟨g,270,none⟩) (u := T) (by show w.heap.size + 1 ≠ g; omega)
  go_wp2_with (first
    | ((with_reducible show wpList _ _ _ (Oper.mk none (Op.store _ (Operand.tmp 4) (Operand.tmp 136)) _ _ _ _ :: _) _ _); refine wpList_st3 hX5 rfl 56 (.tmp 4) (.tmp 136) (.int .i64 0) (.int .i64 0) (.int .u32 0) rfl (by kernel_rfl) (by kernel_rfl) (by simp [Value.oneCell']) (by kernel_rfl) ?_; rintro ⟨z0,z1,z2⟩)
    | fail)
  refine bodyPost_ret (v := .agg #[.int .i64 0,.int .i64 0,.int .u32 0]) (by simp [results,Tryd.results59,go_sem,z0,z1,z2]) rfl ⟨rfl,CW.farCells (by omega) _ _ _ ?_⟩
  exact ((hC2.setReg a (.int .i32 x)).setReg 270 T).drewN 1
end Go.Proofs.YthcjnkakfpmpbaaDoor
