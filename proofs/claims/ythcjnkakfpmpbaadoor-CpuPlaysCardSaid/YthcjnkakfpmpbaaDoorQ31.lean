import Derived.Test.YthcjnkakfpmpbaaDoorQ4
import Derived.Test.YthcjnkakfpmpbaaDoorQ3
import Derived.Test.YthcjnkakfpmpbaaDoorQ10
namespace Go.Proofs.YthcjnkakfpmpbaaDoor
open Go.RowKit
set_option linter.unusedVariables false
set_option linter.unusedSimpArgs false
noncomputable def oneR10 : Array Oper := regOf Tryd.f59.body 10
set_option maxRecDepth 100000 in
set_option maxHeartbeats 8000000 in
theorem one_r10 (g a n c b o : Nat) (T : Value) (cells : List Value) (x : Int) (z : Value) (u1 u2 u3 u4 u6 u7 u8 u9 Ua Ul Uw UH UP UQ UR US UT UU UV UW UX UY UZ U0 U1 U2 U3 U4 U5 U6 U7 U8 U9 Ya Yb Yc Yd Ye Yf Yg Yh Yi Yj Yk Yl Ym Yn Yo Yp Yq Yr Ys Yt Yu Yv Yw Yx Yy Yz YA YB YC YD YE YF YG YH YI YJ YK YL YM YN YO YP YQ YR YS YT YU YV YW YX YY YZ Y0 Y1 Y2 Y3 Y4 Y5 Y6 Y7 Y8 Y9 Za Zb Zc Ub Uc Ud Ue Uf Ug Uh Ui Uj Uk Um Un Uo Up Uq Ur Us Ut Uu Uv Ux Uy Uz UA UB UC UD UE UF UG UI UJ UK UL UM UN UO : Value) (W : World) (Q : Exit → Act → World → Prop) (ha : a < 8) (hB : Blk W g 119 cells) (hA : cells[270]? = some (.slice (some ⟨b,o,none⟩) (n + 1) c)) (hz : cells[a]? = some z)
    (hx : W.cell? ⟨b,o,none⟩ = some (.int .i32 x)) (hnc : n + 1 ≤ c) (hcm : c ≤ 9223372036854775807) (hT : T = .slice (if c = 1 then some ⟨b,o,none⟩ else some ⟨b,o + 1,none⟩) n (c - 1))
    (hQ : ∀ (Zd Ze Zf Zg Zh Zi Zj Zk Zl Zm Zn Zo Zp Zq Zr Zs : Value),Q .normal { tmps := #[.pointer (some ⟨g,0,none⟩),u1,u2,u3,u4,.pointer (some ⟨g,a,none⟩),u6,u7,u8,u9,Ua,Ul,Uw,UH,UP,UQ,UR,US,UT,UU,UV,UW,UX,UY,UZ,U0,U1,U2,U3,U4,U5,U6,U7,U8,U9,Ya,Yb,Yc,Yd,Ye,Yf,Yg,Yh,Yi,Yj,Yk,Zd,Ze,Zf,Zg,Zh,Zi,Zj,Zk,Zl,Zm,Zn,Zo,Zp,Zq,Zr,Zs,YB,YC,YD,YE,YF,YG,YH,YI,YJ,YK,YL,YM,YN,YO,YP,YQ,YR,YS,YT,YU,YV,YW,YX,YY,YZ,Y0,Y1,Y2,Y3,Y4,Y5,Y6,Y7,Y8,Y9,Za,Zb,Zc,Ub,Uc,Ud,Ue,Uf,Ug,Uh,Ui,Uj,Uk,Um,Un,Uo,Up,Uq,Ur,Us,Ut,Uu,Uv,Ux,Uy,Uz,UA,UB,UC,UD,UE,UF,UG,UI,UJ,UK,UL,UM,UN,UO],defers := [] } ((W.setCell ⟨g,a,none⟩ (.int .i32 x)).setCell ⟨g,270,none⟩ T).drew) :
    (Code.region 10 oneR10 true).wp Tryd.prog Q { tmps := #[.pointer (some ⟨g,0,none⟩),u1,u2,u3,u4,.pointer (some ⟨g,a,none⟩),u6,u7,u8,u9,Ua,Ul,Uw,UH,UP,UQ,UR,US,UT,UU,UV,UW,UX,UY,UZ,U0,U1,U2,U3,U4,U5,U6,U7,U8,U9,Ya,Yb,Yc,Yd,Ye,Yf,Yg,Yh,Yi,Yj,Yk,Yl,Ym,Yn,Yo,Yp,Yq,Yr,Ys,Yt,Yu,Yv,Yw,Yx,Yy,Yz,YA,YB,YC,YD,YE,YF,YG,YH,YI,YJ,YK,YL,YM,YN,YO,YP,YQ,YR,YS,YT,YU,YV,YW,YX,YY,YZ,Y0,Y1,Y2,Y3,Y4,Y5,Y6,Y7,Y8,Y9,Za,Zb,Zc,Ub,Uc,Ud,Ue,Uf,Ug,Uh,Ui,Uj,Uk,Um,Un,Uo,Up,Uq,Ur,Us,Ut,Uu,Uv,Ux,Uy,Uz,UA,UB,UC,UD,UE,UF,UG,UI,UJ,UK,UL,UM,UN,UO],defers := [] } W := by
  subst hT
  have hgl := hB.lt
  have q1 := (hB.cell 270).trans hA
  have q2 := (hB.cell a).trans hz
  have f1 := hB.free 270
  have f2 := hB.free a
  have h0 : (0 : Int) < (n : Int) + 1 := by omega
  have h1 : (1 : Int) ≤ (n : Int) + 1 := by omega
  refine held_start (ops' := oneR10) (l0 := #[false,false,false,false,false,false,false,false,false,false,false,false,false,false,false,false,false,false]) (S := fun _ => True) (by kernel_rfl) (by kernel_rfl) (by kernel_rfl) (by kernel_rfl) trivial (fun R hR => ?_)
  (refine held_take (v := ?_) (d := some 46) 0 (by kernel_rfl) (by kernel_rfl) rfl ?_ ?_
   rotate_left
   · intro w hSw
     conv in opOf _ _ => whnf
     (try dsimp only at hSw)
     go_simp
     try (with_reducible rfl)
   try simp only [Act.put,List.setIfInBounds_toArray,List.set_cons_zero,List.set_cons_succ])
  (refine held_take (v := ?_) (d := some 47) 1 (by kernel_rfl) (by kernel_rfl) rfl ?_ ?_
   rotate_left
   · intro w hSw
     conv in opOf _ _ => whnf
     (try dsimp only at hSw)
     go_simp
     try (with_reducible rfl)
   try simp only [Act.put,List.setIfInBounds_toArray,List.set_cons_zero,List.set_cons_succ])
  (refine held_take (v := ?_) (d := some 48) 2 (by kernel_rfl) (by kernel_rfl) rfl ?_ ?_
   rotate_left
   · intro w hSw
     conv in opOf _ _ => whnf
     (try dsimp only at hSw)
     go_simp
     try (with_reducible rfl)
   try simp only [Act.put,List.setIfInBounds_toArray,List.set_cons_zero,List.set_cons_succ])
  (refine held_take (v := ?_) (d := some 49) 3 (by kernel_rfl) (by kernel_rfl) rfl ?_ ?_
   rotate_left
   · intro w hSw
     conv in opOf _ _ => whnf
     (try dsimp only at hSw)
     go_simp
     try (with_reducible rfl)
   try simp only [Act.put,List.setIfInBounds_toArray,List.set_cons_zero,List.set_cons_succ])
  (refine held_take (v := ?_) (d := some 50) 4 (by kernel_rfl) (by kernel_rfl) rfl ?_ ?_
   rotate_left
   · intro w hSw
     conv in opOf _ _ => whnf
     (try dsimp only at hSw)
     go_simp
     try (with_reducible rfl)
   try simp only [Act.put,List.setIfInBounds_toArray,List.set_cons_zero,List.set_cons_succ])
  (refine held_take (v := ?_) (d := some 54) 8 (by kernel_rfl) (by kernel_rfl) rfl ?_ ?_
   rotate_left
   · intro w hSw
     conv in opOf _ _ => whnf
     (try dsimp only at hSw)
     go_simp
     try (with_reducible rfl)
   try simp only [Act.put,List.setIfInBounds_toArray,List.set_cons_zero,List.set_cons_succ])
  (refine held_take (v := ?_) (d := some 55) 9 (by kernel_rfl) (by kernel_rfl) rfl ?_ ?_
   rotate_left
   · intro w hSw
     conv in opOf _ _ => whnf
     (try dsimp only at hSw)
     go_simp
     try (with_reducible rfl)
   try simp only [Act.put,List.setIfInBounds_toArray,List.set_cons_zero,List.set_cons_succ])
  (refine held_take (v := ?_) (d := some 56) 10 (by kernel_rfl) (by kernel_rfl) rfl ?_ ?_
   rotate_left
   · intro w hSw
     conv in opOf _ _ => whnf
     (try dsimp only at hSw)
     go_simp
     try (with_reducible rfl)
   try simp only [Act.put,List.setIfInBounds_toArray,List.set_cons_zero,List.set_cons_succ])
  refine held_two 5 11 (by kernel_rfl) (by kernel_rfl) (by kernel_rfl) ?_ ?_
  · skip
    (refine held_run (v := ?_) (w' := ?_) (d := some 51) 5 (by kernel_rfl) (by kernel_rfl) rfl ?_ ?_
     rotate_left 2
     · intro hSw
       conv in opOf _ _ => whnf
       go_simp
       first | done | (with_reducible rfl) | (constructor <;> with_reducible rfl)
     intro hS
     refine ⟨trivial,?_⟩
     try simp only [Act.put,List.setIfInBounds_toArray,List.set_cons_zero,List.set_cons_succ])
    (refine held_take (v := ?_) (d := some 52) 6 (by kernel_rfl) (by kernel_rfl) rfl ?_ ?_
     rotate_left
     · intro w hSw
       conv in opOf _ _ => whnf
       (try dsimp only at hSw)
       go_simp
       try (with_reducible rfl)
     try simp only [Act.put,List.setIfInBounds_toArray,List.set_cons_zero,List.set_cons_succ])
    refine held_two 7 11 (by kernel_rfl) (by kernel_rfl) (by kernel_rfl) ?_ ?_
    · skip
      (refine held_run (v := ?_) (w' := ?_) (d := some 53) 7 (by kernel_rfl) (by kernel_rfl) rfl ?_ ?_
       rotate_left 2
       · intro hSw
         conv in opOf _ _ => whnf
         go_simp
         first | done | (with_reducible rfl) | (constructor <;> with_reducible rfl)
       intro hS
       refine ⟨trivial,?_⟩
       try simp only [Act.put,List.setIfInBounds_toArray,List.set_cons_zero,List.set_cons_succ])
      refine held_one 11 (by kernel_rfl) (by kernel_rfl) ?_
      (refine held_run (v := ?_) (w' := ?_) (d := some 57) 11 (by kernel_rfl) (by kernel_rfl) rfl ?_ ?_
       rotate_left 2
       · intro hSw
         conv in opOf _ _ => whnf
         go_simp
         first | done | (with_reducible rfl) | (constructor <;> with_reducible rfl)
       intro hS
       refine ⟨trivial,?_⟩
       try simp only [Act.put,List.setIfInBounds_toArray,List.set_cons_zero,List.set_cons_succ])
      (refine held_take (v := ?_) (d := some 58) 12 (by kernel_rfl) (by kernel_rfl) rfl ?_ ?_
       rotate_left
       · intro w hSw
         conv in opOf _ _ => whnf
         (try dsimp only at hSw)
         go_simp
         try (with_reducible rfl)
       try simp only [Act.put,List.setIfInBounds_toArray,List.set_cons_zero,List.set_cons_succ])
      (refine held_take (v := ?_) (d := some 59) 13 (by kernel_rfl) (by kernel_rfl) rfl ?_ ?_
       rotate_left
       · intro w hSw
         conv in opOf _ _ => whnf
         (try dsimp only at hSw)
         go_simp
         try (with_reducible rfl)
       try simp only [Act.put,List.setIfInBounds_toArray,List.set_cons_zero,List.set_cons_succ])
      refine held_one 14 (by kernel_rfl) (by kernel_rfl) ?_
      refine held_mute (w' := ?_) (d := none) 14 (by kernel_rfl) (by kernel_rfl) rfl ?_ ?_
      rotate_left 1
      · intro hSw
        conv in opOf _ _ => whnf
        go_simp
        first | done | (with_reducible rfl)
      intro hS
      refine ⟨trivial,?_⟩
      try simp only [Act.put,List.setIfInBounds_toArray,List.set_cons_zero,List.set_cons_succ]
      (refine held_take (v := ?_) (d := some 60) 15 (by kernel_rfl) (by kernel_rfl) rfl ?_ ?_
       rotate_left
       · intro w hSw
         conv in opOf _ _ => whnf
         (try dsimp only at hSw)
         go_simp
         try (with_reducible rfl)
       try simp only [Act.put,List.setIfInBounds_toArray,List.set_cons_zero,List.set_cons_succ])
      (refine held_take (v := ?_) (d := some 61) 16 (by kernel_rfl) (by kernel_rfl) rfl ?_ ?_
       rotate_left
       · intro w hSw
         conv in opOf _ _ => whnf
         (try dsimp only at hSw)
         go_simp
         try (with_reducible rfl)
       try simp only [Act.put,List.setIfInBounds_toArray,List.set_cons_zero,List.set_cons_succ])
      refine held_one 17 (by kernel_rfl) (by kernel_rfl) ?_
      refine held_mute (w' := ?_) (d := none) 17 (by kernel_rfl) (by kernel_rfl) rfl ?_ ?_
      rotate_left 1
      · intro hSw
        conv in opOf _ _ => whnf
        go_simp
        first | done | (with_reducible rfl)
      intro hS
      refine ⟨trivial,?_⟩
      try simp only [Act.put,List.setIfInBounds_toArray,List.set_cons_zero,List.set_cons_succ]
      refine held_done (by kernel_rfl) (fun hS => hR.out _ _ ?_)
      exact hQ _ _ _ _ _ _ _ _ _ _ _ _ _ _ _ _
    · skip
      (refine held_run (v := ?_) (w' := ?_) (d := some 57) 11 (by kernel_rfl) (by kernel_rfl) rfl ?_ ?_
       rotate_left 2
       · intro hSw
         conv in opOf _ _ => whnf
         go_simp
         first | done | (with_reducible rfl) | (constructor <;> with_reducible rfl)
       intro hS
       refine ⟨trivial,?_⟩
       try simp only [Act.put,List.setIfInBounds_toArray,List.set_cons_zero,List.set_cons_succ])
      (refine held_take (v := ?_) (d := some 58) 12 (by kernel_rfl) (by kernel_rfl) rfl ?_ ?_
       rotate_left
       · intro w hSw
         conv in opOf _ _ => whnf
         (try dsimp only at hSw)
         go_simp
         try (with_reducible rfl)
       try simp only [Act.put,List.setIfInBounds_toArray,List.set_cons_zero,List.set_cons_succ])
      refine held_one 7 (by kernel_rfl) (by kernel_rfl) ?_
      (refine held_run (v := ?_) (w' := ?_) (d := some 53) 7 (by kernel_rfl) (by kernel_rfl) rfl ?_ ?_
       rotate_left 2
       · intro hSw
         conv in opOf _ _ => whnf
         go_simp
         first | done | (with_reducible rfl) | (constructor <;> with_reducible rfl)
       intro hS
       refine ⟨trivial,?_⟩
       try simp only [Act.put,List.setIfInBounds_toArray,List.set_cons_zero,List.set_cons_succ])
      (refine held_take (v := ?_) (d := some 59) 13 (by kernel_rfl) (by kernel_rfl) rfl ?_ ?_
       rotate_left
       · intro w hSw
         conv in opOf _ _ => whnf
         (try dsimp only at hSw)
         go_simp
         try (with_reducible rfl)
       try simp only [Act.put,List.setIfInBounds_toArray,List.set_cons_zero,List.set_cons_succ])
      refine held_one 14 (by kernel_rfl) (by kernel_rfl) ?_
      refine held_mute (w' := ?_) (d := none) 14 (by kernel_rfl) (by kernel_rfl) rfl ?_ ?_
      rotate_left 1
      · intro hSw
        conv in opOf _ _ => whnf
        go_simp
        first | done | (with_reducible rfl)
      intro hS
      refine ⟨trivial,?_⟩
      try simp only [Act.put,List.setIfInBounds_toArray,List.set_cons_zero,List.set_cons_succ]
      (refine held_take (v := ?_) (d := some 60) 15 (by kernel_rfl) (by kernel_rfl) rfl ?_ ?_
       rotate_left
       · intro w hSw
         conv in opOf _ _ => whnf
         (try dsimp only at hSw)
         go_simp
         try (with_reducible rfl)
       try simp only [Act.put,List.setIfInBounds_toArray,List.set_cons_zero,List.set_cons_succ])
      (refine held_take (v := ?_) (d := some 61) 16 (by kernel_rfl) (by kernel_rfl) rfl ?_ ?_
       rotate_left
       · intro w hSw
         conv in opOf _ _ => whnf
         (try dsimp only at hSw)
         go_simp
         try (with_reducible rfl)
       try simp only [Act.put,List.setIfInBounds_toArray,List.set_cons_zero,List.set_cons_succ])
      refine held_one 17 (by kernel_rfl) (by kernel_rfl) ?_
      refine held_mute (w' := ?_) (d := none) 17 (by kernel_rfl) (by kernel_rfl) rfl ?_ ?_
      rotate_left 1
      · intro hSw
        conv in opOf _ _ => whnf
        go_simp
        first | done | (with_reducible rfl)
      intro hS
      refine ⟨trivial,?_⟩
      try simp only [Act.put,List.setIfInBounds_toArray,List.set_cons_zero,List.set_cons_succ]
      refine held_done (by kernel_rfl) (fun hS => hR.out _ _ ?_)
      exact hQ _ _ _ _ _ _ _ _ _ _ _ _ _ _ _ _
  · skip
    (refine held_run (v := ?_) (w' := ?_) (d := some 57) 11 (by kernel_rfl) (by kernel_rfl) rfl ?_ ?_
     rotate_left 2
     · intro hSw
       conv in opOf _ _ => whnf
       go_simp
       first | done | (with_reducible rfl) | (constructor <;> with_reducible rfl)
     intro hS
     refine ⟨trivial,?_⟩
     try simp only [Act.put,List.setIfInBounds_toArray,List.set_cons_zero,List.set_cons_succ])
    (refine held_take (v := ?_) (d := some 58) 12 (by kernel_rfl) (by kernel_rfl) rfl ?_ ?_
     rotate_left
     · intro w hSw
       conv in opOf _ _ => whnf
       (try dsimp only at hSw)
       go_simp
       try (with_reducible rfl)
     try simp only [Act.put,List.setIfInBounds_toArray,List.set_cons_zero,List.set_cons_succ])
    refine held_one 5 (by kernel_rfl) (by kernel_rfl) ?_
    (refine held_run (v := ?_) (w' := ?_) (d := some 51) 5 (by kernel_rfl) (by kernel_rfl) rfl ?_ ?_
     rotate_left 2
     · intro hSw
       conv in opOf _ _ => whnf
       go_simp
       first | done | (with_reducible rfl) | (constructor <;> with_reducible rfl)
     intro hS
     refine ⟨trivial,?_⟩
     try simp only [Act.put,List.setIfInBounds_toArray,List.set_cons_zero,List.set_cons_succ])
    (refine held_take (v := ?_) (d := some 52) 6 (by kernel_rfl) (by kernel_rfl) rfl ?_ ?_
     rotate_left
     · intro w hSw
       conv in opOf _ _ => whnf
       (try dsimp only at hSw)
       go_simp
       try (with_reducible rfl)
     try simp only [Act.put,List.setIfInBounds_toArray,List.set_cons_zero,List.set_cons_succ])
    refine held_one 7 (by kernel_rfl) (by kernel_rfl) ?_
    (refine held_run (v := ?_) (w' := ?_) (d := some 53) 7 (by kernel_rfl) (by kernel_rfl) rfl ?_ ?_
     rotate_left 2
     · intro hSw
       conv in opOf _ _ => whnf
       go_simp
       first | done | (with_reducible rfl) | (constructor <;> with_reducible rfl)
     intro hS
     refine ⟨trivial,?_⟩
     try simp only [Act.put,List.setIfInBounds_toArray,List.set_cons_zero,List.set_cons_succ])
    (refine held_take (v := ?_) (d := some 59) 13 (by kernel_rfl) (by kernel_rfl) rfl ?_ ?_
     rotate_left
     · intro w hSw
       conv in opOf _ _ => whnf
       (try dsimp only at hSw)
       go_simp
       try (with_reducible rfl)
     try simp only [Act.put,List.setIfInBounds_toArray,List.set_cons_zero,List.set_cons_succ])
    refine held_one 14 (by kernel_rfl) (by kernel_rfl) ?_
    refine held_mute (w' := ?_) (d := none) 14 (by kernel_rfl) (by kernel_rfl) rfl ?_ ?_
    rotate_left 1
    · intro hSw
      conv in opOf _ _ => whnf
      go_simp
      first | done | (with_reducible rfl)
    intro hS
    refine ⟨trivial,?_⟩
    try simp only [Act.put,List.setIfInBounds_toArray,List.set_cons_zero,List.set_cons_succ]
    (refine held_take (v := ?_) (d := some 60) 15 (by kernel_rfl) (by kernel_rfl) rfl ?_ ?_
     rotate_left
     · intro w hSw
       conv in opOf _ _ => whnf
       (try dsimp only at hSw)
       go_simp
       try (with_reducible rfl)
     try simp only [Act.put,List.setIfInBounds_toArray,List.set_cons_zero,List.set_cons_succ])
    (refine held_take (v := ?_) (d := some 61) 16 (by kernel_rfl) (by kernel_rfl) rfl ?_ ?_
     rotate_left
     · intro w hSw
       conv in opOf _ _ => whnf
       (try dsimp only at hSw)
       go_simp
       try (with_reducible rfl)
     try simp only [Act.put,List.setIfInBounds_toArray,List.set_cons_zero,List.set_cons_succ])
    refine held_one 17 (by kernel_rfl) (by kernel_rfl) ?_
    refine held_mute (w' := ?_) (d := none) 17 (by kernel_rfl) (by kernel_rfl) rfl ?_ ?_
    rotate_left 1
    · intro hSw
      conv in opOf _ _ => whnf
      go_simp
      first | done | (with_reducible rfl)
    intro hS
    refine ⟨trivial,?_⟩
    try simp only [Act.put,List.setIfInBounds_toArray,List.set_cons_zero,List.set_cons_succ]
    refine held_done (by kernel_rfl) (fun hS => hR.out _ _ ?_)
    exact hQ _ _ _ _ _ _ _ _ _ _ _ _ _ _ _ _
end Go.Proofs.YthcjnkakfpmpbaaDoor
namespace Go.Proofs.YthcjnkakfpmpbaaDoor
open Go.RowKit
set_option linter.unusedVariables false
set_option linter.unusedSimpArgs false
set_option maxRecDepth 20000 in
set_option maxHeartbeats 4000000 in
theorem one_print_full (op b n f : Int) (a : Nat) (x : Int) (w : World) (g : Nat) (cells : List Value) (AT : Option Addr) (cT nT : Nat) (AS : Option Addr) (cS nS : Nat) (hBk : Blk w g 119 cells) (heF : cells[269]? = some (.slice AT nT cT)) (hT : TabIs 0 w) (ha : a < 8) (hx : cells[a]? = some (.int .i32 x)) (hnm : opName op = [112,114,105,110,116]) (hl : nT = 4096) :
    Calls Tryd.prog 59 #[.pointer (some ⟨g,0,none⟩),.agg #[.int .i64 op,.int .i64 a,.int .i64 b,.int .i32 n,.int .i64 f]] w fun e w' => e = .returned (.agg #[.int .i64 6,.int .i64 7,.int .u32 0]) ∧ Below w.heap.size w w' := by
  have hg := hBk.lt
  have hlI : (nT : Int) = 4096 := by omega
  have Hn := Lib.hid (fun w hT => hnm ▸ cname_any op w hT)
  have HM := Lib.hid hBk
  have HE := Lib.hid heF
  have Hx := Lib.hid hx
  clear hBk heF hx
  have hB0 : Below w.heap.size w ((w.alloc (.cells #[.int .i64 op,.int .i64 a,.int .i64 b,.int .i32 n,.int .i64 f] 25)).alloc (.cells #[.int .i64 0,.int .i64 0,.int .u32 0] 56)) := ((Below.refl _ _).alloc (Nat.le_refl _) _).alloc (by simp) _
  have hX0 : Blk ((w.alloc (.cells #[.int .i64 op,.int .i64 a,.int .i64 b,.int .i32 n,.int .i64 f] 25)).alloc (.cells #[.int .i64 0,.int .i64 0,.int .u32 0] 56)) (w.heap.size + 1) 56 [.int .i64 0,.int .i64 0,.int .u32 0] := by
    have := Blk.new (w.alloc (.cells #[.int .i64 op,.int .i64 a,.int .i64 b,.int .i32 n,.int .i64 f] 25)) 56 [.int .i64 0,.int .i64 0,.int .u32 0]
    rw [World.size_alloc] at this
    exact this
  go_enter Tryd.func59,Tryd.ntmps59
  go_wp2_with fail
  go_quiet (fail)
  have hX1 : Blk (((w.alloc (.cells #[.int .i64 op,.int .i64 a,.int .i64 b,.int .i32 n,.int .i64 f] 25)).alloc (.cells #[.int .i64 0,.int .i64 0,.int .u32 0] 56)).drewN nq) (w.heap.size + 1) 56 [.int .i64 0,.int .i64 0,.int .u32 0] := hX0
  have hB1 : Below w.heap.size w (((w.alloc (.cells #[.int .i64 op,.int .i64 a,.int .i64 b,.int .i32 n,.int .i64 f] 25)).alloc (.cells #[.int .i64 0,.int .i64 0,.int .u32 0] 56)).drewN nq) := below_drewN hB0 nq
  go_wp2_with (first
    | (go_at_call 82; refine (Hn.out _ (((hT.alloc _).alloc _).drewN nq)).mono ?_; rintro e w2 ⟨rfl,hb2⟩; have hB2 := hB1.trans (hb2.mono hB1.size); have hX2 := hX1.below hb2 hX1.lt; have hM2 := HM.out.below hB2 hg; have q2 := (hM2.cell 269).trans HE.out; have hz2 := hM2.lt; have hX2l := hX2.lt)
    | (go_at_call 57; refine (ctrap_any 7 w2).mono ?_; rintro e w4 ⟨rfl,hb4⟩; have hX4 := hX2.below hb4 hX2.lt)
    | ((with_reducible show wpList _ _ _ (Oper.mk none (Op.store _ (Operand.tmp 4) (Operand.tmp 24)) _ _ _ _ :: _) _ _); refine wpList_st3 hX4 rfl 56 (.tmp 4) (.tmp 24) (.int .i64 6) (.int .i64 7) (.int .u32 0) rfl (by kernel_rfl) (by kernel_rfl) (by simp [Value.oneCell']) (by kernel_rfl) ?_; rintro ⟨z0,z1,z2⟩)
    | fail)
  have hs2 := hB2.size
  have hB4 := hB2.trans (hb4.mono hs2)
  refine bodyPost_ret (v := .agg #[.int .i64 6,.int .i64 7,.int .u32 0]) (by simp [results,Tryd.results59,go_sem,z0,z1,z2]) rfl ⟨rfl,below_cells (by omega) _ _ _ hB4⟩
set_option maxRecDepth 20000 in
set_option maxHeartbeats 4000000 in
theorem one_push_full (op b n f : Int) (a : Nat) (x : Int) (w : World) (g : Nat) (cells : List Value) (AT : Option Addr) (cT nT : Nat) (AS : Option Addr) (cS nS : Nat) (hBk : Blk w g 119 cells) (heF : cells[268]? = some (.slice AS nS cS)) (hT : TabIs 0 w) (ha : a < 8) (hx : cells[a]? = some (.int .i32 x)) (hnm : opName op = [112,117,115,104]) (hl : nS = 256) :
    Calls Tryd.prog 59 #[.pointer (some ⟨g,0,none⟩),.agg #[.int .i64 op,.int .i64 a,.int .i64 b,.int .i32 n,.int .i64 f]] w fun e w' => e = .returned (.agg #[.int .i64 6,.int .i64 4,.int .u32 0]) ∧ Below w.heap.size w w' := by
  have hg := hBk.lt
  have hlI : (nS : Int) = 256 := by omega
  have Hn := Lib.hid (fun w hT => hnm ▸ cname_any op w hT)
  have HM := Lib.hid hBk
  have HE := Lib.hid heF
  have Hx := Lib.hid hx
  clear hBk heF hx
  have hB0 : Below w.heap.size w ((w.alloc (.cells #[.int .i64 op,.int .i64 a,.int .i64 b,.int .i32 n,.int .i64 f] 25)).alloc (.cells #[.int .i64 0,.int .i64 0,.int .u32 0] 56)) := ((Below.refl _ _).alloc (Nat.le_refl _) _).alloc (by simp) _
  have hX0 : Blk ((w.alloc (.cells #[.int .i64 op,.int .i64 a,.int .i64 b,.int .i32 n,.int .i64 f] 25)).alloc (.cells #[.int .i64 0,.int .i64 0,.int .u32 0] 56)) (w.heap.size + 1) 56 [.int .i64 0,.int .i64 0,.int .u32 0] := by
    have := Blk.new (w.alloc (.cells #[.int .i64 op,.int .i64 a,.int .i64 b,.int .i32 n,.int .i64 f] 25)) 56 [.int .i64 0,.int .i64 0,.int .u32 0]
    rw [World.size_alloc] at this
    exact this
  go_enter Tryd.func59,Tryd.ntmps59
  go_wp2_with fail
  go_quiet (fail)
  have hX1 : Blk (((w.alloc (.cells #[.int .i64 op,.int .i64 a,.int .i64 b,.int .i32 n,.int .i64 f] 25)).alloc (.cells #[.int .i64 0,.int .i64 0,.int .u32 0] 56)).drewN nq) (w.heap.size + 1) 56 [.int .i64 0,.int .i64 0,.int .u32 0] := hX0
  have hB1 : Below w.heap.size w (((w.alloc (.cells #[.int .i64 op,.int .i64 a,.int .i64 b,.int .i32 n,.int .i64 f] 25)).alloc (.cells #[.int .i64 0,.int .i64 0,.int .u32 0] 56)).drewN nq) := below_drewN hB0 nq
  go_wp2_with (first
    | (go_at_call 82; refine (Hn.out _ (((hT.alloc _).alloc _).drewN nq)).mono ?_; rintro e w2 ⟨rfl,hb2⟩; have hB2 := hB1.trans (hb2.mono hB1.size); have hX2 := hX1.below hb2 hX1.lt; have hM2 := HM.out.below hB2 hg; have q2 := (hM2.cell 268).trans HE.out; have hz2 := hM2.lt; have hX2l := hX2.lt)
    | (go_at_call 57; refine (ctrap_any 4 w2).mono ?_; rintro e w4 ⟨rfl,hb4⟩; have hX4 := hX2.below hb4 hX2.lt)
    | ((with_reducible show wpList _ _ _ (Oper.mk none (Op.store _ (Operand.tmp 4) (Operand.tmp 70)) _ _ _ _ :: _) _ _); refine wpList_st3 hX4 rfl 56 (.tmp 4) (.tmp 70) (.int .i64 6) (.int .i64 4) (.int .u32 0) rfl (by kernel_rfl) (by kernel_rfl) (by simp [Value.oneCell']) (by kernel_rfl) ?_; rintro ⟨z0,z1,z2⟩)
    | fail)
  have hs2 := hB2.size
  have hB4 := hB2.trans (hb4.mono hs2)
  refine bodyPost_ret (v := .agg #[.int .i64 6,.int .i64 4,.int .u32 0]) (by simp [results,Tryd.results59,go_sem,z0,z1,z2]) rfl ⟨rfl,below_cells (by omega) _ _ _ hB4⟩
end Go.Proofs.YthcjnkakfpmpbaaDoor
