import Derived.Test.YthcjnkakfpmpbaaDoorQ4
import Derived.Deep.QuietTactic
import Derived.BigQuiet
namespace Go.Proofs.YthcjnkakfpmpbaaDoor
open Go.RowKit
set_option linter.unusedVariables false
set_option linter.unusedSimpArgs false
theorem run_neg_float {P : Program} (w : World) (k : FloatKind) (b : Nat) : (Op.unary UnOp.neg (.float k b)).run P w = .ok (.float k (Op.negFloat k b)) w := rfl
attribute [local go_sem] run_store_complex run_neg_float
noncomputable def cxR7 : Array Oper := regOf Tryd.f62.body 7
set_option maxRecDepth 100000 in
set_option maxHeartbeats 16000000 in
theorem cx_r7 (g a : Nat) (p q  : Nat) (u1 u2 u3 u5 u6 u7 u8 u9 Ua Ul Uw UH US U3 U6 U7 U8 U9 Ya Yb Yc Yd Ye Yf Yg Yh Yi Yj Yk Yl Ym Yn Yo Yp Yq Yr Ys Yt Yu Yv Yw Yx Yy Yz YA YB YC YD YE YF YG YH YI YJ YK YL YM YN YO YP YQ YR YS YT YU YV YW YX YY YZ Y0 Y1 Y2 Y3 Y4 Y5 Y6 Y7 Y8 Y9 Za Zb Zc Zd Ze Zf Zg Zh Zi Zj Zk Zl Zm Zn Zo Zp Zq Zr Ub Uc Ud Ue Uf Ug Uh Ui Uj Uk Um Un Uo Up Uq Ur Us Ut Uu Uv Ux Uy Uz UA UB UC UD UE UF UG UI UJ UK UL UM UN UO UP UQ UR UT UU UV UW UX UY UZ U0 U1 U2 U4 U5 : Value) (W : World) (Q : Exit → Act → World → Prop) (ha : a < 4) (pz : W.cell? ⟨g,8 + a,none⟩ = some (.complex .f64 p q)) (fz : W.frozen? ⟨g,8 + a,none⟩ = false) 
    (hQ : ∀ (Zs Zt Zu Zv Zw Zx Zy Zz ZA ZB ZC ZD : Value),Q .normal { tmps := #[.pointer (some ⟨g,0,none⟩),u1,u2,u3,.pointer (some ⟨g,8 + a,none⟩),u5,u6,u7,u8,u9,Ua,Ul,Uw,UH,US,U3,U6,U7,U8,U9,Ya,Yb,Yc,Yd,Ye,Yf,Yg,Yh,Yi,Yj,Yk,Yl,Ym,Yn,Yo,Yp,Yq,Yr,Ys,Yt,Yu,Yv,Yw,Yx,Yy,Yz,YA,YB,Zs,Zt,Zu,Zv,Zw,Zx,Zy,Zz,ZA,ZB,ZC,ZD,YO,YP,YQ,YR,YS,YT,YU,YV,YW,YX,YY,YZ,Y0,Y1,Y2,Y3,Y4,Y5,Y6,Y7,Y8,Y9,Za,Zb,Zc,Zd,Ze,Zf,Zg,Zh,Zi,Zj,Zk,Zl,Zm,Zn,Zo,Zp,Zq,Zr,Ub,Uc,Ud,Ue,Uf,Ug,Uh,Ui,Uj,Uk,Um,Un,Uo,Up,Uq,Ur,Us,Ut,Uu,Uv,Ux,Uy,Uz,UA,UB,UC,UD,UE,UF,UG,UI,UJ,UK,UL,UM,UN,UO,UP,UQ,UR,UT,UU,UV,UW,UX,UY,UZ,U0,U1,U2,U4,U5],defers := [] } ((W.drewN 1).setCell ⟨g,8 + a,none⟩ (.complex .f64 (Op.negFloat .f64 q) p))) :
    (Code.region 7 cxR7 true).wp Tryd.prog Q { tmps := #[.pointer (some ⟨g,0,none⟩),u1,u2,u3,.pointer (some ⟨g,8 + a,none⟩),u5,u6,u7,u8,u9,Ua,Ul,Uw,UH,US,U3,U6,U7,U8,U9,Ya,Yb,Yc,Yd,Ye,Yf,Yg,Yh,Yi,Yj,Yk,Yl,Ym,Yn,Yo,Yp,Yq,Yr,Ys,Yt,Yu,Yv,Yw,Yx,Yy,Yz,YA,YB,YC,YD,YE,YF,YG,YH,YI,YJ,YK,YL,YM,YN,YO,YP,YQ,YR,YS,YT,YU,YV,YW,YX,YY,YZ,Y0,Y1,Y2,Y3,Y4,Y5,Y6,Y7,Y8,Y9,Za,Zb,Zc,Zd,Ze,Zf,Zg,Zh,Zi,Zj,Zk,Zl,Zm,Zn,Zo,Zp,Zq,Zr,Ub,Uc,Ud,Ue,Uf,Ug,Uh,Ui,Uj,Uk,Um,Un,Uo,Up,Uq,Ur,Us,Ut,Uu,Uv,Ux,Uy,Uz,UA,UB,UC,UD,UE,UF,UG,UI,UJ,UK,UL,UM,UN,UO,UP,UQ,UR,UT,UU,UV,UW,UX,UY,UZ,U0,U1,U2,U4,U5],defers := [] } W := by
  refine held_start (ops' := cxR7) (l0 := #[false,false,false,false,false,false,false,false,false,false,false,false,false]) (S := fun w' => (∃ z,w'.cell? ⟨g,8 + a,none⟩ = some z) ∧ w'.frozen? ⟨g,8 + a,none⟩ = false) (by kernel_rfl) (by kernel_rfl) (by kernel_rfl) (by kernel_rfl) ⟨⟨_,pz⟩,fz⟩ (fun R hR => ?_)
  (refine held_take (v := ?_) (d := some 48) 0 (by kernel_rfl) (by kernel_rfl) rfl ?_ ?_
   rotate_left
   · intro w hSw
     conv in opOf _ _ => whnf
     (try dsimp only at hSw)
     go_simp
     try (with_reducible rfl)
   try simp only [Act.put,List.setIfInBounds_toArray,List.set_cons_zero,List.set_cons_succ])
  (refine held_take (v := ?_) (d := some 49) 1 (by kernel_rfl) (by kernel_rfl) rfl ?_ ?_
   rotate_left
   · intro w hSw
     conv in opOf _ _ => whnf
     (try dsimp only at hSw)
     go_simp
     try (with_reducible rfl)
   try simp only [Act.put,List.setIfInBounds_toArray,List.set_cons_zero,List.set_cons_succ])
  (refine held_take (v := ?_) (d := some 54) 6 (by kernel_rfl) (by kernel_rfl) rfl ?_ ?_
   rotate_left
   · intro w hSw
     conv in opOf _ _ => whnf
     (try dsimp only at hSw)
     go_simp
     try (with_reducible rfl)
   try simp only [Act.put,List.setIfInBounds_toArray,List.set_cons_zero,List.set_cons_succ])
  (refine held_take (v := ?_) (d := some 50) 2 (by kernel_rfl) (by kernel_rfl) rfl ?_ ?_
   rotate_left
   · intro w hSw
     conv in opOf _ _ => whnf
     (try dsimp only at hSw)
     go_simp
     try (with_reducible rfl)
   try simp only [Act.put,List.setIfInBounds_toArray,List.set_cons_zero,List.set_cons_succ])
  (refine held_take (v := ?_) (d := some 55) 7 (by kernel_rfl) (by kernel_rfl) rfl ?_ ?_
   rotate_left
   · intro w hSw
     conv in opOf _ _ => whnf
     (try dsimp only at hSw)
     go_simp
     try (with_reducible rfl)
   try simp only [Act.put,List.setIfInBounds_toArray,List.set_cons_zero,List.set_cons_succ])
  refine held_many [3,8] (by kernel_rfl) (by simp) (by intro i hi; simp only [List.mem_cons,List.not_mem_nil,or_false] at hi; rcases hi with rfl | rfl <;> kernel_rfl) (fun i hi => ?_)
  simp only [List.mem_cons,List.not_mem_nil,or_false] at hi
  rcases hi with rfl | rfl
  · skip
    (refine held_run (v := ?_) (w' := ?_) (d := some 51) 3 (by kernel_rfl) (by kernel_rfl) rfl ?_ ?_
     rotate_left 2
     · rintro ⟨s1,s2⟩
       conv in opOf _ _ => whnf
       go_simp
       first | done | (with_reducible rfl) | (constructor <;> with_reducible rfl)
     intro hS
     refine ⟨hS,?_⟩
     try simp only [Act.put,List.setIfInBounds_toArray,List.set_cons_zero,List.set_cons_succ])
    (refine held_take (v := ?_) (d := some 52) 4 (by kernel_rfl) (by kernel_rfl) rfl ?_ ?_
     rotate_left
     · intro w hSw
       conv in opOf _ _ => whnf
       (try dsimp only at hSw)
       go_simp
       try (with_reducible rfl)
     try simp only [Act.put,List.setIfInBounds_toArray,List.set_cons_zero,List.set_cons_succ])
    (refine held_take (v := ?_) (d := some 53) 5 (by kernel_rfl) (by kernel_rfl) rfl ?_ ?_
     rotate_left
     · intro w hSw
       conv in opOf _ _ => whnf
       (try dsimp only at hSw)
       go_simp
       try (with_reducible rfl)
     try simp only [Act.put,List.setIfInBounds_toArray,List.set_cons_zero,List.set_cons_succ])
    refine held_one 8 (by kernel_rfl) (by kernel_rfl) ?_
    (refine held_run (v := ?_) (w' := ?_) (d := some 56) 8 (by kernel_rfl) (by kernel_rfl) rfl ?_ ?_
     rotate_left 2
     · rintro ⟨s1,s2⟩
       conv in opOf _ _ => whnf
       go_simp
       first | done | (with_reducible rfl) | (constructor <;> with_reducible rfl)
     intro hS
     refine ⟨hS,?_⟩
     try simp only [Act.put,List.setIfInBounds_toArray,List.set_cons_zero,List.set_cons_succ])
    (refine held_take (v := ?_) (d := some 57) 9 (by kernel_rfl) (by kernel_rfl) rfl ?_ ?_
     rotate_left
     · intro w hSw
       conv in opOf _ _ => whnf
       (try dsimp only at hSw)
       go_simp
       try (with_reducible rfl)
     try simp only [Act.put,List.setIfInBounds_toArray,List.set_cons_zero,List.set_cons_succ])
    (refine held_take (v := ?_) (d := some 58) 10 (by kernel_rfl) (by kernel_rfl) rfl ?_ ?_
     rotate_left
     · intro w hSw
       conv in opOf _ _ => whnf
       (try dsimp only at hSw)
       go_simp
       try (with_reducible rfl)
     try simp only [Act.put,List.setIfInBounds_toArray,List.set_cons_zero,List.set_cons_succ])
    (refine held_take (v := ?_) (d := some 59) 11 (by kernel_rfl) (by kernel_rfl) rfl ?_ ?_
     rotate_left
     · intro w hSw
       conv in opOf _ _ => whnf
       (try dsimp only at hSw)
       go_simp
       try (with_reducible rfl)
     try simp only [Act.put,List.setIfInBounds_toArray,List.set_cons_zero,List.set_cons_succ])
    refine held_one 12 (by kernel_rfl) (by kernel_rfl) (held_mute (w' := ?_) (d := none) 12 (by kernel_rfl) (by kernel_rfl) rfl ?_ ?_)
    rotate_left 1
    · rintro ⟨⟨sz,s5⟩,s6⟩
      conv in opOf _ _ => whnf
      go_simp
      first | done | (with_reducible rfl)
    intro hS
    refine ⟨⟨⟨_,World.cell?_setCell_same' _ _ _ (by have hy' : W.cell? ⟨g,8 + a,none⟩ = some (.complex .f64 p q) := pz; simp [hy'])⟩,by simpa using hS.2⟩,?_⟩
    try simp only [Act.put,List.setIfInBounds_toArray,List.set_cons_zero,List.set_cons_succ]
    refine held_done (by kernel_rfl) (fun hS => hR.out _ _ ?_)
    exact hQ _ _ _ _ _ _ _ _ _ _ _ _
  · skip
    (refine held_run (v := ?_) (w' := ?_) (d := some 56) 8 (by kernel_rfl) (by kernel_rfl) rfl ?_ ?_
     rotate_left 2
     · rintro ⟨s1,s2⟩
       conv in opOf _ _ => whnf
       go_simp
       first | done | (with_reducible rfl) | (constructor <;> with_reducible rfl)
     intro hS
     refine ⟨hS,?_⟩
     try simp only [Act.put,List.setIfInBounds_toArray,List.set_cons_zero,List.set_cons_succ])
    (refine held_take (v := ?_) (d := some 57) 9 (by kernel_rfl) (by kernel_rfl) rfl ?_ ?_
     rotate_left
     · intro w hSw
       conv in opOf _ _ => whnf
       (try dsimp only at hSw)
       go_simp
       try (with_reducible rfl)
     try simp only [Act.put,List.setIfInBounds_toArray,List.set_cons_zero,List.set_cons_succ])
    refine held_one 3 (by kernel_rfl) (by kernel_rfl) ?_
    (refine held_run (v := ?_) (w' := ?_) (d := some 51) 3 (by kernel_rfl) (by kernel_rfl) rfl ?_ ?_
     rotate_left 2
     · rintro ⟨s1,s2⟩
       conv in opOf _ _ => whnf
       go_simp
       first | done | (with_reducible rfl) | (constructor <;> with_reducible rfl)
     intro hS
     refine ⟨hS,?_⟩
     try simp only [Act.put,List.setIfInBounds_toArray,List.set_cons_zero,List.set_cons_succ])
    (refine held_take (v := ?_) (d := some 52) 4 (by kernel_rfl) (by kernel_rfl) rfl ?_ ?_
     rotate_left
     · intro w hSw
       conv in opOf _ _ => whnf
       (try dsimp only at hSw)
       go_simp
       try (with_reducible rfl)
     try simp only [Act.put,List.setIfInBounds_toArray,List.set_cons_zero,List.set_cons_succ])
    (refine held_take (v := ?_) (d := some 53) 5 (by kernel_rfl) (by kernel_rfl) rfl ?_ ?_
     rotate_left
     · intro w hSw
       conv in opOf _ _ => whnf
       (try dsimp only at hSw)
       go_simp
       try (with_reducible rfl)
     try simp only [Act.put,List.setIfInBounds_toArray,List.set_cons_zero,List.set_cons_succ])
    (refine held_take (v := ?_) (d := some 58) 10 (by kernel_rfl) (by kernel_rfl) rfl ?_ ?_
     rotate_left
     · intro w hSw
       conv in opOf _ _ => whnf
       (try dsimp only at hSw)
       go_simp
       try (with_reducible rfl)
     try simp only [Act.put,List.setIfInBounds_toArray,List.set_cons_zero,List.set_cons_succ])
    (refine held_take (v := ?_) (d := some 59) 11 (by kernel_rfl) (by kernel_rfl) rfl ?_ ?_
     rotate_left
     · intro w hSw
       conv in opOf _ _ => whnf
       (try dsimp only at hSw)
       go_simp
       try (with_reducible rfl)
     try simp only [Act.put,List.setIfInBounds_toArray,List.set_cons_zero,List.set_cons_succ])
    refine held_one 12 (by kernel_rfl) (by kernel_rfl) (held_mute (w' := ?_) (d := none) 12 (by kernel_rfl) (by kernel_rfl) rfl ?_ ?_)
    rotate_left 1
    · rintro ⟨⟨sz,s5⟩,s6⟩
      conv in opOf _ _ => whnf
      go_simp
      first | done | (with_reducible rfl)
    intro hS
    refine ⟨⟨⟨_,World.cell?_setCell_same' _ _ _ (by have hy' : W.cell? ⟨g,8 + a,none⟩ = some (.complex .f64 p q) := pz; simp [hy'])⟩,by simpa using hS.2⟩,?_⟩
    try simp only [Act.put,List.setIfInBounds_toArray,List.set_cons_zero,List.set_cons_succ]
    refine held_done (by kernel_rfl) (fun hS => hR.out _ _ ?_)
    exact hQ _ _ _ _ _ _ _ _ _ _ _ _
noncomputable def cxR9 : Array Oper := regOf Tryd.f62.body 9
set_option maxRecDepth 100000 in
set_option maxHeartbeats 16000000 in
theorem cx_r9 (g a : Nat) (p q  : Nat) (u1 u2 u3 u5 u6 u7 u8 u9 Ua Ul Uw UH US U3 U6 U7 U8 U9 Ya Yb Yc Yd Ye Yf Yg Yh Yi Yj Yk Yl Ym Yn Yo Yp Yq Yr Ys Yt Yu Yv Yw Yx Yy Yz YA YB YC YD YE YF YG YH YI YJ YK YL YM YN YO YP YQ YR YS YT YU YV YW YX YY YZ Y0 Y1 Y2 Y3 Y4 Y5 Y6 Y7 Y8 Y9 Za Zb Zc Zd Ze Zf Zg Zh Zi Zj Zk Zl Zm Zn Zo Zp Zq Zr Ub Uc Ud Ue Uf Ug Uh Ui Uj Uk Um Un Uo Up Uq Ur Us Ut Uu Uv Ux Uy Uz UA UB UC UD UE UF UG UI UJ UK UL UM UN UO UP UQ UR UT UU UV UW UX UY UZ U0 U1 U2 U4 U5 : Value) (W : World) (Q : Exit → Act → World → Prop) (ha : a < 4) (pz : W.cell? ⟨g,8 + a,none⟩ = some (.complex .f64 p q)) (fz : W.frozen? ⟨g,8 + a,none⟩ = false) 
    (hQ : ∀ (ZE ZF ZG ZH ZI ZJ ZK ZL ZM ZN ZO ZP : Value),Q .normal { tmps := #[.pointer (some ⟨g,0,none⟩),u1,u2,u3,.pointer (some ⟨g,8 + a,none⟩),u5,u6,u7,u8,u9,Ua,Ul,Uw,UH,US,U3,U6,U7,U8,U9,Ya,Yb,Yc,Yd,Ye,Yf,Yg,Yh,Yi,Yj,Yk,Yl,Ym,Yn,Yo,Yp,Yq,Yr,Ys,Yt,Yu,Yv,Yw,Yx,Yy,Yz,YA,YB,YC,YD,YE,YF,YG,YH,YI,YJ,YK,YL,YM,YN,YO,YP,ZE,ZF,ZG,ZH,ZI,ZJ,ZK,ZL,ZM,ZN,ZO,ZP,Y2,Y3,Y4,Y5,Y6,Y7,Y8,Y9,Za,Zb,Zc,Zd,Ze,Zf,Zg,Zh,Zi,Zj,Zk,Zl,Zm,Zn,Zo,Zp,Zq,Zr,Ub,Uc,Ud,Ue,Uf,Ug,Uh,Ui,Uj,Uk,Um,Un,Uo,Up,Uq,Ur,Us,Ut,Uu,Uv,Ux,Uy,Uz,UA,UB,UC,UD,UE,UF,UG,UI,UJ,UK,UL,UM,UN,UO,UP,UQ,UR,UT,UU,UV,UW,UX,UY,UZ,U0,U1,U2,U4,U5],defers := [] } ((W.drewN 1).setCell ⟨g,8 + a,none⟩ (.complex .f64 p (Op.negFloat .f64 q)))) :
    (Code.region 9 cxR9 true).wp Tryd.prog Q { tmps := #[.pointer (some ⟨g,0,none⟩),u1,u2,u3,.pointer (some ⟨g,8 + a,none⟩),u5,u6,u7,u8,u9,Ua,Ul,Uw,UH,US,U3,U6,U7,U8,U9,Ya,Yb,Yc,Yd,Ye,Yf,Yg,Yh,Yi,Yj,Yk,Yl,Ym,Yn,Yo,Yp,Yq,Yr,Ys,Yt,Yu,Yv,Yw,Yx,Yy,Yz,YA,YB,YC,YD,YE,YF,YG,YH,YI,YJ,YK,YL,YM,YN,YO,YP,YQ,YR,YS,YT,YU,YV,YW,YX,YY,YZ,Y0,Y1,Y2,Y3,Y4,Y5,Y6,Y7,Y8,Y9,Za,Zb,Zc,Zd,Ze,Zf,Zg,Zh,Zi,Zj,Zk,Zl,Zm,Zn,Zo,Zp,Zq,Zr,Ub,Uc,Ud,Ue,Uf,Ug,Uh,Ui,Uj,Uk,Um,Un,Uo,Up,Uq,Ur,Us,Ut,Uu,Uv,Ux,Uy,Uz,UA,UB,UC,UD,UE,UF,UG,UI,UJ,UK,UL,UM,UN,UO,UP,UQ,UR,UT,UU,UV,UW,UX,UY,UZ,U0,U1,U2,U4,U5],defers := [] } W := by
  refine held_start (ops' := cxR9) (l0 := #[false,false,false,false,false,false,false,false,false,false,false,false,false]) (S := fun w' => (∃ z,w'.cell? ⟨g,8 + a,none⟩ = some z) ∧ w'.frozen? ⟨g,8 + a,none⟩ = false) (by kernel_rfl) (by kernel_rfl) (by kernel_rfl) (by kernel_rfl) ⟨⟨_,pz⟩,fz⟩ (fun R hR => ?_)
  (refine held_take (v := ?_) (d := some 62) 0 (by kernel_rfl) (by kernel_rfl) rfl ?_ ?_
   rotate_left
   · intro w hSw
     conv in opOf _ _ => whnf
     (try dsimp only at hSw)
     go_simp
     try (with_reducible rfl)
   try simp only [Act.put,List.setIfInBounds_toArray,List.set_cons_zero,List.set_cons_succ])
  (refine held_take (v := ?_) (d := some 63) 1 (by kernel_rfl) (by kernel_rfl) rfl ?_ ?_
   rotate_left
   · intro w hSw
     conv in opOf _ _ => whnf
     (try dsimp only at hSw)
     go_simp
     try (with_reducible rfl)
   try simp only [Act.put,List.setIfInBounds_toArray,List.set_cons_zero,List.set_cons_succ])
  (refine held_take (v := ?_) (d := some 67) 5 (by kernel_rfl) (by kernel_rfl) rfl ?_ ?_
   rotate_left
   · intro w hSw
     conv in opOf _ _ => whnf
     (try dsimp only at hSw)
     go_simp
     try (with_reducible rfl)
   try simp only [Act.put,List.setIfInBounds_toArray,List.set_cons_zero,List.set_cons_succ])
  (refine held_take (v := ?_) (d := some 64) 2 (by kernel_rfl) (by kernel_rfl) rfl ?_ ?_
   rotate_left
   · intro w hSw
     conv in opOf _ _ => whnf
     (try dsimp only at hSw)
     go_simp
     try (with_reducible rfl)
   try simp only [Act.put,List.setIfInBounds_toArray,List.set_cons_zero,List.set_cons_succ])
  (refine held_take (v := ?_) (d := some 68) 6 (by kernel_rfl) (by kernel_rfl) rfl ?_ ?_
   rotate_left
   · intro w hSw
     conv in opOf _ _ => whnf
     (try dsimp only at hSw)
     go_simp
     try (with_reducible rfl)
   try simp only [Act.put,List.setIfInBounds_toArray,List.set_cons_zero,List.set_cons_succ])
  refine held_many [3,7] (by kernel_rfl) (by simp) (by intro i hi; simp only [List.mem_cons,List.not_mem_nil,or_false] at hi; rcases hi with rfl | rfl <;> kernel_rfl) (fun i hi => ?_)
  simp only [List.mem_cons,List.not_mem_nil,or_false] at hi
  rcases hi with rfl | rfl
  · skip
    (refine held_run (v := ?_) (w' := ?_) (d := some 65) 3 (by kernel_rfl) (by kernel_rfl) rfl ?_ ?_
     rotate_left 2
     · rintro ⟨s1,s2⟩
       conv in opOf _ _ => whnf
       go_simp
       first | done | (with_reducible rfl) | (constructor <;> with_reducible rfl)
     intro hS
     refine ⟨hS,?_⟩
     try simp only [Act.put,List.setIfInBounds_toArray,List.set_cons_zero,List.set_cons_succ])
    (refine held_take (v := ?_) (d := some 66) 4 (by kernel_rfl) (by kernel_rfl) rfl ?_ ?_
     rotate_left
     · intro w hSw
       conv in opOf _ _ => whnf
       (try dsimp only at hSw)
       go_simp
       try (with_reducible rfl)
     try simp only [Act.put,List.setIfInBounds_toArray,List.set_cons_zero,List.set_cons_succ])
    refine held_one 7 (by kernel_rfl) (by kernel_rfl) ?_
    (refine held_run (v := ?_) (w' := ?_) (d := some 69) 7 (by kernel_rfl) (by kernel_rfl) rfl ?_ ?_
     rotate_left 2
     · rintro ⟨s1,s2⟩
       conv in opOf _ _ => whnf
       go_simp
       first | done | (with_reducible rfl) | (constructor <;> with_reducible rfl)
     intro hS
     refine ⟨hS,?_⟩
     try simp only [Act.put,List.setIfInBounds_toArray,List.set_cons_zero,List.set_cons_succ])
    (refine held_take (v := ?_) (d := some 70) 8 (by kernel_rfl) (by kernel_rfl) rfl ?_ ?_
     rotate_left
     · intro w hSw
       conv in opOf _ _ => whnf
       (try dsimp only at hSw)
       go_simp
       try (with_reducible rfl)
     try simp only [Act.put,List.setIfInBounds_toArray,List.set_cons_zero,List.set_cons_succ])
    (refine held_take (v := ?_) (d := some 71) 9 (by kernel_rfl) (by kernel_rfl) rfl ?_ ?_
     rotate_left
     · intro w hSw
       conv in opOf _ _ => whnf
       (try dsimp only at hSw)
       go_simp
       try (with_reducible rfl)
     try simp only [Act.put,List.setIfInBounds_toArray,List.set_cons_zero,List.set_cons_succ])
    (refine held_take (v := ?_) (d := some 72) 10 (by kernel_rfl) (by kernel_rfl) rfl ?_ ?_
     rotate_left
     · intro w hSw
       conv in opOf _ _ => whnf
       (try dsimp only at hSw)
       go_simp
       try (with_reducible rfl)
     try simp only [Act.put,List.setIfInBounds_toArray,List.set_cons_zero,List.set_cons_succ])
    (refine held_take (v := ?_) (d := some 73) 11 (by kernel_rfl) (by kernel_rfl) rfl ?_ ?_
     rotate_left
     · intro w hSw
       conv in opOf _ _ => whnf
       (try dsimp only at hSw)
       go_simp
       try (with_reducible rfl)
     try simp only [Act.put,List.setIfInBounds_toArray,List.set_cons_zero,List.set_cons_succ])
    refine held_one 12 (by kernel_rfl) (by kernel_rfl) (held_mute (w' := ?_) (d := none) 12 (by kernel_rfl) (by kernel_rfl) rfl ?_ ?_)
    rotate_left 1
    · rintro ⟨⟨sz,s5⟩,s6⟩
      conv in opOf _ _ => whnf
      go_simp
      first | done | (with_reducible rfl)
    intro hS
    refine ⟨⟨⟨_,World.cell?_setCell_same' _ _ _ (by have hy' : W.cell? ⟨g,8 + a,none⟩ = some (.complex .f64 p q) := pz; simp [hy'])⟩,by simpa using hS.2⟩,?_⟩
    try simp only [Act.put,List.setIfInBounds_toArray,List.set_cons_zero,List.set_cons_succ]
    refine held_done (by kernel_rfl) (fun hS => hR.out _ _ ?_)
    exact hQ _ _ _ _ _ _ _ _ _ _ _ _
  · skip
    (refine held_run (v := ?_) (w' := ?_) (d := some 69) 7 (by kernel_rfl) (by kernel_rfl) rfl ?_ ?_
     rotate_left 2
     · rintro ⟨s1,s2⟩
       conv in opOf _ _ => whnf
       go_simp
       first | done | (with_reducible rfl) | (constructor <;> with_reducible rfl)
     intro hS
     refine ⟨hS,?_⟩
     try simp only [Act.put,List.setIfInBounds_toArray,List.set_cons_zero,List.set_cons_succ])
    (refine held_take (v := ?_) (d := some 70) 8 (by kernel_rfl) (by kernel_rfl) rfl ?_ ?_
     rotate_left
     · intro w hSw
       conv in opOf _ _ => whnf
       (try dsimp only at hSw)
       go_simp
       try (with_reducible rfl)
     try simp only [Act.put,List.setIfInBounds_toArray,List.set_cons_zero,List.set_cons_succ])
    (refine held_take (v := ?_) (d := some 71) 9 (by kernel_rfl) (by kernel_rfl) rfl ?_ ?_
     rotate_left
     · intro w hSw
       conv in opOf _ _ => whnf
       (try dsimp only at hSw)
       go_simp
       try (with_reducible rfl)
     try simp only [Act.put,List.setIfInBounds_toArray,List.set_cons_zero,List.set_cons_succ])
    refine held_one 3 (by kernel_rfl) (by kernel_rfl) ?_
    (refine held_run (v := ?_) (w' := ?_) (d := some 65) 3 (by kernel_rfl) (by kernel_rfl) rfl ?_ ?_
     rotate_left 2
     · rintro ⟨s1,s2⟩
       conv in opOf _ _ => whnf
       go_simp
       first | done | (with_reducible rfl) | (constructor <;> with_reducible rfl)
     intro hS
     refine ⟨hS,?_⟩
     try simp only [Act.put,List.setIfInBounds_toArray,List.set_cons_zero,List.set_cons_succ])
    (refine held_take (v := ?_) (d := some 66) 4 (by kernel_rfl) (by kernel_rfl) rfl ?_ ?_
     rotate_left
     · intro w hSw
       conv in opOf _ _ => whnf
       (try dsimp only at hSw)
       go_simp
       try (with_reducible rfl)
     try simp only [Act.put,List.setIfInBounds_toArray,List.set_cons_zero,List.set_cons_succ])
    (refine held_take (v := ?_) (d := some 72) 10 (by kernel_rfl) (by kernel_rfl) rfl ?_ ?_
     rotate_left
     · intro w hSw
       conv in opOf _ _ => whnf
       (try dsimp only at hSw)
       go_simp
       try (with_reducible rfl)
     try simp only [Act.put,List.setIfInBounds_toArray,List.set_cons_zero,List.set_cons_succ])
    (refine held_take (v := ?_) (d := some 73) 11 (by kernel_rfl) (by kernel_rfl) rfl ?_ ?_
     rotate_left
     · intro w hSw
       conv in opOf _ _ => whnf
       (try dsimp only at hSw)
       go_simp
       try (with_reducible rfl)
     try simp only [Act.put,List.setIfInBounds_toArray,List.set_cons_zero,List.set_cons_succ])
    refine held_one 12 (by kernel_rfl) (by kernel_rfl) (held_mute (w' := ?_) (d := none) 12 (by kernel_rfl) (by kernel_rfl) rfl ?_ ?_)
    rotate_left 1
    · rintro ⟨⟨sz,s5⟩,s6⟩
      conv in opOf _ _ => whnf
      go_simp
      first | done | (with_reducible rfl)
    intro hS
    refine ⟨⟨⟨_,World.cell?_setCell_same' _ _ _ (by have hy' : W.cell? ⟨g,8 + a,none⟩ = some (.complex .f64 p q) := pz; simp [hy'])⟩,by simpa using hS.2⟩,?_⟩
    try simp only [Act.put,List.setIfInBounds_toArray,List.set_cons_zero,List.set_cons_succ]
    refine held_done (by kernel_rfl) (fun hS => hR.out _ _ ?_)
    exact hQ _ _ _ _ _ _ _ _ _ _ _ _
end Go.Proofs.YthcjnkakfpmpbaaDoor
namespace Go.Proofs.YthcjnkakfpmpbaaDoor
open Go.RowKit
set_option linter.unusedVariables false
set_option linter.unusedSimpArgs false
attribute [local go_sem] run_store_complex
set_option maxRecDepth 20000 in
set_option maxHeartbeats 4000000 in
theorem cx_zturn (op n f : Int) (a b : Nat) (p q s t : Nat)  (w : World) (g : Nat) (cells : List Value) (hT : TabIs 0 w) (htg : 0 ≠ g) (hB : Blk w g 119 cells) (ha : a < 4) (hb : b < 4) (hz : cells[8 + a]? = some (.complex .f64 p q)) (hz2 : cells[8 + b]? = some (.complex .f64 s t))  (hnm : opName op = [122,116,117,114,110]) :
    Calls Tryd.prog 62 #[.pointer (some ⟨g,0,none⟩),.agg #[.int .i64 op,.int .i64 a,.int .i64 b,.int .i32 n,.int .i64 f]] w fun e w' => e = .returned (.tuple #[]) ∧ CW w g (cells.set (8 + a) (.complex .f64 (Op.negFloat .f64 q) p)) w' := by
  have hg := hB.lt
  have Hn := Lib.hid (fun w hT => hnm ▸ cname_any op w hT)
  have HB := Lib.hid hB
  have hA : (a : Int) < 4 := by omega
  have Hz := Lib.hid hz
  have Hz2 := Lib.hid hz2
  have hBm : ((b : Int).tmod 4) = (b : Int) := by rw [Int.tmod_eq_emod_of_nonneg (by omega)]; omega
  have hBb : (b : Int) < 4 := by omega
  clear hB hz hz2
  go_enter Tryd.func62,Tryd.ntmps62
  go_wp2_with fail
  go_quiet (fail)
  go_wp2_with (first
    | (go_at_call 82; refine (Hn.out _ ((hT.alloc _).drewN nq)).mono ?_; rintro e w2 ⟨rfl,hb2⟩)
    | fail)
  have hI2 : Blk w2 w.heap.size 25 [.int .i64 op,.int .i64 a,.int .i64 b,.int .i32 n,.int .i64 f] := ((Blk.new w 25 _).drewN nq).below hb2 (by simp)
  have hC2 := (((CW.start HB.out).alloc _).drewN nq).below hb2
  have i0 := hI2.cell 0
  have i2 := hI2.cell 2
  simp only [List.getElem?_cons_zero,List.getElem?_cons_succ] at i0 i2
  have c2 := (hC2.blk.cell (8 + b)).trans Hz2.out
  have hz2' := hC2.blk.lt
  go_quiet (fail)
  go_wp2_with (first
    | (go_at_call 82; refine (Hn.out _ ((hC2.tab hT htg).drewN _)).mono ?_; rintro e w3 ⟨rfl,hb3⟩)
    | fail)
  have hC3 := (hC2.drewN _).below hb3
  refine wp_region_swap (ops' := cxR7) (by kernel_rfl) (cx_r7 g a p q  _ _ _ _ _ _ _ _ _ _ _ _ _ _ _ _ _ _ _ _ _ _ _ _ _ _ _ _ _ _ _ _ _ _ _ _ _ _ _ _ _ _ _ _ _ _ _ _ _ _ _ _ _ _ _ _ _ _ _ _ _ _ _ _ _ _ _ _ _ _ _ _ _ _ _ _ _ _ _ _ _ _ _ _ _ _ _ _ _ _ _ _ _ _ _ _ _ _ _ _ _ _ _ _ _ _ _ _ _ _ _ _ _ _ _ _ _ _ _ _ _ _ _ _ _ _ _ _ _ _ _ _ _ _ _ _ _ _ _ _ _ _ _ _ _ _ _ _ _ _ _ _ ha ((hC3.blk.cell (8 + a)).trans Hz.out) (hC3.blk.free _)  ?_)
  intro Ua Ub Uc Ud Ue Uf Ug Uh Ui Uj Uk Ul
  go_wp2_with fail
  (try simp only [Exit.inBlock,Exit.then])
  first
    | (refine bodyPost_end (results_none rfl _ _ _) rfl ⟨rfl,?_⟩; exact (hC3.drewN 1).setReg _ _)
    | (refine bodyPost_ret (results_none rfl _ _ _) rfl ⟨rfl,?_⟩; exact (hC3.drewN 1).setReg _ _)
set_option maxRecDepth 20000 in
set_option maxHeartbeats 4000000 in
theorem cx_zconj (op n f : Int) (a b : Nat) (p q s t : Nat)  (w : World) (g : Nat) (cells : List Value) (hT : TabIs 0 w) (htg : 0 ≠ g) (hB : Blk w g 119 cells) (ha : a < 4) (hb : b < 4) (hz : cells[8 + a]? = some (.complex .f64 p q)) (hz2 : cells[8 + b]? = some (.complex .f64 s t))  (hnm : opName op = [122,99,111,110,106]) :
    Calls Tryd.prog 62 #[.pointer (some ⟨g,0,none⟩),.agg #[.int .i64 op,.int .i64 a,.int .i64 b,.int .i32 n,.int .i64 f]] w fun e w' => e = .returned (.tuple #[]) ∧ CW w g (cells.set (8 + a) (.complex .f64 p (Op.negFloat .f64 q))) w' := by
  have hg := hB.lt
  have Hn := Lib.hid (fun w hT => hnm ▸ cname_any op w hT)
  have HB := Lib.hid hB
  have hA : (a : Int) < 4 := by omega
  have Hz := Lib.hid hz
  have Hz2 := Lib.hid hz2
  have hBm : ((b : Int).tmod 4) = (b : Int) := by rw [Int.tmod_eq_emod_of_nonneg (by omega)]; omega
  have hBb : (b : Int) < 4 := by omega
  clear hB hz hz2
  go_enter Tryd.func62,Tryd.ntmps62
  go_wp2_with fail
  go_quiet (fail)
  go_wp2_with (first
    | (go_at_call 82; refine (Hn.out _ ((hT.alloc _).drewN nq)).mono ?_; rintro e w2 ⟨rfl,hb2⟩)
    | fail)
  have hI2 : Blk w2 w.heap.size 25 [.int .i64 op,.int .i64 a,.int .i64 b,.int .i32 n,.int .i64 f] := ((Blk.new w 25 _).drewN nq).below hb2 (by simp)
  have hC2 := (((CW.start HB.out).alloc _).drewN nq).below hb2
  have i0 := hI2.cell 0
  have i2 := hI2.cell 2
  simp only [List.getElem?_cons_zero,List.getElem?_cons_succ] at i0 i2
  have c2 := (hC2.blk.cell (8 + b)).trans Hz2.out
  have hz2' := hC2.blk.lt
  go_quiet (fail)
  go_wp2_with (first
    | (go_at_call 82; refine (Hn.out _ ((hC2.tab hT htg).drewN _)).mono ?_; rintro e w3 ⟨rfl,hb3⟩)
    | fail)
  have hC3 := (hC2.drewN _).below hb3
  refine wp_region_swap (ops' := cxR9) (by kernel_rfl) (cx_r9 g a p q  _ _ _ _ _ _ _ _ _ _ _ _ _ _ _ _ _ _ _ _ _ _ _ _ _ _ _ _ _ _ _ _ _ _ _ _ _ _ _ _ _ _ _ _ _ _ _ _ _ _ _ _ _ _ _ _ _ _ _ _ _ _ _ _ _ _ _ _ _ _ _ _ _ _ _ _ _ _ _ _ _ _ _ _ _ _ _ _ _ _ _ _ _ _ _ _ _ _ _ _ _ _ _ _ _ _ _ _ _ _ _ _ _ _ _ _ _ _ _ _ _ _ _ _ _ _ _ _ _ _ _ _ _ _ _ _ _ _ _ _ _ _ _ _ _ _ _ _ _ _ _ _ ha ((hC3.blk.cell (8 + a)).trans Hz.out) (hC3.blk.free _)  ?_)
  intro Um Un Uo Up Uq Ur Us Ut Uu Uv Uw Ux
  go_wp2_with fail
  (try simp only [Exit.inBlock,Exit.then])
  first
    | (refine bodyPost_end (results_none rfl _ _ _) rfl ⟨rfl,?_⟩; exact (hC3.drewN 1).setReg _ _)
    | (refine bodyPost_ret (results_none rfl _ _ _) rfl ⟨rfl,?_⟩; exact (hC3.drewN 1).setReg _ _)
set_option maxRecDepth 20000 in
set_option maxHeartbeats 4000000 in
theorem cx_zmov (op n f : Int) (a b : Nat) (p q s t : Nat) (w : World) (g : Nat) (cells : List Value) (hT : TabIs 0 w) (htg : 0 ≠ g) (hB : Blk w g 119 cells) (ha : a < 4) (hb : b < 4) (hz : cells[8 + a]? = some (.complex .f64 p q)) (hz2 : cells[8 + b]? = some (.complex .f64 s t)) (hnm : opName op = [122,109,111,118]) :
    Calls Tryd.prog 62 #[.pointer (some ⟨g,0,none⟩),.agg #[.int .i64 op,.int .i64 a,.int .i64 b,.int .i32 n,.int .i64 f]] w fun e w' => e = .returned (.tuple #[]) ∧ CW w g (cells.set (8 + a) (.complex .f64 s t)) w' := by
  have hg := hB.lt
  have Hn := Lib.hid (fun w hT => hnm ▸ cname_any op w hT)
  have HB := Lib.hid hB
  have hA : (a : Int) < 4 := by omega
  have Hz := Lib.hid hz
  have Hz2 := Lib.hid hz2
  have hBm : ((b : Int).tmod 4) = (b : Int) := by rw [Int.tmod_eq_emod_of_nonneg (by omega)]; omega
  have hBb : (b : Int) < 4 := by omega
  clear hB hz hz2
  go_enter Tryd.func62,Tryd.ntmps62
  go_wp2_with fail
  go_quiet (fail)
  go_wp2_with (first
    | (go_at_call 82; refine (Hn.out _ ((hT.alloc _).drewN nq)).mono ?_; rintro e w2 ⟨rfl,hb2⟩)
    | fail)
  have hI2 : Blk w2 w.heap.size 25 [.int .i64 op,.int .i64 a,.int .i64 b,.int .i32 n,.int .i64 f] := ((Blk.new w 25 _).drewN nq).below hb2 (by simp)
  have hC2 := (((CW.start HB.out).alloc _).drewN nq).below hb2
  have i0 := hI2.cell 0
  have i2 := hI2.cell 2
  simp only [List.getElem?_cons_zero,List.getElem?_cons_succ] at i0 i2
  have c2 := (hC2.blk.cell (8 + b)).trans Hz2.out
  have hz2' := hC2.blk.lt
  go_quiet (fail)
  go_wp2_with (first
    | (go_at_call 82; refine (Hn.out _ ((hC2.tab hT htg).drewN _)).mono ?_; rintro e w3 ⟨rfl,hb3⟩; have hC3 := (hC2.drewN _).below hb3; have q3 := (hC3.blk.cell (8 + a)).trans Hz.out; have f3 := hC3.blk.free (8 + a))
    | fail)
  (try simp only [Exit.inBlock,Exit.then])
  first
    | (refine bodyPost_end (results_none rfl _ _ _) rfl ⟨rfl,?_⟩; exact hC3.setReg _ _)
    | (refine bodyPost_ret (results_none rfl _ _ _) rfl ⟨rfl,?_⟩; exact hC3.setReg _ _)
end Go.Proofs.YthcjnkakfpmpbaaDoor
