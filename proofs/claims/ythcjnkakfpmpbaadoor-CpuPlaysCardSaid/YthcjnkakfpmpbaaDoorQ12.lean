import Derived.Test.YthcjnkakfpmpbaaDoorQ7
import Derived.Test.YthcjnkakfpmpbaaDoorQ5
import Derived.Test.YthcjnkakfpmpbaaDoorQ4
import Derived.Deep.QuietTactic
namespace Go.Proofs.YthcjnkakfpmpbaaDoor
open Go.RowKit
set_option linter.unusedVariables false
set_option linter.unusedSimpArgs false
theorem run_neg_float' {P : Program} (w : World) (k : FloatKind) (b : Nat) : (Op.unary UnOp.neg (.float k b)).run P w = .ok (.float k (Op.negFloat k b)) w := rfl
attribute [local go_sem] run_store_complex run_neg_float'
noncomputable def rzR3 : Array Oper := regOf Tryd.f69.body 3
set_option maxRecDepth 100000 in
set_option maxHeartbeats 2000000 in
theorem rz_r3 (g I a : Nat) (p q : Nat) (u1 u2 u3 u4 u6 u7 u8 u9 Ua Ul Uw UH US U3 Ye Yp YA YL YW Y7 Zi Zt ZE ZP Z0 Jb Jj Jk Jl Jm Jn Jo Jp Jq Jr Js Jt Ju Jv Jw Jx Jy Jz JA JB JC JD JE JF JG JH JI JJ JK JL JM JN JO JP JQ JR JS JT JU JV JW JX JY JZ J0 J1 J2 J3 J4 J5 J6 J7 J8 J9 Xa Xb Xc Xd Xe Xf Xg Xh Xi Xj Xk Xl Xm Xn Xo Xp Xq Xr Xs Ub Uc Ud Ue Uf Ug Uh Ui Uj Uk Um Un Uo Up Uq Ur Us Ut Uu Uv Ux Uy Uz UA UB UC UD UE UF UG UI UJ UK UL UM UN UO UP UQ UR UT UU UV UW UX UY UZ U0 U1 U2 U4 U5 U6 U7 U8 U9 Ya Yb Yc Yd Yf Yg Yh Yi Yj Yk Yl Ym Yn Yo Yq Yr Ys Yt Yu Yv Yw Yx Yy Yz YB YC YD YE YF YG YH YI YJ YK YM YN YO YP YQ YR YS YT YU YV YX YY YZ Y0 Y1 Y2 Y3 Y4 Y5 Y6 Y8 Y9 Za Zb Zc Zd Ze Zf Zg Zh Zj Zk Zl Zm Zn Zo Zp Zq Zr Zs Zu Zv Zw Zx Zy Zz ZA ZB ZC ZD ZF ZG ZH ZI ZJ ZK ZL ZM ZN ZO ZQ ZR ZS ZT ZU ZV ZW ZX ZY ZZ Z1 Z2 Z3 Z4 Z5 Z6 Z7 Z8 Z9 Ja Jc Jd Je Jf Jg Jh Ji : Value) (W : World) (Q : Exit → Act → World → Prop) (ha : a < 4) (p1 : W.cell? ⟨I,1,none⟩ = some (.int .i64 a)) (pz : W.cell? ⟨g,8 + a,none⟩ = some (.complex .f64 p q)) (fz : W.frozen? ⟨g,8 + a,none⟩ = false)
    (hQ : ∀ (Vx Vy Vz VA VF VO VZ Ka Kb Kc Ke Kl Km Kn Ko Kp Kq Kr Ks Kt Ku Kv Kw Kx : Value) (k : Nat),Q .normal { tmps := #[.pointer (some ⟨g,0,none⟩),u1,u2,u3,u4,.pointer (some ⟨I,0,none⟩),u6,u7,u8,u9,Ua,Ul,Uw,UH,US,U3,Ye,Vx,Vy,Vz,VA,VF,VO,VZ,Ka,Kb,Kc,Ke,Kl,Km,Kn,Ko,Kp,Kq,Kr,Ks,Kt,Ku,Kv,Kw,Kx,Jw,Jx,Jy,Jz,JA,JB,JC,JD,JE,JF,JG,JH,JI,JJ,JK,JL,JM,JN,JO,JP,JQ,JR,JS,JT,JU,JV,JW,JX,JY,JZ,J0,J1,J2,J3,J4,J5,J6,J7,J8,J9,Xa,Xb,Xc,Xd,Xe,Xf,Xg,Xh,Xi,Xj,Xk,Xl,Xm,Xn,Xo,Xp,Xq,Xr,Xs,Ub,Uc,Ud,Ue,Uf,Ug,Uh,Ui,Uj,Uk,Um,Un,Uo,Up,Uq,Ur,Us,Ut,Uu,Uv,Ux,Uy,Uz,UA,UB,UC,UD,UE,UF,UG,UI,UJ,UK,UL,UM,UN,UO,UP,UQ,UR,UT,UU,UV,UW,UX,UY,UZ,U0,U1,U2,U4,U5,U6,U7,U8,U9,Ya,Yb,Yc,Yd,Yf,Yg,Yh,Yi,Yj,Yk,Yl,Ym,Yn,Yo,Yq,Yr,Ys,Yt,Yu,Yv,Yw,Yx,Yy,Yz,YB,YC,YD,YE,YF,YG,YH,YI,YJ,YK,YM,YN,YO,YP,YQ,YR,YS,YT,YU,YV,YX,YY,YZ,Y0,Y1,Y2,Y3,Y4,Y5,Y6,Y8,Y9,Za,Zb,Zc,Zd,Ze,Zf,Zg,Zh,Zj,Zk,Zl,Zm,Zn,Zo,Zp,Zq,Zr,Zs,Zu,Zv,Zw,Zx,Zy,Zz,ZA,ZB,ZC,ZD,ZF,ZG,ZH,ZI,ZJ,ZK,ZL,ZM,ZN,ZO,ZQ,ZR,ZS,ZT,ZU,ZV,ZW,ZX,ZY,ZZ,Z1,Z2,Z3,Z4,Z5,Z6,Z7,Z8,Z9,Ja,Jc,Jd,Je,Jf,Jg,Jh,Ji],defers := [] } ((W.drewN k).setCell ⟨g,8 + a,none⟩ (.complex .f64 (Op.negFloat .f64 q) p))) :
    (Code.region 3 rzR3 true).wp Tryd.prog Q { tmps := #[.pointer (some ⟨g,0,none⟩),u1,u2,u3,u4,.pointer (some ⟨I,0,none⟩),u6,u7,u8,u9,Ua,Ul,Uw,UH,US,U3,Ye,Yp,YA,YL,YW,Y7,Zi,Zt,ZE,ZP,Z0,Jb,Jj,Jk,Jl,Jm,Jn,Jo,Jp,Jq,Jr,Js,Jt,Ju,Jv,Jw,Jx,Jy,Jz,JA,JB,JC,JD,JE,JF,JG,JH,JI,JJ,JK,JL,JM,JN,JO,JP,JQ,JR,JS,JT,JU,JV,JW,JX,JY,JZ,J0,J1,J2,J3,J4,J5,J6,J7,J8,J9,Xa,Xb,Xc,Xd,Xe,Xf,Xg,Xh,Xi,Xj,Xk,Xl,Xm,Xn,Xo,Xp,Xq,Xr,Xs,Ub,Uc,Ud,Ue,Uf,Ug,Uh,Ui,Uj,Uk,Um,Un,Uo,Up,Uq,Ur,Us,Ut,Uu,Uv,Ux,Uy,Uz,UA,UB,UC,UD,UE,UF,UG,UI,UJ,UK,UL,UM,UN,UO,UP,UQ,UR,UT,UU,UV,UW,UX,UY,UZ,U0,U1,U2,U4,U5,U6,U7,U8,U9,Ya,Yb,Yc,Yd,Yf,Yg,Yh,Yi,Yj,Yk,Yl,Ym,Yn,Yo,Yq,Yr,Ys,Yt,Yu,Yv,Yw,Yx,Yy,Yz,YB,YC,YD,YE,YF,YG,YH,YI,YJ,YK,YM,YN,YO,YP,YQ,YR,YS,YT,YU,YV,YX,YY,YZ,Y0,Y1,Y2,Y3,Y4,Y5,Y6,Y8,Y9,Za,Zb,Zc,Zd,Ze,Zf,Zg,Zh,Zj,Zk,Zl,Zm,Zn,Zo,Zp,Zq,Zr,Zs,Zu,Zv,Zw,Zx,Zy,Zz,ZA,ZB,ZC,ZD,ZF,ZG,ZH,ZI,ZJ,ZK,ZL,ZM,ZN,ZO,ZQ,ZR,ZS,ZT,ZU,ZV,ZW,ZX,ZY,ZZ,Z1,Z2,Z3,Z4,Z5,Z6,Z7,Z8,Z9,Ja,Jc,Jd,Je,Jf,Jg,Jh,Ji],defers := [] } W := by
  have hA : (a : Int) < 4 := by omega
  have p1 : ∀ k,(W.drewN k).cell? ⟨I,1,none⟩ = some (.int .i64 a) := fun _ => p1
  have pz : ∀ k,(W.drewN k).cell? ⟨g,8 + a,none⟩ = some (.complex .f64 p q) := fun _ => pz
  have fz : ∀ k,(W.drewN k).frozen? ⟨g,8 + a,none⟩ = false := fun _ => fz
  have hds : dstsOf rzR3 = [17,18,19,20,21,22,23,24,25,26,27,28,29,30,31,32,33,34,35,36,37,38,39,40] := by kernel_rfl
  refine wp_flow (by kernel_rfl) (lookupE [(17,fun zz => zz = .pointer (some ⟨g,0,none⟩)),(18,fun zz => zz = .pointer (some ⟨I,1,none⟩)),(19,fun zz => zz = .int .i64 a),(20,fun zz => zz = .pointer (some ⟨g,0,none⟩)),(21,fun zz => zz = .pointer (some ⟨I,1,none⟩)),(22,fun zz => zz = .int .i64 a),(23,fun zz => zz = .pointer (some ⟨g,0,none⟩)),(24,fun zz => zz = .pointer (some ⟨g,8,none⟩)),(25,fun zz => zz = .pointer (some ⟨g,8 + a,none⟩)),(26,fun zz => zz = .complex .f64 p q),(27,fun zz => zz = .float .f64 q),(28,fun zz => zz = .float .f64 (Op.negFloat .f64 q)),(29,fun zz => zz = .pointer (some ⟨g,0,none⟩)),(30,fun zz => zz = .pointer (some ⟨I,1,none⟩)),(31,fun zz => zz = .int .i64 a),(32,fun zz => zz = .pointer (some ⟨g,0,none⟩)),(33,fun zz => zz = .pointer (some ⟨g,8,none⟩)),(34,fun zz => zz = .pointer (some ⟨g,8 + a,none⟩)),(35,fun zz => zz = .complex .f64 p q),(36,fun zz => zz = .float .f64 p),(37,fun zz => zz = .complex .f64 (Op.negFloat .f64 q) p),(38,fun zz => zz = .pointer (some ⟨g,0,none⟩)),(39,fun zz => zz = .pointer (some ⟨g,8,none⟩)),(40,fun zz => zz = .pointer (some ⟨g,8 + a,none⟩))]) (fun w => ∃ k,w = (W.drewN k).setCell ⟨g,8 + a,none⟩ (.complex .f64 (Op.negFloat .f64 q) p)) 24 [17,18,19,20,21,22,23,24,25,26,27,28,29,30,31,32,33,34,35,36,37,38,39,40] hds (by kernel_rfl) (fun i hi act k hk => ?_) (fun act k hk => ?_) (fun xs w hw => ?_)
  · rcases (show i = 0 ∨ i = 1 ∨ i = 2 ∨ i = 3 ∨ i = 4 ∨ i = 5 ∨ i = 6 ∨ i = 7 ∨ i = 8 ∨ i = 9 ∨ i = 10 ∨ i = 11 ∨ i = 12 ∨ i = 13 ∨ i = 14 ∨ i = 15 ∨ i = 16 ∨ i = 17 ∨ i = 18 ∨ i = 19 ∨ i = 20 ∨ i = 21 ∨ i = 22 ∨ i = 23 by omega) with rfl | rfl | rfl | rfl | rfl | rfl | rfl | rfl | rfl | rfl | rfl | rfl | rfl | rfl | rfl | rfl | rfl | rfl | rfl | rfl | rfl | rfl | rfl | rfl
    · have e0 := hk.old_ 0 (.pointer (some ⟨g,0,none⟩)) (by rw [hds]; rfl) rfl
      exact FStep.at_ 17 (.pointer (some ⟨g,0,none⟩)) (by kernel_rfl) (by (conv in opOf _ _ => whnf); go_simp) ⟨k,rfl⟩ rfl
    · have e5 := hk.old_ 5 (.pointer (some ⟨I,0,none⟩)) (by rw [hds]; rfl) rfl
      exact FStep.at_ 18 (.pointer (some ⟨I,1,none⟩)) (by kernel_rfl) (by (conv in opOf _ _ => whnf); go_simp) ⟨k,rfl⟩ rfl
    · have e18 := hk.eq 1 18 (.pointer (some ⟨I,1,none⟩)) (by kernel_rfl) fun _ h => h
      exact FStep.at_ 19 (.int .i64 a) (by kernel_rfl) (by (conv in opOf _ _ => whnf); go_simp) ⟨k,rfl⟩ rfl
    · have e0 := hk.old_ 0 (.pointer (some ⟨g,0,none⟩)) (by rw [hds]; rfl) rfl
      exact FStep.at_ 20 (.pointer (some ⟨g,0,none⟩)) (by kernel_rfl) (by (conv in opOf _ _ => whnf); go_simp) ⟨k,rfl⟩ rfl
    · have e5 := hk.old_ 5 (.pointer (some ⟨I,0,none⟩)) (by rw [hds]; rfl) rfl
      exact FStep.at_ 21 (.pointer (some ⟨I,1,none⟩)) (by kernel_rfl) (by (conv in opOf _ _ => whnf); go_simp) ⟨k,rfl⟩ rfl
    · have e21 := hk.eq 4 21 (.pointer (some ⟨I,1,none⟩)) (by kernel_rfl) fun _ h => h
      exact FStep.at_ 22 (.int .i64 a) (by kernel_rfl) (by (conv in opOf _ _ => whnf); go_simp) ⟨k,rfl⟩ rfl
    · have e20 := hk.eq 3 20 (.pointer (some ⟨g,0,none⟩)) (by kernel_rfl) fun _ h => h
      exact FStep.at_ 23 (.pointer (some ⟨g,0,none⟩)) (by kernel_rfl) (by (conv in opOf _ _ => whnf); go_simp) ⟨k,rfl⟩ rfl
    · have e23 := hk.eq 6 23 (.pointer (some ⟨g,0,none⟩)) (by kernel_rfl) fun _ h => h
      exact FStep.at_ 24 (.pointer (some ⟨g,8,none⟩)) (by kernel_rfl) (by (conv in opOf _ _ => whnf); go_simp) ⟨k,rfl⟩ rfl
    · have e24 := hk.eq 7 24 (.pointer (some ⟨g,8,none⟩)) (by kernel_rfl) fun _ h => h
      have e22 := hk.eq 5 22 (.int .i64 a) (by kernel_rfl) fun _ h => h
      exact FStep.at_ 25 (.pointer (some ⟨g,8 + a,none⟩)) (by kernel_rfl) (by (conv in opOf _ _ => whnf); go_simp) ⟨k,rfl⟩ rfl
    · have e25 := hk.eq 8 25 (.pointer (some ⟨g,8 + a,none⟩)) (by kernel_rfl) fun _ h => h
      exact FStep.at_ 26 (.complex .f64 p q) (by kernel_rfl) (by (conv in opOf _ _ => whnf); go_simp) ⟨k,rfl⟩ rfl
    · have e26 := hk.eq 9 26 (.complex .f64 p q) (by kernel_rfl) fun _ h => h
      exact FStep.at_ 27 (.float .f64 q) (by kernel_rfl) (by (conv in opOf _ _ => whnf); go_simp) ⟨k,rfl⟩ rfl
    · have e27 := hk.eq 10 27 (.float .f64 q) (by kernel_rfl) fun _ h => h
      exact FStep.at_ 28 (.float .f64 (Op.negFloat .f64 q)) (by kernel_rfl) (by (conv in opOf _ _ => whnf); go_simp) ⟨k,rfl⟩ rfl
    · have e0 := hk.old_ 0 (.pointer (some ⟨g,0,none⟩)) (by rw [hds]; rfl) rfl
      exact FStep.at_ 29 (.pointer (some ⟨g,0,none⟩)) (by kernel_rfl) (by (conv in opOf _ _ => whnf); go_simp) ⟨k,rfl⟩ rfl
    · have e5 := hk.old_ 5 (.pointer (some ⟨I,0,none⟩)) (by rw [hds]; rfl) rfl
      exact FStep.at_ 30 (.pointer (some ⟨I,1,none⟩)) (by kernel_rfl) (by (conv in opOf _ _ => whnf); go_simp) ⟨k,rfl⟩ rfl
    · have e30 := hk.eq 13 30 (.pointer (some ⟨I,1,none⟩)) (by kernel_rfl) fun _ h => h
      exact FStep.at_ 31 (.int .i64 a) (by kernel_rfl) (by (conv in opOf _ _ => whnf); go_simp) ⟨k,rfl⟩ rfl
    · have e29 := hk.eq 12 29 (.pointer (some ⟨g,0,none⟩)) (by kernel_rfl) fun _ h => h
      exact FStep.at_ 32 (.pointer (some ⟨g,0,none⟩)) (by kernel_rfl) (by (conv in opOf _ _ => whnf); go_simp) ⟨k,rfl⟩ rfl
    · have e32 := hk.eq 15 32 (.pointer (some ⟨g,0,none⟩)) (by kernel_rfl) fun _ h => h
      exact FStep.at_ 33 (.pointer (some ⟨g,8,none⟩)) (by kernel_rfl) (by (conv in opOf _ _ => whnf); go_simp) ⟨k,rfl⟩ rfl
    · have e33 := hk.eq 16 33 (.pointer (some ⟨g,8,none⟩)) (by kernel_rfl) fun _ h => h
      have e31 := hk.eq 14 31 (.int .i64 a) (by kernel_rfl) fun _ h => h
      exact FStep.at_ 34 (.pointer (some ⟨g,8 + a,none⟩)) (by kernel_rfl) (by (conv in opOf _ _ => whnf); go_simp) ⟨k,rfl⟩ rfl
    · have e34 := hk.eq 17 34 (.pointer (some ⟨g,8 + a,none⟩)) (by kernel_rfl) fun _ h => h
      exact FStep.at_ 35 (.complex .f64 p q) (by kernel_rfl) (by (conv in opOf _ _ => whnf); go_simp) ⟨k,rfl⟩ rfl
    · have e35 := hk.eq 18 35 (.complex .f64 p q) (by kernel_rfl) fun _ h => h
      exact FStep.at_ 36 (.float .f64 p) (by kernel_rfl) (by (conv in opOf _ _ => whnf); go_simp) ⟨k,rfl⟩ rfl
    · have e28 := hk.eq 11 28 (.float .f64 (Op.negFloat .f64 q)) (by kernel_rfl) fun _ h => h
      have e36 := hk.eq 19 36 (.float .f64 p) (by kernel_rfl) fun _ h => h
      exact FStep.at_ 37 (.complex .f64 (Op.negFloat .f64 q) p) (by kernel_rfl) (by (conv in opOf _ _ => whnf); go_simp) ⟨k,rfl⟩ rfl
    · have e17 := hk.eq 0 17 (.pointer (some ⟨g,0,none⟩)) (by kernel_rfl) fun _ h => h
      exact FStep.at_ 38 (.pointer (some ⟨g,0,none⟩)) (by kernel_rfl) (by (conv in opOf _ _ => whnf); go_simp) ⟨k,rfl⟩ rfl
    · have e38 := hk.eq 21 38 (.pointer (some ⟨g,0,none⟩)) (by kernel_rfl) fun _ h => h
      exact FStep.at_ 39 (.pointer (some ⟨g,8,none⟩)) (by kernel_rfl) (by (conv in opOf _ _ => whnf); go_simp) ⟨k,rfl⟩ rfl
    · have e39 := hk.eq 22 39 (.pointer (some ⟨g,8,none⟩)) (by kernel_rfl) fun _ h => h
      have e19 := hk.eq 2 19 (.int .i64 a) (by kernel_rfl) fun _ h => h
      exact FStep.at_ 40 (.pointer (some ⟨g,8 + a,none⟩)) (by kernel_rfl) (by (conv in opOf _ _ => whnf); go_simp) ⟨k,rfl⟩ rfl
  · have e40 := hk.eq 23 40 (.pointer (some ⟨g,8 + a,none⟩)) (by kernel_rfl) fun _ h => h
    have e37 := hk.eq 20 37 (.complex .f64 (Op.negFloat .f64 q) p) (by kernel_rfl) fun _ h => h
    exact FStep.st_ (w' := (W.drewN k).setCell ⟨g,8 + a,none⟩ (.complex .f64 (Op.negFloat .f64 q) p)) (by kernel_rfl) (by (conv in opOf _ _ => whnf); go_simp) ⟨k,rfl⟩
  · obtain ⟨k,rfl⟩ := hw
    simp only [List.foldl_cons,List.foldl_nil,List.setIfInBounds_toArray,List.set_cons_zero,List.set_cons_succ]
    exact hQ _ _ _ _ _ _ _ _ _ _ _ _ _ _ _ _ _ _ _ _ _ _ _ _ k
noncomputable def rzR5 : Array Oper := regOf Tryd.f69.body 5
set_option maxRecDepth 100000 in
set_option maxHeartbeats 2000000 in
theorem rz_r5 (g I a : Nat) (p q : Nat) (u1 u2 u3 u4 u6 u7 u8 u9 Ua Ul Uw UH US U3 Ye Yp YA YL YW Y7 Zi Zt ZE ZP Z0 Jb Jj Jk Jl Jm Jn Jo Jp Jq Jr Js Jt Ju Jv Jw Jx Jy Jz JA JB JC JD JE JF JG JH JI JJ JK JL JM JN JO JP JQ JR JS JT JU JV JW JX JY JZ J0 J1 J2 J3 J4 J5 J6 J7 J8 J9 Xa Xb Xc Xd Xe Xf Xg Xh Xi Xj Xk Xl Xm Xn Xo Xp Xq Xr Xs Ub Uc Ud Ue Uf Ug Uh Ui Uj Uk Um Un Uo Up Uq Ur Us Ut Uu Uv Ux Uy Uz UA UB UC UD UE UF UG UI UJ UK UL UM UN UO UP UQ UR UT UU UV UW UX UY UZ U0 U1 U2 U4 U5 U6 U7 U8 U9 Ya Yb Yc Yd Yf Yg Yh Yi Yj Yk Yl Ym Yn Yo Yq Yr Ys Yt Yu Yv Yw Yx Yy Yz YB YC YD YE YF YG YH YI YJ YK YM YN YO YP YQ YR YS YT YU YV YX YY YZ Y0 Y1 Y2 Y3 Y4 Y5 Y6 Y8 Y9 Za Zb Zc Zd Ze Zf Zg Zh Zj Zk Zl Zm Zn Zo Zp Zq Zr Zs Zu Zv Zw Zx Zy Zz ZA ZB ZC ZD ZF ZG ZH ZI ZJ ZK ZL ZM ZN ZO ZQ ZR ZS ZT ZU ZV ZW ZX ZY ZZ Z1 Z2 Z3 Z4 Z5 Z6 Z7 Z8 Z9 Ja Jc Jd Je Jf Jg Jh Ji : Value) (W : World) (Q : Exit → Act → World → Prop) (ha : a < 4) (p1 : W.cell? ⟨I,1,none⟩ = some (.int .i64 a)) (pz : W.cell? ⟨g,8 + a,none⟩ = some (.complex .f64 p q)) (fz : W.frozen? ⟨g,8 + a,none⟩ = false)
    (hQ : ∀ (Ky Kz KA KB KC KD KE KF KG KH KI KJ KK KL KM KN KO KP KQ KR KS KT KU KV : Value) (k : Nat),Q .normal { tmps := #[.pointer (some ⟨g,0,none⟩),u1,u2,u3,u4,.pointer (some ⟨I,0,none⟩),u6,u7,u8,u9,Ua,Ul,Uw,UH,US,U3,Ye,Yp,YA,YL,YW,Y7,Zi,Zt,ZE,ZP,Z0,Jb,Jj,Jk,Jl,Jm,Jn,Jo,Jp,Jq,Jr,Js,Jt,Ju,Jv,Jw,Jx,Ky,Kz,KA,KB,KC,KD,KE,KF,KG,KH,KI,KJ,KK,KL,KM,KN,KO,KP,KQ,KR,KS,KT,KU,KV,JW,JX,JY,JZ,J0,J1,J2,J3,J4,J5,J6,J7,J8,J9,Xa,Xb,Xc,Xd,Xe,Xf,Xg,Xh,Xi,Xj,Xk,Xl,Xm,Xn,Xo,Xp,Xq,Xr,Xs,Ub,Uc,Ud,Ue,Uf,Ug,Uh,Ui,Uj,Uk,Um,Un,Uo,Up,Uq,Ur,Us,Ut,Uu,Uv,Ux,Uy,Uz,UA,UB,UC,UD,UE,UF,UG,UI,UJ,UK,UL,UM,UN,UO,UP,UQ,UR,UT,UU,UV,UW,UX,UY,UZ,U0,U1,U2,U4,U5,U6,U7,U8,U9,Ya,Yb,Yc,Yd,Yf,Yg,Yh,Yi,Yj,Yk,Yl,Ym,Yn,Yo,Yq,Yr,Ys,Yt,Yu,Yv,Yw,Yx,Yy,Yz,YB,YC,YD,YE,YF,YG,YH,YI,YJ,YK,YM,YN,YO,YP,YQ,YR,YS,YT,YU,YV,YX,YY,YZ,Y0,Y1,Y2,Y3,Y4,Y5,Y6,Y8,Y9,Za,Zb,Zc,Zd,Ze,Zf,Zg,Zh,Zj,Zk,Zl,Zm,Zn,Zo,Zp,Zq,Zr,Zs,Zu,Zv,Zw,Zx,Zy,Zz,ZA,ZB,ZC,ZD,ZF,ZG,ZH,ZI,ZJ,ZK,ZL,ZM,ZN,ZO,ZQ,ZR,ZS,ZT,ZU,ZV,ZW,ZX,ZY,ZZ,Z1,Z2,Z3,Z4,Z5,Z6,Z7,Z8,Z9,Ja,Jc,Jd,Je,Jf,Jg,Jh,Ji],defers := [] } ((W.drewN k).setCell ⟨g,8 + a,none⟩ (.complex .f64 p (Op.negFloat .f64 q)))) :
    (Code.region 5 rzR5 true).wp Tryd.prog Q { tmps := #[.pointer (some ⟨g,0,none⟩),u1,u2,u3,u4,.pointer (some ⟨I,0,none⟩),u6,u7,u8,u9,Ua,Ul,Uw,UH,US,U3,Ye,Yp,YA,YL,YW,Y7,Zi,Zt,ZE,ZP,Z0,Jb,Jj,Jk,Jl,Jm,Jn,Jo,Jp,Jq,Jr,Js,Jt,Ju,Jv,Jw,Jx,Jy,Jz,JA,JB,JC,JD,JE,JF,JG,JH,JI,JJ,JK,JL,JM,JN,JO,JP,JQ,JR,JS,JT,JU,JV,JW,JX,JY,JZ,J0,J1,J2,J3,J4,J5,J6,J7,J8,J9,Xa,Xb,Xc,Xd,Xe,Xf,Xg,Xh,Xi,Xj,Xk,Xl,Xm,Xn,Xo,Xp,Xq,Xr,Xs,Ub,Uc,Ud,Ue,Uf,Ug,Uh,Ui,Uj,Uk,Um,Un,Uo,Up,Uq,Ur,Us,Ut,Uu,Uv,Ux,Uy,Uz,UA,UB,UC,UD,UE,UF,UG,UI,UJ,UK,UL,UM,UN,UO,UP,UQ,UR,UT,UU,UV,UW,UX,UY,UZ,U0,U1,U2,U4,U5,U6,U7,U8,U9,Ya,Yb,Yc,Yd,Yf,Yg,Yh,Yi,Yj,Yk,Yl,Ym,Yn,Yo,Yq,Yr,Ys,Yt,Yu,Yv,Yw,Yx,Yy,Yz,YB,YC,YD,YE,YF,YG,YH,YI,YJ,YK,YM,YN,YO,YP,YQ,YR,YS,YT,YU,YV,YX,YY,YZ,Y0,Y1,Y2,Y3,Y4,Y5,Y6,Y8,Y9,Za,Zb,Zc,Zd,Ze,Zf,Zg,Zh,Zj,Zk,Zl,Zm,Zn,Zo,Zp,Zq,Zr,Zs,Zu,Zv,Zw,Zx,Zy,Zz,ZA,ZB,ZC,ZD,ZF,ZG,ZH,ZI,ZJ,ZK,ZL,ZM,ZN,ZO,ZQ,ZR,ZS,ZT,ZU,ZV,ZW,ZX,ZY,ZZ,Z1,Z2,Z3,Z4,Z5,Z6,Z7,Z8,Z9,Ja,Jc,Jd,Je,Jf,Jg,Jh,Ji],defers := [] } W := by
  have hA : (a : Int) < 4 := by omega
  have p1 : ∀ k,(W.drewN k).cell? ⟨I,1,none⟩ = some (.int .i64 a) := fun _ => p1
  have pz : ∀ k,(W.drewN k).cell? ⟨g,8 + a,none⟩ = some (.complex .f64 p q) := fun _ => pz
  have fz : ∀ k,(W.drewN k).frozen? ⟨g,8 + a,none⟩ = false := fun _ => fz
  have hds : dstsOf rzR5 = [43,44,45,46,47,48,49,50,51,52,53,54,55,56,57,58,59,60,61,62,63,64,65,66] := by kernel_rfl
  refine wp_flow (by kernel_rfl) (lookupE [(43,fun zz => zz = .pointer (some ⟨g,0,none⟩)),(44,fun zz => zz = .pointer (some ⟨I,1,none⟩)),(45,fun zz => zz = .int .i64 a),(46,fun zz => zz = .pointer (some ⟨g,0,none⟩)),(47,fun zz => zz = .pointer (some ⟨I,1,none⟩)),(48,fun zz => zz = .int .i64 a),(49,fun zz => zz = .pointer (some ⟨g,0,none⟩)),(50,fun zz => zz = .pointer (some ⟨g,8,none⟩)),(51,fun zz => zz = .pointer (some ⟨g,8 + a,none⟩)),(52,fun zz => zz = .complex .f64 p q),(53,fun zz => zz = .float .f64 p),(54,fun zz => zz = .pointer (some ⟨g,0,none⟩)),(55,fun zz => zz = .pointer (some ⟨I,1,none⟩)),(56,fun zz => zz = .int .i64 a),(57,fun zz => zz = .pointer (some ⟨g,0,none⟩)),(58,fun zz => zz = .pointer (some ⟨g,8,none⟩)),(59,fun zz => zz = .pointer (some ⟨g,8 + a,none⟩)),(60,fun zz => zz = .complex .f64 p q),(61,fun zz => zz = .float .f64 q),(62,fun zz => zz = .float .f64 (Op.negFloat .f64 q)),(63,fun zz => zz = .complex .f64 p (Op.negFloat .f64 q)),(64,fun zz => zz = .pointer (some ⟨g,0,none⟩)),(65,fun zz => zz = .pointer (some ⟨g,8,none⟩)),(66,fun zz => zz = .pointer (some ⟨g,8 + a,none⟩))]) (fun w => ∃ k,w = (W.drewN k).setCell ⟨g,8 + a,none⟩ (.complex .f64 p (Op.negFloat .f64 q))) 24 [43,44,45,46,47,48,49,50,51,52,53,54,55,56,57,58,59,60,61,62,63,64,65,66] hds (by kernel_rfl) (fun i hi act k hk => ?_) (fun act k hk => ?_) (fun xs w hw => ?_)
  · rcases (show i = 0 ∨ i = 1 ∨ i = 2 ∨ i = 3 ∨ i = 4 ∨ i = 5 ∨ i = 6 ∨ i = 7 ∨ i = 8 ∨ i = 9 ∨ i = 10 ∨ i = 11 ∨ i = 12 ∨ i = 13 ∨ i = 14 ∨ i = 15 ∨ i = 16 ∨ i = 17 ∨ i = 18 ∨ i = 19 ∨ i = 20 ∨ i = 21 ∨ i = 22 ∨ i = 23 by omega) with rfl | rfl | rfl | rfl | rfl | rfl | rfl | rfl | rfl | rfl | rfl | rfl | rfl | rfl | rfl | rfl | rfl | rfl | rfl | rfl | rfl | rfl | rfl | rfl
    · have e0 := hk.old_ 0 (.pointer (some ⟨g,0,none⟩)) (by rw [hds]; rfl) rfl
      exact FStep.at_ 43 (.pointer (some ⟨g,0,none⟩)) (by kernel_rfl) (by (conv in opOf _ _ => whnf); go_simp) ⟨k,rfl⟩ rfl
    · have e5 := hk.old_ 5 (.pointer (some ⟨I,0,none⟩)) (by rw [hds]; rfl) rfl
      exact FStep.at_ 44 (.pointer (some ⟨I,1,none⟩)) (by kernel_rfl) (by (conv in opOf _ _ => whnf); go_simp) ⟨k,rfl⟩ rfl
    · have e44 := hk.eq 1 44 (.pointer (some ⟨I,1,none⟩)) (by kernel_rfl) fun _ h => h
      exact FStep.at_ 45 (.int .i64 a) (by kernel_rfl) (by (conv in opOf _ _ => whnf); go_simp) ⟨k,rfl⟩ rfl
    · have e0 := hk.old_ 0 (.pointer (some ⟨g,0,none⟩)) (by rw [hds]; rfl) rfl
      exact FStep.at_ 46 (.pointer (some ⟨g,0,none⟩)) (by kernel_rfl) (by (conv in opOf _ _ => whnf); go_simp) ⟨k,rfl⟩ rfl
    · have e5 := hk.old_ 5 (.pointer (some ⟨I,0,none⟩)) (by rw [hds]; rfl) rfl
      exact FStep.at_ 47 (.pointer (some ⟨I,1,none⟩)) (by kernel_rfl) (by (conv in opOf _ _ => whnf); go_simp) ⟨k,rfl⟩ rfl
    · have e47 := hk.eq 4 47 (.pointer (some ⟨I,1,none⟩)) (by kernel_rfl) fun _ h => h
      exact FStep.at_ 48 (.int .i64 a) (by kernel_rfl) (by (conv in opOf _ _ => whnf); go_simp) ⟨k,rfl⟩ rfl
    · have e46 := hk.eq 3 46 (.pointer (some ⟨g,0,none⟩)) (by kernel_rfl) fun _ h => h
      exact FStep.at_ 49 (.pointer (some ⟨g,0,none⟩)) (by kernel_rfl) (by (conv in opOf _ _ => whnf); go_simp) ⟨k,rfl⟩ rfl
    · have e49 := hk.eq 6 49 (.pointer (some ⟨g,0,none⟩)) (by kernel_rfl) fun _ h => h
      exact FStep.at_ 50 (.pointer (some ⟨g,8,none⟩)) (by kernel_rfl) (by (conv in opOf _ _ => whnf); go_simp) ⟨k,rfl⟩ rfl
    · have e50 := hk.eq 7 50 (.pointer (some ⟨g,8,none⟩)) (by kernel_rfl) fun _ h => h
      have e48 := hk.eq 5 48 (.int .i64 a) (by kernel_rfl) fun _ h => h
      exact FStep.at_ 51 (.pointer (some ⟨g,8 + a,none⟩)) (by kernel_rfl) (by (conv in opOf _ _ => whnf); go_simp) ⟨k,rfl⟩ rfl
    · have e51 := hk.eq 8 51 (.pointer (some ⟨g,8 + a,none⟩)) (by kernel_rfl) fun _ h => h
      exact FStep.at_ 52 (.complex .f64 p q) (by kernel_rfl) (by (conv in opOf _ _ => whnf); go_simp) ⟨k,rfl⟩ rfl
    · have e52 := hk.eq 9 52 (.complex .f64 p q) (by kernel_rfl) fun _ h => h
      exact FStep.at_ 53 (.float .f64 p) (by kernel_rfl) (by (conv in opOf _ _ => whnf); go_simp) ⟨k,rfl⟩ rfl
    · have e0 := hk.old_ 0 (.pointer (some ⟨g,0,none⟩)) (by rw [hds]; rfl) rfl
      exact FStep.at_ 54 (.pointer (some ⟨g,0,none⟩)) (by kernel_rfl) (by (conv in opOf _ _ => whnf); go_simp) ⟨k,rfl⟩ rfl
    · have e5 := hk.old_ 5 (.pointer (some ⟨I,0,none⟩)) (by rw [hds]; rfl) rfl
      exact FStep.at_ 55 (.pointer (some ⟨I,1,none⟩)) (by kernel_rfl) (by (conv in opOf _ _ => whnf); go_simp) ⟨k,rfl⟩ rfl
    · have e55 := hk.eq 12 55 (.pointer (some ⟨I,1,none⟩)) (by kernel_rfl) fun _ h => h
      exact FStep.at_ 56 (.int .i64 a) (by kernel_rfl) (by (conv in opOf _ _ => whnf); go_simp) ⟨k,rfl⟩ rfl
    · have e54 := hk.eq 11 54 (.pointer (some ⟨g,0,none⟩)) (by kernel_rfl) fun _ h => h
      exact FStep.at_ 57 (.pointer (some ⟨g,0,none⟩)) (by kernel_rfl) (by (conv in opOf _ _ => whnf); go_simp) ⟨k,rfl⟩ rfl
    · have e57 := hk.eq 14 57 (.pointer (some ⟨g,0,none⟩)) (by kernel_rfl) fun _ h => h
      exact FStep.at_ 58 (.pointer (some ⟨g,8,none⟩)) (by kernel_rfl) (by (conv in opOf _ _ => whnf); go_simp) ⟨k,rfl⟩ rfl
    · have e58 := hk.eq 15 58 (.pointer (some ⟨g,8,none⟩)) (by kernel_rfl) fun _ h => h
      have e56 := hk.eq 13 56 (.int .i64 a) (by kernel_rfl) fun _ h => h
      exact FStep.at_ 59 (.pointer (some ⟨g,8 + a,none⟩)) (by kernel_rfl) (by (conv in opOf _ _ => whnf); go_simp) ⟨k,rfl⟩ rfl
    · have e59 := hk.eq 16 59 (.pointer (some ⟨g,8 + a,none⟩)) (by kernel_rfl) fun _ h => h
      exact FStep.at_ 60 (.complex .f64 p q) (by kernel_rfl) (by (conv in opOf _ _ => whnf); go_simp) ⟨k,rfl⟩ rfl
    · have e60 := hk.eq 17 60 (.complex .f64 p q) (by kernel_rfl) fun _ h => h
      exact FStep.at_ 61 (.float .f64 q) (by kernel_rfl) (by (conv in opOf _ _ => whnf); go_simp) ⟨k,rfl⟩ rfl
    · have e61 := hk.eq 18 61 (.float .f64 q) (by kernel_rfl) fun _ h => h
      exact FStep.at_ 62 (.float .f64 (Op.negFloat .f64 q)) (by kernel_rfl) (by (conv in opOf _ _ => whnf); go_simp) ⟨k,rfl⟩ rfl
    · have e53 := hk.eq 10 53 (.float .f64 p) (by kernel_rfl) fun _ h => h
      have e62 := hk.eq 19 62 (.float .f64 (Op.negFloat .f64 q)) (by kernel_rfl) fun _ h => h
      exact FStep.at_ 63 (.complex .f64 p (Op.negFloat .f64 q)) (by kernel_rfl) (by (conv in opOf _ _ => whnf); go_simp) ⟨k,rfl⟩ rfl
    · have e43 := hk.eq 0 43 (.pointer (some ⟨g,0,none⟩)) (by kernel_rfl) fun _ h => h
      exact FStep.at_ 64 (.pointer (some ⟨g,0,none⟩)) (by kernel_rfl) (by (conv in opOf _ _ => whnf); go_simp) ⟨k,rfl⟩ rfl
    · have e64 := hk.eq 21 64 (.pointer (some ⟨g,0,none⟩)) (by kernel_rfl) fun _ h => h
      exact FStep.at_ 65 (.pointer (some ⟨g,8,none⟩)) (by kernel_rfl) (by (conv in opOf _ _ => whnf); go_simp) ⟨k,rfl⟩ rfl
    · have e65 := hk.eq 22 65 (.pointer (some ⟨g,8,none⟩)) (by kernel_rfl) fun _ h => h
      have e45 := hk.eq 2 45 (.int .i64 a) (by kernel_rfl) fun _ h => h
      exact FStep.at_ 66 (.pointer (some ⟨g,8 + a,none⟩)) (by kernel_rfl) (by (conv in opOf _ _ => whnf); go_simp) ⟨k,rfl⟩ rfl
  · have e66 := hk.eq 23 66 (.pointer (some ⟨g,8 + a,none⟩)) (by kernel_rfl) fun _ h => h
    have e63 := hk.eq 20 63 (.complex .f64 p (Op.negFloat .f64 q)) (by kernel_rfl) fun _ h => h
    exact FStep.st_ (w' := (W.drewN k).setCell ⟨g,8 + a,none⟩ (.complex .f64 p (Op.negFloat .f64 q))) (by kernel_rfl) (by (conv in opOf _ _ => whnf); go_simp) ⟨k,rfl⟩
  · obtain ⟨k,rfl⟩ := hw
    simp only [List.foldl_cons,List.foldl_nil,List.setIfInBounds_toArray,List.set_cons_zero,List.set_cons_succ]
    exact hQ _ _ _ _ _ _ _ _ _ _ _ _ _ _ _ _ _ _ _ _ _ _ _ _ k
noncomputable def rzR7 : Array Oper := regOf Tryd.f69.body 7
set_option maxRecDepth 100000 in
set_option maxHeartbeats 2000000 in
theorem rz_r7 (g I a b : Nat) (p q s t : Nat) (u1 u2 u3 u4 u6 u7 u8 u9 Ua Ul Uw UH US U3 Ye Yp YA YL YW Y7 Zi Zt ZE ZP Z0 Jb Jj Jk Jl Jm Jn Jo Jp Jq Jr Js Jt Ju Jv Jw Jx Jy Jz JA JB JC JD JE JF JG JH JI JJ JK JL JM JN JO JP JQ JR JS JT JU JV JW JX JY JZ J0 J1 J2 J3 J4 J5 J6 J7 J8 J9 Xa Xb Xc Xd Xe Xf Xg Xh Xi Xj Xk Xl Xm Xn Xo Xp Xq Xr Xs Ub Uc Ud Ue Uf Ug Uh Ui Uj Uk Um Un Uo Up Uq Ur Us Ut Uu Uv Ux Uy Uz UA UB UC UD UE UF UG UI UJ UK UL UM UN UO UP UQ UR UT UU UV UW UX UY UZ U0 U1 U2 U4 U5 U6 U7 U8 U9 Ya Yb Yc Yd Yf Yg Yh Yi Yj Yk Yl Ym Yn Yo Yq Yr Ys Yt Yu Yv Yw Yx Yy Yz YB YC YD YE YF YG YH YI YJ YK YM YN YO YP YQ YR YS YT YU YV YX YY YZ Y0 Y1 Y2 Y3 Y4 Y5 Y6 Y8 Y9 Za Zb Zc Zd Ze Zf Zg Zh Zj Zk Zl Zm Zn Zo Zp Zq Zr Zs Zu Zv Zw Zx Zy Zz ZA ZB ZC ZD ZF ZG ZH ZI ZJ ZK ZL ZM ZN ZO ZQ ZR ZS ZT ZU ZV ZW ZX ZY ZZ Z1 Z2 Z3 Z4 Z5 Z6 Z7 Z8 Z9 Ja Jc Jd Je Jf Jg Jh Ji : Value) (W : World) (Q : Exit → Act → World → Prop) (ha : a < 4) (p1 : W.cell? ⟨I,1,none⟩ = some (.int .i64 a)) (pz : W.cell? ⟨g,8 + a,none⟩ = some (.complex .f64 p q)) (fz : W.frozen? ⟨g,8 + a,none⟩ = false) (hb : b < 4) (p2 : W.cell? ⟨I,2,none⟩ = some (.int .i64 b)) (pb : W.cell? ⟨g,8 + b,none⟩ = some (.complex .f64 s t))
    (hQ : ∀ (KW KX KY KZ K0 K1 K2 K3 K4 K5 K6 K7 K8 : Value) (k : Nat),Q .normal { tmps := #[.pointer (some ⟨g,0,none⟩),u1,u2,u3,u4,.pointer (some ⟨I,0,none⟩),u6,u7,u8,u9,Ua,Ul,Uw,UH,US,U3,Ye,Yp,YA,YL,YW,Y7,Zi,Zt,ZE,ZP,Z0,Jb,Jj,Jk,Jl,Jm,Jn,Jo,Jp,Jq,Jr,Js,Jt,Ju,Jv,Jw,Jx,Jy,Jz,JA,JB,JC,JD,JE,JF,JG,JH,JI,JJ,JK,JL,JM,JN,JO,JP,JQ,JR,JS,JT,JU,JV,JW,JX,KW,KX,KY,KZ,K0,K1,K2,K3,K4,K5,K6,K7,K8,Xb,Xc,Xd,Xe,Xf,Xg,Xh,Xi,Xj,Xk,Xl,Xm,Xn,Xo,Xp,Xq,Xr,Xs,Ub,Uc,Ud,Ue,Uf,Ug,Uh,Ui,Uj,Uk,Um,Un,Uo,Up,Uq,Ur,Us,Ut,Uu,Uv,Ux,Uy,Uz,UA,UB,UC,UD,UE,UF,UG,UI,UJ,UK,UL,UM,UN,UO,UP,UQ,UR,UT,UU,UV,UW,UX,UY,UZ,U0,U1,U2,U4,U5,U6,U7,U8,U9,Ya,Yb,Yc,Yd,Yf,Yg,Yh,Yi,Yj,Yk,Yl,Ym,Yn,Yo,Yq,Yr,Ys,Yt,Yu,Yv,Yw,Yx,Yy,Yz,YB,YC,YD,YE,YF,YG,YH,YI,YJ,YK,YM,YN,YO,YP,YQ,YR,YS,YT,YU,YV,YX,YY,YZ,Y0,Y1,Y2,Y3,Y4,Y5,Y6,Y8,Y9,Za,Zb,Zc,Zd,Ze,Zf,Zg,Zh,Zj,Zk,Zl,Zm,Zn,Zo,Zp,Zq,Zr,Zs,Zu,Zv,Zw,Zx,Zy,Zz,ZA,ZB,ZC,ZD,ZF,ZG,ZH,ZI,ZJ,ZK,ZL,ZM,ZN,ZO,ZQ,ZR,ZS,ZT,ZU,ZV,ZW,ZX,ZY,ZZ,Z1,Z2,Z3,Z4,Z5,Z6,Z7,Z8,Z9,Ja,Jc,Jd,Je,Jf,Jg,Jh,Ji],defers := [] } ((W.drewN k).setCell ⟨g,8 + a,none⟩ (.complex .f64 s t))) :
    (Code.region 7 rzR7 true).wp Tryd.prog Q { tmps := #[.pointer (some ⟨g,0,none⟩),u1,u2,u3,u4,.pointer (some ⟨I,0,none⟩),u6,u7,u8,u9,Ua,Ul,Uw,UH,US,U3,Ye,Yp,YA,YL,YW,Y7,Zi,Zt,ZE,ZP,Z0,Jb,Jj,Jk,Jl,Jm,Jn,Jo,Jp,Jq,Jr,Js,Jt,Ju,Jv,Jw,Jx,Jy,Jz,JA,JB,JC,JD,JE,JF,JG,JH,JI,JJ,JK,JL,JM,JN,JO,JP,JQ,JR,JS,JT,JU,JV,JW,JX,JY,JZ,J0,J1,J2,J3,J4,J5,J6,J7,J8,J9,Xa,Xb,Xc,Xd,Xe,Xf,Xg,Xh,Xi,Xj,Xk,Xl,Xm,Xn,Xo,Xp,Xq,Xr,Xs,Ub,Uc,Ud,Ue,Uf,Ug,Uh,Ui,Uj,Uk,Um,Un,Uo,Up,Uq,Ur,Us,Ut,Uu,Uv,Ux,Uy,Uz,UA,UB,UC,UD,UE,UF,UG,UI,UJ,UK,UL,UM,UN,UO,UP,UQ,UR,UT,UU,UV,UW,UX,UY,UZ,U0,U1,U2,U4,U5,U6,U7,U8,U9,Ya,Yb,Yc,Yd,Yf,Yg,Yh,Yi,Yj,Yk,Yl,Ym,Yn,Yo,Yq,Yr,Ys,Yt,Yu,Yv,Yw,Yx,Yy,Yz,YB,YC,YD,YE,YF,YG,YH,YI,YJ,YK,YM,YN,YO,YP,YQ,YR,YS,YT,YU,YV,YX,YY,YZ,Y0,Y1,Y2,Y3,Y4,Y5,Y6,Y8,Y9,Za,Zb,Zc,Zd,Ze,Zf,Zg,Zh,Zj,Zk,Zl,Zm,Zn,Zo,Zp,Zq,Zr,Zs,Zu,Zv,Zw,Zx,Zy,Zz,ZA,ZB,ZC,ZD,ZF,ZG,ZH,ZI,ZJ,ZK,ZL,ZM,ZN,ZO,ZQ,ZR,ZS,ZT,ZU,ZV,ZW,ZX,ZY,ZZ,Z1,Z2,Z3,Z4,Z5,Z6,Z7,Z8,Z9,Ja,Jc,Jd,Je,Jf,Jg,Jh,Ji],defers := [] } W := by
  have hA : (a : Int) < 4 := by omega
  have hB : (b : Int) < 4 := by omega
  have p1 : ∀ k,(W.drewN k).cell? ⟨I,1,none⟩ = some (.int .i64 a) := fun _ => p1
  have pz : ∀ k,(W.drewN k).cell? ⟨g,8 + a,none⟩ = some (.complex .f64 p q) := fun _ => pz
  have fz : ∀ k,(W.drewN k).frozen? ⟨g,8 + a,none⟩ = false := fun _ => fz
  have p2 : ∀ k,(W.drewN k).cell? ⟨I,2,none⟩ = some (.int .i64 b) := fun _ => p2
  have pb : ∀ k,(W.drewN k).cell? ⟨g,8 + b,none⟩ = some (.complex .f64 s t) := fun _ => pb
  have hds : dstsOf rzR7 = [69,70,71,72,73,74,75,76,77,78,79,80,81] := by kernel_rfl
  refine wp_flow (by kernel_rfl) (lookupE [(69,fun zz => zz = .pointer (some ⟨g,0,none⟩)),(70,fun zz => zz = .pointer (some ⟨I,1,none⟩)),(71,fun zz => zz = .int .i64 a),(72,fun zz => zz = .pointer (some ⟨g,0,none⟩)),(73,fun zz => zz = .pointer (some ⟨I,2,none⟩)),(74,fun zz => zz = .int .i64 b),(75,fun zz => zz = .pointer (some ⟨g,0,none⟩)),(76,fun zz => zz = .pointer (some ⟨g,8,none⟩)),(77,fun zz => zz = .pointer (some ⟨g,8 + b,none⟩)),(78,fun zz => zz = .complex .f64 s t),(79,fun zz => zz = .pointer (some ⟨g,0,none⟩)),(80,fun zz => zz = .pointer (some ⟨g,8,none⟩)),(81,fun zz => zz = .pointer (some ⟨g,8 + a,none⟩))]) (fun w => ∃ k,w = (W.drewN k).setCell ⟨g,8 + a,none⟩ (.complex .f64 s t)) 13 [69,70,71,72,73,74,75,76,77,78,79,80,81] hds (by kernel_rfl) (fun i hi act k hk => ?_) (fun act k hk => ?_) (fun xs w hw => ?_)
  · rcases (show i = 0 ∨ i = 1 ∨ i = 2 ∨ i = 3 ∨ i = 4 ∨ i = 5 ∨ i = 6 ∨ i = 7 ∨ i = 8 ∨ i = 9 ∨ i = 10 ∨ i = 11 ∨ i = 12 by omega) with rfl | rfl | rfl | rfl | rfl | rfl | rfl | rfl | rfl | rfl | rfl | rfl | rfl
    · have e0 := hk.old_ 0 (.pointer (some ⟨g,0,none⟩)) (by rw [hds]; rfl) rfl
      exact FStep.at_ 69 (.pointer (some ⟨g,0,none⟩)) (by kernel_rfl) (by (conv in opOf _ _ => whnf); go_simp) ⟨k,rfl⟩ rfl
    · have e5 := hk.old_ 5 (.pointer (some ⟨I,0,none⟩)) (by rw [hds]; rfl) rfl
      exact FStep.at_ 70 (.pointer (some ⟨I,1,none⟩)) (by kernel_rfl) (by (conv in opOf _ _ => whnf); go_simp) ⟨k,rfl⟩ rfl
    · have e70 := hk.eq 1 70 (.pointer (some ⟨I,1,none⟩)) (by kernel_rfl) fun _ h => h
      exact FStep.at_ 71 (.int .i64 a) (by kernel_rfl) (by (conv in opOf _ _ => whnf); go_simp) ⟨k,rfl⟩ rfl
    · have e0 := hk.old_ 0 (.pointer (some ⟨g,0,none⟩)) (by rw [hds]; rfl) rfl
      exact FStep.at_ 72 (.pointer (some ⟨g,0,none⟩)) (by kernel_rfl) (by (conv in opOf _ _ => whnf); go_simp) ⟨k,rfl⟩ rfl
    · have e5 := hk.old_ 5 (.pointer (some ⟨I,0,none⟩)) (by rw [hds]; rfl) rfl
      exact FStep.at_ 73 (.pointer (some ⟨I,2,none⟩)) (by kernel_rfl) (by (conv in opOf _ _ => whnf); go_simp) ⟨k,rfl⟩ rfl
    · have e73 := hk.eq 4 73 (.pointer (some ⟨I,2,none⟩)) (by kernel_rfl) fun _ h => h
      exact FStep.at_ 74 (.int .i64 b) (by kernel_rfl) (by (conv in opOf _ _ => whnf); go_simp) ⟨k,rfl⟩ rfl
    · have e72 := hk.eq 3 72 (.pointer (some ⟨g,0,none⟩)) (by kernel_rfl) fun _ h => h
      exact FStep.at_ 75 (.pointer (some ⟨g,0,none⟩)) (by kernel_rfl) (by (conv in opOf _ _ => whnf); go_simp) ⟨k,rfl⟩ rfl
    · have e75 := hk.eq 6 75 (.pointer (some ⟨g,0,none⟩)) (by kernel_rfl) fun _ h => h
      exact FStep.at_ 76 (.pointer (some ⟨g,8,none⟩)) (by kernel_rfl) (by (conv in opOf _ _ => whnf); go_simp) ⟨k,rfl⟩ rfl
    · have e76 := hk.eq 7 76 (.pointer (some ⟨g,8,none⟩)) (by kernel_rfl) fun _ h => h
      have e74 := hk.eq 5 74 (.int .i64 b) (by kernel_rfl) fun _ h => h
      exact FStep.at_ 77 (.pointer (some ⟨g,8 + b,none⟩)) (by kernel_rfl) (by (conv in opOf _ _ => whnf); go_simp) ⟨k,rfl⟩ rfl
    · have e77 := hk.eq 8 77 (.pointer (some ⟨g,8 + b,none⟩)) (by kernel_rfl) fun _ h => h
      exact FStep.at_ 78 (.complex .f64 s t) (by kernel_rfl) (by (conv in opOf _ _ => whnf); go_simp) ⟨k,rfl⟩ rfl
    · have e69 := hk.eq 0 69 (.pointer (some ⟨g,0,none⟩)) (by kernel_rfl) fun _ h => h
      exact FStep.at_ 79 (.pointer (some ⟨g,0,none⟩)) (by kernel_rfl) (by (conv in opOf _ _ => whnf); go_simp) ⟨k,rfl⟩ rfl
    · have e79 := hk.eq 10 79 (.pointer (some ⟨g,0,none⟩)) (by kernel_rfl) fun _ h => h
      exact FStep.at_ 80 (.pointer (some ⟨g,8,none⟩)) (by kernel_rfl) (by (conv in opOf _ _ => whnf); go_simp) ⟨k,rfl⟩ rfl
    · have e80 := hk.eq 11 80 (.pointer (some ⟨g,8,none⟩)) (by kernel_rfl) fun _ h => h
      have e71 := hk.eq 2 71 (.int .i64 a) (by kernel_rfl) fun _ h => h
      exact FStep.at_ 81 (.pointer (some ⟨g,8 + a,none⟩)) (by kernel_rfl) (by (conv in opOf _ _ => whnf); go_simp) ⟨k,rfl⟩ rfl
  · have e81 := hk.eq 12 81 (.pointer (some ⟨g,8 + a,none⟩)) (by kernel_rfl) fun _ h => h
    have e78 := hk.eq 9 78 (.complex .f64 s t) (by kernel_rfl) fun _ h => h
    exact FStep.st_ (w' := (W.drewN k).setCell ⟨g,8 + a,none⟩ (.complex .f64 s t)) (by kernel_rfl) (by (conv in opOf _ _ => whnf); go_simp) ⟨k,rfl⟩
  · obtain ⟨k,rfl⟩ := hw
    simp only [List.foldl_cons,List.foldl_nil,List.setIfInBounds_toArray,List.set_cons_zero,List.set_cons_succ]
    exact hQ _ _ _ _ _ _ _ _ _ _ _ _ _ k
noncomputable def rzR9 : Array Oper := regOf Tryd.f69.body 9
set_option maxRecDepth 100000 in
set_option maxHeartbeats 2000000 in
theorem rz_r9 (g I a b : Nat) (p q s t : Nat) (u1 u2 u3 u4 u6 u7 u8 u9 Ua Ul Uw UH US U3 Ye Yp YA YL YW Y7 Zi Zt ZE ZP Z0 Jb Jj Jk Jl Jm Jn Jo Jp Jq Jr Js Jt Ju Jv Jw Jx Jy Jz JA JB JC JD JE JF JG JH JI JJ JK JL JM JN JO JP JQ JR JS JT JU JV JW JX JY JZ J0 J1 J2 J3 J4 J5 J6 J7 J8 J9 Xa Xb Xc Xd Xe Xf Xg Xh Xi Xj Xk Xl Xm Xn Xo Xp Xq Xr Xs Ub Uc Ud Ue Uf Ug Uh Ui Uj Uk Um Un Uo Up Uq Ur Us Ut Uu Uv Ux Uy Uz UA UB UC UD UE UF UG UI UJ UK UL UM UN UO UP UQ UR UT UU UV UW UX UY UZ U0 U1 U2 U4 U5 U6 U7 U8 U9 Ya Yb Yc Yd Yf Yg Yh Yi Yj Yk Yl Ym Yn Yo Yq Yr Ys Yt Yu Yv Yw Yx Yy Yz YB YC YD YE YF YG YH YI YJ YK YM YN YO YP YQ YR YS YT YU YV YX YY YZ Y0 Y1 Y2 Y3 Y4 Y5 Y6 Y8 Y9 Za Zb Zc Zd Ze Zf Zg Zh Zj Zk Zl Zm Zn Zo Zp Zq Zr Zs Zu Zv Zw Zx Zy Zz ZA ZB ZC ZD ZF ZG ZH ZI ZJ ZK ZL ZM ZN ZO ZQ ZR ZS ZT ZU ZV ZW ZX ZY ZZ Z1 Z2 Z3 Z4 Z5 Z6 Z7 Z8 Z9 Ja Jc Jd Je Jf Jg Jh Ji : Value) (W : World) (Q : Exit → Act → World → Prop) (ha : a < 4) (p1 : W.cell? ⟨I,1,none⟩ = some (.int .i64 a)) (pz : W.cell? ⟨g,8 + a,none⟩ = some (.complex .f64 p q)) (fz : W.frozen? ⟨g,8 + a,none⟩ = false) (hb : b < 4) (p2 : W.cell? ⟨I,2,none⟩ = some (.int .i64 b)) (pb : W.cell? ⟨g,8 + b,none⟩ = some (.complex .f64 s t))
    (hQ : ∀ (K9 Ra Rb Rc Rd Re Rf Rg Rh Ri Rj Rk Rl Rm Rn Ro Xt Xu Xv Xw Xx Xy Xz XA XB XC XD XE XF XG XH XI XJ XK XL XM XN XO XP XQ XR : Value) (k r19 r36 : Nat),FR .add p s r19 → FR .add q t r36 → Q .normal { tmps := #[.pointer (some ⟨g,0,none⟩),u1,u2,u3,u4,.pointer (some ⟨I,0,none⟩),u6,u7,u8,u9,Ua,Ul,Uw,UH,US,U3,Ye,Yp,YA,YL,YW,Y7,Zi,Zt,ZE,ZP,Z0,Jb,Jj,Jk,Jl,Jm,Jn,Jo,Jp,Jq,Jr,Js,Jt,Ju,Jv,Jw,Jx,Jy,Jz,JA,JB,JC,JD,JE,JF,JG,JH,JI,JJ,JK,JL,JM,JN,JO,JP,JQ,JR,JS,JT,JU,JV,JW,JX,JY,JZ,J0,J1,J2,J3,J4,J5,J6,J7,J8,J9,Xa,Xb,Xc,K9,Ra,Rb,Rc,Rd,Re,Rf,Rg,Rh,Ri,Rj,Rk,Rl,Rm,Rn,Ro,Xt,Xu,Xv,Xw,Xx,Xy,Xz,XA,XB,XC,XD,XE,XF,XG,XH,XI,XJ,XK,XL,XM,XN,XO,XP,XQ,XR,UC,UD,UE,UF,UG,UI,UJ,UK,UL,UM,UN,UO,UP,UQ,UR,UT,UU,UV,UW,UX,UY,UZ,U0,U1,U2,U4,U5,U6,U7,U8,U9,Ya,Yb,Yc,Yd,Yf,Yg,Yh,Yi,Yj,Yk,Yl,Ym,Yn,Yo,Yq,Yr,Ys,Yt,Yu,Yv,Yw,Yx,Yy,Yz,YB,YC,YD,YE,YF,YG,YH,YI,YJ,YK,YM,YN,YO,YP,YQ,YR,YS,YT,YU,YV,YX,YY,YZ,Y0,Y1,Y2,Y3,Y4,Y5,Y6,Y8,Y9,Za,Zb,Zc,Zd,Ze,Zf,Zg,Zh,Zj,Zk,Zl,Zm,Zn,Zo,Zp,Zq,Zr,Zs,Zu,Zv,Zw,Zx,Zy,Zz,ZA,ZB,ZC,ZD,ZF,ZG,ZH,ZI,ZJ,ZK,ZL,ZM,ZN,ZO,ZQ,ZR,ZS,ZT,ZU,ZV,ZW,ZX,ZY,ZZ,Z1,Z2,Z3,Z4,Z5,Z6,Z7,Z8,Z9,Ja,Jc,Jd,Je,Jf,Jg,Jh,Ji],defers := [] } ((W.drewN k).setCell ⟨g,8 + a,none⟩ (.complex .f64 r19 r36))) :
    (Code.region 9 rzR9 true).wp Tryd.prog Q { tmps := #[.pointer (some ⟨g,0,none⟩),u1,u2,u3,u4,.pointer (some ⟨I,0,none⟩),u6,u7,u8,u9,Ua,Ul,Uw,UH,US,U3,Ye,Yp,YA,YL,YW,Y7,Zi,Zt,ZE,ZP,Z0,Jb,Jj,Jk,Jl,Jm,Jn,Jo,Jp,Jq,Jr,Js,Jt,Ju,Jv,Jw,Jx,Jy,Jz,JA,JB,JC,JD,JE,JF,JG,JH,JI,JJ,JK,JL,JM,JN,JO,JP,JQ,JR,JS,JT,JU,JV,JW,JX,JY,JZ,J0,J1,J2,J3,J4,J5,J6,J7,J8,J9,Xa,Xb,Xc,Xd,Xe,Xf,Xg,Xh,Xi,Xj,Xk,Xl,Xm,Xn,Xo,Xp,Xq,Xr,Xs,Ub,Uc,Ud,Ue,Uf,Ug,Uh,Ui,Uj,Uk,Um,Un,Uo,Up,Uq,Ur,Us,Ut,Uu,Uv,Ux,Uy,Uz,UA,UB,UC,UD,UE,UF,UG,UI,UJ,UK,UL,UM,UN,UO,UP,UQ,UR,UT,UU,UV,UW,UX,UY,UZ,U0,U1,U2,U4,U5,U6,U7,U8,U9,Ya,Yb,Yc,Yd,Yf,Yg,Yh,Yi,Yj,Yk,Yl,Ym,Yn,Yo,Yq,Yr,Ys,Yt,Yu,Yv,Yw,Yx,Yy,Yz,YB,YC,YD,YE,YF,YG,YH,YI,YJ,YK,YM,YN,YO,YP,YQ,YR,YS,YT,YU,YV,YX,YY,YZ,Y0,Y1,Y2,Y3,Y4,Y5,Y6,Y8,Y9,Za,Zb,Zc,Zd,Ze,Zf,Zg,Zh,Zj,Zk,Zl,Zm,Zn,Zo,Zp,Zq,Zr,Zs,Zu,Zv,Zw,Zx,Zy,Zz,ZA,ZB,ZC,ZD,ZF,ZG,ZH,ZI,ZJ,ZK,ZL,ZM,ZN,ZO,ZQ,ZR,ZS,ZT,ZU,ZV,ZW,ZX,ZY,ZZ,Z1,Z2,Z3,Z4,Z5,Z6,Z7,Z8,Z9,Ja,Jc,Jd,Je,Jf,Jg,Jh,Ji],defers := [] } W := by
  have hA : (a : Int) < 4 := by omega
  have hB : (b : Int) < 4 := by omega
  have p1 : ∀ k,(W.drewN k).cell? ⟨I,1,none⟩ = some (.int .i64 a) := fun _ => p1
  have pz : ∀ k,(W.drewN k).cell? ⟨g,8 + a,none⟩ = some (.complex .f64 p q) := fun _ => pz
  have fz : ∀ k,(W.drewN k).frozen? ⟨g,8 + a,none⟩ = false := fun _ => fz
  have p2 : ∀ k,(W.drewN k).cell? ⟨I,2,none⟩ = some (.int .i64 b) := fun _ => p2
  have pb : ∀ k,(W.drewN k).cell? ⟨g,8 + b,none⟩ = some (.complex .f64 s t) := fun _ => pb
  have hds : dstsOf rzR9 = [84,85,86,87,88,89,90,91,92,93,94,95,96,97,98,99,100,101,102,103,104,105,106,107,108,109,110,111,112,113,114,115,116,117,118,119,120,121,122,123,124] := by kernel_rfl
  refine wp_flow (by kernel_rfl) (lookupE [(84,fun zz => zz = .pointer (some ⟨g,0,none⟩)),(85,fun zz => zz = .pointer (some ⟨I,1,none⟩)),(86,fun zz => zz = .int .i64 a),(87,fun zz => zz = .pointer (some ⟨g,0,none⟩)),(88,fun zz => zz = .pointer (some ⟨I,1,none⟩)),(89,fun zz => zz = .int .i64 a),(90,fun zz => zz = .pointer (some ⟨g,0,none⟩)),(91,fun zz => zz = .pointer (some ⟨g,8,none⟩)),(92,fun zz => zz = .pointer (some ⟨g,8 + a,none⟩)),(93,fun zz => zz = .complex .f64 p q),(94,fun zz => zz = .float .f64 p),(95,fun zz => zz = .pointer (some ⟨g,0,none⟩)),(96,fun zz => zz = .pointer (some ⟨I,2,none⟩)),(97,fun zz => zz = .int .i64 b),(98,fun zz => zz = .pointer (some ⟨g,0,none⟩)),(99,fun zz => zz = .pointer (some ⟨g,8,none⟩)),(100,fun zz => zz = .pointer (some ⟨g,8 + b,none⟩)),(101,fun zz => zz = .complex .f64 s t),(102,fun zz => zz = .float .f64 s),(103,fun zz => ∃ r19,FR .add p s r19 ∧ zz = .float .f64 r19),(104,fun zz => zz = .pointer (some ⟨g,0,none⟩)),(105,fun zz => zz = .pointer (some ⟨I,1,none⟩)),(106,fun zz => zz = .int .i64 a),(107,fun zz => zz = .pointer (some ⟨g,0,none⟩)),(108,fun zz => zz = .pointer (some ⟨g,8,none⟩)),(109,fun zz => zz = .pointer (some ⟨g,8 + a,none⟩)),(110,fun zz => zz = .complex .f64 p q),(111,fun zz => zz = .float .f64 q),(112,fun zz => zz = .pointer (some ⟨g,0,none⟩)),(113,fun zz => zz = .pointer (some ⟨I,2,none⟩)),(114,fun zz => zz = .int .i64 b),(115,fun zz => zz = .pointer (some ⟨g,0,none⟩)),(116,fun zz => zz = .pointer (some ⟨g,8,none⟩)),(117,fun zz => zz = .pointer (some ⟨g,8 + b,none⟩)),(118,fun zz => zz = .complex .f64 s t),(119,fun zz => zz = .float .f64 t),(120,fun zz => ∃ r36,FR .add q t r36 ∧ zz = .float .f64 r36),(121,fun zz => ∃ r19 r36,FR .add p s r19 ∧ FR .add q t r36 ∧ zz = .complex .f64 r19 r36),(122,fun zz => zz = .pointer (some ⟨g,0,none⟩)),(123,fun zz => zz = .pointer (some ⟨g,8,none⟩)),(124,fun zz => zz = .pointer (some ⟨g,8 + a,none⟩))]) (fun w => ∃ k r19 r36,FR .add p s r19 ∧ FR .add q t r36 ∧ w = (W.drewN k).setCell ⟨g,8 + a,none⟩ (.complex .f64 r19 r36)) 41 [84,85,86,87,88,89,90,91,92,93,94,95,96,97,98,99,100,101,102,103,104,105,106,107,108,109,110,111,112,113,114,115,116,117,118,119,120,121,122,123,124] hds (by kernel_rfl) (fun i hi act k hk => ?_) (fun act k hk => ?_) (fun xs w hw => ?_)
  · rcases (show i = 0 ∨ i = 1 ∨ i = 2 ∨ i = 3 ∨ i = 4 ∨ i = 5 ∨ i = 6 ∨ i = 7 ∨ i = 8 ∨ i = 9 ∨ i = 10 ∨ i = 11 ∨ i = 12 ∨ i = 13 ∨ i = 14 ∨ i = 15 ∨ i = 16 ∨ i = 17 ∨ i = 18 ∨ i = 19 ∨ i = 20 ∨ i = 21 ∨ i = 22 ∨ i = 23 ∨ i = 24 ∨ i = 25 ∨ i = 26 ∨ i = 27 ∨ i = 28 ∨ i = 29 ∨ i = 30 ∨ i = 31 ∨ i = 32 ∨ i = 33 ∨ i = 34 ∨ i = 35 ∨ i = 36 ∨ i = 37 ∨ i = 38 ∨ i = 39 ∨ i = 40 by omega) with rfl | rfl | rfl | rfl | rfl | rfl | rfl | rfl | rfl | rfl | rfl | rfl | rfl | rfl | rfl | rfl | rfl | rfl | rfl | rfl | rfl | rfl | rfl | rfl | rfl | rfl | rfl | rfl | rfl | rfl | rfl | rfl | rfl | rfl | rfl | rfl | rfl | rfl | rfl | rfl | rfl
    · have e0 := hk.old_ 0 (.pointer (some ⟨g,0,none⟩)) (by rw [hds]; rfl) rfl
      exact FStep.at_ 84 (.pointer (some ⟨g,0,none⟩)) (by kernel_rfl) (by (conv in opOf _ _ => whnf); go_simp) ⟨k,rfl⟩ rfl
    · have e5 := hk.old_ 5 (.pointer (some ⟨I,0,none⟩)) (by rw [hds]; rfl) rfl
      exact FStep.at_ 85 (.pointer (some ⟨I,1,none⟩)) (by kernel_rfl) (by (conv in opOf _ _ => whnf); go_simp) ⟨k,rfl⟩ rfl
    · have e85 := hk.eq 1 85 (.pointer (some ⟨I,1,none⟩)) (by kernel_rfl) fun _ h => h
      exact FStep.at_ 86 (.int .i64 a) (by kernel_rfl) (by (conv in opOf _ _ => whnf); go_simp) ⟨k,rfl⟩ rfl
    · have e0 := hk.old_ 0 (.pointer (some ⟨g,0,none⟩)) (by rw [hds]; rfl) rfl
      exact FStep.at_ 87 (.pointer (some ⟨g,0,none⟩)) (by kernel_rfl) (by (conv in opOf _ _ => whnf); go_simp) ⟨k,rfl⟩ rfl
    · have e5 := hk.old_ 5 (.pointer (some ⟨I,0,none⟩)) (by rw [hds]; rfl) rfl
      exact FStep.at_ 88 (.pointer (some ⟨I,1,none⟩)) (by kernel_rfl) (by (conv in opOf _ _ => whnf); go_simp) ⟨k,rfl⟩ rfl
    · have e88 := hk.eq 4 88 (.pointer (some ⟨I,1,none⟩)) (by kernel_rfl) fun _ h => h
      exact FStep.at_ 89 (.int .i64 a) (by kernel_rfl) (by (conv in opOf _ _ => whnf); go_simp) ⟨k,rfl⟩ rfl
    · have e87 := hk.eq 3 87 (.pointer (some ⟨g,0,none⟩)) (by kernel_rfl) fun _ h => h
      exact FStep.at_ 90 (.pointer (some ⟨g,0,none⟩)) (by kernel_rfl) (by (conv in opOf _ _ => whnf); go_simp) ⟨k,rfl⟩ rfl
    · have e90 := hk.eq 6 90 (.pointer (some ⟨g,0,none⟩)) (by kernel_rfl) fun _ h => h
      exact FStep.at_ 91 (.pointer (some ⟨g,8,none⟩)) (by kernel_rfl) (by (conv in opOf _ _ => whnf); go_simp) ⟨k,rfl⟩ rfl
    · have e91 := hk.eq 7 91 (.pointer (some ⟨g,8,none⟩)) (by kernel_rfl) fun _ h => h
      have e89 := hk.eq 5 89 (.int .i64 a) (by kernel_rfl) fun _ h => h
      exact FStep.at_ 92 (.pointer (some ⟨g,8 + a,none⟩)) (by kernel_rfl) (by (conv in opOf _ _ => whnf); go_simp) ⟨k,rfl⟩ rfl
    · have e92 := hk.eq 8 92 (.pointer (some ⟨g,8 + a,none⟩)) (by kernel_rfl) fun _ h => h
      exact FStep.at_ 93 (.complex .f64 p q) (by kernel_rfl) (by (conv in opOf _ _ => whnf); go_simp) ⟨k,rfl⟩ rfl
    · have e93 := hk.eq 9 93 (.complex .f64 p q) (by kernel_rfl) fun _ h => h
      exact FStep.at_ 94 (.float .f64 p) (by kernel_rfl) (by (conv in opOf _ _ => whnf); go_simp) ⟨k,rfl⟩ rfl
    · have e0 := hk.old_ 0 (.pointer (some ⟨g,0,none⟩)) (by rw [hds]; rfl) rfl
      exact FStep.at_ 95 (.pointer (some ⟨g,0,none⟩)) (by kernel_rfl) (by (conv in opOf _ _ => whnf); go_simp) ⟨k,rfl⟩ rfl
    · have e5 := hk.old_ 5 (.pointer (some ⟨I,0,none⟩)) (by rw [hds]; rfl) rfl
      exact FStep.at_ 96 (.pointer (some ⟨I,2,none⟩)) (by kernel_rfl) (by (conv in opOf _ _ => whnf); go_simp) ⟨k,rfl⟩ rfl
    · have e96 := hk.eq 12 96 (.pointer (some ⟨I,2,none⟩)) (by kernel_rfl) fun _ h => h
      exact FStep.at_ 97 (.int .i64 b) (by kernel_rfl) (by (conv in opOf _ _ => whnf); go_simp) ⟨k,rfl⟩ rfl
    · have e95 := hk.eq 11 95 (.pointer (some ⟨g,0,none⟩)) (by kernel_rfl) fun _ h => h
      exact FStep.at_ 98 (.pointer (some ⟨g,0,none⟩)) (by kernel_rfl) (by (conv in opOf _ _ => whnf); go_simp) ⟨k,rfl⟩ rfl
    · have e98 := hk.eq 14 98 (.pointer (some ⟨g,0,none⟩)) (by kernel_rfl) fun _ h => h
      exact FStep.at_ 99 (.pointer (some ⟨g,8,none⟩)) (by kernel_rfl) (by (conv in opOf _ _ => whnf); go_simp) ⟨k,rfl⟩ rfl
    · have e99 := hk.eq 15 99 (.pointer (some ⟨g,8,none⟩)) (by kernel_rfl) fun _ h => h
      have e97 := hk.eq 13 97 (.int .i64 b) (by kernel_rfl) fun _ h => h
      exact FStep.at_ 100 (.pointer (some ⟨g,8 + b,none⟩)) (by kernel_rfl) (by (conv in opOf _ _ => whnf); go_simp) ⟨k,rfl⟩ rfl
    · have e100 := hk.eq 16 100 (.pointer (some ⟨g,8 + b,none⟩)) (by kernel_rfl) fun _ h => h
      exact FStep.at_ 101 (.complex .f64 s t) (by kernel_rfl) (by (conv in opOf _ _ => whnf); go_simp) ⟨k,rfl⟩ rfl
    · have e101 := hk.eq 17 101 (.complex .f64 s t) (by kernel_rfl) fun _ h => h
      exact FStep.at_ 102 (.float .f64 s) (by kernel_rfl) (by (conv in opOf _ _ => whnf); go_simp) ⟨k,rfl⟩ rfl
    · have e94 := hk.eq 10 94 (.float .f64 p) (by kernel_rfl) fun _ h => h
      have e102 := hk.eq 18 102 (.float .f64 s) (by kernel_rfl) fun _ h => h
      obtain ⟨k2,hk2⟩ := fwld_drewN .add p s (W.drewN k)
      have hf := run_fop (P := Tryd.prog) (W.drewN k) .add (by simp) 146 p s
      exact FStep.at_ (w' := fwld .add p s (W.drewN k)) 103 (.float .f64 (fres .add p s (W.drewN k))) (by kernel_rfl) (by (conv in opOf _ _ => whnf); go_simp) ⟨k + k2,by rw [hk2,World.drewN_drewN]⟩ ⟨_,fres_FR _ _ _ _,rfl⟩
    · have e0 := hk.old_ 0 (.pointer (some ⟨g,0,none⟩)) (by rw [hds]; rfl) rfl
      exact FStep.at_ 104 (.pointer (some ⟨g,0,none⟩)) (by kernel_rfl) (by (conv in opOf _ _ => whnf); go_simp) ⟨k,rfl⟩ rfl
    · have e5 := hk.old_ 5 (.pointer (some ⟨I,0,none⟩)) (by rw [hds]; rfl) rfl
      exact FStep.at_ 105 (.pointer (some ⟨I,1,none⟩)) (by kernel_rfl) (by (conv in opOf _ _ => whnf); go_simp) ⟨k,rfl⟩ rfl
    · have e105 := hk.eq 21 105 (.pointer (some ⟨I,1,none⟩)) (by kernel_rfl) fun _ h => h
      exact FStep.at_ 106 (.int .i64 a) (by kernel_rfl) (by (conv in opOf _ _ => whnf); go_simp) ⟨k,rfl⟩ rfl
    · have e104 := hk.eq 20 104 (.pointer (some ⟨g,0,none⟩)) (by kernel_rfl) fun _ h => h
      exact FStep.at_ 107 (.pointer (some ⟨g,0,none⟩)) (by kernel_rfl) (by (conv in opOf _ _ => whnf); go_simp) ⟨k,rfl⟩ rfl
    · have e107 := hk.eq 23 107 (.pointer (some ⟨g,0,none⟩)) (by kernel_rfl) fun _ h => h
      exact FStep.at_ 108 (.pointer (some ⟨g,8,none⟩)) (by kernel_rfl) (by (conv in opOf _ _ => whnf); go_simp) ⟨k,rfl⟩ rfl
    · have e108 := hk.eq 24 108 (.pointer (some ⟨g,8,none⟩)) (by kernel_rfl) fun _ h => h
      have e106 := hk.eq 22 106 (.int .i64 a) (by kernel_rfl) fun _ h => h
      exact FStep.at_ 109 (.pointer (some ⟨g,8 + a,none⟩)) (by kernel_rfl) (by (conv in opOf _ _ => whnf); go_simp) ⟨k,rfl⟩ rfl
    · have e109 := hk.eq 25 109 (.pointer (some ⟨g,8 + a,none⟩)) (by kernel_rfl) fun _ h => h
      exact FStep.at_ 110 (.complex .f64 p q) (by kernel_rfl) (by (conv in opOf _ _ => whnf); go_simp) ⟨k,rfl⟩ rfl
    · have e110 := hk.eq 26 110 (.complex .f64 p q) (by kernel_rfl) fun _ h => h
      exact FStep.at_ 111 (.float .f64 q) (by kernel_rfl) (by (conv in opOf _ _ => whnf); go_simp) ⟨k,rfl⟩ rfl
    · have e0 := hk.old_ 0 (.pointer (some ⟨g,0,none⟩)) (by rw [hds]; rfl) rfl
      exact FStep.at_ 112 (.pointer (some ⟨g,0,none⟩)) (by kernel_rfl) (by (conv in opOf _ _ => whnf); go_simp) ⟨k,rfl⟩ rfl
    · have e5 := hk.old_ 5 (.pointer (some ⟨I,0,none⟩)) (by rw [hds]; rfl) rfl
      exact FStep.at_ 113 (.pointer (some ⟨I,2,none⟩)) (by kernel_rfl) (by (conv in opOf _ _ => whnf); go_simp) ⟨k,rfl⟩ rfl
    · have e113 := hk.eq 29 113 (.pointer (some ⟨I,2,none⟩)) (by kernel_rfl) fun _ h => h
      exact FStep.at_ 114 (.int .i64 b) (by kernel_rfl) (by (conv in opOf _ _ => whnf); go_simp) ⟨k,rfl⟩ rfl
    · have e112 := hk.eq 28 112 (.pointer (some ⟨g,0,none⟩)) (by kernel_rfl) fun _ h => h
      exact FStep.at_ 115 (.pointer (some ⟨g,0,none⟩)) (by kernel_rfl) (by (conv in opOf _ _ => whnf); go_simp) ⟨k,rfl⟩ rfl
    · have e115 := hk.eq 31 115 (.pointer (some ⟨g,0,none⟩)) (by kernel_rfl) fun _ h => h
      exact FStep.at_ 116 (.pointer (some ⟨g,8,none⟩)) (by kernel_rfl) (by (conv in opOf _ _ => whnf); go_simp) ⟨k,rfl⟩ rfl
    · have e116 := hk.eq 32 116 (.pointer (some ⟨g,8,none⟩)) (by kernel_rfl) fun _ h => h
      have e114 := hk.eq 30 114 (.int .i64 b) (by kernel_rfl) fun _ h => h
      exact FStep.at_ 117 (.pointer (some ⟨g,8 + b,none⟩)) (by kernel_rfl) (by (conv in opOf _ _ => whnf); go_simp) ⟨k,rfl⟩ rfl
    · have e117 := hk.eq 33 117 (.pointer (some ⟨g,8 + b,none⟩)) (by kernel_rfl) fun _ h => h
      exact FStep.at_ 118 (.complex .f64 s t) (by kernel_rfl) (by (conv in opOf _ _ => whnf); go_simp) ⟨k,rfl⟩ rfl
    · have e118 := hk.eq 34 118 (.complex .f64 s t) (by kernel_rfl) fun _ h => h
      exact FStep.at_ 119 (.float .f64 t) (by kernel_rfl) (by (conv in opOf _ _ => whnf); go_simp) ⟨k,rfl⟩ rfl
    · have e111 := hk.eq 27 111 (.float .f64 q) (by kernel_rfl) fun _ h => h
      have e119 := hk.eq 35 119 (.float .f64 t) (by kernel_rfl) fun _ h => h
      obtain ⟨k2,hk2⟩ := fwld_drewN .add q t (W.drewN k)
      have hf := run_fop (P := Tryd.prog) (W.drewN k) .add (by simp) 146 q t
      exact FStep.at_ (w' := fwld .add q t (W.drewN k)) 120 (.float .f64 (fres .add q t (W.drewN k))) (by kernel_rfl) (by (conv in opOf _ _ => whnf); go_simp) ⟨k + k2,by rw [hk2,World.drewN_drewN]⟩ ⟨_,fres_FR _ _ _ _,rfl⟩
    · obtain ⟨x103,e103,hE103⟩ := hk.ex 19 103 (by kernel_rfl)
      obtain ⟨r19,hp103_0,hE103⟩ : ∃ r19,FR .add p s r19 ∧ x103 = .float .f64 r19 := hE103
      rw [hE103] at e103
      obtain ⟨x120,e120,hE120⟩ := hk.ex 36 120 (by kernel_rfl)
      obtain ⟨r36,hp120_0,hE120⟩ : ∃ r36,FR .add q t r36 ∧ x120 = .float .f64 r36 := hE120
      rw [hE120] at e120
      exact FStep.at_ 121 (.complex .f64 r19 r36) (by kernel_rfl) (by (conv in opOf _ _ => whnf); go_simp) ⟨k,rfl⟩ ⟨r19,r36,hp103_0,hp120_0,rfl⟩
    · have e84 := hk.eq 0 84 (.pointer (some ⟨g,0,none⟩)) (by kernel_rfl) fun _ h => h
      exact FStep.at_ 122 (.pointer (some ⟨g,0,none⟩)) (by kernel_rfl) (by (conv in opOf _ _ => whnf); go_simp) ⟨k,rfl⟩ rfl
    · have e122 := hk.eq 38 122 (.pointer (some ⟨g,0,none⟩)) (by kernel_rfl) fun _ h => h
      exact FStep.at_ 123 (.pointer (some ⟨g,8,none⟩)) (by kernel_rfl) (by (conv in opOf _ _ => whnf); go_simp) ⟨k,rfl⟩ rfl
    · have e123 := hk.eq 39 123 (.pointer (some ⟨g,8,none⟩)) (by kernel_rfl) fun _ h => h
      have e86 := hk.eq 2 86 (.int .i64 a) (by kernel_rfl) fun _ h => h
      exact FStep.at_ 124 (.pointer (some ⟨g,8 + a,none⟩)) (by kernel_rfl) (by (conv in opOf _ _ => whnf); go_simp) ⟨k,rfl⟩ rfl
  · have e124 := hk.eq 40 124 (.pointer (some ⟨g,8 + a,none⟩)) (by kernel_rfl) fun _ h => h
    obtain ⟨x121,e121,hE121⟩ := hk.ex 37 121 (by kernel_rfl)
    obtain ⟨r19,r36,hp121_0,hp121_1,hE121⟩ : ∃ r19 r36,FR .add p s r19 ∧ FR .add q t r36 ∧ x121 = .complex .f64 r19 r36 := hE121
    rw [hE121] at e121
    exact FStep.st_ (w' := (W.drewN k).setCell ⟨g,8 + a,none⟩ (.complex .f64 r19 r36)) (by kernel_rfl) (by (conv in opOf _ _ => whnf); go_simp) ⟨k,r19,r36,hp121_0,hp121_1,rfl⟩
  · obtain ⟨k,r19,r36,hp_0,hp_1,rfl⟩ := hw
    simp only [List.foldl_cons,List.foldl_nil,List.setIfInBounds_toArray,List.set_cons_zero,List.set_cons_succ]
    exact hQ _ _ _ _ _ _ _ _ _ _ _ _ _ _ _ _ _ _ _ _ _ _ _ _ _ _ _ _ _ _ _ _ _ _ _ _ _ _ _ _ _ k r19 r36 hp_0 hp_1
noncomputable def rzR11 : Array Oper := regOf Tryd.f69.body 11
set_option maxRecDepth 100000 in
set_option maxHeartbeats 2000000 in
theorem rz_r11 (g I a b : Nat) (p q s t : Nat) (u1 u2 u3 u4 u6 u7 u8 u9 Ua Ul Uw UH US U3 Ye Yp YA YL YW Y7 Zi Zt ZE ZP Z0 Jb Jj Jk Jl Jm Jn Jo Jp Jq Jr Js Jt Ju Jv Jw Jx Jy Jz JA JB JC JD JE JF JG JH JI JJ JK JL JM JN JO JP JQ JR JS JT JU JV JW JX JY JZ J0 J1 J2 J3 J4 J5 J6 J7 J8 J9 Xa Xb Xc Xd Xe Xf Xg Xh Xi Xj Xk Xl Xm Xn Xo Xp Xq Xr Xs Ub Uc Ud Ue Uf Ug Uh Ui Uj Uk Um Un Uo Up Uq Ur Us Ut Uu Uv Ux Uy Uz UA UB UC UD UE UF UG UI UJ UK UL UM UN UO UP UQ UR UT UU UV UW UX UY UZ U0 U1 U2 U4 U5 U6 U7 U8 U9 Ya Yb Yc Yd Yf Yg Yh Yi Yj Yk Yl Ym Yn Yo Yq Yr Ys Yt Yu Yv Yw Yx Yy Yz YB YC YD YE YF YG YH YI YJ YK YM YN YO YP YQ YR YS YT YU YV YX YY YZ Y0 Y1 Y2 Y3 Y4 Y5 Y6 Y8 Y9 Za Zb Zc Zd Ze Zf Zg Zh Zj Zk Zl Zm Zn Zo Zp Zq Zr Zs Zu Zv Zw Zx Zy Zz ZA ZB ZC ZD ZF ZG ZH ZI ZJ ZK ZL ZM ZN ZO ZQ ZR ZS ZT ZU ZV ZW ZX ZY ZZ Z1 Z2 Z3 Z4 Z5 Z6 Z7 Z8 Z9 Ja Jc Jd Je Jf Jg Jh Ji : Value) (W : World) (Q : Exit → Act → World → Prop) (ha : a < 4) (p1 : W.cell? ⟨I,1,none⟩ = some (.int .i64 a)) (pz : W.cell? ⟨g,8 + a,none⟩ = some (.complex .f64 p q)) (fz : W.frozen? ⟨g,8 + a,none⟩ = false) (hb : b < 4) (p2 : W.cell? ⟨I,2,none⟩ = some (.int .i64 b)) (pb : W.cell? ⟨g,8 + b,none⟩ = some (.complex .f64 s t))
    (hQ : ∀ (XS XT XU XV XW XX XY XZ X0 X1 X2 X3 X4 X5 X6 X7 X8 X9 Va Vb Vc Vd Ve Vf Vg Vh Vi Vj Vk Vl Vm Vn Vo Vp Vq Vr Vs Vt Vu Vv Vw : Value) (k r19 r36 : Nat),FR .sub p s r19 → FR .sub q t r36 → Q .normal { tmps := #[.pointer (some ⟨g,0,none⟩),u1,u2,u3,u4,.pointer (some ⟨I,0,none⟩),u6,u7,u8,u9,Ua,Ul,Uw,UH,US,U3,Ye,Yp,YA,YL,YW,Y7,Zi,Zt,ZE,ZP,Z0,Jb,Jj,Jk,Jl,Jm,Jn,Jo,Jp,Jq,Jr,Js,Jt,Ju,Jv,Jw,Jx,Jy,Jz,JA,JB,JC,JD,JE,JF,JG,JH,JI,JJ,JK,JL,JM,JN,JO,JP,JQ,JR,JS,JT,JU,JV,JW,JX,JY,JZ,J0,J1,J2,J3,J4,J5,J6,J7,J8,J9,Xa,Xb,Xc,Xd,Xe,Xf,Xg,Xh,Xi,Xj,Xk,Xl,Xm,Xn,Xo,Xp,Xq,Xr,Xs,Ub,Uc,Ud,Ue,Uf,Ug,Uh,Ui,Uj,Uk,Um,Un,Uo,Up,Uq,Ur,Us,Ut,Uu,Uv,Ux,Uy,Uz,UA,UB,UC,UD,XS,XT,XU,XV,XW,XX,XY,XZ,X0,X1,X2,X3,X4,X5,X6,X7,X8,X9,Va,Vb,Vc,Vd,Ve,Vf,Vg,Vh,Vi,Vj,Vk,Vl,Vm,Vn,Vo,Vp,Vq,Vr,Vs,Vt,Vu,Vv,Vw,Yn,Yo,Yq,Yr,Ys,Yt,Yu,Yv,Yw,Yx,Yy,Yz,YB,YC,YD,YE,YF,YG,YH,YI,YJ,YK,YM,YN,YO,YP,YQ,YR,YS,YT,YU,YV,YX,YY,YZ,Y0,Y1,Y2,Y3,Y4,Y5,Y6,Y8,Y9,Za,Zb,Zc,Zd,Ze,Zf,Zg,Zh,Zj,Zk,Zl,Zm,Zn,Zo,Zp,Zq,Zr,Zs,Zu,Zv,Zw,Zx,Zy,Zz,ZA,ZB,ZC,ZD,ZF,ZG,ZH,ZI,ZJ,ZK,ZL,ZM,ZN,ZO,ZQ,ZR,ZS,ZT,ZU,ZV,ZW,ZX,ZY,ZZ,Z1,Z2,Z3,Z4,Z5,Z6,Z7,Z8,Z9,Ja,Jc,Jd,Je,Jf,Jg,Jh,Ji],defers := [] } ((W.drewN k).setCell ⟨g,8 + a,none⟩ (.complex .f64 r19 r36))) :
    (Code.region 11 rzR11 true).wp Tryd.prog Q { tmps := #[.pointer (some ⟨g,0,none⟩),u1,u2,u3,u4,.pointer (some ⟨I,0,none⟩),u6,u7,u8,u9,Ua,Ul,Uw,UH,US,U3,Ye,Yp,YA,YL,YW,Y7,Zi,Zt,ZE,ZP,Z0,Jb,Jj,Jk,Jl,Jm,Jn,Jo,Jp,Jq,Jr,Js,Jt,Ju,Jv,Jw,Jx,Jy,Jz,JA,JB,JC,JD,JE,JF,JG,JH,JI,JJ,JK,JL,JM,JN,JO,JP,JQ,JR,JS,JT,JU,JV,JW,JX,JY,JZ,J0,J1,J2,J3,J4,J5,J6,J7,J8,J9,Xa,Xb,Xc,Xd,Xe,Xf,Xg,Xh,Xi,Xj,Xk,Xl,Xm,Xn,Xo,Xp,Xq,Xr,Xs,Ub,Uc,Ud,Ue,Uf,Ug,Uh,Ui,Uj,Uk,Um,Un,Uo,Up,Uq,Ur,Us,Ut,Uu,Uv,Ux,Uy,Uz,UA,UB,UC,UD,UE,UF,UG,UI,UJ,UK,UL,UM,UN,UO,UP,UQ,UR,UT,UU,UV,UW,UX,UY,UZ,U0,U1,U2,U4,U5,U6,U7,U8,U9,Ya,Yb,Yc,Yd,Yf,Yg,Yh,Yi,Yj,Yk,Yl,Ym,Yn,Yo,Yq,Yr,Ys,Yt,Yu,Yv,Yw,Yx,Yy,Yz,YB,YC,YD,YE,YF,YG,YH,YI,YJ,YK,YM,YN,YO,YP,YQ,YR,YS,YT,YU,YV,YX,YY,YZ,Y0,Y1,Y2,Y3,Y4,Y5,Y6,Y8,Y9,Za,Zb,Zc,Zd,Ze,Zf,Zg,Zh,Zj,Zk,Zl,Zm,Zn,Zo,Zp,Zq,Zr,Zs,Zu,Zv,Zw,Zx,Zy,Zz,ZA,ZB,ZC,ZD,ZF,ZG,ZH,ZI,ZJ,ZK,ZL,ZM,ZN,ZO,ZQ,ZR,ZS,ZT,ZU,ZV,ZW,ZX,ZY,ZZ,Z1,Z2,Z3,Z4,Z5,Z6,Z7,Z8,Z9,Ja,Jc,Jd,Je,Jf,Jg,Jh,Ji],defers := [] } W := by
  have hA : (a : Int) < 4 := by omega
  have hB : (b : Int) < 4 := by omega
  have p1 : ∀ k,(W.drewN k).cell? ⟨I,1,none⟩ = some (.int .i64 a) := fun _ => p1
  have pz : ∀ k,(W.drewN k).cell? ⟨g,8 + a,none⟩ = some (.complex .f64 p q) := fun _ => pz
  have fz : ∀ k,(W.drewN k).frozen? ⟨g,8 + a,none⟩ = false := fun _ => fz
  have p2 : ∀ k,(W.drewN k).cell? ⟨I,2,none⟩ = some (.int .i64 b) := fun _ => p2
  have pb : ∀ k,(W.drewN k).cell? ⟨g,8 + b,none⟩ = some (.complex .f64 s t) := fun _ => pb
  have hds : dstsOf rzR11 = [127,128,129,130,131,132,133,134,135,136,137,138,139,140,141,142,143,144,145,146,147,148,149,150,151,152,153,154,155,156,157,158,159,160,161,162,163,164,165,166,167] := by kernel_rfl
  refine wp_flow (by kernel_rfl) (lookupE [(127,fun zz => zz = .pointer (some ⟨g,0,none⟩)),(128,fun zz => zz = .pointer (some ⟨I,1,none⟩)),(129,fun zz => zz = .int .i64 a),(130,fun zz => zz = .pointer (some ⟨g,0,none⟩)),(131,fun zz => zz = .pointer (some ⟨I,1,none⟩)),(132,fun zz => zz = .int .i64 a),(133,fun zz => zz = .pointer (some ⟨g,0,none⟩)),(134,fun zz => zz = .pointer (some ⟨g,8,none⟩)),(135,fun zz => zz = .pointer (some ⟨g,8 + a,none⟩)),(136,fun zz => zz = .complex .f64 p q),(137,fun zz => zz = .float .f64 p),(138,fun zz => zz = .pointer (some ⟨g,0,none⟩)),(139,fun zz => zz = .pointer (some ⟨I,2,none⟩)),(140,fun zz => zz = .int .i64 b),(141,fun zz => zz = .pointer (some ⟨g,0,none⟩)),(142,fun zz => zz = .pointer (some ⟨g,8,none⟩)),(143,fun zz => zz = .pointer (some ⟨g,8 + b,none⟩)),(144,fun zz => zz = .complex .f64 s t),(145,fun zz => zz = .float .f64 s),(146,fun zz => ∃ r19,FR .sub p s r19 ∧ zz = .float .f64 r19),(147,fun zz => zz = .pointer (some ⟨g,0,none⟩)),(148,fun zz => zz = .pointer (some ⟨I,1,none⟩)),(149,fun zz => zz = .int .i64 a),(150,fun zz => zz = .pointer (some ⟨g,0,none⟩)),(151,fun zz => zz = .pointer (some ⟨g,8,none⟩)),(152,fun zz => zz = .pointer (some ⟨g,8 + a,none⟩)),(153,fun zz => zz = .complex .f64 p q),(154,fun zz => zz = .float .f64 q),(155,fun zz => zz = .pointer (some ⟨g,0,none⟩)),(156,fun zz => zz = .pointer (some ⟨I,2,none⟩)),(157,fun zz => zz = .int .i64 b),(158,fun zz => zz = .pointer (some ⟨g,0,none⟩)),(159,fun zz => zz = .pointer (some ⟨g,8,none⟩)),(160,fun zz => zz = .pointer (some ⟨g,8 + b,none⟩)),(161,fun zz => zz = .complex .f64 s t),(162,fun zz => zz = .float .f64 t),(163,fun zz => ∃ r36,FR .sub q t r36 ∧ zz = .float .f64 r36),(164,fun zz => ∃ r19 r36,FR .sub p s r19 ∧ FR .sub q t r36 ∧ zz = .complex .f64 r19 r36),(165,fun zz => zz = .pointer (some ⟨g,0,none⟩)),(166,fun zz => zz = .pointer (some ⟨g,8,none⟩)),(167,fun zz => zz = .pointer (some ⟨g,8 + a,none⟩))]) (fun w => ∃ k r19 r36,FR .sub p s r19 ∧ FR .sub q t r36 ∧ w = (W.drewN k).setCell ⟨g,8 + a,none⟩ (.complex .f64 r19 r36)) 41 [127,128,129,130,131,132,133,134,135,136,137,138,139,140,141,142,143,144,145,146,147,148,149,150,151,152,153,154,155,156,157,158,159,160,161,162,163,164,165,166,167] hds (by kernel_rfl) (fun i hi act k hk => ?_) (fun act k hk => ?_) (fun xs w hw => ?_)
  · rcases (show i = 0 ∨ i = 1 ∨ i = 2 ∨ i = 3 ∨ i = 4 ∨ i = 5 ∨ i = 6 ∨ i = 7 ∨ i = 8 ∨ i = 9 ∨ i = 10 ∨ i = 11 ∨ i = 12 ∨ i = 13 ∨ i = 14 ∨ i = 15 ∨ i = 16 ∨ i = 17 ∨ i = 18 ∨ i = 19 ∨ i = 20 ∨ i = 21 ∨ i = 22 ∨ i = 23 ∨ i = 24 ∨ i = 25 ∨ i = 26 ∨ i = 27 ∨ i = 28 ∨ i = 29 ∨ i = 30 ∨ i = 31 ∨ i = 32 ∨ i = 33 ∨ i = 34 ∨ i = 35 ∨ i = 36 ∨ i = 37 ∨ i = 38 ∨ i = 39 ∨ i = 40 by omega) with rfl | rfl | rfl | rfl | rfl | rfl | rfl | rfl | rfl | rfl | rfl | rfl | rfl | rfl | rfl | rfl | rfl | rfl | rfl | rfl | rfl | rfl | rfl | rfl | rfl | rfl | rfl | rfl | rfl | rfl | rfl | rfl | rfl | rfl | rfl | rfl | rfl | rfl | rfl | rfl | rfl
    · have e0 := hk.old_ 0 (.pointer (some ⟨g,0,none⟩)) (by rw [hds]; rfl) rfl
      exact FStep.at_ 127 (.pointer (some ⟨g,0,none⟩)) (by kernel_rfl) (by (conv in opOf _ _ => whnf); go_simp) ⟨k,rfl⟩ rfl
    · have e5 := hk.old_ 5 (.pointer (some ⟨I,0,none⟩)) (by rw [hds]; rfl) rfl
      exact FStep.at_ 128 (.pointer (some ⟨I,1,none⟩)) (by kernel_rfl) (by (conv in opOf _ _ => whnf); go_simp) ⟨k,rfl⟩ rfl
    · have e128 := hk.eq 1 128 (.pointer (some ⟨I,1,none⟩)) (by kernel_rfl) fun _ h => h
      exact FStep.at_ 129 (.int .i64 a) (by kernel_rfl) (by (conv in opOf _ _ => whnf); go_simp) ⟨k,rfl⟩ rfl
    · have e0 := hk.old_ 0 (.pointer (some ⟨g,0,none⟩)) (by rw [hds]; rfl) rfl
      exact FStep.at_ 130 (.pointer (some ⟨g,0,none⟩)) (by kernel_rfl) (by (conv in opOf _ _ => whnf); go_simp) ⟨k,rfl⟩ rfl
    · have e5 := hk.old_ 5 (.pointer (some ⟨I,0,none⟩)) (by rw [hds]; rfl) rfl
      exact FStep.at_ 131 (.pointer (some ⟨I,1,none⟩)) (by kernel_rfl) (by (conv in opOf _ _ => whnf); go_simp) ⟨k,rfl⟩ rfl
    · have e131 := hk.eq 4 131 (.pointer (some ⟨I,1,none⟩)) (by kernel_rfl) fun _ h => h
      exact FStep.at_ 132 (.int .i64 a) (by kernel_rfl) (by (conv in opOf _ _ => whnf); go_simp) ⟨k,rfl⟩ rfl
    · have e130 := hk.eq 3 130 (.pointer (some ⟨g,0,none⟩)) (by kernel_rfl) fun _ h => h
      exact FStep.at_ 133 (.pointer (some ⟨g,0,none⟩)) (by kernel_rfl) (by (conv in opOf _ _ => whnf); go_simp) ⟨k,rfl⟩ rfl
    · have e133 := hk.eq 6 133 (.pointer (some ⟨g,0,none⟩)) (by kernel_rfl) fun _ h => h
      exact FStep.at_ 134 (.pointer (some ⟨g,8,none⟩)) (by kernel_rfl) (by (conv in opOf _ _ => whnf); go_simp) ⟨k,rfl⟩ rfl
    · have e134 := hk.eq 7 134 (.pointer (some ⟨g,8,none⟩)) (by kernel_rfl) fun _ h => h
      have e132 := hk.eq 5 132 (.int .i64 a) (by kernel_rfl) fun _ h => h
      exact FStep.at_ 135 (.pointer (some ⟨g,8 + a,none⟩)) (by kernel_rfl) (by (conv in opOf _ _ => whnf); go_simp) ⟨k,rfl⟩ rfl
    · have e135 := hk.eq 8 135 (.pointer (some ⟨g,8 + a,none⟩)) (by kernel_rfl) fun _ h => h
      exact FStep.at_ 136 (.complex .f64 p q) (by kernel_rfl) (by (conv in opOf _ _ => whnf); go_simp) ⟨k,rfl⟩ rfl
    · have e136 := hk.eq 9 136 (.complex .f64 p q) (by kernel_rfl) fun _ h => h
      exact FStep.at_ 137 (.float .f64 p) (by kernel_rfl) (by (conv in opOf _ _ => whnf); go_simp) ⟨k,rfl⟩ rfl
    · have e0 := hk.old_ 0 (.pointer (some ⟨g,0,none⟩)) (by rw [hds]; rfl) rfl
      exact FStep.at_ 138 (.pointer (some ⟨g,0,none⟩)) (by kernel_rfl) (by (conv in opOf _ _ => whnf); go_simp) ⟨k,rfl⟩ rfl
    · have e5 := hk.old_ 5 (.pointer (some ⟨I,0,none⟩)) (by rw [hds]; rfl) rfl
      exact FStep.at_ 139 (.pointer (some ⟨I,2,none⟩)) (by kernel_rfl) (by (conv in opOf _ _ => whnf); go_simp) ⟨k,rfl⟩ rfl
    · have e139 := hk.eq 12 139 (.pointer (some ⟨I,2,none⟩)) (by kernel_rfl) fun _ h => h
      exact FStep.at_ 140 (.int .i64 b) (by kernel_rfl) (by (conv in opOf _ _ => whnf); go_simp) ⟨k,rfl⟩ rfl
    · have e138 := hk.eq 11 138 (.pointer (some ⟨g,0,none⟩)) (by kernel_rfl) fun _ h => h
      exact FStep.at_ 141 (.pointer (some ⟨g,0,none⟩)) (by kernel_rfl) (by (conv in opOf _ _ => whnf); go_simp) ⟨k,rfl⟩ rfl
    · have e141 := hk.eq 14 141 (.pointer (some ⟨g,0,none⟩)) (by kernel_rfl) fun _ h => h
      exact FStep.at_ 142 (.pointer (some ⟨g,8,none⟩)) (by kernel_rfl) (by (conv in opOf _ _ => whnf); go_simp) ⟨k,rfl⟩ rfl
    · have e142 := hk.eq 15 142 (.pointer (some ⟨g,8,none⟩)) (by kernel_rfl) fun _ h => h
      have e140 := hk.eq 13 140 (.int .i64 b) (by kernel_rfl) fun _ h => h
      exact FStep.at_ 143 (.pointer (some ⟨g,8 + b,none⟩)) (by kernel_rfl) (by (conv in opOf _ _ => whnf); go_simp) ⟨k,rfl⟩ rfl
    · have e143 := hk.eq 16 143 (.pointer (some ⟨g,8 + b,none⟩)) (by kernel_rfl) fun _ h => h
      exact FStep.at_ 144 (.complex .f64 s t) (by kernel_rfl) (by (conv in opOf _ _ => whnf); go_simp) ⟨k,rfl⟩ rfl
    · have e144 := hk.eq 17 144 (.complex .f64 s t) (by kernel_rfl) fun _ h => h
      exact FStep.at_ 145 (.float .f64 s) (by kernel_rfl) (by (conv in opOf _ _ => whnf); go_simp) ⟨k,rfl⟩ rfl
    · have e137 := hk.eq 10 137 (.float .f64 p) (by kernel_rfl) fun _ h => h
      have e145 := hk.eq 18 145 (.float .f64 s) (by kernel_rfl) fun _ h => h
      obtain ⟨k2,hk2⟩ := fwld_drewN .sub p s (W.drewN k)
      have hf := run_fop (P := Tryd.prog) (W.drewN k) .sub (by simp) 146 p s
      exact FStep.at_ (w' := fwld .sub p s (W.drewN k)) 146 (.float .f64 (fres .sub p s (W.drewN k))) (by kernel_rfl) (by (conv in opOf _ _ => whnf); go_simp) ⟨k + k2,by rw [hk2,World.drewN_drewN]⟩ ⟨_,fres_FR _ _ _ _,rfl⟩
    · have e0 := hk.old_ 0 (.pointer (some ⟨g,0,none⟩)) (by rw [hds]; rfl) rfl
      exact FStep.at_ 147 (.pointer (some ⟨g,0,none⟩)) (by kernel_rfl) (by (conv in opOf _ _ => whnf); go_simp) ⟨k,rfl⟩ rfl
    · have e5 := hk.old_ 5 (.pointer (some ⟨I,0,none⟩)) (by rw [hds]; rfl) rfl
      exact FStep.at_ 148 (.pointer (some ⟨I,1,none⟩)) (by kernel_rfl) (by (conv in opOf _ _ => whnf); go_simp) ⟨k,rfl⟩ rfl
    · have e148 := hk.eq 21 148 (.pointer (some ⟨I,1,none⟩)) (by kernel_rfl) fun _ h => h
      exact FStep.at_ 149 (.int .i64 a) (by kernel_rfl) (by (conv in opOf _ _ => whnf); go_simp) ⟨k,rfl⟩ rfl
    · have e147 := hk.eq 20 147 (.pointer (some ⟨g,0,none⟩)) (by kernel_rfl) fun _ h => h
      exact FStep.at_ 150 (.pointer (some ⟨g,0,none⟩)) (by kernel_rfl) (by (conv in opOf _ _ => whnf); go_simp) ⟨k,rfl⟩ rfl
    · have e150 := hk.eq 23 150 (.pointer (some ⟨g,0,none⟩)) (by kernel_rfl) fun _ h => h
      exact FStep.at_ 151 (.pointer (some ⟨g,8,none⟩)) (by kernel_rfl) (by (conv in opOf _ _ => whnf); go_simp) ⟨k,rfl⟩ rfl
    · have e151 := hk.eq 24 151 (.pointer (some ⟨g,8,none⟩)) (by kernel_rfl) fun _ h => h
      have e149 := hk.eq 22 149 (.int .i64 a) (by kernel_rfl) fun _ h => h
      exact FStep.at_ 152 (.pointer (some ⟨g,8 + a,none⟩)) (by kernel_rfl) (by (conv in opOf _ _ => whnf); go_simp) ⟨k,rfl⟩ rfl
    · have e152 := hk.eq 25 152 (.pointer (some ⟨g,8 + a,none⟩)) (by kernel_rfl) fun _ h => h
      exact FStep.at_ 153 (.complex .f64 p q) (by kernel_rfl) (by (conv in opOf _ _ => whnf); go_simp) ⟨k,rfl⟩ rfl
    · have e153 := hk.eq 26 153 (.complex .f64 p q) (by kernel_rfl) fun _ h => h
      exact FStep.at_ 154 (.float .f64 q) (by kernel_rfl) (by (conv in opOf _ _ => whnf); go_simp) ⟨k,rfl⟩ rfl
    · have e0 := hk.old_ 0 (.pointer (some ⟨g,0,none⟩)) (by rw [hds]; rfl) rfl
      exact FStep.at_ 155 (.pointer (some ⟨g,0,none⟩)) (by kernel_rfl) (by (conv in opOf _ _ => whnf); go_simp) ⟨k,rfl⟩ rfl
    · have e5 := hk.old_ 5 (.pointer (some ⟨I,0,none⟩)) (by rw [hds]; rfl) rfl
      exact FStep.at_ 156 (.pointer (some ⟨I,2,none⟩)) (by kernel_rfl) (by (conv in opOf _ _ => whnf); go_simp) ⟨k,rfl⟩ rfl
    · have e156 := hk.eq 29 156 (.pointer (some ⟨I,2,none⟩)) (by kernel_rfl) fun _ h => h
      exact FStep.at_ 157 (.int .i64 b) (by kernel_rfl) (by (conv in opOf _ _ => whnf); go_simp) ⟨k,rfl⟩ rfl
    · have e155 := hk.eq 28 155 (.pointer (some ⟨g,0,none⟩)) (by kernel_rfl) fun _ h => h
      exact FStep.at_ 158 (.pointer (some ⟨g,0,none⟩)) (by kernel_rfl) (by (conv in opOf _ _ => whnf); go_simp) ⟨k,rfl⟩ rfl
    · have e158 := hk.eq 31 158 (.pointer (some ⟨g,0,none⟩)) (by kernel_rfl) fun _ h => h
      exact FStep.at_ 159 (.pointer (some ⟨g,8,none⟩)) (by kernel_rfl) (by (conv in opOf _ _ => whnf); go_simp) ⟨k,rfl⟩ rfl
    · have e159 := hk.eq 32 159 (.pointer (some ⟨g,8,none⟩)) (by kernel_rfl) fun _ h => h
      have e157 := hk.eq 30 157 (.int .i64 b) (by kernel_rfl) fun _ h => h
      exact FStep.at_ 160 (.pointer (some ⟨g,8 + b,none⟩)) (by kernel_rfl) (by (conv in opOf _ _ => whnf); go_simp) ⟨k,rfl⟩ rfl
    · have e160 := hk.eq 33 160 (.pointer (some ⟨g,8 + b,none⟩)) (by kernel_rfl) fun _ h => h
      exact FStep.at_ 161 (.complex .f64 s t) (by kernel_rfl) (by (conv in opOf _ _ => whnf); go_simp) ⟨k,rfl⟩ rfl
    · have e161 := hk.eq 34 161 (.complex .f64 s t) (by kernel_rfl) fun _ h => h
      exact FStep.at_ 162 (.float .f64 t) (by kernel_rfl) (by (conv in opOf _ _ => whnf); go_simp) ⟨k,rfl⟩ rfl
    · have e154 := hk.eq 27 154 (.float .f64 q) (by kernel_rfl) fun _ h => h
      have e162 := hk.eq 35 162 (.float .f64 t) (by kernel_rfl) fun _ h => h
      obtain ⟨k2,hk2⟩ := fwld_drewN .sub q t (W.drewN k)
      have hf := run_fop (P := Tryd.prog) (W.drewN k) .sub (by simp) 146 q t
      exact FStep.at_ (w' := fwld .sub q t (W.drewN k)) 163 (.float .f64 (fres .sub q t (W.drewN k))) (by kernel_rfl) (by (conv in opOf _ _ => whnf); go_simp) ⟨k + k2,by rw [hk2,World.drewN_drewN]⟩ ⟨_,fres_FR _ _ _ _,rfl⟩
    · obtain ⟨x146,e146,hE146⟩ := hk.ex 19 146 (by kernel_rfl)
      obtain ⟨r19,hp146_0,hE146⟩ : ∃ r19,FR .sub p s r19 ∧ x146 = .float .f64 r19 := hE146
      rw [hE146] at e146
      obtain ⟨x163,e163,hE163⟩ := hk.ex 36 163 (by kernel_rfl)
      obtain ⟨r36,hp163_0,hE163⟩ : ∃ r36,FR .sub q t r36 ∧ x163 = .float .f64 r36 := hE163
      rw [hE163] at e163
      exact FStep.at_ 164 (.complex .f64 r19 r36) (by kernel_rfl) (by (conv in opOf _ _ => whnf); go_simp) ⟨k,rfl⟩ ⟨r19,r36,hp146_0,hp163_0,rfl⟩
    · have e127 := hk.eq 0 127 (.pointer (some ⟨g,0,none⟩)) (by kernel_rfl) fun _ h => h
      exact FStep.at_ 165 (.pointer (some ⟨g,0,none⟩)) (by kernel_rfl) (by (conv in opOf _ _ => whnf); go_simp) ⟨k,rfl⟩ rfl
    · have e165 := hk.eq 38 165 (.pointer (some ⟨g,0,none⟩)) (by kernel_rfl) fun _ h => h
      exact FStep.at_ 166 (.pointer (some ⟨g,8,none⟩)) (by kernel_rfl) (by (conv in opOf _ _ => whnf); go_simp) ⟨k,rfl⟩ rfl
    · have e166 := hk.eq 39 166 (.pointer (some ⟨g,8,none⟩)) (by kernel_rfl) fun _ h => h
      have e129 := hk.eq 2 129 (.int .i64 a) (by kernel_rfl) fun _ h => h
      exact FStep.at_ 167 (.pointer (some ⟨g,8 + a,none⟩)) (by kernel_rfl) (by (conv in opOf _ _ => whnf); go_simp) ⟨k,rfl⟩ rfl
  · have e167 := hk.eq 40 167 (.pointer (some ⟨g,8 + a,none⟩)) (by kernel_rfl) fun _ h => h
    obtain ⟨x164,e164,hE164⟩ := hk.ex 37 164 (by kernel_rfl)
    obtain ⟨r19,r36,hp164_0,hp164_1,hE164⟩ : ∃ r19 r36,FR .sub p s r19 ∧ FR .sub q t r36 ∧ x164 = .complex .f64 r19 r36 := hE164
    rw [hE164] at e164
    exact FStep.st_ (w' := (W.drewN k).setCell ⟨g,8 + a,none⟩ (.complex .f64 r19 r36)) (by kernel_rfl) (by (conv in opOf _ _ => whnf); go_simp) ⟨k,r19,r36,hp164_0,hp164_1,rfl⟩
  · obtain ⟨k,r19,r36,hp_0,hp_1,rfl⟩ := hw
    simp only [List.foldl_cons,List.foldl_nil,List.setIfInBounds_toArray,List.set_cons_zero,List.set_cons_succ]
    exact hQ _ _ _ _ _ _ _ _ _ _ _ _ _ _ _ _ _ _ _ _ _ _ _ _ _ _ _ _ _ _ _ _ _ _ _ _ _ _ _ _ _ k r19 r36 hp_0 hp_1
noncomputable def rzR17 : Array Oper := regOf Tryd.f69.body 17
set_option maxRecDepth 100000 in
set_option maxHeartbeats 2000000 in
theorem rz_r17 (g I a : Nat) (p q re im : Nat) (u1 u2 u3 u4 u6 u7 u8 Ul Uw UH US U3 Ye Yp YA YL YW Y7 Zi Zt ZE ZP Z0 Jb Jj Jk Jl Jm Jn Jo Jp Jq Jr Js Jt Ju Jv Jw Jx Jy Jz JA JB JC JD JE JF JG JH JI JJ JK JL JM JN JO JP JQ JR JS JT JU JV JW JX JY JZ J0 J1 J2 J3 J4 J5 J6 J7 J8 J9 Xa Xb Xc Xd Xe Xf Xg Xh Xi Xj Xk Xl Xm Xn Xo Xp Xq Xr Xs Ub Uc Ud Ue Uf Ug Uh Ui Uj Uk Um Un Uo Up Uq Ur Us Ut Uu Uv Ux Uy Uz UA UB UC UD UE UF UG UI UJ UK UL UM UN UO UP UQ UR UT UU UV UW UX UY UZ U0 U1 U2 U4 U5 U6 U7 U8 U9 Ya Yb Yc Yd Yf Yg Yh Yi Yj Yk Yl Ym Yn Yo Yq Yr Ys Yt Yu Yv Yw Yx Yy Yz YB YC YD YE YF YG YH YI YJ YK YM YN YO YP YQ YR YS YT YU YV YX YY YZ Y0 Y1 Y2 Y3 Y4 Y5 Y6 Y8 Y9 Za Zb Zc Zd Ze Zf Zg Zh Zj Zk Zl Zm Zn Zo Zp Zq Zr Zs Zu Zv Zw Zx Zy Zz ZA ZB ZC ZD ZF ZG ZH ZI ZJ ZK ZL ZM ZN ZO ZQ ZR ZS ZT ZU ZV ZW ZX ZY ZZ Z1 Z2 Z3 Z4 Z5 Z6 Z7 Z8 Z9 Ja Jc Jd Je Jf Jg Jh Ji : Value) (W : World) (Q : Exit → Act → World → Prop) (ha : a < 4) (p1 : W.cell? ⟨I,1,none⟩ = some (.int .i64 a)) (pz : W.cell? ⟨g,8 + a,none⟩ = some (.complex .f64 p q)) (fz : W.frozen? ⟨g,8 + a,none⟩ = false)
    (hQ : ∀ (VB VC VD VE VG VH VI VJ VK : Value) (k : Nat),Q .normal { tmps := #[.pointer (some ⟨g,0,none⟩),u1,u2,u3,u4,.pointer (some ⟨I,0,none⟩),u6,u7,u8,.float .f64 re,.float .f64 im,Ul,Uw,UH,US,U3,Ye,Yp,YA,YL,YW,Y7,Zi,Zt,ZE,ZP,Z0,Jb,Jj,Jk,Jl,Jm,Jn,Jo,Jp,Jq,Jr,Js,Jt,Ju,Jv,Jw,Jx,Jy,Jz,JA,JB,JC,JD,JE,JF,JG,JH,JI,JJ,JK,JL,JM,JN,JO,JP,JQ,JR,JS,JT,JU,JV,JW,JX,JY,JZ,J0,J1,J2,J3,J4,J5,J6,J7,J8,J9,Xa,Xb,Xc,Xd,Xe,Xf,Xg,Xh,Xi,Xj,Xk,Xl,Xm,Xn,Xo,Xp,Xq,Xr,Xs,Ub,Uc,Ud,Ue,Uf,Ug,Uh,Ui,Uj,Uk,Um,Un,Uo,Up,Uq,Ur,Us,Ut,Uu,Uv,Ux,Uy,Uz,UA,UB,UC,UD,UE,UF,UG,UI,UJ,UK,UL,UM,UN,UO,UP,UQ,UR,UT,UU,UV,UW,UX,UY,UZ,U0,U1,U2,U4,U5,U6,U7,U8,U9,Ya,Yb,Yc,Yd,Yf,Yg,Yh,Yi,Yj,Yk,Yl,Ym,Yn,Yo,Yq,Yr,Ys,Yt,Yu,Yv,Yw,Yx,Yy,Yz,YB,YC,YD,YE,YF,YG,YH,YI,YJ,YK,YM,YN,YO,YP,YQ,YR,YS,YT,YU,YV,YX,YY,YZ,Y0,Y1,Y2,VB,VC,VD,VE,VG,VH,VI,VJ,VK,Zd,Ze,Zf,Zg,Zh,Zj,Zk,Zl,Zm,Zn,Zo,Zp,Zq,Zr,Zs,Zu,Zv,Zw,Zx,Zy,Zz,ZA,ZB,ZC,ZD,ZF,ZG,ZH,ZI,ZJ,ZK,ZL,ZM,ZN,ZO,ZQ,ZR,ZS,ZT,ZU,ZV,ZW,ZX,ZY,ZZ,Z1,Z2,Z3,Z4,Z5,Z6,Z7,Z8,Z9,Ja,Jc,Jd,Je,Jf,Jg,Jh,Ji],defers := [] } ((W.drewN k).setCell ⟨g,8 + a,none⟩ (.complex .f64 re im))) :
    (Code.region 17 rzR17 true).wp Tryd.prog Q { tmps := #[.pointer (some ⟨g,0,none⟩),u1,u2,u3,u4,.pointer (some ⟨I,0,none⟩),u6,u7,u8,.float .f64 re,.float .f64 im,Ul,Uw,UH,US,U3,Ye,Yp,YA,YL,YW,Y7,Zi,Zt,ZE,ZP,Z0,Jb,Jj,Jk,Jl,Jm,Jn,Jo,Jp,Jq,Jr,Js,Jt,Ju,Jv,Jw,Jx,Jy,Jz,JA,JB,JC,JD,JE,JF,JG,JH,JI,JJ,JK,JL,JM,JN,JO,JP,JQ,JR,JS,JT,JU,JV,JW,JX,JY,JZ,J0,J1,J2,J3,J4,J5,J6,J7,J8,J9,Xa,Xb,Xc,Xd,Xe,Xf,Xg,Xh,Xi,Xj,Xk,Xl,Xm,Xn,Xo,Xp,Xq,Xr,Xs,Ub,Uc,Ud,Ue,Uf,Ug,Uh,Ui,Uj,Uk,Um,Un,Uo,Up,Uq,Ur,Us,Ut,Uu,Uv,Ux,Uy,Uz,UA,UB,UC,UD,UE,UF,UG,UI,UJ,UK,UL,UM,UN,UO,UP,UQ,UR,UT,UU,UV,UW,UX,UY,UZ,U0,U1,U2,U4,U5,U6,U7,U8,U9,Ya,Yb,Yc,Yd,Yf,Yg,Yh,Yi,Yj,Yk,Yl,Ym,Yn,Yo,Yq,Yr,Ys,Yt,Yu,Yv,Yw,Yx,Yy,Yz,YB,YC,YD,YE,YF,YG,YH,YI,YJ,YK,YM,YN,YO,YP,YQ,YR,YS,YT,YU,YV,YX,YY,YZ,Y0,Y1,Y2,Y3,Y4,Y5,Y6,Y8,Y9,Za,Zb,Zc,Zd,Ze,Zf,Zg,Zh,Zj,Zk,Zl,Zm,Zn,Zo,Zp,Zq,Zr,Zs,Zu,Zv,Zw,Zx,Zy,Zz,ZA,ZB,ZC,ZD,ZF,ZG,ZH,ZI,ZJ,ZK,ZL,ZM,ZN,ZO,ZQ,ZR,ZS,ZT,ZU,ZV,ZW,ZX,ZY,ZZ,Z1,Z2,Z3,Z4,Z5,Z6,Z7,Z8,Z9,Ja,Jc,Jd,Je,Jf,Jg,Jh,Ji],defers := [] } W := by
  have hA : (a : Int) < 4 := by omega
  have p1 : ∀ k,(W.drewN k).cell? ⟨I,1,none⟩ = some (.int .i64 a) := fun _ => p1
  have pz : ∀ k,(W.drewN k).cell? ⟨g,8 + a,none⟩ = some (.complex .f64 p q) := fun _ => pz
  have fz : ∀ k,(W.drewN k).frozen? ⟨g,8 + a,none⟩ = false := fun _ => fz
  have hds : dstsOf rzR17 = [206,207,208,209,210,211,212,213,214] := by kernel_rfl
  refine wp_flow (by kernel_rfl) (lookupE [(206,fun zz => zz = .pointer (some ⟨g,0,none⟩)),(207,fun zz => zz = .pointer (some ⟨I,1,none⟩)),(208,fun zz => zz = .int .i64 a),(209,fun zz => zz = .float .f64 re),(210,fun zz => zz = .float .f64 im),(211,fun zz => zz = .complex .f64 re im),(212,fun zz => zz = .pointer (some ⟨g,0,none⟩)),(213,fun zz => zz = .pointer (some ⟨g,8,none⟩)),(214,fun zz => zz = .pointer (some ⟨g,8 + a,none⟩))]) (fun w => ∃ k,w = (W.drewN k).setCell ⟨g,8 + a,none⟩ (.complex .f64 re im)) 9 [206,207,208,209,210,211,212,213,214] hds (by kernel_rfl) (fun i hi act k hk => ?_) (fun act k hk => ?_) (fun xs w hw => ?_)
  · rcases (show i = 0 ∨ i = 1 ∨ i = 2 ∨ i = 3 ∨ i = 4 ∨ i = 5 ∨ i = 6 ∨ i = 7 ∨ i = 8 by omega) with rfl | rfl | rfl | rfl | rfl | rfl | rfl | rfl | rfl
    · have e0 := hk.old_ 0 (.pointer (some ⟨g,0,none⟩)) (by rw [hds]; rfl) rfl
      exact FStep.at_ 206 (.pointer (some ⟨g,0,none⟩)) (by kernel_rfl) (by (conv in opOf _ _ => whnf); go_simp) ⟨k,rfl⟩ rfl
    · have e5 := hk.old_ 5 (.pointer (some ⟨I,0,none⟩)) (by rw [hds]; rfl) rfl
      exact FStep.at_ 207 (.pointer (some ⟨I,1,none⟩)) (by kernel_rfl) (by (conv in opOf _ _ => whnf); go_simp) ⟨k,rfl⟩ rfl
    · have e207 := hk.eq 1 207 (.pointer (some ⟨I,1,none⟩)) (by kernel_rfl) fun _ h => h
      exact FStep.at_ 208 (.int .i64 a) (by kernel_rfl) (by (conv in opOf _ _ => whnf); go_simp) ⟨k,rfl⟩ rfl
    · have e9 := hk.old_ 9 (.float .f64 re) (by rw [hds]; rfl) rfl
      exact FStep.at_ 209 (.float .f64 re) (by kernel_rfl) (by (conv in opOf _ _ => whnf); go_simp) ⟨k,rfl⟩ rfl
    · have e10 := hk.old_ 10 (.float .f64 im) (by rw [hds]; rfl) rfl
      exact FStep.at_ 210 (.float .f64 im) (by kernel_rfl) (by (conv in opOf _ _ => whnf); go_simp) ⟨k,rfl⟩ rfl
    · have e209 := hk.eq 3 209 (.float .f64 re) (by kernel_rfl) fun _ h => h
      have e210 := hk.eq 4 210 (.float .f64 im) (by kernel_rfl) fun _ h => h
      exact FStep.at_ 211 (.complex .f64 re im) (by kernel_rfl) (by (conv in opOf _ _ => whnf); go_simp) ⟨k,rfl⟩ rfl
    · have e206 := hk.eq 0 206 (.pointer (some ⟨g,0,none⟩)) (by kernel_rfl) fun _ h => h
      exact FStep.at_ 212 (.pointer (some ⟨g,0,none⟩)) (by kernel_rfl) (by (conv in opOf _ _ => whnf); go_simp) ⟨k,rfl⟩ rfl
    · have e212 := hk.eq 6 212 (.pointer (some ⟨g,0,none⟩)) (by kernel_rfl) fun _ h => h
      exact FStep.at_ 213 (.pointer (some ⟨g,8,none⟩)) (by kernel_rfl) (by (conv in opOf _ _ => whnf); go_simp) ⟨k,rfl⟩ rfl
    · have e213 := hk.eq 7 213 (.pointer (some ⟨g,8,none⟩)) (by kernel_rfl) fun _ h => h
      have e208 := hk.eq 2 208 (.int .i64 a) (by kernel_rfl) fun _ h => h
      exact FStep.at_ 214 (.pointer (some ⟨g,8 + a,none⟩)) (by kernel_rfl) (by (conv in opOf _ _ => whnf); go_simp) ⟨k,rfl⟩ rfl
  · have e214 := hk.eq 8 214 (.pointer (some ⟨g,8 + a,none⟩)) (by kernel_rfl) fun _ h => h
    have e211 := hk.eq 5 211 (.complex .f64 re im) (by kernel_rfl) fun _ h => h
    exact FStep.st_ (w' := (W.drewN k).setCell ⟨g,8 + a,none⟩ (.complex .f64 re im)) (by kernel_rfl) (by (conv in opOf _ _ => whnf); go_simp) ⟨k,rfl⟩
  · obtain ⟨k,rfl⟩ := hw
    simp only [List.foldl_cons,List.foldl_nil,List.setIfInBounds_toArray,List.set_cons_zero,List.set_cons_succ]
    exact hQ _ _ _ _ _ _ _ _ _ k
noncomputable def rzR19 : Array Oper := regOf Tryd.f69.body 19
set_option maxRecDepth 100000 in
set_option maxHeartbeats 2000000 in
theorem rz_r19 (g I a b c : Nat) (p q : Nat) (x y : Int) (u1 u2 u3 u4 u6 u7 u8 u9 Ua Ul Uw UH US U3 Ye Yp YA YL YW Y7 Zi Zt ZE ZP Z0 Jb Jj Jk Jl Jm Jn Jo Jp Jq Jr Js Jt Ju Jv Jw Jx Jy Jz JA JB JC JD JE JF JG JH JI JJ JK JL JM JN JO JP JQ JR JS JT JU JV JW JX JY JZ J0 J1 J2 J3 J4 J5 J6 J7 J8 J9 Xa Xb Xc Xd Xe Xf Xg Xh Xi Xj Xk Xl Xm Xn Xo Xp Xq Xr Xs Ub Uc Ud Ue Uf Ug Uh Ui Uj Uk Um Un Uo Up Uq Ur Us Ut Uu Uv Ux Uy Uz UA UB UC UD UE UF UG UI UJ UK UL UM UN UO UP UQ UR UT UU UV UW UX UY UZ U0 U1 U2 U4 U5 U6 U7 U8 U9 Ya Yb Yc Yd Yf Yg Yh Yi Yj Yk Yl Ym Yn Yo Yq Yr Ys Yt Yu Yv Yw Yx Yy Yz YB YC YD YE YF YG YH YI YJ YK YM YN YO YP YQ YR YS YT YU YV YX YY YZ Y0 Y1 Y2 Y3 Y4 Y5 Y6 Y8 Y9 Za Zb Zc Zd Ze Zf Zg Zh Zj Zk Zl Zm Zn Zo Zp Zq Zr Zs Zu Zv Zw Zx Zy Zz ZA ZB ZC ZD ZF ZG ZH ZI ZJ ZK ZL ZM ZN ZO ZQ ZR ZS ZT ZU ZV ZW ZX ZY ZZ Z1 Z2 Z3 Z4 Z5 Z6 Z7 Z8 Z9 Ja Jc Jd Je Jf Jg Jh Ji : Value) (W : World) (Q : Exit → Act → World → Prop) (ha : a < 4) (p1 : W.cell? ⟨I,1,none⟩ = some (.int .i64 a)) (pz : W.cell? ⟨g,8 + a,none⟩ = some (.complex .f64 p q)) (fz : W.frozen? ⟨g,8 + a,none⟩ = false) (hb : b < 8) (hc : c < 8) (p2 : W.cell? ⟨I,2,none⟩ = some (.int .i64 b)) (p3 : W.cell? ⟨I,3,none⟩ = some (.int .i32 c)) (px : W.cell? ⟨g,b,none⟩ = some (.int .i32 x)) (py : W.cell? ⟨g,c,none⟩ = some (.int .i32 y))
    (hQ : ∀ (VL VM VN VP VQ VR VS VT VU VV VW VX VY V0 V1 V2 V3 V4 V5 V6 V7 V8 V9 : Value) (k : Nat),Q .normal { tmps := #[.pointer (some ⟨g,0,none⟩),u1,u2,u3,u4,.pointer (some ⟨I,0,none⟩),u6,u7,u8,u9,Ua,Ul,Uw,UH,US,U3,Ye,Yp,YA,YL,YW,Y7,Zi,Zt,ZE,ZP,Z0,Jb,Jj,Jk,Jl,Jm,Jn,Jo,Jp,Jq,Jr,Js,Jt,Ju,Jv,Jw,Jx,Jy,Jz,JA,JB,JC,JD,JE,JF,JG,JH,JI,JJ,JK,JL,JM,JN,JO,JP,JQ,JR,JS,JT,JU,JV,JW,JX,JY,JZ,J0,J1,J2,J3,J4,J5,J6,J7,J8,J9,Xa,Xb,Xc,Xd,Xe,Xf,Xg,Xh,Xi,Xj,Xk,Xl,Xm,Xn,Xo,Xp,Xq,Xr,Xs,Ub,Uc,Ud,Ue,Uf,Ug,Uh,Ui,Uj,Uk,Um,Un,Uo,Up,Uq,Ur,Us,Ut,Uu,Uv,Ux,Uy,Uz,UA,UB,UC,UD,UE,UF,UG,UI,UJ,UK,UL,UM,UN,UO,UP,UQ,UR,UT,UU,UV,UW,UX,UY,UZ,U0,U1,U2,U4,U5,U6,U7,U8,U9,Ya,Yb,Yc,Yd,Yf,Yg,Yh,Yi,Yj,Yk,Yl,Ym,Yn,Yo,Yq,Yr,Ys,Yt,Yu,Yv,Yw,Yx,Yy,Yz,YB,YC,YD,YE,YF,YG,YH,YI,YJ,YK,YM,YN,YO,YP,YQ,YR,YS,YT,YU,YV,YX,YY,YZ,Y0,Y1,Y2,Y3,Y4,Y5,Y6,Y8,Y9,Za,Zb,Zc,Zd,Ze,VL,VM,VN,VP,VQ,VR,VS,VT,VU,VV,VW,VX,VY,V0,V1,V2,V3,V4,V5,V6,V7,V8,V9,ZF,ZG,ZH,ZI,ZJ,ZK,ZL,ZM,ZN,ZO,ZQ,ZR,ZS,ZT,ZU,ZV,ZW,ZX,ZY,ZZ,Z1,Z2,Z3,Z4,Z5,Z6,Z7,Z8,Z9,Ja,Jc,Jd,Je,Jf,Jg,Jh,Ji],defers := [] } ((W.drewN k).setCell ⟨g,8 + a,none⟩ (.complex .f64 (floatOfInt .f64 x) (floatOfInt .f64 y)))) :
    (Code.region 19 rzR19 true).wp Tryd.prog Q { tmps := #[.pointer (some ⟨g,0,none⟩),u1,u2,u3,u4,.pointer (some ⟨I,0,none⟩),u6,u7,u8,u9,Ua,Ul,Uw,UH,US,U3,Ye,Yp,YA,YL,YW,Y7,Zi,Zt,ZE,ZP,Z0,Jb,Jj,Jk,Jl,Jm,Jn,Jo,Jp,Jq,Jr,Js,Jt,Ju,Jv,Jw,Jx,Jy,Jz,JA,JB,JC,JD,JE,JF,JG,JH,JI,JJ,JK,JL,JM,JN,JO,JP,JQ,JR,JS,JT,JU,JV,JW,JX,JY,JZ,J0,J1,J2,J3,J4,J5,J6,J7,J8,J9,Xa,Xb,Xc,Xd,Xe,Xf,Xg,Xh,Xi,Xj,Xk,Xl,Xm,Xn,Xo,Xp,Xq,Xr,Xs,Ub,Uc,Ud,Ue,Uf,Ug,Uh,Ui,Uj,Uk,Um,Un,Uo,Up,Uq,Ur,Us,Ut,Uu,Uv,Ux,Uy,Uz,UA,UB,UC,UD,UE,UF,UG,UI,UJ,UK,UL,UM,UN,UO,UP,UQ,UR,UT,UU,UV,UW,UX,UY,UZ,U0,U1,U2,U4,U5,U6,U7,U8,U9,Ya,Yb,Yc,Yd,Yf,Yg,Yh,Yi,Yj,Yk,Yl,Ym,Yn,Yo,Yq,Yr,Ys,Yt,Yu,Yv,Yw,Yx,Yy,Yz,YB,YC,YD,YE,YF,YG,YH,YI,YJ,YK,YM,YN,YO,YP,YQ,YR,YS,YT,YU,YV,YX,YY,YZ,Y0,Y1,Y2,Y3,Y4,Y5,Y6,Y8,Y9,Za,Zb,Zc,Zd,Ze,Zf,Zg,Zh,Zj,Zk,Zl,Zm,Zn,Zo,Zp,Zq,Zr,Zs,Zu,Zv,Zw,Zx,Zy,Zz,ZA,ZB,ZC,ZD,ZF,ZG,ZH,ZI,ZJ,ZK,ZL,ZM,ZN,ZO,ZQ,ZR,ZS,ZT,ZU,ZV,ZW,ZX,ZY,ZZ,Z1,Z2,Z3,Z4,Z5,Z6,Z7,Z8,Z9,Ja,Jc,Jd,Je,Jf,Jg,Jh,Ji],defers := [] } W := by
  have hA : (a : Int) < 4 := by omega
  have hB : (b : Int) < 8 := by omega
  have hC : (c : Int) < 8 := by omega
  have p1 : ∀ k,(W.drewN k).cell? ⟨I,1,none⟩ = some (.int .i64 a) := fun _ => p1
  have pz : ∀ k,(W.drewN k).cell? ⟨g,8 + a,none⟩ = some (.complex .f64 p q) := fun _ => pz
  have fz : ∀ k,(W.drewN k).frozen? ⟨g,8 + a,none⟩ = false := fun _ => fz
  have p2 : ∀ k,(W.drewN k).cell? ⟨I,2,none⟩ = some (.int .i64 b) := fun _ => p2
  have p3 : ∀ k,(W.drewN k).cell? ⟨I,3,none⟩ = some (.int .i32 c) := fun _ => p3
  have px : ∀ k,(W.drewN k).cell? ⟨g,b,none⟩ = some (.int .i32 x) := fun _ => px
  have py : ∀ k,(W.drewN k).cell? ⟨g,c,none⟩ = some (.int .i32 y) := fun _ => py
  have hds : dstsOf rzR19 = [217,218,219,220,221,222,223,224,225,226,227,228,229,230,231,232,233,234,235,236,237,238,239] := by kernel_rfl
  refine wp_flow (by kernel_rfl) (lookupE [(217,fun zz => zz = .pointer (some ⟨g,0,none⟩)),(218,fun zz => zz = .pointer (some ⟨I,1,none⟩)),(219,fun zz => zz = .int .i64 a),(220,fun zz => zz = .pointer (some ⟨g,0,none⟩)),(221,fun zz => zz = .pointer (some ⟨I,2,none⟩)),(222,fun zz => zz = .int .i64 b),(223,fun zz => zz = .pointer (some ⟨g,0,none⟩)),(224,fun zz => zz = .pointer (some ⟨g,0,none⟩)),(225,fun zz => zz = .pointer (some ⟨g,b,none⟩)),(226,fun zz => zz = .int .i32 x),(227,fun zz => zz = .float .f64 (floatOfInt .f64 x)),(228,fun zz => zz = .pointer (some ⟨g,0,none⟩)),(229,fun zz => zz = .pointer (some ⟨I,3,none⟩)),(230,fun zz => zz = .int .i32 c),(231,fun zz => zz = .pointer (some ⟨g,0,none⟩)),(232,fun zz => zz = .pointer (some ⟨g,0,none⟩)),(233,fun zz => zz = .pointer (some ⟨g,c,none⟩)),(234,fun zz => zz = .int .i32 y),(235,fun zz => zz = .float .f64 (floatOfInt .f64 y)),(236,fun zz => zz = .complex .f64 (floatOfInt .f64 x) (floatOfInt .f64 y)),(237,fun zz => zz = .pointer (some ⟨g,0,none⟩)),(238,fun zz => zz = .pointer (some ⟨g,8,none⟩)),(239,fun zz => zz = .pointer (some ⟨g,8 + a,none⟩))]) (fun w => ∃ k,w = (W.drewN k).setCell ⟨g,8 + a,none⟩ (.complex .f64 (floatOfInt .f64 x) (floatOfInt .f64 y))) 23 [217,218,219,220,221,222,223,224,225,226,227,228,229,230,231,232,233,234,235,236,237,238,239] hds (by kernel_rfl) (fun i hi act k hk => ?_) (fun act k hk => ?_) (fun xs w hw => ?_)
  · rcases (show i = 0 ∨ i = 1 ∨ i = 2 ∨ i = 3 ∨ i = 4 ∨ i = 5 ∨ i = 6 ∨ i = 7 ∨ i = 8 ∨ i = 9 ∨ i = 10 ∨ i = 11 ∨ i = 12 ∨ i = 13 ∨ i = 14 ∨ i = 15 ∨ i = 16 ∨ i = 17 ∨ i = 18 ∨ i = 19 ∨ i = 20 ∨ i = 21 ∨ i = 22 by omega) with rfl | rfl | rfl | rfl | rfl | rfl | rfl | rfl | rfl | rfl | rfl | rfl | rfl | rfl | rfl | rfl | rfl | rfl | rfl | rfl | rfl | rfl | rfl
    · have e0 := hk.old_ 0 (.pointer (some ⟨g,0,none⟩)) (by rw [hds]; rfl) rfl
      exact FStep.at_ 217 (.pointer (some ⟨g,0,none⟩)) (by kernel_rfl) (by (conv in opOf _ _ => whnf); go_simp) ⟨k,rfl⟩ rfl
    · have e5 := hk.old_ 5 (.pointer (some ⟨I,0,none⟩)) (by rw [hds]; rfl) rfl
      exact FStep.at_ 218 (.pointer (some ⟨I,1,none⟩)) (by kernel_rfl) (by (conv in opOf _ _ => whnf); go_simp) ⟨k,rfl⟩ rfl
    · have e218 := hk.eq 1 218 (.pointer (some ⟨I,1,none⟩)) (by kernel_rfl) fun _ h => h
      exact FStep.at_ 219 (.int .i64 a) (by kernel_rfl) (by (conv in opOf _ _ => whnf); go_simp) ⟨k,rfl⟩ rfl
    · have e0 := hk.old_ 0 (.pointer (some ⟨g,0,none⟩)) (by rw [hds]; rfl) rfl
      exact FStep.at_ 220 (.pointer (some ⟨g,0,none⟩)) (by kernel_rfl) (by (conv in opOf _ _ => whnf); go_simp) ⟨k,rfl⟩ rfl
    · have e5 := hk.old_ 5 (.pointer (some ⟨I,0,none⟩)) (by rw [hds]; rfl) rfl
      exact FStep.at_ 221 (.pointer (some ⟨I,2,none⟩)) (by kernel_rfl) (by (conv in opOf _ _ => whnf); go_simp) ⟨k,rfl⟩ rfl
    · have e221 := hk.eq 4 221 (.pointer (some ⟨I,2,none⟩)) (by kernel_rfl) fun _ h => h
      exact FStep.at_ 222 (.int .i64 b) (by kernel_rfl) (by (conv in opOf _ _ => whnf); go_simp) ⟨k,rfl⟩ rfl
    · have e220 := hk.eq 3 220 (.pointer (some ⟨g,0,none⟩)) (by kernel_rfl) fun _ h => h
      exact FStep.at_ 223 (.pointer (some ⟨g,0,none⟩)) (by kernel_rfl) (by (conv in opOf _ _ => whnf); go_simp) ⟨k,rfl⟩ rfl
    · have e223 := hk.eq 6 223 (.pointer (some ⟨g,0,none⟩)) (by kernel_rfl) fun _ h => h
      exact FStep.at_ 224 (.pointer (some ⟨g,0,none⟩)) (by kernel_rfl) (by (conv in opOf _ _ => whnf); go_simp) ⟨k,rfl⟩ rfl
    · have e224 := hk.eq 7 224 (.pointer (some ⟨g,0,none⟩)) (by kernel_rfl) fun _ h => h
      have e222 := hk.eq 5 222 (.int .i64 b) (by kernel_rfl) fun _ h => h
      exact FStep.at_ 225 (.pointer (some ⟨g,b,none⟩)) (by kernel_rfl) (by (conv in opOf _ _ => whnf); go_simp) ⟨k,rfl⟩ rfl
    · have e225 := hk.eq 8 225 (.pointer (some ⟨g,b,none⟩)) (by kernel_rfl) fun _ h => h
      exact FStep.at_ 226 (.int .i32 x) (by kernel_rfl) (by (conv in opOf _ _ => whnf); go_simp) ⟨k,rfl⟩ rfl
    · have e226 := hk.eq 9 226 (.int .i32 x) (by kernel_rfl) fun _ h => h
      exact FStep.at_ 227 (.float .f64 (floatOfInt .f64 x)) (by kernel_rfl) (by (conv in opOf _ _ => whnf); go_simp) ⟨k,rfl⟩ rfl
    · have e0 := hk.old_ 0 (.pointer (some ⟨g,0,none⟩)) (by rw [hds]; rfl) rfl
      exact FStep.at_ 228 (.pointer (some ⟨g,0,none⟩)) (by kernel_rfl) (by (conv in opOf _ _ => whnf); go_simp) ⟨k,rfl⟩ rfl
    · have e5 := hk.old_ 5 (.pointer (some ⟨I,0,none⟩)) (by rw [hds]; rfl) rfl
      exact FStep.at_ 229 (.pointer (some ⟨I,3,none⟩)) (by kernel_rfl) (by (conv in opOf _ _ => whnf); go_simp) ⟨k,rfl⟩ rfl
    · have e229 := hk.eq 12 229 (.pointer (some ⟨I,3,none⟩)) (by kernel_rfl) fun _ h => h
      exact FStep.at_ 230 (.int .i32 c) (by kernel_rfl) (by (conv in opOf _ _ => whnf); go_simp) ⟨k,rfl⟩ rfl
    · have e228 := hk.eq 11 228 (.pointer (some ⟨g,0,none⟩)) (by kernel_rfl) fun _ h => h
      exact FStep.at_ 231 (.pointer (some ⟨g,0,none⟩)) (by kernel_rfl) (by (conv in opOf _ _ => whnf); go_simp) ⟨k,rfl⟩ rfl
    · have e231 := hk.eq 14 231 (.pointer (some ⟨g,0,none⟩)) (by kernel_rfl) fun _ h => h
      exact FStep.at_ 232 (.pointer (some ⟨g,0,none⟩)) (by kernel_rfl) (by (conv in opOf _ _ => whnf); go_simp) ⟨k,rfl⟩ rfl
    · have e232 := hk.eq 15 232 (.pointer (some ⟨g,0,none⟩)) (by kernel_rfl) fun _ h => h
      have e230 := hk.eq 13 230 (.int .i32 c) (by kernel_rfl) fun _ h => h
      exact FStep.at_ 233 (.pointer (some ⟨g,c,none⟩)) (by kernel_rfl) (by (conv in opOf _ _ => whnf); go_simp) ⟨k,rfl⟩ rfl
    · have e233 := hk.eq 16 233 (.pointer (some ⟨g,c,none⟩)) (by kernel_rfl) fun _ h => h
      exact FStep.at_ 234 (.int .i32 y) (by kernel_rfl) (by (conv in opOf _ _ => whnf); go_simp) ⟨k,rfl⟩ rfl
    · have e234 := hk.eq 17 234 (.int .i32 y) (by kernel_rfl) fun _ h => h
      exact FStep.at_ 235 (.float .f64 (floatOfInt .f64 y)) (by kernel_rfl) (by (conv in opOf _ _ => whnf); go_simp) ⟨k,rfl⟩ rfl
    · have e227 := hk.eq 10 227 (.float .f64 (floatOfInt .f64 x)) (by kernel_rfl) fun _ h => h
      have e235 := hk.eq 18 235 (.float .f64 (floatOfInt .f64 y)) (by kernel_rfl) fun _ h => h
      exact FStep.at_ 236 (.complex .f64 (floatOfInt .f64 x) (floatOfInt .f64 y)) (by kernel_rfl) (by (conv in opOf _ _ => whnf); go_simp) ⟨k,rfl⟩ rfl
    · have e217 := hk.eq 0 217 (.pointer (some ⟨g,0,none⟩)) (by kernel_rfl) fun _ h => h
      exact FStep.at_ 237 (.pointer (some ⟨g,0,none⟩)) (by kernel_rfl) (by (conv in opOf _ _ => whnf); go_simp) ⟨k,rfl⟩ rfl
    · have e237 := hk.eq 20 237 (.pointer (some ⟨g,0,none⟩)) (by kernel_rfl) fun _ h => h
      exact FStep.at_ 238 (.pointer (some ⟨g,8,none⟩)) (by kernel_rfl) (by (conv in opOf _ _ => whnf); go_simp) ⟨k,rfl⟩ rfl
    · have e238 := hk.eq 21 238 (.pointer (some ⟨g,8,none⟩)) (by kernel_rfl) fun _ h => h
      have e219 := hk.eq 2 219 (.int .i64 a) (by kernel_rfl) fun _ h => h
      exact FStep.at_ 239 (.pointer (some ⟨g,8 + a,none⟩)) (by kernel_rfl) (by (conv in opOf _ _ => whnf); go_simp) ⟨k,rfl⟩ rfl
  · have e239 := hk.eq 22 239 (.pointer (some ⟨g,8 + a,none⟩)) (by kernel_rfl) fun _ h => h
    have e236 := hk.eq 19 236 (.complex .f64 (floatOfInt .f64 x) (floatOfInt .f64 y)) (by kernel_rfl) fun _ h => h
    exact FStep.st_ (w' := (W.drewN k).setCell ⟨g,8 + a,none⟩ (.complex .f64 (floatOfInt .f64 x) (floatOfInt .f64 y))) (by kernel_rfl) (by (conv in opOf _ _ => whnf); go_simp) ⟨k,rfl⟩
  · obtain ⟨k,rfl⟩ := hw
    simp only [List.foldl_cons,List.foldl_nil,List.setIfInBounds_toArray,List.set_cons_zero,List.set_cons_succ]
    exact hQ _ _ _ _ _ _ _ _ _ _ _ _ _ _ _ _ _ _ _ _ _ _ _ k
noncomputable def rzR28 : Array Oper := regOf Tryd.f69.body 28
set_option maxRecDepth 100000 in
set_option maxHeartbeats 2000000 in
theorem rz_r28 (g I a : Nat) (m : Int) (u1 u2 u3 u4 u6 u7 u8 u9 Ua Ul UH US U3 Ye Yp YA YL YW Y7 Zi Zt ZE ZP Z0 Jb Jj Jk Jl Jm Jn Jo Jp Jq Jr Js Jt Ju Jv Jw Jx Jy Jz JA JB JC JD JE JF JG JH JI JJ JK JL JM JN JO JP JQ JR JS JT JU JV JW JX JY JZ J0 J1 J2 J3 J4 J5 J6 J7 J8 J9 Xa Xb Xc Xd Xe Xf Xg Xh Xi Xj Xk Xl Xm Xn Xo Xp Xq Xr Xs Ub Uc Ud Ue Uf Ug Uh Ui Uj Uk Um Un Uo Up Uq Ur Us Ut Uu Uv Ux Uy Uz UA UB UC UD UE UF UG UI UJ UK UL UM UN UO UP UQ UR UT UU UV UW UX UY UZ U0 U1 U2 U4 U5 U6 U7 U8 U9 Ya Yb Yc Yd Yf Yg Yh Yi Yj Yk Yl Ym Yn Yo Yq Yr Ys Yt Yu Yv Yw Yx Yy Yz YB YC YD YE YF YG YH YI YJ YK YM YN YO YP YQ YR YS YT YU YV YX YY YZ Y0 Y1 Y2 Y3 Y4 Y5 Y6 Y8 Y9 Za Zb Zc Zd Ze Zf Zg Zh Zj Zk Zl Zm Zn Zo Zp Zq Zr Zs Zu Zv Zw Zx Zy Zz ZA ZB ZC ZD ZF ZG ZH ZI ZJ ZK ZL ZM ZN ZO ZQ ZR ZS ZT ZU ZV ZW ZX ZY ZZ Z1 Z2 Z3 Z4 Z5 Z6 Z7 Z8 Z9 Ja Jc Jd Je Jf Jg Jh Ji : Value) (W : World) (Q : Exit → Act → World → Prop) (ha : a < 8) (p1 : W.cell? ⟨I,1,none⟩ = some (.int .i64 a)) (z0 : Value) (pz : W.cell? ⟨g,a,none⟩ = some z0) (fz : W.frozen? ⟨g,a,none⟩ = false)
    (hQ : ∀ (Kd Kf Kg Kh Ki Kj Kk : Value) (k : Nat),Q .normal { tmps := #[.pointer (some ⟨g,0,none⟩),u1,u2,u3,u4,.pointer (some ⟨I,0,none⟩),u6,u7,u8,u9,Ua,Ul,.int .i32 m,UH,US,U3,Ye,Yp,YA,YL,YW,Y7,Zi,Zt,ZE,ZP,Z0,Jb,Jj,Jk,Jl,Jm,Jn,Jo,Jp,Jq,Jr,Js,Jt,Ju,Jv,Jw,Jx,Jy,Jz,JA,JB,JC,JD,JE,JF,JG,JH,JI,JJ,JK,JL,JM,JN,JO,JP,JQ,JR,JS,JT,JU,JV,JW,JX,JY,JZ,J0,J1,J2,J3,J4,J5,J6,J7,J8,J9,Xa,Xb,Xc,Xd,Xe,Xf,Xg,Xh,Xi,Xj,Xk,Xl,Xm,Xn,Xo,Xp,Xq,Xr,Xs,Ub,Uc,Ud,Ue,Uf,Ug,Uh,Ui,Uj,Uk,Um,Un,Uo,Up,Uq,Ur,Us,Ut,Uu,Uv,Ux,Uy,Uz,UA,UB,UC,UD,UE,UF,UG,UI,UJ,UK,UL,UM,UN,UO,UP,UQ,UR,UT,UU,UV,UW,UX,UY,UZ,U0,U1,U2,U4,U5,U6,U7,U8,U9,Ya,Yb,Yc,Yd,Yf,Yg,Yh,Yi,Yj,Yk,Yl,Ym,Yn,Yo,Yq,Yr,Ys,Yt,Yu,Yv,Yw,Yx,Yy,Yz,YB,YC,YD,YE,YF,YG,YH,YI,YJ,YK,YM,YN,YO,YP,YQ,YR,YS,YT,YU,YV,YX,YY,YZ,Y0,Y1,Y2,Y3,Y4,Y5,Y6,Y8,Y9,Za,Zb,Zc,Zd,Ze,Zf,Zg,Zh,Zj,Zk,Zl,Zm,Zn,Zo,Zp,Zq,Zr,Zs,Zu,Zv,Zw,Zx,Zy,Zz,ZA,ZB,ZC,ZD,ZF,ZG,ZH,ZI,ZJ,ZK,ZL,ZM,ZN,ZO,ZQ,ZR,ZS,ZT,ZU,ZV,ZW,ZX,ZY,ZZ,Z1,Z2,Z3,Z4,Z5,Z6,Z7,Z8,Z9,Kd,Kf,Kg,Kh,Ki,Kj,Kk,Ji],defers := [] } ((W.drewN k).setCell ⟨g,a,none⟩ (.int .i32 m))) :
    (Code.region 28 rzR28 true).wp Tryd.prog Q { tmps := #[.pointer (some ⟨g,0,none⟩),u1,u2,u3,u4,.pointer (some ⟨I,0,none⟩),u6,u7,u8,u9,Ua,Ul,.int .i32 m,UH,US,U3,Ye,Yp,YA,YL,YW,Y7,Zi,Zt,ZE,ZP,Z0,Jb,Jj,Jk,Jl,Jm,Jn,Jo,Jp,Jq,Jr,Js,Jt,Ju,Jv,Jw,Jx,Jy,Jz,JA,JB,JC,JD,JE,JF,JG,JH,JI,JJ,JK,JL,JM,JN,JO,JP,JQ,JR,JS,JT,JU,JV,JW,JX,JY,JZ,J0,J1,J2,J3,J4,J5,J6,J7,J8,J9,Xa,Xb,Xc,Xd,Xe,Xf,Xg,Xh,Xi,Xj,Xk,Xl,Xm,Xn,Xo,Xp,Xq,Xr,Xs,Ub,Uc,Ud,Ue,Uf,Ug,Uh,Ui,Uj,Uk,Um,Un,Uo,Up,Uq,Ur,Us,Ut,Uu,Uv,Ux,Uy,Uz,UA,UB,UC,UD,UE,UF,UG,UI,UJ,UK,UL,UM,UN,UO,UP,UQ,UR,UT,UU,UV,UW,UX,UY,UZ,U0,U1,U2,U4,U5,U6,U7,U8,U9,Ya,Yb,Yc,Yd,Yf,Yg,Yh,Yi,Yj,Yk,Yl,Ym,Yn,Yo,Yq,Yr,Ys,Yt,Yu,Yv,Yw,Yx,Yy,Yz,YB,YC,YD,YE,YF,YG,YH,YI,YJ,YK,YM,YN,YO,YP,YQ,YR,YS,YT,YU,YV,YX,YY,YZ,Y0,Y1,Y2,Y3,Y4,Y5,Y6,Y8,Y9,Za,Zb,Zc,Zd,Ze,Zf,Zg,Zh,Zj,Zk,Zl,Zm,Zn,Zo,Zp,Zq,Zr,Zs,Zu,Zv,Zw,Zx,Zy,Zz,ZA,ZB,ZC,ZD,ZF,ZG,ZH,ZI,ZJ,ZK,ZL,ZM,ZN,ZO,ZQ,ZR,ZS,ZT,ZU,ZV,ZW,ZX,ZY,ZZ,Z1,Z2,Z3,Z4,Z5,Z6,Z7,Z8,Z9,Ja,Jc,Jd,Je,Jf,Jg,Jh,Ji],defers := [] } W := by
  have hA : (a : Int) < 8 := by omega
  have p1 : ∀ k,(W.drewN k).cell? ⟨I,1,none⟩ = some (.int .i64 a) := fun _ => p1
  have pz : ∀ k,(W.drewN k).cell? ⟨g,a,none⟩ = some z0 := fun _ => pz
  have fz : ∀ k,(W.drewN k).frozen? ⟨g,a,none⟩ = false := fun _ => fz
  have hds : dstsOf rzR28 = [269,270,271,272,273,274,275] := by kernel_rfl
  refine wp_flow (by kernel_rfl) (lookupE [(269,fun zz => zz = .pointer (some ⟨g,0,none⟩)),(270,fun zz => zz = .pointer (some ⟨I,1,none⟩)),(271,fun zz => zz = .int .i64 a),(272,fun zz => zz = .int .i32 m),(273,fun zz => zz = .pointer (some ⟨g,0,none⟩)),(274,fun zz => zz = .pointer (some ⟨g,0,none⟩)),(275,fun zz => zz = .pointer (some ⟨g,a,none⟩))]) (fun w => ∃ k,w = (W.drewN k).setCell ⟨g,a,none⟩ (.int .i32 m)) 7 [269,270,271,272,273,274,275] hds (by kernel_rfl) (fun i hi act k hk => ?_) (fun act k hk => ?_) (fun xs w hw => ?_)
  · rcases (show i = 0 ∨ i = 1 ∨ i = 2 ∨ i = 3 ∨ i = 4 ∨ i = 5 ∨ i = 6 by omega) with rfl | rfl | rfl | rfl | rfl | rfl | rfl
    · have e0 := hk.old_ 0 (.pointer (some ⟨g,0,none⟩)) (by rw [hds]; rfl) rfl
      exact FStep.at_ 269 (.pointer (some ⟨g,0,none⟩)) (by kernel_rfl) (by (conv in opOf _ _ => whnf); go_simp) ⟨k,rfl⟩ rfl
    · have e5 := hk.old_ 5 (.pointer (some ⟨I,0,none⟩)) (by rw [hds]; rfl) rfl
      exact FStep.at_ 270 (.pointer (some ⟨I,1,none⟩)) (by kernel_rfl) (by (conv in opOf _ _ => whnf); go_simp) ⟨k,rfl⟩ rfl
    · have e270 := hk.eq 1 270 (.pointer (some ⟨I,1,none⟩)) (by kernel_rfl) fun _ h => h
      exact FStep.at_ 271 (.int .i64 a) (by kernel_rfl) (by (conv in opOf _ _ => whnf); go_simp) ⟨k,rfl⟩ rfl
    · have e12 := hk.old_ 12 (.int .i32 m) (by rw [hds]; rfl) rfl
      exact FStep.at_ 272 (.int .i32 m) (by kernel_rfl) (by (conv in opOf _ _ => whnf); go_simp) ⟨k,rfl⟩ rfl
    · have e269 := hk.eq 0 269 (.pointer (some ⟨g,0,none⟩)) (by kernel_rfl) fun _ h => h
      exact FStep.at_ 273 (.pointer (some ⟨g,0,none⟩)) (by kernel_rfl) (by (conv in opOf _ _ => whnf); go_simp) ⟨k,rfl⟩ rfl
    · have e273 := hk.eq 4 273 (.pointer (some ⟨g,0,none⟩)) (by kernel_rfl) fun _ h => h
      exact FStep.at_ 274 (.pointer (some ⟨g,0,none⟩)) (by kernel_rfl) (by (conv in opOf _ _ => whnf); go_simp) ⟨k,rfl⟩ rfl
    · have e274 := hk.eq 5 274 (.pointer (some ⟨g,0,none⟩)) (by kernel_rfl) fun _ h => h
      have e271 := hk.eq 2 271 (.int .i64 a) (by kernel_rfl) fun _ h => h
      exact FStep.at_ 275 (.pointer (some ⟨g,a,none⟩)) (by kernel_rfl) (by (conv in opOf _ _ => whnf); go_simp) ⟨k,rfl⟩ rfl
  · have e275 := hk.eq 6 275 (.pointer (some ⟨g,a,none⟩)) (by kernel_rfl) fun _ h => h
    have e272 := hk.eq 3 272 (.int .i32 m) (by kernel_rfl) fun _ h => h
    exact FStep.st_ (w' := (W.drewN k).setCell ⟨g,a,none⟩ (.int .i32 m)) (by kernel_rfl) (by (conv in opOf _ _ => whnf); go_simp) ⟨k,rfl⟩
  · obtain ⟨k,rfl⟩ := hw
    simp only [List.foldl_cons,List.foldl_nil,List.setIfInBounds_toArray,List.set_cons_zero,List.set_cons_succ]
    exact hQ _ _ _ _ _ _ _ k
end Go.Proofs.YthcjnkakfpmpbaaDoor
