import Derived.Test.YthcjnkakfpmpbaaDoorQ6
import Derived.Test.YthcjnkakfpmpbaaDoorQ7
import Derived.Test.YthcjnkakfpmpbaaDoorQ3
import Derived.Deep.QuietTactic
namespace Go.Proofs.YthcjnkakfpmpbaaDoor
open Go.RowKit
set_option linter.unusedVariables false
set_option linter.unusedSimpArgs false
noncomputable def roR27 : Array Oper := regOf Tryd.f70.body 27
set_option maxRecDepth 100000 in
set_option maxHeartbeats 2000000 in
theorem ro_r27 (g I a : Nat) (x : Int) (u1 u2 u3 u4 u5 u7 u8 u9 Ua Ul Uw UH US U3 Ye Yp YA YL YW Y7 Zi Zt Zz ZA ZB ZC ZD ZE ZF ZG ZH ZI ZJ ZK ZL ZM ZN ZO ZP ZQ ZR ZS ZT ZU ZV ZW ZX ZY ZZ Z0 Z1 Z2 Z3 Z4 Z5 Z6 Z7 Z8 Z9 Ja Jb Jc Jd Je Jf Jg Jh Ji Jj Jk Jl Jm Jn Jo Jp Jq Jr Js Jt Ju Jv Jw Jx Jy Jz JA JB JC JD JE JF JG JH JI JJ JK JL JM Ub Uc Ud Ue Uf Ug Uh Ui Uj Uk Um Un Uo Up Uq Ur Us Ut Uu Uv Ux Uy Uz UA UB UC UD UE UF UG UI UJ UK UL UM UN UO UP UQ UR UT UU UV UW UX UY UZ U0 U1 U2 U4 U5 U6 U7 U8 U9 Ya Yb Yc Yd Yf Yg Yh Yi Yj Yk Yl Ym Yn Yo Yq Yr Ys Yt Yu Yv Yw Yx Yy Yz YB YC YD YE YF YG YH YI YJ YK YM YN YO YP YQ YR YS YT YU YV YX YY YZ Y0 Y1 Y2 Y3 Y4 Y5 Y6 Y8 Y9 Za Zb Zc Zd Ze Zf Zg Zh Zj Zk Zl Zm Zn Zo Zp Zq Zr Zs Zu Zv Zw Zx Zy : Value) (W : World) (Q : Exit → Act → World → Prop) (ha : a < 8) (p1 : W.cell? ⟨I,1,none⟩ = some (.int .i64 a)) (px : W.cell? ⟨g,a,none⟩ = some (.int .i32 x)) (fz : W.frozen? ⟨g,a,none⟩ = false) (x0 : -2147483648 ≤ x) (x1 : x ≤ 2147483647)
    (hQ : ∀ (Xs Xt Xu Xv Xw Xx Xy Xz XA XB XC XD XE XF : Value) (k : Nat),Q .normal { tmps := #[.pointer (some ⟨g,0,none⟩),u1,u2,u3,u4,u5,.pointer (some ⟨I,0,none⟩),u7,u8,u9,Ua,Ul,Uw,UH,US,U3,Ye,Yp,YA,YL,YW,Y7,Zi,Zt,Zz,ZA,ZB,ZC,ZD,ZE,ZF,ZG,ZH,ZI,ZJ,ZK,ZL,ZM,ZN,ZO,ZP,ZQ,ZR,ZS,ZT,ZU,ZV,ZW,ZX,ZY,ZZ,Z0,Z1,Z2,Z3,Z4,Z5,Z6,Z7,Z8,Z9,Ja,Jb,Jc,Jd,Je,Jf,Jg,Jh,Ji,Jj,Jk,Jl,Jm,Jn,Jo,Jp,Jq,Jr,Js,Jt,Ju,Jv,Jw,Jx,Jy,Jz,JA,JB,JC,JD,JE,JF,JG,JH,JI,JJ,JK,JL,JM,Ub,Uc,Ud,Ue,Uf,Ug,Uh,Ui,Uj,Uk,Um,Un,Uo,Up,Uq,Ur,Us,Ut,Uu,Uv,Ux,Uy,Uz,UA,UB,UC,UD,UE,UF,UG,UI,UJ,UK,UL,UM,UN,UO,UP,UQ,UR,UT,UU,UV,UW,UX,UY,UZ,U0,U1,Xs,Xt,Xu,Xv,Xw,Xx,Xy,Xz,XA,XB,XC,XD,XE,XF,Yi,Yj,Yk,Yl,Ym,Yn,Yo,Yq,Yr,Ys,Yt,Yu,Yv,Yw,Yx,Yy,Yz,YB,YC,YD,YE,YF,YG,YH,YI,YJ,YK,YM,YN,YO,YP,YQ,YR,YS,YT,YU,YV,YX,YY,YZ,Y0,Y1,Y2,Y3,Y4,Y5,Y6,Y8,Y9,Za,Zb,Zc,Zd,Ze,Zf,Zg,Zh,Zj,Zk,Zl,Zm,Zn,Zo,Zp,Zq,Zr,Zs,Zu,Zv,Zw,Zx,Zy],defers := [] } ((W.drewN k).setCell ⟨g,a,none⟩ (.int .i32 (wrap32 (-x))))) :
    (Code.region 27 roR27 true).wp Tryd.prog Q { tmps := #[.pointer (some ⟨g,0,none⟩),u1,u2,u3,u4,u5,.pointer (some ⟨I,0,none⟩),u7,u8,u9,Ua,Ul,Uw,UH,US,U3,Ye,Yp,YA,YL,YW,Y7,Zi,Zt,Zz,ZA,ZB,ZC,ZD,ZE,ZF,ZG,ZH,ZI,ZJ,ZK,ZL,ZM,ZN,ZO,ZP,ZQ,ZR,ZS,ZT,ZU,ZV,ZW,ZX,ZY,ZZ,Z0,Z1,Z2,Z3,Z4,Z5,Z6,Z7,Z8,Z9,Ja,Jb,Jc,Jd,Je,Jf,Jg,Jh,Ji,Jj,Jk,Jl,Jm,Jn,Jo,Jp,Jq,Jr,Js,Jt,Ju,Jv,Jw,Jx,Jy,Jz,JA,JB,JC,JD,JE,JF,JG,JH,JI,JJ,JK,JL,JM,Ub,Uc,Ud,Ue,Uf,Ug,Uh,Ui,Uj,Uk,Um,Un,Uo,Up,Uq,Ur,Us,Ut,Uu,Uv,Ux,Uy,Uz,UA,UB,UC,UD,UE,UF,UG,UI,UJ,UK,UL,UM,UN,UO,UP,UQ,UR,UT,UU,UV,UW,UX,UY,UZ,U0,U1,U2,U4,U5,U6,U7,U8,U9,Ya,Yb,Yc,Yd,Yf,Yg,Yh,Yi,Yj,Yk,Yl,Ym,Yn,Yo,Yq,Yr,Ys,Yt,Yu,Yv,Yw,Yx,Yy,Yz,YB,YC,YD,YE,YF,YG,YH,YI,YJ,YK,YM,YN,YO,YP,YQ,YR,YS,YT,YU,YV,YX,YY,YZ,Y0,Y1,Y2,Y3,Y4,Y5,Y6,Y8,Y9,Za,Zb,Zc,Zd,Ze,Zf,Zg,Zh,Zj,Zk,Zl,Zm,Zn,Zo,Zp,Zq,Zr,Zs,Zu,Zv,Zw,Zx,Zy],defers := [] } W := by
  have hA : (a : Int) < 8 := by omega
  have p1 : ∀ k,(W.drewN k).cell? ⟨I,1,none⟩ = some (.int .i64 a) := fun _ => p1
  have px : ∀ k,(W.drewN k).cell? ⟨g,a,none⟩ = some (.int .i32 x) := fun _ => px
  have fz : ∀ k,(W.drewN k).frozen? ⟨g,a,none⟩ = false := fun _ => fz
  have hds : dstsOf roR27 = [149,150,151,152,153,154,155,156,157,158,159,160,161,162] := by kernel_rfl
  refine wp_flow (by kernel_rfl) (lookupE [(149,fun zz => zz = .pointer (some ⟨g,0,none⟩)),(150,fun zz => zz = .pointer (some ⟨I,1,none⟩)),(151,fun zz => zz = .int .i64 a),(152,fun zz => zz = .pointer (some ⟨g,0,none⟩)),(153,fun zz => zz = .pointer (some ⟨I,1,none⟩)),(154,fun zz => zz = .int .i64 a),(155,fun zz => zz = .pointer (some ⟨g,0,none⟩)),(156,fun zz => zz = .pointer (some ⟨g,0,none⟩)),(157,fun zz => zz = .pointer (some ⟨g,a,none⟩)),(158,fun zz => zz = .int .i32 x),(159,fun zz => zz = .int .i32 (wrap32 (-x))),(160,fun zz => zz = .pointer (some ⟨g,0,none⟩)),(161,fun zz => zz = .pointer (some ⟨g,0,none⟩)),(162,fun zz => zz = .pointer (some ⟨g,a,none⟩))]) (fun w => ∃ k,w = (W.drewN k).setCell ⟨g,a,none⟩ (.int .i32 (wrap32 (-x)))) 14 [149,150,151,152,153,154,155,156,157,158,159,160,161,162] hds (by kernel_rfl) (fun i hi act k hk => ?_) (fun act k hk => ?_) (fun xs w hw => ?_)
  · rcases (show i = 0 ∨ i = 1 ∨ i = 2 ∨ i = 3 ∨ i = 4 ∨ i = 5 ∨ i = 6 ∨ i = 7 ∨ i = 8 ∨ i = 9 ∨ i = 10 ∨ i = 11 ∨ i = 12 ∨ i = 13 by omega) with rfl | rfl | rfl | rfl | rfl | rfl | rfl | rfl | rfl | rfl | rfl | rfl | rfl | rfl
    · have e0 := hk.old_ 0 (.pointer (some ⟨g,0,none⟩)) (by rw [hds]; rfl) rfl
      exact FStep.at_ 149 (.pointer (some ⟨g,0,none⟩)) (by kernel_rfl) (by (conv in opOf _ _ => whnf); go_simp) ⟨k,rfl⟩ rfl
    · have e6 := hk.old_ 6 (.pointer (some ⟨I,0,none⟩)) (by rw [hds]; rfl) rfl
      exact FStep.at_ 150 (.pointer (some ⟨I,1,none⟩)) (by kernel_rfl) (by (conv in opOf _ _ => whnf); go_simp) ⟨k,rfl⟩ rfl
    · have e150 := hk.eq 1 150 (.pointer (some ⟨I,1,none⟩)) (by kernel_rfl) fun _ h => h
      exact FStep.at_ 151 (.int .i64 a) (by kernel_rfl) (by (conv in opOf _ _ => whnf); go_simp) ⟨k,rfl⟩ rfl
    · have e0 := hk.old_ 0 (.pointer (some ⟨g,0,none⟩)) (by rw [hds]; rfl) rfl
      exact FStep.at_ 152 (.pointer (some ⟨g,0,none⟩)) (by kernel_rfl) (by (conv in opOf _ _ => whnf); go_simp) ⟨k,rfl⟩ rfl
    · have e6 := hk.old_ 6 (.pointer (some ⟨I,0,none⟩)) (by rw [hds]; rfl) rfl
      exact FStep.at_ 153 (.pointer (some ⟨I,1,none⟩)) (by kernel_rfl) (by (conv in opOf _ _ => whnf); go_simp) ⟨k,rfl⟩ rfl
    · have e153 := hk.eq 4 153 (.pointer (some ⟨I,1,none⟩)) (by kernel_rfl) fun _ h => h
      exact FStep.at_ 154 (.int .i64 a) (by kernel_rfl) (by (conv in opOf _ _ => whnf); go_simp) ⟨k,rfl⟩ rfl
    · have e152 := hk.eq 3 152 (.pointer (some ⟨g,0,none⟩)) (by kernel_rfl) fun _ h => h
      exact FStep.at_ 155 (.pointer (some ⟨g,0,none⟩)) (by kernel_rfl) (by (conv in opOf _ _ => whnf); go_simp) ⟨k,rfl⟩ rfl
    · have e155 := hk.eq 6 155 (.pointer (some ⟨g,0,none⟩)) (by kernel_rfl) fun _ h => h
      exact FStep.at_ 156 (.pointer (some ⟨g,0,none⟩)) (by kernel_rfl) (by (conv in opOf _ _ => whnf); go_simp) ⟨k,rfl⟩ rfl
    · have e156 := hk.eq 7 156 (.pointer (some ⟨g,0,none⟩)) (by kernel_rfl) fun _ h => h
      have e154 := hk.eq 5 154 (.int .i64 a) (by kernel_rfl) fun _ h => h
      exact FStep.at_ 157 (.pointer (some ⟨g,a,none⟩)) (by kernel_rfl) (by (conv in opOf _ _ => whnf); go_simp) ⟨k,rfl⟩ rfl
    · have e157 := hk.eq 8 157 (.pointer (some ⟨g,a,none⟩)) (by kernel_rfl) fun _ h => h
      exact FStep.at_ 158 (.int .i32 x) (by kernel_rfl) (by (conv in opOf _ _ => whnf); go_simp) ⟨k,rfl⟩ rfl
    · have e158 := hk.eq 9 158 (.int .i32 x) (by kernel_rfl) fun _ h => h
      exact FStep.at_ 159 (.int .i32 (wrap32 (-x))) (by kernel_rfl) (by (conv in opOf _ _ => whnf); go_simp; (simp only [IntKind.wrap,IntKind.bits,IntKind.signed,wrap32]; first | rfl | omega | (simp; omega))) ⟨k,rfl⟩ rfl
    · have e149 := hk.eq 0 149 (.pointer (some ⟨g,0,none⟩)) (by kernel_rfl) fun _ h => h
      exact FStep.at_ 160 (.pointer (some ⟨g,0,none⟩)) (by kernel_rfl) (by (conv in opOf _ _ => whnf); go_simp) ⟨k,rfl⟩ rfl
    · have e160 := hk.eq 11 160 (.pointer (some ⟨g,0,none⟩)) (by kernel_rfl) fun _ h => h
      exact FStep.at_ 161 (.pointer (some ⟨g,0,none⟩)) (by kernel_rfl) (by (conv in opOf _ _ => whnf); go_simp) ⟨k,rfl⟩ rfl
    · have e161 := hk.eq 12 161 (.pointer (some ⟨g,0,none⟩)) (by kernel_rfl) fun _ h => h
      have e151 := hk.eq 2 151 (.int .i64 a) (by kernel_rfl) fun _ h => h
      exact FStep.at_ 162 (.pointer (some ⟨g,a,none⟩)) (by kernel_rfl) (by (conv in opOf _ _ => whnf); go_simp) ⟨k,rfl⟩ rfl
  · have e162 := hk.eq 13 162 (.pointer (some ⟨g,a,none⟩)) (by kernel_rfl) fun _ h => h
    have e159 := hk.eq 10 159 (.int .i32 (wrap32 (-x))) (by kernel_rfl) fun _ h => h
    exact FStep.st_ (w' := (W.drewN k).setCell ⟨g,a,none⟩ (.int .i32 (wrap32 (-x)))) (by kernel_rfl) (by (conv in opOf _ _ => whnf); go_simp) ⟨k,rfl⟩
  · obtain ⟨k,rfl⟩ := hw
    simp only [List.foldl_cons,List.foldl_nil,List.setIfInBounds_toArray,List.set_cons_zero,List.set_cons_succ]
    exact hQ _ _ _ _ _ _ _ _ _ _ _ _ _ _ k
noncomputable def roR29 : Array Oper := regOf Tryd.f70.body 29
set_option maxRecDepth 100000 in
set_option maxHeartbeats 2000000 in
theorem ro_r29 (g I a : Nat) (x : Int) (u1 u2 u3 u4 u5 u7 u8 u9 Ua Ul Uw UH US U3 Ye Yp YA YL YW Y7 Zi Zt Zz ZA ZB ZC ZD ZE ZF ZG ZH ZI ZJ ZK ZL ZM ZN ZO ZP ZQ ZR ZS ZT ZU ZV ZW ZX ZY ZZ Z0 Z1 Z2 Z3 Z4 Z5 Z6 Z7 Z8 Z9 Ja Jb Jc Jd Je Jf Jg Jh Ji Jj Jk Jl Jm Jn Jo Jp Jq Jr Js Jt Ju Jv Jw Jx Jy Jz JA JB JC JD JE JF JG JH JI JJ JK JL JM Ub Uc Ud Ue Uf Ug Uh Ui Uj Uk Um Un Uo Up Uq Ur Us Ut Uu Uv Ux Uy Uz UA UB UC UD UE UF UG UI UJ UK UL UM UN UO UP UQ UR UT UU UV UW UX UY UZ U0 U1 U2 U4 U5 U6 U7 U8 U9 Ya Yb Yc Yd Yf Yg Yh Yi Yj Yk Yl Ym Yn Yo Yq Yr Ys Yt Yu Yv Yw Yx Yy Yz YB YC YD YE YF YG YH YI YJ YK YM YN YO YP YQ YR YS YT YU YV YX YY YZ Y0 Y1 Y2 Y3 Y4 Y5 Y6 Y8 Y9 Za Zb Zc Zd Ze Zf Zg Zh Zj Zk Zl Zm Zn Zo Zp Zq Zr Zs Zu Zv Zw Zx Zy : Value) (W : World) (Q : Exit → Act → World → Prop) (ha : a < 8) (p1 : W.cell? ⟨I,1,none⟩ = some (.int .i64 a)) (px : W.cell? ⟨g,a,none⟩ = some (.int .i32 x)) (fz : W.frozen? ⟨g,a,none⟩ = false) (x0 : -2147483648 ≤ x) (x1 : x ≤ 2147483647)
    (hQ : ∀ (XG XH XI XJ XK XL XM XN XO XP XQ XR XS XT : Value) (k : Nat),Q .normal { tmps := #[.pointer (some ⟨g,0,none⟩),u1,u2,u3,u4,u5,.pointer (some ⟨I,0,none⟩),u7,u8,u9,Ua,Ul,Uw,UH,US,U3,Ye,Yp,YA,YL,YW,Y7,Zi,Zt,Zz,ZA,ZB,ZC,ZD,ZE,ZF,ZG,ZH,ZI,ZJ,ZK,ZL,ZM,ZN,ZO,ZP,ZQ,ZR,ZS,ZT,ZU,ZV,ZW,ZX,ZY,ZZ,Z0,Z1,Z2,Z3,Z4,Z5,Z6,Z7,Z8,Z9,Ja,Jb,Jc,Jd,Je,Jf,Jg,Jh,Ji,Jj,Jk,Jl,Jm,Jn,Jo,Jp,Jq,Jr,Js,Jt,Ju,Jv,Jw,Jx,Jy,Jz,JA,JB,JC,JD,JE,JF,JG,JH,JI,JJ,JK,JL,JM,Ub,Uc,Ud,Ue,Uf,Ug,Uh,Ui,Uj,Uk,Um,Un,Uo,Up,Uq,Ur,Us,Ut,Uu,Uv,Ux,Uy,Uz,UA,UB,UC,UD,UE,UF,UG,UI,UJ,UK,UL,UM,UN,UO,UP,UQ,UR,UT,UU,UV,UW,UX,UY,UZ,U0,U1,U2,U4,U5,U6,U7,U8,U9,Ya,Yb,Yc,Yd,Yf,Yg,Yh,Yi,Yj,XG,XH,XI,XJ,XK,XL,XM,XN,XO,XP,XQ,XR,XS,XT,Yz,YB,YC,YD,YE,YF,YG,YH,YI,YJ,YK,YM,YN,YO,YP,YQ,YR,YS,YT,YU,YV,YX,YY,YZ,Y0,Y1,Y2,Y3,Y4,Y5,Y6,Y8,Y9,Za,Zb,Zc,Zd,Ze,Zf,Zg,Zh,Zj,Zk,Zl,Zm,Zn,Zo,Zp,Zq,Zr,Zs,Zu,Zv,Zw,Zx,Zy],defers := [] } ((W.drewN k).setCell ⟨g,a,none⟩ (.int .i32 (bits BinOp.xor IntKind.i32 (-1) x)))) :
    (Code.region 29 roR29 true).wp Tryd.prog Q { tmps := #[.pointer (some ⟨g,0,none⟩),u1,u2,u3,u4,u5,.pointer (some ⟨I,0,none⟩),u7,u8,u9,Ua,Ul,Uw,UH,US,U3,Ye,Yp,YA,YL,YW,Y7,Zi,Zt,Zz,ZA,ZB,ZC,ZD,ZE,ZF,ZG,ZH,ZI,ZJ,ZK,ZL,ZM,ZN,ZO,ZP,ZQ,ZR,ZS,ZT,ZU,ZV,ZW,ZX,ZY,ZZ,Z0,Z1,Z2,Z3,Z4,Z5,Z6,Z7,Z8,Z9,Ja,Jb,Jc,Jd,Je,Jf,Jg,Jh,Ji,Jj,Jk,Jl,Jm,Jn,Jo,Jp,Jq,Jr,Js,Jt,Ju,Jv,Jw,Jx,Jy,Jz,JA,JB,JC,JD,JE,JF,JG,JH,JI,JJ,JK,JL,JM,Ub,Uc,Ud,Ue,Uf,Ug,Uh,Ui,Uj,Uk,Um,Un,Uo,Up,Uq,Ur,Us,Ut,Uu,Uv,Ux,Uy,Uz,UA,UB,UC,UD,UE,UF,UG,UI,UJ,UK,UL,UM,UN,UO,UP,UQ,UR,UT,UU,UV,UW,UX,UY,UZ,U0,U1,U2,U4,U5,U6,U7,U8,U9,Ya,Yb,Yc,Yd,Yf,Yg,Yh,Yi,Yj,Yk,Yl,Ym,Yn,Yo,Yq,Yr,Ys,Yt,Yu,Yv,Yw,Yx,Yy,Yz,YB,YC,YD,YE,YF,YG,YH,YI,YJ,YK,YM,YN,YO,YP,YQ,YR,YS,YT,YU,YV,YX,YY,YZ,Y0,Y1,Y2,Y3,Y4,Y5,Y6,Y8,Y9,Za,Zb,Zc,Zd,Ze,Zf,Zg,Zh,Zj,Zk,Zl,Zm,Zn,Zo,Zp,Zq,Zr,Zs,Zu,Zv,Zw,Zx,Zy],defers := [] } W := by
  have hA : (a : Int) < 8 := by omega
  have p1 : ∀ k,(W.drewN k).cell? ⟨I,1,none⟩ = some (.int .i64 a) := fun _ => p1
  have px : ∀ k,(W.drewN k).cell? ⟨g,a,none⟩ = some (.int .i32 x) := fun _ => px
  have fz : ∀ k,(W.drewN k).frozen? ⟨g,a,none⟩ = false := fun _ => fz
  have hds : dstsOf roR29 = [165,166,167,168,169,170,171,172,173,174,175,176,177,178] := by kernel_rfl
  refine wp_flow (by kernel_rfl) (lookupE [(165,fun zz => zz = .pointer (some ⟨g,0,none⟩)),(166,fun zz => zz = .pointer (some ⟨I,1,none⟩)),(167,fun zz => zz = .int .i64 a),(168,fun zz => zz = .pointer (some ⟨g,0,none⟩)),(169,fun zz => zz = .pointer (some ⟨I,1,none⟩)),(170,fun zz => zz = .int .i64 a),(171,fun zz => zz = .pointer (some ⟨g,0,none⟩)),(172,fun zz => zz = .pointer (some ⟨g,0,none⟩)),(173,fun zz => zz = .pointer (some ⟨g,a,none⟩)),(174,fun zz => zz = .int .i32 x),(175,fun zz => zz = .int .i32 (bits BinOp.xor IntKind.i32 (-1) x)),(176,fun zz => zz = .pointer (some ⟨g,0,none⟩)),(177,fun zz => zz = .pointer (some ⟨g,0,none⟩)),(178,fun zz => zz = .pointer (some ⟨g,a,none⟩))]) (fun w => ∃ k,w = (W.drewN k).setCell ⟨g,a,none⟩ (.int .i32 (bits BinOp.xor IntKind.i32 (-1) x))) 14 [165,166,167,168,169,170,171,172,173,174,175,176,177,178] hds (by kernel_rfl) (fun i hi act k hk => ?_) (fun act k hk => ?_) (fun xs w hw => ?_)
  · rcases (show i = 0 ∨ i = 1 ∨ i = 2 ∨ i = 3 ∨ i = 4 ∨ i = 5 ∨ i = 6 ∨ i = 7 ∨ i = 8 ∨ i = 9 ∨ i = 10 ∨ i = 11 ∨ i = 12 ∨ i = 13 by omega) with rfl | rfl | rfl | rfl | rfl | rfl | rfl | rfl | rfl | rfl | rfl | rfl | rfl | rfl
    · have e0 := hk.old_ 0 (.pointer (some ⟨g,0,none⟩)) (by rw [hds]; rfl) rfl
      exact FStep.at_ 165 (.pointer (some ⟨g,0,none⟩)) (by kernel_rfl) (by (conv in opOf _ _ => whnf); go_simp) ⟨k,rfl⟩ rfl
    · have e6 := hk.old_ 6 (.pointer (some ⟨I,0,none⟩)) (by rw [hds]; rfl) rfl
      exact FStep.at_ 166 (.pointer (some ⟨I,1,none⟩)) (by kernel_rfl) (by (conv in opOf _ _ => whnf); go_simp) ⟨k,rfl⟩ rfl
    · have e166 := hk.eq 1 166 (.pointer (some ⟨I,1,none⟩)) (by kernel_rfl) fun _ h => h
      exact FStep.at_ 167 (.int .i64 a) (by kernel_rfl) (by (conv in opOf _ _ => whnf); go_simp) ⟨k,rfl⟩ rfl
    · have e0 := hk.old_ 0 (.pointer (some ⟨g,0,none⟩)) (by rw [hds]; rfl) rfl
      exact FStep.at_ 168 (.pointer (some ⟨g,0,none⟩)) (by kernel_rfl) (by (conv in opOf _ _ => whnf); go_simp) ⟨k,rfl⟩ rfl
    · have e6 := hk.old_ 6 (.pointer (some ⟨I,0,none⟩)) (by rw [hds]; rfl) rfl
      exact FStep.at_ 169 (.pointer (some ⟨I,1,none⟩)) (by kernel_rfl) (by (conv in opOf _ _ => whnf); go_simp) ⟨k,rfl⟩ rfl
    · have e169 := hk.eq 4 169 (.pointer (some ⟨I,1,none⟩)) (by kernel_rfl) fun _ h => h
      exact FStep.at_ 170 (.int .i64 a) (by kernel_rfl) (by (conv in opOf _ _ => whnf); go_simp) ⟨k,rfl⟩ rfl
    · have e168 := hk.eq 3 168 (.pointer (some ⟨g,0,none⟩)) (by kernel_rfl) fun _ h => h
      exact FStep.at_ 171 (.pointer (some ⟨g,0,none⟩)) (by kernel_rfl) (by (conv in opOf _ _ => whnf); go_simp) ⟨k,rfl⟩ rfl
    · have e171 := hk.eq 6 171 (.pointer (some ⟨g,0,none⟩)) (by kernel_rfl) fun _ h => h
      exact FStep.at_ 172 (.pointer (some ⟨g,0,none⟩)) (by kernel_rfl) (by (conv in opOf _ _ => whnf); go_simp) ⟨k,rfl⟩ rfl
    · have e172 := hk.eq 7 172 (.pointer (some ⟨g,0,none⟩)) (by kernel_rfl) fun _ h => h
      have e170 := hk.eq 5 170 (.int .i64 a) (by kernel_rfl) fun _ h => h
      exact FStep.at_ 173 (.pointer (some ⟨g,a,none⟩)) (by kernel_rfl) (by (conv in opOf _ _ => whnf); go_simp) ⟨k,rfl⟩ rfl
    · have e173 := hk.eq 8 173 (.pointer (some ⟨g,a,none⟩)) (by kernel_rfl) fun _ h => h
      exact FStep.at_ 174 (.int .i32 x) (by kernel_rfl) (by (conv in opOf _ _ => whnf); go_simp) ⟨k,rfl⟩ rfl
    · have e174 := hk.eq 9 174 (.int .i32 x) (by kernel_rfl) fun _ h => h
      exact FStep.at_ 175 (.int .i32 (bits BinOp.xor IntKind.i32 (-1) x)) (by kernel_rfl) (by (conv in opOf _ _ => whnf); go_simp; rfl) ⟨k,rfl⟩ rfl
    · have e165 := hk.eq 0 165 (.pointer (some ⟨g,0,none⟩)) (by kernel_rfl) fun _ h => h
      exact FStep.at_ 176 (.pointer (some ⟨g,0,none⟩)) (by kernel_rfl) (by (conv in opOf _ _ => whnf); go_simp) ⟨k,rfl⟩ rfl
    · have e176 := hk.eq 11 176 (.pointer (some ⟨g,0,none⟩)) (by kernel_rfl) fun _ h => h
      exact FStep.at_ 177 (.pointer (some ⟨g,0,none⟩)) (by kernel_rfl) (by (conv in opOf _ _ => whnf); go_simp) ⟨k,rfl⟩ rfl
    · have e177 := hk.eq 12 177 (.pointer (some ⟨g,0,none⟩)) (by kernel_rfl) fun _ h => h
      have e167 := hk.eq 2 167 (.int .i64 a) (by kernel_rfl) fun _ h => h
      exact FStep.at_ 178 (.pointer (some ⟨g,a,none⟩)) (by kernel_rfl) (by (conv in opOf _ _ => whnf); go_simp) ⟨k,rfl⟩ rfl
  · have e178 := hk.eq 13 178 (.pointer (some ⟨g,a,none⟩)) (by kernel_rfl) fun _ h => h
    have e175 := hk.eq 10 175 (.int .i32 (bits BinOp.xor IntKind.i32 (-1) x)) (by kernel_rfl) fun _ h => h
    exact FStep.st_ (w' := (W.drewN k).setCell ⟨g,a,none⟩ (.int .i32 (bits BinOp.xor IntKind.i32 (-1) x))) (by kernel_rfl) (by (conv in opOf _ _ => whnf); go_simp) ⟨k,rfl⟩
  · obtain ⟨k,rfl⟩ := hw
    simp only [List.foldl_cons,List.foldl_nil,List.setIfInBounds_toArray,List.set_cons_zero,List.set_cons_succ]
    exact hQ _ _ _ _ _ _ _ _ _ _ _ _ _ _ k
noncomputable def roR32 : Array Oper := regOf Tryd.f70.body 32
set_option maxRecDepth 100000 in
set_option maxHeartbeats 2000000 in
theorem ro_r32 (g I a : Nat) (m : Int) (u1 u2 u3 u4 u5 u7 u8 u9 Ua Ul Uw UH US U3 Ye Yp YA YL YW Y7 Zi Zt Zz ZA ZB ZC ZD ZE ZF ZG ZH ZI ZJ ZK ZL ZM ZN ZO ZP ZQ ZR ZS ZT ZU ZV ZW ZX ZY ZZ Z0 Z1 Z2 Z3 Z4 Z5 Z6 Z7 Z8 Z9 Ja Jb Jc Jd Je Jf Jg Jh Ji Jj Jk Jl Jm Jn Jo Jp Jq Jr Js Jt Ju Jv Jw Jx Jy Jz JA JB JC JD JE JF JG JH JI JJ JK JL JM Ub Uc Ud Ue Uf Ug Uh Ui Uj Uk Um Un Uo Up Uq Ur Us Ut Uu Uv Ux Uy Uz UA UB UC UD UE UF UG UI UJ UK UL UM UN UO UP UQ UR UT UU UV UW UX UY UZ U0 U1 U2 U4 U5 U6 U7 U8 U9 Ya Yb Yc Yd Yf Yg Yh Yi Yj Yk Yl Ym Yn Yo Yq Yr Ys Yt Yu Yv Yw Yx Yy Yz YB YC YD YE YF YG YH YI YJ YK YM YN YO YP YQ YR YS YT YU YV YX YY YZ Y0 Y1 Y2 Y3 Y4 Y5 Y6 Y8 Y9 Za Zb Zc Zd Ze Zf Zg Zh Zj Zk Zl Zm Zn Zo Zp Zq Zr Zs Zu Zv Zw Zx Zy : Value) (W : World) (Q : Exit → Act → World → Prop) (ha : a < 8) (p1 : W.cell? ⟨I,1,none⟩ = some (.int .i64 a)) (z0 : Value) (px : W.cell? ⟨g,a,none⟩ = some z0) (fz : W.frozen? ⟨g,a,none⟩ = false) (p3 : W.cell? ⟨I,3,none⟩ = some (.int .i32 m))
    (hQ : ∀ (XU XV XW XX XY XZ X0 X1 : Value) (k : Nat),Q .normal { tmps := #[.pointer (some ⟨g,0,none⟩),u1,u2,u3,u4,u5,.pointer (some ⟨I,0,none⟩),u7,u8,u9,Ua,Ul,Uw,UH,US,U3,Ye,Yp,YA,YL,YW,Y7,Zi,Zt,Zz,ZA,ZB,ZC,ZD,ZE,ZF,ZG,ZH,ZI,ZJ,ZK,ZL,ZM,ZN,ZO,ZP,ZQ,ZR,ZS,ZT,ZU,ZV,ZW,ZX,ZY,ZZ,Z0,Z1,Z2,Z3,Z4,Z5,Z6,Z7,Z8,Z9,Ja,Jb,Jc,Jd,Je,Jf,Jg,Jh,Ji,Jj,Jk,Jl,Jm,Jn,Jo,Jp,Jq,Jr,Js,Jt,Ju,Jv,Jw,Jx,Jy,Jz,JA,JB,JC,JD,JE,JF,JG,JH,JI,JJ,JK,JL,JM,Ub,Uc,Ud,Ue,Uf,Ug,Uh,Ui,Uj,Uk,Um,Un,Uo,Up,Uq,Ur,Us,Ut,Uu,Uv,Ux,Uy,Uz,UA,UB,UC,UD,UE,UF,UG,UI,UJ,UK,UL,UM,UN,UO,UP,UQ,UR,UT,UU,UV,UW,UX,UY,UZ,U0,U1,U2,U4,U5,U6,U7,U8,U9,Ya,Yb,Yc,Yd,Yf,Yg,Yh,Yi,Yj,Yk,Yl,Ym,Yn,Yo,Yq,Yr,Ys,Yt,Yu,Yv,Yw,Yx,Yy,Yz,YB,YC,XU,XV,XW,XX,XY,XZ,X0,X1,YM,YN,YO,YP,YQ,YR,YS,YT,YU,YV,YX,YY,YZ,Y0,Y1,Y2,Y3,Y4,Y5,Y6,Y8,Y9,Za,Zb,Zc,Zd,Ze,Zf,Zg,Zh,Zj,Zk,Zl,Zm,Zn,Zo,Zp,Zq,Zr,Zs,Zu,Zv,Zw,Zx,Zy],defers := [] } ((W.drewN k).setCell ⟨g,a,none⟩ (.int .i32 m))) :
    (Code.region 32 roR32 true).wp Tryd.prog Q { tmps := #[.pointer (some ⟨g,0,none⟩),u1,u2,u3,u4,u5,.pointer (some ⟨I,0,none⟩),u7,u8,u9,Ua,Ul,Uw,UH,US,U3,Ye,Yp,YA,YL,YW,Y7,Zi,Zt,Zz,ZA,ZB,ZC,ZD,ZE,ZF,ZG,ZH,ZI,ZJ,ZK,ZL,ZM,ZN,ZO,ZP,ZQ,ZR,ZS,ZT,ZU,ZV,ZW,ZX,ZY,ZZ,Z0,Z1,Z2,Z3,Z4,Z5,Z6,Z7,Z8,Z9,Ja,Jb,Jc,Jd,Je,Jf,Jg,Jh,Ji,Jj,Jk,Jl,Jm,Jn,Jo,Jp,Jq,Jr,Js,Jt,Ju,Jv,Jw,Jx,Jy,Jz,JA,JB,JC,JD,JE,JF,JG,JH,JI,JJ,JK,JL,JM,Ub,Uc,Ud,Ue,Uf,Ug,Uh,Ui,Uj,Uk,Um,Un,Uo,Up,Uq,Ur,Us,Ut,Uu,Uv,Ux,Uy,Uz,UA,UB,UC,UD,UE,UF,UG,UI,UJ,UK,UL,UM,UN,UO,UP,UQ,UR,UT,UU,UV,UW,UX,UY,UZ,U0,U1,U2,U4,U5,U6,U7,U8,U9,Ya,Yb,Yc,Yd,Yf,Yg,Yh,Yi,Yj,Yk,Yl,Ym,Yn,Yo,Yq,Yr,Ys,Yt,Yu,Yv,Yw,Yx,Yy,Yz,YB,YC,YD,YE,YF,YG,YH,YI,YJ,YK,YM,YN,YO,YP,YQ,YR,YS,YT,YU,YV,YX,YY,YZ,Y0,Y1,Y2,Y3,Y4,Y5,Y6,Y8,Y9,Za,Zb,Zc,Zd,Ze,Zf,Zg,Zh,Zj,Zk,Zl,Zm,Zn,Zo,Zp,Zq,Zr,Zs,Zu,Zv,Zw,Zx,Zy],defers := [] } W := by
  have hA : (a : Int) < 8 := by omega
  have p1 : ∀ k,(W.drewN k).cell? ⟨I,1,none⟩ = some (.int .i64 a) := fun _ => p1
  have px : ∀ k,(W.drewN k).cell? ⟨g,a,none⟩ = some (z0) := fun _ => px
  have fz : ∀ k,(W.drewN k).frozen? ⟨g,a,none⟩ = false := fun _ => fz
  have p3 : ∀ k,(W.drewN k).cell? ⟨I,3,none⟩ = some (.int .i32 m) := fun _ => p3
  have hds : dstsOf roR32 = [182,183,184,185,186,187,188,189] := by kernel_rfl
  refine wp_flow (by kernel_rfl) (lookupE [(182,fun zz => zz = .pointer (some ⟨g,0,none⟩)),(183,fun zz => zz = .pointer (some ⟨I,1,none⟩)),(184,fun zz => zz = .int .i64 a),(185,fun zz => zz = .pointer (some ⟨I,3,none⟩)),(186,fun zz => zz = .int .i32 m),(187,fun zz => zz = .pointer (some ⟨g,0,none⟩)),(188,fun zz => zz = .pointer (some ⟨g,0,none⟩)),(189,fun zz => zz = .pointer (some ⟨g,a,none⟩))]) (fun w => ∃ k,w = (W.drewN k).setCell ⟨g,a,none⟩ (.int .i32 m)) 8 [182,183,184,185,186,187,188,189] hds (by kernel_rfl) (fun i hi act k hk => ?_) (fun act k hk => ?_) (fun xs w hw => ?_)
  · rcases (show i = 0 ∨ i = 1 ∨ i = 2 ∨ i = 3 ∨ i = 4 ∨ i = 5 ∨ i = 6 ∨ i = 7 by omega) with rfl | rfl | rfl | rfl | rfl | rfl | rfl | rfl
    · have e0 := hk.old_ 0 (.pointer (some ⟨g,0,none⟩)) (by rw [hds]; rfl) rfl
      exact FStep.at_ 182 (.pointer (some ⟨g,0,none⟩)) (by kernel_rfl) (by (conv in opOf _ _ => whnf); go_simp) ⟨k,rfl⟩ rfl
    · have e6 := hk.old_ 6 (.pointer (some ⟨I,0,none⟩)) (by rw [hds]; rfl) rfl
      exact FStep.at_ 183 (.pointer (some ⟨I,1,none⟩)) (by kernel_rfl) (by (conv in opOf _ _ => whnf); go_simp) ⟨k,rfl⟩ rfl
    · have e183 := hk.eq 1 183 (.pointer (some ⟨I,1,none⟩)) (by kernel_rfl) fun _ h => h
      exact FStep.at_ 184 (.int .i64 a) (by kernel_rfl) (by (conv in opOf _ _ => whnf); go_simp) ⟨k,rfl⟩ rfl
    · have e6 := hk.old_ 6 (.pointer (some ⟨I,0,none⟩)) (by rw [hds]; rfl) rfl
      exact FStep.at_ 185 (.pointer (some ⟨I,3,none⟩)) (by kernel_rfl) (by (conv in opOf _ _ => whnf); go_simp) ⟨k,rfl⟩ rfl
    · have e185 := hk.eq 3 185 (.pointer (some ⟨I,3,none⟩)) (by kernel_rfl) fun _ h => h
      exact FStep.at_ 186 (.int .i32 m) (by kernel_rfl) (by (conv in opOf _ _ => whnf); go_simp) ⟨k,rfl⟩ rfl
    · have e182 := hk.eq 0 182 (.pointer (some ⟨g,0,none⟩)) (by kernel_rfl) fun _ h => h
      exact FStep.at_ 187 (.pointer (some ⟨g,0,none⟩)) (by kernel_rfl) (by (conv in opOf _ _ => whnf); go_simp) ⟨k,rfl⟩ rfl
    · have e187 := hk.eq 5 187 (.pointer (some ⟨g,0,none⟩)) (by kernel_rfl) fun _ h => h
      exact FStep.at_ 188 (.pointer (some ⟨g,0,none⟩)) (by kernel_rfl) (by (conv in opOf _ _ => whnf); go_simp) ⟨k,rfl⟩ rfl
    · have e188 := hk.eq 6 188 (.pointer (some ⟨g,0,none⟩)) (by kernel_rfl) fun _ h => h
      have e184 := hk.eq 2 184 (.int .i64 a) (by kernel_rfl) fun _ h => h
      exact FStep.at_ 189 (.pointer (some ⟨g,a,none⟩)) (by kernel_rfl) (by (conv in opOf _ _ => whnf); go_simp) ⟨k,rfl⟩ rfl
  · have e189 := hk.eq 7 189 (.pointer (some ⟨g,a,none⟩)) (by kernel_rfl) fun _ h => h
    have e186 := hk.eq 4 186 (.int .i32 m) (by kernel_rfl) fun _ h => h
    exact FStep.st_ (w' := (W.drewN k).setCell ⟨g,a,none⟩ (.int .i32 m)) (by kernel_rfl) (by (conv in opOf _ _ => whnf); go_simp) ⟨k,rfl⟩
  · obtain ⟨k,rfl⟩ := hw
    simp only [List.foldl_cons,List.foldl_nil,List.setIfInBounds_toArray,List.set_cons_zero,List.set_cons_succ]
    exact hQ _ _ _ _ _ _ _ _ k
noncomputable def roR34 : Array Oper := regOf Tryd.f70.body 34
set_option maxRecDepth 100000 in
set_option maxHeartbeats 2000000 in
theorem ro_r34 (g I a : Nat) (m : Int) (u1 u2 u4 u5 u7 u8 u9 Ua Ul Uw UH US U3 Ye Yp YA YL YW Y7 Zi Zt Zz ZA ZB ZC ZD ZE ZF ZG ZH ZI ZJ ZK ZL ZM ZN ZO ZP ZQ ZR ZS ZT ZU ZV ZW ZX ZY ZZ Z0 Z1 Z2 Z3 Z4 Z5 Z6 Z7 Z8 Z9 Ja Jb Jc Jd Je Jf Jg Jh Ji Jj Jk Jl Jm Jn Jo Jp Jq Jr Js Jt Ju Jv Jw Jx Jy Jz JA JB JC JD JE JF JG JH JI JJ JK JL JM Ub Uc Ud Ue Uf Ug Uh Ui Uj Uk Um Un Uo Up Uq Ur Us Ut Uu Uv Ux Uy Uz UA UB UC UD UE UF UG UI UJ UK UL UM UN UO UP UQ UR UT UU UV UW UX UY UZ U0 U1 U2 U4 U5 U6 U7 U8 U9 Ya Yb Yc Yd Yf Yg Yh Yi Yj Yk Yl Ym Yn Yo Yq Yr Ys Yt Yu Yv Yw Yx Yy Yz YB YC YD YE YF YG YH YI YJ YK YM YN YO YP YQ YR YS YT YU YV YX YY YZ Y0 Y1 Y2 Y3 Y4 Y5 Y6 Y8 Y9 Za Zb Zc Zd Ze Zf Zg Zh Zj Zk Zl Zm Zn Zo Zp Zq Zr Zs Zu Zv Zw Zx Zy : Value) (W : World) (Q : Exit → Act → World → Prop) (ha : a < 8) (p1 : W.cell? ⟨I,1,none⟩ = some (.int .i64 a)) (z0 : Value) (px : W.cell? ⟨g,a,none⟩ = some z0) (fz : W.frozen? ⟨g,a,none⟩ = false) 
    (hQ : ∀ (X2 X3 X4 X5 X6 X7 X8 : Value) (k : Nat),Q .normal { tmps := #[.pointer (some ⟨g,0,none⟩),u1,u2,.int .i32 m,u4,u5,.pointer (some ⟨I,0,none⟩),u7,u8,u9,Ua,Ul,Uw,UH,US,U3,Ye,Yp,YA,YL,YW,Y7,Zi,Zt,Zz,ZA,ZB,ZC,ZD,ZE,ZF,ZG,ZH,ZI,ZJ,ZK,ZL,ZM,ZN,ZO,ZP,ZQ,ZR,ZS,ZT,ZU,ZV,ZW,ZX,ZY,ZZ,Z0,Z1,Z2,Z3,Z4,Z5,Z6,Z7,Z8,Z9,Ja,Jb,Jc,Jd,Je,Jf,Jg,Jh,Ji,Jj,Jk,Jl,Jm,Jn,Jo,Jp,Jq,Jr,Js,Jt,Ju,Jv,Jw,Jx,Jy,Jz,JA,JB,JC,JD,JE,JF,JG,JH,JI,JJ,JK,JL,JM,Ub,Uc,Ud,Ue,Uf,Ug,Uh,Ui,Uj,Uk,Um,Un,Uo,Up,Uq,Ur,Us,Ut,Uu,Uv,Ux,Uy,Uz,UA,UB,UC,UD,UE,UF,UG,UI,UJ,UK,UL,UM,UN,UO,UP,UQ,UR,UT,UU,UV,UW,UX,UY,UZ,U0,U1,U2,U4,U5,U6,U7,U8,U9,Ya,Yb,Yc,Yd,Yf,Yg,Yh,Yi,Yj,Yk,Yl,Ym,Yn,Yo,Yq,Yr,Ys,Yt,Yu,Yv,Yw,Yx,Yy,Yz,YB,YC,YD,YE,YF,YG,YH,YI,YJ,YK,YM,YN,X2,X3,X4,X5,X6,X7,X8,YV,YX,YY,YZ,Y0,Y1,Y2,Y3,Y4,Y5,Y6,Y8,Y9,Za,Zb,Zc,Zd,Ze,Zf,Zg,Zh,Zj,Zk,Zl,Zm,Zn,Zo,Zp,Zq,Zr,Zs,Zu,Zv,Zw,Zx,Zy],defers := [] } ((W.drewN k).setCell ⟨g,a,none⟩ (.int .i32 m))) :
    (Code.region 34 roR34 true).wp Tryd.prog Q { tmps := #[.pointer (some ⟨g,0,none⟩),u1,u2,.int .i32 m,u4,u5,.pointer (some ⟨I,0,none⟩),u7,u8,u9,Ua,Ul,Uw,UH,US,U3,Ye,Yp,YA,YL,YW,Y7,Zi,Zt,Zz,ZA,ZB,ZC,ZD,ZE,ZF,ZG,ZH,ZI,ZJ,ZK,ZL,ZM,ZN,ZO,ZP,ZQ,ZR,ZS,ZT,ZU,ZV,ZW,ZX,ZY,ZZ,Z0,Z1,Z2,Z3,Z4,Z5,Z6,Z7,Z8,Z9,Ja,Jb,Jc,Jd,Je,Jf,Jg,Jh,Ji,Jj,Jk,Jl,Jm,Jn,Jo,Jp,Jq,Jr,Js,Jt,Ju,Jv,Jw,Jx,Jy,Jz,JA,JB,JC,JD,JE,JF,JG,JH,JI,JJ,JK,JL,JM,Ub,Uc,Ud,Ue,Uf,Ug,Uh,Ui,Uj,Uk,Um,Un,Uo,Up,Uq,Ur,Us,Ut,Uu,Uv,Ux,Uy,Uz,UA,UB,UC,UD,UE,UF,UG,UI,UJ,UK,UL,UM,UN,UO,UP,UQ,UR,UT,UU,UV,UW,UX,UY,UZ,U0,U1,U2,U4,U5,U6,U7,U8,U9,Ya,Yb,Yc,Yd,Yf,Yg,Yh,Yi,Yj,Yk,Yl,Ym,Yn,Yo,Yq,Yr,Ys,Yt,Yu,Yv,Yw,Yx,Yy,Yz,YB,YC,YD,YE,YF,YG,YH,YI,YJ,YK,YM,YN,YO,YP,YQ,YR,YS,YT,YU,YV,YX,YY,YZ,Y0,Y1,Y2,Y3,Y4,Y5,Y6,Y8,Y9,Za,Zb,Zc,Zd,Ze,Zf,Zg,Zh,Zj,Zk,Zl,Zm,Zn,Zo,Zp,Zq,Zr,Zs,Zu,Zv,Zw,Zx,Zy],defers := [] } W := by
  have hA : (a : Int) < 8 := by omega
  have p1 : ∀ k,(W.drewN k).cell? ⟨I,1,none⟩ = some (.int .i64 a) := fun _ => p1
  have px : ∀ k,(W.drewN k).cell? ⟨g,a,none⟩ = some (z0) := fun _ => px
  have fz : ∀ k,(W.drewN k).frozen? ⟨g,a,none⟩ = false := fun _ => fz
  have hds : dstsOf roR34 = [192,193,194,195,196,197,198] := by kernel_rfl
  refine wp_flow (by kernel_rfl) (lookupE [(192,fun zz => zz = .pointer (some ⟨g,0,none⟩)),(193,fun zz => zz = .pointer (some ⟨I,1,none⟩)),(194,fun zz => zz = .int .i64 a),(195,fun zz => zz = .int .i32 m),(196,fun zz => zz = .pointer (some ⟨g,0,none⟩)),(197,fun zz => zz = .pointer (some ⟨g,0,none⟩)),(198,fun zz => zz = .pointer (some ⟨g,a,none⟩))]) (fun w => ∃ k,w = (W.drewN k).setCell ⟨g,a,none⟩ (.int .i32 m)) 7 [192,193,194,195,196,197,198] hds (by kernel_rfl) (fun i hi act k hk => ?_) (fun act k hk => ?_) (fun xs w hw => ?_)
  · rcases (show i = 0 ∨ i = 1 ∨ i = 2 ∨ i = 3 ∨ i = 4 ∨ i = 5 ∨ i = 6 by omega) with rfl | rfl | rfl | rfl | rfl | rfl | rfl
    · have e0 := hk.old_ 0 (.pointer (some ⟨g,0,none⟩)) (by rw [hds]; rfl) rfl
      exact FStep.at_ 192 (.pointer (some ⟨g,0,none⟩)) (by kernel_rfl) (by (conv in opOf _ _ => whnf); go_simp) ⟨k,rfl⟩ rfl
    · have e6 := hk.old_ 6 (.pointer (some ⟨I,0,none⟩)) (by rw [hds]; rfl) rfl
      exact FStep.at_ 193 (.pointer (some ⟨I,1,none⟩)) (by kernel_rfl) (by (conv in opOf _ _ => whnf); go_simp) ⟨k,rfl⟩ rfl
    · have e193 := hk.eq 1 193 (.pointer (some ⟨I,1,none⟩)) (by kernel_rfl) fun _ h => h
      exact FStep.at_ 194 (.int .i64 a) (by kernel_rfl) (by (conv in opOf _ _ => whnf); go_simp) ⟨k,rfl⟩ rfl
    · have e3 := hk.old_ 3 (.int .i32 m) (by rw [hds]; rfl) rfl
      exact FStep.at_ 195 (.int .i32 m) (by kernel_rfl) (by (conv in opOf _ _ => whnf); go_simp) ⟨k,rfl⟩ rfl
    · have e192 := hk.eq 0 192 (.pointer (some ⟨g,0,none⟩)) (by kernel_rfl) fun _ h => h
      exact FStep.at_ 196 (.pointer (some ⟨g,0,none⟩)) (by kernel_rfl) (by (conv in opOf _ _ => whnf); go_simp) ⟨k,rfl⟩ rfl
    · have e196 := hk.eq 4 196 (.pointer (some ⟨g,0,none⟩)) (by kernel_rfl) fun _ h => h
      exact FStep.at_ 197 (.pointer (some ⟨g,0,none⟩)) (by kernel_rfl) (by (conv in opOf _ _ => whnf); go_simp) ⟨k,rfl⟩ rfl
    · have e197 := hk.eq 5 197 (.pointer (some ⟨g,0,none⟩)) (by kernel_rfl) fun _ h => h
      have e194 := hk.eq 2 194 (.int .i64 a) (by kernel_rfl) fun _ h => h
      exact FStep.at_ 198 (.pointer (some ⟨g,a,none⟩)) (by kernel_rfl) (by (conv in opOf _ _ => whnf); go_simp) ⟨k,rfl⟩ rfl
  · have e198 := hk.eq 6 198 (.pointer (some ⟨g,a,none⟩)) (by kernel_rfl) fun _ h => h
    have e195 := hk.eq 3 195 (.int .i32 m) (by kernel_rfl) fun _ h => h
    exact FStep.st_ (w' := (W.drewN k).setCell ⟨g,a,none⟩ (.int .i32 m)) (by kernel_rfl) (by (conv in opOf _ _ => whnf); go_simp) ⟨k,rfl⟩
  · obtain ⟨k,rfl⟩ := hw
    simp only [List.foldl_cons,List.foldl_nil,List.setIfInBounds_toArray,List.set_cons_zero,List.set_cons_succ]
    exact hQ _ _ _ _ _ _ _ k
noncomputable def roR25 : Array Oper := regOf Tryd.f70.body 25
set_option maxRecDepth 100000 in
set_option maxHeartbeats 2000000 in
theorem ro_r25 (g I X a : Nat) (x : Int) (u1 u2 u3 u4 u5 u7 u9 Ua Ul Uw UH US U3 Ye Yp YA YL YW Y7 Zi Zt Zz ZA ZB ZC ZD ZE ZF ZG ZH ZI ZJ ZK ZL ZM ZN ZO ZP ZQ ZR ZS ZT ZU ZV ZW ZX ZY ZZ Z0 Z1 Z2 Z3 Z4 Z5 Z6 Z7 Z8 Z9 Ja Jb Jc Jd Je Jf Jg Jh Ji Jj Jk Jl Jm Jn Jo Jp Jq Jr Js Jt Ju Jv Jw Jx Jy Jz JA JB JC JD JE JF JG JH JI JJ JK JL JM Ub Uc Ud Ue Uf Ug Uh Ui Uj Uk Um Un Uo Up Uq Ur Us Ut Uu Uv Ux Uy Uz UA UB UC UD UE UF UG UI UJ UK UL UM UN UO UP UQ UR UT UU UV UW UX UY UZ U0 U1 U2 U4 U5 U6 U7 U8 U9 Ya Yb Yc Yd Yf Yg Yh Yi Yj Yk Yl Ym Yn Yo Yq Yr Ys Yt Yu Yv Yw Yx Yy Yz YB YC YD YE YF YG YH YI YJ YK YM YN YO YP YQ YR YS YT YU YV YX YY YZ Y0 Y1 Y2 Y3 Y4 Y5 Y6 Y8 Y9 Za Zb Zc Zd Ze Zf Zg Zh Zj Zk Zl Zm Zn Zo Zp Zq Zr Zs Zu Zv Zw Zx Zy : Value) (W : World) (Q : Exit → Act → World → Prop) (ha : a < 8) (p1 : W.cell? ⟨I,1,none⟩ = some (.int .i64 a)) (px : W.cell? ⟨g,a,none⟩ = some (.int .i32 x)) (x0 : -2147483648 ≤ x) (x1 : x ≤ 2147483647) (e0 e1 e2 : Value) (hX : Blk W X 92 [e0,e1,e2])
    (hQ : ∀ (Xj Xk Xl Xm Xn Xo Xp Xq Xr : Value) (k : Nat),Q .normal { tmps := #[.pointer (some ⟨g,0,none⟩),u1,u2,u3,u4,u5,.pointer (some ⟨I,0,none⟩),u7,.pointer (some ⟨X,0,none⟩),u9,Ua,Ul,Uw,UH,US,U3,Ye,Yp,YA,YL,YW,Y7,Zi,Zt,Zz,ZA,ZB,ZC,ZD,ZE,ZF,ZG,ZH,ZI,ZJ,ZK,ZL,ZM,ZN,ZO,ZP,ZQ,ZR,ZS,ZT,ZU,ZV,ZW,ZX,ZY,ZZ,Z0,Z1,Z2,Z3,Z4,Z5,Z6,Z7,Z8,Z9,Ja,Jb,Jc,Jd,Je,Jf,Jg,Jh,Ji,Jj,Jk,Jl,Jm,Jn,Jo,Jp,Jq,Jr,Js,Jt,Ju,Jv,Jw,Jx,Jy,Jz,JA,JB,JC,JD,JE,JF,JG,JH,JI,JJ,JK,JL,JM,Ub,Uc,Ud,Ue,Uf,Ug,Uh,Ui,Uj,Uk,Um,Un,Uo,Up,Uq,Ur,Us,Ut,Uu,Uv,Ux,Uy,Uz,UA,UB,UC,UD,UE,UF,UG,UI,UJ,UK,UL,UM,UN,UO,UP,Xj,Xk,Xl,Xm,Xn,Xo,Xp,Xq,Xr,U0,U1,U2,U4,U5,U6,U7,U8,U9,Ya,Yb,Yc,Yd,Yf,Yg,Yh,Yi,Yj,Yk,Yl,Ym,Yn,Yo,Yq,Yr,Ys,Yt,Yu,Yv,Yw,Yx,Yy,Yz,YB,YC,YD,YE,YF,YG,YH,YI,YJ,YK,YM,YN,YO,YP,YQ,YR,YS,YT,YU,YV,YX,YY,YZ,Y0,Y1,Y2,Y3,Y4,Y5,Y6,Y8,Y9,Za,Zb,Zc,Zd,Ze,Zf,Zg,Zh,Zj,Zk,Zl,Zm,Zn,Zo,Zp,Zq,Zr,Zs,Zu,Zv,Zw,Zx,Zy],defers := [] } ((W.drewN k).setCells X 0 [.int .i64 4,.int .i64 0,.int .u32 (x % 4294967296)])) :
    (Code.region 25 roR25 true).wp Tryd.prog Q { tmps := #[.pointer (some ⟨g,0,none⟩),u1,u2,u3,u4,u5,.pointer (some ⟨I,0,none⟩),u7,.pointer (some ⟨X,0,none⟩),u9,Ua,Ul,Uw,UH,US,U3,Ye,Yp,YA,YL,YW,Y7,Zi,Zt,Zz,ZA,ZB,ZC,ZD,ZE,ZF,ZG,ZH,ZI,ZJ,ZK,ZL,ZM,ZN,ZO,ZP,ZQ,ZR,ZS,ZT,ZU,ZV,ZW,ZX,ZY,ZZ,Z0,Z1,Z2,Z3,Z4,Z5,Z6,Z7,Z8,Z9,Ja,Jb,Jc,Jd,Je,Jf,Jg,Jh,Ji,Jj,Jk,Jl,Jm,Jn,Jo,Jp,Jq,Jr,Js,Jt,Ju,Jv,Jw,Jx,Jy,Jz,JA,JB,JC,JD,JE,JF,JG,JH,JI,JJ,JK,JL,JM,Ub,Uc,Ud,Ue,Uf,Ug,Uh,Ui,Uj,Uk,Um,Un,Uo,Up,Uq,Ur,Us,Ut,Uu,Uv,Ux,Uy,Uz,UA,UB,UC,UD,UE,UF,UG,UI,UJ,UK,UL,UM,UN,UO,UP,UQ,UR,UT,UU,UV,UW,UX,UY,UZ,U0,U1,U2,U4,U5,U6,U7,U8,U9,Ya,Yb,Yc,Yd,Yf,Yg,Yh,Yi,Yj,Yk,Yl,Ym,Yn,Yo,Yq,Yr,Ys,Yt,Yu,Yv,Yw,Yx,Yy,Yz,YB,YC,YD,YE,YF,YG,YH,YI,YJ,YK,YM,YN,YO,YP,YQ,YR,YS,YT,YU,YV,YX,YY,YZ,Y0,Y1,Y2,Y3,Y4,Y5,Y6,Y8,Y9,Za,Zb,Zc,Zd,Ze,Zf,Zg,Zh,Zj,Zk,Zl,Zm,Zn,Zo,Zp,Zq,Zr,Zs,Zu,Zv,Zw,Zx,Zy],defers := [] } W := by
  have hA : (a : Int) < 8 := by omega
  have p1 : ∀ k,(W.drewN k).cell? ⟨I,1,none⟩ = some (.int .i64 a) := fun _ => p1
  have px : ∀ k,(W.drewN k).cell? ⟨g,a,none⟩ = some (.int .i32 x) := fun _ => px
  have hds : dstsOf roR25 = [138,139,140,141,142,143,144,145,146] := by kernel_rfl
  refine wp_flow (by kernel_rfl) (lookupE [(138,fun zz => zz = .pointer (some ⟨g,0,none⟩)),(139,fun zz => zz = .pointer (some ⟨I,1,none⟩)),(140,fun zz => zz = .int .i64 a),(141,fun zz => zz = .pointer (some ⟨g,0,none⟩)),(142,fun zz => zz = .pointer (some ⟨g,0,none⟩)),(143,fun zz => zz = .pointer (some ⟨g,a,none⟩)),(144,fun zz => zz = .int .i32 x),(145,fun zz => zz = .int .u32 (x % 4294967296)),(146,fun zz => zz = .agg #[.int .i64 4,.int .i64 0,.int .u32 (x % 4294967296)])]) (fun w => ∃ k,w = (W.drewN k).setCells X 0 [.int .i64 4,.int .i64 0,.int .u32 (x % 4294967296)]) 9 [138,139,140,141,142,143,144,145,146] hds (by kernel_rfl) (fun i hi act k hk => ?_) (fun act k hk => ?_) (fun xs w hw => ?_)
  · rcases (show i = 0 ∨ i = 1 ∨ i = 2 ∨ i = 3 ∨ i = 4 ∨ i = 5 ∨ i = 6 ∨ i = 7 ∨ i = 8 by omega) with rfl | rfl | rfl | rfl | rfl | rfl | rfl | rfl | rfl
    · have e0 := hk.old_ 0 (.pointer (some ⟨g,0,none⟩)) (by rw [hds]; rfl) rfl
      exact FStep.at_ 138 (.pointer (some ⟨g,0,none⟩)) (by kernel_rfl) (by (conv in opOf _ _ => whnf); go_simp) ⟨k,rfl⟩ rfl
    · have e6 := hk.old_ 6 (.pointer (some ⟨I,0,none⟩)) (by rw [hds]; rfl) rfl
      exact FStep.at_ 139 (.pointer (some ⟨I,1,none⟩)) (by kernel_rfl) (by (conv in opOf _ _ => whnf); go_simp) ⟨k,rfl⟩ rfl
    · have e139 := hk.eq 1 139 (.pointer (some ⟨I,1,none⟩)) (by kernel_rfl) fun _ h => h
      exact FStep.at_ 140 (.int .i64 a) (by kernel_rfl) (by (conv in opOf _ _ => whnf); go_simp) ⟨k,rfl⟩ rfl
    · have e138 := hk.eq 0 138 (.pointer (some ⟨g,0,none⟩)) (by kernel_rfl) fun _ h => h
      exact FStep.at_ 141 (.pointer (some ⟨g,0,none⟩)) (by kernel_rfl) (by (conv in opOf _ _ => whnf); go_simp) ⟨k,rfl⟩ rfl
    · have e141 := hk.eq 3 141 (.pointer (some ⟨g,0,none⟩)) (by kernel_rfl) fun _ h => h
      exact FStep.at_ 142 (.pointer (some ⟨g,0,none⟩)) (by kernel_rfl) (by (conv in opOf _ _ => whnf); go_simp) ⟨k,rfl⟩ rfl
    · have e142 := hk.eq 4 142 (.pointer (some ⟨g,0,none⟩)) (by kernel_rfl) fun _ h => h
      have e140 := hk.eq 2 140 (.int .i64 a) (by kernel_rfl) fun _ h => h
      exact FStep.at_ 143 (.pointer (some ⟨g,a,none⟩)) (by kernel_rfl) (by (conv in opOf _ _ => whnf); go_simp) ⟨k,rfl⟩ rfl
    · have e143 := hk.eq 5 143 (.pointer (some ⟨g,a,none⟩)) (by kernel_rfl) fun _ h => h
      exact FStep.at_ 144 (.int .i32 x) (by kernel_rfl) (by (conv in opOf _ _ => whnf); go_simp) ⟨k,rfl⟩ rfl
    · have e144 := hk.eq 6 144 (.int .i32 x) (by kernel_rfl) fun _ h => h
      exact FStep.at_ 145 (.int .u32 (x % 4294967296)) (by kernel_rfl) (by (conv in opOf _ _ => whnf); go_simp; (simp [IntKind.wrap,IntKind.bits,IntKind.signed])) ⟨k,rfl⟩ rfl
    · have e145 := hk.eq 7 145 (.int .u32 (x % 4294967296)) (by kernel_rfl) fun _ h => h
      exact FStep.at_ 146 (.agg #[.int .i64 4,.int .i64 0,.int .u32 (x % 4294967296)]) (by kernel_rfl) (by (conv in opOf _ _ => whnf); go_simp) ⟨k,rfl⟩ rfl
  · have e8 := hk.old_ 8 (.pointer (some ⟨X,0,none⟩)) (by rw [hds]; rfl) rfl
    have e146 := hk.eq 8 146 (.agg #[.int .i64 4,.int .i64 0,.int .u32 (x % 4294967296)]) (by kernel_rfl) fun _ h => h
    have g8 : act.eval (.tmp 8) = .pointer (some ⟨X,0,none⟩) := (Array.getD_eq_getD_getElem? ..).trans e8
    have g146 : act.eval (.tmp 146) = .agg #[.int .i64 4,.int .i64 0,.int .u32 (x % 4294967296)] := (Array.getD_eq_getD_getElem? ..).trans e146
    exact FStep.st_ (w' := (W.drewN k).setCells X 0 [.int .i64 4,.int .i64 0,.int .u32 (x % 4294967296)]) (by kernel_rfl) (by (conv in opOf _ _ => whnf); unfold execOp; simp only [g8,g146,Instr.storeAt,Instr.sureAddr,Sem.run_bind,Sem.run_pure,Result.andThen_ok,run_storeVar_mid (P := Tryd.prog) (W.drewN k) X 0 92 #[.int .i64 4,.int .i64 0,.int .u32 (x % 4294967296)] (there_of (show Blk (W.drewN k) _ _ _ from hX) rfl) (by kernel_rfl) (by simp [Value.oneCell'])]) ⟨k,rfl⟩
  · obtain ⟨k,rfl⟩ := hw
    simp only [List.foldl_cons,List.foldl_nil,List.setIfInBounds_toArray,List.set_cons_zero,List.set_cons_succ]
    exact hQ _ _ _ _ _ _ _ _ _ k
noncomputable def roR13 : Array Oper := regOf Tryd.f70.body 13
set_option maxRecDepth 100000 in
set_option maxHeartbeats 2000000 in
theorem ro_r13 (g I a ib io q c : Nat) (v : Int) (u1 u2 u3 u4 u5 u7 u8 u9 Ua Ul Uw UH US U3 Ye Yp YA YL YW Y7 Zi Zt Zz ZA ZB ZC ZD ZE ZF ZG ZH ZI ZJ ZK ZL ZM ZN ZO ZP ZQ ZR ZS ZT ZU ZV ZW ZX ZY ZZ Z0 Z1 Z2 Z3 Z4 Z5 Z6 Z7 Z8 Z9 Ja Jb Jc Jd Je Jf Jg Jh Ji Jj Jk Jl Jm Jn Jo Jp Jq Jr Js Jt Ju Jv Jw Jx Jy Jz JA JB JC JD JE JF JG JH JI JJ JK JL JM Ub Uc Ud Ue Uf Ug Uh Ui Uj Uk Um Un Uo Up Uq Ur Us Ut Uu Uv Ux Uy Uz UA UB UC UD UE UF UG UI UJ UK UL UM UN UO UP UQ UR UT UU UV UW UX UY UZ U0 U1 U2 U4 U5 U6 U7 U8 U9 Ya Yb Yc Yd Yf Yg Yh Yi Yj Yk Yl Ym Yn Yo Yq Yr Ys Yt Yu Yv Yw Yx Yy Yz YB YC YD YE YF YG YH YI YJ YK YM YN YO YP YQ YR YS YT YU YV YX YY YZ Y0 Y1 Y2 Y3 Y4 Y5 Y6 Y8 Y9 Za Zb Zc Zd Ze Zf Zg Zh Zj Zk Zl Zm Zn Zo Zp Zq Zr Zs Zu Zv Zw Zx Zy : Value) (W : World) (Q : Exit → Act → World → Prop) (ha : a < 8) (p1 : W.cell? ⟨I,1,none⟩ = some (.int .i64 a)) (z0 : Value) (px : W.cell? ⟨g,a,none⟩ = some z0) (fz : W.frozen? ⟨g,a,none⟩ = false) (pi : W.cell? ⟨g,270,none⟩ = some (.slice (some ⟨ib,io,none⟩) (q + 1) c)) (pv : W.cell? ⟨ib,io,none⟩ = some (.int .i32 v))
    (hQ : ∀ (Vp Vq Vr Vs Vt Vu Vv Vw Vx Vy Vz VA : Value) (k : Nat),Q .normal { tmps := #[.pointer (some ⟨g,0,none⟩),u1,u2,u3,u4,u5,.pointer (some ⟨I,0,none⟩),u7,u8,u9,Ua,Ul,Uw,UH,US,U3,Ye,Yp,YA,YL,YW,Y7,Zi,Zt,Zz,ZA,ZB,ZC,ZD,ZE,ZF,ZG,ZH,ZI,ZJ,ZK,ZL,ZM,ZN,ZO,ZP,ZQ,ZR,ZS,ZT,ZU,ZV,ZW,ZX,ZY,Vp,Vq,Vr,Vs,Vt,Vu,Vv,Vw,Vx,Vy,Vz,VA,Jb,Jc,Jd,Je,Jf,Jg,Jh,Ji,Jj,Jk,Jl,Jm,Jn,Jo,Jp,Jq,Jr,Js,Jt,Ju,Jv,Jw,Jx,Jy,Jz,JA,JB,JC,JD,JE,JF,JG,JH,JI,JJ,JK,JL,JM,Ub,Uc,Ud,Ue,Uf,Ug,Uh,Ui,Uj,Uk,Um,Un,Uo,Up,Uq,Ur,Us,Ut,Uu,Uv,Ux,Uy,Uz,UA,UB,UC,UD,UE,UF,UG,UI,UJ,UK,UL,UM,UN,UO,UP,UQ,UR,UT,UU,UV,UW,UX,UY,UZ,U0,U1,U2,U4,U5,U6,U7,U8,U9,Ya,Yb,Yc,Yd,Yf,Yg,Yh,Yi,Yj,Yk,Yl,Ym,Yn,Yo,Yq,Yr,Ys,Yt,Yu,Yv,Yw,Yx,Yy,Yz,YB,YC,YD,YE,YF,YG,YH,YI,YJ,YK,YM,YN,YO,YP,YQ,YR,YS,YT,YU,YV,YX,YY,YZ,Y0,Y1,Y2,Y3,Y4,Y5,Y6,Y8,Y9,Za,Zb,Zc,Zd,Ze,Zf,Zg,Zh,Zj,Zk,Zl,Zm,Zn,Zo,Zp,Zq,Zr,Zs,Zu,Zv,Zw,Zx,Zy],defers := [] } ((W.drewN k).setCell ⟨g,a,none⟩ (.int .i32 v))) :
    (Code.region 13 roR13 true).wp Tryd.prog Q { tmps := #[.pointer (some ⟨g,0,none⟩),u1,u2,u3,u4,u5,.pointer (some ⟨I,0,none⟩),u7,u8,u9,Ua,Ul,Uw,UH,US,U3,Ye,Yp,YA,YL,YW,Y7,Zi,Zt,Zz,ZA,ZB,ZC,ZD,ZE,ZF,ZG,ZH,ZI,ZJ,ZK,ZL,ZM,ZN,ZO,ZP,ZQ,ZR,ZS,ZT,ZU,ZV,ZW,ZX,ZY,ZZ,Z0,Z1,Z2,Z3,Z4,Z5,Z6,Z7,Z8,Z9,Ja,Jb,Jc,Jd,Je,Jf,Jg,Jh,Ji,Jj,Jk,Jl,Jm,Jn,Jo,Jp,Jq,Jr,Js,Jt,Ju,Jv,Jw,Jx,Jy,Jz,JA,JB,JC,JD,JE,JF,JG,JH,JI,JJ,JK,JL,JM,Ub,Uc,Ud,Ue,Uf,Ug,Uh,Ui,Uj,Uk,Um,Un,Uo,Up,Uq,Ur,Us,Ut,Uu,Uv,Ux,Uy,Uz,UA,UB,UC,UD,UE,UF,UG,UI,UJ,UK,UL,UM,UN,UO,UP,UQ,UR,UT,UU,UV,UW,UX,UY,UZ,U0,U1,U2,U4,U5,U6,U7,U8,U9,Ya,Yb,Yc,Yd,Yf,Yg,Yh,Yi,Yj,Yk,Yl,Ym,Yn,Yo,Yq,Yr,Ys,Yt,Yu,Yv,Yw,Yx,Yy,Yz,YB,YC,YD,YE,YF,YG,YH,YI,YJ,YK,YM,YN,YO,YP,YQ,YR,YS,YT,YU,YV,YX,YY,YZ,Y0,Y1,Y2,Y3,Y4,Y5,Y6,Y8,Y9,Za,Zb,Zc,Zd,Ze,Zf,Zg,Zh,Zj,Zk,Zl,Zm,Zn,Zo,Zp,Zq,Zr,Zs,Zu,Zv,Zw,Zx,Zy],defers := [] } W := by
  have hA : (a : Int) < 8 := by omega
  have h0 : (0 : Int) < (q : Int) + 1 := by omega
  have p1 : ∀ k,(W.drewN k).cell? ⟨I,1,none⟩ = some (.int .i64 a) := fun _ => p1
  have px : ∀ k,(W.drewN k).cell? ⟨g,a,none⟩ = some (z0) := fun _ => px
  have fz : ∀ k,(W.drewN k).frozen? ⟨g,a,none⟩ = false := fun _ => fz
  have pi : ∀ k,(W.drewN k).cell? ⟨g,270,none⟩ = some (.slice (some ⟨ib,io,none⟩) (q + 1) c) := fun _ => pi
  have pv : ∀ k,(W.drewN k).cell? ⟨ib,io,none⟩ = some (.int .i32 v) := fun _ => pv
  have hds : dstsOf roR13 = [50,51,52,53,54,55,56,57,58,59,60,61] := by kernel_rfl
  refine wp_flow (by kernel_rfl) (lookupE [(50,fun zz => zz = .pointer (some ⟨g,0,none⟩)),(51,fun zz => zz = .pointer (some ⟨I,1,none⟩)),(52,fun zz => zz = .int .i64 a),(53,fun zz => zz = .pointer (some ⟨g,0,none⟩)),(54,fun zz => zz = .pointer (some ⟨g,0,none⟩)),(55,fun zz => zz = .pointer (some ⟨g,270,none⟩)),(56,fun zz => zz = .slice (some ⟨ib,io,none⟩) (q + 1) c),(57,fun zz => zz = .pointer (some ⟨ib,io,none⟩)),(58,fun zz => zz = .int .i32 v),(59,fun zz => zz = .pointer (some ⟨g,0,none⟩)),(60,fun zz => zz = .pointer (some ⟨g,0,none⟩)),(61,fun zz => zz = .pointer (some ⟨g,a,none⟩))]) (fun w => ∃ k,w = (W.drewN k).setCell ⟨g,a,none⟩ (.int .i32 v)) 12 [50,51,52,53,54,55,56,57,58,59,60,61] hds (by kernel_rfl) (fun i hi act k hk => ?_) (fun act k hk => ?_) (fun xs w hw => ?_)
  · rcases (show i = 0 ∨ i = 1 ∨ i = 2 ∨ i = 3 ∨ i = 4 ∨ i = 5 ∨ i = 6 ∨ i = 7 ∨ i = 8 ∨ i = 9 ∨ i = 10 ∨ i = 11 by omega) with rfl | rfl | rfl | rfl | rfl | rfl | rfl | rfl | rfl | rfl | rfl | rfl
    · have e0 := hk.old_ 0 (.pointer (some ⟨g,0,none⟩)) (by rw [hds]; rfl) rfl
      exact FStep.at_ 50 (.pointer (some ⟨g,0,none⟩)) (by kernel_rfl) (by (conv in opOf _ _ => whnf); go_simp) ⟨k,rfl⟩ rfl
    · have e6 := hk.old_ 6 (.pointer (some ⟨I,0,none⟩)) (by rw [hds]; rfl) rfl
      exact FStep.at_ 51 (.pointer (some ⟨I,1,none⟩)) (by kernel_rfl) (by (conv in opOf _ _ => whnf); go_simp) ⟨k,rfl⟩ rfl
    · have e51 := hk.eq 1 51 (.pointer (some ⟨I,1,none⟩)) (by kernel_rfl) fun _ h => h
      exact FStep.at_ 52 (.int .i64 a) (by kernel_rfl) (by (conv in opOf _ _ => whnf); go_simp) ⟨k,rfl⟩ rfl
    · have e0 := hk.old_ 0 (.pointer (some ⟨g,0,none⟩)) (by rw [hds]; rfl) rfl
      exact FStep.at_ 53 (.pointer (some ⟨g,0,none⟩)) (by kernel_rfl) (by (conv in opOf _ _ => whnf); go_simp) ⟨k,rfl⟩ rfl
    · have e53 := hk.eq 3 53 (.pointer (some ⟨g,0,none⟩)) (by kernel_rfl) fun _ h => h
      exact FStep.at_ 54 (.pointer (some ⟨g,0,none⟩)) (by kernel_rfl) (by (conv in opOf _ _ => whnf); go_simp) ⟨k,rfl⟩ rfl
    · have e54 := hk.eq 4 54 (.pointer (some ⟨g,0,none⟩)) (by kernel_rfl) fun _ h => h
      exact FStep.at_ 55 (.pointer (some ⟨g,270,none⟩)) (by kernel_rfl) (by (conv in opOf _ _ => whnf); go_simp) ⟨k,rfl⟩ rfl
    · have e55 := hk.eq 5 55 (.pointer (some ⟨g,270,none⟩)) (by kernel_rfl) fun _ h => h
      exact FStep.at_ 56 (.slice (some ⟨ib,io,none⟩) (q + 1) c) (by kernel_rfl) (by (conv in opOf _ _ => whnf); go_simp) ⟨k,rfl⟩ rfl
    · have e56 := hk.eq 6 56 (.slice (some ⟨ib,io,none⟩) (q + 1) c) (by kernel_rfl) fun _ h => h
      exact FStep.at_ 57 (.pointer (some ⟨ib,io,none⟩)) (by kernel_rfl) (by (conv in opOf _ _ => whnf); go_simp) ⟨k,rfl⟩ rfl
    · have e57 := hk.eq 7 57 (.pointer (some ⟨ib,io,none⟩)) (by kernel_rfl) fun _ h => h
      exact FStep.at_ 58 (.int .i32 v) (by kernel_rfl) (by (conv in opOf _ _ => whnf); go_simp) ⟨k,rfl⟩ rfl
    · have e50 := hk.eq 0 50 (.pointer (some ⟨g,0,none⟩)) (by kernel_rfl) fun _ h => h
      exact FStep.at_ 59 (.pointer (some ⟨g,0,none⟩)) (by kernel_rfl) (by (conv in opOf _ _ => whnf); go_simp) ⟨k,rfl⟩ rfl
    · have e59 := hk.eq 9 59 (.pointer (some ⟨g,0,none⟩)) (by kernel_rfl) fun _ h => h
      exact FStep.at_ 60 (.pointer (some ⟨g,0,none⟩)) (by kernel_rfl) (by (conv in opOf _ _ => whnf); go_simp) ⟨k,rfl⟩ rfl
    · have e60 := hk.eq 10 60 (.pointer (some ⟨g,0,none⟩)) (by kernel_rfl) fun _ h => h
      have e52 := hk.eq 2 52 (.int .i64 a) (by kernel_rfl) fun _ h => h
      exact FStep.at_ 61 (.pointer (some ⟨g,a,none⟩)) (by kernel_rfl) (by (conv in opOf _ _ => whnf); go_simp) ⟨k,rfl⟩ rfl
  · have e61 := hk.eq 11 61 (.pointer (some ⟨g,a,none⟩)) (by kernel_rfl) fun _ h => h
    have e58 := hk.eq 8 58 (.int .i32 v) (by kernel_rfl) fun _ h => h
    exact FStep.st_ (w' := (W.drewN k).setCell ⟨g,a,none⟩ (.int .i32 v)) (by kernel_rfl) (by (conv in opOf _ _ => whnf); go_simp) ⟨k,rfl⟩
  · obtain ⟨k,rfl⟩ := hw
    simp only [List.foldl_cons,List.foldl_nil,List.setIfInBounds_toArray,List.set_cons_zero,List.set_cons_succ]
    exact hQ _ _ _ _ _ _ _ _ _ _ _ _ k
noncomputable def roR22 : Array Oper := regOf Tryd.f70.body 22
set_option maxRecDepth 100000 in
set_option maxHeartbeats 2000000 in
theorem ro_r22 (g I a ib io q c : Nat) (v : Int) (u1 u2 u3 u4 u5 u7 u8 u9 Ua Ul Uw UH US U3 Ye Yp YA YL YW Y7 Zi Zt Zz ZA ZB ZC ZD ZE ZF ZG ZH ZI ZJ ZK ZL ZM ZN ZO ZP ZQ ZR ZS ZT ZU ZV ZW ZX ZY ZZ Z0 Z1 Z2 Z3 Z4 Z5 Z6 Z7 Z8 Z9 Ja Jb Jc Jd Je Jf Jg Jh Ji Jj Jk Jl Jm Jn Jo Jp Jq Jr Js Jt Ju Jv Jw Jx Jy Jz JA JB JC JD JE JF JG JH JI JJ JK JL JM Ub Uc Ud Ue Uf Ug Uh Ui Uj Uk Um Un Uo Up Uq Ur Us Ut Uu Uv Ux Uy Uz UA UB UC UD UE UF UG UI UJ UK UL UM UN UO UP UQ UR UT UU UV UW UX UY UZ U0 U1 U2 U4 U5 U6 U7 U8 U9 Ya Yb Yc Yd Yf Yg Yh Yi Yj Yk Yl Ym Yn Yo Yq Yr Ys Yt Yu Yv Yw Yx Yy Yz YB YC YD YE YF YG YH YI YJ YK YM YN YO YP YQ YR YS YT YU YV YX YY YZ Y0 Y1 Y2 Y3 Y4 Y5 Y6 Y8 Y9 Za Zb Zc Zd Ze Zf Zg Zh Zj Zk Zl Zm Zn Zo Zp Zq Zr Zs Zu Zv Zw Zx Zy : Value) (W : World) (Q : Exit → Act → World → Prop) (ha : a < 8) (p1 : W.cell? ⟨I,1,none⟩ = some (.int .i64 a)) (z0 : Value) (px : W.cell? ⟨g,a,none⟩ = some z0) (fz : W.frozen? ⟨g,a,none⟩ = false) (pi : W.cell? ⟨g,12,none⟩ = some (.slice (some ⟨ib,io,none⟩) (q + 1) c)) (pv : W.cell? ⟨ib,io + q,none⟩ = some (.int .i32 v)) (hqc : q + 1 ≤ c) (hcm : c ≤ 9223372036854775807) 
    (hQ : ∀ (JN JO JP JQ JR JS JT JU JV JW JX JY JZ J0 J1 J2 J3 J4 : Value) (k : Nat),Q .normal { tmps := #[.pointer (some ⟨g,0,none⟩),u1,u2,u3,u4,u5,.pointer (some ⟨I,0,none⟩),u7,u8,u9,Ua,Ul,Uw,UH,US,U3,Ye,Yp,YA,YL,YW,Y7,Zi,Zt,Zz,ZA,ZB,ZC,ZD,ZE,ZF,ZG,ZH,ZI,ZJ,ZK,ZL,ZM,ZN,ZO,ZP,ZQ,ZR,ZS,ZT,ZU,ZV,ZW,ZX,ZY,ZZ,Z0,Z1,Z2,Z3,Z4,Z5,Z6,Z7,Z8,Z9,Ja,Jb,Jc,Jd,Je,Jf,Jg,Jh,Ji,Jj,Jk,Jl,Jm,Jn,Jo,Jp,Jq,Jr,Js,Jt,Ju,Jv,Jw,Jx,Jy,Jz,JA,JB,JC,JD,JE,JF,JG,JH,JI,JJ,JK,JL,JM,Ub,Uc,Ud,Ue,JN,JO,JP,JQ,JR,JS,JT,JU,JV,JW,JX,JY,JZ,J0,J1,J2,J3,J4,Uz,UA,UB,UC,UD,UE,UF,UG,UI,UJ,UK,UL,UM,UN,UO,UP,UQ,UR,UT,UU,UV,UW,UX,UY,UZ,U0,U1,U2,U4,U5,U6,U7,U8,U9,Ya,Yb,Yc,Yd,Yf,Yg,Yh,Yi,Yj,Yk,Yl,Ym,Yn,Yo,Yq,Yr,Ys,Yt,Yu,Yv,Yw,Yx,Yy,Yz,YB,YC,YD,YE,YF,YG,YH,YI,YJ,YK,YM,YN,YO,YP,YQ,YR,YS,YT,YU,YV,YX,YY,YZ,Y0,Y1,Y2,Y3,Y4,Y5,Y6,Y8,Y9,Za,Zb,Zc,Zd,Ze,Zf,Zg,Zh,Zj,Zk,Zl,Zm,Zn,Zo,Zp,Zq,Zr,Zs,Zu,Zv,Zw,Zx,Zy],defers := [] } ((W.drewN k).setCell ⟨g,a,none⟩ (.int .i32 v))) :
    (Code.region 22 roR22 true).wp Tryd.prog Q { tmps := #[.pointer (some ⟨g,0,none⟩),u1,u2,u3,u4,u5,.pointer (some ⟨I,0,none⟩),u7,u8,u9,Ua,Ul,Uw,UH,US,U3,Ye,Yp,YA,YL,YW,Y7,Zi,Zt,Zz,ZA,ZB,ZC,ZD,ZE,ZF,ZG,ZH,ZI,ZJ,ZK,ZL,ZM,ZN,ZO,ZP,ZQ,ZR,ZS,ZT,ZU,ZV,ZW,ZX,ZY,ZZ,Z0,Z1,Z2,Z3,Z4,Z5,Z6,Z7,Z8,Z9,Ja,Jb,Jc,Jd,Je,Jf,Jg,Jh,Ji,Jj,Jk,Jl,Jm,Jn,Jo,Jp,Jq,Jr,Js,Jt,Ju,Jv,Jw,Jx,Jy,Jz,JA,JB,JC,JD,JE,JF,JG,JH,JI,JJ,JK,JL,JM,Ub,Uc,Ud,Ue,Uf,Ug,Uh,Ui,Uj,Uk,Um,Un,Uo,Up,Uq,Ur,Us,Ut,Uu,Uv,Ux,Uy,Uz,UA,UB,UC,UD,UE,UF,UG,UI,UJ,UK,UL,UM,UN,UO,UP,UQ,UR,UT,UU,UV,UW,UX,UY,UZ,U0,U1,U2,U4,U5,U6,U7,U8,U9,Ya,Yb,Yc,Yd,Yf,Yg,Yh,Yi,Yj,Yk,Yl,Ym,Yn,Yo,Yq,Yr,Ys,Yt,Yu,Yv,Yw,Yx,Yy,Yz,YB,YC,YD,YE,YF,YG,YH,YI,YJ,YK,YM,YN,YO,YP,YQ,YR,YS,YT,YU,YV,YX,YY,YZ,Y0,Y1,Y2,Y3,Y4,Y5,Y6,Y8,Y9,Za,Zb,Zc,Zd,Ze,Zf,Zg,Zh,Zj,Zk,Zl,Zm,Zn,Zo,Zp,Zq,Zr,Zs,Zu,Zv,Zw,Zx,Zy],defers := [] } W := by
  have hA : (a : Int) < 8 := by omega
  have h0 : (0 : Int) < (q : Int) + 1 := by omega
  have h1 : (q : Int) ≤ (q : Int) + 1 := by omega
  have h2 : (q : Int) < (q : Int) + 1 := by omega
  have h3 : (q : Int) + 1 - 1 = q := by omega
  have h4 : q ≤ c := by omega
  have h5 : (0 : Int) ≤ q := by omega
  have hw : IntKind.i64.wrap (q : Int) = q := by simp [IntKind.wrap,IntKind.bits,IntKind.signed]; omega
  have p1 : ∀ k,(W.drewN k).cell? ⟨I,1,none⟩ = some (.int .i64 a) := fun _ => p1
  have px : ∀ k,(W.drewN k).cell? ⟨g,a,none⟩ = some (z0) := fun _ => px
  have fz : ∀ k,(W.drewN k).frozen? ⟨g,a,none⟩ = false := fun _ => fz
  have pi : ∀ k,(W.drewN k).cell? ⟨g,12,none⟩ = some (.slice (some ⟨ib,io,none⟩) (q + 1) c) := fun _ => pi
  have pv : ∀ k,(W.drewN k).cell? ⟨ib,io + q,none⟩ = some (.int .i32 v) := fun _ => pv
  have hds : dstsOf roR22 = [104,105,106,107,108,109,110,111,112,113,114,115,116,117,118,119,120,121] := by kernel_rfl
  refine wp_flow (by kernel_rfl) (lookupE [(104,fun zz => zz = .pointer (some ⟨g,0,none⟩)),(105,fun zz => zz = .pointer (some ⟨I,1,none⟩)),(106,fun zz => zz = .int .i64 a),(107,fun zz => zz = .pointer (some ⟨g,0,none⟩)),(108,fun zz => zz = .pointer (some ⟨g,0,none⟩)),(109,fun zz => zz = .pointer (some ⟨g,12,none⟩)),(110,fun zz => zz = .slice (some ⟨ib,io,none⟩) (q + 1) c),(111,fun zz => zz = .pointer (some ⟨g,0,none⟩)),(112,fun zz => zz = .pointer (some ⟨g,0,none⟩)),(113,fun zz => zz = .pointer (some ⟨g,12,none⟩)),(114,fun zz => zz = .slice (some ⟨ib,io,none⟩) (q + 1) c),(115,fun zz => zz = .int .i64 ((q : Int) + 1)),(116,fun zz => zz = .int .i64 q),(117,fun zz => zz = .pointer (some ⟨ib,io + q,none⟩)),(118,fun zz => zz = .int .i32 v),(119,fun zz => zz = .pointer (some ⟨g,0,none⟩)),(120,fun zz => zz = .pointer (some ⟨g,0,none⟩)),(121,fun zz => zz = .pointer (some ⟨g,a,none⟩))]) (fun w => ∃ k,w = (W.drewN k).setCell ⟨g,a,none⟩ (.int .i32 v)) 18 [104,105,106,107,108,109,110,111,112,113,114,115,116,117,118,119,120,121] hds (by kernel_rfl) (fun i hi act k hk => ?_) (fun act k hk => ?_) (fun xs w hw => ?_)
  · rcases (show i = 0 ∨ i = 1 ∨ i = 2 ∨ i = 3 ∨ i = 4 ∨ i = 5 ∨ i = 6 ∨ i = 7 ∨ i = 8 ∨ i = 9 ∨ i = 10 ∨ i = 11 ∨ i = 12 ∨ i = 13 ∨ i = 14 ∨ i = 15 ∨ i = 16 ∨ i = 17 by omega) with rfl | rfl | rfl | rfl | rfl | rfl | rfl | rfl | rfl | rfl | rfl | rfl | rfl | rfl | rfl | rfl | rfl | rfl
    · have e0 := hk.old_ 0 (.pointer (some ⟨g,0,none⟩)) (by rw [hds]; rfl) rfl
      exact FStep.at_ 104 (.pointer (some ⟨g,0,none⟩)) (by kernel_rfl) (by (conv in opOf _ _ => whnf); go_simp) ⟨k,rfl⟩ rfl
    · have e6 := hk.old_ 6 (.pointer (some ⟨I,0,none⟩)) (by rw [hds]; rfl) rfl
      exact FStep.at_ 105 (.pointer (some ⟨I,1,none⟩)) (by kernel_rfl) (by (conv in opOf _ _ => whnf); go_simp) ⟨k,rfl⟩ rfl
    · have e105 := hk.eq 1 105 (.pointer (some ⟨I,1,none⟩)) (by kernel_rfl) fun _ h => h
      exact FStep.at_ 106 (.int .i64 a) (by kernel_rfl) (by (conv in opOf _ _ => whnf); go_simp) ⟨k,rfl⟩ rfl
    · have e0 := hk.old_ 0 (.pointer (some ⟨g,0,none⟩)) (by rw [hds]; rfl) rfl
      exact FStep.at_ 107 (.pointer (some ⟨g,0,none⟩)) (by kernel_rfl) (by (conv in opOf _ _ => whnf); go_simp) ⟨k,rfl⟩ rfl
    · have e107 := hk.eq 3 107 (.pointer (some ⟨g,0,none⟩)) (by kernel_rfl) fun _ h => h
      exact FStep.at_ 108 (.pointer (some ⟨g,0,none⟩)) (by kernel_rfl) (by (conv in opOf _ _ => whnf); go_simp) ⟨k,rfl⟩ rfl
    · have e108 := hk.eq 4 108 (.pointer (some ⟨g,0,none⟩)) (by kernel_rfl) fun _ h => h
      exact FStep.at_ 109 (.pointer (some ⟨g,12,none⟩)) (by kernel_rfl) (by (conv in opOf _ _ => whnf); go_simp) ⟨k,rfl⟩ rfl
    · have e109 := hk.eq 5 109 (.pointer (some ⟨g,12,none⟩)) (by kernel_rfl) fun _ h => h
      exact FStep.at_ 110 (.slice (some ⟨ib,io,none⟩) (q + 1) c) (by kernel_rfl) (by (conv in opOf _ _ => whnf); go_simp) ⟨k,rfl⟩ rfl
    · have e0 := hk.old_ 0 (.pointer (some ⟨g,0,none⟩)) (by rw [hds]; rfl) rfl
      exact FStep.at_ 111 (.pointer (some ⟨g,0,none⟩)) (by kernel_rfl) (by (conv in opOf _ _ => whnf); go_simp) ⟨k,rfl⟩ rfl
    · have e111 := hk.eq 7 111 (.pointer (some ⟨g,0,none⟩)) (by kernel_rfl) fun _ h => h
      exact FStep.at_ 112 (.pointer (some ⟨g,0,none⟩)) (by kernel_rfl) (by (conv in opOf _ _ => whnf); go_simp) ⟨k,rfl⟩ rfl
    · have e112 := hk.eq 8 112 (.pointer (some ⟨g,0,none⟩)) (by kernel_rfl) fun _ h => h
      exact FStep.at_ 113 (.pointer (some ⟨g,12,none⟩)) (by kernel_rfl) (by (conv in opOf _ _ => whnf); go_simp) ⟨k,rfl⟩ rfl
    · have e113 := hk.eq 9 113 (.pointer (some ⟨g,12,none⟩)) (by kernel_rfl) fun _ h => h
      exact FStep.at_ 114 (.slice (some ⟨ib,io,none⟩) (q + 1) c) (by kernel_rfl) (by (conv in opOf _ _ => whnf); go_simp) ⟨k,rfl⟩ rfl
    · have e114 := hk.eq 10 114 (.slice (some ⟨ib,io,none⟩) (q + 1) c) (by kernel_rfl) fun _ h => h
      exact FStep.at_ 115 (.int .i64 ((q : Int) + 1)) (by kernel_rfl) (by (conv in opOf _ _ => whnf); go_simp) ⟨k,rfl⟩ rfl
    · have e115 := hk.eq 11 115 (.int .i64 ((q : Int) + 1)) (by kernel_rfl) fun _ h => h
      exact FStep.at_ 116 (.int .i64 q) (by kernel_rfl) (by (conv in opOf _ _ => whnf); go_simp) ⟨k,rfl⟩ rfl
    · have e110 := hk.eq 6 110 (.slice (some ⟨ib,io,none⟩) (q + 1) c) (by kernel_rfl) fun _ h => h
      have e116 := hk.eq 12 116 (.int .i64 q) (by kernel_rfl) fun _ h => h
      exact FStep.at_ 117 (.pointer (some ⟨ib,io + q,none⟩)) (by kernel_rfl) (by (conv in opOf _ _ => whnf); go_simp) ⟨k,rfl⟩ rfl
    · have e117 := hk.eq 13 117 (.pointer (some ⟨ib,io + q,none⟩)) (by kernel_rfl) fun _ h => h
      exact FStep.at_ 118 (.int .i32 v) (by kernel_rfl) (by (conv in opOf _ _ => whnf); go_simp) ⟨k,rfl⟩ rfl
    · have e104 := hk.eq 0 104 (.pointer (some ⟨g,0,none⟩)) (by kernel_rfl) fun _ h => h
      exact FStep.at_ 119 (.pointer (some ⟨g,0,none⟩)) (by kernel_rfl) (by (conv in opOf _ _ => whnf); go_simp) ⟨k,rfl⟩ rfl
    · have e119 := hk.eq 15 119 (.pointer (some ⟨g,0,none⟩)) (by kernel_rfl) fun _ h => h
      exact FStep.at_ 120 (.pointer (some ⟨g,0,none⟩)) (by kernel_rfl) (by (conv in opOf _ _ => whnf); go_simp) ⟨k,rfl⟩ rfl
    · have e120 := hk.eq 16 120 (.pointer (some ⟨g,0,none⟩)) (by kernel_rfl) fun _ h => h
      have e106 := hk.eq 2 106 (.int .i64 a) (by kernel_rfl) fun _ h => h
      exact FStep.at_ 121 (.pointer (some ⟨g,a,none⟩)) (by kernel_rfl) (by (conv in opOf _ _ => whnf); go_simp) ⟨k,rfl⟩ rfl
  · have e121 := hk.eq 17 121 (.pointer (some ⟨g,a,none⟩)) (by kernel_rfl) fun _ h => h
    have e118 := hk.eq 14 118 (.int .i32 v) (by kernel_rfl) fun _ h => h
    exact FStep.st_ (w' := (W.drewN k).setCell ⟨g,a,none⟩ (.int .i32 v)) (by kernel_rfl) (by (conv in opOf _ _ => whnf); go_simp) ⟨k,rfl⟩
  · obtain ⟨k,rfl⟩ := hw
    simp only [List.foldl_cons,List.foldl_nil,List.setIfInBounds_toArray,List.set_cons_zero,List.set_cons_succ]
    exact hQ _ _ _ _ _ _ _ _ _ _ _ _ _ _ _ _ _ _ k
noncomputable def roR23 : Array Oper := regOf Tryd.f70.body 23
set_option maxRecDepth 100000 in
set_option maxHeartbeats 2000000 in
theorem ro_r23 (g I ib io q c : Nat) (u1 u2 u3 u4 u5 u7 u8 u9 Ua Ul Uw UH US U3 Ye Yp YA YL YW Y7 Zi Zt Zz ZA ZB ZC ZD ZE ZF ZG ZH ZI ZJ ZK ZL ZM ZN ZO ZP ZQ ZR ZS ZT ZU ZV ZW ZX ZY ZZ Z0 Z1 Z2 Z3 Z4 Z5 Z6 Z7 Z8 Z9 Ja Jb Jc Jd Je Jf Jg Jh Ji Jj Jk Jl Jm Jn Jo Jp Jq Jr Js Jt Ju Jv Jw Jx Jy Jz JA JB JC JD JE JF JG JH JI JJ JK JL JM Ub Uc Ud Ue Uf Ug Uh Ui Uj Uk Um Un Uo Up Uq Ur Us Ut Uu Uv Ux Uy Uz UA UB UC UD UE UF UG UI UJ UK UL UM UN UO UP UQ UR UT UU UV UW UX UY UZ U0 U1 U2 U4 U5 U6 U7 U8 U9 Ya Yb Yc Yd Yf Yg Yh Yi Yj Yk Yl Ym Yn Yo Yq Yr Ys Yt Yu Yv Yw Yx Yy Yz YB YC YD YE YF YG YH YI YJ YK YM YN YO YP YQ YR YS YT YU YV YX YY YZ Y0 Y1 Y2 Y3 Y4 Y5 Y6 Y8 Y9 Za Zb Zc Zd Ze Zf Zg Zh Zj Zk Zl Zm Zn Zo Zp Zq Zr Zs Zu Zv Zw Zx Zy : Value) (W : World) (Q : Exit → Act → World → Prop) (pi : W.cell? ⟨g,12,none⟩ = some (.slice (some ⟨ib,io,none⟩) (q + 1) c)) (fz : W.frozen? ⟨g,12,none⟩ = false) (hqc : q + 1 ≤ c) (hcm : c ≤ 9223372036854775807) 
    (hQ : ∀ (J5 J6 J7 J8 J9 Xa Xb Xc Xd Xe Xf Xg Xh Xi : Value) (k : Nat),Q .normal { tmps := #[.pointer (some ⟨g,0,none⟩),u1,u2,u3,u4,u5,.pointer (some ⟨I,0,none⟩),u7,u8,u9,Ua,Ul,Uw,UH,US,U3,Ye,Yp,YA,YL,YW,Y7,Zi,Zt,Zz,ZA,ZB,ZC,ZD,ZE,ZF,ZG,ZH,ZI,ZJ,ZK,ZL,ZM,ZN,ZO,ZP,ZQ,ZR,ZS,ZT,ZU,ZV,ZW,ZX,ZY,ZZ,Z0,Z1,Z2,Z3,Z4,Z5,Z6,Z7,Z8,Z9,Ja,Jb,Jc,Jd,Je,Jf,Jg,Jh,Ji,Jj,Jk,Jl,Jm,Jn,Jo,Jp,Jq,Jr,Js,Jt,Ju,Jv,Jw,Jx,Jy,Jz,JA,JB,JC,JD,JE,JF,JG,JH,JI,JJ,JK,JL,JM,Ub,Uc,Ud,Ue,Uf,Ug,Uh,Ui,Uj,Uk,Um,Un,Uo,Up,Uq,Ur,Us,Ut,Uu,Uv,Ux,Uy,J5,J6,J7,J8,J9,Xa,Xb,Xc,Xd,Xe,Xf,Xg,Xh,Xi,UO,UP,UQ,UR,UT,UU,UV,UW,UX,UY,UZ,U0,U1,U2,U4,U5,U6,U7,U8,U9,Ya,Yb,Yc,Yd,Yf,Yg,Yh,Yi,Yj,Yk,Yl,Ym,Yn,Yo,Yq,Yr,Ys,Yt,Yu,Yv,Yw,Yx,Yy,Yz,YB,YC,YD,YE,YF,YG,YH,YI,YJ,YK,YM,YN,YO,YP,YQ,YR,YS,YT,YU,YV,YX,YY,YZ,Y0,Y1,Y2,Y3,Y4,Y5,Y6,Y8,Y9,Za,Zb,Zc,Zd,Ze,Zf,Zg,Zh,Zj,Zk,Zl,Zm,Zn,Zo,Zp,Zq,Zr,Zs,Zu,Zv,Zw,Zx,Zy],defers := [] } ((W.drewN k).setCell ⟨g,12,none⟩ (.slice (some ⟨ib,io,none⟩) q c))) :
    (Code.region 23 roR23 true).wp Tryd.prog Q { tmps := #[.pointer (some ⟨g,0,none⟩),u1,u2,u3,u4,u5,.pointer (some ⟨I,0,none⟩),u7,u8,u9,Ua,Ul,Uw,UH,US,U3,Ye,Yp,YA,YL,YW,Y7,Zi,Zt,Zz,ZA,ZB,ZC,ZD,ZE,ZF,ZG,ZH,ZI,ZJ,ZK,ZL,ZM,ZN,ZO,ZP,ZQ,ZR,ZS,ZT,ZU,ZV,ZW,ZX,ZY,ZZ,Z0,Z1,Z2,Z3,Z4,Z5,Z6,Z7,Z8,Z9,Ja,Jb,Jc,Jd,Je,Jf,Jg,Jh,Ji,Jj,Jk,Jl,Jm,Jn,Jo,Jp,Jq,Jr,Js,Jt,Ju,Jv,Jw,Jx,Jy,Jz,JA,JB,JC,JD,JE,JF,JG,JH,JI,JJ,JK,JL,JM,Ub,Uc,Ud,Ue,Uf,Ug,Uh,Ui,Uj,Uk,Um,Un,Uo,Up,Uq,Ur,Us,Ut,Uu,Uv,Ux,Uy,Uz,UA,UB,UC,UD,UE,UF,UG,UI,UJ,UK,UL,UM,UN,UO,UP,UQ,UR,UT,UU,UV,UW,UX,UY,UZ,U0,U1,U2,U4,U5,U6,U7,U8,U9,Ya,Yb,Yc,Yd,Yf,Yg,Yh,Yi,Yj,Yk,Yl,Ym,Yn,Yo,Yq,Yr,Ys,Yt,Yu,Yv,Yw,Yx,Yy,Yz,YB,YC,YD,YE,YF,YG,YH,YI,YJ,YK,YM,YN,YO,YP,YQ,YR,YS,YT,YU,YV,YX,YY,YZ,Y0,Y1,Y2,Y3,Y4,Y5,Y6,Y8,Y9,Za,Zb,Zc,Zd,Ze,Zf,Zg,Zh,Zj,Zk,Zl,Zm,Zn,Zo,Zp,Zq,Zr,Zs,Zu,Zv,Zw,Zx,Zy],defers := [] } W := by
  have h0 : (0 : Int) < (q : Int) + 1 := by omega
  have h1 : (q : Int) ≤ (q : Int) + 1 := by omega
  have h2 : (q : Int) < (q : Int) + 1 := by omega
  have h3 : (q : Int) + 1 - 1 = q := by omega
  have h4 : q ≤ c := by omega
  have h5 : (0 : Int) ≤ q := by omega
  have hw : IntKind.i64.wrap (q : Int) = q := by simp [IntKind.wrap,IntKind.bits,IntKind.signed]; omega
  have fz : ∀ k,(W.drewN k).frozen? ⟨g,12,none⟩ = false := fun _ => fz
  have pi : ∀ k,(W.drewN k).cell? ⟨g,12,none⟩ = some (.slice (some ⟨ib,io,none⟩) (q + 1) c) := fun _ => pi
  have hds : dstsOf roR23 = [122,123,124,125,126,127,128,129,130,131,132,133,134,135] := by kernel_rfl
  refine wp_flow (by kernel_rfl) (lookupE [(122,fun zz => zz = .pointer (some ⟨g,0,none⟩)),(123,fun zz => zz = .pointer (some ⟨g,0,none⟩)),(124,fun zz => zz = .pointer (some ⟨g,0,none⟩)),(125,fun zz => zz = .pointer (some ⟨g,12,none⟩)),(126,fun zz => zz = .slice (some ⟨ib,io,none⟩) (q + 1) c),(127,fun zz => zz = .pointer (some ⟨g,0,none⟩)),(128,fun zz => zz = .pointer (some ⟨g,0,none⟩)),(129,fun zz => zz = .pointer (some ⟨g,12,none⟩)),(130,fun zz => zz = .slice (some ⟨ib,io,none⟩) (q + 1) c),(131,fun zz => zz = .int .i64 ((q : Int) + 1)),(132,fun zz => zz = .int .i64 q),(133,fun zz => zz = .slice (some ⟨ib,io,none⟩) q c),(134,fun zz => zz = .pointer (some ⟨g,0,none⟩)),(135,fun zz => zz = .pointer (some ⟨g,12,none⟩))]) (fun w => ∃ k,w = (W.drewN k).setCell ⟨g,12,none⟩ (.slice (some ⟨ib,io,none⟩) q c)) 14 [122,123,124,125,126,127,128,129,130,131,132,133,134,135] hds (by kernel_rfl) (fun i hi act k hk => ?_) (fun act k hk => ?_) (fun xs w hw => ?_)
  · rcases (show i = 0 ∨ i = 1 ∨ i = 2 ∨ i = 3 ∨ i = 4 ∨ i = 5 ∨ i = 6 ∨ i = 7 ∨ i = 8 ∨ i = 9 ∨ i = 10 ∨ i = 11 ∨ i = 12 ∨ i = 13 by omega) with rfl | rfl | rfl | rfl | rfl | rfl | rfl | rfl | rfl | rfl | rfl | rfl | rfl | rfl
    · have e0 := hk.old_ 0 (.pointer (some ⟨g,0,none⟩)) (by rw [hds]; rfl) rfl
      exact FStep.at_ 122 (.pointer (some ⟨g,0,none⟩)) (by kernel_rfl) (by (conv in opOf _ _ => whnf); go_simp) ⟨k,rfl⟩ rfl
    · have e0 := hk.old_ 0 (.pointer (some ⟨g,0,none⟩)) (by rw [hds]; rfl) rfl
      exact FStep.at_ 123 (.pointer (some ⟨g,0,none⟩)) (by kernel_rfl) (by (conv in opOf _ _ => whnf); go_simp) ⟨k,rfl⟩ rfl
    · have e123 := hk.eq 1 123 (.pointer (some ⟨g,0,none⟩)) (by kernel_rfl) fun _ h => h
      exact FStep.at_ 124 (.pointer (some ⟨g,0,none⟩)) (by kernel_rfl) (by (conv in opOf _ _ => whnf); go_simp) ⟨k,rfl⟩ rfl
    · have e124 := hk.eq 2 124 (.pointer (some ⟨g,0,none⟩)) (by kernel_rfl) fun _ h => h
      exact FStep.at_ 125 (.pointer (some ⟨g,12,none⟩)) (by kernel_rfl) (by (conv in opOf _ _ => whnf); go_simp) ⟨k,rfl⟩ rfl
    · have e125 := hk.eq 3 125 (.pointer (some ⟨g,12,none⟩)) (by kernel_rfl) fun _ h => h
      exact FStep.at_ 126 (.slice (some ⟨ib,io,none⟩) (q + 1) c) (by kernel_rfl) (by (conv in opOf _ _ => whnf); go_simp) ⟨k,rfl⟩ rfl
    · have e0 := hk.old_ 0 (.pointer (some ⟨g,0,none⟩)) (by rw [hds]; rfl) rfl
      exact FStep.at_ 127 (.pointer (some ⟨g,0,none⟩)) (by kernel_rfl) (by (conv in opOf _ _ => whnf); go_simp) ⟨k,rfl⟩ rfl
    · have e127 := hk.eq 5 127 (.pointer (some ⟨g,0,none⟩)) (by kernel_rfl) fun _ h => h
      exact FStep.at_ 128 (.pointer (some ⟨g,0,none⟩)) (by kernel_rfl) (by (conv in opOf _ _ => whnf); go_simp) ⟨k,rfl⟩ rfl
    · have e128 := hk.eq 6 128 (.pointer (some ⟨g,0,none⟩)) (by kernel_rfl) fun _ h => h
      exact FStep.at_ 129 (.pointer (some ⟨g,12,none⟩)) (by kernel_rfl) (by (conv in opOf _ _ => whnf); go_simp) ⟨k,rfl⟩ rfl
    · have e129 := hk.eq 7 129 (.pointer (some ⟨g,12,none⟩)) (by kernel_rfl) fun _ h => h
      exact FStep.at_ 130 (.slice (some ⟨ib,io,none⟩) (q + 1) c) (by kernel_rfl) (by (conv in opOf _ _ => whnf); go_simp) ⟨k,rfl⟩ rfl
    · have e130 := hk.eq 8 130 (.slice (some ⟨ib,io,none⟩) (q + 1) c) (by kernel_rfl) fun _ h => h
      exact FStep.at_ 131 (.int .i64 ((q : Int) + 1)) (by kernel_rfl) (by (conv in opOf _ _ => whnf); go_simp) ⟨k,rfl⟩ rfl
    · have e131 := hk.eq 9 131 (.int .i64 ((q : Int) + 1)) (by kernel_rfl) fun _ h => h
      exact FStep.at_ 132 (.int .i64 q) (by kernel_rfl) (by (conv in opOf _ _ => whnf); go_simp) ⟨k,rfl⟩ rfl
    · have e126 := hk.eq 4 126 (.slice (some ⟨ib,io,none⟩) (q + 1) c) (by kernel_rfl) fun _ h => h
      have e132 := hk.eq 10 132 (.int .i64 q) (by kernel_rfl) fun _ h => h
      exact FStep.at_ 133 (.slice (some ⟨ib,io,none⟩) q c) (by kernel_rfl) (by (conv in opOf _ _ => whnf); go_simp) ⟨k,rfl⟩ rfl
    · have e122 := hk.eq 0 122 (.pointer (some ⟨g,0,none⟩)) (by kernel_rfl) fun _ h => h
      exact FStep.at_ 134 (.pointer (some ⟨g,0,none⟩)) (by kernel_rfl) (by (conv in opOf _ _ => whnf); go_simp) ⟨k,rfl⟩ rfl
    · have e134 := hk.eq 12 134 (.pointer (some ⟨g,0,none⟩)) (by kernel_rfl) fun _ h => h
      exact FStep.at_ 135 (.pointer (some ⟨g,12,none⟩)) (by kernel_rfl) (by (conv in opOf _ _ => whnf); go_simp) ⟨k,rfl⟩ rfl
  · have e135 := hk.eq 13 135 (.pointer (some ⟨g,12,none⟩)) (by kernel_rfl) fun _ h => h
    have e133 := hk.eq 11 133 (.slice (some ⟨ib,io,none⟩) q c) (by kernel_rfl) fun _ h => h
    exact FStep.st_ (w' := (W.drewN k).setCell ⟨g,12,none⟩ (.slice (some ⟨ib,io,none⟩) q c)) (by kernel_rfl) (by (conv in opOf _ _ => whnf); go_simp) ⟨k,rfl⟩
  · obtain ⟨k,rfl⟩ := hw
    simp only [List.foldl_cons,List.foldl_nil,List.setIfInBounds_toArray,List.set_cons_zero,List.set_cons_succ]
    exact hQ _ _ _ _ _ _ _ _ _ _ _ _ _ _ k
noncomputable def roR9 : Array Oper := regOf Tryd.f70.body 9
set_option maxRecDepth 100000 in
set_option maxHeartbeats 8000000 in
theorem ro_r9 (g I a n c base : Nat) (A : Option Addr) (xs cells : List Value) (x : Int) (u1 u2 u3 u4 u5 u7 u8 u9 Ua Ul Uw UH US U3 Ye Yp YA YL YW Y7 Zi Zt Zz ZA ZB ZC ZD ZE ZF ZG ZH ZI ZJ ZK ZL ZM ZN ZO ZP ZQ ZR ZS ZT ZU ZV ZW ZX ZY ZZ Z0 Z1 Z2 Z3 Z4 Z5 Z6 Z7 Z8 Z9 Ja Jb Jc Jd Je Jf Jg Jh Ji Jj Jk Jl Jm Jn Jo Jp Jq Jr Js Jt Ju Jv Jw Jx Jy Jz JA JB JC JD JE JF JG JH JI JJ JK JL JM Ub Uc Ud Ue Uf Ug Uh Ui Uj Uk Um Un Uo Up Uq Ur Us Ut Uu Uv Ux Uy Uz UA UB UC UD UE UF UG UI UJ UK UL UM UN UO UP UQ UR UT UU UV UW UX UY UZ U0 U1 U2 U4 U5 U6 U7 U8 U9 Ya Yb Yc Yd Yf Yg Yh Yi Yj Yk Yl Ym Yn Yo Yq Yr Ys Yt Yu Yv Yw Yx Yy Yz YB YC YD YE YF YG YH YI YJ YK YM YN YO YP YQ YR YS YT YU YV YX YY YZ Y0 Y1 Y2 Y3 Y4 Y5 Y6 Y8 Y9 Za Zb Zc Zd Ze Zf Zg Zh Zj Zk Zl Zm Zn Zo Zp Zq Zr Zs Zu Zv Zw Zx Zy : Value) (W : World) (Q : Exit → Act → World → Prop) (ha : a < 8) (hB : Blk W g 89 cells) (hA : cells[269]? = some (.slice A n c)) (hx : cells[a]? = some (.int .i32 x)) (p1 : W.cell? ⟨I,1,none⟩ = some (.int .i64 a)) (hI : I < W.heap.size)
    (hrow : Row W base 21 (.slice A n c) n xs) (hbase : base ≤ W.heap.size) (hn : n ≤ 1000000) (hgo : Value.ownBlock (.slice A n c) ≠ some g)
    (hQ : ∀ (A' : Option Addr) (c' : Nat) (w6 : World) (X9 Va Vb Vc Vd Ve Vf Vg Vh Vi Vj Vk Vl Vm Vn Vo : Value),Row w6 base 21 (.slice A' (n + 1) c') (n + 1) (xs ++ [.int .i32 x]) → (W.drew.alloc (.cells #[.int .i32 x] 21)).grownBy w6 (Value.ownBlock (.slice A n c)) →
      (∀ k,Value.ownBlock (.slice A' (n + 1) c') = some k → Value.ownBlock (.slice A n c) = some k ∨ (W.drew.alloc (.cells #[.int .i32 x] 21)).heap.size ≤ k) → Q .normal { tmps := #[.pointer (some ⟨g,0,none⟩),u1,u2,u3,u4,u5,.pointer (some ⟨I,0,none⟩),u7,u8,u9,Ua,Ul,Uw,UH,US,U3,Ye,Yp,YA,YL,YW,Y7,Zi,Zt,Zz,X9,Va,Vb,Vc,Vd,Ve,Vf,Vg,Vh,Vi,Vj,Vk,Vl,Vm,Vn,Vo,ZQ,ZR,ZS,ZT,ZU,ZV,ZW,ZX,ZY,ZZ,Z0,Z1,Z2,Z3,Z4,Z5,Z6,Z7,Z8,Z9,Ja,Jb,Jc,Jd,Je,Jf,Jg,Jh,Ji,Jj,Jk,Jl,Jm,Jn,Jo,Jp,Jq,Jr,Js,Jt,Ju,Jv,Jw,Jx,Jy,Jz,JA,JB,JC,JD,JE,JF,JG,JH,JI,JJ,JK,JL,JM,Ub,Uc,Ud,Ue,Uf,Ug,Uh,Ui,Uj,Uk,Um,Un,Uo,Up,Uq,Ur,Us,Ut,Uu,Uv,Ux,Uy,Uz,UA,UB,UC,UD,UE,UF,UG,UI,UJ,UK,UL,UM,UN,UO,UP,UQ,UR,UT,UU,UV,UW,UX,UY,UZ,U0,U1,U2,U4,U5,U6,U7,U8,U9,Ya,Yb,Yc,Yd,Yf,Yg,Yh,Yi,Yj,Yk,Yl,Ym,Yn,Yo,Yq,Yr,Ys,Yt,Yu,Yv,Yw,Yx,Yy,Yz,YB,YC,YD,YE,YF,YG,YH,YI,YJ,YK,YM,YN,YO,YP,YQ,YR,YS,YT,YU,YV,YX,YY,YZ,Y0,Y1,Y2,Y3,Y4,Y5,Y6,Y8,Y9,Za,Zb,Zc,Zd,Ze,Zf,Zg,Zh,Zj,Zk,Zl,Zm,Zn,Zo,Zp,Zq,Zr,Zs,Zu,Zv,Zw,Zx,Zy],defers := [] } (w6.setCell ⟨g,269,none⟩ (.slice A' (n + 1) c'))) :
    (Code.region 9 roR9 true).wp Tryd.prog Q { tmps := #[.pointer (some ⟨g,0,none⟩),u1,u2,u3,u4,u5,.pointer (some ⟨I,0,none⟩),u7,u8,u9,Ua,Ul,Uw,UH,US,U3,Ye,Yp,YA,YL,YW,Y7,Zi,Zt,Zz,ZA,ZB,ZC,ZD,ZE,ZF,ZG,ZH,ZI,ZJ,ZK,ZL,ZM,ZN,ZO,ZP,ZQ,ZR,ZS,ZT,ZU,ZV,ZW,ZX,ZY,ZZ,Z0,Z1,Z2,Z3,Z4,Z5,Z6,Z7,Z8,Z9,Ja,Jb,Jc,Jd,Je,Jf,Jg,Jh,Ji,Jj,Jk,Jl,Jm,Jn,Jo,Jp,Jq,Jr,Js,Jt,Ju,Jv,Jw,Jx,Jy,Jz,JA,JB,JC,JD,JE,JF,JG,JH,JI,JJ,JK,JL,JM,Ub,Uc,Ud,Ue,Uf,Ug,Uh,Ui,Uj,Uk,Um,Un,Uo,Up,Uq,Ur,Us,Ut,Uu,Uv,Ux,Uy,Uz,UA,UB,UC,UD,UE,UF,UG,UI,UJ,UK,UL,UM,UN,UO,UP,UQ,UR,UT,UU,UV,UW,UX,UY,UZ,U0,U1,U2,U4,U5,U6,U7,U8,U9,Ya,Yb,Yc,Yd,Yf,Yg,Yh,Yi,Yj,Yk,Yl,Ym,Yn,Yo,Yq,Yr,Ys,Yt,Yu,Yv,Yw,Yx,Yy,Yz,YB,YC,YD,YE,YF,YG,YH,YI,YJ,YK,YM,YN,YO,YP,YQ,YR,YS,YT,YU,YV,YX,YY,YZ,Y0,Y1,Y2,Y3,Y4,Y5,Y6,Y8,Y9,Za,Zb,Zc,Zd,Ze,Zf,Zg,Zh,Zj,Zk,Zl,Zm,Zn,Zo,Zp,Zq,Zr,Zs,Zu,Zv,Zw,Zx,Zy],defers := [] } W := by
  obtain ⟨i0,hi0,hz0,hz1,hz2⟩ := info_parts i32_info
  have hA8 : (a : Int) < 8 := by omega
  have hgl := hB.lt
  have q1 := (hB.cell 269).trans hA
  have q2 := (hB.cell a).trans hx
  refine held_start (ops' := roR9) (l0 := #[false,false,false,false,false,false,false,false,false,false,false,false,false,false,false,false,false]) (S := fun _ => True) (by kernel_rfl) (by kernel_rfl) (by kernel_rfl) (by kernel_rfl) trivial (fun R hR => ?_)
  (refine held_take (v := ?_) (d := some 25) 0 (by kernel_rfl) (by kernel_rfl) rfl ?_ ?_
   rotate_left
   · intro w hSw
     conv in opOf _ _ => whnf
     (try dsimp only at hSw)
     go_simp
     try (with_reducible rfl)
   try simp only [Act.put,List.setIfInBounds_toArray,List.set_cons_zero,List.set_cons_succ])
  (refine held_take (v := ?_) (d := some 26) 1 (by kernel_rfl) (by kernel_rfl) rfl ?_ ?_
   rotate_left
   · intro w hSw
     conv in opOf _ _ => whnf
     (try dsimp only at hSw)
     go_simp
     try (with_reducible rfl)
   try simp only [Act.put,List.setIfInBounds_toArray,List.set_cons_zero,List.set_cons_succ])
  (refine held_take (v := ?_) (d := some 27) 2 (by kernel_rfl) (by kernel_rfl) rfl ?_ ?_
   rotate_left
   · intro w hSw
     conv in opOf _ _ => whnf
     (try dsimp only at hSw)
     go_simp
     try (with_reducible rfl)
   try simp only [Act.put,List.setIfInBounds_toArray,List.set_cons_zero,List.set_cons_succ])
  (refine held_take (v := ?_) (d := some 28) 3 (by kernel_rfl) (by kernel_rfl) rfl ?_ ?_
   rotate_left
   · intro w hSw
     conv in opOf _ _ => whnf
     (try dsimp only at hSw)
     go_simp
     try (with_reducible rfl)
   try simp only [Act.put,List.setIfInBounds_toArray,List.set_cons_zero,List.set_cons_succ])
  (refine held_take (v := ?_) (d := some 30) 5 (by kernel_rfl) (by kernel_rfl) rfl ?_ ?_
   rotate_left
   · intro w hSw
     conv in opOf _ _ => whnf
     (try dsimp only at hSw)
     go_simp
     try (with_reducible rfl)
   try simp only [Act.put,List.setIfInBounds_toArray,List.set_cons_zero,List.set_cons_succ])
  (refine held_take (v := ?_) (d := some 31) 6 (by kernel_rfl) (by kernel_rfl) rfl ?_ ?_
   rotate_left
   · intro w hSw
     conv in opOf _ _ => whnf
     (try dsimp only at hSw)
     go_simp
     try (with_reducible rfl)
   try simp only [Act.put,List.setIfInBounds_toArray,List.set_cons_zero,List.set_cons_succ])
  (refine held_take (v := ?_) (d := some 33) 8 (by kernel_rfl) (by kernel_rfl) rfl ?_ ?_
   rotate_left
   · intro w hSw
     conv in opOf _ _ => whnf
     (try dsimp only at hSw)
     go_simp
     try (with_reducible rfl)
   try simp only [Act.put,List.setIfInBounds_toArray,List.set_cons_zero,List.set_cons_succ])
  (refine held_take (v := ?_) (d := some 34) 9 (by kernel_rfl) (by kernel_rfl) rfl ?_ ?_
   rotate_left
   · intro w hSw
     conv in opOf _ _ => whnf
     (try dsimp only at hSw)
     go_simp
     try (with_reducible rfl)
   try simp only [Act.put,List.setIfInBounds_toArray,List.set_cons_zero,List.set_cons_succ])
  refine held_many [4,7] (by kernel_rfl) (by simp) (by intro i hi; simp only [List.mem_cons,List.not_mem_nil,or_false] at hi; rcases hi with rfl | rfl <;> kernel_rfl) (fun i hi => ?_)
  simp only [List.mem_cons,List.not_mem_nil,or_false] at hi
  rcases hi with rfl | rfl
  · skip
    (refine held_run (v := ?_) (w' := ?_) (d := some 29) 4 (by kernel_rfl) (by kernel_rfl) rfl ?_ ?_
     rotate_left 2
     · intro hSw
       conv in opOf _ _ => whnf
       go_simp
       first | done | (with_reducible rfl) | (constructor <;> with_reducible rfl)
     intro hS
     refine ⟨trivial,?_⟩
     try simp only [Act.put,List.setIfInBounds_toArray,List.set_cons_zero,List.set_cons_succ])
    refine held_one 7 (by kernel_rfl) (by kernel_rfl) ?_
    (refine held_run (v := ?_) (w' := ?_) (d := some 32) 7 (by kernel_rfl) (by kernel_rfl) rfl ?_ ?_
     rotate_left 2
     · intro hSw
       conv in opOf _ _ => whnf
       go_simp
       first | done | (with_reducible rfl) | (constructor <;> with_reducible rfl)
     intro hS
     refine ⟨trivial,?_⟩
     try simp only [Act.put,List.setIfInBounds_toArray,List.set_cons_zero,List.set_cons_succ])
    (refine held_take (v := ?_) (d := some 35) 10 (by kernel_rfl) (by kernel_rfl) rfl ?_ ?_
     rotate_left
     · intro w hSw
       conv in opOf _ _ => whnf
       (try dsimp only at hSw)
       go_simp
       try (with_reducible rfl)
     try simp only [Act.put,List.setIfInBounds_toArray,List.set_cons_zero,List.set_cons_succ])
    refine held_one 11 (by kernel_rfl) (by kernel_rfl) ?_
    (refine held_run (v := ?_) (w' := ?_) (d := some 36) 11 (by kernel_rfl) (by kernel_rfl) rfl ?_ ?_
     rotate_left 2
     · intro hSw
       conv in opOf _ _ => whnf
       go_simp
       first | done | (with_reducible rfl) | (constructor <;> with_reducible rfl)
     intro hS
     refine ⟨trivial,?_⟩
     try simp only [Act.put,List.setIfInBounds_toArray,List.set_cons_zero,List.set_cons_succ])
    refine held_one 12 (by kernel_rfl) (by kernel_rfl) ?_
    (refine held_run (v := ?_) (w' := ?_) (d := some 37) 12 (by kernel_rfl) (by kernel_rfl) rfl ?_ ?_
     rotate_left 2
     · intro hSw
       conv in opOf _ _ => whnf
       go_simp
       first | done | (with_reducible rfl) | (constructor <;> with_reducible rfl)
     intro hS
     refine ⟨trivial,?_⟩
     try simp only [Act.put,List.setIfInBounds_toArray,List.set_cons_zero,List.set_cons_succ])
    (refine held_one 13 (by kernel_rfl) (by kernel_rfl) (held_row 13 (d := some 38) (by kernel_rfl) (by kernel_rfl) rfl (.tmp 29) (.tmp 37) 67 (by kernel_rfl) base 21 i0 (.int .i32 0) 4 Tryd.underlying67 hi0 hz0 hz1 hz2 rfl (.slice A n c) n xs (by kernel_rfl) (hrow.keep fun k hk => Below.heap_alloc W.drew _ k (hrow.lt k hk).2) W.heap.size 0 1 (.int .i32 x) (by kernel_rfl) (by simp) rfl (by unfold maxLen; omega) (by omega) (by simp; omega) (fun A' c' w6 _ hrow6 hg6 ho6 => ⟨trivial,?_⟩))
     try simp only [Act.put,List.setIfInBounds_toArray,List.set_cons_zero,List.set_cons_succ])
    have hB6 : Blk w6 g 89 cells := Blk.grown ((show Blk W.drew g 89 cells from hB).alloc _) hg6 (fun e => hgo e.symm)
    have q6 := (hB6.cell 269).trans hA
    have f6 := hB6.free 269
    (refine held_take (v := ?_) (d := some 39) 14 (by kernel_rfl) (by kernel_rfl) rfl ?_ ?_
     rotate_left
     · intro w hSw
       conv in opOf _ _ => whnf
       (try dsimp only at hSw)
       go_simp
       try (with_reducible rfl)
     try simp only [Act.put,List.setIfInBounds_toArray,List.set_cons_zero,List.set_cons_succ])
    (refine held_take (v := ?_) (d := some 40) 15 (by kernel_rfl) (by kernel_rfl) rfl ?_ ?_
     rotate_left
     · intro w hSw
       conv in opOf _ _ => whnf
       (try dsimp only at hSw)
       go_simp
       try (with_reducible rfl)
     try simp only [Act.put,List.setIfInBounds_toArray,List.set_cons_zero,List.set_cons_succ])
    refine held_one 16 (by kernel_rfl) (by kernel_rfl) (held_mute (w' := ?_) (d := none) 16 (by kernel_rfl) (by kernel_rfl) rfl ?_ ?_)
    rotate_left 1
    · intro hSw
      conv in opOf _ _ => whnf
      go_simp
      first | done | (with_reducible rfl)
    intro hS
    refine ⟨trivial,?_⟩
    try simp only [Act.put,List.setIfInBounds_toArray,List.set_cons_zero,List.set_cons_succ]
    refine held_done (by kernel_rfl) (fun hS => hR.out _ _ ?_)
    exact hQ _ _ _ _ _ _ _ _ _ _ _ _ _ _ _ _ _ _ _ hrow6 hg6 ho6
  · skip
    (refine held_run (v := ?_) (w' := ?_) (d := some 32) 7 (by kernel_rfl) (by kernel_rfl) rfl ?_ ?_
     rotate_left 2
     · intro hSw
       conv in opOf _ _ => whnf
       go_simp
       first | done | (with_reducible rfl) | (constructor <;> with_reducible rfl)
     intro hS
     refine ⟨trivial,?_⟩
     try simp only [Act.put,List.setIfInBounds_toArray,List.set_cons_zero,List.set_cons_succ])
    (refine held_take (v := ?_) (d := some 35) 10 (by kernel_rfl) (by kernel_rfl) rfl ?_ ?_
     rotate_left
     · intro w hSw
       conv in opOf _ _ => whnf
       (try dsimp only at hSw)
       go_simp
       try (with_reducible rfl)
     try simp only [Act.put,List.setIfInBounds_toArray,List.set_cons_zero,List.set_cons_succ])
    refine held_many [4,11] (by kernel_rfl) (by simp) (by intro i hi; simp only [List.mem_cons,List.not_mem_nil,or_false] at hi; rcases hi with rfl | rfl <;> kernel_rfl) (fun i hi => ?_)
    simp only [List.mem_cons,List.not_mem_nil,or_false] at hi
    rcases hi with rfl | rfl
    · skip
      (refine held_run (v := ?_) (w' := ?_) (d := some 29) 4 (by kernel_rfl) (by kernel_rfl) rfl ?_ ?_
       rotate_left 2
       · intro hSw
         conv in opOf _ _ => whnf
         go_simp
         first | done | (with_reducible rfl) | (constructor <;> with_reducible rfl)
       intro hS
       refine ⟨trivial,?_⟩
       try simp only [Act.put,List.setIfInBounds_toArray,List.set_cons_zero,List.set_cons_succ])
      refine held_one 11 (by kernel_rfl) (by kernel_rfl) ?_
      (refine held_run (v := ?_) (w' := ?_) (d := some 36) 11 (by kernel_rfl) (by kernel_rfl) rfl ?_ ?_
       rotate_left 2
       · intro hSw
         conv in opOf _ _ => whnf
         go_simp
         first | done | (with_reducible rfl) | (constructor <;> with_reducible rfl)
       intro hS
       refine ⟨trivial,?_⟩
       try simp only [Act.put,List.setIfInBounds_toArray,List.set_cons_zero,List.set_cons_succ])
      refine held_one 12 (by kernel_rfl) (by kernel_rfl) ?_
      (refine held_run (v := ?_) (w' := ?_) (d := some 37) 12 (by kernel_rfl) (by kernel_rfl) rfl ?_ ?_
       rotate_left 2
       · intro hSw
         conv in opOf _ _ => whnf
         go_simp
         first | done | (with_reducible rfl) | (constructor <;> with_reducible rfl)
       intro hS
       refine ⟨trivial,?_⟩
       try simp only [Act.put,List.setIfInBounds_toArray,List.set_cons_zero,List.set_cons_succ])
      (refine held_one 13 (by kernel_rfl) (by kernel_rfl) (held_row 13 (d := some 38) (by kernel_rfl) (by kernel_rfl) rfl (.tmp 29) (.tmp 37) 67 (by kernel_rfl) base 21 i0 (.int .i32 0) 4 Tryd.underlying67 hi0 hz0 hz1 hz2 rfl (.slice A n c) n xs (by kernel_rfl) (hrow.keep fun k hk => Below.heap_alloc W.drew _ k (hrow.lt k hk).2) W.heap.size 0 1 (.int .i32 x) (by kernel_rfl) (by simp) rfl (by unfold maxLen; omega) (by omega) (by simp; omega) (fun A' c' w6 _ hrow6 hg6 ho6 => ⟨trivial,?_⟩))
       try simp only [Act.put,List.setIfInBounds_toArray,List.set_cons_zero,List.set_cons_succ])
      have hB6 : Blk w6 g 89 cells := Blk.grown ((show Blk W.drew g 89 cells from hB).alloc _) hg6 (fun e => hgo e.symm)
      have q6 := (hB6.cell 269).trans hA
      have f6 := hB6.free 269
      (refine held_take (v := ?_) (d := some 39) 14 (by kernel_rfl) (by kernel_rfl) rfl ?_ ?_
       rotate_left
       · intro w hSw
         conv in opOf _ _ => whnf
         (try dsimp only at hSw)
         go_simp
         try (with_reducible rfl)
       try simp only [Act.put,List.setIfInBounds_toArray,List.set_cons_zero,List.set_cons_succ])
      (refine held_take (v := ?_) (d := some 40) 15 (by kernel_rfl) (by kernel_rfl) rfl ?_ ?_
       rotate_left
       · intro w hSw
         conv in opOf _ _ => whnf
         (try dsimp only at hSw)
         go_simp
         try (with_reducible rfl)
       try simp only [Act.put,List.setIfInBounds_toArray,List.set_cons_zero,List.set_cons_succ])
      refine held_one 16 (by kernel_rfl) (by kernel_rfl) (held_mute (w' := ?_) (d := none) 16 (by kernel_rfl) (by kernel_rfl) rfl ?_ ?_)
      rotate_left 1
      · intro hSw
        conv in opOf _ _ => whnf
        go_simp
        first | done | (with_reducible rfl)
      intro hS
      refine ⟨trivial,?_⟩
      try simp only [Act.put,List.setIfInBounds_toArray,List.set_cons_zero,List.set_cons_succ]
      refine held_done (by kernel_rfl) (fun hS => hR.out _ _ ?_)
      exact hQ _ _ _ _ _ _ _ _ _ _ _ _ _ _ _ _ _ _ _ hrow6 hg6 ho6
    · skip
      (refine held_run (v := ?_) (w' := ?_) (d := some 36) 11 (by kernel_rfl) (by kernel_rfl) rfl ?_ ?_
       rotate_left 2
       · intro hSw
         conv in opOf _ _ => whnf
         go_simp
         first | done | (with_reducible rfl) | (constructor <;> with_reducible rfl)
       intro hS
       refine ⟨trivial,?_⟩
       try simp only [Act.put,List.setIfInBounds_toArray,List.set_cons_zero,List.set_cons_succ])
      refine held_many [4,12] (by kernel_rfl) (by simp) (by intro i hi; simp only [List.mem_cons,List.not_mem_nil,or_false] at hi; rcases hi with rfl | rfl <;> kernel_rfl) (fun i hi => ?_)
      simp only [List.mem_cons,List.not_mem_nil,or_false] at hi
      rcases hi with rfl | rfl
      · skip
        (refine held_run (v := ?_) (w' := ?_) (d := some 29) 4 (by kernel_rfl) (by kernel_rfl) rfl ?_ ?_
         rotate_left 2
         · intro hSw
           conv in opOf _ _ => whnf
           go_simp
           first | done | (with_reducible rfl) | (constructor <;> with_reducible rfl)
         intro hS
         refine ⟨trivial,?_⟩
         try simp only [Act.put,List.setIfInBounds_toArray,List.set_cons_zero,List.set_cons_succ])
        refine held_one 12 (by kernel_rfl) (by kernel_rfl) ?_
        (refine held_run (v := ?_) (w' := ?_) (d := some 37) 12 (by kernel_rfl) (by kernel_rfl) rfl ?_ ?_
         rotate_left 2
         · intro hSw
           conv in opOf _ _ => whnf
           go_simp
           first | done | (with_reducible rfl) | (constructor <;> with_reducible rfl)
         intro hS
         refine ⟨trivial,?_⟩
         try simp only [Act.put,List.setIfInBounds_toArray,List.set_cons_zero,List.set_cons_succ])
        (refine held_one 13 (by kernel_rfl) (by kernel_rfl) (held_row 13 (d := some 38) (by kernel_rfl) (by kernel_rfl) rfl (.tmp 29) (.tmp 37) 67 (by kernel_rfl) base 21 i0 (.int .i32 0) 4 Tryd.underlying67 hi0 hz0 hz1 hz2 rfl (.slice A n c) n xs (by kernel_rfl) (hrow.keep fun k hk => Below.heap_alloc W.drew _ k (hrow.lt k hk).2) W.heap.size 0 1 (.int .i32 x) (by kernel_rfl) (by simp) rfl (by unfold maxLen; omega) (by omega) (by simp; omega) (fun A' c' w6 _ hrow6 hg6 ho6 => ⟨trivial,?_⟩))
         try simp only [Act.put,List.setIfInBounds_toArray,List.set_cons_zero,List.set_cons_succ])
        have hB6 : Blk w6 g 89 cells := Blk.grown ((show Blk W.drew g 89 cells from hB).alloc _) hg6 (fun e => hgo e.symm)
        have q6 := (hB6.cell 269).trans hA
        have f6 := hB6.free 269
        (refine held_take (v := ?_) (d := some 39) 14 (by kernel_rfl) (by kernel_rfl) rfl ?_ ?_
         rotate_left
         · intro w hSw
           conv in opOf _ _ => whnf
           (try dsimp only at hSw)
           go_simp
           try (with_reducible rfl)
         try simp only [Act.put,List.setIfInBounds_toArray,List.set_cons_zero,List.set_cons_succ])
        (refine held_take (v := ?_) (d := some 40) 15 (by kernel_rfl) (by kernel_rfl) rfl ?_ ?_
         rotate_left
         · intro w hSw
           conv in opOf _ _ => whnf
           (try dsimp only at hSw)
           go_simp
           try (with_reducible rfl)
         try simp only [Act.put,List.setIfInBounds_toArray,List.set_cons_zero,List.set_cons_succ])
        refine held_one 16 (by kernel_rfl) (by kernel_rfl) (held_mute (w' := ?_) (d := none) 16 (by kernel_rfl) (by kernel_rfl) rfl ?_ ?_)
        rotate_left 1
        · intro hSw
          conv in opOf _ _ => whnf
          go_simp
          first | done | (with_reducible rfl)
        intro hS
        refine ⟨trivial,?_⟩
        try simp only [Act.put,List.setIfInBounds_toArray,List.set_cons_zero,List.set_cons_succ]
        refine held_done (by kernel_rfl) (fun hS => hR.out _ _ ?_)
        exact hQ _ _ _ _ _ _ _ _ _ _ _ _ _ _ _ _ _ _ _ hrow6 hg6 ho6
      · skip
        (refine held_run (v := ?_) (w' := ?_) (d := some 37) 12 (by kernel_rfl) (by kernel_rfl) rfl ?_ ?_
         rotate_left 2
         · intro hSw
           conv in opOf _ _ => whnf
           go_simp
           first | done | (with_reducible rfl) | (constructor <;> with_reducible rfl)
         intro hS
         refine ⟨trivial,?_⟩
         try simp only [Act.put,List.setIfInBounds_toArray,List.set_cons_zero,List.set_cons_succ])
        refine held_one 4 (by kernel_rfl) (by kernel_rfl) ?_
        (refine held_run (v := ?_) (w' := ?_) (d := some 29) 4 (by kernel_rfl) (by kernel_rfl) rfl ?_ ?_
         rotate_left 2
         · intro hSw
           conv in opOf _ _ => whnf
           go_simp
           first | done | (with_reducible rfl) | (constructor <;> with_reducible rfl)
         intro hS
         refine ⟨trivial,?_⟩
         try simp only [Act.put,List.setIfInBounds_toArray,List.set_cons_zero,List.set_cons_succ])
        (refine held_one 13 (by kernel_rfl) (by kernel_rfl) (held_row 13 (d := some 38) (by kernel_rfl) (by kernel_rfl) rfl (.tmp 29) (.tmp 37) 67 (by kernel_rfl) base 21 i0 (.int .i32 0) 4 Tryd.underlying67 hi0 hz0 hz1 hz2 rfl (.slice A n c) n xs (by kernel_rfl) (hrow.keep fun k hk => Below.heap_alloc W.drew _ k (hrow.lt k hk).2) W.heap.size 0 1 (.int .i32 x) (by kernel_rfl) (by simp) rfl (by unfold maxLen; omega) (by omega) (by simp; omega) (fun A' c' w6 _ hrow6 hg6 ho6 => ⟨trivial,?_⟩))
         try simp only [Act.put,List.setIfInBounds_toArray,List.set_cons_zero,List.set_cons_succ])
        have hB6 : Blk w6 g 89 cells := Blk.grown ((show Blk W.drew g 89 cells from hB).alloc _) hg6 (fun e => hgo e.symm)
        have q6 := (hB6.cell 269).trans hA
        have f6 := hB6.free 269
        (refine held_take (v := ?_) (d := some 39) 14 (by kernel_rfl) (by kernel_rfl) rfl ?_ ?_
         rotate_left
         · intro w hSw
           conv in opOf _ _ => whnf
           (try dsimp only at hSw)
           go_simp
           try (with_reducible rfl)
         try simp only [Act.put,List.setIfInBounds_toArray,List.set_cons_zero,List.set_cons_succ])
        (refine held_take (v := ?_) (d := some 40) 15 (by kernel_rfl) (by kernel_rfl) rfl ?_ ?_
         rotate_left
         · intro w hSw
           conv in opOf _ _ => whnf
           (try dsimp only at hSw)
           go_simp
           try (with_reducible rfl)
         try simp only [Act.put,List.setIfInBounds_toArray,List.set_cons_zero,List.set_cons_succ])
        refine held_one 16 (by kernel_rfl) (by kernel_rfl) (held_mute (w' := ?_) (d := none) 16 (by kernel_rfl) (by kernel_rfl) rfl ?_ ?_)
        rotate_left 1
        · intro hSw
          conv in opOf _ _ => whnf
          go_simp
          first | done | (with_reducible rfl)
        intro hS
        refine ⟨trivial,?_⟩
        try simp only [Act.put,List.setIfInBounds_toArray,List.set_cons_zero,List.set_cons_succ]
        refine held_done (by kernel_rfl) (fun hS => hR.out _ _ ?_)
        exact hQ _ _ _ _ _ _ _ _ _ _ _ _ _ _ _ _ _ _ _ hrow6 hg6 ho6
noncomputable def roR18 : Array Oper := regOf Tryd.f70.body 18
set_option maxRecDepth 100000 in
set_option maxHeartbeats 8000000 in
theorem ro_r18 (g I a n c base : Nat) (A : Option Addr) (xs cells : List Value) (x : Int) (u1 u2 u3 u4 u5 u7 u8 u9 Ua Ul Uw UH US U3 Ye Yp YA YL YW Y7 Zi Zt Zz ZA ZB ZC ZD ZE ZF ZG ZH ZI ZJ ZK ZL ZM ZN ZO ZP ZQ ZR ZS ZT ZU ZV ZW ZX ZY ZZ Z0 Z1 Z2 Z3 Z4 Z5 Z6 Z7 Z8 Z9 Ja Jb Jc Jd Je Jf Jg Jh Ji Jj Jk Jl Jm Jn Jo Jp Jq Jr Js Jt Ju Jv Jw Jx Jy Jz JA JB JC JD JE JF JG JH JI JJ JK JL JM Ub Uc Ud Ue Uf Ug Uh Ui Uj Uk Um Un Uo Up Uq Ur Us Ut Uu Uv Ux Uy Uz UA UB UC UD UE UF UG UI UJ UK UL UM UN UO UP UQ UR UT UU UV UW UX UY UZ U0 U1 U2 U4 U5 U6 U7 U8 U9 Ya Yb Yc Yd Yf Yg Yh Yi Yj Yk Yl Ym Yn Yo Yq Yr Ys Yt Yu Yv Yw Yx Yy Yz YB YC YD YE YF YG YH YI YJ YK YM YN YO YP YQ YR YS YT YU YV YX YY YZ Y0 Y1 Y2 Y3 Y4 Y5 Y6 Y8 Y9 Za Zb Zc Zd Ze Zf Zg Zh Zj Zk Zl Zm Zn Zo Zp Zq Zr Zs Zu Zv Zw Zx Zy : Value) (W : World) (Q : Exit → Act → World → Prop) (ha : a < 8) (hB : Blk W g 89 cells) (hA : cells[12]? = some (.slice A n c)) (hx : cells[a]? = some (.int .i32 x)) (p1 : W.cell? ⟨I,1,none⟩ = some (.int .i64 a)) (hI : I < W.heap.size)
    (hrow : Row W base 21 (.slice A n c) n xs) (hbase : base ≤ W.heap.size) (hn : n ≤ 1000000) (hgo : Value.ownBlock (.slice A n c) ≠ some g)
    (hQ : ∀ (A' : Option Addr) (c' : Nat) (w6 : World) (VB VC VD VE VF VG VH VI VJ VK VL VM VN VO VP VQ : Value),Row w6 base 21 (.slice A' (n + 1) c') (n + 1) (xs ++ [.int .i32 x]) → (W.drew.alloc (.cells #[.int .i32 x] 21)).grownBy w6 (Value.ownBlock (.slice A n c)) →
      (∀ k,Value.ownBlock (.slice A' (n + 1) c') = some k → Value.ownBlock (.slice A n c) = some k ∨ (W.drew.alloc (.cells #[.int .i32 x] 21)).heap.size ≤ k) → Q .normal { tmps := #[.pointer (some ⟨g,0,none⟩),u1,u2,u3,u4,u5,.pointer (some ⟨I,0,none⟩),u7,u8,u9,Ua,Ul,Uw,UH,US,U3,Ye,Yp,YA,YL,YW,Y7,Zi,Zt,Zz,ZA,ZB,ZC,ZD,ZE,ZF,ZG,ZH,ZI,ZJ,ZK,ZL,ZM,ZN,ZO,ZP,ZQ,ZR,ZS,ZT,ZU,ZV,ZW,ZX,ZY,ZZ,Z0,Z1,Z2,Z3,Z4,Z5,Z6,Z7,Z8,Z9,Ja,Jb,Jc,Jd,Je,Jf,Jg,Jh,Ji,Jj,Jk,Jl,Jm,Jn,Jo,Jp,Jq,Jr,VB,VC,VD,VE,VF,VG,VH,VI,VJ,VK,VL,VM,VN,VO,VP,VQ,JI,JJ,JK,JL,JM,Ub,Uc,Ud,Ue,Uf,Ug,Uh,Ui,Uj,Uk,Um,Un,Uo,Up,Uq,Ur,Us,Ut,Uu,Uv,Ux,Uy,Uz,UA,UB,UC,UD,UE,UF,UG,UI,UJ,UK,UL,UM,UN,UO,UP,UQ,UR,UT,UU,UV,UW,UX,UY,UZ,U0,U1,U2,U4,U5,U6,U7,U8,U9,Ya,Yb,Yc,Yd,Yf,Yg,Yh,Yi,Yj,Yk,Yl,Ym,Yn,Yo,Yq,Yr,Ys,Yt,Yu,Yv,Yw,Yx,Yy,Yz,YB,YC,YD,YE,YF,YG,YH,YI,YJ,YK,YM,YN,YO,YP,YQ,YR,YS,YT,YU,YV,YX,YY,YZ,Y0,Y1,Y2,Y3,Y4,Y5,Y6,Y8,Y9,Za,Zb,Zc,Zd,Ze,Zf,Zg,Zh,Zj,Zk,Zl,Zm,Zn,Zo,Zp,Zq,Zr,Zs,Zu,Zv,Zw,Zx,Zy],defers := [] } (w6.setCell ⟨g,12,none⟩ (.slice A' (n + 1) c'))) :
    (Code.region 18 roR18 true).wp Tryd.prog Q { tmps := #[.pointer (some ⟨g,0,none⟩),u1,u2,u3,u4,u5,.pointer (some ⟨I,0,none⟩),u7,u8,u9,Ua,Ul,Uw,UH,US,U3,Ye,Yp,YA,YL,YW,Y7,Zi,Zt,Zz,ZA,ZB,ZC,ZD,ZE,ZF,ZG,ZH,ZI,ZJ,ZK,ZL,ZM,ZN,ZO,ZP,ZQ,ZR,ZS,ZT,ZU,ZV,ZW,ZX,ZY,ZZ,Z0,Z1,Z2,Z3,Z4,Z5,Z6,Z7,Z8,Z9,Ja,Jb,Jc,Jd,Je,Jf,Jg,Jh,Ji,Jj,Jk,Jl,Jm,Jn,Jo,Jp,Jq,Jr,Js,Jt,Ju,Jv,Jw,Jx,Jy,Jz,JA,JB,JC,JD,JE,JF,JG,JH,JI,JJ,JK,JL,JM,Ub,Uc,Ud,Ue,Uf,Ug,Uh,Ui,Uj,Uk,Um,Un,Uo,Up,Uq,Ur,Us,Ut,Uu,Uv,Ux,Uy,Uz,UA,UB,UC,UD,UE,UF,UG,UI,UJ,UK,UL,UM,UN,UO,UP,UQ,UR,UT,UU,UV,UW,UX,UY,UZ,U0,U1,U2,U4,U5,U6,U7,U8,U9,Ya,Yb,Yc,Yd,Yf,Yg,Yh,Yi,Yj,Yk,Yl,Ym,Yn,Yo,Yq,Yr,Ys,Yt,Yu,Yv,Yw,Yx,Yy,Yz,YB,YC,YD,YE,YF,YG,YH,YI,YJ,YK,YM,YN,YO,YP,YQ,YR,YS,YT,YU,YV,YX,YY,YZ,Y0,Y1,Y2,Y3,Y4,Y5,Y6,Y8,Y9,Za,Zb,Zc,Zd,Ze,Zf,Zg,Zh,Zj,Zk,Zl,Zm,Zn,Zo,Zp,Zq,Zr,Zs,Zu,Zv,Zw,Zx,Zy],defers := [] } W := by
  obtain ⟨i0,hi0,hz0,hz1,hz2⟩ := info_parts i32_info
  have hA8 : (a : Int) < 8 := by omega
  have hgl := hB.lt
  have q1 := (hB.cell 12).trans hA
  have q2 := (hB.cell a).trans hx
  refine held_start (ops' := roR18) (l0 := #[false,false,false,false,false,false,false,false,false,false,false,false,false,false,false,false,false]) (S := fun _ => True) (by kernel_rfl) (by kernel_rfl) (by kernel_rfl) (by kernel_rfl) trivial (fun R hR => ?_)
  (refine held_take (v := ?_) (d := some 79) 0 (by kernel_rfl) (by kernel_rfl) rfl ?_ ?_
   rotate_left
   · intro w hSw
     conv in opOf _ _ => whnf
     (try dsimp only at hSw)
     go_simp
     try (with_reducible rfl)
   try simp only [Act.put,List.setIfInBounds_toArray,List.set_cons_zero,List.set_cons_succ])
  (refine held_take (v := ?_) (d := some 80) 1 (by kernel_rfl) (by kernel_rfl) rfl ?_ ?_
   rotate_left
   · intro w hSw
     conv in opOf _ _ => whnf
     (try dsimp only at hSw)
     go_simp
     try (with_reducible rfl)
   try simp only [Act.put,List.setIfInBounds_toArray,List.set_cons_zero,List.set_cons_succ])
  (refine held_take (v := ?_) (d := some 81) 2 (by kernel_rfl) (by kernel_rfl) rfl ?_ ?_
   rotate_left
   · intro w hSw
     conv in opOf _ _ => whnf
     (try dsimp only at hSw)
     go_simp
     try (with_reducible rfl)
   try simp only [Act.put,List.setIfInBounds_toArray,List.set_cons_zero,List.set_cons_succ])
  (refine held_take (v := ?_) (d := some 82) 3 (by kernel_rfl) (by kernel_rfl) rfl ?_ ?_
   rotate_left
   · intro w hSw
     conv in opOf _ _ => whnf
     (try dsimp only at hSw)
     go_simp
     try (with_reducible rfl)
   try simp only [Act.put,List.setIfInBounds_toArray,List.set_cons_zero,List.set_cons_succ])
  (refine held_take (v := ?_) (d := some 84) 5 (by kernel_rfl) (by kernel_rfl) rfl ?_ ?_
   rotate_left
   · intro w hSw
     conv in opOf _ _ => whnf
     (try dsimp only at hSw)
     go_simp
     try (with_reducible rfl)
   try simp only [Act.put,List.setIfInBounds_toArray,List.set_cons_zero,List.set_cons_succ])
  (refine held_take (v := ?_) (d := some 85) 6 (by kernel_rfl) (by kernel_rfl) rfl ?_ ?_
   rotate_left
   · intro w hSw
     conv in opOf _ _ => whnf
     (try dsimp only at hSw)
     go_simp
     try (with_reducible rfl)
   try simp only [Act.put,List.setIfInBounds_toArray,List.set_cons_zero,List.set_cons_succ])
  (refine held_take (v := ?_) (d := some 87) 8 (by kernel_rfl) (by kernel_rfl) rfl ?_ ?_
   rotate_left
   · intro w hSw
     conv in opOf _ _ => whnf
     (try dsimp only at hSw)
     go_simp
     try (with_reducible rfl)
   try simp only [Act.put,List.setIfInBounds_toArray,List.set_cons_zero,List.set_cons_succ])
  (refine held_take (v := ?_) (d := some 88) 9 (by kernel_rfl) (by kernel_rfl) rfl ?_ ?_
   rotate_left
   · intro w hSw
     conv in opOf _ _ => whnf
     (try dsimp only at hSw)
     go_simp
     try (with_reducible rfl)
   try simp only [Act.put,List.setIfInBounds_toArray,List.set_cons_zero,List.set_cons_succ])
  refine held_many [4,7] (by kernel_rfl) (by simp) (by intro i hi; simp only [List.mem_cons,List.not_mem_nil,or_false] at hi; rcases hi with rfl | rfl <;> kernel_rfl) (fun i hi => ?_)
  simp only [List.mem_cons,List.not_mem_nil,or_false] at hi
  rcases hi with rfl | rfl
  · skip
    (refine held_run (v := ?_) (w' := ?_) (d := some 83) 4 (by kernel_rfl) (by kernel_rfl) rfl ?_ ?_
     rotate_left 2
     · intro hSw
       conv in opOf _ _ => whnf
       go_simp
       first | done | (with_reducible rfl) | (constructor <;> with_reducible rfl)
     intro hS
     refine ⟨trivial,?_⟩
     try simp only [Act.put,List.setIfInBounds_toArray,List.set_cons_zero,List.set_cons_succ])
    refine held_one 7 (by kernel_rfl) (by kernel_rfl) ?_
    (refine held_run (v := ?_) (w' := ?_) (d := some 86) 7 (by kernel_rfl) (by kernel_rfl) rfl ?_ ?_
     rotate_left 2
     · intro hSw
       conv in opOf _ _ => whnf
       go_simp
       first | done | (with_reducible rfl) | (constructor <;> with_reducible rfl)
     intro hS
     refine ⟨trivial,?_⟩
     try simp only [Act.put,List.setIfInBounds_toArray,List.set_cons_zero,List.set_cons_succ])
    (refine held_take (v := ?_) (d := some 89) 10 (by kernel_rfl) (by kernel_rfl) rfl ?_ ?_
     rotate_left
     · intro w hSw
       conv in opOf _ _ => whnf
       (try dsimp only at hSw)
       go_simp
       try (with_reducible rfl)
     try simp only [Act.put,List.setIfInBounds_toArray,List.set_cons_zero,List.set_cons_succ])
    refine held_one 11 (by kernel_rfl) (by kernel_rfl) ?_
    (refine held_run (v := ?_) (w' := ?_) (d := some 90) 11 (by kernel_rfl) (by kernel_rfl) rfl ?_ ?_
     rotate_left 2
     · intro hSw
       conv in opOf _ _ => whnf
       go_simp
       first | done | (with_reducible rfl) | (constructor <;> with_reducible rfl)
     intro hS
     refine ⟨trivial,?_⟩
     try simp only [Act.put,List.setIfInBounds_toArray,List.set_cons_zero,List.set_cons_succ])
    refine held_one 12 (by kernel_rfl) (by kernel_rfl) ?_
    (refine held_run (v := ?_) (w' := ?_) (d := some 91) 12 (by kernel_rfl) (by kernel_rfl) rfl ?_ ?_
     rotate_left 2
     · intro hSw
       conv in opOf _ _ => whnf
       go_simp
       first | done | (with_reducible rfl) | (constructor <;> with_reducible rfl)
     intro hS
     refine ⟨trivial,?_⟩
     try simp only [Act.put,List.setIfInBounds_toArray,List.set_cons_zero,List.set_cons_succ])
    (refine held_one 13 (by kernel_rfl) (by kernel_rfl) (held_row 13 (d := some 92) (by kernel_rfl) (by kernel_rfl) rfl (.tmp 83) (.tmp 91) 67 (by kernel_rfl) base 21 i0 (.int .i32 0) 4 Tryd.underlying67 hi0 hz0 hz1 hz2 rfl (.slice A n c) n xs (by kernel_rfl) (hrow.keep fun k hk => Below.heap_alloc W.drew _ k (hrow.lt k hk).2) W.heap.size 0 1 (.int .i32 x) (by kernel_rfl) (by simp) rfl (by unfold maxLen; omega) (by omega) (by simp; omega) (fun A' c' w6 _ hrow6 hg6 ho6 => ⟨trivial,?_⟩))
     try simp only [Act.put,List.setIfInBounds_toArray,List.set_cons_zero,List.set_cons_succ])
    have hB6 : Blk w6 g 89 cells := Blk.grown ((show Blk W.drew g 89 cells from hB).alloc _) hg6 (fun e => hgo e.symm)
    have q6 := (hB6.cell 12).trans hA
    have f6 := hB6.free 12
    (refine held_take (v := ?_) (d := some 93) 14 (by kernel_rfl) (by kernel_rfl) rfl ?_ ?_
     rotate_left
     · intro w hSw
       conv in opOf _ _ => whnf
       (try dsimp only at hSw)
       go_simp
       try (with_reducible rfl)
     try simp only [Act.put,List.setIfInBounds_toArray,List.set_cons_zero,List.set_cons_succ])
    (refine held_take (v := ?_) (d := some 94) 15 (by kernel_rfl) (by kernel_rfl) rfl ?_ ?_
     rotate_left
     · intro w hSw
       conv in opOf _ _ => whnf
       (try dsimp only at hSw)
       go_simp
       try (with_reducible rfl)
     try simp only [Act.put,List.setIfInBounds_toArray,List.set_cons_zero,List.set_cons_succ])
    refine held_one 16 (by kernel_rfl) (by kernel_rfl) (held_mute (w' := ?_) (d := none) 16 (by kernel_rfl) (by kernel_rfl) rfl ?_ ?_)
    rotate_left 1
    · intro hSw
      conv in opOf _ _ => whnf
      go_simp
      first | done | (with_reducible rfl)
    intro hS
    refine ⟨trivial,?_⟩
    try simp only [Act.put,List.setIfInBounds_toArray,List.set_cons_zero,List.set_cons_succ]
    refine held_done (by kernel_rfl) (fun hS => hR.out _ _ ?_)
    exact hQ _ _ _ _ _ _ _ _ _ _ _ _ _ _ _ _ _ _ _ hrow6 hg6 ho6
  · skip
    (refine held_run (v := ?_) (w' := ?_) (d := some 86) 7 (by kernel_rfl) (by kernel_rfl) rfl ?_ ?_
     rotate_left 2
     · intro hSw
       conv in opOf _ _ => whnf
       go_simp
       first | done | (with_reducible rfl) | (constructor <;> with_reducible rfl)
     intro hS
     refine ⟨trivial,?_⟩
     try simp only [Act.put,List.setIfInBounds_toArray,List.set_cons_zero,List.set_cons_succ])
    (refine held_take (v := ?_) (d := some 89) 10 (by kernel_rfl) (by kernel_rfl) rfl ?_ ?_
     rotate_left
     · intro w hSw
       conv in opOf _ _ => whnf
       (try dsimp only at hSw)
       go_simp
       try (with_reducible rfl)
     try simp only [Act.put,List.setIfInBounds_toArray,List.set_cons_zero,List.set_cons_succ])
    refine held_many [4,11] (by kernel_rfl) (by simp) (by intro i hi; simp only [List.mem_cons,List.not_mem_nil,or_false] at hi; rcases hi with rfl | rfl <;> kernel_rfl) (fun i hi => ?_)
    simp only [List.mem_cons,List.not_mem_nil,or_false] at hi
    rcases hi with rfl | rfl
    · skip
      (refine held_run (v := ?_) (w' := ?_) (d := some 83) 4 (by kernel_rfl) (by kernel_rfl) rfl ?_ ?_
       rotate_left 2
       · intro hSw
         conv in opOf _ _ => whnf
         go_simp
         first | done | (with_reducible rfl) | (constructor <;> with_reducible rfl)
       intro hS
       refine ⟨trivial,?_⟩
       try simp only [Act.put,List.setIfInBounds_toArray,List.set_cons_zero,List.set_cons_succ])
      refine held_one 11 (by kernel_rfl) (by kernel_rfl) ?_
      (refine held_run (v := ?_) (w' := ?_) (d := some 90) 11 (by kernel_rfl) (by kernel_rfl) rfl ?_ ?_
       rotate_left 2
       · intro hSw
         conv in opOf _ _ => whnf
         go_simp
         first | done | (with_reducible rfl) | (constructor <;> with_reducible rfl)
       intro hS
       refine ⟨trivial,?_⟩
       try simp only [Act.put,List.setIfInBounds_toArray,List.set_cons_zero,List.set_cons_succ])
      refine held_one 12 (by kernel_rfl) (by kernel_rfl) ?_
      (refine held_run (v := ?_) (w' := ?_) (d := some 91) 12 (by kernel_rfl) (by kernel_rfl) rfl ?_ ?_
       rotate_left 2
       · intro hSw
         conv in opOf _ _ => whnf
         go_simp
         first | done | (with_reducible rfl) | (constructor <;> with_reducible rfl)
       intro hS
       refine ⟨trivial,?_⟩
       try simp only [Act.put,List.setIfInBounds_toArray,List.set_cons_zero,List.set_cons_succ])
      (refine held_one 13 (by kernel_rfl) (by kernel_rfl) (held_row 13 (d := some 92) (by kernel_rfl) (by kernel_rfl) rfl (.tmp 83) (.tmp 91) 67 (by kernel_rfl) base 21 i0 (.int .i32 0) 4 Tryd.underlying67 hi0 hz0 hz1 hz2 rfl (.slice A n c) n xs (by kernel_rfl) (hrow.keep fun k hk => Below.heap_alloc W.drew _ k (hrow.lt k hk).2) W.heap.size 0 1 (.int .i32 x) (by kernel_rfl) (by simp) rfl (by unfold maxLen; omega) (by omega) (by simp; omega) (fun A' c' w6 _ hrow6 hg6 ho6 => ⟨trivial,?_⟩))
       try simp only [Act.put,List.setIfInBounds_toArray,List.set_cons_zero,List.set_cons_succ])
      have hB6 : Blk w6 g 89 cells := Blk.grown ((show Blk W.drew g 89 cells from hB).alloc _) hg6 (fun e => hgo e.symm)
      have q6 := (hB6.cell 12).trans hA
      have f6 := hB6.free 12
      (refine held_take (v := ?_) (d := some 93) 14 (by kernel_rfl) (by kernel_rfl) rfl ?_ ?_
       rotate_left
       · intro w hSw
         conv in opOf _ _ => whnf
         (try dsimp only at hSw)
         go_simp
         try (with_reducible rfl)
       try simp only [Act.put,List.setIfInBounds_toArray,List.set_cons_zero,List.set_cons_succ])
      (refine held_take (v := ?_) (d := some 94) 15 (by kernel_rfl) (by kernel_rfl) rfl ?_ ?_
       rotate_left
       · intro w hSw
         conv in opOf _ _ => whnf
         (try dsimp only at hSw)
         go_simp
         try (with_reducible rfl)
       try simp only [Act.put,List.setIfInBounds_toArray,List.set_cons_zero,List.set_cons_succ])
      refine held_one 16 (by kernel_rfl) (by kernel_rfl) (held_mute (w' := ?_) (d := none) 16 (by kernel_rfl) (by kernel_rfl) rfl ?_ ?_)
      rotate_left 1
      · intro hSw
        conv in opOf _ _ => whnf
        go_simp
        first | done | (with_reducible rfl)
      intro hS
      refine ⟨trivial,?_⟩
      try simp only [Act.put,List.setIfInBounds_toArray,List.set_cons_zero,List.set_cons_succ]
      refine held_done (by kernel_rfl) (fun hS => hR.out _ _ ?_)
      exact hQ _ _ _ _ _ _ _ _ _ _ _ _ _ _ _ _ _ _ _ hrow6 hg6 ho6
    · skip
      (refine held_run (v := ?_) (w' := ?_) (d := some 90) 11 (by kernel_rfl) (by kernel_rfl) rfl ?_ ?_
       rotate_left 2
       · intro hSw
         conv in opOf _ _ => whnf
         go_simp
         first | done | (with_reducible rfl) | (constructor <;> with_reducible rfl)
       intro hS
       refine ⟨trivial,?_⟩
       try simp only [Act.put,List.setIfInBounds_toArray,List.set_cons_zero,List.set_cons_succ])
      refine held_many [4,12] (by kernel_rfl) (by simp) (by intro i hi; simp only [List.mem_cons,List.not_mem_nil,or_false] at hi; rcases hi with rfl | rfl <;> kernel_rfl) (fun i hi => ?_)
      simp only [List.mem_cons,List.not_mem_nil,or_false] at hi
      rcases hi with rfl | rfl
      · skip
        (refine held_run (v := ?_) (w' := ?_) (d := some 83) 4 (by kernel_rfl) (by kernel_rfl) rfl ?_ ?_
         rotate_left 2
         · intro hSw
           conv in opOf _ _ => whnf
           go_simp
           first | done | (with_reducible rfl) | (constructor <;> with_reducible rfl)
         intro hS
         refine ⟨trivial,?_⟩
         try simp only [Act.put,List.setIfInBounds_toArray,List.set_cons_zero,List.set_cons_succ])
        refine held_one 12 (by kernel_rfl) (by kernel_rfl) ?_
        (refine held_run (v := ?_) (w' := ?_) (d := some 91) 12 (by kernel_rfl) (by kernel_rfl) rfl ?_ ?_
         rotate_left 2
         · intro hSw
           conv in opOf _ _ => whnf
           go_simp
           first | done | (with_reducible rfl) | (constructor <;> with_reducible rfl)
         intro hS
         refine ⟨trivial,?_⟩
         try simp only [Act.put,List.setIfInBounds_toArray,List.set_cons_zero,List.set_cons_succ])
        (refine held_one 13 (by kernel_rfl) (by kernel_rfl) (held_row 13 (d := some 92) (by kernel_rfl) (by kernel_rfl) rfl (.tmp 83) (.tmp 91) 67 (by kernel_rfl) base 21 i0 (.int .i32 0) 4 Tryd.underlying67 hi0 hz0 hz1 hz2 rfl (.slice A n c) n xs (by kernel_rfl) (hrow.keep fun k hk => Below.heap_alloc W.drew _ k (hrow.lt k hk).2) W.heap.size 0 1 (.int .i32 x) (by kernel_rfl) (by simp) rfl (by unfold maxLen; omega) (by omega) (by simp; omega) (fun A' c' w6 _ hrow6 hg6 ho6 => ⟨trivial,?_⟩))
         try simp only [Act.put,List.setIfInBounds_toArray,List.set_cons_zero,List.set_cons_succ])
        have hB6 : Blk w6 g 89 cells := Blk.grown ((show Blk W.drew g 89 cells from hB).alloc _) hg6 (fun e => hgo e.symm)
        have q6 := (hB6.cell 12).trans hA
        have f6 := hB6.free 12
        (refine held_take (v := ?_) (d := some 93) 14 (by kernel_rfl) (by kernel_rfl) rfl ?_ ?_
         rotate_left
         · intro w hSw
           conv in opOf _ _ => whnf
           (try dsimp only at hSw)
           go_simp
           try (with_reducible rfl)
         try simp only [Act.put,List.setIfInBounds_toArray,List.set_cons_zero,List.set_cons_succ])
        (refine held_take (v := ?_) (d := some 94) 15 (by kernel_rfl) (by kernel_rfl) rfl ?_ ?_
         rotate_left
         · intro w hSw
           conv in opOf _ _ => whnf
           (try dsimp only at hSw)
           go_simp
           try (with_reducible rfl)
         try simp only [Act.put,List.setIfInBounds_toArray,List.set_cons_zero,List.set_cons_succ])
        refine held_one 16 (by kernel_rfl) (by kernel_rfl) (held_mute (w' := ?_) (d := none) 16 (by kernel_rfl) (by kernel_rfl) rfl ?_ ?_)
        rotate_left 1
        · intro hSw
          conv in opOf _ _ => whnf
          go_simp
          first | done | (with_reducible rfl)
        intro hS
        refine ⟨trivial,?_⟩
        try simp only [Act.put,List.setIfInBounds_toArray,List.set_cons_zero,List.set_cons_succ]
        refine held_done (by kernel_rfl) (fun hS => hR.out _ _ ?_)
        exact hQ _ _ _ _ _ _ _ _ _ _ _ _ _ _ _ _ _ _ _ hrow6 hg6 ho6
      · skip
        (refine held_run (v := ?_) (w' := ?_) (d := some 91) 12 (by kernel_rfl) (by kernel_rfl) rfl ?_ ?_
         rotate_left 2
         · intro hSw
           conv in opOf _ _ => whnf
           go_simp
           first | done | (with_reducible rfl) | (constructor <;> with_reducible rfl)
         intro hS
         refine ⟨trivial,?_⟩
         try simp only [Act.put,List.setIfInBounds_toArray,List.set_cons_zero,List.set_cons_succ])
        refine held_one 4 (by kernel_rfl) (by kernel_rfl) ?_
        (refine held_run (v := ?_) (w' := ?_) (d := some 83) 4 (by kernel_rfl) (by kernel_rfl) rfl ?_ ?_
         rotate_left 2
         · intro hSw
           conv in opOf _ _ => whnf
           go_simp
           first | done | (with_reducible rfl) | (constructor <;> with_reducible rfl)
         intro hS
         refine ⟨trivial,?_⟩
         try simp only [Act.put,List.setIfInBounds_toArray,List.set_cons_zero,List.set_cons_succ])
        (refine held_one 13 (by kernel_rfl) (by kernel_rfl) (held_row 13 (d := some 92) (by kernel_rfl) (by kernel_rfl) rfl (.tmp 83) (.tmp 91) 67 (by kernel_rfl) base 21 i0 (.int .i32 0) 4 Tryd.underlying67 hi0 hz0 hz1 hz2 rfl (.slice A n c) n xs (by kernel_rfl) (hrow.keep fun k hk => Below.heap_alloc W.drew _ k (hrow.lt k hk).2) W.heap.size 0 1 (.int .i32 x) (by kernel_rfl) (by simp) rfl (by unfold maxLen; omega) (by omega) (by simp; omega) (fun A' c' w6 _ hrow6 hg6 ho6 => ⟨trivial,?_⟩))
         try simp only [Act.put,List.setIfInBounds_toArray,List.set_cons_zero,List.set_cons_succ])
        have hB6 : Blk w6 g 89 cells := Blk.grown ((show Blk W.drew g 89 cells from hB).alloc _) hg6 (fun e => hgo e.symm)
        have q6 := (hB6.cell 12).trans hA
        have f6 := hB6.free 12
        (refine held_take (v := ?_) (d := some 93) 14 (by kernel_rfl) (by kernel_rfl) rfl ?_ ?_
         rotate_left
         · intro w hSw
           conv in opOf _ _ => whnf
           (try dsimp only at hSw)
           go_simp
           try (with_reducible rfl)
         try simp only [Act.put,List.setIfInBounds_toArray,List.set_cons_zero,List.set_cons_succ])
        (refine held_take (v := ?_) (d := some 94) 15 (by kernel_rfl) (by kernel_rfl) rfl ?_ ?_
         rotate_left
         · intro w hSw
           conv in opOf _ _ => whnf
           (try dsimp only at hSw)
           go_simp
           try (with_reducible rfl)
         try simp only [Act.put,List.setIfInBounds_toArray,List.set_cons_zero,List.set_cons_succ])
        refine held_one 16 (by kernel_rfl) (by kernel_rfl) (held_mute (w' := ?_) (d := none) 16 (by kernel_rfl) (by kernel_rfl) rfl ?_ ?_)
        rotate_left 1
        · intro hSw
          conv in opOf _ _ => whnf
          go_simp
          first | done | (with_reducible rfl)
        intro hS
        refine ⟨trivial,?_⟩
        try simp only [Act.put,List.setIfInBounds_toArray,List.set_cons_zero,List.set_cons_succ]
        refine held_done (by kernel_rfl) (fun hS => hR.out _ _ ?_)
        exact hQ _ _ _ _ _ _ _ _ _ _ _ _ _ _ _ _ _ _ _ hrow6 hg6 ho6
end Go.Proofs.YthcjnkakfpmpbaaDoor
