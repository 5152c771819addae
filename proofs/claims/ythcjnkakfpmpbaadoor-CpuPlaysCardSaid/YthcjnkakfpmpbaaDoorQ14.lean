import Derived.Test.YthcjnkakfpmpbaaDoorQ6
import Derived.Test.YthcjnkakfpmpbaaDoorQ7
import Derived.BigQuiet
namespace Go.Proofs.YthcjnkakfpmpbaaDoor
open Go.RowKit
set_option linter.unusedVariables false
set_option linter.unusedSimpArgs false
noncomputable def rtR33 : Array Oper := regOf Tryd.f68.body 33
set_option maxRecDepth 100000 in
set_option maxHeartbeats 2000000 in
theorem rt_r33 (g I a : Nat) (s : ByteArray) (x y R : Int) (u2 u3 u4 u5 u6 u8 u9 Ua Uw UH US UW UX UY UZ U0 U1 U2 U3 U4 U5 U6 U7 U8 U9 Ya Yb Yc Yd Ye Yf Yg Yh Yi Yj Yk Yl Ym Yn Yo Yp Yq Yr Ys Yt Yu Yv Yw Yx Yy Yz YA YB YC YD YE YF YG YH YI YJ YK YL YM YN YO YP YQ YR YS YT YU YV YW YX YY YZ Y0 Y1 Y2 Y3 Y4 Y5 Y6 Y7 Y8 Y9 Za Zb Zc Zd Ze Zf Zg Zh Zi Ub Uc Ud Ue Uf Ug Uh Ui Uj Uk Um Un Uo Up Uq Ur Us Ut Uu Uv Ux Uy Uz UA UB UC UD UE UF UG UI UJ UK UL UM UN UO UP UQ UR UT UU UV : Value) (W : World) (Q : Exit → Act → World → Prop) (ha : a < 8) (p1 : W.cell? ⟨I,1,none⟩ = some (.int .i64 a)) (px : W.cell? ⟨g,a,none⟩ = some (.int .i32 x)) (fz : W.frozen? ⟨g,a,none⟩ = false) (Hc : ∀ k,Calls Tryd.prog 87 #[.string s,.int .i32 x,.int .i32 y] (W.drewN k) fun e w' => e = .returned (.int .i32 R) ∧ W.drewN k = w')
    (hQ : ∀ (Zv Zw Zx Zy Zz ZA ZB ZC ZD ZE ZF ZG ZH ZI ZJ ZK : Value) (k : Nat),Q .normal { tmps := #[.pointer (some ⟨g,0,none⟩),.string s,u2,u3,u4,u5,u6,.pointer (some ⟨I,0,none⟩),u8,u9,Ua,.int .i32 y,Uw,UH,US,UW,UX,UY,UZ,U0,U1,U2,U3,U4,U5,U6,U7,U8,U9,Ya,Yb,Yc,Yd,Ye,Yf,Yg,Yh,Yi,Yj,Yk,Yl,Ym,Yn,Yo,Yp,Yq,Yr,Ys,Yt,Yu,Yv,Yw,Yx,Yy,Yz,YA,YB,YC,YD,YE,YF,YG,YH,YI,YJ,YK,YL,YM,YN,YO,YP,YQ,YR,YS,YT,YU,YV,YW,YX,YY,YZ,Y0,Y1,Y2,Y3,Y4,Y5,Y6,Y7,Y8,Y9,Za,Zb,Zc,Zd,Ze,Zf,Zg,Zh,Zi,Ub,Uc,Ud,Ue,Uf,Ug,Uh,Ui,Uj,Uk,Um,Un,Uo,Up,Uq,Ur,Us,Ut,Uu,Uv,Ux,Uy,Uz,UA,UB,UC,Zv,Zw,Zx,Zy,Zz,ZA,ZB,ZC,ZD,ZE,ZF,ZG,ZH,ZI,ZJ,ZK,UV],defers := [] } ((W.drewN k).setCell ⟨g,a,none⟩ (.int .i32 R))) :
    (Code.region 33 rtR33 true).wp Tryd.prog Q { tmps := #[.pointer (some ⟨g,0,none⟩),.string s,u2,u3,u4,u5,u6,.pointer (some ⟨I,0,none⟩),u8,u9,Ua,.int .i32 y,Uw,UH,US,UW,UX,UY,UZ,U0,U1,U2,U3,U4,U5,U6,U7,U8,U9,Ya,Yb,Yc,Yd,Ye,Yf,Yg,Yh,Yi,Yj,Yk,Yl,Ym,Yn,Yo,Yp,Yq,Yr,Ys,Yt,Yu,Yv,Yw,Yx,Yy,Yz,YA,YB,YC,YD,YE,YF,YG,YH,YI,YJ,YK,YL,YM,YN,YO,YP,YQ,YR,YS,YT,YU,YV,YW,YX,YY,YZ,Y0,Y1,Y2,Y3,Y4,Y5,Y6,Y7,Y8,Y9,Za,Zb,Zc,Zd,Ze,Zf,Zg,Zh,Zi,Ub,Uc,Ud,Ue,Uf,Ug,Uh,Ui,Uj,Uk,Um,Un,Uo,Up,Uq,Ur,Us,Ut,Uu,Uv,Ux,Uy,Uz,UA,UB,UC,UD,UE,UF,UG,UI,UJ,UK,UL,UM,UN,UO,UP,UQ,UR,UT,UU,UV],defers := [] } W := by
  have hA : (a : Int) < 8 := by omega
  have p1 : ∀ k,(W.drewN k).cell? ⟨I,1,none⟩ = some (.int .i64 a) := fun _ => p1
  have px : ∀ k,(W.drewN k).cell? ⟨g,a,none⟩ = some (.int .i32 x) := fun _ => px
  have fz : ∀ k,(W.drewN k).frozen? ⟨g,a,none⟩ = false := fun _ => fz
  have hds : dstsOf rtR33 = [126,127,128,129,130,131,132,133,134,135,136,137,138,139,140,141] := by kernel_rfl
  refine wp_flow (by kernel_rfl) (lookupE [(126,fun zz => zz = .pointer (some ⟨g,0,none⟩)),(127,fun zz => zz = .pointer (some ⟨I,1,none⟩)),(128,fun zz => zz = .int .i64 a),(129,fun zz => zz = .string s),(130,fun zz => zz = .pointer (some ⟨g,0,none⟩)),(131,fun zz => zz = .pointer (some ⟨I,1,none⟩)),(132,fun zz => zz = .int .i64 a),(133,fun zz => zz = .pointer (some ⟨g,0,none⟩)),(134,fun zz => zz = .pointer (some ⟨g,0,none⟩)),(135,fun zz => zz = .pointer (some ⟨g,a,none⟩)),(136,fun zz => zz = .int .i32 x),(137,fun zz => zz = .int .i32 y),(138,fun zz => zz = .int .i32 R),(139,fun zz => zz = .pointer (some ⟨g,0,none⟩)),(140,fun zz => zz = .pointer (some ⟨g,0,none⟩)),(141,fun zz => zz = .pointer (some ⟨g,a,none⟩))]) (fun w => ∃ k,w = (W.drewN k).setCell ⟨g,a,none⟩ (.int .i32 R)) 16 [126,127,128,129,130,131,132,133,134,135,136,137,138,139,140,141] hds (by kernel_rfl) (fun i hi act k hk => ?_) (fun act k hk => ?_) (fun xs w hw => ?_)
  · rcases (show i = 0 ∨ i = 1 ∨ i = 2 ∨ i = 3 ∨ i = 4 ∨ i = 5 ∨ i = 6 ∨ i = 7 ∨ i = 8 ∨ i = 9 ∨ i = 10 ∨ i = 11 ∨ i = 12 ∨ i = 13 ∨ i = 14 ∨ i = 15 by omega) with rfl | rfl | rfl | rfl | rfl | rfl | rfl | rfl | rfl | rfl | rfl | rfl | rfl | rfl | rfl | rfl
    · have e0 := hk.old_ 0 (.pointer (some ⟨g,0,none⟩)) (by rw [hds]; rfl) rfl
      exact FStep.at_ 126 (.pointer (some ⟨g,0,none⟩)) (by kernel_rfl) (by (conv in opOf _ _ => whnf); go_simp) ⟨k,rfl⟩ rfl
    · have e7 := hk.old_ 7 (.pointer (some ⟨I,0,none⟩)) (by rw [hds]; rfl) rfl
      exact FStep.at_ 127 (.pointer (some ⟨I,1,none⟩)) (by kernel_rfl) (by (conv in opOf _ _ => whnf); go_simp) ⟨k,rfl⟩ rfl
    · have e127 := hk.eq 1 127 (.pointer (some ⟨I,1,none⟩)) (by kernel_rfl) fun _ h => h
      exact FStep.at_ 128 (.int .i64 a) (by kernel_rfl) (by (conv in opOf _ _ => whnf); go_simp) ⟨k,rfl⟩ rfl
    · have e1 := hk.old_ 1 (.string s) (by rw [hds]; rfl) rfl
      exact FStep.at_ 129 (.string s) (by kernel_rfl) (by (conv in opOf _ _ => whnf); go_simp) ⟨k,rfl⟩ rfl
    · have e0 := hk.old_ 0 (.pointer (some ⟨g,0,none⟩)) (by rw [hds]; rfl) rfl
      exact FStep.at_ 130 (.pointer (some ⟨g,0,none⟩)) (by kernel_rfl) (by (conv in opOf _ _ => whnf); go_simp) ⟨k,rfl⟩ rfl
    · have e7 := hk.old_ 7 (.pointer (some ⟨I,0,none⟩)) (by rw [hds]; rfl) rfl
      exact FStep.at_ 131 (.pointer (some ⟨I,1,none⟩)) (by kernel_rfl) (by (conv in opOf _ _ => whnf); go_simp) ⟨k,rfl⟩ rfl
    · have e131 := hk.eq 5 131 (.pointer (some ⟨I,1,none⟩)) (by kernel_rfl) fun _ h => h
      exact FStep.at_ 132 (.int .i64 a) (by kernel_rfl) (by (conv in opOf _ _ => whnf); go_simp) ⟨k,rfl⟩ rfl
    · have e130 := hk.eq 4 130 (.pointer (some ⟨g,0,none⟩)) (by kernel_rfl) fun _ h => h
      exact FStep.at_ 133 (.pointer (some ⟨g,0,none⟩)) (by kernel_rfl) (by (conv in opOf _ _ => whnf); go_simp) ⟨k,rfl⟩ rfl
    · have e133 := hk.eq 7 133 (.pointer (some ⟨g,0,none⟩)) (by kernel_rfl) fun _ h => h
      exact FStep.at_ 134 (.pointer (some ⟨g,0,none⟩)) (by kernel_rfl) (by (conv in opOf _ _ => whnf); go_simp) ⟨k,rfl⟩ rfl
    · have e134 := hk.eq 8 134 (.pointer (some ⟨g,0,none⟩)) (by kernel_rfl) fun _ h => h
      have e132 := hk.eq 6 132 (.int .i64 a) (by kernel_rfl) fun _ h => h
      exact FStep.at_ 135 (.pointer (some ⟨g,a,none⟩)) (by kernel_rfl) (by (conv in opOf _ _ => whnf); go_simp) ⟨k,rfl⟩ rfl
    · have e135 := hk.eq 9 135 (.pointer (some ⟨g,a,none⟩)) (by kernel_rfl) fun _ h => h
      exact FStep.at_ 136 (.int .i32 x) (by kernel_rfl) (by (conv in opOf _ _ => whnf); go_simp) ⟨k,rfl⟩ rfl
    · have e11 := hk.old_ 11 (.int .i32 y) (by rw [hds]; rfl) rfl
      exact FStep.at_ 137 (.int .i32 y) (by kernel_rfl) (by (conv in opOf _ _ => whnf); go_simp) ⟨k,rfl⟩ rfl
    · have e129 := hk.eq 3 129 (.string s) (by kernel_rfl) fun _ h => h
      have e136 := hk.eq 10 136 (.int .i32 x) (by kernel_rfl) fun _ h => h
      have e137 := hk.eq 11 137 (.int .i32 y) (by kernel_rfl) fun _ h => h
      exact FStep.call_ 138 87 #[.string s,.int .i32 x,.int .i32 y] (.int .i32 R) (by kernel_rfl) (by (conv in opOf _ _ => whnf); go_simp) (Hc k) ⟨k,rfl⟩ rfl
    · have e126 := hk.eq 0 126 (.pointer (some ⟨g,0,none⟩)) (by kernel_rfl) fun _ h => h
      exact FStep.at_ 139 (.pointer (some ⟨g,0,none⟩)) (by kernel_rfl) (by (conv in opOf _ _ => whnf); go_simp) ⟨k,rfl⟩ rfl
    · have e139 := hk.eq 13 139 (.pointer (some ⟨g,0,none⟩)) (by kernel_rfl) fun _ h => h
      exact FStep.at_ 140 (.pointer (some ⟨g,0,none⟩)) (by kernel_rfl) (by (conv in opOf _ _ => whnf); go_simp) ⟨k,rfl⟩ rfl
    · have e140 := hk.eq 14 140 (.pointer (some ⟨g,0,none⟩)) (by kernel_rfl) fun _ h => h
      have e128 := hk.eq 2 128 (.int .i64 a) (by kernel_rfl) fun _ h => h
      exact FStep.at_ 141 (.pointer (some ⟨g,a,none⟩)) (by kernel_rfl) (by (conv in opOf _ _ => whnf); go_simp) ⟨k,rfl⟩ rfl
  · have e141 := hk.eq 15 141 (.pointer (some ⟨g,a,none⟩)) (by kernel_rfl) fun _ h => h
    have e138 := hk.eq 12 138 (.int .i32 R) (by kernel_rfl) fun _ h => h
    exact FStep.st_ (w' := (W.drewN k).setCell ⟨g,a,none⟩ (.int .i32 R)) (by kernel_rfl) (by (conv in opOf _ _ => whnf); go_simp) ⟨k,rfl⟩
  · obtain ⟨k,rfl⟩ := hw
    simp only [List.foldl_cons,List.foldl_nil,List.setIfInBounds_toArray,List.set_cons_zero,List.set_cons_succ]
    exact hQ _ _ _ _ _ _ _ _ _ _ _ _ _ _ _ _ k
noncomputable def rtR10 : Array Oper := regOf Tryd.f68.body 10
set_option maxRecDepth 100000 in
set_option maxHeartbeats 2000000 in
theorem rt_r10 (g I a mb mo at_ m c u : Nat) (u1 u2 u4 u5 u6 u8 u9 Ua Ul UH US UW UX UY UZ U0 U1 U2 U3 U4 U5 U6 U7 U8 U9 Ya Yb Yc Yd Ye Yf Yg Yh Yi Yj Yk Yl Ym Yn Yo Yp Yq Yr Ys Yt Yu Yv Yw Yx Yy Yz YA YB YC YD YE YF YG YH YI YJ YK YL YM YN YO YP YQ YR YS YT YU YV YW YX YY YZ Y0 Y1 Y2 Y3 Y4 Y5 Y6 Y7 Y8 Y9 Za Zb Zc Zd Ze Zf Zg Zh Zi Ub Uc Ud Ue Uf Ug Uh Ui Uj Uk Um Un Uo Up Uq Ur Us Ut Uu Uv Ux Uy Uz UA UB UC UD UE UF UG UI UJ UK UL UM UN UO UP UQ UR UT UU UV : Value) (W : World) (Q : Exit → Act → World → Prop) (ha : a < 8) (p1 : W.cell? ⟨I,1,none⟩ = some (.int .i64 a)) (x : Value) (px : W.cell? ⟨g,a,none⟩ = some x) (fz : W.frozen? ⟨g,a,none⟩ = false) (pm : W.cell? ⟨mb,mo + at_,none⟩ = some (.int .u8 u)) (hu : u < 256) (hat : at_ < m)
    (hQ : ∀ (ZL ZM ZN ZO ZP ZQ ZR ZS ZT ZU ZV : Value) (k : Nat),Q .normal { tmps := #[.pointer (some ⟨g,0,none⟩),u1,u2,.slice (some ⟨mb,mo,none⟩) m c,u4,u5,u6,.pointer (some ⟨I,0,none⟩),u8,u9,Ua,Ul,.int .i64 at_,UH,US,UW,UX,UY,UZ,U0,U1,U2,U3,U4,U5,U6,U7,U8,U9,Ya,Yb,Yc,Yd,Ye,Yf,Yg,Yh,Yi,ZL,ZM,ZN,ZO,ZP,ZQ,ZR,ZS,ZT,ZU,ZV,Yu,Yv,Yw,Yx,Yy,Yz,YA,YB,YC,YD,YE,YF,YG,YH,YI,YJ,YK,YL,YM,YN,YO,YP,YQ,YR,YS,YT,YU,YV,YW,YX,YY,YZ,Y0,Y1,Y2,Y3,Y4,Y5,Y6,Y7,Y8,Y9,Za,Zb,Zc,Zd,Ze,Zf,Zg,Zh,Zi,Ub,Uc,Ud,Ue,Uf,Ug,Uh,Ui,Uj,Uk,Um,Un,Uo,Up,Uq,Ur,Us,Ut,Uu,Uv,Ux,Uy,Uz,UA,UB,UC,UD,UE,UF,UG,UI,UJ,UK,UL,UM,UN,UO,UP,UQ,UR,UT,UU,UV],defers := [] } ((W.drewN k).setCell ⟨g,a,none⟩ (.int .i32 u))) :
    (Code.region 10 rtR10 true).wp Tryd.prog Q { tmps := #[.pointer (some ⟨g,0,none⟩),u1,u2,.slice (some ⟨mb,mo,none⟩) m c,u4,u5,u6,.pointer (some ⟨I,0,none⟩),u8,u9,Ua,Ul,.int .i64 at_,UH,US,UW,UX,UY,UZ,U0,U1,U2,U3,U4,U5,U6,U7,U8,U9,Ya,Yb,Yc,Yd,Ye,Yf,Yg,Yh,Yi,Yj,Yk,Yl,Ym,Yn,Yo,Yp,Yq,Yr,Ys,Yt,Yu,Yv,Yw,Yx,Yy,Yz,YA,YB,YC,YD,YE,YF,YG,YH,YI,YJ,YK,YL,YM,YN,YO,YP,YQ,YR,YS,YT,YU,YV,YW,YX,YY,YZ,Y0,Y1,Y2,Y3,Y4,Y5,Y6,Y7,Y8,Y9,Za,Zb,Zc,Zd,Ze,Zf,Zg,Zh,Zi,Ub,Uc,Ud,Ue,Uf,Ug,Uh,Ui,Uj,Uk,Um,Un,Uo,Up,Uq,Ur,Us,Ut,Uu,Uv,Ux,Uy,Uz,UA,UB,UC,UD,UE,UF,UG,UI,UJ,UK,UL,UM,UN,UO,UP,UQ,UR,UT,UU,UV],defers := [] } W := by
  have hA : (a : Int) < 8 := by omega
  have hat' : (at_ : Int) < m := by omega
  have hu' : (u : Int) < 256 := by omega
  have p1 : ∀ k,(W.drewN k).cell? ⟨I,1,none⟩ = some (.int .i64 a) := fun _ => p1
  have px : ∀ k,(W.drewN k).cell? ⟨g,a,none⟩ = some (x) := fun _ => px
  have fz : ∀ k,(W.drewN k).frozen? ⟨g,a,none⟩ = false := fun _ => fz
  have pm : ∀ k,(W.drewN k).cell? ⟨mb,mo + at_,none⟩ = some (.int .u8 u) := fun _ => pm
  have hds : dstsOf rtR10 = [38,39,40,41,42,43,44,45,46,47,48] := by kernel_rfl
  refine wp_flow (by kernel_rfl) (lookupE [(38,fun zz => zz = .pointer (some ⟨g,0,none⟩)),(39,fun zz => zz = .pointer (some ⟨I,1,none⟩)),(40,fun zz => zz = .int .i64 a),(41,fun zz => zz = .slice (some ⟨mb,mo,none⟩) m c),(42,fun zz => zz = .int .i64 at_),(43,fun zz => zz = .pointer (some ⟨mb,mo + at_,none⟩)),(44,fun zz => zz = .int .u8 u),(45,fun zz => zz = .int .i32 u),(46,fun zz => zz = .pointer (some ⟨g,0,none⟩)),(47,fun zz => zz = .pointer (some ⟨g,0,none⟩)),(48,fun zz => zz = .pointer (some ⟨g,a,none⟩))]) (fun w => ∃ k,w = (W.drewN k).setCell ⟨g,a,none⟩ (.int .i32 u)) 11 [38,39,40,41,42,43,44,45,46,47,48] hds (by kernel_rfl) (fun i hi act k hk => ?_) (fun act k hk => ?_) (fun xs w hw => ?_)
  · rcases (show i = 0 ∨ i = 1 ∨ i = 2 ∨ i = 3 ∨ i = 4 ∨ i = 5 ∨ i = 6 ∨ i = 7 ∨ i = 8 ∨ i = 9 ∨ i = 10 by omega) with rfl | rfl | rfl | rfl | rfl | rfl | rfl | rfl | rfl | rfl | rfl
    · have e0 := hk.old_ 0 (.pointer (some ⟨g,0,none⟩)) (by rw [hds]; rfl) rfl
      exact FStep.at_ 38 (.pointer (some ⟨g,0,none⟩)) (by kernel_rfl) (by (conv in opOf _ _ => whnf); go_simp) ⟨k,rfl⟩ rfl
    · have e7 := hk.old_ 7 (.pointer (some ⟨I,0,none⟩)) (by rw [hds]; rfl) rfl
      exact FStep.at_ 39 (.pointer (some ⟨I,1,none⟩)) (by kernel_rfl) (by (conv in opOf _ _ => whnf); go_simp) ⟨k,rfl⟩ rfl
    · have e39 := hk.eq 1 39 (.pointer (some ⟨I,1,none⟩)) (by kernel_rfl) fun _ h => h
      exact FStep.at_ 40 (.int .i64 a) (by kernel_rfl) (by (conv in opOf _ _ => whnf); go_simp) ⟨k,rfl⟩ rfl
    · have e3 := hk.old_ 3 (.slice (some ⟨mb,mo,none⟩) m c) (by rw [hds]; rfl) rfl
      exact FStep.at_ 41 (.slice (some ⟨mb,mo,none⟩) m c) (by kernel_rfl) (by (conv in opOf _ _ => whnf); go_simp) ⟨k,rfl⟩ rfl
    · have e12 := hk.old_ 12 (.int .i64 at_) (by rw [hds]; rfl) rfl
      exact FStep.at_ 42 (.int .i64 at_) (by kernel_rfl) (by (conv in opOf _ _ => whnf); go_simp) ⟨k,rfl⟩ rfl
    · have e41 := hk.eq 3 41 (.slice (some ⟨mb,mo,none⟩) m c) (by kernel_rfl) fun _ h => h
      have e42 := hk.eq 4 42 (.int .i64 at_) (by kernel_rfl) fun _ h => h
      exact FStep.at_ 43 (.pointer (some ⟨mb,mo + at_,none⟩)) (by kernel_rfl) (by (conv in opOf _ _ => whnf); go_simp) ⟨k,rfl⟩ rfl
    · have e43 := hk.eq 5 43 (.pointer (some ⟨mb,mo + at_,none⟩)) (by kernel_rfl) fun _ h => h
      exact FStep.at_ 44 (.int .u8 u) (by kernel_rfl) (by (conv in opOf _ _ => whnf); go_simp) ⟨k,rfl⟩ rfl
    · have e44 := hk.eq 6 44 (.int .u8 u) (by kernel_rfl) fun _ h => h
      exact FStep.at_ 45 (.int .i32 u) (by kernel_rfl) (by (conv in opOf _ _ => whnf); go_simp; (simp [IntKind.wrap,IntKind.bits,IntKind.signed]; omega)) ⟨k,rfl⟩ rfl
    · have e38 := hk.eq 0 38 (.pointer (some ⟨g,0,none⟩)) (by kernel_rfl) fun _ h => h
      exact FStep.at_ 46 (.pointer (some ⟨g,0,none⟩)) (by kernel_rfl) (by (conv in opOf _ _ => whnf); go_simp) ⟨k,rfl⟩ rfl
    · have e46 := hk.eq 8 46 (.pointer (some ⟨g,0,none⟩)) (by kernel_rfl) fun _ h => h
      exact FStep.at_ 47 (.pointer (some ⟨g,0,none⟩)) (by kernel_rfl) (by (conv in opOf _ _ => whnf); go_simp) ⟨k,rfl⟩ rfl
    · have e47 := hk.eq 9 47 (.pointer (some ⟨g,0,none⟩)) (by kernel_rfl) fun _ h => h
      have e40 := hk.eq 2 40 (.int .i64 a) (by kernel_rfl) fun _ h => h
      exact FStep.at_ 48 (.pointer (some ⟨g,a,none⟩)) (by kernel_rfl) (by (conv in opOf _ _ => whnf); go_simp) ⟨k,rfl⟩ rfl
  · have e48 := hk.eq 10 48 (.pointer (some ⟨g,a,none⟩)) (by kernel_rfl) fun _ h => h
    have e45 := hk.eq 7 45 (.int .i32 u) (by kernel_rfl) fun _ h => h
    exact FStep.st_ (w' := (W.drewN k).setCell ⟨g,a,none⟩ (.int .i32 u)) (by kernel_rfl) (by (conv in opOf _ _ => whnf); go_simp) ⟨k,rfl⟩
  · obtain ⟨k,rfl⟩ := hw
    simp only [List.foldl_cons,List.foldl_nil,List.setIfInBounds_toArray,List.set_cons_zero,List.set_cons_succ]
    exact hQ _ _ _ _ _ _ _ _ _ _ _ k
noncomputable def rtR21 : Array Oper := regOf Tryd.f68.body 21
set_option maxRecDepth 100000 in
set_option maxHeartbeats 2000000 in
theorem rt_r21 (g I a : Nat) (R : Int) (u1 u2 u3 u4 u5 u6 u8 u9 Ua Ul Uw UH UW UX UY UZ U0 U1 U2 U3 U4 U5 U6 U7 U8 U9 Ya Yb Yc Yd Ye Yf Yg Yh Yi Yj Yk Yl Ym Yn Yo Yp Yq Yr Ys Yt Yu Yv Yw Yx Yy Yz YA YB YC YD YE YF YG YH YI YJ YK YL YM YN YO YP YQ YR YS YT YU YV YW YX YY YZ Y0 Y1 Y2 Y3 Y4 Y5 Y6 Y7 Y8 Y9 Za Zb Zc Zd Ze Zf Zg Zh Zi Ub Uc Ud Ue Uf Ug Uh Ui Uj Uk Um Un Uo Up Uq Ur Us Ut Uu Uv Ux Uy Uz UA UB UC UD UE UF UG UI UJ UK UL UM UN UO UP UQ UR UT UU UV : Value) (W : World) (Q : Exit → Act → World → Prop) (ha : a < 8) (p1 : W.cell? ⟨I,1,none⟩ = some (.int .i64 a)) (x : Value) (px : W.cell? ⟨g,a,none⟩ = some x) (fz : W.frozen? ⟨g,a,none⟩ = false) (R0 : 0 ≤ R) (R1 : R < 4294967296)
    (hQ : ∀ (ZW ZX ZY ZZ Z0 Z1 Z2 Z3 : Value) (k : Nat),Q .normal { tmps := #[.pointer (some ⟨g,0,none⟩),u1,u2,u3,u4,u5,u6,.pointer (some ⟨I,0,none⟩),u8,u9,Ua,Ul,Uw,UH,.int .u32 R,UW,UX,UY,UZ,U0,U1,U2,U3,U4,U5,U6,U7,U8,U9,Ya,Yb,Yc,Yd,Ye,Yf,Yg,Yh,Yi,Yj,Yk,Yl,Ym,Yn,Yo,Yp,Yq,Yr,Ys,Yt,Yu,Yv,Yw,Yx,Yy,Yz,YA,YB,YC,YD,YE,YF,YG,YH,YI,YJ,YK,YL,YM,YN,YO,YP,YQ,YR,ZW,ZX,ZY,ZZ,Z0,Z1,Z2,Z3,Y0,Y1,Y2,Y3,Y4,Y5,Y6,Y7,Y8,Y9,Za,Zb,Zc,Zd,Ze,Zf,Zg,Zh,Zi,Ub,Uc,Ud,Ue,Uf,Ug,Uh,Ui,Uj,Uk,Um,Un,Uo,Up,Uq,Ur,Us,Ut,Uu,Uv,Ux,Uy,Uz,UA,UB,UC,UD,UE,UF,UG,UI,UJ,UK,UL,UM,UN,UO,UP,UQ,UR,UT,UU,UV],defers := [] } ((W.drewN k).setCell ⟨g,a,none⟩ (.int .i32 (wrap32 R)))) :
    (Code.region 21 rtR21 true).wp Tryd.prog Q { tmps := #[.pointer (some ⟨g,0,none⟩),u1,u2,u3,u4,u5,u6,.pointer (some ⟨I,0,none⟩),u8,u9,Ua,Ul,Uw,UH,.int .u32 R,UW,UX,UY,UZ,U0,U1,U2,U3,U4,U5,U6,U7,U8,U9,Ya,Yb,Yc,Yd,Ye,Yf,Yg,Yh,Yi,Yj,Yk,Yl,Ym,Yn,Yo,Yp,Yq,Yr,Ys,Yt,Yu,Yv,Yw,Yx,Yy,Yz,YA,YB,YC,YD,YE,YF,YG,YH,YI,YJ,YK,YL,YM,YN,YO,YP,YQ,YR,YS,YT,YU,YV,YW,YX,YY,YZ,Y0,Y1,Y2,Y3,Y4,Y5,Y6,Y7,Y8,Y9,Za,Zb,Zc,Zd,Ze,Zf,Zg,Zh,Zi,Ub,Uc,Ud,Ue,Uf,Ug,Uh,Ui,Uj,Uk,Um,Un,Uo,Up,Uq,Ur,Us,Ut,Uu,Uv,Ux,Uy,Uz,UA,UB,UC,UD,UE,UF,UG,UI,UJ,UK,UL,UM,UN,UO,UP,UQ,UR,UT,UU,UV],defers := [] } W := by
  have hA : (a : Int) < 8 := by omega
  have p1 : ∀ k,(W.drewN k).cell? ⟨I,1,none⟩ = some (.int .i64 a) := fun _ => p1
  have px : ∀ k,(W.drewN k).cell? ⟨g,a,none⟩ = some (x) := fun _ => px
  have fz : ∀ k,(W.drewN k).frozen? ⟨g,a,none⟩ = false := fun _ => fz
  have hds : dstsOf rtR21 = [73,74,75,76,77,78,79,80] := by kernel_rfl
  refine wp_flow (by kernel_rfl) (lookupE [(73,fun zz => zz = .pointer (some ⟨g,0,none⟩)),(74,fun zz => zz = .pointer (some ⟨I,1,none⟩)),(75,fun zz => zz = .int .i64 a),(76,fun zz => zz = .int .u32 R),(77,fun zz => zz = .int .i32 (wrap32 R)),(78,fun zz => zz = .pointer (some ⟨g,0,none⟩)),(79,fun zz => zz = .pointer (some ⟨g,0,none⟩)),(80,fun zz => zz = .pointer (some ⟨g,a,none⟩))]) (fun w => ∃ k,w = (W.drewN k).setCell ⟨g,a,none⟩ (.int .i32 (wrap32 R))) 8 [73,74,75,76,77,78,79,80] hds (by kernel_rfl) (fun i hi act k hk => ?_) (fun act k hk => ?_) (fun xs w hw => ?_)
  · rcases (show i = 0 ∨ i = 1 ∨ i = 2 ∨ i = 3 ∨ i = 4 ∨ i = 5 ∨ i = 6 ∨ i = 7 by omega) with rfl | rfl | rfl | rfl | rfl | rfl | rfl | rfl
    · have e0 := hk.old_ 0 (.pointer (some ⟨g,0,none⟩)) (by rw [hds]; rfl) rfl
      exact FStep.at_ 73 (.pointer (some ⟨g,0,none⟩)) (by kernel_rfl) (by (conv in opOf _ _ => whnf); go_simp) ⟨k,rfl⟩ rfl
    · have e7 := hk.old_ 7 (.pointer (some ⟨I,0,none⟩)) (by rw [hds]; rfl) rfl
      exact FStep.at_ 74 (.pointer (some ⟨I,1,none⟩)) (by kernel_rfl) (by (conv in opOf _ _ => whnf); go_simp) ⟨k,rfl⟩ rfl
    · have e74 := hk.eq 1 74 (.pointer (some ⟨I,1,none⟩)) (by kernel_rfl) fun _ h => h
      exact FStep.at_ 75 (.int .i64 a) (by kernel_rfl) (by (conv in opOf _ _ => whnf); go_simp) ⟨k,rfl⟩ rfl
    · have e14 := hk.old_ 14 (.int .u32 R) (by rw [hds]; rfl) rfl
      exact FStep.at_ 76 (.int .u32 R) (by kernel_rfl) (by (conv in opOf _ _ => whnf); go_simp) ⟨k,rfl⟩ rfl
    · have e76 := hk.eq 3 76 (.int .u32 R) (by kernel_rfl) fun _ h => h
      exact FStep.at_ 77 (.int .i32 (wrap32 R)) (by kernel_rfl) (by (conv in opOf _ _ => whnf); go_simp; (simp only [IntKind.wrap,IntKind.bits,IntKind.signed,wrap32]; first | rfl | omega | (simp; omega))) ⟨k,rfl⟩ rfl
    · have e73 := hk.eq 0 73 (.pointer (some ⟨g,0,none⟩)) (by kernel_rfl) fun _ h => h
      exact FStep.at_ 78 (.pointer (some ⟨g,0,none⟩)) (by kernel_rfl) (by (conv in opOf _ _ => whnf); go_simp) ⟨k,rfl⟩ rfl
    · have e78 := hk.eq 5 78 (.pointer (some ⟨g,0,none⟩)) (by kernel_rfl) fun _ h => h
      exact FStep.at_ 79 (.pointer (some ⟨g,0,none⟩)) (by kernel_rfl) (by (conv in opOf _ _ => whnf); go_simp) ⟨k,rfl⟩ rfl
    · have e79 := hk.eq 6 79 (.pointer (some ⟨g,0,none⟩)) (by kernel_rfl) fun _ h => h
      have e75 := hk.eq 2 75 (.int .i64 a) (by kernel_rfl) fun _ h => h
      exact FStep.at_ 80 (.pointer (some ⟨g,a,none⟩)) (by kernel_rfl) (by (conv in opOf _ _ => whnf); go_simp) ⟨k,rfl⟩ rfl
  · have e80 := hk.eq 7 80 (.pointer (some ⟨g,a,none⟩)) (by kernel_rfl) fun _ h => h
    have e77 := hk.eq 4 77 (.int .i32 (wrap32 R)) (by kernel_rfl) fun _ h => h
    exact FStep.st_ (w' := (W.drewN k).setCell ⟨g,a,none⟩ (.int .i32 (wrap32 R))) (by kernel_rfl) (by (conv in opOf _ _ => whnf); go_simp) ⟨k,rfl⟩
  · obtain ⟨k,rfl⟩ := hw
    simp only [List.foldl_cons,List.foldl_nil,List.setIfInBounds_toArray,List.set_cons_zero,List.set_cons_succ]
    exact hQ _ _ _ _ _ _ _ _ k
noncomputable def rtR26 : Array Oper := regOf Tryd.f68.body 26
set_option maxRecDepth 100000 in
set_option maxHeartbeats 2000000 in
theorem rt_r26 (g I a q : Nat) (v : Int) (u1 u2 u3 u4 u5 u6 u8 u9 Ua Uw UH US UW UX UY UZ U0 U1 U2 U3 U4 U5 U6 U7 U8 U9 Ya Yb Yc Yd Ye Yf Yg Yh Yi Yj Yk Yl Ym Yn Yo Yp Yq Yr Ys Yt Yu Yv Yw Yx Yy Yz YA YB YC YD YE YF YG YH YI YJ YK YL YM YN YO YP YQ YR YS YT YU YV YW YX YY YZ Y0 Y1 Y2 Y3 Y4 Y5 Y6 Y7 Y8 Y9 Za Zb Zc Zd Ze Zf Zg Zh Zi Ub Uc Ud Ue Uf Ug Uh Ui Uj Uk Um Un Uo Up Uq Ur Us Ut Uu Uv Ux Uy Uz UA UB UC UD UE UF UG UI UJ UK UL UM UN UO UP UQ UR UT UU UV : Value) (W : World) (Q : Exit → Act → World → Prop) (ha : a < 8) (p1 : W.cell? ⟨I,1,none⟩ = some (.int .i64 a)) (x : Value) (px : W.cell? ⟨g,a,none⟩ = some x) (fz : W.frozen? ⟨g,a,none⟩ = false) (hq : q < 256) (pv : W.cell? ⟨g,13 + q,none⟩ = some (.int .i32 v))
    (hQ : ∀ (Z4 Z5 Z6 Z7 Z8 Z9 Ja Jb Jc Jd Je Jf : Value) (k : Nat),Q .normal { tmps := #[.pointer (some ⟨g,0,none⟩),u1,u2,u3,u4,u5,u6,.pointer (some ⟨I,0,none⟩),u8,u9,Ua,.int .i32 q,Uw,UH,US,UW,UX,UY,UZ,U0,U1,U2,U3,U4,U5,U6,U7,U8,U9,Ya,Yb,Yc,Yd,Ye,Yf,Yg,Yh,Yi,Yj,Yk,Yl,Ym,Yn,Yo,Yp,Yq,Yr,Ys,Yt,Yu,Yv,Yw,Yx,Yy,Yz,YA,YB,YC,YD,YE,YF,YG,YH,YI,YJ,YK,YL,YM,YN,YO,YP,YQ,YR,YS,YT,YU,YV,YW,YX,YY,YZ,Y0,Y1,Y2,Y3,Y4,Y5,Y6,Z4,Z5,Z6,Z7,Z8,Z9,Ja,Jb,Jc,Jd,Je,Jf,Ub,Uc,Ud,Ue,Uf,Ug,Uh,Ui,Uj,Uk,Um,Un,Uo,Up,Uq,Ur,Us,Ut,Uu,Uv,Ux,Uy,Uz,UA,UB,UC,UD,UE,UF,UG,UI,UJ,UK,UL,UM,UN,UO,UP,UQ,UR,UT,UU,UV],defers := [] } ((W.drewN k).setCell ⟨g,a,none⟩ (.int .i32 v))) :
    (Code.region 26 rtR26 true).wp Tryd.prog Q { tmps := #[.pointer (some ⟨g,0,none⟩),u1,u2,u3,u4,u5,u6,.pointer (some ⟨I,0,none⟩),u8,u9,Ua,.int .i32 q,Uw,UH,US,UW,UX,UY,UZ,U0,U1,U2,U3,U4,U5,U6,U7,U8,U9,Ya,Yb,Yc,Yd,Ye,Yf,Yg,Yh,Yi,Yj,Yk,Yl,Ym,Yn,Yo,Yp,Yq,Yr,Ys,Yt,Yu,Yv,Yw,Yx,Yy,Yz,YA,YB,YC,YD,YE,YF,YG,YH,YI,YJ,YK,YL,YM,YN,YO,YP,YQ,YR,YS,YT,YU,YV,YW,YX,YY,YZ,Y0,Y1,Y2,Y3,Y4,Y5,Y6,Y7,Y8,Y9,Za,Zb,Zc,Zd,Ze,Zf,Zg,Zh,Zi,Ub,Uc,Ud,Ue,Uf,Ug,Uh,Ui,Uj,Uk,Um,Un,Uo,Up,Uq,Ur,Us,Ut,Uu,Uv,Ux,Uy,Uz,UA,UB,UC,UD,UE,UF,UG,UI,UJ,UK,UL,UM,UN,UO,UP,UQ,UR,UT,UU,UV],defers := [] } W := by
  have hA : (a : Int) < 8 := by omega
  have hQq : (q : Int) < 256 := by omega
  have p1 : ∀ k,(W.drewN k).cell? ⟨I,1,none⟩ = some (.int .i64 a) := fun _ => p1
  have px : ∀ k,(W.drewN k).cell? ⟨g,a,none⟩ = some (x) := fun _ => px
  have fz : ∀ k,(W.drewN k).frozen? ⟨g,a,none⟩ = false := fun _ => fz
  have pv : ∀ k,(W.drewN k).cell? ⟨g,13 + q,none⟩ = some (.int .i32 v) := fun _ => pv
  have hds : dstsOf rtR26 = [88,89,90,91,92,93,94,95,96,97,98,99] := by kernel_rfl
  refine wp_flow (by kernel_rfl) (lookupE [(88,fun zz => zz = .pointer (some ⟨g,0,none⟩)),(89,fun zz => zz = .pointer (some ⟨I,1,none⟩)),(90,fun zz => zz = .int .i64 a),(91,fun zz => zz = .pointer (some ⟨g,0,none⟩)),(92,fun zz => zz = .int .i32 q),(93,fun zz => zz = .pointer (some ⟨g,0,none⟩)),(94,fun zz => zz = .pointer (some ⟨g,13,none⟩)),(95,fun zz => zz = .pointer (some ⟨g,13 + q,none⟩)),(96,fun zz => zz = .int .i32 v),(97,fun zz => zz = .pointer (some ⟨g,0,none⟩)),(98,fun zz => zz = .pointer (some ⟨g,0,none⟩)),(99,fun zz => zz = .pointer (some ⟨g,a,none⟩))]) (fun w => ∃ k,w = (W.drewN k).setCell ⟨g,a,none⟩ (.int .i32 v)) 12 [88,89,90,91,92,93,94,95,96,97,98,99] hds (by kernel_rfl) (fun i hi act k hk => ?_) (fun act k hk => ?_) (fun xs w hw => ?_)
  · rcases (show i = 0 ∨ i = 1 ∨ i = 2 ∨ i = 3 ∨ i = 4 ∨ i = 5 ∨ i = 6 ∨ i = 7 ∨ i = 8 ∨ i = 9 ∨ i = 10 ∨ i = 11 by omega) with rfl | rfl | rfl | rfl | rfl | rfl | rfl | rfl | rfl | rfl | rfl | rfl
    · have e0 := hk.old_ 0 (.pointer (some ⟨g,0,none⟩)) (by rw [hds]; rfl) rfl
      exact FStep.at_ 88 (.pointer (some ⟨g,0,none⟩)) (by kernel_rfl) (by (conv in opOf _ _ => whnf); go_simp) ⟨k,rfl⟩ rfl
    · have e7 := hk.old_ 7 (.pointer (some ⟨I,0,none⟩)) (by rw [hds]; rfl) rfl
      exact FStep.at_ 89 (.pointer (some ⟨I,1,none⟩)) (by kernel_rfl) (by (conv in opOf _ _ => whnf); go_simp) ⟨k,rfl⟩ rfl
    · have e89 := hk.eq 1 89 (.pointer (some ⟨I,1,none⟩)) (by kernel_rfl) fun _ h => h
      exact FStep.at_ 90 (.int .i64 a) (by kernel_rfl) (by (conv in opOf _ _ => whnf); go_simp) ⟨k,rfl⟩ rfl
    · have e0 := hk.old_ 0 (.pointer (some ⟨g,0,none⟩)) (by rw [hds]; rfl) rfl
      exact FStep.at_ 91 (.pointer (some ⟨g,0,none⟩)) (by kernel_rfl) (by (conv in opOf _ _ => whnf); go_simp) ⟨k,rfl⟩ rfl
    · have e11 := hk.old_ 11 (.int .i32 q) (by rw [hds]; rfl) rfl
      exact FStep.at_ 92 (.int .i32 q) (by kernel_rfl) (by (conv in opOf _ _ => whnf); go_simp) ⟨k,rfl⟩ rfl
    · have e91 := hk.eq 3 91 (.pointer (some ⟨g,0,none⟩)) (by kernel_rfl) fun _ h => h
      exact FStep.at_ 93 (.pointer (some ⟨g,0,none⟩)) (by kernel_rfl) (by (conv in opOf _ _ => whnf); go_simp) ⟨k,rfl⟩ rfl
    · have e93 := hk.eq 5 93 (.pointer (some ⟨g,0,none⟩)) (by kernel_rfl) fun _ h => h
      exact FStep.at_ 94 (.pointer (some ⟨g,13,none⟩)) (by kernel_rfl) (by (conv in opOf _ _ => whnf); go_simp) ⟨k,rfl⟩ rfl
    · have e94 := hk.eq 6 94 (.pointer (some ⟨g,13,none⟩)) (by kernel_rfl) fun _ h => h
      have e92 := hk.eq 4 92 (.int .i32 q) (by kernel_rfl) fun _ h => h
      exact FStep.at_ 95 (.pointer (some ⟨g,13 + q,none⟩)) (by kernel_rfl) (by (conv in opOf _ _ => whnf); go_simp) ⟨k,rfl⟩ rfl
    · have e95 := hk.eq 7 95 (.pointer (some ⟨g,13 + q,none⟩)) (by kernel_rfl) fun _ h => h
      exact FStep.at_ 96 (.int .i32 v) (by kernel_rfl) (by (conv in opOf _ _ => whnf); go_simp) ⟨k,rfl⟩ rfl
    · have e88 := hk.eq 0 88 (.pointer (some ⟨g,0,none⟩)) (by kernel_rfl) fun _ h => h
      exact FStep.at_ 97 (.pointer (some ⟨g,0,none⟩)) (by kernel_rfl) (by (conv in opOf _ _ => whnf); go_simp) ⟨k,rfl⟩ rfl
    · have e97 := hk.eq 9 97 (.pointer (some ⟨g,0,none⟩)) (by kernel_rfl) fun _ h => h
      exact FStep.at_ 98 (.pointer (some ⟨g,0,none⟩)) (by kernel_rfl) (by (conv in opOf _ _ => whnf); go_simp) ⟨k,rfl⟩ rfl
    · have e98 := hk.eq 10 98 (.pointer (some ⟨g,0,none⟩)) (by kernel_rfl) fun _ h => h
      have e90 := hk.eq 2 90 (.int .i64 a) (by kernel_rfl) fun _ h => h
      exact FStep.at_ 99 (.pointer (some ⟨g,a,none⟩)) (by kernel_rfl) (by (conv in opOf _ _ => whnf); go_simp) ⟨k,rfl⟩ rfl
  · have e99 := hk.eq 11 99 (.pointer (some ⟨g,a,none⟩)) (by kernel_rfl) fun _ h => h
    have e96 := hk.eq 8 96 (.int .i32 v) (by kernel_rfl) fun _ h => h
    exact FStep.st_ (w' := (W.drewN k).setCell ⟨g,a,none⟩ (.int .i32 v)) (by kernel_rfl) (by (conv in opOf _ _ => whnf); go_simp) ⟨k,rfl⟩
  · obtain ⟨k,rfl⟩ := hw
    simp only [List.foldl_cons,List.foldl_nil,List.setIfInBounds_toArray,List.set_cons_zero,List.set_cons_succ]
    exact hQ _ _ _ _ _ _ _ _ _ _ _ _ k
noncomputable def rtR31 : Array Oper := regOf Tryd.f68.body 31
set_option maxRecDepth 100000 in
set_option maxHeartbeats 2000000 in
theorem rt_r31 (g I a q : Nat) (y : Int) (u1 u2 u3 u4 u5 u6 u8 u9 Ua Uw UH US UW UX UY UZ U0 U1 U2 U3 U4 U5 U6 U7 U8 U9 Ya Yb Yc Yd Ye Yf Yg Yh Yi Yj Yk Yl Ym Yn Yo Yp Yq Yr Ys Yt Yu Yv Yw Yx Yy Yz YA YB YC YD YE YF YG YH YI YJ YK YL YM YN YO YP YQ YR YS YT YU YV YW YX YY YZ Y0 Y1 Y2 Y3 Y4 Y5 Y6 Y7 Y8 Y9 Za Zb Zc Zd Ze Zf Zg Zh Zi Ub Uc Ud Ue Uf Ug Uh Ui Uj Uk Um Un Uo Up Uq Ur Us Ut Uu Uv Ux Uy Uz UA UB UC UD UE UF UG UI UJ UK UL UM UN UO UP UQ UR UT UU UV : Value) (W : World) (Q : Exit → Act → World → Prop) (ha : a < 8) (p1 : W.cell? ⟨I,1,none⟩ = some (.int .i64 a)) (px : W.cell? ⟨g,a,none⟩ = some (.int .i32 q)) (hq : q < 256) (v : Value) (pv : W.cell? ⟨g,13 + q,none⟩ = some v) (fv : W.frozen? ⟨g,13 + q,none⟩ = false)
    (hQ : ∀ (Zj Zk Zl Zm Zn Zo Zp Zq Zr Zs Zt Zu : Value) (k : Nat),Q .normal { tmps := #[.pointer (some ⟨g,0,none⟩),u1,u2,u3,u4,u5,u6,.pointer (some ⟨I,0,none⟩),u8,u9,Ua,.int .i32 y,Uw,UH,US,UW,UX,UY,UZ,U0,U1,U2,U3,U4,U5,U6,U7,U8,U9,Ya,Yb,Yc,Yd,Ye,Yf,Yg,Yh,Yi,Yj,Yk,Yl,Ym,Yn,Yo,Yp,Yq,Yr,Ys,Yt,Yu,Yv,Yw,Yx,Yy,Yz,YA,YB,YC,YD,YE,YF,YG,YH,YI,YJ,YK,YL,YM,YN,YO,YP,YQ,YR,YS,YT,YU,YV,YW,YX,YY,YZ,Y0,Y1,Y2,Y3,Y4,Y5,Y6,Y7,Y8,Y9,Za,Zb,Zc,Zd,Ze,Zf,Zg,Zh,Zi,Ub,Uc,Ud,Ue,Uf,Ug,Uh,Ui,Uj,Uk,Um,Un,Uo,Zj,Zk,Zl,Zm,Zn,Zo,Zp,Zq,Zr,Zs,Zt,Zu,UC,UD,UE,UF,UG,UI,UJ,UK,UL,UM,UN,UO,UP,UQ,UR,UT,UU,UV],defers := [] } ((W.drewN k).setCell ⟨g,13 + q,none⟩ (.int .i32 y))) :
    (Code.region 31 rtR31 true).wp Tryd.prog Q { tmps := #[.pointer (some ⟨g,0,none⟩),u1,u2,u3,u4,u5,u6,.pointer (some ⟨I,0,none⟩),u8,u9,Ua,.int .i32 y,Uw,UH,US,UW,UX,UY,UZ,U0,U1,U2,U3,U4,U5,U6,U7,U8,U9,Ya,Yb,Yc,Yd,Ye,Yf,Yg,Yh,Yi,Yj,Yk,Yl,Ym,Yn,Yo,Yp,Yq,Yr,Ys,Yt,Yu,Yv,Yw,Yx,Yy,Yz,YA,YB,YC,YD,YE,YF,YG,YH,YI,YJ,YK,YL,YM,YN,YO,YP,YQ,YR,YS,YT,YU,YV,YW,YX,YY,YZ,Y0,Y1,Y2,Y3,Y4,Y5,Y6,Y7,Y8,Y9,Za,Zb,Zc,Zd,Ze,Zf,Zg,Zh,Zi,Ub,Uc,Ud,Ue,Uf,Ug,Uh,Ui,Uj,Uk,Um,Un,Uo,Up,Uq,Ur,Us,Ut,Uu,Uv,Ux,Uy,Uz,UA,UB,UC,UD,UE,UF,UG,UI,UJ,UK,UL,UM,UN,UO,UP,UQ,UR,UT,UU,UV],defers := [] } W := by
  have hA : (a : Int) < 8 := by omega
  have hQq : (q : Int) < 256 := by omega
  have p1 : ∀ k,(W.drewN k).cell? ⟨I,1,none⟩ = some (.int .i64 a) := fun _ => p1
  have px : ∀ k,(W.drewN k).cell? ⟨g,a,none⟩ = some (.int .i32 q) := fun _ => px
  have pv : ∀ k,(W.drewN k).cell? ⟨g,13 + q,none⟩ = some (v) := fun _ => pv
  have fv : ∀ k,(W.drewN k).frozen? ⟨g,13 + q,none⟩ = false := fun _ => fv
  have hds : dstsOf rtR31 = [113,114,115,116,117,118,119,120,121,122,123,124] := by kernel_rfl
  refine wp_flow (by kernel_rfl) (lookupE [(113,fun zz => zz = .pointer (some ⟨g,0,none⟩)),(114,fun zz => zz = .pointer (some ⟨g,0,none⟩)),(115,fun zz => zz = .pointer (some ⟨I,1,none⟩)),(116,fun zz => zz = .int .i64 a),(117,fun zz => zz = .pointer (some ⟨g,0,none⟩)),(118,fun zz => zz = .pointer (some ⟨g,0,none⟩)),(119,fun zz => zz = .pointer (some ⟨g,a,none⟩)),(120,fun zz => zz = .int .i32 q),(121,fun zz => zz = .int .i32 y),(122,fun zz => zz = .pointer (some ⟨g,0,none⟩)),(123,fun zz => zz = .pointer (some ⟨g,13,none⟩)),(124,fun zz => zz = .pointer (some ⟨g,13 + q,none⟩))]) (fun w => ∃ k,w = (W.drewN k).setCell ⟨g,13 + q,none⟩ (.int .i32 y)) 12 [113,114,115,116,117,118,119,120,121,122,123,124] hds (by kernel_rfl) (fun i hi act k hk => ?_) (fun act k hk => ?_) (fun xs w hw => ?_)
  · rcases (show i = 0 ∨ i = 1 ∨ i = 2 ∨ i = 3 ∨ i = 4 ∨ i = 5 ∨ i = 6 ∨ i = 7 ∨ i = 8 ∨ i = 9 ∨ i = 10 ∨ i = 11 by omega) with rfl | rfl | rfl | rfl | rfl | rfl | rfl | rfl | rfl | rfl | rfl | rfl
    · have e0 := hk.old_ 0 (.pointer (some ⟨g,0,none⟩)) (by rw [hds]; rfl) rfl
      exact FStep.at_ 113 (.pointer (some ⟨g,0,none⟩)) (by kernel_rfl) (by (conv in opOf _ _ => whnf); go_simp) ⟨k,rfl⟩ rfl
    · have e0 := hk.old_ 0 (.pointer (some ⟨g,0,none⟩)) (by rw [hds]; rfl) rfl
      exact FStep.at_ 114 (.pointer (some ⟨g,0,none⟩)) (by kernel_rfl) (by (conv in opOf _ _ => whnf); go_simp) ⟨k,rfl⟩ rfl
    · have e7 := hk.old_ 7 (.pointer (some ⟨I,0,none⟩)) (by rw [hds]; rfl) rfl
      exact FStep.at_ 115 (.pointer (some ⟨I,1,none⟩)) (by kernel_rfl) (by (conv in opOf _ _ => whnf); go_simp) ⟨k,rfl⟩ rfl
    · have e115 := hk.eq 2 115 (.pointer (some ⟨I,1,none⟩)) (by kernel_rfl) fun _ h => h
      exact FStep.at_ 116 (.int .i64 a) (by kernel_rfl) (by (conv in opOf _ _ => whnf); go_simp) ⟨k,rfl⟩ rfl
    · have e114 := hk.eq 1 114 (.pointer (some ⟨g,0,none⟩)) (by kernel_rfl) fun _ h => h
      exact FStep.at_ 117 (.pointer (some ⟨g,0,none⟩)) (by kernel_rfl) (by (conv in opOf _ _ => whnf); go_simp) ⟨k,rfl⟩ rfl
    · have e117 := hk.eq 4 117 (.pointer (some ⟨g,0,none⟩)) (by kernel_rfl) fun _ h => h
      exact FStep.at_ 118 (.pointer (some ⟨g,0,none⟩)) (by kernel_rfl) (by (conv in opOf _ _ => whnf); go_simp) ⟨k,rfl⟩ rfl
    · have e118 := hk.eq 5 118 (.pointer (some ⟨g,0,none⟩)) (by kernel_rfl) fun _ h => h
      have e116 := hk.eq 3 116 (.int .i64 a) (by kernel_rfl) fun _ h => h
      exact FStep.at_ 119 (.pointer (some ⟨g,a,none⟩)) (by kernel_rfl) (by (conv in opOf _ _ => whnf); go_simp) ⟨k,rfl⟩ rfl
    · have e119 := hk.eq 6 119 (.pointer (some ⟨g,a,none⟩)) (by kernel_rfl) fun _ h => h
      exact FStep.at_ 120 (.int .i32 q) (by kernel_rfl) (by (conv in opOf _ _ => whnf); go_simp) ⟨k,rfl⟩ rfl
    · have e11 := hk.old_ 11 (.int .i32 y) (by rw [hds]; rfl) rfl
      exact FStep.at_ 121 (.int .i32 y) (by kernel_rfl) (by (conv in opOf _ _ => whnf); go_simp) ⟨k,rfl⟩ rfl
    · have e113 := hk.eq 0 113 (.pointer (some ⟨g,0,none⟩)) (by kernel_rfl) fun _ h => h
      exact FStep.at_ 122 (.pointer (some ⟨g,0,none⟩)) (by kernel_rfl) (by (conv in opOf _ _ => whnf); go_simp) ⟨k,rfl⟩ rfl
    · have e122 := hk.eq 9 122 (.pointer (some ⟨g,0,none⟩)) (by kernel_rfl) fun _ h => h
      exact FStep.at_ 123 (.pointer (some ⟨g,13,none⟩)) (by kernel_rfl) (by (conv in opOf _ _ => whnf); go_simp) ⟨k,rfl⟩ rfl
    · have e123 := hk.eq 10 123 (.pointer (some ⟨g,13,none⟩)) (by kernel_rfl) fun _ h => h
      have e120 := hk.eq 7 120 (.int .i32 q) (by kernel_rfl) fun _ h => h
      exact FStep.at_ 124 (.pointer (some ⟨g,13 + q,none⟩)) (by kernel_rfl) (by (conv in opOf _ _ => whnf); go_simp) ⟨k,rfl⟩ rfl
  · have e124 := hk.eq 11 124 (.pointer (some ⟨g,13 + q,none⟩)) (by kernel_rfl) fun _ h => h
    have e121 := hk.eq 8 121 (.int .i32 y) (by kernel_rfl) fun _ h => h
    exact FStep.st_ (w' := (W.drewN k).setCell ⟨g,13 + q,none⟩ (.int .i32 y)) (by kernel_rfl) (by (conv in opOf _ _ => whnf); go_simp) ⟨k,rfl⟩
  · obtain ⟨k,rfl⟩ := hw
    simp only [List.foldl_cons,List.foldl_nil,List.setIfInBounds_toArray,List.set_cons_zero,List.set_cons_succ]
    exact hQ _ _ _ _ _ _ _ _ _ _ _ _ k
end Go.Proofs.YthcjnkakfpmpbaaDoor
