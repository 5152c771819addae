import Derived.Test.YthcjnkakfpmpbaaDoorQ7
import Derived.Test.YthcjnkakfpmpbaaDoorQ5
import Derived.Test.YthcjnkakfpmpbaaDoorQ22
namespace Go.Proofs.YthcjnkakfpmpbaaDoor
open Go.RowKit
set_option linter.unusedVariables false
set_option linter.unusedSimpArgs false
noncomputable def cxN13 : Array Oper := regOf Tryd.f62.body 13
attribute [local go_sem] run_store_complex in
set_option maxRecDepth 100000 in
set_option maxHeartbeats 2000000 in
theorem cxn_r13 (g a : Nat) (p q s t : Nat) (u1 u2 u3 u6 u7 u8 u9 Ua Ul Uw UH US U3 U6 U7 U8 U9 Ya Yb Yc Yd Ye Yf Yg Yh Yi Yj Yk Yl Ym Yn Yo Yp Yq Yr Ys Yt Yu Yv Yw Yx Yy Yz YA YB YC YD YE YF YG YH YI YJ YK YL YM YN YO YP YQ YR YS YT YU YV YW YX YY YZ Y0 Y1 Y2 Y3 Y4 Y5 Y6 Y7 Y8 Y9 Za Zb Zc Zd Ze Zf Zg Zh Zi Zj Zk Zl Zm Zn Zo Zp Zq Zr Ub Uc Ud Ue Uf Ug Uh Ui Uj Uk Um Un Uo Up Uq Ur Us Ut Uu Uv Ux Uy Uz UA UB UC UD UE UF UG UI UJ UK UL UM UN UO UP UQ UR UT UU UV UW UX UY UZ U0 U1 U2 U4 U5 : Value) (W : World) (Q : Exit → Act → World → Prop) (ha : a < 4) (pz : W.cell? ⟨g,8 + a,none⟩ = some (.complex .f64 p q)) (fz : W.frozen? ⟨g,8 + a,none⟩ = false)
    (hQ : ∀ (Jg Jh Ji Jj Jk Jl Jm Jn Jo Jp Jq Jr Js Jt Ju Jv Jw : Value) (k r7 r14 : Nat),FR .add p s r7 → FR .add q t r14 → Q .normal { tmps := #[.pointer (some ⟨g,0,none⟩),u1,u2,u3,.pointer (some ⟨g,8 + a,none⟩),.complex .f64 s t,u6,u7,u8,u9,Ua,Ul,Uw,UH,US,U3,U6,U7,U8,U9,Ya,Yb,Yc,Yd,Ye,Yf,Yg,Yh,Yi,Yj,Yk,Yl,Ym,Yn,Yo,Yp,Yq,Yr,Ys,Yt,Yu,Yv,Yw,Yx,Yy,Yz,YA,YB,YC,YD,YE,YF,YG,YH,YI,YJ,YK,YL,YM,YN,YO,YP,YQ,YR,YS,YT,YU,YV,YW,YX,YY,YZ,Y0,Y1,Y2,Y3,Y4,Y5,Y6,Y7,Y8,Jg,Jh,Ji,Jj,Jk,Jl,Jm,Jn,Jo,Jp,Jq,Jr,Js,Jt,Ju,Jv,Jw,Zq,Zr,Ub,Uc,Ud,Ue,Uf,Ug,Uh,Ui,Uj,Uk,Um,Un,Uo,Up,Uq,Ur,Us,Ut,Uu,Uv,Ux,Uy,Uz,UA,UB,UC,UD,UE,UF,UG,UI,UJ,UK,UL,UM,UN,UO,UP,UQ,UR,UT,UU,UV,UW,UX,UY,UZ,U0,U1,U2,U4,U5],defers := [] } ((W.drewN k).setCell ⟨g,8 + a,none⟩ (.complex .f64 r7 r14))) :
    (Code.region 13 cxN13 true).wp Tryd.prog Q { tmps := #[.pointer (some ⟨g,0,none⟩),u1,u2,u3,.pointer (some ⟨g,8 + a,none⟩),.complex .f64 s t,u6,u7,u8,u9,Ua,Ul,Uw,UH,US,U3,U6,U7,U8,U9,Ya,Yb,Yc,Yd,Ye,Yf,Yg,Yh,Yi,Yj,Yk,Yl,Ym,Yn,Yo,Yp,Yq,Yr,Ys,Yt,Yu,Yv,Yw,Yx,Yy,Yz,YA,YB,YC,YD,YE,YF,YG,YH,YI,YJ,YK,YL,YM,YN,YO,YP,YQ,YR,YS,YT,YU,YV,YW,YX,YY,YZ,Y0,Y1,Y2,Y3,Y4,Y5,Y6,Y7,Y8,Y9,Za,Zb,Zc,Zd,Ze,Zf,Zg,Zh,Zi,Zj,Zk,Zl,Zm,Zn,Zo,Zp,Zq,Zr,Ub,Uc,Ud,Ue,Uf,Ug,Uh,Ui,Uj,Uk,Um,Un,Uo,Up,Uq,Ur,Us,Ut,Uu,Uv,Ux,Uy,Uz,UA,UB,UC,UD,UE,UF,UG,UI,UJ,UK,UL,UM,UN,UO,UP,UQ,UR,UT,UU,UV,UW,UX,UY,UZ,U0,U1,U2,U4,U5],defers := [] } W := by
  have pz : ∀ k,(W.drewN k).cell? ⟨g,8 + a,none⟩ = some (.complex .f64 p q) := fun _ => pz
  have fz : ∀ k,(W.drewN k).frozen? ⟨g,8 + a,none⟩ = false := fun _ => fz
  have hds : dstsOf cxN13 = [81,82,83,84,85,86,87,88,89,90,91,92,93,94,95,96,97] := by kernel_rfl
  refine wp_flow (by kernel_rfl) (lookupE [(81,fun zz => zz = .pointer (some ⟨g,8 + a,none⟩)),(82,fun zz => zz = .pointer (some ⟨g,8 + a,none⟩)),(83,fun zz => zz = .pointer (some ⟨g,8 + a,none⟩)),(84,fun zz => zz = .complex .f64 p q),(85,fun zz => zz = .float .f64 p),(86,fun zz => zz = .complex .f64 s t),(87,fun zz => zz = .float .f64 s),(88,fun zz => ∃ r7,FR .add p s r7 ∧ zz = .float .f64 r7),(89,fun zz => zz = .pointer (some ⟨g,8 + a,none⟩)),(90,fun zz => zz = .pointer (some ⟨g,8 + a,none⟩)),(91,fun zz => zz = .complex .f64 p q),(92,fun zz => zz = .float .f64 q),(93,fun zz => zz = .complex .f64 s t),(94,fun zz => zz = .float .f64 t),(95,fun zz => ∃ r14,FR .add q t r14 ∧ zz = .float .f64 r14),(96,fun zz => ∃ r7 r14,FR .add p s r7 ∧ FR .add q t r14 ∧ zz = .complex .f64 r7 r14),(97,fun zz => zz = .pointer (some ⟨g,8 + a,none⟩))]) (fun w => ∃ k r7 r14,FR .add p s r7 ∧ FR .add q t r14 ∧ w = (W.drewN k).setCell ⟨g,8 + a,none⟩ (.complex .f64 r7 r14)) 17 [81,82,83,84,85,86,87,88,89,90,91,92,93,94,95,96,97] hds (by kernel_rfl) (fun i hi act k hk => ?_) (fun act k hk => ?_) (fun xs w hw => ?_)
  · rcases (show i = 0 ∨ i = 1 ∨ i = 2 ∨ i = 3 ∨ i = 4 ∨ i = 5 ∨ i = 6 ∨ i = 7 ∨ i = 8 ∨ i = 9 ∨ i = 10 ∨ i = 11 ∨ i = 12 ∨ i = 13 ∨ i = 14 ∨ i = 15 ∨ i = 16 by omega) with rfl | rfl | rfl | rfl | rfl | rfl | rfl | rfl | rfl | rfl | rfl | rfl | rfl | rfl | rfl | rfl | rfl
    · have e4 := hk.old_ 4 (.pointer (some ⟨g,8 + a,none⟩)) (by rw [hds]; rfl) rfl
      exact FStep.at_ 81 (.pointer (some ⟨g,8 + a,none⟩)) (by kernel_rfl) (by (conv in opOf _ _ => whnf); go_simp) ⟨k,rfl⟩ rfl
    · have e4 := hk.old_ 4 (.pointer (some ⟨g,8 + a,none⟩)) (by rw [hds]; rfl) rfl
      exact FStep.at_ 82 (.pointer (some ⟨g,8 + a,none⟩)) (by kernel_rfl) (by (conv in opOf _ _ => whnf); go_simp) ⟨k,rfl⟩ rfl
    · have e82 := hk.eq 1 82 (.pointer (some ⟨g,8 + a,none⟩)) (by kernel_rfl) fun _ h => h
      exact FStep.at_ 83 (.pointer (some ⟨g,8 + a,none⟩)) (by kernel_rfl) (by (conv in opOf _ _ => whnf); go_simp) ⟨k,rfl⟩ rfl
    · have e83 := hk.eq 2 83 (.pointer (some ⟨g,8 + a,none⟩)) (by kernel_rfl) fun _ h => h
      exact FStep.at_ 84 (.complex .f64 p q) (by kernel_rfl) (by (conv in opOf _ _ => whnf); go_simp) ⟨k,rfl⟩ rfl
    · have e84 := hk.eq 3 84 (.complex .f64 p q) (by kernel_rfl) fun _ h => h
      exact FStep.at_ 85 (.float .f64 p) (by kernel_rfl) (by (conv in opOf _ _ => whnf); go_simp) ⟨k,rfl⟩ rfl
    · have e5 := hk.old_ 5 (.complex .f64 s t) (by rw [hds]; rfl) rfl
      exact FStep.at_ 86 (.complex .f64 s t) (by kernel_rfl) (by (conv in opOf _ _ => whnf); go_simp) ⟨k,rfl⟩ rfl
    · have e86 := hk.eq 5 86 (.complex .f64 s t) (by kernel_rfl) fun _ h => h
      exact FStep.at_ 87 (.float .f64 s) (by kernel_rfl) (by (conv in opOf _ _ => whnf); go_simp) ⟨k,rfl⟩ rfl
    · have e85 := hk.eq 4 85 (.float .f64 p) (by kernel_rfl) fun _ h => h
      have e87 := hk.eq 6 87 (.float .f64 s) (by kernel_rfl) fun _ h => h
      obtain ⟨k2,hk2⟩ := fwld_drewN .add p s (W.drewN k)
      have hf := run_fop (P := Tryd.prog) (W.drewN k) .add (by simp) 146 p s
      exact FStep.at_ (w' := fwld .add p s (W.drewN k)) 88 (.float .f64 (fres .add p s (W.drewN k))) (by kernel_rfl) (by (conv in opOf _ _ => whnf); go_simp) ⟨k + k2,by rw [hk2,World.drewN_drewN]⟩ ⟨_,fres_FR _ _ _ _,rfl⟩
    · have e4 := hk.old_ 4 (.pointer (some ⟨g,8 + a,none⟩)) (by rw [hds]; rfl) rfl
      exact FStep.at_ 89 (.pointer (some ⟨g,8 + a,none⟩)) (by kernel_rfl) (by (conv in opOf _ _ => whnf); go_simp) ⟨k,rfl⟩ rfl
    · have e89 := hk.eq 8 89 (.pointer (some ⟨g,8 + a,none⟩)) (by kernel_rfl) fun _ h => h
      exact FStep.at_ 90 (.pointer (some ⟨g,8 + a,none⟩)) (by kernel_rfl) (by (conv in opOf _ _ => whnf); go_simp) ⟨k,rfl⟩ rfl
    · have e90 := hk.eq 9 90 (.pointer (some ⟨g,8 + a,none⟩)) (by kernel_rfl) fun _ h => h
      exact FStep.at_ 91 (.complex .f64 p q) (by kernel_rfl) (by (conv in opOf _ _ => whnf); go_simp) ⟨k,rfl⟩ rfl
    · have e91 := hk.eq 10 91 (.complex .f64 p q) (by kernel_rfl) fun _ h => h
      exact FStep.at_ 92 (.float .f64 q) (by kernel_rfl) (by (conv in opOf _ _ => whnf); go_simp) ⟨k,rfl⟩ rfl
    · have e5 := hk.old_ 5 (.complex .f64 s t) (by rw [hds]; rfl) rfl
      exact FStep.at_ 93 (.complex .f64 s t) (by kernel_rfl) (by (conv in opOf _ _ => whnf); go_simp) ⟨k,rfl⟩ rfl
    · have e93 := hk.eq 12 93 (.complex .f64 s t) (by kernel_rfl) fun _ h => h
      exact FStep.at_ 94 (.float .f64 t) (by kernel_rfl) (by (conv in opOf _ _ => whnf); go_simp) ⟨k,rfl⟩ rfl
    · have e92 := hk.eq 11 92 (.float .f64 q) (by kernel_rfl) fun _ h => h
      have e94 := hk.eq 13 94 (.float .f64 t) (by kernel_rfl) fun _ h => h
      obtain ⟨k2,hk2⟩ := fwld_drewN .add q t (W.drewN k)
      have hf := run_fop (P := Tryd.prog) (W.drewN k) .add (by simp) 146 q t
      exact FStep.at_ (w' := fwld .add q t (W.drewN k)) 95 (.float .f64 (fres .add q t (W.drewN k))) (by kernel_rfl) (by (conv in opOf _ _ => whnf); go_simp) ⟨k + k2,by rw [hk2,World.drewN_drewN]⟩ ⟨_,fres_FR _ _ _ _,rfl⟩
    · obtain ⟨x88,e88,hE88⟩ := hk.ex 7 88 (by kernel_rfl)
      obtain ⟨r7,hp88_0,hE88⟩ : ∃ r7,FR .add p s r7 ∧ x88 = .float .f64 r7 := hE88
      rw [hE88] at e88
      obtain ⟨x95,e95,hE95⟩ := hk.ex 14 95 (by kernel_rfl)
      obtain ⟨r14,hp95_0,hE95⟩ : ∃ r14,FR .add q t r14 ∧ x95 = .float .f64 r14 := hE95
      rw [hE95] at e95
      exact FStep.at_ 96 (.complex .f64 r7 r14) (by kernel_rfl) (by (conv in opOf _ _ => whnf); go_simp) ⟨k,rfl⟩ ⟨r7,r14,hp88_0,hp95_0,rfl⟩
    · have e81 := hk.eq 0 81 (.pointer (some ⟨g,8 + a,none⟩)) (by kernel_rfl) fun _ h => h
      exact FStep.at_ 97 (.pointer (some ⟨g,8 + a,none⟩)) (by kernel_rfl) (by (conv in opOf _ _ => whnf); go_simp) ⟨k,rfl⟩ rfl
  · have e97 := hk.eq 16 97 (.pointer (some ⟨g,8 + a,none⟩)) (by kernel_rfl) fun _ h => h
    obtain ⟨x96,e96,hE96⟩ := hk.ex 15 96 (by kernel_rfl)
    obtain ⟨r7,r14,hp96_0,hp96_1,hE96⟩ : ∃ r7 r14,FR .add p s r7 ∧ FR .add q t r14 ∧ x96 = .complex .f64 r7 r14 := hE96
    rw [hE96] at e96
    exact FStep.st_ (w' := (W.drewN k).setCell ⟨g,8 + a,none⟩ (.complex .f64 r7 r14)) (by kernel_rfl) (by (conv in opOf _ _ => whnf); go_simp) ⟨k,r7,r14,hp96_0,hp96_1,rfl⟩
  · obtain ⟨k,r7,r14,hp_0,hp_1,rfl⟩ := hw
    simp only [List.foldl_cons,List.foldl_nil,List.setIfInBounds_toArray,List.set_cons_zero,List.set_cons_succ]
    exact hQ _ _ _ _ _ _ _ _ _ _ _ _ _ _ _ _ _ k r7 r14 hp_0 hp_1
set_option maxRecDepth 20000 in
set_option maxHeartbeats 4000000 in
theorem cxn_zadd (op n f : Int) (a b : Nat) (p q s t : Nat) (w : World) (g : Nat) (cells : List Value) (hT : TabIs 0 w) (htg : 0 ≠ g) (hB : Blk w g 119 cells) (ha : a < 4) (hb : b < 4) (hz : cells[8 + a]? = some (.complex .f64 p q)) (hz2 : cells[8 + b]? = some (.complex .f64 s t)) (hnm : opName op = [122,97,100,100]) :
    Calls Tryd.prog 62 #[.pointer (some ⟨g,0,none⟩),.agg #[.int .i64 op,.int .i64 a,.int .i64 b,.int .i32 n,.int .i64 f]] w fun e w' => e = .returned (.tuple #[]) ∧ ∃ re im : Nat,FR .add p s re ∧ FR .add q t im ∧ CW w g (cells.set (8 + a) (.complex .f64 re im)) w' := by
  have hg := hB.lt
  have Hn := Lib.hid (fun w hT => hnm ▸ cname_any op w hT)
  have HB := Lib.hid hB
  have hA : (a : Int) < 4 := by omega
  have Hz := Lib.hid hz
  have Hz2 := Lib.hid hz2
  have hBm : ((b : Int).tmod 4) = (b : Int) := by rw [Int.tmod_eq_emod_of_nonneg (by omega)]; omega
  have hBb : (b : Int) < 4 := by omega
  clear hB hz hz2
  go_enter Tryd.func62,Tryd.ntmps62
  go_wp2_with fail
  go_quiet (fail)
  go_wp2_with (first
    | (go_at_call 82; refine (Hn.out _ ((hT.alloc _).drewN nq)).mono ?_; rintro e w2 ⟨rfl,hb2⟩)
    | fail)
  have hI2 : Blk w2 w.heap.size 25 [.int .i64 op,.int .i64 a,.int .i64 b,.int .i32 n,.int .i64 f] := ((Blk.new w 25 _).drewN nq).below hb2 (by simp)
  have hC2 := (((CW.start HB.out).alloc _).drewN nq).below hb2
  have i0 := hI2.cell 0
  have i2 := hI2.cell 2
  simp only [List.getElem?_cons_zero,List.getElem?_cons_succ] at i0 i2
  have c2 := (hC2.blk.cell (8 + b)).trans Hz2.out
  have hz2' := hC2.blk.lt
  go_quiet (fail)
  go_wp2_with (first
    | (go_at_call 82; refine (Hn.out _ ((hC2.tab hT htg).drewN _)).mono ?_; rintro e w3 ⟨rfl,hb3⟩)
    | fail)
  have hC3 := (hC2.drewN _).below hb3
  refine wp_region_swap (ops' := cxN13) (by kernel_rfl) (cxn_r13 g a p q s t _ _ _ _ _ _ _ _ _ _ _ _ _ _ _ _ _ _ _ _ _ _ _ _ _ _ _ _ _ _ _ _ _ _ _ _ _ _ _ _ _ _ _ _ _ _ _ _ _ _ _ _ _ _ _ _ _ _ _ _ _ _ _ _ _ _ _ _ _ _ _ _ _ _ _ _ _ _ _ _ _ _ _ _ _ _ _ _ _ _ _ _ _ _ _ _ _ _ _ _ _ _ _ _ _ _ _ _ _ _ _ _ _ _ _ _ _ _ _ _ _ _ _ _ _ _ _ _ _ _ _ _ _ _ _ _ _ _ _ _ _ _ _ _ _ _ _ _ _ _ _ ha ((hC3.blk.cell (8 + a)).trans Hz.out) (hC3.blk.free _) ?_)
  intro Jg Jh Ji Jj Jk Jl Jm Jn Jo Jp Jq Jr Js Jt Ju Jv Jw kd re im h0 h1
  go_wp2_with fail
  (try simp only [Exit.inBlock,Exit.then])
  first
    | (refine bodyPost_end (results_none rfl _ _ _) rfl ⟨rfl,re,im,h0,h1,?_⟩; exact (hC3.drewN kd).setReg _ _)
    | (refine bodyPost_ret (results_none rfl _ _ _) rfl ⟨rfl,re,im,h0,h1,?_⟩; exact (hC3.drewN kd).setReg _ _)
noncomputable def cxN15 : Array Oper := regOf Tryd.f62.body 15
attribute [local go_sem] run_store_complex in
set_option maxRecDepth 100000 in
set_option maxHeartbeats 2000000 in
theorem cxn_r15 (g a : Nat) (p q s t : Nat) (u1 u2 u3 u6 u7 u8 u9 Ua Ul Uw UH US U3 U6 U7 U8 U9 Ya Yb Yc Yd Ye Yf Yg Yh Yi Yj Yk Yl Ym Yn Yo Yp Yq Yr Ys Yt Yu Yv Yw Yx Yy Yz YA YB YC YD YE YF YG YH YI YJ YK YL YM YN YO YP YQ YR YS YT YU YV YW YX YY YZ Y0 Y1 Y2 Y3 Y4 Y5 Y6 Y7 Y8 Y9 Za Zb Zc Zd Ze Zf Zg Zh Zi Zj Zk Zl Zm Zn Zo Zp Zq Zr Ub Uc Ud Ue Uf Ug Uh Ui Uj Uk Um Un Uo Up Uq Ur Us Ut Uu Uv Ux Uy Uz UA UB UC UD UE UF UG UI UJ UK UL UM UN UO UP UQ UR UT UU UV UW UX UY UZ U0 U1 U2 U4 U5 : Value) (W : World) (Q : Exit → Act → World → Prop) (ha : a < 4) (pz : W.cell? ⟨g,8 + a,none⟩ = some (.complex .f64 p q)) (fz : W.frozen? ⟨g,8 + a,none⟩ = false)
    (hQ : ∀ (Zs Zt Zu Zv Zw Zx Zy Zz ZA ZB ZC ZD ZE ZF ZG ZH ZI : Value) (k r7 r14 : Nat),FR .sub p s r7 → FR .sub q t r14 → Q .normal { tmps := #[.pointer (some ⟨g,0,none⟩),u1,u2,u3,.pointer (some ⟨g,8 + a,none⟩),.complex .f64 s t,u6,u7,u8,u9,Ua,Ul,Uw,UH,US,U3,U6,U7,U8,U9,Ya,Yb,Yc,Yd,Ye,Yf,Yg,Yh,Yi,Yj,Yk,Yl,Ym,Yn,Yo,Yp,Yq,Yr,Ys,Yt,Yu,Yv,Yw,Yx,Yy,Yz,YA,YB,YC,YD,YE,YF,YG,YH,YI,YJ,YK,YL,YM,YN,YO,YP,YQ,YR,YS,YT,YU,YV,YW,YX,YY,YZ,Y0,Y1,Y2,Y3,Y4,Y5,Y6,Y7,Y8,Y9,Za,Zb,Zc,Zd,Ze,Zf,Zg,Zh,Zi,Zj,Zk,Zl,Zm,Zn,Zo,Zp,Zq,Zr,Zs,Zt,Zu,Zv,Zw,Zx,Zy,Zz,ZA,ZB,ZC,ZD,ZE,ZF,ZG,ZH,ZI,Ut,Uu,Uv,Ux,Uy,Uz,UA,UB,UC,UD,UE,UF,UG,UI,UJ,UK,UL,UM,UN,UO,UP,UQ,UR,UT,UU,UV,UW,UX,UY,UZ,U0,U1,U2,U4,U5],defers := [] } ((W.drewN k).setCell ⟨g,8 + a,none⟩ (.complex .f64 r7 r14))) :
    (Code.region 15 cxN15 true).wp Tryd.prog Q { tmps := #[.pointer (some ⟨g,0,none⟩),u1,u2,u3,.pointer (some ⟨g,8 + a,none⟩),.complex .f64 s t,u6,u7,u8,u9,Ua,Ul,Uw,UH,US,U3,U6,U7,U8,U9,Ya,Yb,Yc,Yd,Ye,Yf,Yg,Yh,Yi,Yj,Yk,Yl,Ym,Yn,Yo,Yp,Yq,Yr,Ys,Yt,Yu,Yv,Yw,Yx,Yy,Yz,YA,YB,YC,YD,YE,YF,YG,YH,YI,YJ,YK,YL,YM,YN,YO,YP,YQ,YR,YS,YT,YU,YV,YW,YX,YY,YZ,Y0,Y1,Y2,Y3,Y4,Y5,Y6,Y7,Y8,Y9,Za,Zb,Zc,Zd,Ze,Zf,Zg,Zh,Zi,Zj,Zk,Zl,Zm,Zn,Zo,Zp,Zq,Zr,Ub,Uc,Ud,Ue,Uf,Ug,Uh,Ui,Uj,Uk,Um,Un,Uo,Up,Uq,Ur,Us,Ut,Uu,Uv,Ux,Uy,Uz,UA,UB,UC,UD,UE,UF,UG,UI,UJ,UK,UL,UM,UN,UO,UP,UQ,UR,UT,UU,UV,UW,UX,UY,UZ,U0,U1,U2,U4,U5],defers := [] } W := by
  have pz : ∀ k,(W.drewN k).cell? ⟨g,8 + a,none⟩ = some (.complex .f64 p q) := fun _ => pz
  have fz : ∀ k,(W.drewN k).frozen? ⟨g,8 + a,none⟩ = false := fun _ => fz
  have hds : dstsOf cxN15 = [100,101,102,103,104,105,106,107,108,109,110,111,112,113,114,115,116] := by kernel_rfl
  refine wp_flow (by kernel_rfl) (lookupE [(100,fun zz => zz = .pointer (some ⟨g,8 + a,none⟩)),(101,fun zz => zz = .pointer (some ⟨g,8 + a,none⟩)),(102,fun zz => zz = .pointer (some ⟨g,8 + a,none⟩)),(103,fun zz => zz = .complex .f64 p q),(104,fun zz => zz = .float .f64 p),(105,fun zz => zz = .complex .f64 s t),(106,fun zz => zz = .float .f64 s),(107,fun zz => ∃ r7,FR .sub p s r7 ∧ zz = .float .f64 r7),(108,fun zz => zz = .pointer (some ⟨g,8 + a,none⟩)),(109,fun zz => zz = .pointer (some ⟨g,8 + a,none⟩)),(110,fun zz => zz = .complex .f64 p q),(111,fun zz => zz = .float .f64 q),(112,fun zz => zz = .complex .f64 s t),(113,fun zz => zz = .float .f64 t),(114,fun zz => ∃ r14,FR .sub q t r14 ∧ zz = .float .f64 r14),(115,fun zz => ∃ r7 r14,FR .sub p s r7 ∧ FR .sub q t r14 ∧ zz = .complex .f64 r7 r14),(116,fun zz => zz = .pointer (some ⟨g,8 + a,none⟩))]) (fun w => ∃ k r7 r14,FR .sub p s r7 ∧ FR .sub q t r14 ∧ w = (W.drewN k).setCell ⟨g,8 + a,none⟩ (.complex .f64 r7 r14)) 17 [100,101,102,103,104,105,106,107,108,109,110,111,112,113,114,115,116] hds (by kernel_rfl) (fun i hi act k hk => ?_) (fun act k hk => ?_) (fun xs w hw => ?_)
  · rcases (show i = 0 ∨ i = 1 ∨ i = 2 ∨ i = 3 ∨ i = 4 ∨ i = 5 ∨ i = 6 ∨ i = 7 ∨ i = 8 ∨ i = 9 ∨ i = 10 ∨ i = 11 ∨ i = 12 ∨ i = 13 ∨ i = 14 ∨ i = 15 ∨ i = 16 by omega) with rfl | rfl | rfl | rfl | rfl | rfl | rfl | rfl | rfl | rfl | rfl | rfl | rfl | rfl | rfl | rfl | rfl
    · have e4 := hk.old_ 4 (.pointer (some ⟨g,8 + a,none⟩)) (by rw [hds]; rfl) rfl
      exact FStep.at_ 100 (.pointer (some ⟨g,8 + a,none⟩)) (by kernel_rfl) (by (conv in opOf _ _ => whnf); go_simp) ⟨k,rfl⟩ rfl
    · have e4 := hk.old_ 4 (.pointer (some ⟨g,8 + a,none⟩)) (by rw [hds]; rfl) rfl
      exact FStep.at_ 101 (.pointer (some ⟨g,8 + a,none⟩)) (by kernel_rfl) (by (conv in opOf _ _ => whnf); go_simp) ⟨k,rfl⟩ rfl
    · have e101 := hk.eq 1 101 (.pointer (some ⟨g,8 + a,none⟩)) (by kernel_rfl) fun _ h => h
      exact FStep.at_ 102 (.pointer (some ⟨g,8 + a,none⟩)) (by kernel_rfl) (by (conv in opOf _ _ => whnf); go_simp) ⟨k,rfl⟩ rfl
    · have e102 := hk.eq 2 102 (.pointer (some ⟨g,8 + a,none⟩)) (by kernel_rfl) fun _ h => h
      exact FStep.at_ 103 (.complex .f64 p q) (by kernel_rfl) (by (conv in opOf _ _ => whnf); go_simp) ⟨k,rfl⟩ rfl
    · have e103 := hk.eq 3 103 (.complex .f64 p q) (by kernel_rfl) fun _ h => h
      exact FStep.at_ 104 (.float .f64 p) (by kernel_rfl) (by (conv in opOf _ _ => whnf); go_simp) ⟨k,rfl⟩ rfl
    · have e5 := hk.old_ 5 (.complex .f64 s t) (by rw [hds]; rfl) rfl
      exact FStep.at_ 105 (.complex .f64 s t) (by kernel_rfl) (by (conv in opOf _ _ => whnf); go_simp) ⟨k,rfl⟩ rfl
    · have e105 := hk.eq 5 105 (.complex .f64 s t) (by kernel_rfl) fun _ h => h
      exact FStep.at_ 106 (.float .f64 s) (by kernel_rfl) (by (conv in opOf _ _ => whnf); go_simp) ⟨k,rfl⟩ rfl
    · have e104 := hk.eq 4 104 (.float .f64 p) (by kernel_rfl) fun _ h => h
      have e106 := hk.eq 6 106 (.float .f64 s) (by kernel_rfl) fun _ h => h
      obtain ⟨k2,hk2⟩ := fwld_drewN .sub p s (W.drewN k)
      have hf := run_fop (P := Tryd.prog) (W.drewN k) .sub (by simp) 146 p s
      exact FStep.at_ (w' := fwld .sub p s (W.drewN k)) 107 (.float .f64 (fres .sub p s (W.drewN k))) (by kernel_rfl) (by (conv in opOf _ _ => whnf); go_simp) ⟨k + k2,by rw [hk2,World.drewN_drewN]⟩ ⟨_,fres_FR _ _ _ _,rfl⟩
    · have e4 := hk.old_ 4 (.pointer (some ⟨g,8 + a,none⟩)) (by rw [hds]; rfl) rfl
      exact FStep.at_ 108 (.pointer (some ⟨g,8 + a,none⟩)) (by kernel_rfl) (by (conv in opOf _ _ => whnf); go_simp) ⟨k,rfl⟩ rfl
    · have e108 := hk.eq 8 108 (.pointer (some ⟨g,8 + a,none⟩)) (by kernel_rfl) fun _ h => h
      exact FStep.at_ 109 (.pointer (some ⟨g,8 + a,none⟩)) (by kernel_rfl) (by (conv in opOf _ _ => whnf); go_simp) ⟨k,rfl⟩ rfl
    · have e109 := hk.eq 9 109 (.pointer (some ⟨g,8 + a,none⟩)) (by kernel_rfl) fun _ h => h
      exact FStep.at_ 110 (.complex .f64 p q) (by kernel_rfl) (by (conv in opOf _ _ => whnf); go_simp) ⟨k,rfl⟩ rfl
    · have e110 := hk.eq 10 110 (.complex .f64 p q) (by kernel_rfl) fun _ h => h
      exact FStep.at_ 111 (.float .f64 q) (by kernel_rfl) (by (conv in opOf _ _ => whnf); go_simp) ⟨k,rfl⟩ rfl
    · have e5 := hk.old_ 5 (.complex .f64 s t) (by rw [hds]; rfl) rfl
      exact FStep.at_ 112 (.complex .f64 s t) (by kernel_rfl) (by (conv in opOf _ _ => whnf); go_simp) ⟨k,rfl⟩ rfl
    · have e112 := hk.eq 12 112 (.complex .f64 s t) (by kernel_rfl) fun _ h => h
      exact FStep.at_ 113 (.float .f64 t) (by kernel_rfl) (by (conv in opOf _ _ => whnf); go_simp) ⟨k,rfl⟩ rfl
    · have e111 := hk.eq 11 111 (.float .f64 q) (by kernel_rfl) fun _ h => h
      have e113 := hk.eq 13 113 (.float .f64 t) (by kernel_rfl) fun _ h => h
      obtain ⟨k2,hk2⟩ := fwld_drewN .sub q t (W.drewN k)
      have hf := run_fop (P := Tryd.prog) (W.drewN k) .sub (by simp) 146 q t
      exact FStep.at_ (w' := fwld .sub q t (W.drewN k)) 114 (.float .f64 (fres .sub q t (W.drewN k))) (by kernel_rfl) (by (conv in opOf _ _ => whnf); go_simp) ⟨k + k2,by rw [hk2,World.drewN_drewN]⟩ ⟨_,fres_FR _ _ _ _,rfl⟩
    · obtain ⟨x107,e107,hE107⟩ := hk.ex 7 107 (by kernel_rfl)
      obtain ⟨r7,hp107_0,hE107⟩ : ∃ r7,FR .sub p s r7 ∧ x107 = .float .f64 r7 := hE107
      rw [hE107] at e107
      obtain ⟨x114,e114,hE114⟩ := hk.ex 14 114 (by kernel_rfl)
      obtain ⟨r14,hp114_0,hE114⟩ : ∃ r14,FR .sub q t r14 ∧ x114 = .float .f64 r14 := hE114
      rw [hE114] at e114
      exact FStep.at_ 115 (.complex .f64 r7 r14) (by kernel_rfl) (by (conv in opOf _ _ => whnf); go_simp) ⟨k,rfl⟩ ⟨r7,r14,hp107_0,hp114_0,rfl⟩
    · have e100 := hk.eq 0 100 (.pointer (some ⟨g,8 + a,none⟩)) (by kernel_rfl) fun _ h => h
      exact FStep.at_ 116 (.pointer (some ⟨g,8 + a,none⟩)) (by kernel_rfl) (by (conv in opOf _ _ => whnf); go_simp) ⟨k,rfl⟩ rfl
  · have e116 := hk.eq 16 116 (.pointer (some ⟨g,8 + a,none⟩)) (by kernel_rfl) fun _ h => h
    obtain ⟨x115,e115,hE115⟩ := hk.ex 15 115 (by kernel_rfl)
    obtain ⟨r7,r14,hp115_0,hp115_1,hE115⟩ : ∃ r7 r14,FR .sub p s r7 ∧ FR .sub q t r14 ∧ x115 = .complex .f64 r7 r14 := hE115
    rw [hE115] at e115
    exact FStep.st_ (w' := (W.drewN k).setCell ⟨g,8 + a,none⟩ (.complex .f64 r7 r14)) (by kernel_rfl) (by (conv in opOf _ _ => whnf); go_simp) ⟨k,r7,r14,hp115_0,hp115_1,rfl⟩
  · obtain ⟨k,r7,r14,hp_0,hp_1,rfl⟩ := hw
    simp only [List.foldl_cons,List.foldl_nil,List.setIfInBounds_toArray,List.set_cons_zero,List.set_cons_succ]
    exact hQ _ _ _ _ _ _ _ _ _ _ _ _ _ _ _ _ _ k r7 r14 hp_0 hp_1
set_option maxRecDepth 20000 in
set_option maxHeartbeats 4000000 in
theorem cxn_zsub (op n f : Int) (a b : Nat) (p q s t : Nat) (w : World) (g : Nat) (cells : List Value) (hT : TabIs 0 w) (htg : 0 ≠ g) (hB : Blk w g 119 cells) (ha : a < 4) (hb : b < 4) (hz : cells[8 + a]? = some (.complex .f64 p q)) (hz2 : cells[8 + b]? = some (.complex .f64 s t)) (hnm : opName op = [122,115,117,98]) :
    Calls Tryd.prog 62 #[.pointer (some ⟨g,0,none⟩),.agg #[.int .i64 op,.int .i64 a,.int .i64 b,.int .i32 n,.int .i64 f]] w fun e w' => e = .returned (.tuple #[]) ∧ ∃ re im : Nat,FR .sub p s re ∧ FR .sub q t im ∧ CW w g (cells.set (8 + a) (.complex .f64 re im)) w' := by
  have hg := hB.lt
  have Hn := Lib.hid (fun w hT => hnm ▸ cname_any op w hT)
  have HB := Lib.hid hB
  have hA : (a : Int) < 4 := by omega
  have Hz := Lib.hid hz
  have Hz2 := Lib.hid hz2
  have hBm : ((b : Int).tmod 4) = (b : Int) := by rw [Int.tmod_eq_emod_of_nonneg (by omega)]; omega
  have hBb : (b : Int) < 4 := by omega
  clear hB hz hz2
  go_enter Tryd.func62,Tryd.ntmps62
  go_wp2_with fail
  go_quiet (fail)
  go_wp2_with (first
    | (go_at_call 82; refine (Hn.out _ ((hT.alloc _).drewN nq)).mono ?_; rintro e w2 ⟨rfl,hb2⟩)
    | fail)
  have hI2 : Blk w2 w.heap.size 25 [.int .i64 op,.int .i64 a,.int .i64 b,.int .i32 n,.int .i64 f] := ((Blk.new w 25 _).drewN nq).below hb2 (by simp)
  have hC2 := (((CW.start HB.out).alloc _).drewN nq).below hb2
  have i0 := hI2.cell 0
  have i2 := hI2.cell 2
  simp only [List.getElem?_cons_zero,List.getElem?_cons_succ] at i0 i2
  have c2 := (hC2.blk.cell (8 + b)).trans Hz2.out
  have hz2' := hC2.blk.lt
  go_quiet (fail)
  go_wp2_with (first
    | (go_at_call 82; refine (Hn.out _ ((hC2.tab hT htg).drewN _)).mono ?_; rintro e w3 ⟨rfl,hb3⟩)
    | fail)
  have hC3 := (hC2.drewN _).below hb3
  refine wp_region_swap (ops' := cxN15) (by kernel_rfl) (cxn_r15 g a p q s t _ _ _ _ _ _ _ _ _ _ _ _ _ _ _ _ _ _ _ _ _ _ _ _ _ _ _ _ _ _ _ _ _ _ _ _ _ _ _ _ _ _ _ _ _ _ _ _ _ _ _ _ _ _ _ _ _ _ _ _ _ _ _ _ _ _ _ _ _ _ _ _ _ _ _ _ _ _ _ _ _ _ _ _ _ _ _ _ _ _ _ _ _ _ _ _ _ _ _ _ _ _ _ _ _ _ _ _ _ _ _ _ _ _ _ _ _ _ _ _ _ _ _ _ _ _ _ _ _ _ _ _ _ _ _ _ _ _ _ _ _ _ _ _ _ _ _ _ _ _ _ ha ((hC3.blk.cell (8 + a)).trans Hz.out) (hC3.blk.free _) ?_)
  intro Zs Zt Zu Zv Zw Zx Zy Zz ZA ZB ZC ZD ZE ZF ZG ZH ZI kd re im h0 h1
  go_wp2_with fail
  (try simp only [Exit.inBlock,Exit.then])
  first
    | (refine bodyPost_end (results_none rfl _ _ _) rfl ⟨rfl,re,im,h0,h1,?_⟩; exact (hC3.drewN kd).setReg _ _)
    | (refine bodyPost_ret (results_none rfl _ _ _) rfl ⟨rfl,re,im,h0,h1,?_⟩; exact (hC3.drewN kd).setReg _ _)
noncomputable def cxN17 : Array Oper := regOf Tryd.f62.body 17
attribute [local go_sem] run_store_complex in
set_option maxRecDepth 100000 in
set_option maxHeartbeats 2000000 in
theorem cxn_r17 (g a : Nat) (p q s t : Nat) (u1 u2 u3 u6 u7 u8 u9 Ua Ul Uw UH US U3 U6 U7 U8 U9 Ya Yb Yc Yd Ye Yf Yg Yh Yi Yj Yk Yl Ym Yn Yo Yp Yq Yr Ys Yt Yu Yv Yw Yx Yy Yz YA YB YC YD YE YF YG YH YI YJ YK YL YM YN YO YP YQ YR YS YT YU YV YW YX YY YZ Y0 Y1 Y2 Y3 Y4 Y5 Y6 Y7 Y8 Y9 Za Zb Zc Zd Ze Zf Zg Zh Zi Zj Zk Zl Zm Zn Zo Zp Zq Zr Ub Uc Ud Ue Uf Ug Uh Ui Uj Uk Um Un Uo Up Uq Ur Us Ut Uu Uv Ux Uy Uz UA UB UC UD UE UF UG UI UJ UK UL UM UN UO UP UQ UR UT UU UV UW UX UY UZ U0 U1 U2 U4 U5 : Value) (W : World) (Q : Exit → Act → World → Prop) (ha : a < 4) (pz : W.cell? ⟨g,8 + a,none⟩ = some (.complex .f64 p q)) (fz : W.frozen? ⟨g,8 + a,none⟩ = false)
    (hQ : ∀ (ZJ ZK ZL ZM ZN ZO ZP ZQ ZR ZS ZT ZU ZV ZW ZX ZY ZZ Z0 Z1 Z2 Z3 Z4 Z5 Z6 Z7 Z8 Z9 Ja Jb Jc Jd Je Jf : Value) (k r7 r14 r15 r22 r29 r30 : Nat),FR .mul p s r7 → FR .mul q t r14 → FR .sub r7 r14 r15 → FR .mul p t r22 → FR .mul q s r29 → FR .add r22 r29 r30 → Q .normal { tmps := #[.pointer (some ⟨g,0,none⟩),u1,u2,u3,.pointer (some ⟨g,8 + a,none⟩),.complex .f64 s t,u6,u7,u8,u9,Ua,Ul,Uw,UH,US,U3,U6,U7,U8,U9,Ya,Yb,Yc,Yd,Ye,Yf,Yg,Yh,Yi,Yj,Yk,Yl,Ym,Yn,Yo,Yp,Yq,Yr,Ys,Yt,Yu,Yv,Yw,Yx,Yy,Yz,YA,YB,YC,YD,YE,YF,YG,YH,YI,YJ,YK,YL,YM,YN,YO,YP,YQ,YR,YS,YT,YU,YV,YW,YX,YY,YZ,Y0,Y1,Y2,Y3,Y4,Y5,Y6,Y7,Y8,Y9,Za,Zb,Zc,Zd,Ze,Zf,Zg,Zh,Zi,Zj,Zk,Zl,Zm,Zn,Zo,Zp,Zq,Zr,Ub,Uc,Ud,Ue,Uf,Ug,Uh,Ui,Uj,Uk,Um,Un,Uo,Up,Uq,Ur,Us,Ut,Uu,ZJ,ZK,ZL,ZM,ZN,ZO,ZP,ZQ,ZR,ZS,ZT,ZU,ZV,ZW,ZX,ZY,ZZ,Z0,Z1,Z2,Z3,Z4,Z5,Z6,Z7,Z8,Z9,Ja,Jb,Jc,Jd,Je,Jf],defers := [] } ((W.drewN k).setCell ⟨g,8 + a,none⟩ (.complex .f64 r15 r30))) :
    (Code.region 17 cxN17 true).wp Tryd.prog Q { tmps := #[.pointer (some ⟨g,0,none⟩),u1,u2,u3,.pointer (some ⟨g,8 + a,none⟩),.complex .f64 s t,u6,u7,u8,u9,Ua,Ul,Uw,UH,US,U3,U6,U7,U8,U9,Ya,Yb,Yc,Yd,Ye,Yf,Yg,Yh,Yi,Yj,Yk,Yl,Ym,Yn,Yo,Yp,Yq,Yr,Ys,Yt,Yu,Yv,Yw,Yx,Yy,Yz,YA,YB,YC,YD,YE,YF,YG,YH,YI,YJ,YK,YL,YM,YN,YO,YP,YQ,YR,YS,YT,YU,YV,YW,YX,YY,YZ,Y0,Y1,Y2,Y3,Y4,Y5,Y6,Y7,Y8,Y9,Za,Zb,Zc,Zd,Ze,Zf,Zg,Zh,Zi,Zj,Zk,Zl,Zm,Zn,Zo,Zp,Zq,Zr,Ub,Uc,Ud,Ue,Uf,Ug,Uh,Ui,Uj,Uk,Um,Un,Uo,Up,Uq,Ur,Us,Ut,Uu,Uv,Ux,Uy,Uz,UA,UB,UC,UD,UE,UF,UG,UI,UJ,UK,UL,UM,UN,UO,UP,UQ,UR,UT,UU,UV,UW,UX,UY,UZ,U0,U1,U2,U4,U5],defers := [] } W := by
  have pz : ∀ k,(W.drewN k).cell? ⟨g,8 + a,none⟩ = some (.complex .f64 p q) := fun _ => pz
  have fz : ∀ k,(W.drewN k).frozen? ⟨g,8 + a,none⟩ = false := fun _ => fz
  have hds : dstsOf cxN17 = [119,120,121,122,123,124,125,126,127,128,129,130,131,132,133,134,135,136,137,138,139,140,141,142,143,144,145,146,147,148,149,150,151] := by kernel_rfl
  refine wp_flow (by kernel_rfl) (lookupE [(119,fun zz => zz = .pointer (some ⟨g,8 + a,none⟩)),(120,fun zz => zz = .pointer (some ⟨g,8 + a,none⟩)),(121,fun zz => zz = .pointer (some ⟨g,8 + a,none⟩)),(122,fun zz => zz = .complex .f64 p q),(123,fun zz => zz = .float .f64 p),(124,fun zz => zz = .complex .f64 s t),(125,fun zz => zz = .float .f64 s),(126,fun zz => ∃ r7,FR .mul p s r7 ∧ zz = .float .f64 r7),(127,fun zz => zz = .pointer (some ⟨g,8 + a,none⟩)),(128,fun zz => zz = .pointer (some ⟨g,8 + a,none⟩)),(129,fun zz => zz = .complex .f64 p q),(130,fun zz => zz = .float .f64 q),(131,fun zz => zz = .complex .f64 s t),(132,fun zz => zz = .float .f64 t),(133,fun zz => ∃ r14,FR .mul q t r14 ∧ zz = .float .f64 r14),(134,fun zz => ∃ r7 r14 r15,FR .mul p s r7 ∧ FR .mul q t r14 ∧ FR .sub r7 r14 r15 ∧ zz = .float .f64 r15),(135,fun zz => zz = .pointer (some ⟨g,8 + a,none⟩)),(136,fun zz => zz = .pointer (some ⟨g,8 + a,none⟩)),(137,fun zz => zz = .complex .f64 p q),(138,fun zz => zz = .float .f64 p),(139,fun zz => zz = .complex .f64 s t),(140,fun zz => zz = .float .f64 t),(141,fun zz => ∃ r22,FR .mul p t r22 ∧ zz = .float .f64 r22),(142,fun zz => zz = .pointer (some ⟨g,8 + a,none⟩)),(143,fun zz => zz = .pointer (some ⟨g,8 + a,none⟩)),(144,fun zz => zz = .complex .f64 p q),(145,fun zz => zz = .float .f64 q),(146,fun zz => zz = .complex .f64 s t),(147,fun zz => zz = .float .f64 s),(148,fun zz => ∃ r29,FR .mul q s r29 ∧ zz = .float .f64 r29),(149,fun zz => ∃ r22 r29 r30,FR .mul p t r22 ∧ FR .mul q s r29 ∧ FR .add r22 r29 r30 ∧ zz = .float .f64 r30),(150,fun zz => ∃ r7 r14 r15 r22 r29 r30,FR .mul p s r7 ∧ FR .mul q t r14 ∧ FR .sub r7 r14 r15 ∧ FR .mul p t r22 ∧ FR .mul q s r29 ∧ FR .add r22 r29 r30 ∧ zz = .complex .f64 r15 r30),(151,fun zz => zz = .pointer (some ⟨g,8 + a,none⟩))]) (fun w => ∃ k r7 r14 r15 r22 r29 r30,FR .mul p s r7 ∧ FR .mul q t r14 ∧ FR .sub r7 r14 r15 ∧ FR .mul p t r22 ∧ FR .mul q s r29 ∧ FR .add r22 r29 r30 ∧ w = (W.drewN k).setCell ⟨g,8 + a,none⟩ (.complex .f64 r15 r30)) 33 [119,120,121,122,123,124,125,126,127,128,129,130,131,132,133,134,135,136,137,138,139,140,141,142,143,144,145,146,147,148,149,150,151] hds (by kernel_rfl) (fun i hi act k hk => ?_) (fun act k hk => ?_) (fun xs w hw => ?_)
  · rcases (show i = 0 ∨ i = 1 ∨ i = 2 ∨ i = 3 ∨ i = 4 ∨ i = 5 ∨ i = 6 ∨ i = 7 ∨ i = 8 ∨ i = 9 ∨ i = 10 ∨ i = 11 ∨ i = 12 ∨ i = 13 ∨ i = 14 ∨ i = 15 ∨ i = 16 ∨ i = 17 ∨ i = 18 ∨ i = 19 ∨ i = 20 ∨ i = 21 ∨ i = 22 ∨ i = 23 ∨ i = 24 ∨ i = 25 ∨ i = 26 ∨ i = 27 ∨ i = 28 ∨ i = 29 ∨ i = 30 ∨ i = 31 ∨ i = 32 by omega) with rfl | rfl | rfl | rfl | rfl | rfl | rfl | rfl | rfl | rfl | rfl | rfl | rfl | rfl | rfl | rfl | rfl | rfl | rfl | rfl | rfl | rfl | rfl | rfl | rfl | rfl | rfl | rfl | rfl | rfl | rfl | rfl | rfl
    · have e4 := hk.old_ 4 (.pointer (some ⟨g,8 + a,none⟩)) (by rw [hds]; rfl) rfl
      exact FStep.at_ 119 (.pointer (some ⟨g,8 + a,none⟩)) (by kernel_rfl) (by (conv in opOf _ _ => whnf); go_simp) ⟨k,rfl⟩ rfl
    · have e4 := hk.old_ 4 (.pointer (some ⟨g,8 + a,none⟩)) (by rw [hds]; rfl) rfl
      exact FStep.at_ 120 (.pointer (some ⟨g,8 + a,none⟩)) (by kernel_rfl) (by (conv in opOf _ _ => whnf); go_simp) ⟨k,rfl⟩ rfl
    · have e120 := hk.eq 1 120 (.pointer (some ⟨g,8 + a,none⟩)) (by kernel_rfl) fun _ h => h
      exact FStep.at_ 121 (.pointer (some ⟨g,8 + a,none⟩)) (by kernel_rfl) (by (conv in opOf _ _ => whnf); go_simp) ⟨k,rfl⟩ rfl
    · have e121 := hk.eq 2 121 (.pointer (some ⟨g,8 + a,none⟩)) (by kernel_rfl) fun _ h => h
      exact FStep.at_ 122 (.complex .f64 p q) (by kernel_rfl) (by (conv in opOf _ _ => whnf); go_simp) ⟨k,rfl⟩ rfl
    · have e122 := hk.eq 3 122 (.complex .f64 p q) (by kernel_rfl) fun _ h => h
      exact FStep.at_ 123 (.float .f64 p) (by kernel_rfl) (by (conv in opOf _ _ => whnf); go_simp) ⟨k,rfl⟩ rfl
    · have e5 := hk.old_ 5 (.complex .f64 s t) (by rw [hds]; rfl) rfl
      exact FStep.at_ 124 (.complex .f64 s t) (by kernel_rfl) (by (conv in opOf _ _ => whnf); go_simp) ⟨k,rfl⟩ rfl
    · have e124 := hk.eq 5 124 (.complex .f64 s t) (by kernel_rfl) fun _ h => h
      exact FStep.at_ 125 (.float .f64 s) (by kernel_rfl) (by (conv in opOf _ _ => whnf); go_simp) ⟨k,rfl⟩ rfl
    · have e123 := hk.eq 4 123 (.float .f64 p) (by kernel_rfl) fun _ h => h
      have e125 := hk.eq 6 125 (.float .f64 s) (by kernel_rfl) fun _ h => h
      obtain ⟨k2,hk2⟩ := fwld_drewN .mul p s (W.drewN k)
      have hf := run_fop (P := Tryd.prog) (W.drewN k) .mul (by simp) 146 p s
      exact FStep.at_ (w' := fwld .mul p s (W.drewN k)) 126 (.float .f64 (fres .mul p s (W.drewN k))) (by kernel_rfl) (by (conv in opOf _ _ => whnf); go_simp) ⟨k + k2,by rw [hk2,World.drewN_drewN]⟩ ⟨_,fres_FR _ _ _ _,rfl⟩
    · have e4 := hk.old_ 4 (.pointer (some ⟨g,8 + a,none⟩)) (by rw [hds]; rfl) rfl
      exact FStep.at_ 127 (.pointer (some ⟨g,8 + a,none⟩)) (by kernel_rfl) (by (conv in opOf _ _ => whnf); go_simp) ⟨k,rfl⟩ rfl
    · have e127 := hk.eq 8 127 (.pointer (some ⟨g,8 + a,none⟩)) (by kernel_rfl) fun _ h => h
      exact FStep.at_ 128 (.pointer (some ⟨g,8 + a,none⟩)) (by kernel_rfl) (by (conv in opOf _ _ => whnf); go_simp) ⟨k,rfl⟩ rfl
    · have e128 := hk.eq 9 128 (.pointer (some ⟨g,8 + a,none⟩)) (by kernel_rfl) fun _ h => h
      exact FStep.at_ 129 (.complex .f64 p q) (by kernel_rfl) (by (conv in opOf _ _ => whnf); go_simp) ⟨k,rfl⟩ rfl
    · have e129 := hk.eq 10 129 (.complex .f64 p q) (by kernel_rfl) fun _ h => h
      exact FStep.at_ 130 (.float .f64 q) (by kernel_rfl) (by (conv in opOf _ _ => whnf); go_simp) ⟨k,rfl⟩ rfl
    · have e5 := hk.old_ 5 (.complex .f64 s t) (by rw [hds]; rfl) rfl
      exact FStep.at_ 131 (.complex .f64 s t) (by kernel_rfl) (by (conv in opOf _ _ => whnf); go_simp) ⟨k,rfl⟩ rfl
    · have e131 := hk.eq 12 131 (.complex .f64 s t) (by kernel_rfl) fun _ h => h
      exact FStep.at_ 132 (.float .f64 t) (by kernel_rfl) (by (conv in opOf _ _ => whnf); go_simp) ⟨k,rfl⟩ rfl
    · have e130 := hk.eq 11 130 (.float .f64 q) (by kernel_rfl) fun _ h => h
      have e132 := hk.eq 13 132 (.float .f64 t) (by kernel_rfl) fun _ h => h
      obtain ⟨k2,hk2⟩ := fwld_drewN .mul q t (W.drewN k)
      have hf := run_fop (P := Tryd.prog) (W.drewN k) .mul (by simp) 146 q t
      exact FStep.at_ (w' := fwld .mul q t (W.drewN k)) 133 (.float .f64 (fres .mul q t (W.drewN k))) (by kernel_rfl) (by (conv in opOf _ _ => whnf); go_simp) ⟨k + k2,by rw [hk2,World.drewN_drewN]⟩ ⟨_,fres_FR _ _ _ _,rfl⟩
    · obtain ⟨x126,e126,hE126⟩ := hk.ex 7 126 (by kernel_rfl)
      obtain ⟨r7,hp126_0,hE126⟩ : ∃ r7,FR .mul p s r7 ∧ x126 = .float .f64 r7 := hE126
      rw [hE126] at e126
      obtain ⟨x133,e133,hE133⟩ := hk.ex 14 133 (by kernel_rfl)
      obtain ⟨r14,hp133_0,hE133⟩ : ∃ r14,FR .mul q t r14 ∧ x133 = .float .f64 r14 := hE133
      rw [hE133] at e133
      obtain ⟨k2,hk2⟩ := fwld_drewN .sub r7 r14 (W.drewN k)
      have hf := run_fop (P := Tryd.prog) (W.drewN k) .sub (by simp) 146 r7 r14
      exact FStep.at_ (w' := fwld .sub r7 r14 (W.drewN k)) 134 (.float .f64 (fres .sub r7 r14 (W.drewN k))) (by kernel_rfl) (by (conv in opOf _ _ => whnf); go_simp) ⟨k + k2,by rw [hk2,World.drewN_drewN]⟩ ⟨r7,r14,_,hp126_0,hp133_0,fres_FR _ _ _ _,rfl⟩
    · have e4 := hk.old_ 4 (.pointer (some ⟨g,8 + a,none⟩)) (by rw [hds]; rfl) rfl
      exact FStep.at_ 135 (.pointer (some ⟨g,8 + a,none⟩)) (by kernel_rfl) (by (conv in opOf _ _ => whnf); go_simp) ⟨k,rfl⟩ rfl
    · have e135 := hk.eq 16 135 (.pointer (some ⟨g,8 + a,none⟩)) (by kernel_rfl) fun _ h => h
      exact FStep.at_ 136 (.pointer (some ⟨g,8 + a,none⟩)) (by kernel_rfl) (by (conv in opOf _ _ => whnf); go_simp) ⟨k,rfl⟩ rfl
    · have e136 := hk.eq 17 136 (.pointer (some ⟨g,8 + a,none⟩)) (by kernel_rfl) fun _ h => h
      exact FStep.at_ 137 (.complex .f64 p q) (by kernel_rfl) (by (conv in opOf _ _ => whnf); go_simp) ⟨k,rfl⟩ rfl
    · have e137 := hk.eq 18 137 (.complex .f64 p q) (by kernel_rfl) fun _ h => h
      exact FStep.at_ 138 (.float .f64 p) (by kernel_rfl) (by (conv in opOf _ _ => whnf); go_simp) ⟨k,rfl⟩ rfl
    · have e5 := hk.old_ 5 (.complex .f64 s t) (by rw [hds]; rfl) rfl
      exact FStep.at_ 139 (.complex .f64 s t) (by kernel_rfl) (by (conv in opOf _ _ => whnf); go_simp) ⟨k,rfl⟩ rfl
    · have e139 := hk.eq 20 139 (.complex .f64 s t) (by kernel_rfl) fun _ h => h
      exact FStep.at_ 140 (.float .f64 t) (by kernel_rfl) (by (conv in opOf _ _ => whnf); go_simp) ⟨k,rfl⟩ rfl
    · have e138 := hk.eq 19 138 (.float .f64 p) (by kernel_rfl) fun _ h => h
      have e140 := hk.eq 21 140 (.float .f64 t) (by kernel_rfl) fun _ h => h
      obtain ⟨k2,hk2⟩ := fwld_drewN .mul p t (W.drewN k)
      have hf := run_fop (P := Tryd.prog) (W.drewN k) .mul (by simp) 146 p t
      exact FStep.at_ (w' := fwld .mul p t (W.drewN k)) 141 (.float .f64 (fres .mul p t (W.drewN k))) (by kernel_rfl) (by (conv in opOf _ _ => whnf); go_simp) ⟨k + k2,by rw [hk2,World.drewN_drewN]⟩ ⟨_,fres_FR _ _ _ _,rfl⟩
    · have e4 := hk.old_ 4 (.pointer (some ⟨g,8 + a,none⟩)) (by rw [hds]; rfl) rfl
      exact FStep.at_ 142 (.pointer (some ⟨g,8 + a,none⟩)) (by kernel_rfl) (by (conv in opOf _ _ => whnf); go_simp) ⟨k,rfl⟩ rfl
    · have e142 := hk.eq 23 142 (.pointer (some ⟨g,8 + a,none⟩)) (by kernel_rfl) fun _ h => h
      exact FStep.at_ 143 (.pointer (some ⟨g,8 + a,none⟩)) (by kernel_rfl) (by (conv in opOf _ _ => whnf); go_simp) ⟨k,rfl⟩ rfl
    · have e143 := hk.eq 24 143 (.pointer (some ⟨g,8 + a,none⟩)) (by kernel_rfl) fun _ h => h
      exact FStep.at_ 144 (.complex .f64 p q) (by kernel_rfl) (by (conv in opOf _ _ => whnf); go_simp) ⟨k,rfl⟩ rfl
    · have e144 := hk.eq 25 144 (.complex .f64 p q) (by kernel_rfl) fun _ h => h
      exact FStep.at_ 145 (.float .f64 q) (by kernel_rfl) (by (conv in opOf _ _ => whnf); go_simp) ⟨k,rfl⟩ rfl
    · have e5 := hk.old_ 5 (.complex .f64 s t) (by rw [hds]; rfl) rfl
      exact FStep.at_ 146 (.complex .f64 s t) (by kernel_rfl) (by (conv in opOf _ _ => whnf); go_simp) ⟨k,rfl⟩ rfl
    · have e146 := hk.eq 27 146 (.complex .f64 s t) (by kernel_rfl) fun _ h => h
      exact FStep.at_ 147 (.float .f64 s) (by kernel_rfl) (by (conv in opOf _ _ => whnf); go_simp) ⟨k,rfl⟩ rfl
    · have e145 := hk.eq 26 145 (.float .f64 q) (by kernel_rfl) fun _ h => h
      have e147 := hk.eq 28 147 (.float .f64 s) (by kernel_rfl) fun _ h => h
      obtain ⟨k2,hk2⟩ := fwld_drewN .mul q s (W.drewN k)
      have hf := run_fop (P := Tryd.prog) (W.drewN k) .mul (by simp) 146 q s
      exact FStep.at_ (w' := fwld .mul q s (W.drewN k)) 148 (.float .f64 (fres .mul q s (W.drewN k))) (by kernel_rfl) (by (conv in opOf _ _ => whnf); go_simp) ⟨k + k2,by rw [hk2,World.drewN_drewN]⟩ ⟨_,fres_FR _ _ _ _,rfl⟩
    · obtain ⟨x141,e141,hE141⟩ := hk.ex 22 141 (by kernel_rfl)
      obtain ⟨r22,hp141_0,hE141⟩ : ∃ r22,FR .mul p t r22 ∧ x141 = .float .f64 r22 := hE141
      rw [hE141] at e141
      obtain ⟨x148,e148,hE148⟩ := hk.ex 29 148 (by kernel_rfl)
      obtain ⟨r29,hp148_0,hE148⟩ : ∃ r29,FR .mul q s r29 ∧ x148 = .float .f64 r29 := hE148
      rw [hE148] at e148
      obtain ⟨k2,hk2⟩ := fwld_drewN .add r22 r29 (W.drewN k)
      have hf := run_fop (P := Tryd.prog) (W.drewN k) .add (by simp) 146 r22 r29
      exact FStep.at_ (w' := fwld .add r22 r29 (W.drewN k)) 149 (.float .f64 (fres .add r22 r29 (W.drewN k))) (by kernel_rfl) (by (conv in opOf _ _ => whnf); go_simp) ⟨k + k2,by rw [hk2,World.drewN_drewN]⟩ ⟨r22,r29,_,hp141_0,hp148_0,fres_FR _ _ _ _,rfl⟩
    · obtain ⟨x134,e134,hE134⟩ := hk.ex 15 134 (by kernel_rfl)
      obtain ⟨r7,r14,r15,hp134_0,hp134_1,hp134_2,hE134⟩ : ∃ r7 r14 r15,FR .mul p s r7 ∧ FR .mul q t r14 ∧ FR .sub r7 r14 r15 ∧ x134 = .float .f64 r15 := hE134
      rw [hE134] at e134
      obtain ⟨x149,e149,hE149⟩ := hk.ex 30 149 (by kernel_rfl)
      obtain ⟨r22,r29,r30,hp149_0,hp149_1,hp149_2,hE149⟩ : ∃ r22 r29 r30,FR .mul p t r22 ∧ FR .mul q s r29 ∧ FR .add r22 r29 r30 ∧ x149 = .float .f64 r30 := hE149
      rw [hE149] at e149
      exact FStep.at_ 150 (.complex .f64 r15 r30) (by kernel_rfl) (by (conv in opOf _ _ => whnf); go_simp) ⟨k,rfl⟩ ⟨r7,r14,r15,r22,r29,r30,hp134_0,hp134_1,hp134_2,hp149_0,hp149_1,hp149_2,rfl⟩
    · have e119 := hk.eq 0 119 (.pointer (some ⟨g,8 + a,none⟩)) (by kernel_rfl) fun _ h => h
      exact FStep.at_ 151 (.pointer (some ⟨g,8 + a,none⟩)) (by kernel_rfl) (by (conv in opOf _ _ => whnf); go_simp) ⟨k,rfl⟩ rfl
  · have e151 := hk.eq 32 151 (.pointer (some ⟨g,8 + a,none⟩)) (by kernel_rfl) fun _ h => h
    obtain ⟨x150,e150,hE150⟩ := hk.ex 31 150 (by kernel_rfl)
    obtain ⟨r7,r14,r15,r22,r29,r30,hp150_0,hp150_1,hp150_2,hp150_3,hp150_4,hp150_5,hE150⟩ : ∃ r7 r14 r15 r22 r29 r30,FR .mul p s r7 ∧ FR .mul q t r14 ∧ FR .sub r7 r14 r15 ∧ FR .mul p t r22 ∧ FR .mul q s r29 ∧ FR .add r22 r29 r30 ∧ x150 = .complex .f64 r15 r30 := hE150
    rw [hE150] at e150
    exact FStep.st_ (w' := (W.drewN k).setCell ⟨g,8 + a,none⟩ (.complex .f64 r15 r30)) (by kernel_rfl) (by (conv in opOf _ _ => whnf); go_simp) ⟨k,r7,r14,r15,r22,r29,r30,hp150_0,hp150_1,hp150_2,hp150_3,hp150_4,hp150_5,rfl⟩
  · obtain ⟨k,r7,r14,r15,r22,r29,r30,hp_0,hp_1,hp_2,hp_3,hp_4,hp_5,rfl⟩ := hw
    simp only [List.foldl_cons,List.foldl_nil,List.setIfInBounds_toArray,List.set_cons_zero,List.set_cons_succ]
    exact hQ _ _ _ _ _ _ _ _ _ _ _ _ _ _ _ _ _ _ _ _ _ _ _ _ _ _ _ _ _ _ _ _ _ k r7 r14 r15 r22 r29 r30 hp_0 hp_1 hp_2 hp_3 hp_4 hp_5
set_option maxRecDepth 20000 in
set_option maxHeartbeats 4000000 in
theorem cxn_zmul (op n f : Int) (a b : Nat) (p q s t : Nat) (w : World) (g : Nat) (cells : List Value) (hT : TabIs 0 w) (htg : 0 ≠ g) (hB : Blk w g 119 cells) (ha : a < 4) (hb : b < 4) (hz : cells[8 + a]? = some (.complex .f64 p q)) (hz2 : cells[8 + b]? = some (.complex .f64 s t)) (hnm : opName op = [122,109,117,108]) :
    Calls Tryd.prog 62 #[.pointer (some ⟨g,0,none⟩),.agg #[.int .i64 op,.int .i64 a,.int .i64 b,.int .i32 n,.int .i64 f]] w fun e w' => e = .returned (.tuple #[]) ∧ ∃ ps qt re pt qs im : Nat,FR .mul p s ps ∧ FR .mul q t qt ∧ FR .sub ps qt re ∧ FR .mul p t pt ∧ FR .mul q s qs ∧ FR .add pt qs im ∧ CW w g (cells.set (8 + a) (.complex .f64 re im)) w' := by
  have hg := hB.lt
  have Hn := Lib.hid (fun w hT => hnm ▸ cname_any op w hT)
  have HB := Lib.hid hB
  have hA : (a : Int) < 4 := by omega
  have Hz := Lib.hid hz
  have Hz2 := Lib.hid hz2
  have hBm : ((b : Int).tmod 4) = (b : Int) := by rw [Int.tmod_eq_emod_of_nonneg (by omega)]; omega
  have hBb : (b : Int) < 4 := by omega
  clear hB hz hz2
  go_enter Tryd.func62,Tryd.ntmps62
  go_wp2_with fail
  go_quiet (fail)
  go_wp2_with (first
    | (go_at_call 82; refine (Hn.out _ ((hT.alloc _).drewN nq)).mono ?_; rintro e w2 ⟨rfl,hb2⟩)
    | fail)
  have hI2 : Blk w2 w.heap.size 25 [.int .i64 op,.int .i64 a,.int .i64 b,.int .i32 n,.int .i64 f] := ((Blk.new w 25 _).drewN nq).below hb2 (by simp)
  have hC2 := (((CW.start HB.out).alloc _).drewN nq).below hb2
  have i0 := hI2.cell 0
  have i2 := hI2.cell 2
  simp only [List.getElem?_cons_zero,List.getElem?_cons_succ] at i0 i2
  have c2 := (hC2.blk.cell (8 + b)).trans Hz2.out
  have hz2' := hC2.blk.lt
  go_quiet (fail)
  go_wp2_with (first
    | (go_at_call 82; refine (Hn.out _ ((hC2.tab hT htg).drewN _)).mono ?_; rintro e w3 ⟨rfl,hb3⟩)
    | fail)
  have hC3 := (hC2.drewN _).below hb3
  refine wp_region_swap (ops' := cxN17) (by kernel_rfl) (cxn_r17 g a p q s t _ _ _ _ _ _ _ _ _ _ _ _ _ _ _ _ _ _ _ _ _ _ _ _ _ _ _ _ _ _ _ _ _ _ _ _ _ _ _ _ _ _ _ _ _ _ _ _ _ _ _ _ _ _ _ _ _ _ _ _ _ _ _ _ _ _ _ _ _ _ _ _ _ _ _ _ _ _ _ _ _ _ _ _ _ _ _ _ _ _ _ _ _ _ _ _ _ _ _ _ _ _ _ _ _ _ _ _ _ _ _ _ _ _ _ _ _ _ _ _ _ _ _ _ _ _ _ _ _ _ _ _ _ _ _ _ _ _ _ _ _ _ _ _ _ _ _ _ _ _ _ ha ((hC3.blk.cell (8 + a)).trans Hz.out) (hC3.blk.free _) ?_)
  intro ZJ ZK ZL ZM ZN ZO ZP ZQ ZR ZS ZT ZU ZV ZW ZX ZY ZZ Z0 Z1 Z2 Z3 Z4 Z5 Z6 Z7 Z8 Z9 Ja Jb Jc Jd Je Jf kd ps qt re pt qs im h0 h1 h2 h3 h4 h5
  go_wp2_with fail
  (try simp only [Exit.inBlock,Exit.then])
  first
    | (refine bodyPost_end (results_none rfl _ _ _) rfl ⟨rfl,ps,qt,re,pt,qs,im,h0,h1,h2,h3,h4,h5,?_⟩; exact (hC3.drewN kd).setReg _ _)
    | (refine bodyPost_ret (results_none rfl _ _ _) rfl ⟨rfl,ps,qt,re,pt,qs,im,h0,h1,h2,h3,h4,h5,?_⟩; exact (hC3.drewN kd).setReg _ _)
set_option maxRecDepth 20000 in
set_option maxHeartbeats 2000000 in
theorem do_cplx5G (op f n word from_ : Int) (a b : Int) (M : Value)  (w : World) (g : Nat) (cells : List Value) (G : List Value → Prop) (hT : TabIs 0 w) (htg : 0 ≠ g) (hB : Blk w g 119 cells) (hn : -2147483648 ≤ n ∧ n ≤ 2147483647) (hc : checkR op a b n f = 0) (hs : opShape op = 5)
    (H : Hid (∀ W,TabIs 0 W → Blk W g 119 cells → Calls Tryd.prog 62 #[.pointer (some ⟨g,0,none⟩),.agg #[.int .i64 op,.int .i64 a,.int .i64 b,.int .i32 n,.int .i64 f]] W fun e w' => e = .returned (.tuple #[]) ∧ ∃ cells',G cells' ∧ CW W g cells' w')) :
    Calls Tryd.prog 26 #[.pointer (some ⟨g,0,none⟩),.agg #[.int .i64 op,.int .i64 a,.int .i64 b,.int .i32 n,.int .i64 f],.int .i32 word,M,.int .i64 from_] w fun e w' => e = .returned (.agg #[.int .i64 0,.int .i64 0,.int .u32 0]) ∧ ∃ cells',G cells' ∧ CW w g cells' w' := by
  have hg := hB.lt
  obtain ⟨hiop,_,_,_⟩ := checkR_parts hc
  have hch : ∀ w,TabIs 0 w → Calls Tryd.prog 46 #[.agg #[.int .i64 op,.int .i64 a,.int .i64 b,.int .i32 n,.int .i64 f]] w fun e w' => e = .returned (.int .i64 0) ∧ Below w.heap.size w w' := fun w hT => hc ▸ check_any op a b n f w hn hT
  have hat : ∀ w,TabIs 0 w → Calls Tryd.prog 54 #[.int .i64 op] w fun e w' => e = .returned (.tuple #[.agg #[.string ⟨(opName op).toArray⟩,.int .u8 (opByte op),.int .i64 5],.bool true]) ∧ Below w.heap.size w w' := fun w hT => hiop ▸ hs ▸ at_any op w hT
  have Hch := Lib.hid hch
  have Hat := Lib.hid hat
  have HB := Lib.hid hB
  have hI0 : Blk ((w.alloc (.cells #[.int .i64 op,.int .i64 a,.int .i64 b,.int .i32 n,.int .i64 f] 25)).alloc (.cells #[.int .i64 0,.int .i64 0,.int .u32 0] 56)) w.heap.size 25 [.int .i64 op,.int .i64 a,.int .i64 b,.int .i32 n,.int .i64 f] := (Blk.new w 25 [.int .i64 op,.int .i64 a,.int .i64 b,.int .i32 n,.int .i64 f]).alloc _
  have hX0 : Blk ((w.alloc (.cells #[.int .i64 op,.int .i64 a,.int .i64 b,.int .i32 n,.int .i64 f] 25)).alloc (.cells #[.int .i64 0,.int .i64 0,.int .u32 0] 56)) (w.heap.size + 1) 56 [.int .i64 0,.int .i64 0,.int .u32 0] := by
    have := Blk.new (w.alloc (.cells #[.int .i64 op,.int .i64 a,.int .i64 b,.int .i32 n,.int .i64 f] 25)) 56 [.int .i64 0,.int .i64 0,.int .u32 0]
    rw [World.size_alloc] at this
    exact this
  generalize opName op = nm at Hat
  generalize opByte op = by_ at Hat
  clear hch hat hB hc hiop hs hn
  go_enter Tryd.func26,Tryd.ntmps26
  go_wp2_with (first
    | (go_at_call 46; refine (Hch.out _ ((hT.alloc _).alloc _)).mono ?_; rintro e w2 ⟨rfl,hb2⟩; have hC2 := (((CW.start HB.out).alloc (.cells #[.int .i64 op,.int .i64 a,.int .i64 b,.int .i32 n,.int .i64 f] 25)).alloc (.cells #[.int .i64 0,.int .i64 0,.int .u32 0] 56)).below hb2; have hI2 := hI0.below hb2 hI0.lt; have hX2 := hX0.below hb2 hX0.lt; have p0 := hI2.cell 0; simp only [List.getElem?_cons_zero] at p0; have HC2 := Lib.hid hC2; clear hC2)
    | (go_at_call 54; refine (Hat.out _ (HC2.out.tab hT htg)).mono ?_; rintro e w3 ⟨rfl,hb3⟩; have hC3 := HC2.out.below hb3; have hI3 := hI2.below hb3 hI2.lt; have hX3 := hX2.below hb3 hX2.lt; have r0 := hI3.cell 0; have r1 := hI3.cell 1; have r2 := hI3.cell 2; have r3 := hI3.cell 3; have r4 := hI3.cell 4; simp only [List.getElem?_cons_zero,List.getElem?_cons_succ] at r0 r1 r2 r3 r4; have hz3 := hI3.lt; have HC3 := Lib.hid hC3; clear hC3)
    | (go_at_call 62; refine (H.out _ ((HC3.out.tab hT htg).alloc _) (HC3.out.blk.alloc _)).mono ?_; rintro e w5 ⟨rfl,cells',hG5,hC5⟩; have hX5 : Blk w5 (w.heap.size + 1) 56 [.int .i64 0,.int .i64 0,.int .u32 0] := (hC5.fr.block _ (by have := hX3.lt; simp; omega) (by show w.heap.size + 1 ≠ g; omega)).trans (hX3.alloc _); have hC6 := (HC3.out.alloc _).trans hC5; have HC6 := Lib.hid hC6; clear hC6 hC5)
    | ((with_reducible show wpList _ _ _ (Oper.mk none (Op.store _ (Operand.tmp 10) (Operand.tmp 73)) _ _ _ _ :: _) _ _); refine wpList_st3 hX5 rfl 56 (.tmp 10) (.tmp 73) (.int .i64 0) (.int .i64 0) (.int .u32 0) rfl (by kernel_rfl) (by kernel_rfl) (by simp [Value.oneCell']) (by kernel_rfl) ?_; rintro ⟨z0,z1,z2⟩)
    | fail)
  refine bodyPost_ret (v := .agg #[.int .i64 0,.int .i64 0,.int .u32 0]) (by simp [results,Tryd.results26,go_sem,z0,z1,z2]) rfl ⟨rfl,cells',hG5,?_⟩
  exact CW.farCells (by omega) _ _ _ HC6.out
end Go.Proofs.YthcjnkakfpmpbaaDoor
