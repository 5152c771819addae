import Derived.Test.YthcjnkakfpmpbaaDoorQ4
import Derived.Deep.QuietTactic
import Derived.BigQuiet
namespace Go.Proofs.YthcjnkakfpmpbaaDoor
open Go.RowKit
set_option linter.unusedVariables false
set_option linter.unusedSimpArgs false
attribute [local go_sem] run_store_complex
noncomputable def cxR3 : Array Oper := regOf Tryd.f62.body 3
set_option maxRecDepth 100000 in
set_option maxHeartbeats 4000000 in
theorem cx_r3 (g I a b c : Nat) (x y : Int) (u1 u2 u5 u6 u7 u8 u9 Ua Ul Uw UH US U3 U6 U7 U8 U9 Ya Yb Yc Yd Ye Yf Yg Yh Yi Yj Yk Yl Ym Yn Yo Yp Yq Yr Ys Yt Yu Yv Yw Yx Yy Yz YA YB YC YD YE YF YG YH YI YJ YK YL YM YN YO YP YQ YR YS YT YU YV YW YX YY YZ Y0 Y1 Y2 Y3 Y4 Y5 Y6 Y7 Y8 Y9 Za Zb Zc Zd Ze Zf Zg Zh Zi Zj Zk Zl Zm Zn Zo Zp Zq Zr Ub Uc Ud Ue Uf Ug Uh Ui Uj Uk Um Un Uo Up Uq Ur Us Ut Uu Uv Ux Uy Uz UA UB UC UD UE UF UG UI UJ UK UL UM UN UO UP UQ UR UT UU UV UW UX UY UZ U0 U1 U2 U4 U5 : Value) (W : World) (Q : Exit → Act → World → Prop) (ha : a < 4) (hb : b < 8) (hc : c < 8) (hgI : g ≠ I) (p2 : W.cell? ⟨I,2,none⟩ = some (.int .i64 b)) (p3 : W.cell? ⟨I,3,none⟩ = some (.int .i32 c))
    (px : W.cell? ⟨g,b,none⟩ = some (.int .i32 x)) (py : W.cell? ⟨g,c,none⟩ = some (.int .i32 y)) (z0 : Value) (pz : W.cell? ⟨g,8 + a,none⟩ = some z0) (fz : W.frozen? ⟨g,8 + a,none⟩ = false)
    (hQ : ∀ (Zs Zt Zu Zv Zw Zx Zy Zz ZA ZB ZC ZD ZE ZF ZG ZH ZI ZJ ZK : Value),Q .normal { tmps := #[.pointer (some ⟨g,0,none⟩),u1,u2,.pointer (some ⟨I,0,none⟩),.pointer (some ⟨g,8 + a,none⟩),u5,u6,u7,u8,u9,Ua,Ul,Uw,UH,US,U3,Zs,Zt,Zu,Zv,Zw,Zx,Zy,Zz,ZA,ZB,ZC,ZD,ZE,ZF,ZG,ZH,ZI,ZJ,ZK,Yp,Yq,Yr,Ys,Yt,Yu,Yv,Yw,Yx,Yy,Yz,YA,YB,YC,YD,YE,YF,YG,YH,YI,YJ,YK,YL,YM,YN,YO,YP,YQ,YR,YS,YT,YU,YV,YW,YX,YY,YZ,Y0,Y1,Y2,Y3,Y4,Y5,Y6,Y7,Y8,Y9,Za,Zb,Zc,Zd,Ze,Zf,Zg,Zh,Zi,Zj,Zk,Zl,Zm,Zn,Zo,Zp,Zq,Zr,Ub,Uc,Ud,Ue,Uf,Ug,Uh,Ui,Uj,Uk,Um,Un,Uo,Up,Uq,Ur,Us,Ut,Uu,Uv,Ux,Uy,Uz,UA,UB,UC,UD,UE,UF,UG,UI,UJ,UK,UL,UM,UN,UO,UP,UQ,UR,UT,UU,UV,UW,UX,UY,UZ,U0,U1,U2,U4,U5],defers := [] } ((W.drewN 1).setCell ⟨g,8 + a,none⟩ (.complex .f64 (floatOfInt .f64 x) (floatOfInt .f64 y)))) :
    (Code.region 3 cxR3 true).wp Tryd.prog Q { tmps := #[.pointer (some ⟨g,0,none⟩),u1,u2,.pointer (some ⟨I,0,none⟩),.pointer (some ⟨g,8 + a,none⟩),u5,u6,u7,u8,u9,Ua,Ul,Uw,UH,US,U3,U6,U7,U8,U9,Ya,Yb,Yc,Yd,Ye,Yf,Yg,Yh,Yi,Yj,Yk,Yl,Ym,Yn,Yo,Yp,Yq,Yr,Ys,Yt,Yu,Yv,Yw,Yx,Yy,Yz,YA,YB,YC,YD,YE,YF,YG,YH,YI,YJ,YK,YL,YM,YN,YO,YP,YQ,YR,YS,YT,YU,YV,YW,YX,YY,YZ,Y0,Y1,Y2,Y3,Y4,Y5,Y6,Y7,Y8,Y9,Za,Zb,Zc,Zd,Ze,Zf,Zg,Zh,Zi,Zj,Zk,Zl,Zm,Zn,Zo,Zp,Zq,Zr,Ub,Uc,Ud,Ue,Uf,Ug,Uh,Ui,Uj,Uk,Um,Un,Uo,Up,Uq,Ur,Us,Ut,Uu,Uv,Ux,Uy,Uz,UA,UB,UC,UD,UE,UF,UG,UI,UJ,UK,UL,UM,UN,UO,UP,UQ,UR,UT,UU,UV,UW,UX,UY,UZ,U0,U1,U2,U4,U5],defers := [] } W := by
  have hB : (b : Int) < 8 := by omega
  have hC : (c : Int) < 8 := by omega
  refine held_start (ops' := cxR3) (l0 := #[false,false,false,false,false,false,false,false,false,false,false,false,false,false,false,false,false,false,false,false]) (S := fun w' => (w'.cell? ⟨I,2,none⟩ = some (.int .i64 b) ∧ w'.cell? ⟨I,3,none⟩ = some (.int .i32 c)) ∧ (w'.cell? ⟨g,b,none⟩ = some (.int .i32 x) ∧ w'.cell? ⟨g,c,none⟩ = some (.int .i32 y)) ∧ (∃ z,w'.cell? ⟨g,8 + a,none⟩ = some z) ∧ w'.frozen? ⟨g,8 + a,none⟩ = false) (by kernel_rfl) (by kernel_rfl) (by kernel_rfl) (by kernel_rfl) ⟨⟨p2,p3⟩,⟨px,py⟩,⟨_,pz⟩,fz⟩ (fun R hR => ?_)
  (refine held_take (v := ?_) (d := some 16) 0 (by kernel_rfl) (by kernel_rfl) rfl ?_ ?_
   rotate_left
   · intro w hSw
     conv in opOf _ _ => whnf
     (obtain ⟨⟨s1,s2⟩,⟨s3,s4⟩,⟨sz,s5⟩,s6⟩ := hSw)
     go_simp
     try (with_reducible rfl)
   try simp only [Act.put,List.setIfInBounds_toArray,List.set_cons_zero,List.set_cons_succ])
  (refine held_take (v := ?_) (d := some 17) 1 (by kernel_rfl) (by kernel_rfl) rfl ?_ ?_
   rotate_left
   · intro w hSw
     conv in opOf _ _ => whnf
     (obtain ⟨⟨s1,s2⟩,⟨s3,s4⟩,⟨sz,s5⟩,s6⟩ := hSw)
     go_simp
     try (with_reducible rfl)
   try simp only [Act.put,List.setIfInBounds_toArray,List.set_cons_zero,List.set_cons_succ])
  (refine held_take (v := ?_) (d := some 18) 2 (by kernel_rfl) (by kernel_rfl) rfl ?_ ?_
   rotate_left
   · intro w hSw
     conv in opOf _ _ => whnf
     (obtain ⟨⟨s1,s2⟩,⟨s3,s4⟩,⟨sz,s5⟩,s6⟩ := hSw)
     go_simp
     try (with_reducible rfl)
   try simp only [Act.put,List.setIfInBounds_toArray,List.set_cons_zero,List.set_cons_succ])
  (refine held_take (v := ?_) (d := some 19) 3 (by kernel_rfl) (by kernel_rfl) rfl ?_ ?_
   rotate_left
   · intro w hSw
     conv in opOf _ _ => whnf
     (obtain ⟨⟨s1,s2⟩,⟨s3,s4⟩,⟨sz,s5⟩,s6⟩ := hSw)
     go_simp
     try (with_reducible rfl)
   try simp only [Act.put,List.setIfInBounds_toArray,List.set_cons_zero,List.set_cons_succ])
  (refine held_take (v := ?_) (d := some 20) 4 (by kernel_rfl) (by kernel_rfl) rfl ?_ ?_
   rotate_left
   · intro w hSw
     conv in opOf _ _ => whnf
     (obtain ⟨⟨s1,s2⟩,⟨s3,s4⟩,⟨sz,s5⟩,s6⟩ := hSw)
     go_simp
     try (with_reducible rfl)
   try simp only [Act.put,List.setIfInBounds_toArray,List.set_cons_zero,List.set_cons_succ])
  (refine held_take (v := ?_) (d := some 21) 5 (by kernel_rfl) (by kernel_rfl) rfl ?_ ?_
   rotate_left
   · intro w hSw
     conv in opOf _ _ => whnf
     (obtain ⟨⟨s1,s2⟩,⟨s3,s4⟩,⟨sz,s5⟩,s6⟩ := hSw)
     go_simp
     try (with_reducible rfl)
   try simp only [Act.put,List.setIfInBounds_toArray,List.set_cons_zero,List.set_cons_succ])
  (refine held_take (v := ?_) (d := some 22) 6 (by kernel_rfl) (by kernel_rfl) rfl ?_ ?_
   rotate_left
   · intro w hSw
     conv in opOf _ _ => whnf
     (obtain ⟨⟨s1,s2⟩,⟨s3,s4⟩,⟨sz,s5⟩,s6⟩ := hSw)
     go_simp
     try (with_reducible rfl)
   try simp only [Act.put,List.setIfInBounds_toArray,List.set_cons_zero,List.set_cons_succ])
  (refine held_take (v := ?_) (d := some 23) 7 (by kernel_rfl) (by kernel_rfl) rfl ?_ ?_
   rotate_left
   · intro w hSw
     conv in opOf _ _ => whnf
     (obtain ⟨⟨s1,s2⟩,⟨s3,s4⟩,⟨sz,s5⟩,s6⟩ := hSw)
     go_simp
     try (with_reducible rfl)
   try simp only [Act.put,List.setIfInBounds_toArray,List.set_cons_zero,List.set_cons_succ])
  (refine held_take (v := ?_) (d := some 24) 8 (by kernel_rfl) (by kernel_rfl) rfl ?_ ?_
   rotate_left
   · intro w hSw
     conv in opOf _ _ => whnf
     (obtain ⟨⟨s1,s2⟩,⟨s3,s4⟩,⟨sz,s5⟩,s6⟩ := hSw)
     go_simp
     try (with_reducible rfl)
   try simp only [Act.put,List.setIfInBounds_toArray,List.set_cons_zero,List.set_cons_succ])
  (refine held_take (v := ?_) (d := some 25) 9 (by kernel_rfl) (by kernel_rfl) rfl ?_ ?_
   rotate_left
   · intro w hSw
     conv in opOf _ _ => whnf
     (obtain ⟨⟨s1,s2⟩,⟨s3,s4⟩,⟨sz,s5⟩,s6⟩ := hSw)
     go_simp
     try (with_reducible rfl)
   try simp only [Act.put,List.setIfInBounds_toArray,List.set_cons_zero,List.set_cons_succ])
  (refine held_take (v := ?_) (d := some 26) 10 (by kernel_rfl) (by kernel_rfl) rfl ?_ ?_
   rotate_left
   · intro w hSw
     conv in opOf _ _ => whnf
     (obtain ⟨⟨s1,s2⟩,⟨s3,s4⟩,⟨sz,s5⟩,s6⟩ := hSw)
     go_simp
     try (with_reducible rfl)
   try simp only [Act.put,List.setIfInBounds_toArray,List.set_cons_zero,List.set_cons_succ])
  (refine held_take (v := ?_) (d := some 27) 11 (by kernel_rfl) (by kernel_rfl) rfl ?_ ?_
   rotate_left
   · intro w hSw
     conv in opOf _ _ => whnf
     (obtain ⟨⟨s1,s2⟩,⟨s3,s4⟩,⟨sz,s5⟩,s6⟩ := hSw)
     go_simp
     try (with_reducible rfl)
   try simp only [Act.put,List.setIfInBounds_toArray,List.set_cons_zero,List.set_cons_succ])
  (refine held_take (v := ?_) (d := some 28) 12 (by kernel_rfl) (by kernel_rfl) rfl ?_ ?_
   rotate_left
   · intro w hSw
     conv in opOf _ _ => whnf
     (obtain ⟨⟨s1,s2⟩,⟨s3,s4⟩,⟨sz,s5⟩,s6⟩ := hSw)
     go_simp
     try (with_reducible rfl)
   try simp only [Act.put,List.setIfInBounds_toArray,List.set_cons_zero,List.set_cons_succ])
  (refine held_take (v := ?_) (d := some 29) 13 (by kernel_rfl) (by kernel_rfl) rfl ?_ ?_
   rotate_left
   · intro w hSw
     conv in opOf _ _ => whnf
     (obtain ⟨⟨s1,s2⟩,⟨s3,s4⟩,⟨sz,s5⟩,s6⟩ := hSw)
     go_simp
     try (with_reducible rfl)
   try simp only [Act.put,List.setIfInBounds_toArray,List.set_cons_zero,List.set_cons_succ])
  (refine held_take (v := ?_) (d := some 30) 14 (by kernel_rfl) (by kernel_rfl) rfl ?_ ?_
   rotate_left
   · intro w hSw
     conv in opOf _ _ => whnf
     (obtain ⟨⟨s1,s2⟩,⟨s3,s4⟩,⟨sz,s5⟩,s6⟩ := hSw)
     go_simp
     try (with_reducible rfl)
   try simp only [Act.put,List.setIfInBounds_toArray,List.set_cons_zero,List.set_cons_succ])
  (refine held_take (v := ?_) (d := some 31) 15 (by kernel_rfl) (by kernel_rfl) rfl ?_ ?_
   rotate_left
   · intro w hSw
     conv in opOf _ _ => whnf
     (obtain ⟨⟨s1,s2⟩,⟨s3,s4⟩,⟨sz,s5⟩,s6⟩ := hSw)
     go_simp
     try (with_reducible rfl)
   try simp only [Act.put,List.setIfInBounds_toArray,List.set_cons_zero,List.set_cons_succ])
  (refine held_take (v := ?_) (d := some 32) 16 (by kernel_rfl) (by kernel_rfl) rfl ?_ ?_
   rotate_left
   · intro w hSw
     conv in opOf _ _ => whnf
     (obtain ⟨⟨s1,s2⟩,⟨s3,s4⟩,⟨sz,s5⟩,s6⟩ := hSw)
     go_simp
     try (with_reducible rfl)
   try simp only [Act.put,List.setIfInBounds_toArray,List.set_cons_zero,List.set_cons_succ])
  (refine held_take (v := ?_) (d := some 33) 17 (by kernel_rfl) (by kernel_rfl) rfl ?_ ?_
   rotate_left
   · intro w hSw
     conv in opOf _ _ => whnf
     (obtain ⟨⟨s1,s2⟩,⟨s3,s4⟩,⟨sz,s5⟩,s6⟩ := hSw)
     go_simp
     try (with_reducible rfl)
   try simp only [Act.put,List.setIfInBounds_toArray,List.set_cons_zero,List.set_cons_succ])
  (refine held_take (v := ?_) (d := some 34) 18 (by kernel_rfl) (by kernel_rfl) rfl ?_ ?_
   rotate_left
   · intro w hSw
     conv in opOf _ _ => whnf
     (obtain ⟨⟨s1,s2⟩,⟨s3,s4⟩,⟨sz,s5⟩,s6⟩ := hSw)
     go_simp
     try (with_reducible rfl)
   try simp only [Act.put,List.setIfInBounds_toArray,List.set_cons_zero,List.set_cons_succ])
  refine held_one 19 (by kernel_rfl) (by kernel_rfl) (held_mute (w' := ?_) (d := none) 19 (by kernel_rfl) (by kernel_rfl) rfl ?_ ?_)
  rotate_left 1
  · rintro ⟨⟨s1,s2⟩,⟨s3,s4⟩,⟨sz,s5⟩,s6⟩
    conv in opOf _ _ => whnf
    go_simp
    first | done | (with_reducible rfl)
  intro hS
  refine ⟨⟨⟨(World.cell?_setCell_other _ _ _ _ (by first | (simp; done) | (simp; omega))).trans hS.1.1,(World.cell?_setCell_other _ _ _ _ (by first | (simp; done) | (simp; omega))).trans hS.1.2⟩,⟨(World.cell?_setCell_other _ _ _ _ (by first | (simp; done) | (simp; omega))).trans hS.2.1.1,(World.cell?_setCell_other _ _ _ _ (by first | (simp; done) | (simp; omega))).trans hS.2.1.2⟩,⟨_,World.cell?_setCell_same' _ _ _ (by obtain ⟨y,hy⟩ := hS.2.2.1; have hy' : W.cell? ⟨g,8 + a,none⟩ = some y := hy; simp [hy'])⟩,by simpa using hS.2.2.2⟩,?_⟩
  try simp only [Act.put,List.setIfInBounds_toArray,List.set_cons_zero,List.set_cons_succ]
  refine held_done (by kernel_rfl) (fun hS => hR.out _ _ ?_)
  exact hQ _ _ _ _ _ _ _ _ _ _ _ _ _ _ _ _ _ _ _
end Go.Proofs.YthcjnkakfpmpbaaDoor
namespace Go.Proofs.YthcjnkakfpmpbaaDoor
open Go.RowKit
set_option linter.unusedVariables false
set_option linter.unusedSimpArgs false
set_option maxRecDepth 20000 in
set_option maxHeartbeats 4000000 in
theorem cx_zset (op n f : Int) (a b : Nat) (c : Nat) (x y : Int) (w : World) (g : Nat) (cells : List Value) (hT : TabIs 0 w) (htg : 0 ≠ g) (hB : Blk w g 119 cells) (ha : a < 4) (hb : b < 8) (hc : c < 8) (hn : n = (c : Int)) (hx : cells[b]? = some (.int .i32 x)) (hy : cells[c]? = some (.int .i32 y)) (z0 : Value) (hz : cells[8 + a]? = some z0) (hnm : opName op = [122,115,101,116]) :
    Calls Tryd.prog 62 #[.pointer (some ⟨g,0,none⟩),.agg #[.int .i64 op,.int .i64 a,.int .i64 b,.int .i32 n,.int .i64 f]] w fun e w' => e = .returned (.tuple #[]) ∧ CW w g (cells.set (8 + a) (.complex .f64 (floatOfInt .f64 x) (floatOfInt .f64 y))) w' := by
  have hg := hB.lt
  have Hn := Lib.hid (fun w hT => hnm ▸ cname_any op w hT)
  have HB := Lib.hid hB
  have hA : (a : Int) < 4 := by omega
  have Hx := Lib.hid hx
  have Hy := Lib.hid hy
  have Hz := Lib.hid hz
  clear hB hx hy hz
  subst hn
  go_enter Tryd.func62,Tryd.ntmps62
  go_wp2_with fail
  go_quiet (fail)
  go_wp2_with (first
    | (go_at_call 82; refine (Hn.out _ ((hT.alloc _).drewN nq)).mono ?_; rintro e w2 ⟨rfl,hb2⟩)
    | fail)
  have hI2 : Blk w2 w.heap.size 25 [.int .i64 op,.int .i64 a,.int .i64 b,.int .i32 c,.int .i64 f] := ((Blk.new w 25 _).drewN nq).below hb2 (by simp)
  have hC2 := (((CW.start HB.out).alloc _).drewN nq).below hb2
  refine wp_region_swap (ops' := cxR3) (by kernel_rfl) (cx_r3 g w.heap.size a b c x y _ _ _ _ _ _ _ _ _ _ _ _ _ _ _ _ _ _ _ _ _ _ _ _ _ _ _ _ _ _ _ _ _ _ _ _ _ _ _ _ _ _ _ _ _ _ _ _ _ _ _ _ _ _ _ _ _ _ _ _ _ _ _ _ _ _ _ _ _ _ _ _ _ _ _ _ _ _ _ _ _ _ _ _ _ _ _ _ _ _ _ _ _ _ _ _ _ _ _ _ _ _ _ _ _ _ _ _ _ _ _ _ _ _ _ _ _ _ _ _ _ _ _ _ _ _ _ _ _ _ _ _ _ _ _ _ _ _ _ _ _ _ _ _ _ _ _ _ _ _ _ ha hb hc (by omega) (hI2.cell 2) (hI2.cell 3) ((hC2.blk.cell b).trans Hx.out) ((hC2.blk.cell c).trans Hy.out) z0 ((hC2.blk.cell (8 + a)).trans Hz.out) (hC2.blk.free _) ?_)
  intro v16 v17 v18 v19 v20 v21 v22 v23 v24 v25 v26 v27 v28 v29 v30 v31 v32 v33 v34
  go_wp2_with fail
  (try simp only [Exit.inBlock,Exit.then])
  refine bodyPost_ret (results_none rfl _ _ _) rfl ⟨rfl,?_⟩
  exact (hC2.drewN 1).setReg _ _
end Go.Proofs.YthcjnkakfpmpbaaDoor
