import Derived.Test.YthcjnkakfpmpbaaDoorQ44
import Derived.Test.YthcjnkakfpmpbaaDoorRows
import Derived.Test.YthcjnkakfpmpbaaDoorQ1
import Derived.ProofKit
import Derived.OpenShut
import Derived.ShutString
import Derived.ChangeOld
import Derived.SizedLaws
import Derived.Deep.DeepHandedRow
namespace Go.Proofs.YthcjnkakfpmpbaaDoor
open Go.RowKit
set_option linter.unusedVariables false
set_option linter.unusedSimpArgs false
noncomputable def cpR15 : Array Oper := regOf Tryd.f14.body 15
set_option maxRecDepth 100000 in
set_option maxHeartbeats 4000000 in
theorem cp_r15 (g1 g2 X1 X2 nS nT rcS rcT : Nat) (rS rT : Option Addr) (xs : List Int) (E0 E1 E2 : Int) (u0 u1 u2 u3 u4 u5 u6 u7 u8 u9 Uk UF UQ U3 U4 U5 U6 U7 U8 U9 Ya Yb Yc Yd Ye Yf Yg Yh Yi Yj Yk Yl Ym Yn Yo Yp Yq Yr Ys Yt Yu Yv Yw Yx Yy Yz YA YB YC YD YE YF YG YH YI YJ YK YL YM YN YO YP YQ YR YS YT YU YV YW YX YY YZ Y0 Y1 Y2 Y3 Y4 Y5 Y6 Y7 Y8 Y9 Za Zb Zc Zd Ze Zf Zg Zh Zi Zj Zk Zl Zm Zn Ua Ub Uc Ud Ue Uf Ug Uh Ui Uj Ul Um Un Uo Up Uq Ur Us Ut Uu Uv Uw Ux Uy Uz UA UB UC UD UE UG UH UI UJ UK UL UM UN UO UP UR US UT UU UV UW UX UY UZ U0 : Value) (W : World) (Q : Exit → Act → World → Prop) (hX1 : X1 < W.heap.size) (hX2 : X2 < W.heap.size) (hg2 : g2 < W.heap.size) (hnT : nT ≤ 4096)
    (a0 : W.cell? ⟨X1,0,none⟩ = some (.int .i64 E0)) (a1 : W.cell? ⟨X1,1,none⟩ = some (.int .i64 E1)) (a2 : W.cell? ⟨X1,2,none⟩ = some (.int .u32 E2)) (b0 : W.cell? ⟨X2,0,none⟩ = some (.int .i64 E0)) (b1 : W.cell? ⟨X2,1,none⟩ = some (.int .i64 E1)) (b2 : W.cell? ⟨X2,2,none⟩ = some (.int .u32 E2))
    (p1 : W.cell? ⟨g2,12,none⟩ = some (.slice rS nS rcS)) (p2 : W.cell? ⟨g2,269,none⟩ = some (.slice rT nT rcT)) (hsl : Sl W W.heap.size 1 rT nT (is32 xs))
    (HD : Hid (∀ w,Below W.heap.size W w → Calls Tryd.prog 39 #[.pointer (some ⟨g1,0,none⟩)] w fun e w' => e = .returned (.int .i64 nS) ∧ w = w'))
    (HT : Hid (∀ w,Below W.heap.size W w → Calls Tryd.prog 35 #[.pointer (some ⟨g1,0,none⟩)] w fun e w' => ∃ V,e = .returned V ∧ ∃ A c,V = .slice A nT c ∧ w'.ownsRow w.heap.size 21 1 (.slice A nT c) nT (is32 xs) ∧ Below w.heap.size w w'))
    (hQ : ∀ (ZV ZW ZX ZY Zo Zp Zq Zr Zs Zt Zu Zv Zw Zx Zy Zz ZA ZB ZC ZD ZE ZF ZG ZH ZI ZJ ZK ZL : Value) (w' : World),Below W.heap.size W w' → Q .normal { tmps := #[u0,u1,u2,u3,u4,u5,u6,u7,u8,u9,.pointer (some ⟨g1,0,none⟩),Uk,.pointer (some ⟨g2,0,none⟩),UF,UQ,.pointer (some ⟨X1,0,none⟩),.pointer (some ⟨X2,0,none⟩),U3,U4,U5,U6,U7,U8,U9,Ya,Yb,Yc,Yd,Ye,Yf,Yg,Yh,Yi,Yj,Yk,Yl,Ym,Yn,Yo,Yp,Yq,Yr,Ys,Yt,Yu,Yv,Yw,Yx,Yy,Yz,YA,YB,YC,YD,YE,YF,YG,YH,YI,YJ,YK,YL,YM,YN,YO,YP,YQ,YR,YS,YT,YU,YV,YW,YX,YY,YZ,Y0,Y1,Y2,Y3,Y4,Y5,Y6,Y7,Y8,Y9,Za,Zb,Zc,Zd,Ze,Zf,Zg,Zh,Zi,Zj,ZV,ZW,ZX,ZY,Zo,Zp,Zq,Zr,Zs,Zt,Zu,Zv,Zw,Zx,Zy,Zz,ZA,ZB,ZC,ZD,ZE,ZF,ZG,ZH,ZI,ZJ,ZK,ZL,.bool false,UA,UB,UC,UD,UE,UG,UH,UI,UJ,UK,UL,UM,UN,UO,UP,UR,US,UT,UU,UV,UW,UX,UY,UZ,U0],defers := [] } w') :
    (Code.region 15 cpR15 true).wp Tryd.prog Q { tmps := #[u0,u1,u2,u3,u4,u5,u6,u7,u8,u9,.pointer (some ⟨g1,0,none⟩),Uk,.pointer (some ⟨g2,0,none⟩),UF,UQ,.pointer (some ⟨X1,0,none⟩),.pointer (some ⟨X2,0,none⟩),U3,U4,U5,U6,U7,U8,U9,Ya,Yb,Yc,Yd,Ye,Yf,Yg,Yh,Yi,Yj,Yk,Yl,Ym,Yn,Yo,Yp,Yq,Yr,Ys,Yt,Yu,Yv,Yw,Yx,Yy,Yz,YA,YB,YC,YD,YE,YF,YG,YH,YI,YJ,YK,YL,YM,YN,YO,YP,YQ,YR,YS,YT,YU,YV,YW,YX,YY,YZ,Y0,Y1,Y2,Y3,Y4,Y5,Y6,Y7,Y8,Y9,Za,Zb,Zc,Zd,Ze,Zf,Zg,Zh,Zi,Zj,Zk,Zl,Zm,Zn,Ua,Ub,Uc,Ud,Ue,Uf,Ug,Uh,Ui,Uj,Ul,Um,Un,Uo,Up,Uq,Ur,Us,Ut,Uu,Uv,Uw,Ux,Uy,Uz,UA,UB,UC,UD,UE,UG,UH,UI,UJ,UK,UL,UM,UN,UO,UP,UR,US,UT,UU,UV,UW,UX,UY,UZ,U0],defers := [] } W := by
  refine held_start (ops' := cpR15) (l0 := #[false,false,false,false,false,false,false,false,false,false,false,false,false,false,false,false,false,false,false,false,false,false,false,false,false,false,false,false,false]) (S := fun w' => Below W.heap.size W w' ∧ w'.cell? ⟨X1,0,none⟩ = some (.int .i64 E0) ∧ w'.cell? ⟨X1,1,none⟩ = some (.int .i64 E1) ∧ w'.cell? ⟨X1,2,none⟩ = some (.int .u32 E2) ∧ w'.cell? ⟨X2,0,none⟩ = some (.int .i64 E0) ∧ w'.cell? ⟨X2,1,none⟩ = some (.int .i64 E1) ∧ w'.cell? ⟨X2,2,none⟩ = some (.int .u32 E2) ∧ w'.cell? ⟨g2,12,none⟩ = some (.slice rS nS rcS) ∧ w'.cell? ⟨g2,269,none⟩ = some (.slice rT nT rcT)) (by kernel_rfl) (by kernel_rfl) (by kernel_rfl) (by kernel_rfl) ⟨below_drewN (Below.refl _ _) 1,a0,a1,a2,b0,b1,b2,p1,p2⟩ (fun R hR => ?_)
  (refine held_take (v := ?_) (d := some 96) 0 (by kernel_rfl) (by kernel_rfl) rfl ?_ ?_
   rotate_left
   · intro w hSw
     conv in opOf _ _ => whnf
     (obtain ⟨sb,s0,s1,s2,t0,t1,t2,q1,q2⟩ := hSw)
     go_simp
     try (with_reducible rfl)
   try simp only [Act.put,List.setIfInBounds_toArray,List.set_cons_zero,List.set_cons_succ])
  (refine held_take (v := ?_) (d := some 97) 1 (by kernel_rfl) (by kernel_rfl) rfl ?_ ?_
   rotate_left
   · intro w hSw
     conv in opOf _ _ => whnf
     (obtain ⟨sb,s0,s1,s2,t0,t1,t2,q1,q2⟩ := hSw)
     go_simp
     try (with_reducible rfl)
   try simp only [Act.put,List.setIfInBounds_toArray,List.set_cons_zero,List.set_cons_succ])
  (refine held_take (v := ?_) (d := some 98) 2 (by kernel_rfl) (by kernel_rfl) rfl ?_ ?_
   rotate_left
   · intro w hSw
     conv in opOf _ _ => whnf
     (obtain ⟨sb,s0,s1,s2,t0,t1,t2,q1,q2⟩ := hSw)
     go_simp
     try (with_reducible rfl)
   try simp only [Act.put,List.setIfInBounds_toArray,List.set_cons_zero,List.set_cons_succ])
  (refine held_take (v := ?_) (d := some 99) 3 (by kernel_rfl) (by kernel_rfl) rfl ?_ ?_
   rotate_left
   · intro w hSw
     conv in opOf _ _ => whnf
     (obtain ⟨sb,s0,s1,s2,t0,t1,t2,q1,q2⟩ := hSw)
     go_simp
     try (with_reducible rfl)
   try simp only [Act.put,List.setIfInBounds_toArray,List.set_cons_zero,List.set_cons_succ])
  (refine held_take (v := ?_) (d := some 100) 4 (by kernel_rfl) (by kernel_rfl) rfl ?_ ?_
   rotate_left
   · intro w hSw
     conv in opOf _ _ => whnf
     (obtain ⟨sb,s0,s1,s2,t0,t1,t2,q1,q2⟩ := hSw)
     go_simp
     try (with_reducible rfl)
   try simp only [Act.put,List.setIfInBounds_toArray,List.set_cons_zero,List.set_cons_succ])
  (refine held_take (v := ?_) (d := some 101) 5 (by kernel_rfl) (by kernel_rfl) rfl ?_ ?_
   rotate_left
   · intro w hSw
     conv in opOf _ _ => whnf
     (obtain ⟨sb,s0,s1,s2,t0,t1,t2,q1,q2⟩ := hSw)
     go_simp
     try (with_reducible rfl)
   try simp only [Act.put,List.setIfInBounds_toArray,List.set_cons_zero,List.set_cons_succ])
  (refine held_take (v := ?_) (d := some 102) 6 (by kernel_rfl) (by kernel_rfl) rfl ?_ ?_
   rotate_left
   · intro w hSw
     conv in opOf _ _ => whnf
     (obtain ⟨sb,s0,s1,s2,t0,t1,t2,q1,q2⟩ := hSw)
     go_simp
     try (with_reducible rfl)
   try simp only [Act.put,List.setIfInBounds_toArray,List.set_cons_zero,List.set_cons_succ])
  (refine held_take (v := ?_) (d := some 103) 7 (by kernel_rfl) (by kernel_rfl) rfl ?_ ?_
   rotate_left
   · intro w hSw
     conv in opOf _ _ => whnf
     (obtain ⟨sb,s0,s1,s2,t0,t1,t2,q1,q2⟩ := hSw)
     go_simp
     try (with_reducible rfl)
   try simp only [Act.put,List.setIfInBounds_toArray,List.set_cons_zero,List.set_cons_succ])
  (refine held_take (v := ?_) (d := some 104) 8 (by kernel_rfl) (by kernel_rfl) rfl ?_ ?_
   rotate_left
   · intro w hSw
     conv in opOf _ _ => whnf
     (obtain ⟨sb,s0,s1,s2,t0,t1,t2,q1,q2⟩ := hSw)
     go_simp
     try (with_reducible rfl)
   try simp only [Act.put,List.setIfInBounds_toArray,List.set_cons_zero,List.set_cons_succ])
  (refine held_take (v := ?_) (d := some 105) 9 (by kernel_rfl) (by kernel_rfl) rfl ?_ ?_
   rotate_left
   · intro w hSw
     conv in opOf _ _ => whnf
     (obtain ⟨sb,s0,s1,s2,t0,t1,t2,q1,q2⟩ := hSw)
     go_simp
     try (with_reducible rfl)
   try simp only [Act.put,List.setIfInBounds_toArray,List.set_cons_zero,List.set_cons_succ])
  (refine held_take (v := ?_) (d := some 106) 10 (by kernel_rfl) (by kernel_rfl) rfl ?_ ?_
   rotate_left
   · intro w hSw
     conv in opOf _ _ => whnf
     (obtain ⟨sb,s0,s1,s2,t0,t1,t2,q1,q2⟩ := hSw)
     go_simp
     try (with_reducible rfl)
   try simp only [Act.put,List.setIfInBounds_toArray,List.set_cons_zero,List.set_cons_succ])
  (refine held_take (v := ?_) (d := some 108) 12 (by kernel_rfl) (by kernel_rfl) rfl ?_ ?_
   rotate_left
   · intro w hSw
     conv in opOf _ _ => whnf
     (obtain ⟨sb,s0,s1,s2,t0,t1,t2,q1,q2⟩ := hSw)
     go_simp
     try (with_reducible rfl)
   try simp only [Act.put,List.setIfInBounds_toArray,List.set_cons_zero,List.set_cons_succ])
  (refine held_take (v := ?_) (d := some 109) 13 (by kernel_rfl) (by kernel_rfl) rfl ?_ ?_
   rotate_left
   · intro w hSw
     conv in opOf _ _ => whnf
     (obtain ⟨sb,s0,s1,s2,t0,t1,t2,q1,q2⟩ := hSw)
     go_simp
     try (with_reducible rfl)
   try simp only [Act.put,List.setIfInBounds_toArray,List.set_cons_zero,List.set_cons_succ])
  (refine held_take (v := ?_) (d := some 110) 14 (by kernel_rfl) (by kernel_rfl) rfl ?_ ?_
   rotate_left
   · intro w hSw
     conv in opOf _ _ => whnf
     (obtain ⟨sb,s0,s1,s2,t0,t1,t2,q1,q2⟩ := hSw)
     go_simp
     try (with_reducible rfl)
   try simp only [Act.put,List.setIfInBounds_toArray,List.set_cons_zero,List.set_cons_succ])
  (refine held_take (v := ?_) (d := some 111) 15 (by kernel_rfl) (by kernel_rfl) rfl ?_ ?_
   rotate_left
   · intro w hSw
     conv in opOf _ _ => whnf
     (obtain ⟨sb,s0,s1,s2,t0,t1,t2,q1,q2⟩ := hSw)
     go_simp
     try (with_reducible rfl)
   try simp only [Act.put,List.setIfInBounds_toArray,List.set_cons_zero,List.set_cons_succ])
  (refine held_take (v := ?_) (d := some 112) 16 (by kernel_rfl) (by kernel_rfl) rfl ?_ ?_
   rotate_left
   · intro w hSw
     conv in opOf _ _ => whnf
     (obtain ⟨sb,s0,s1,s2,t0,t1,t2,q1,q2⟩ := hSw)
     go_simp
     try (with_reducible rfl)
   try simp only [Act.put,List.setIfInBounds_toArray,List.set_cons_zero,List.set_cons_succ])
  (refine held_one 11 (by kernel_rfl) (by kernel_rfl) (held_call (B := fun w' => Below W.drew.heap.size W.drew w') (d := some 107) 11 (by kernel_rfl) (by kernel_rfl) rfl (fun hS => (HD.out W.drew hS.1).mono fun e w' h => ⟨h.1,by rw [← h.2]; exact Below.refl _ _⟩) (by kernel_rfl) ?_)
   intro w3 hS HB
   refine ⟨⟨hS.1.trans (HB.mono hS.1.size),(HB.cell (p := ⟨X1,0,none⟩) (Nat.lt_of_lt_of_le hX1 hS.1.size)).trans hS.2.1,(HB.cell (p := ⟨X1,1,none⟩) (Nat.lt_of_lt_of_le hX1 hS.1.size)).trans hS.2.2.1,(HB.cell (p := ⟨X1,2,none⟩) (Nat.lt_of_lt_of_le hX1 hS.1.size)).trans hS.2.2.2.1,(HB.cell (p := ⟨X2,0,none⟩) (Nat.lt_of_lt_of_le hX2 hS.1.size)).trans hS.2.2.2.2.1,(HB.cell (p := ⟨X2,1,none⟩) (Nat.lt_of_lt_of_le hX2 hS.1.size)).trans hS.2.2.2.2.2.1,(HB.cell (p := ⟨X2,2,none⟩) (Nat.lt_of_lt_of_le hX2 hS.1.size)).trans hS.2.2.2.2.2.2.1,(HB.cell (p := ⟨g2,12,none⟩) (Nat.lt_of_lt_of_le hg2 hS.1.size)).trans hS.2.2.2.2.2.2.2.1,(HB.cell (p := ⟨g2,269,none⟩) (Nat.lt_of_lt_of_le hg2 hS.1.size)).trans hS.2.2.2.2.2.2.2.2⟩,?_⟩
   try simp only [Act.put,List.setIfInBounds_toArray,List.set_cons_zero,List.set_cons_succ])
  (refine held_take (v := ?_) (d := some 113) 17 (by kernel_rfl) (by kernel_rfl) rfl ?_ ?_
   rotate_left
   · intro w hSw
     conv in opOf _ _ => whnf
     (obtain ⟨sb,s0,s1,s2,t0,t1,t2,q1,q2⟩ := hSw)
     go_simp
     try (with_reducible rfl)
   try simp only [Act.put,List.setIfInBounds_toArray,List.set_cons_zero,List.set_cons_succ])
  (refine held_take (v := ?_) (d := some 114) 18 (by kernel_rfl) (by kernel_rfl) rfl ?_ ?_
   rotate_left
   · intro w hSw
     conv in opOf _ _ => whnf
     (obtain ⟨sb,s0,s1,s2,t0,t1,t2,q1,q2⟩ := hSw)
     go_simp
     try (with_reducible rfl)
   try simp only [Act.put,List.setIfInBounds_toArray,List.set_cons_zero,List.set_cons_succ])
  (refine held_take (v := ?_) (d := some 115) 19 (by kernel_rfl) (by kernel_rfl) rfl ?_ ?_
   rotate_left
   · intro w hSw
     conv in opOf _ _ => whnf
     (obtain ⟨sb,s0,s1,s2,t0,t1,t2,q1,q2⟩ := hSw)
     go_simp
     try (with_reducible rfl)
   try simp only [Act.put,List.setIfInBounds_toArray,List.set_cons_zero,List.set_cons_succ])
  (refine held_take (v := ?_) (d := some 116) 20 (by kernel_rfl) (by kernel_rfl) rfl ?_ ?_
   rotate_left
   · intro w hSw
     conv in opOf _ _ => whnf
     (obtain ⟨sb,s0,s1,s2,t0,t1,t2,q1,q2⟩ := hSw)
     go_simp
     try (with_reducible rfl)
   try simp only [Act.put,List.setIfInBounds_toArray,List.set_cons_zero,List.set_cons_succ])
  (refine held_take (v := ?_) (d := some 118) 22 (by kernel_rfl) (by kernel_rfl) rfl ?_ ?_
   rotate_left
   · intro w hSw
     conv in opOf _ _ => whnf
     (obtain ⟨sb,s0,s1,s2,t0,t1,t2,q1,q2⟩ := hSw)
     go_simp
     try (with_reducible rfl)
   try simp only [Act.put,List.setIfInBounds_toArray,List.set_cons_zero,List.set_cons_succ])
  (refine held_take (v := ?_) (d := some 119) 23 (by kernel_rfl) (by kernel_rfl) rfl ?_ ?_
   rotate_left
   · intro w hSw
     conv in opOf _ _ => whnf
     (obtain ⟨sb,s0,s1,s2,t0,t1,t2,q1,q2⟩ := hSw)
     go_simp
     try (with_reducible rfl)
   try simp only [Act.put,List.setIfInBounds_toArray,List.set_cons_zero,List.set_cons_succ])
  (refine held_take (v := ?_) (d := some 120) 24 (by kernel_rfl) (by kernel_rfl) rfl ?_ ?_
   rotate_left
   · intro w hSw
     conv in opOf _ _ => whnf
     (obtain ⟨sb,s0,s1,s2,t0,t1,t2,q1,q2⟩ := hSw)
     go_simp
     try (with_reducible rfl)
   try simp only [Act.put,List.setIfInBounds_toArray,List.set_cons_zero,List.set_cons_succ])
  (refine held_take (v := ?_) (d := some 121) 25 (by kernel_rfl) (by kernel_rfl) rfl ?_ ?_
   rotate_left
   · intro w hSw
     conv in opOf _ _ => whnf
     (obtain ⟨sb,s0,s1,s2,t0,t1,t2,q1,q2⟩ := hSw)
     go_simp
     try (with_reducible rfl)
   try simp only [Act.put,List.setIfInBounds_toArray,List.set_cons_zero,List.set_cons_succ])
  (refine held_one 21 (by kernel_rfl) (by kernel_rfl) (held_callE (d := some 117) 21 (by kernel_rfl) (by kernel_rfl) rfl (fun hS => HT.out w3 hS.1) (by kernel_rfl) ?_)
   rintro V w4 hS ⟨A4,c4,rfl,hown,HB⟩
   have hs4 := Sl.of_own hown
   have hb4 : Below W.heap.size W w4 := hS.1.trans (HB.mono hS.1.size)
   refine ⟨⟨hS.1.trans (HB.mono hS.1.size),(HB.cell (p := ⟨X1,0,none⟩) (Nat.lt_of_lt_of_le hX1 hS.1.size)).trans hS.2.1,(HB.cell (p := ⟨X1,1,none⟩) (Nat.lt_of_lt_of_le hX1 hS.1.size)).trans hS.2.2.1,(HB.cell (p := ⟨X1,2,none⟩) (Nat.lt_of_lt_of_le hX1 hS.1.size)).trans hS.2.2.2.1,(HB.cell (p := ⟨X2,0,none⟩) (Nat.lt_of_lt_of_le hX2 hS.1.size)).trans hS.2.2.2.2.1,(HB.cell (p := ⟨X2,1,none⟩) (Nat.lt_of_lt_of_le hX2 hS.1.size)).trans hS.2.2.2.2.2.1,(HB.cell (p := ⟨X2,2,none⟩) (Nat.lt_of_lt_of_le hX2 hS.1.size)).trans hS.2.2.2.2.2.2.1,(HB.cell (p := ⟨g2,12,none⟩) (Nat.lt_of_lt_of_le hg2 hS.1.size)).trans hS.2.2.2.2.2.2.2.1,(HB.cell (p := ⟨g2,269,none⟩) (Nat.lt_of_lt_of_le hg2 hS.1.size)).trans hS.2.2.2.2.2.2.2.2⟩,?_⟩
   try simp only [Act.put,List.setIfInBounds_toArray,List.set_cons_zero,List.set_cons_succ])
  (refine held_one 26 (by kernel_rfl) (by kernel_rfl) (held_call (B := fun w' => Below w4.heap.size w4 w') (d := some 122) 26 (by kernel_rfl) (by kernel_rfl) rfl (fun hS => (by have h := same_i32 A4 rT nT nT c4 rcT xs xs w4 hs4 ((hsl.below hb4).more hb4.size) (by unfold maxLen; omega); rw [sameB_yes rfl] at h; exact h.mono fun e w' h => ⟨h.1,by obtain ⟨kk,rfl⟩ := h.2; exact below_drewN (Below.refl _ _) kk⟩)) (by kernel_rfl) ?_)
   intro w5 hS HB
   refine ⟨⟨hS.1.trans (HB.mono hS.1.size),(HB.cell (p := ⟨X1,0,none⟩) (Nat.lt_of_lt_of_le hX1 hS.1.size)).trans hS.2.1,(HB.cell (p := ⟨X1,1,none⟩) (Nat.lt_of_lt_of_le hX1 hS.1.size)).trans hS.2.2.1,(HB.cell (p := ⟨X1,2,none⟩) (Nat.lt_of_lt_of_le hX1 hS.1.size)).trans hS.2.2.2.1,(HB.cell (p := ⟨X2,0,none⟩) (Nat.lt_of_lt_of_le hX2 hS.1.size)).trans hS.2.2.2.2.1,(HB.cell (p := ⟨X2,1,none⟩) (Nat.lt_of_lt_of_le hX2 hS.1.size)).trans hS.2.2.2.2.2.1,(HB.cell (p := ⟨X2,2,none⟩) (Nat.lt_of_lt_of_le hX2 hS.1.size)).trans hS.2.2.2.2.2.2.1,(HB.cell (p := ⟨g2,12,none⟩) (Nat.lt_of_lt_of_le hg2 hS.1.size)).trans hS.2.2.2.2.2.2.2.1,(HB.cell (p := ⟨g2,269,none⟩) (Nat.lt_of_lt_of_le hg2 hS.1.size)).trans hS.2.2.2.2.2.2.2.2⟩,?_⟩
   try simp only [Act.put,List.setIfInBounds_toArray,List.set_cons_zero,List.set_cons_succ])
  (refine held_take (v := ?_) (d := some 123) 27 (by kernel_rfl) (by kernel_rfl) rfl ?_ ?_
   rotate_left
   · intro w hSw
     conv in opOf _ _ => whnf
     (obtain ⟨sb,s0,s1,s2,t0,t1,t2,q1,q2⟩ := hSw)
     go_simp
     try (with_reducible rfl)
   try simp only [Act.put,List.setIfInBounds_toArray,List.set_cons_zero,List.set_cons_succ])
  (refine held_take (v := ?_) (d := some 124) 28 (by kernel_rfl) (by kernel_rfl) rfl ?_ ?_
   rotate_left
   · intro w hSw
     conv in opOf _ _ => whnf
     (obtain ⟨sb,s0,s1,s2,t0,t1,t2,q1,q2⟩ := hSw)
     go_simp
     try (with_reducible rfl)
   try simp only [Act.put,List.setIfInBounds_toArray,List.set_cons_zero,List.set_cons_succ])
  refine held_done (by kernel_rfl) (fun hS => hR.out _ _ ?_)
  exact hQ _ _ _ _ _ _ _ _ _ _ _ _ _ _ _ _ _ _ _ _ _ _ _ _ _ _ _ _ _ hS.1
noncomputable def cpR20 : Array Oper := regOf Tryd.f14.body 20
set_option maxRecDepth 100000 in
set_option maxHeartbeats 4000000 in
theorem cp_r20 (g1 g2 k : Nat) (x : Int) (u0 u1 u2 u3 u4 u5 u6 u7 u8 u9 Uk UF UQ U1 U2 U4 U5 U6 U7 U8 U9 Ya Yb Yc Yd Ye Yf Yg Yh Yi Yj Yk Yl Ym Yn Yo Yp Yq Yr Ys Yt Yu Yv Yw Yx Yy Yz YA YB YC YD YE YF YG YH YI YJ YK YL YM YN YO YP YQ YR YS YT YU YV YW YX YY YZ Y0 Y1 Y2 Y3 Y4 Y5 Y6 Y7 Y8 Y9 Za Zb Zc Zd Ze Zf Zg Zh Zi Zj Zk Zl Zm Zn Ua Ub Uc Ud Ue Uf Ug Uh Ui Uj Ul Um Un Uo Up Uq Ur Us Ut Uu Uv Uw Ux Uy Uz UA UB UC UD UE UG UH UI UJ UK UL UM UN UO UP UR US UT UU UV UW UX UY UZ U0 : Value) (W : World) (Q : Exit → Act → World → Prop) (hk : k < 8) (hx : W.cell? ⟨g2,k,none⟩ = some (.int .i32 x))
    (HG : Hid (Calls Tryd.prog 28 #[.pointer (some ⟨g1,0,none⟩),.int .i64 k] W.drew fun e w' => e = .returned (.int .i32 x) ∧ W.drew = w'))
    (hQ : ∀ (ZM ZN ZO ZP ZQ ZR ZS ZT ZU : Value),Q .normal { tmps := #[u0,u1,u2,u3,u4,u5,u6,u7,u8,u9,.pointer (some ⟨g1,0,none⟩),Uk,.pointer (some ⟨g2,0,none⟩),UF,UQ,U1,U2,.int .i64 k,U4,U5,U6,U7,U8,U9,Ya,Yb,Yc,Yd,Ye,Yf,Yg,Yh,Yi,Yj,Yk,Yl,Ym,Yn,Yo,Yp,Yq,Yr,Ys,Yt,Yu,Yv,Yw,Yx,Yy,Yz,YA,YB,YC,YD,YE,YF,YG,YH,YI,YJ,YK,YL,YM,YN,YO,YP,YQ,YR,YS,YT,YU,YV,YW,YX,YY,YZ,Y0,Y1,Y2,Y3,Y4,Y5,Y6,Y7,Y8,Y9,Za,Zb,Zc,Zd,Ze,Zf,Zg,Zh,Zi,Zj,Zk,Zl,Zm,Zn,Ua,Ub,Uc,Ud,Ue,Uf,Ug,Uh,Ui,Uj,Ul,Um,Un,Uo,Up,Uq,Ur,Us,Ut,Uu,Uv,Uw,Ux,Uy,Uz,UA,UB,UC,UD,ZM,ZN,ZO,ZP,ZQ,ZR,ZS,ZT,ZU,.bool false,UP,UR,US,UT,UU,UV,UW,UX,UY,UZ,U0],defers := [] } W.drew) :
    (Code.region 20 cpR20 true).wp Tryd.prog Q { tmps := #[u0,u1,u2,u3,u4,u5,u6,u7,u8,u9,.pointer (some ⟨g1,0,none⟩),Uk,.pointer (some ⟨g2,0,none⟩),UF,UQ,U1,U2,.int .i64 k,U4,U5,U6,U7,U8,U9,Ya,Yb,Yc,Yd,Ye,Yf,Yg,Yh,Yi,Yj,Yk,Yl,Ym,Yn,Yo,Yp,Yq,Yr,Ys,Yt,Yu,Yv,Yw,Yx,Yy,Yz,YA,YB,YC,YD,YE,YF,YG,YH,YI,YJ,YK,YL,YM,YN,YO,YP,YQ,YR,YS,YT,YU,YV,YW,YX,YY,YZ,Y0,Y1,Y2,Y3,Y4,Y5,Y6,Y7,Y8,Y9,Za,Zb,Zc,Zd,Ze,Zf,Zg,Zh,Zi,Zj,Zk,Zl,Zm,Zn,Ua,Ub,Uc,Ud,Ue,Uf,Ug,Uh,Ui,Uj,Ul,Um,Un,Uo,Up,Uq,Ur,Us,Ut,Uu,Uv,Uw,Ux,Uy,Uz,UA,UB,UC,UD,UE,UG,UH,UI,UJ,UK,UL,UM,UN,UO,UP,UR,US,UT,UU,UV,UW,UX,UY,UZ,U0],defers := [] } W := by
  have hkI : (k : Int) < 8 := by omega
  refine held_start (ops' := cpR20) (l0 := #[false,false,false,false,false,false,false,false,false,false]) (S := fun w' => w'.cell? ⟨g2,k,none⟩ = some (.int .i32 x)) (by kernel_rfl) (by kernel_rfl) (by kernel_rfl) (by kernel_rfl) hx (fun R hR => ?_)
  (refine held_take (v := ?_) (d := some 129) 0 (by kernel_rfl) (by kernel_rfl) rfl ?_ ?_
   rotate_left
   · intro w hSw
     conv in opOf _ _ => whnf
     (try dsimp only at hSw)
     go_simp
     try (with_reducible rfl)
   try simp only [Act.put,List.setIfInBounds_toArray,List.set_cons_zero,List.set_cons_succ])
  (refine held_take (v := ?_) (d := some 130) 1 (by kernel_rfl) (by kernel_rfl) rfl ?_ ?_
   rotate_left
   · intro w hSw
     conv in opOf _ _ => whnf
     (try dsimp only at hSw)
     go_simp
     try (with_reducible rfl)
   try simp only [Act.put,List.setIfInBounds_toArray,List.set_cons_zero,List.set_cons_succ])
  (refine held_take (v := ?_) (d := some 132) 3 (by kernel_rfl) (by kernel_rfl) rfl ?_ ?_
   rotate_left
   · intro w hSw
     conv in opOf _ _ => whnf
     (try dsimp only at hSw)
     go_simp
     try (with_reducible rfl)
   try simp only [Act.put,List.setIfInBounds_toArray,List.set_cons_zero,List.set_cons_succ])
  (refine held_take (v := ?_) (d := some 133) 4 (by kernel_rfl) (by kernel_rfl) rfl ?_ ?_
   rotate_left
   · intro w hSw
     conv in opOf _ _ => whnf
     (try dsimp only at hSw)
     go_simp
     try (with_reducible rfl)
   try simp only [Act.put,List.setIfInBounds_toArray,List.set_cons_zero,List.set_cons_succ])
  (refine held_take (v := ?_) (d := some 134) 5 (by kernel_rfl) (by kernel_rfl) rfl ?_ ?_
   rotate_left
   · intro w hSw
     conv in opOf _ _ => whnf
     (try dsimp only at hSw)
     go_simp
     try (with_reducible rfl)
   try simp only [Act.put,List.setIfInBounds_toArray,List.set_cons_zero,List.set_cons_succ])
  (refine held_take (v := ?_) (d := some 135) 6 (by kernel_rfl) (by kernel_rfl) rfl ?_ ?_
   rotate_left
   · intro w hSw
     conv in opOf _ _ => whnf
     (try dsimp only at hSw)
     go_simp
     try (with_reducible rfl)
   try simp only [Act.put,List.setIfInBounds_toArray,List.set_cons_zero,List.set_cons_succ])
  (refine held_take (v := ?_) (d := some 136) 7 (by kernel_rfl) (by kernel_rfl) rfl ?_ ?_
   rotate_left
   · intro w hSw
     conv in opOf _ _ => whnf
     (try dsimp only at hSw)
     go_simp
     try (with_reducible rfl)
   try simp only [Act.put,List.setIfInBounds_toArray,List.set_cons_zero,List.set_cons_succ])
  (refine held_take (v := ?_) (d := some 137) 8 (by kernel_rfl) (by kernel_rfl) rfl ?_ ?_
   rotate_left
   · intro w hSw
     conv in opOf _ _ => whnf
     (try dsimp only at hSw)
     go_simp
     try (with_reducible rfl)
   try simp only [Act.put,List.setIfInBounds_toArray,List.set_cons_zero,List.set_cons_succ])
  (refine held_one 2 (by kernel_rfl) (by kernel_rfl) (held_call (B := fun w' => W.drew = w') (d := some 131) 2 (by kernel_rfl) (by kernel_rfl) rfl (fun hS => HG.out) (by kernel_rfl) ?_)
   rintro w3 hS rfl
   refine ⟨hS,?_⟩
   try simp only [Act.put,List.setIfInBounds_toArray,List.set_cons_zero,List.set_cons_succ])
  (refine held_take (v := ?_) (d := some 138) 9 (by kernel_rfl) (by kernel_rfl) rfl ?_ ?_
   rotate_left
   · intro w hSw
     conv in opOf _ _ => whnf
     (try dsimp only at hSw)
     go_simp
     try (with_reducible rfl)
   try simp only [Act.put,List.setIfInBounds_toArray,List.set_cons_zero,List.set_cons_succ])
  refine held_done (by kernel_rfl) (fun hS => hR.out _ _ ?_)
  exact hQ _ _ _ _ _ _ _ _ _
end Go.Proofs.YthcjnkakfpmpbaaDoor
namespace Go.Proofs.YthcjnkakfpmpbaaDoor
open Go.ChangeShapes Go.WideShapes Go.ChangeAt Go.RowKit
set_option linter.unusedVariables false
section
variable {H : Type} {enc : TypeId × Value → H} {P : Program} {W : World}
theorem bytes_of_nums : ∀ zs : List Int,(∀ n ∈ zs,(Lit.int .u8 n).wf = true) → ∃ l : List UInt8,zs = l.map fun x => (x.toNat : Int)
  | [],_ => ⟨[],rfl⟩
  | z :: r,h => by
    obtain ⟨l,hl⟩ := bytes_of_nums r fun n hn => h n (List.mem_cons_of_mem _ hn)
    have hz := bounds_u8 (h z List.mem_cons_self)
    refine ⟨UInt8.ofNat z.toNat :: l,?_⟩
    rw [hl,List.map_cons,UInt8.toNat_ofNat']
    congr 1
    omega
theorem open_bytes {t e : TypeId} {A : Option Addr} {n c : Nat} {d : DataW H} {p : List MemPlace} (ht : P.underlying t = some (.slice e)) (he : P.underlying e = some (.int .u8)) (hc : P.cellsOf e = 1)
    (h : DataW.Trod enc P W 0 (fun _ => true) true t (.slice A n c) d p) :
    ∃ l : List UInt8,Sl W W.heap.size 1 A n (bs l) ∧ n ≤ c ∧ n ≤ maxLen ∧ (d = .nil ∧ n = 0 ∨ ∃ elems spare,d = .slice elems spare ∧ elems.length = n) := by
  obtain ⟨fuel,hf⟩ := h
  rcases open_ints ht he hc hf with ⟨hcs,hx⟩ | ⟨a,len,cap,zs,hcs,_,hl,hm,hz,hx,hcell,hwz⟩
  · simp [Value.cells] at hcs
    obtain ⟨rfl,rfl,rfl⟩ := hcs
    simp only [Prod.mk.injEq] at hx
    exact ⟨[],Sl.nil_ _ _ _ _,Nat.le_refl _,Nat.zero_le _,.inl ⟨hx.1,rfl⟩⟩
  · simp [Value.cells] at hcs
    obtain ⟨rfl,rfl,rfl⟩ := hcs
    simp only [if_true] at hz
    simp only [Prod.mk.injEq] at hx
    obtain ⟨l,rfl⟩ := bytes_of_nums zs hwz
    simp only [List.length_map] at hz hcell
    refine ⟨l.take n,⟨by simp [bs_length,hz]; omega,fun hn => ?_⟩,hl,by omega,.inr ⟨_,_,hx.1,by simp [lits,hz]; omega⟩⟩
    obtain ⟨b,o,spot⟩ := a
    have h0 := hcell 0 (by omega)
    have hspot : spot = none := by simpa [Addr.add] using World.cell?_spot h0
    subst hspot
    refine ⟨b,o,rfl,by simpa [Addr.add] using World.block_lt_of_cell? _ _ h0,fun j u hu => ?_⟩
    rw [bs_get] at hu
    obtain ⟨x,hx1,rfl⟩ := Option.map_eq_some_iff.1 hu
    rw [List.getElem?_take] at hx1
    split at hx1
    · have hj := hcell j (by omega)
      rw [add_flat] at hj
      rw [hj]
      simp [List.getD,hx1]
    · cases hx1
end
theorem reach_slice {H : Type} {P : Program} {ts : List TypeId} {ds : List (DataW H)} (hsz : (DataW.weightsEach P ts ds).all (· ≤ reachBytes) = true) {j : Nat} {t e : TypeId} {d : DataW H} (ht : ts[j]? = some t) (hd : ds[j]? = some d)
    (hu : P.underlying t = some (.slice e)) {n k : Nat} (hk : P.bytesOf e = k) (h : d = .nil ∧ n = 0 ∨ ∃ elems spare,d = .slice elems spare ∧ elems.length = n) : n * k ≤ 140737488351232 := by
  rcases h with ⟨_,rfl⟩ | ⟨elems,spare,rfl,rfl⟩
  · omega
  · have h1 := sized_slice hsz ht hd hu
    rw [hk] at h1
    have h2 : elems.length * k ≤ (elems.length + spare.length) * k := Nat.mul_le_mul_right _ (by omega)
    simp only [reachBytes] at h1
    omega
end Go.Proofs.YthcjnkakfpmpbaaDoor
