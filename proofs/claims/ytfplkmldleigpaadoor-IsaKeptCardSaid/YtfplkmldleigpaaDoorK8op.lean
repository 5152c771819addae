/- The walks of the book's Stays and Apart, at operations. Conditions: none. -/
import Derived.Test.YtfplkmldleigpaaDoorK6op
import Derived.Test.YtfplkmldleigpaaDoorK7s
import Derived.Deep.MidRow
namespace Go.Proofs.YtfplkmldleigpaaDoor.bookop
open Go.RowKit Go.Proofs.YtfplkmldleigpaaDoor.wide
set_option linter.unusedVariables false
set_option linter.unusedSimpArgs false

set_option maxRecDepth 100000 in
set_option maxHeartbeats 4000000 in
theorem stays_any (gB N : Nat) (A1 : Option Addr) (c1 : Nat) (A2 : Option Addr) (c2 : Nat) (h : Int) (es : List Ent) (w : World) (hb : BkW w gB (.slice A1 N c1) (.slice A2 N c2) N N (es.map Ent.v) (es.map Ent.was) h es) (hN : es.length = N) (hfew : N ≤ 4000) (hgood : ∀ x ∈ es, Good x.cs) :
    Calls Tryd.prog 48 #[.pointer (some ⟨gB, 0, none⟩)] w fun e w' => e = .returned (.bool true) ∧ BkW w' gB (.slice A1 N c1) (.slice A2 N c2) N N (es.map Ent.v) (es.map Ent.was) h es ∧
      BFr gB (Value.ownBlock (.slice A1 N c1)) (Value.ownBlock (.slice A2 N c2)) w (Value.ownBlock (.slice A1 N c1)) (Value.ownBlock (.slice A2 N c2)) w' := by
  have Hb := Lib.hid hb
  have HN := Lib.hid hN
  have Hgood := Lib.hid hgood
  clear hb hN hgood
  go_enter Tryd.func48, Tryd.ntmps48
  go_wp2_with fail
  go_loopw [3] (fun i wr => ∃ k : Nat, i = .int .i64 k ∧ k ≤ N ∧ BkW wr gB (.slice A1 N c1) (.slice A2 N c2) N N (es.map Ent.v) (es.map Ent.was) h es ∧
      BFr gB (Value.ownBlock (.slice A1 N c1)) (Value.ownBlock (.slice A2 N c2)) w (Value.ownBlock (.slice A1 N c1)) (Value.ownBlock (.slice A2 N c2)) wr) (fun i _ => N - (intOf i).toNat)
  case atStart => exact ⟨0, rfl, Nat.zero_le _, Hb.out, BFr.refl _ _ _ _⟩
  case round =>
    obtain ⟨k, rfl, hk, hB, hF⟩ := hrel
    have q0 := hB.blk.cell 0
    have q3 := hB.blk.cell 3
    simp only [List.getElem?_cons_zero, List.getElem?_cons_succ] at q0 q3
    have HB := Lib.hid hB
    have HF := Lib.hid hF
    clear hB hF
    by_cases hlt : k < N
    · obtain ⟨x, hx⟩ : ∃ x, es[k]? = some x := ⟨es[k]'(by rw [HN.out]; exact hlt), List.getElem?_eq_getElem _⟩
      obtain ⟨b1, o1, rfl, hb1, hb1', e1⟩ := HB.out.lists.at_ (k := k) (u := x.v) (by rw [List.getElem?_map, hx]; rfl)
      obtain ⟨b2, o2, rfl, hb2, hb2', e2⟩ := HB.out.was.at_ (k := k) (u := x.was) (by rw [List.getElem?_map, hx]; rfl)
      have hxm := List.mem_of_getElem? hx
      have Hs := Lib.hid (same_good (Hgood.out x hxm) (HB.out.drew.ents x hxm).1 (HB.out.drew.ents x hxm).2)
      have hI : (k : Int) < N := by omega
      clear hx
      go_wp2_with fail
      refine wp_region_swap (ops' := staysR4) (by kernel_rfl) (stays_r4 gB N N _ c1 _ c2 _ _ h es b1 o1 b2 o2 x k _ _ _ _ _ _ _ _ _ _ _ _ _ _ _ _ _ _ _ _ _ _ _ _ _ _ _ _ _ _ _ _ _ _ _ _ _ _ _ _ _ _ _ HB.out rfl rfl hlt hlt (by omega) e1 e2 Hs ?_)
      intro W4 v13 v14 v15 v16 v17 v18 v19 v20 v21 v22 v23 v24 v25 v26 v27 v28 v29 v30 v31 v32 v33 v34 v35 v36 v37 hB4 hF4
      go_wp2_with fail
      go_roundw
      case rel => exact ⟨k + 1, by go_num, by omega, hB4, HF.out.trans hF4⟩
      case measure => simp [intOf]; omega
    · obtain rfl : N = k := by omega
      go_wp2_with fail
      go_ret
      exact ⟨rfl, HB.out, HF.out⟩

/-- the marks -/
def markO (i j : Nat) : Int := wrap64 ((i : Int) * 65536 + j)
def mk (i j : Nat) : List Value := [.string ⟨#[109, 97, 114, 107]⟩, .int .u8 0, .int .i64 (markO i j)]
theorem there_of3 {w1 : World} {g : Nat} {t : TypeId} {cs : List Value} {n : Nat} (h : Blk w1 g t cs) (hn : cs.length = n) : w1.there g 0 n :=
  fun t ht => ⟨by rw [Nat.zero_add, h.cell, List.getElem?_eq_getElem (by omega)]; rfl, h.free _⟩
theorem wpList_st3 {P : Program} {w : World} {X : Nat} {t : TypeId} {z0 z1 z2 : Value} (hX : Blk w X t [z0, z1, z2]) {ops : Array Oper} {rest : List Oper} {a : Act} {o : Oper} {Q : Exit → Act → World → Prop} (hgd : o.guard = none) (ty : TypeId) (p y : Operand) (c0 c1 c2 : Value)
    (ho : o.op = .store ty p y) (hp : a.eval p = .pointer (some ⟨X, 0, none⟩)) (hy : a.eval y = .agg #[c0, c1, c2]) (h1 : (#[c0, c1, c2] : Array Value).all (·.oneCell') = true) (hi : (P.info? ty).map (·.size) = some 3)
    (hn : ((w.setCells X 0 [c0, c1, c2]).cell? ⟨X, 0, none⟩ = some c0 ∧ (w.setCells X 0 [c0, c1, c2]).cell? ⟨X, 1, none⟩ = some c1 ∧ (w.setCells X 0 [c0, c1, c2]).cell? ⟨X, 2, none⟩ = some c2) → wpList P ops Q rest (a.put o.dst undef) (w.setCells X 0 [c0, c1, c2])) : wpList P ops Q (o :: rest) a w := by
  have hB := ((hX.set_ 0 c0).set_ 1 c1).set_ 2 c2
  exact wpList_store_mid hgd ty p y ho X 0 #[c0, c1, c2] hp hy (there_of3 hX rfl) hi h1 (hn ⟨hB.cell 0, hB.cell 1, hB.cell 2⟩)
theorem below_cells3 {W : World} {g B : Nat} (hB : B ≤ g) : ∀ (vs : List Value) (o : Nat) (w1 : World), Below B W w1 → Below B W (w1.setCells g o vs)
  | [], _, _, h => h
  | v :: r, o, w1, h => below_cells3 hB r (o + 1) _ (h.setCell (p := ⟨g, o, none⟩) hB v)
theorem mark_any (i j : Nat) (w : World) (hi : i ≤ 4000) (hj : j ≤ 9223372036854775807) : Calls Tryd.prog 33 #[.int .i64 i, .int .i64 j] w fun e w' => e = .returned (.agg #[.string ⟨#[109, 97, 114, 107]⟩, .int .u8 0, .int .i64 (markO i j)]) ∧ Below w.heap.size w w' := by
  have hX := Blk.new w 25 [.string ⟨#[]⟩, .int .u8 0, .int .i64 0]
  have hM := Lib.hid (show markO i j = wrap64 ((i : Int) * 65536 + j) from rfl)
  go_enter Tryd.func33, Tryd.ntmps33
  go_wp2_with (first
    | ((with_reducible show wpList _ _ _ (Oper.mk none (Op.store _ (Operand.tmp 4) (Operand.tmp 9)) _ _ _ _ :: _) _ _); refine wpList_st3 hX rfl 25 (.tmp 4) (.tmp 9) (.string ⟨#[109, 97, 114, 107]⟩) (.int .u8 0) (.int .i64 (markO i j)) rfl (by kernel_rfl) (by rw [hM.out]; rfl) (by simp [Value.oneCell']) (by kernel_rfl) ?_; rintro ⟨z0, z1, z2⟩)
    | fail)
  refine bodyPost_ret (v := .agg #[.string ⟨#[109, 97, 114, 107]⟩, .int .u8 0, .int .i64 (markO i j)]) (by simp [results, Tryd.results33, go_sem, z0, z1, z2]) rfl ⟨rfl, below_cells3 (Nat.le_refl _) _ _ _ ((Below.refl _ _).alloc (Nat.le_refl _) _)⟩

theorem t_size : (Tryd.prog.info? 25).map (·.size) = some 3 := by kernel_rfl
theorem mk_len : ∀ i j, (mk i j).length = 3 := fun _ _ => rfl
theorem mk_keep {W W' : World} {g j : Nat} {m : Int} (h : W.cell? ⟨g, j * 3, none⟩ = some (.string ⟨#[109, 97, 114, 107]⟩) ∧ W.cell? ⟨g, j * 3 + 1, none⟩ = some (.int .u8 0) ∧ W.cell? ⟨g, j * 3 + 2, none⟩ = some (.int .i64 (m))) (hb : Below W.heap.size W W') : W'.cell? ⟨g, j * 3, none⟩ = some (.string ⟨#[109, 97, 114, 107]⟩) ∧ W'.cell? ⟨g, j * 3 + 1, none⟩ = some (.int .u8 0) ∧ W'.cell? ⟨g, j * 3 + 2, none⟩ = some (.int .i64 (m)) := by
  have hc : ∀ (t : Nat) (u : Value), W.cell? ⟨g, t, none⟩ = some u → W'.cell? ⟨g, t, none⟩ = some u := fun t u hu => (World.cell?_of_block (w := W) (a := ⟨g, t, none⟩) (hb.block g (World.block_lt_of_cell? _ _ hu))).trans hu
  exact ⟨hc _ _ h.1, hc _ _ h.2.1, hc _ _ h.2.2⟩
theorem kfr_then {U : Nat → Prop} {w w' w'' : World} (h : KFr U w w') (hb : Below w'.heap.size w' w'') : KFr U w w'' :=
  ⟨hb.os.trans h.os, hb.tape.trans h.tape, hb.output.trans h.output, Nat.le_trans h.size hb.size, fun k hk hu => (hb.block k (Nat.lt_of_lt_of_le hk h.size)).trans (h.block k hk hu)⟩
theorem mk_cells {W : World} {g k j : Nat} (h : ∀ t u, (mk k j)[t]? = some u → W.cell? ⟨g, j * 3 + t, none⟩ = some u) : W.cell? ⟨g, j * 3, none⟩ = some (.string ⟨#[109, 97, 114, 107]⟩) ∧ W.cell? ⟨g, j * 3 + 1, none⟩ = some (.int .u8 0) ∧ W.cell? ⟨g, j * 3 + 2, none⟩ = some (.int .i64 (markO k j)) := ⟨h 0 _ rfl, h 1 _ rfl, h 2 _ rfl⟩
noncomputable def apartR18 : Array Oper := regOf Tryd.f32.body 18
set_option maxRecDepth 100000 in
set_option maxHeartbeats 4000000 in
theorem apart_r18 (k j g c : Nat) (u0 u2 u3 u4 u5 u6 u7 u11 u12 u13 u14 u15 u16 u17 u18 u19 u20 u21 u22 u23 u24 u25 u26 u27 u28 u29 u30 u31 u32 u33 u34 u35 u36 u37 u38 u39 u40 u41 u42 u43 u44 u45 u46 u47 u48 u49 u50 u51 u52 u53 u54 u55 u56 u57 u58 u59 u60 u61 u62 u63 u64 u65 u66 u67 u68 u69 u70 u71 u72 u73 u74 u75 u76 u77 u78 u79 u80 u81 u82 u83 u84 u85 u86 u87 u88 u89 u90 u91 u92 u93 u94 u95 u96 u97 u98 u99 u100 : Value) (W : World) (Q : Exit → Act → World → Prop) (m : Int) (hmk : ∀ w, Calls Tryd.prog 33 #[.int .i64 k, .int .i64 j] w fun e w' => e = .returned (.agg #[.string ⟨#[109, 97, 114, 107]⟩, .int .u8 0, .int .i64 (m)]) ∧ Below w.heap.size w w') (hk : k ≤ 4000) (hj : j ≤ 9223372036854775807) (hjc : j < c) (hc : W.cell? ⟨g, j * 3, none⟩ = some (.string ⟨#[109, 97, 114, 107]⟩) ∧ W.cell? ⟨g, j * 3 + 1, none⟩ = some (.int .u8 0) ∧ W.cell? ⟨g, j * 3 + 2, none⟩ = some (.int .i64 (m)))
    (hQ : ∀ (v83 v84 v85 v86 v87 v88 v89 v90 : Value) (W' : World), Below W.heap.size W W' → Q .normal { tmps := #[u0, .func (.func 33) #[] #[], u2, u3, u4, u5, u6, u7, .int .i64 k, .slice (some ⟨g, 0, none⟩) c c, .int .i64 j, u11, u12, u13, u14, u15, u16, u17, u18, u19, u20, u21, u22, u23, u24, u25, u26, u27, u28, u29, u30, u31, u32, u33, u34, u35, u36, u37, u38, u39, u40, u41, u42, u43, u44, u45, u46, u47, u48, u49, u50, u51, u52, u53, u54, u55, u56, u57, u58, u59, u60, u61, u62, u63, u64, u65, u66, u67, u68, u69, u70, u71, u72, u73, u74, u75, u76, u77, u78, u79, u80, u81, u82, v83, v84, v85, v86, v87, v88, v89, v90, .bool false, u92, u93, u94, u95, u96, u97, u98, u99, u100], defers := [] } W') :
    (Code.region 18 apartR18 true).wp Tryd.prog Q { tmps := #[u0, .func (.func 33) #[] #[], u2, u3, u4, u5, u6, u7, .int .i64 k, .slice (some ⟨g, 0, none⟩) c c, .int .i64 j, u11, u12, u13, u14, u15, u16, u17, u18, u19, u20, u21, u22, u23, u24, u25, u26, u27, u28, u29, u30, u31, u32, u33, u34, u35, u36, u37, u38, u39, u40, u41, u42, u43, u44, u45, u46, u47, u48, u49, u50, u51, u52, u53, u54, u55, u56, u57, u58, u59, u60, u61, u62, u63, u64, u65, u66, u67, u68, u69, u70, u71, u72, u73, u74, u75, u76, u77, u78, u79, u80, u81, u82, u83, u84, u85, u86, u87, u88, u89, u90, u91, u92, u93, u94, u95, u96, u97, u98, u99, u100], defers := [] } W := by
  refine held_start (ops' := apartR18) (l0 := #[false, false, false, false, false, false, false, false, false]) (S := (fun w' => w'.cell? ⟨g, j * 3, none⟩ = some (.string ⟨#[109, 97, 114, 107]⟩) ∧ w'.cell? ⟨g, j * 3 + 1, none⟩ = some (.int .u8 0) ∧ w'.cell? ⟨g, j * 3 + 2, none⟩ = some (.int .i64 (m)))) (by kernel_rfl) (by kernel_rfl) (by kernel_rfl) (by kernel_rfl) hc (fun R hR => ?_)
  (refine held_take (v := ?_) (d := some 83) 0 (by kernel_rfl) (by kernel_rfl) rfl ?_ ?_
   rotate_left
   · intro w hSw
     conv in opOf _ _ => whnf
     (obtain ⟨hSa, hSb, hSc⟩ := hSw)
     go_simp
     try (with_reducible rfl)
   try simp only [Act.put, List.setIfInBounds_toArray, List.set_cons_zero, List.set_cons_succ])
  (refine held_take (v := ?_) (d := some 84) 1 (by kernel_rfl) (by kernel_rfl) rfl ?_ ?_
   rotate_left
   · intro w hSw
     conv in opOf _ _ => whnf
     (obtain ⟨hSa, hSb, hSc⟩ := hSw)
     go_simp
     try (with_reducible rfl)
   try simp only [Act.put, List.setIfInBounds_toArray, List.set_cons_zero, List.set_cons_succ])
  (refine held_take (v := ?_) (d := some 85) 2 (by kernel_rfl) (by kernel_rfl) rfl ?_ ?_
   rotate_left
   · intro w hSw
     conv in opOf _ _ => whnf
     (obtain ⟨hSa, hSb, hSc⟩ := hSw)
     go_simp
     try (with_reducible rfl)
   try simp only [Act.put, List.setIfInBounds_toArray, List.set_cons_zero, List.set_cons_succ])
  (refine held_take (v := ?_) (d := some 86) 3 (by kernel_rfl) (by kernel_rfl) rfl ?_ ?_
   rotate_left
   · intro w hSw
     conv in opOf _ _ => whnf
     (obtain ⟨hSa, hSb, hSc⟩ := hSw)
     go_simp
     try (with_reducible rfl)
   try simp only [Act.put, List.setIfInBounds_toArray, List.set_cons_zero, List.set_cons_succ])
  (refine held_take (v := ?_) (d := some 87) 4 (by kernel_rfl) (by kernel_rfl) rfl ?_ ?_
   rotate_left
   · intro w hSw
     conv in opOf _ _ => whnf
     (obtain ⟨hSa, hSb, hSc⟩ := hSw)
     go_simp
     try (with_reducible rfl)
   try simp only [Act.put, List.setIfInBounds_toArray, List.set_cons_zero, List.set_cons_succ])
  (refine held_take (v := ?_) (d := some 88) 5 (by kernel_rfl) (by kernel_rfl) rfl ?_ ?_
   rotate_left
   · intro w hSw
     conv in opOf _ _ => whnf
     (obtain ⟨hSa, hSb, hSc⟩ := hSw)
     go_simp
     try (with_reducible rfl)
   try simp only [Act.put, List.setIfInBounds_toArray, List.set_cons_zero, List.set_cons_succ])
  (refine held_take (v := ?_) (d := some 89) 6 (by kernel_rfl) (by kernel_rfl) rfl ?_ ?_
   rotate_left
   · intro w hSw
     conv in opOf _ _ => whnf
     (obtain ⟨hSa, hSb, hSc⟩ := hSw)
     go_simp
     try (with_reducible rfl)
   try simp only [Act.put, List.setIfInBounds_toArray, List.set_cons_zero, List.set_cons_succ])
  (refine held_one 7 (by kernel_rfl) (by kernel_rfl) (held_call (d := some 90) 7 (by kernel_rfl) (by kernel_rfl) rfl (fun hS => hmk _) (by kernel_rfl) (fun w' hS hbb => ⟨mk_keep hS hbb, ?_⟩))
   try simp only [Act.put, List.setIfInBounds_toArray, List.set_cons_zero, List.set_cons_succ])
  (refine held_take (v := ?_) (d := some 91) 8 (by kernel_rfl) (by kernel_rfl) rfl ?_ ?_
   rotate_left
   · intro w hSw
     conv in opOf _ _ => whnf
     (obtain ⟨hSa, hSb, hSc⟩ := hSw)
     go_simp
     try (with_reducible rfl)
   try simp only [Act.put, List.setIfInBounds_toArray, List.set_cons_zero, List.set_cons_succ])
  refine held_done (by kernel_rfl) (fun hS => hR.out _ _ ?_)
  exact hQ _ _ _ _ _ _ _ _ _ ((below_drewN (Below.refl _ _) 1).trans hbb)

theorem kfr_cells {U : Nat → Prop} {w w' : World} (h : KFr U w w') {g : Nat} (hg : U g) : ∀ (vs : List Value) (o : Nat), KFr U w (w'.setCells g o vs) := by
  intro vs
  induction vs generalizing w' with
  | nil => intro o; exact h
  | cons v r ih => intro o; exact ih (h.set_ v hg) (o + 1)
theorem there_of_row {W : World} {g j c sz : Nat} {cur : Array Value} {e : TypeId} (hg : W.heap[g]? = some (.cells cur e (0, 0))) (hj : j < c) (hs : c * sz ≤ cur.size) : W.there g (j * sz) sz := by
  have : (j + 1) * sz ≤ c * sz := Nat.mul_le_mul_right _ hj
  rw [Nat.add_mul, Nat.one_mul] at this
  exact fun t ht => ⟨by rw [cell_of_row W g (j * sz + t) cur e (0, 0) hg, Array.getElem?_eq_getElem (by omega)]; rfl, frozen_of_row W g (j * sz + t) cur e hg⟩
set_option maxRecDepth 100000 in
set_option maxHeartbeats 16000000 in
theorem apart_any (gB : Nat) (U : Nat → Prop) (w : World) (hb : BAt w gB U) :
    Calls Tryd.prog 32 #[.pointer (some ⟨gB, 0, none⟩), .func (.func 33) #[] #[]] w fun e w' => e = .returned (.bool true) ∧ KFr U w w' := by
  obtain ⟨A1, c1, A2, c2, h, es, bk, hfew, ⟨hh0, hh1⟩, hgood, hU, hbound⟩ := hb
  obtain ⟨N, hN⟩ : ∃ N, N = es.length := ⟨_, rfl⟩
  unfold Book at bk
  rw [← hN] at bk hU hfew
  have Hbk := Lib.hid bk
  have HU := Lib.hid hU
  have Hgood := Lib.hid hgood
  have HN := Lib.hid hN
  clear hU hbound hgood bk hN
  go_enter Tryd.func32, Tryd.ntmps32
  go_wp2_with (first
    | (go_at_call 48; refine (stays_any gB N A1 c1 A2 c2 h es w Hbk.out HN.out.symm hfew Hgood.out).mono ?_; rintro e w1 ⟨rfl, hB1, hF1⟩)
    | fail)
  have hK1 : KFr U w w1 := ⟨hF1.os, hF1.tape, hF1.output, hF1.size, fun k hk hu => hF1.block k hk (fun e => hu (HU.out k (.inl e))) (fun e => hu (HU.out k (.inr (.inl e)))) (fun e => hu (HU.out k (.inr (.inr (.inl e)))))⟩
  have hL1 := wide.Fl.start hB1 HN.out.symm mk
  have HL1 := Lib.hid hL1
  have hUl : ∀ x ∈ es, ∀ k, blkOf x.A x.c = some k → U k := fun x hx k hk => HU.out k (.inr (.inr (.inr ⟨x, hx, .inl hk⟩)))
  have HUl := Lib.hid hUl
  clear hB1 hF1 hL1 hUl
  go_loopw [5] (fun i wr => ∃ k : Nat, i = .int .i64 k ∧ k ≤ N ∧ wide.Fl wr 51 42 25 3 gB A1 c1 N (.slice A2 N c2) h es mk k 0 ∧ KFr U w wr) (fun i _ => N - (intOf i).toNat)
  case atStart => exact ⟨0, rfl, Nat.zero_le _, HL1.out, hK1⟩
  case round =>
    obtain ⟨k, rfl, hk, hL, hK⟩ := hrel
    have q0 := hL.blk.cell 0
    simp only [List.getElem?_cons_zero] at q0
    have HL := Lib.hid hL
    have HK := Lib.hid hK
    clear hL hK
    by_cases hlt : k < N
    · obtain ⟨x, hx⟩ := HL.out.ent hlt
      obtain ⟨b1, o1, rfl, e1⟩ := HL.out.slice hx
      have hxm := List.mem_of_getElem? hx
      have hrc := HL.out.row.cap
      obtain ⟨x0, x1, xw⟩ := HL.out.wide x hxm
      unfold maxLen at hrc x1
      have hI : (k : Int) < N := by omega
      have Hx := Lib.hid hx
      clear hx
      obtain ⟨xA, xn, xc, xcs, xA', xc'⟩ := x
      simp only at e1 x0 x1 xw
      have hsl : ∃ xA', xA = xA' := ⟨_, rfl⟩
      clear xw
      go_wp2_with fail
      go_quiet (fail)
      go_wp2_with fail
      go_loopw [7] (fun i wv => ∃ j : Nat, i = .int .i64 j ∧ j ≤ xc ∧ wide.Fl wv 51 42 25 3 gB (some ⟨b1, o1, none⟩) c1 N (.slice A2 N c2) h es mk k j ∧ KFr U w wv) (fun i _ => xc - (intOf i).toNat)
      case atStart => exact ⟨0, rfl, Nat.zero_le _, HL.out.drewN _, HK.out.drewN _⟩
      case round =>
        obtain ⟨j, rfl, hj, hL2, hK2⟩ := hrel
        have HL2 := Lib.hid hL2
        have HK2 := Lib.hid hK2
        clear hL2 hK2
        by_cases hlt2 : j < xc
        · obtain ⟨_, _, h0 | ⟨g, cur, hA, hb, hg, hs⟩⟩ := HL2.out.wide _ hxm
          · exact absurd (show xc = 0 from h0) (by omega)
          simp only at hA hs
          subst hA
          have hJ : (j : Int) < xc := by omega
          go_wp2_with (first
            | (go_at_call 33; refine (mark_any k j _ (by omega) (by omega)).mono ?_; rintro e wm ⟨rfl, hbm⟩; have hgm := (hbm.block g (Array.getElem?_eq_some_iff.1 hg).1).trans hg; have hthere := there_of_row (sz := 3) hgm hlt2 hs; have HL3 := Lib.hid (HL2.out.below hbm); have HK3 := Lib.hid (kfr_then HK2.out hbm); have q0m := HL3.out.blk.cell 0; simp only [List.getElem?_cons_zero] at q0m)
            | ((with_reducible show wpList _ _ _ _ _ _); refine wpList_store_mid (op := ⟨none, .store 25 (.tmp 51) (.tmp 50), _, _, _, _⟩) rfl 25 (.tmp 51) (.tmp 50) rfl g (j * 3) #[.string ⟨#[109, 97, 114, 107]⟩, .int .u8 0, .int .i64 (markO k j)] rfl rfl hthere t_size (by simp [Value.oneCell']) ?_)
            | fail)
          go_roundw
          case rel => exact ⟨j + 1, by go_num, by omega, HL3.out.store Hx.out hlt2 mk_len rfl, kfr_cells HK3.out (HUl.out _ hxm g (blkOf_some (by show 0 < xc; omega))) _ _⟩
          case measure => simp [intOf]; omega
        · obtain rfl : xc = j := by omega
          go_wp2_with fail
          go_roundw
          case rel => exact ⟨k + 1, by go_num, by omega, HL2.out.next Hx.out (Nat.le_refl _), HK2.out⟩
          case measure => simp [intOf]; omega
    · obtain rfl : N = k := by omega
      go_wp2_with fail
      go_loopw [8] (fun i wr => ∃ k : Nat, i = .int .i64 k ∧ k ≤ N ∧ wide.Fl wr 51 42 25 3 gB A1 c1 N (.slice A2 N c2) h es mk N 0 ∧ KFr U w wr) (fun i _ => N - (intOf i).toNat)
      case atStart => exact ⟨0, rfl, Nat.zero_le _, HL.out, HK.out⟩
      case round =>
        obtain ⟨k, rfl, hk, hL, hK⟩ := hrel
        have q0 := hL.blk.cell 0
        have q1 := hL.blk.cell 1
        have q2 := hL.blk.cell 2
        have f0 := hL.blk.free 0
        have f1 := hL.blk.free 1
        have f2 := hL.blk.free 2
        simp only [List.getElem?_cons_zero, List.getElem?_cons_succ] at q0 q1 q2
        have HL := Lib.hid hL
        have HK := Lib.hid hK
        clear hL hK
        by_cases hlt : k < N
        · obtain ⟨x, hx⟩ := HL.out.ent hlt
          obtain ⟨b1, o1, rfl, e1⟩ := HL.out.slice hx
          have hxm := List.mem_of_getElem? hx
          have hrc := HL.out.row.cap
          obtain ⟨x0, x1, xw⟩ := HL.out.wide x hxm
          unfold maxLen at hrc x1
          have hI : (k : Int) < N := by omega
          have Hx := Lib.hid hx
          clear hx
          obtain ⟨xA, xn, xc, xcs, xA', xc'⟩ := x
          simp only at e1 x0 x1 xw
          clear xw q1 q2 f0 f1 f2
          go_wp2_with fail
          go_quiet (fail)
          go_wp2_with fail
          go_loopw [10] (fun i wv => ∃ j : Nat, i = .int .i64 j ∧ j ≤ xc ∧ wide.Fl wv 51 42 25 3 gB (some ⟨b1, o1, none⟩) c1 N (.slice A2 N c2) h es mk N 0 ∧ KFr U w wv) (fun i _ => xc - (intOf i).toNat)
          case atStart => exact ⟨0, rfl, Nat.zero_le _, HL.out.drewN _, HK.out.drewN _⟩
          case round =>
            obtain ⟨j, rfl, hj, hL2, hK2⟩ := hrel
            have HL2 := Lib.hid hL2
            have HK2 := Lib.hid hK2
            clear hL2 hK2
            by_cases hlt2 : j < xc
            · obtain ⟨g, hA, hc⟩ := HL2.out.done k _ (by omega) Hx.out j hlt2
              simp only at hA
              subst hA
              have hc3 := mk_cells hc
              have hJ : (j : Int) < xc := by omega
              go_wp2_with fail
              refine wp_region_swap (ops' := apartR18) (by kernel_rfl) (apart_r18 k j g xc _ _ _ _ _ _ _ _ _ _ _ _ _ _ _ _ _ _ _ _ _ _ _ _ _ _ _ _ _ _ _ _ _ _ _ _ _ _ _ _ _ _ _ _ _ _ _ _ _ _ _ _ _ _ _ _ _ _ _ _ _ _ _ _ _ _ _ _ _ _ _ _ _ _ _ _ _ _ _ _ _ _ _ _ _ _ _ _ _ _ _ _ _ _ _ _ _ _ _ (markO k j) (fun w => mark_any k j w (by omega) (by omega)) (by omega) (by omega) hlt2 hc3 ?_)
              intro v83 v84 v85 v86 v87 v88 v89 v90 W18 hb18
              go_wp2_with fail
              go_roundw
              case rel => exact ⟨j + 1, by go_num, by omega, HL2.out.below hb18, kfr_then HK2.out hb18⟩
              case measure => simp [intOf]; omega
            · obtain rfl : xc = j := by omega
              go_wp2_with fail
              go_roundw
              case rel => exact ⟨k + 1, by go_num, by omega, HL2.out, HK2.out⟩
              case measure => simp [intOf]; omega
        · obtain rfl : N = k := by omega
          have hgU := HU.out gB (.inl rfl)
          go_wp2_with fail
          go_ret
          exact ⟨rfl, ((HK.out.set_ _ hgU).set_ _ hgU).set_ _ hgU⟩
end Go.Proofs.YtfplkmldleigpaaDoor.bookop
