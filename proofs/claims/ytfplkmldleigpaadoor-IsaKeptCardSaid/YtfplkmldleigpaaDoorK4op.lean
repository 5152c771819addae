/- The regions of the book's Keep and Stays that draw their order, at operations. Conditions: none. -/
import Derived.Test.YtfplkmldleigpaaDoorK3
import Derived.Test.YtfplkmldleigpaaDoorRows
namespace Go.Proofs.YtfplkmldleigpaaDoor.bookop
open Go.RowKit
set_option linter.unusedVariables false
set_option linter.unusedSimpArgs false

noncomputable def keepR1 : Array Oper := regOf Tryd.f31.body 1
noncomputable def keepR4 : Array Oper := regOf Tryd.f31.body 4
noncomputable def keepR5 : Array Oper := regOf Tryd.f31.body 5
noncomputable def staysR4 : Array Oper := regOf Tryd.f48.body 4
theorem tl_info : (Tryd.prog.info? 42).map (fun i => (i.zero, i.size, i.bytes)) = some (some (.slice none 0 0), 1, 24) := by kernel_rfl
theorem t_info : (Tryd.prog.info? 25).map (fun i => (i.zero, i.size, i.bytes)) = some (some (.agg #[.string ⟨#[]⟩, .int .u8 0, .int .i64 0]), 3, 32) := by kernel_rfl
abbrev BkW (w : World) (gB : Nat) (v1 v2 : Value) (n1 n2 : Nat) (xs1 xs2 : List Value) (h : Int) (es : List Ent) : Prop := Bk w 51 42 25 3 gB v1 v2 n1 n2 xs1 xs2 h es

/-- behind the copy: what the book holds -/
theorem r1_end {gB n1 n2 n : Nat} {v1 : Value} {A2 : Option Addr} {c2 : Nat} {xs1 xs2 : List Value} {h : Int} {es : List Ent} {A : Option Addr} {c : Nat} {cs : List Value} {W w4 w6 : World} (hb : BkW W gB v1 (.slice A2 n2 c2) n1 n2 xs1 xs2 h (es ++ [⟨A, n, c, cs, A, c⟩]))
    {Ac : Option Addr} {cc : Nat} (hown : w4.ownsRow W.heap.size 25 3 (.slice Ac n cc) n cs) (hg4 : W.grownBy w4 none) {A2' : Option Addr} {c2' : Nat}
    (hrow : Row w6 (gB + 1) 42 (.slice A2' (n2 + 1) c2') (n2 + 1) (xs2 ++ [.slice Ac n cc])) (hg6 : (w4.alloc (.cells #[.slice Ac n cc] 42)).grownBy w6 (Value.ownBlock (.slice A2 n2 c2)))
    (ho : ∀ k, Value.ownBlock (.slice A2' (n2 + 1) c2') = some k → Value.ownBlock (.slice A2 n2 c2) = some k ∨ (w4.alloc (.cells #[.slice Ac n cc] 42)).heap.size ≤ k) :
    BkW (w6.setCell ⟨gB, 1, none⟩ (.slice A2' (n2 + 1) c2')) gB v1 (.slice A2' (n2 + 1) c2') n1 (n2 + 1) xs1 (xs2 ++ [.slice Ac n cc]) h (es ++ [⟨A, n, c, cs, Ac, cc⟩]) ∧
    BFr gB v1.ownBlock (Value.ownBlock (.slice A2 n2 c2)) W v1.ownBlock (Value.ownBlock (.slice A2' (n2 + 1) c2')) (w6.setCell ⟨gB, 1, none⟩ (.slice A2' (n2 + 1) c2')) ∧ ∀ k, blkOf Ac cc = some k → W.heap.size ≤ k := by
  have h4 := hb.grown0 hg4
  have hzz := hg4.size
  have hlt := hb.used_lt (k := gB) (.inl rfl)
  have k4 : Kept w4 (gB + 1) 25 3 Ac n cc cs := (Kept.of_own hown).more (by omega)
  have h5 := (h4.copy (x := ⟨A, n, c, cs, A, c⟩) (A' := Ac) (c' := cc) k4 (fun k hk => by
    have hkk := kept_fresh hown k hk
    exact ⟨fun e => by have := (hb.lists.lt k e).2; omega, fun e => by have := (hb.was.lt k e).2; omega⟩)).alloc (.cells #[.slice Ac n cc] 42)
  exact ⟨h5.push2 hg6 hrow ho, ((((BFr.refl gB _ _ W).grown0 hg4).alloc _).grown2 hg6 ho).setB 1 _, fun k hk => kept_fresh hown k hk⟩

set_option maxRecDepth 100000 in
set_option maxHeartbeats 4000000 in
theorem keep_r1 (gB n1 n2 n : Nat) (v1 : Value) (A2 : Option Addr) (c2 : Nat) (xs1 xs2 : List Value) (h : Int) (es : List Ent) (A : Option Addr) (c : Nat) (cs : List Value) (u2 u3 u4 u5 u6 u7 u8 u9 u10 u11 u12 u13 u14 u15 u16 u17 u18 u19 u20 u21 u22 u23 u24 u25 u26 u27 u28 u29 u30 u31 u32 u33 u34 u35 u36 u37 u38 u39 u40 u41 u42 u43 u44 u45 u46 u47 u48 u49 u50 u51 u52 u53 u54 u55 u56 u57 u58 u59 u60 u61 u62 u63 u64 u65 u66 u67 u68 u69 u70 u71 u72 u73 u74 u75 u76 u77 u78 u79 u80 u81 u82 u83 u84 u85 u86 u87 u88 u89 u90 u91 u92 u93 u94 u95 u96 u97 u98 u99 u100 u101 u102 u103 u104 u105 u106 u107 u108 u109 u110 u111 : Value) (W : World) (Q : Exit → Act → World → Prop)
    (hb : BkW W gB v1 (.slice A2 n2 c2) n1 n2 xs1 xs2 h (es ++ [⟨A, n, c, cs, A, c⟩])) (hone : ∀ u ∈ cs, u.oneCell' = true) (hn2 : n2 ≤ 1000000) (hn : n * 32 ≤ 140737488355328)
    (hQ : ∀ (A2' : Option Addr) (c2' : Nat) (Ac : Option Addr) (cc : Nat) (W' : World) (v14 v15 v16 v17 v18 v19 v20 v21 v22 v23 v24 : Value),
      BkW W' gB v1 (.slice A2' (n2 + 1) c2') n1 (n2 + 1) xs1 (xs2 ++ [.slice Ac n cc]) h (es ++ [⟨A, n, c, cs, Ac, cc⟩]) →
      BFr gB v1.ownBlock (Value.ownBlock (.slice A2 n2 c2)) W v1.ownBlock (Value.ownBlock (.slice A2' (n2 + 1) c2')) W' → (∀ k, blkOf Ac cc = some k → W.heap.size ≤ k) → Q .normal { tmps := #[.pointer (some ⟨gB, 0, none⟩), .slice A n c, u2, u3, u4, u5, u6, u7, u8, u9, u10, u11, u12, u13, v14, v15, v16, v17, v18, v19, v20, v21, v22, v23, v24, u25, u26, u27, u28, u29, u30, u31, u32, u33, u34, u35, u36, u37, u38, u39, u40, u41, u42, u43, u44, u45, u46, u47, u48, u49, u50, u51, u52, u53, u54, u55, u56, u57, u58, u59, u60, u61, u62, u63, u64, u65, u66, u67, u68, u69, u70, u71, u72, u73, u74, u75, u76, u77, u78, u79, u80, u81, u82, u83, u84, u85, u86, u87, u88, u89, u90, u91, u92, u93, u94, u95, u96, u97, u98, u99, u100, u101, u102, u103, u104, u105, u106, u107, u108, u109, u110, u111], defers := [] } W') :
    (Code.region 1 keepR1 true).wp Tryd.prog Q { tmps := #[.pointer (some ⟨gB, 0, none⟩), .slice A n c, u2, u3, u4, u5, u6, u7, u8, u9, u10, u11, u12, u13, u14, u15, u16, u17, u18, u19, u20, u21, u22, u23, u24, u25, u26, u27, u28, u29, u30, u31, u32, u33, u34, u35, u36, u37, u38, u39, u40, u41, u42, u43, u44, u45, u46, u47, u48, u49, u50, u51, u52, u53, u54, u55, u56, u57, u58, u59, u60, u61, u62, u63, u64, u65, u66, u67, u68, u69, u70, u71, u72, u73, u74, u75, u76, u77, u78, u79, u80, u81, u82, u83, u84, u85, u86, u87, u88, u89, u90, u91, u92, u93, u94, u95, u96, u97, u98, u99, u100, u101, u102, u103, u104, u105, u106, u107, u108, u109, u110, u111], defers := [] } W := by
  obtain ⟨i0, hi0, hz0, hz1, hz2⟩ := info_parts tl_info
  obtain ⟨i1, hi1, hy0, hy1, hy2⟩ := info_parts t_info
  have hsl : Sl W W.heap.size 3 A n cs := (hb.ents _ (List.mem_append_right _ (List.mem_singleton.2 rfl))).1.sl
  have q1 := hb.blk.cell 1
  have hzW := hb.blk.lt
  simp only [List.getElem?_cons_zero, List.getElem?_cons_succ] at q1
  refine held_start (ops' := keepR1) (l0 := #[false, false, false, false, false, false, false, false, false, false, false, false]) (S := (fun _ => True)) (by kernel_rfl) (by kernel_rfl) (by kernel_rfl) (by kernel_rfl) trivial (fun R hR => ?_)
  (refine held_take (v := ?_) (d := some 14) 0 (by kernel_rfl) (by kernel_rfl) rfl ?_ ?_
   rotate_left
   · intro w hSw
     conv in opOf _ _ => whnf
     (try dsimp only at hSw)
     go_simp
     try (with_reducible rfl)
   try simp only [Act.put, List.setIfInBounds_toArray, List.set_cons_zero, List.set_cons_succ])
  (refine held_take (v := ?_) (d := some 15) 1 (by kernel_rfl) (by kernel_rfl) rfl ?_ ?_
   rotate_left
   · intro w hSw
     conv in opOf _ _ => whnf
     (try dsimp only at hSw)
     go_simp
     try (with_reducible rfl)
   try simp only [Act.put, List.setIfInBounds_toArray, List.set_cons_zero, List.set_cons_succ])
  (refine held_take (v := ?_) (d := some 16) 2 (by kernel_rfl) (by kernel_rfl) rfl ?_ ?_
   rotate_left
   · intro w hSw
     conv in opOf _ _ => whnf
     (try dsimp only at hSw)
     go_simp
     try (with_reducible rfl)
   try simp only [Act.put, List.setIfInBounds_toArray, List.set_cons_zero, List.set_cons_succ])
  (refine held_take (v := ?_) (d := some 17) 3 (by kernel_rfl) (by kernel_rfl) rfl ?_ ?_
   rotate_left
   · intro w hSw
     conv in opOf _ _ => whnf
     (try dsimp only at hSw)
     go_simp
     try (with_reducible rfl)
   try simp only [Act.put, List.setIfInBounds_toArray, List.set_cons_zero, List.set_cons_succ])
  (refine held_take (v := ?_) (d := some 19) 5 (by kernel_rfl) (by kernel_rfl) rfl ?_ ?_
   rotate_left
   · intro w hSw
     conv in opOf _ _ => whnf
     (try dsimp only at hSw)
     go_simp
     try (with_reducible rfl)
   try simp only [Act.put, List.setIfInBounds_toArray, List.set_cons_zero, List.set_cons_succ])
  refine held_two 4 6 (by kernel_rfl) (by kernel_rfl) (by kernel_rfl) ?_ ?_
  · (refine (held_run (v := ?_) (w' := ?_) (d := some 18) 4 (by kernel_rfl) (by kernel_rfl) rfl ?_ ?_)
     rotate_left 2
     · intro hSw
       conv in opOf _ _ => whnf
       go_simp
       first | done | (with_reducible rfl) | (constructor <;> with_reducible rfl)
     intro hS
     refine ⟨trivial, ?_⟩
     try simp only [Act.put, List.setIfInBounds_toArray, List.set_cons_zero, List.set_cons_succ])
    (refine held_one 6 (by kernel_rfl) (by kernel_rfl) (held_app 6 (d := some 20) (by kernel_rfl) (by kernel_rfl) rfl (.const (.slice none 0 0)) (.tmp 19) 42 (by kernel_rfl) W.heap.size 25 i1 (.agg #[.string ⟨#[]⟩, .int .u8 0, .int .i64 0]) 3 32 Tryd.underlying42 hi1 hy0 hy1 hy2 rfl (by omega) (.slice none 0 0) 0 [] (by kernel_rfl) (own_nil _ _ _ _) W.heap.size A n c cs (by kernel_rfl) hsl.drew hone (by unfold maxLen; omega) (by omega) (Nat.le_refl _) n (by omega) cs rfl (fun Ac cc w4 _ _ hown4 hg4 => ⟨trivial, ?_⟩))
     try simp only [Act.put, List.setIfInBounds_toArray, List.set_cons_zero, List.set_cons_succ])
    have hg4' : W.grownBy w4 none := ⟨hg4.os, hg4.tape, hg4.output, hg4.size, hg4.block⟩
    have hb4 := hb.grown0 hg4'
    have q4 := hb4.blk.cell 1
    have hz4 : w4.heap.size = w4.heap.size := rfl
    simp only [List.getElem?_cons_zero, List.getElem?_cons_succ] at q4
    have hzB := hb4.blk.lt
    (refine held_one 7 (by kernel_rfl) (by kernel_rfl) (held_run (v := ?_) (w' := ?_) (d := some 21) 7 (by kernel_rfl) (by kernel_rfl) rfl ?_ ?_)
     rotate_left 2
     · intro hSw
       conv in opOf _ _ => whnf
       go_simp
       first | done | (with_reducible rfl) | (constructor <;> with_reducible rfl)
     intro hS
     refine ⟨trivial, ?_⟩
     try simp only [Act.put, List.setIfInBounds_toArray, List.set_cons_zero, List.set_cons_succ])
    (refine held_one 8 (by kernel_rfl) (by kernel_rfl) (held_row 8 (d := some 22) (by kernel_rfl) (by kernel_rfl) rfl (.tmp 18) (.tmp 21) 49 (by kernel_rfl) (gB + 1) 42 i0 (.slice none 0 0) 24 Tryd.underlying49 hi0 hz0 hz1 hz2 rfl (.slice A2 n2 c2) n2 xs2 (by kernel_rfl) (hb4.was.keep fun k hk => Below.heap_alloc w4 _ k (hb4.was.lt k hk).2) w4.heap.size 0 1 (.slice Ac n cc) (by kernel_rfl) (by simp) rfl (by unfold maxLen; omega) (by omega) (by rw [World.size_alloc]; omega) (fun A2' c2' w6 _ hrow6 hg6 ho6 => ⟨trivial, ?_⟩))
     try simp only [Act.put, List.setIfInBounds_toArray, List.set_cons_zero, List.set_cons_succ])
    obtain ⟨hB, hF, hK⟩ := r1_end hb hown4 hg4' hrow6 hg6 ho6
    have hb6 : Blk w6 gB _ _ := (hb4.blk.alloc _).grown hg6 (fun e => by have := hb.was.lt gB e.symm; omega)
    have q6 := hb6.cell 1
    have q7 := hb6.free 1
    simp only [List.getElem?_cons_zero, List.getElem?_cons_succ] at q6
    (refine held_take (v := ?_) (d := some 23) 9 (by kernel_rfl) (by kernel_rfl) rfl ?_ ?_
     rotate_left
     · intro w hSw
       conv in opOf _ _ => whnf
       (try dsimp only at hSw)
       go_simp
       try (with_reducible rfl)
     try simp only [Act.put, List.setIfInBounds_toArray, List.set_cons_zero, List.set_cons_succ])
    (refine held_take (v := ?_) (d := some 24) 10 (by kernel_rfl) (by kernel_rfl) rfl ?_ ?_
     rotate_left
     · intro w hSw
       conv in opOf _ _ => whnf
       (try dsimp only at hSw)
       go_simp
       try (with_reducible rfl)
     try simp only [Act.put, List.setIfInBounds_toArray, List.set_cons_zero, List.set_cons_succ])
    (refine held_one 11 (by kernel_rfl) (by kernel_rfl) (held_mute (w' := ?_) (d := none) 11 (by kernel_rfl) (by kernel_rfl) rfl ?_ ?_)
     rotate_left 1
     · intro hSw
       conv in opOf _ _ => whnf
       go_simp
       first | done | (with_reducible rfl)
     intro hS
     refine ⟨trivial, ?_⟩
     try simp only [Act.put, List.setIfInBounds_toArray, List.set_cons_zero, List.set_cons_succ])
    refine held_done (by kernel_rfl) (fun hS => hR.out _ _ ?_)
    exact hQ _ _ _ _ _ _ _ _ _ _ _ _ _ _ _ _ hB hF hK
  · (refine (held_app 6 (d := some 20) (by kernel_rfl) (by kernel_rfl) rfl (.const (.slice none 0 0)) (.tmp 19) 42 (by kernel_rfl) W.heap.size 25 i1 (.agg #[.string ⟨#[]⟩, .int .u8 0, .int .i64 0]) 3 32 Tryd.underlying42 hi1 hy0 hy1 hy2 rfl (by omega) (.slice none 0 0) 0 [] (by kernel_rfl) (own_nil _ _ _ _) W.heap.size A n c cs (by kernel_rfl) hsl.drew hone (by unfold maxLen; omega) (by omega) (Nat.le_refl _) n (by omega) cs rfl (fun Ac cc w4 _ _ hown4 hg4 => ⟨trivial, ?_⟩))
     try simp only [Act.put, List.setIfInBounds_toArray, List.set_cons_zero, List.set_cons_succ])
    have hg4' : W.grownBy w4 none := ⟨hg4.os, hg4.tape, hg4.output, hg4.size, hg4.block⟩
    have hb4 := hb.grown0 hg4'
    have q4 := hb4.blk.cell 1
    have hz4 : w4.heap.size = w4.heap.size := rfl
    simp only [List.getElem?_cons_zero, List.getElem?_cons_succ] at q4
    have hzB := hb4.blk.lt
    refine held_two 4 7 (by kernel_rfl) (by kernel_rfl) (by kernel_rfl) ?_ ?_
    · (refine (held_run (v := ?_) (w' := ?_) (d := some 18) 4 (by kernel_rfl) (by kernel_rfl) rfl ?_ ?_)
       rotate_left 2
       · intro hSw
         conv in opOf _ _ => whnf
         go_simp
         first | done | (with_reducible rfl) | (constructor <;> with_reducible rfl)
       intro hS
       refine ⟨trivial, ?_⟩
       try simp only [Act.put, List.setIfInBounds_toArray, List.set_cons_zero, List.set_cons_succ])
      (refine held_one 7 (by kernel_rfl) (by kernel_rfl) (held_run (v := ?_) (w' := ?_) (d := some 21) 7 (by kernel_rfl) (by kernel_rfl) rfl ?_ ?_)
       rotate_left 2
       · intro hSw
         conv in opOf _ _ => whnf
         go_simp
         first | done | (with_reducible rfl) | (constructor <;> with_reducible rfl)
       intro hS
       refine ⟨trivial, ?_⟩
       try simp only [Act.put, List.setIfInBounds_toArray, List.set_cons_zero, List.set_cons_succ])
      (refine held_one 8 (by kernel_rfl) (by kernel_rfl) (held_row 8 (d := some 22) (by kernel_rfl) (by kernel_rfl) rfl (.tmp 18) (.tmp 21) 49 (by kernel_rfl) (gB + 1) 42 i0 (.slice none 0 0) 24 Tryd.underlying49 hi0 hz0 hz1 hz2 rfl (.slice A2 n2 c2) n2 xs2 (by kernel_rfl) (hb4.was.keep fun k hk => Below.heap_alloc w4 _ k (hb4.was.lt k hk).2) w4.heap.size 0 1 (.slice Ac n cc) (by kernel_rfl) (by simp) rfl (by unfold maxLen; omega) (by omega) (by rw [World.size_alloc]; omega) (fun A2' c2' w6 _ hrow6 hg6 ho6 => ⟨trivial, ?_⟩))
       try simp only [Act.put, List.setIfInBounds_toArray, List.set_cons_zero, List.set_cons_succ])
      obtain ⟨hB, hF, hK⟩ := r1_end hb hown4 hg4' hrow6 hg6 ho6
      have hb6 : Blk w6 gB _ _ := (hb4.blk.alloc _).grown hg6 (fun e => by have := hb.was.lt gB e.symm; omega)
      have q6 := hb6.cell 1
      have q7 := hb6.free 1
      simp only [List.getElem?_cons_zero, List.getElem?_cons_succ] at q6
      (refine held_take (v := ?_) (d := some 23) 9 (by kernel_rfl) (by kernel_rfl) rfl ?_ ?_
       rotate_left
       · intro w hSw
         conv in opOf _ _ => whnf
         (try dsimp only at hSw)
         go_simp
         try (with_reducible rfl)
       try simp only [Act.put, List.setIfInBounds_toArray, List.set_cons_zero, List.set_cons_succ])
      (refine held_take (v := ?_) (d := some 24) 10 (by kernel_rfl) (by kernel_rfl) rfl ?_ ?_
       rotate_left
       · intro w hSw
         conv in opOf _ _ => whnf
         (try dsimp only at hSw)
         go_simp
         try (with_reducible rfl)
       try simp only [Act.put, List.setIfInBounds_toArray, List.set_cons_zero, List.set_cons_succ])
      (refine held_one 11 (by kernel_rfl) (by kernel_rfl) (held_mute (w' := ?_) (d := none) 11 (by kernel_rfl) (by kernel_rfl) rfl ?_ ?_)
       rotate_left 1
       · intro hSw
         conv in opOf _ _ => whnf
         go_simp
         first | done | (with_reducible rfl)
       intro hS
       refine ⟨trivial, ?_⟩
       try simp only [Act.put, List.setIfInBounds_toArray, List.set_cons_zero, List.set_cons_succ])
      refine held_done (by kernel_rfl) (fun hS => hR.out _ _ ?_)
      exact hQ _ _ _ _ _ _ _ _ _ _ _ _ _ _ _ _ hB hF hK
    · (refine (held_run (v := ?_) (w' := ?_) (d := some 21) 7 (by kernel_rfl) (by kernel_rfl) rfl ?_ ?_)
       rotate_left 2
       · intro hSw
         conv in opOf _ _ => whnf
         go_simp
         first | done | (with_reducible rfl) | (constructor <;> with_reducible rfl)
       intro hS
       refine ⟨trivial, ?_⟩
       try simp only [Act.put, List.setIfInBounds_toArray, List.set_cons_zero, List.set_cons_succ])
      (refine held_one 4 (by kernel_rfl) (by kernel_rfl) (held_run (v := ?_) (w' := ?_) (d := some 18) 4 (by kernel_rfl) (by kernel_rfl) rfl ?_ ?_)
       rotate_left 2
       · intro hSw
         conv in opOf _ _ => whnf
         go_simp
         first | done | (with_reducible rfl) | (constructor <;> with_reducible rfl)
       intro hS
       refine ⟨trivial, ?_⟩
       try simp only [Act.put, List.setIfInBounds_toArray, List.set_cons_zero, List.set_cons_succ])
      (refine held_one 8 (by kernel_rfl) (by kernel_rfl) (held_row 8 (d := some 22) (by kernel_rfl) (by kernel_rfl) rfl (.tmp 18) (.tmp 21) 49 (by kernel_rfl) (gB + 1) 42 i0 (.slice none 0 0) 24 Tryd.underlying49 hi0 hz0 hz1 hz2 rfl (.slice A2 n2 c2) n2 xs2 (by kernel_rfl) (hb4.was.keep fun k hk => Below.heap_alloc w4 _ k (hb4.was.lt k hk).2) w4.heap.size 0 1 (.slice Ac n cc) (by kernel_rfl) (by simp) rfl (by unfold maxLen; omega) (by omega) (by rw [World.size_alloc]; omega) (fun A2' c2' w6 _ hrow6 hg6 ho6 => ⟨trivial, ?_⟩))
       try simp only [Act.put, List.setIfInBounds_toArray, List.set_cons_zero, List.set_cons_succ])
      obtain ⟨hB, hF, hK⟩ := r1_end hb hown4 hg4' hrow6 hg6 ho6
      have hb6 : Blk w6 gB _ _ := (hb4.blk.alloc _).grown hg6 (fun e => by have := hb.was.lt gB e.symm; omega)
      have q6 := hb6.cell 1
      have q7 := hb6.free 1
      simp only [List.getElem?_cons_zero, List.getElem?_cons_succ] at q6
      (refine held_take (v := ?_) (d := some 23) 9 (by kernel_rfl) (by kernel_rfl) rfl ?_ ?_
       rotate_left
       · intro w hSw
         conv in opOf _ _ => whnf
         (try dsimp only at hSw)
         go_simp
         try (with_reducible rfl)
       try simp only [Act.put, List.setIfInBounds_toArray, List.set_cons_zero, List.set_cons_succ])
      (refine held_take (v := ?_) (d := some 24) 10 (by kernel_rfl) (by kernel_rfl) rfl ?_ ?_
       rotate_left
       · intro w hSw
         conv in opOf _ _ => whnf
         (try dsimp only at hSw)
         go_simp
         try (with_reducible rfl)
       try simp only [Act.put, List.setIfInBounds_toArray, List.set_cons_zero, List.set_cons_succ])
      (refine held_one 11 (by kernel_rfl) (by kernel_rfl) (held_mute (w' := ?_) (d := none) 11 (by kernel_rfl) (by kernel_rfl) rfl ?_ ?_)
       rotate_left 1
       · intro hSw
         conv in opOf _ _ => whnf
         go_simp
         first | done | (with_reducible rfl)
       intro hS
       refine ⟨trivial, ?_⟩
       try simp only [Act.put, List.setIfInBounds_toArray, List.set_cons_zero, List.set_cons_succ])
      refine held_done (by kernel_rfl) (fun hS => hR.out _ _ ?_)
      exact hQ _ _ _ _ _ _ _ _ _ _ _ _ _ _ _ _ hB hF hK

theorem set_same (W : World) {k : Nat} {g i : Nat} {v : Value} (u : Value) (h : W.cell? ⟨g, i, none⟩ = some v) (a : Addr) (hu : u = v := by rfl) : ((W.drewN k).setCell ⟨g, i, none⟩ u).cell? a = W.cell? a := by
  subst hu
  by_cases e : a = ⟨g, i, none⟩
  · subst e
    rw [World.cell?_setCell_same' _ _ _ (by rw [show (W.drewN k).cell? ⟨g, i, none⟩ = W.cell? ⟨g, i, none⟩ from rfl, h]; rfl), h]
  · exact (World.cell?_setCell_other _ _ _ _ (Ne.symm e))
theorem set_bad {W : World} {gB : Nat} {v1 v2 : Value} {n1 n2 : Nat} {xs1 xs2 : List Value} {h : Int} {es : List Ent} (hb : BkW W gB v1 v2 n1 n2 xs1 xs2 h es) (k : Nat) : BkW ((W.drewN k).setCell ⟨gB, 3, none⟩ (.bool false)) gB v1 v2 n1 n2 xs1 xs2 h es :=
  (hb.drewN k).set_ 3 _ rfl (hb.drewN k).lists (hb.drewN k).was rfl rfl

set_option maxRecDepth 100000 in
set_option maxHeartbeats 4000000 in
theorem keep_r4 (gB n1 n2 : Nat) (A1 : Option Addr) (c1 : Nat) (A2 : Option Addr) (c2 : Nat) (xs1 xs2 : List Value) (h : Int) (es : List Ent) (g1 o1 g2 o2 : Nat) (x : Ent)  (u1 u2 u3 u4 u5 u6 u7 u8 u9 u10 u11 u12 u13 u14 u15 u16 u17 u18 u19 u20 u21 u22 u23 u24 u25 u26 u27 u28 u29 u30 u31 u32 u33 u34 u35 u36 u37 u38 u39 u40 u41 u42 u43 u44 u45 u46 u47 u48 u49 u50 u51 u52 u53 u54 u55 u56 u57 u58 u59 u60 u61 u62 u63 u64 u65 u66 u67 u68 u69 u70 u71 u72 u73 u74 u75 u76 u77 u78 u79 u80 u81 u82 u83 u84 u85 u86 u87 u88 u89 u90 u91 u92 u93 u94 u95 u96 u97 u98 u99 u100 u101 u102 u103 u104 u105 u106 u107 u108 u109 u110 u111 : Value) (W : World) (Q : Exit → Act → World → Prop)
    (hb : BkW W gB (.slice A1 n1 c1) (.slice A2 n2 c2) n1 n2 xs1 xs2 h es) (hA1 : A1 = some ⟨g1, o1, none⟩) (hA2 : A2 = some ⟨g2, o2, none⟩) (h1 : 1 ≤ n1) (h2 : 1 ≤ n2)
    (e1 : W.cell? ⟨g1, o1, none⟩ = some (.slice x.A x.n x.c)) (e2 : W.cell? ⟨g2, o2, none⟩ = some (.slice x.A' x.n x.c'))
    (HS : Hid (Calls Tryd.prog 47 #[.slice x.A x.n x.c, .slice x.A' x.n x.c'] W.drew fun e w' => e = .returned (.bool true) ∧ ∃ k, w' = W.drew.drewN k))
    (hQ : ∀ (W' : World) (v57 v58 v59 v60 v61 v62 v63 v64 v65 v66 v67 v68 v69 v70 v71 v72 v73 v74 v75 v76 v77 v78 v79 : Value), BkW W' gB (.slice A1 n1 c1) (.slice A2 n2 c2) n1 n2 xs1 xs2 h es →
      BFr gB (Value.ownBlock (.slice A1 n1 c1)) (Value.ownBlock (.slice A2 n2 c2)) W (Value.ownBlock (.slice A1 n1 c1)) (Value.ownBlock (.slice A2 n2 c2)) W' → Q .normal { tmps := #[.pointer (some ⟨gB, 0, none⟩), u1, u2, u3, u4, u5, u6, u7, u8, u9, u10, u11, u12, u13, u14, u15, u16, u17, u18, u19, u20, u21, u22, u23, u24, u25, u26, u27, u28, u29, u30, u31, u32, u33, u34, u35, u36, u37, u38, u39, u40, u41, u42, u43, u44, u45, u46, u47, u48, u49, u50, u51, u52, u53, u54, u55, u56, v57, v58, v59, v60, v61, v62, v63, v64, v65, v66, v67, v68, v69, v70, v71, v72, v73, v74, v75, v76, v77, v78, v79, u80, u81, u82, u83, u84, u85, u86, u87, u88, u89, u90, u91, u92, u93, u94, u95, u96, u97, u98, u99, u100, u101, u102, u103, u104, u105, u106, u107, u108, u109, u110, u111], defers := [] } W') :
    (Code.region 4 keepR4 true).wp Tryd.prog Q { tmps := #[.pointer (some ⟨gB, 0, none⟩), u1, u2, u3, u4, u5, u6, u7, u8, u9, u10, u11, u12, u13, u14, u15, u16, u17, u18, u19, u20, u21, u22, u23, u24, u25, u26, u27, u28, u29, u30, u31, u32, u33, u34, u35, u36, u37, u38, u39, u40, u41, u42, u43, u44, u45, u46, u47, u48, u49, u50, u51, u52, u53, u54, u55, u56, u57, u58, u59, u60, u61, u62, u63, u64, u65, u66, u67, u68, u69, u70, u71, u72, u73, u74, u75, u76, u77, u78, u79, u80, u81, u82, u83, u84, u85, u86, u87, u88, u89, u90, u91, u92, u93, u94, u95, u96, u97, u98, u99, u100, u101, u102, u103, u104, u105, u106, u107, u108, u109, u110, u111], defers := [] } W := by
  subst hA1 hA2
  have q0 := hb.blk.cell 0
  have q1 := hb.blk.cell 1
  have q2 := hb.blk.cell 2
  have q3 := hb.blk.cell 3
  have q5 := hb.blk.free 3
  have hzW := hb.blk.lt
  simp only [List.getElem?_cons_zero, List.getElem?_cons_succ] at q0 q1 q2 q3
  have i1 : (0 : Int) < n1 := by omega
  have i2 : (0 : Int) < n2 := by omega
  have j1 : 0 < n1 := h1
  have j2 : 0 < n2 := h2
  refine held_start (ops' := keepR4) (l0 := #[false, false, false, false, false, false, false, false, false, false, false, false, false, false, false, false, false, false, false, false, false, false, false, false]) (S := (fun w' => (∀ a, w'.cell? a = W.cell? a) ∧ w'.heap.size = W.heap.size)) (by kernel_rfl) (by kernel_rfl) (by kernel_rfl) (by kernel_rfl) ⟨fun _ => rfl, rfl⟩ (fun R hR => ?_)
  (refine held_take (v := ?_) (d := some 57) 0 (by kernel_rfl) (by kernel_rfl) rfl ?_ ?_
   rotate_left
   · intro w hSw
     conv in opOf _ _ => whnf
     (have hSw := hSw.1)
     go_simp
     try (with_reducible rfl)
   try simp only [Act.put, List.setIfInBounds_toArray, List.set_cons_zero, List.set_cons_succ])
  (refine held_take (v := ?_) (d := some 58) 1 (by kernel_rfl) (by kernel_rfl) rfl ?_ ?_
   rotate_left
   · intro w hSw
     conv in opOf _ _ => whnf
     (have hSw := hSw.1)
     go_simp
     try (with_reducible rfl)
   try simp only [Act.put, List.setIfInBounds_toArray, List.set_cons_zero, List.set_cons_succ])
  (refine held_take (v := ?_) (d := some 59) 2 (by kernel_rfl) (by kernel_rfl) rfl ?_ ?_
   rotate_left
   · intro w hSw
     conv in opOf _ _ => whnf
     (have hSw := hSw.1)
     go_simp
     try (with_reducible rfl)
   try simp only [Act.put, List.setIfInBounds_toArray, List.set_cons_zero, List.set_cons_succ])
  (refine held_take (v := ?_) (d := some 60) 3 (by kernel_rfl) (by kernel_rfl) rfl ?_ ?_
   rotate_left
   · intro w hSw
     conv in opOf _ _ => whnf
     (have hSw := hSw.1)
     go_simp
     try (with_reducible rfl)
   try simp only [Act.put, List.setIfInBounds_toArray, List.set_cons_zero, List.set_cons_succ])
  (refine held_take (v := ?_) (d := some 61) 4 (by kernel_rfl) (by kernel_rfl) rfl ?_ ?_
   rotate_left
   · intro w hSw
     conv in opOf _ _ => whnf
     (have hSw := hSw.1)
     go_simp
     try (with_reducible rfl)
   try simp only [Act.put, List.setIfInBounds_toArray, List.set_cons_zero, List.set_cons_succ])
  (refine held_take (v := ?_) (d := some 62) 5 (by kernel_rfl) (by kernel_rfl) rfl ?_ ?_
   rotate_left
   · intro w hSw
     conv in opOf _ _ => whnf
     (have hSw := hSw.1)
     go_simp
     try (with_reducible rfl)
   try simp only [Act.put, List.setIfInBounds_toArray, List.set_cons_zero, List.set_cons_succ])
  (refine held_take (v := ?_) (d := some 63) 6 (by kernel_rfl) (by kernel_rfl) rfl ?_ ?_
   rotate_left
   · intro w hSw
     conv in opOf _ _ => whnf
     (have hSw := hSw.1)
     go_simp
     try (with_reducible rfl)
   try simp only [Act.put, List.setIfInBounds_toArray, List.set_cons_zero, List.set_cons_succ])
  (refine held_take (v := ?_) (d := some 64) 7 (by kernel_rfl) (by kernel_rfl) rfl ?_ ?_
   rotate_left
   · intro w hSw
     conv in opOf _ _ => whnf
     (have hSw := hSw.1)
     go_simp
     try (with_reducible rfl)
   try simp only [Act.put, List.setIfInBounds_toArray, List.set_cons_zero, List.set_cons_succ])
  (refine held_take (v := ?_) (d := some 65) 8 (by kernel_rfl) (by kernel_rfl) rfl ?_ ?_
   rotate_left
   · intro w hSw
     conv in opOf _ _ => whnf
     (have hSw := hSw.1)
     go_simp
     try (with_reducible rfl)
   try simp only [Act.put, List.setIfInBounds_toArray, List.set_cons_zero, List.set_cons_succ])
  (refine held_take (v := ?_) (d := some 66) 9 (by kernel_rfl) (by kernel_rfl) rfl ?_ ?_
   rotate_left
   · intro w hSw
     conv in opOf _ _ => whnf
     (have hSw := hSw.1)
     go_simp
     try (with_reducible rfl)
   try simp only [Act.put, List.setIfInBounds_toArray, List.set_cons_zero, List.set_cons_succ])
  (refine held_take (v := ?_) (d := some 67) 10 (by kernel_rfl) (by kernel_rfl) rfl ?_ ?_
   rotate_left
   · intro w hSw
     conv in opOf _ _ => whnf
     (have hSw := hSw.1)
     go_simp
     try (with_reducible rfl)
   try simp only [Act.put, List.setIfInBounds_toArray, List.set_cons_zero, List.set_cons_succ])
  (refine held_take (v := ?_) (d := some 68) 11 (by kernel_rfl) (by kernel_rfl) rfl ?_ ?_
   rotate_left
   · intro w hSw
     conv in opOf _ _ => whnf
     (have hSw := hSw.1)
     go_simp
     try (with_reducible rfl)
   try simp only [Act.put, List.setIfInBounds_toArray, List.set_cons_zero, List.set_cons_succ])
  (refine held_take (v := ?_) (d := some 69) 12 (by kernel_rfl) (by kernel_rfl) rfl ?_ ?_
   rotate_left
   · intro w hSw
     conv in opOf _ _ => whnf
     (have hSw := hSw.1)
     go_simp
     try (with_reducible rfl)
   try simp only [Act.put, List.setIfInBounds_toArray, List.set_cons_zero, List.set_cons_succ])
  (refine held_take (v := ?_) (d := some 70) 13 (by kernel_rfl) (by kernel_rfl) rfl ?_ ?_
   rotate_left
   · intro w hSw
     conv in opOf _ _ => whnf
     (have hSw := hSw.1)
     go_simp
     try (with_reducible rfl)
   try simp only [Act.put, List.setIfInBounds_toArray, List.set_cons_zero, List.set_cons_succ])
  (refine held_take (v := ?_) (d := some 71) 14 (by kernel_rfl) (by kernel_rfl) rfl ?_ ?_
   rotate_left
   · intro w hSw
     conv in opOf _ _ => whnf
     (have hSw := hSw.1)
     go_simp
     try (with_reducible rfl)
   try simp only [Act.put, List.setIfInBounds_toArray, List.set_cons_zero, List.set_cons_succ])
  (refine held_take (v := ?_) (d := some 72) 15 (by kernel_rfl) (by kernel_rfl) rfl ?_ ?_
   rotate_left
   · intro w hSw
     conv in opOf _ _ => whnf
     (have hSw := hSw.1)
     go_simp
     try (with_reducible rfl)
   try simp only [Act.put, List.setIfInBounds_toArray, List.set_cons_zero, List.set_cons_succ])
  (refine held_take (v := ?_) (d := some 73) 16 (by kernel_rfl) (by kernel_rfl) rfl ?_ ?_
   rotate_left
   · intro w hSw
     conv in opOf _ _ => whnf
     (have hSw := hSw.1)
     go_simp
     try (with_reducible rfl)
   try simp only [Act.put, List.setIfInBounds_toArray, List.set_cons_zero, List.set_cons_succ])
  (refine held_take (v := ?_) (d := some 74) 17 (by kernel_rfl) (by kernel_rfl) rfl ?_ ?_
   rotate_left
   · intro w hSw
     conv in opOf _ _ => whnf
     (have hSw := hSw.1)
     go_simp
     try (with_reducible rfl)
   try simp only [Act.put, List.setIfInBounds_toArray, List.set_cons_zero, List.set_cons_succ])
  (refine held_one 18 (by kernel_rfl) (by kernel_rfl) (held_call (V := .bool true) (B := fun w' => ∃ k, w' = W.drew.drewN k) (d := some 75) 18 (by kernel_rfl) (by kernel_rfl) rfl (fun hS => HS.out) (by kernel_rfl) (fun w' hS hB => ⟨(by obtain ⟨k, rfl⟩ := hB; exact ⟨fun _ => rfl, rfl⟩), ?_⟩))
   try simp only [Act.put, List.setIfInBounds_toArray, List.set_cons_zero, List.set_cons_succ])
  obtain ⟨kk, rfl⟩ := hB
  (refine held_take (v := ?_) (d := some 76) 19 (by kernel_rfl) (by kernel_rfl) rfl ?_ ?_
   rotate_left
   · intro w hSw
     conv in opOf _ _ => whnf
     (have hSw := hSw.1)
     go_simp
     try (with_reducible rfl)
   try simp only [Act.put, List.setIfInBounds_toArray, List.set_cons_zero, List.set_cons_succ])
  (refine held_take (v := ?_) (d := some 77) 20 (by kernel_rfl) (by kernel_rfl) rfl ?_ ?_
   rotate_left
   · intro w hSw
     conv in opOf _ _ => whnf
     (have hSw := hSw.1)
     go_simp
     try (with_reducible rfl)
   try simp only [Act.put, List.setIfInBounds_toArray, List.set_cons_zero, List.set_cons_succ])
  (refine held_take (v := ?_) (d := some 78) 21 (by kernel_rfl) (by kernel_rfl) rfl ?_ ?_
   rotate_left
   · intro w hSw
     conv in opOf _ _ => whnf
     (have hSw := hSw.1)
     go_simp
     try (with_reducible rfl)
   try simp only [Act.put, List.setIfInBounds_toArray, List.set_cons_zero, List.set_cons_succ])
  (refine held_take (v := ?_) (d := some 79) 22 (by kernel_rfl) (by kernel_rfl) rfl ?_ ?_
   rotate_left
   · intro w hSw
     conv in opOf _ _ => whnf
     (have hSw := hSw.1)
     go_simp
     try (with_reducible rfl)
   try simp only [Act.put, List.setIfInBounds_toArray, List.set_cons_zero, List.set_cons_succ])
  (refine held_one 23 (by kernel_rfl) (by kernel_rfl) (held_mute (w' := ?_) (d := none) 23 (by kernel_rfl) (by kernel_rfl) rfl ?_ ?_)
   rotate_left 1
   · intro hSw
     conv in opOf _ _ => whnf
     go_simp
     first | done | (with_reducible rfl)
   intro hS
   refine ⟨⟨fun a => (set_same W _ q3 a), by rw [World.size_setCell]; rfl⟩, ?_⟩
   try simp only [Act.put, List.setIfInBounds_toArray, List.set_cons_zero, List.set_cons_succ])
  refine held_done (by kernel_rfl) (fun hS => hR.out _ _ ?_)
  exact hQ _ _ _ _ _ _ _ _ _ _ _ _ _ _ _ _ _ _ _ _ _ _ _ _ (set_bad hb _) (((BFr.refl gB _ _ W).drewN (1 + kk)).setB 3 _)

set_option maxRecDepth 100000 in
set_option maxHeartbeats 4000000 in
theorem stays_r4 (gB n1 n2 : Nat) (A1 : Option Addr) (c1 : Nat) (A2 : Option Addr) (c2 : Nat) (xs1 xs2 : List Value) (h : Int) (es : List Ent) (g1 o1 g2 o2 : Nat) (x : Ent) (i : Nat) (u1 u2 u4 u5 u6 u7 u8 u9 u10 u11 u12 u13 u14 u15 u16 u17 u18 u19 u20 u21 u22 u23 u24 u25 u26 u27 u28 u29 u30 u31 u32 u33 u34 u35 u36 u37 u38 u39 u40 u41 u42 : Value) (W : World) (Q : Exit → Act → World → Prop)
    (hb : BkW W gB (.slice A1 n1 c1) (.slice A2 n2 c2) n1 n2 xs1 xs2 h es) (hA1 : A1 = some ⟨g1, o1, none⟩) (hA2 : A2 = some ⟨g2, o2, none⟩) (h1 : i < n1) (h2 : i < n2) (hm : (n1 : Int) ≤ 1000000)
    (e1 : W.cell? ⟨g1, o1 + i, none⟩ = some (.slice x.A x.n x.c)) (e2 : W.cell? ⟨g2, o2 + i, none⟩ = some (.slice x.A' x.n x.c'))
    (HS : Hid (Calls Tryd.prog 47 #[.slice x.A x.n x.c, .slice x.A' x.n x.c'] W.drew fun e w' => e = .returned (.bool true) ∧ ∃ k, w' = W.drew.drewN k))
    (hQ : ∀ (W' : World) (v13 v14 v15 v16 v17 v18 v19 v20 v21 v22 v23 v24 v25 v26 v27 v28 v29 v30 v31 v32 v33 v34 v35 v36 v37 : Value), BkW W' gB (.slice A1 n1 c1) (.slice A2 n2 c2) n1 n2 xs1 xs2 h es →
      BFr gB (Value.ownBlock (.slice A1 n1 c1)) (Value.ownBlock (.slice A2 n2 c2)) W (Value.ownBlock (.slice A1 n1 c1)) (Value.ownBlock (.slice A2 n2 c2)) W' → Q .normal { tmps := #[.pointer (some ⟨gB, 0, none⟩), u1, u2, .int .i64 i, u4, u5, u6, u7, u8, u9, u10, u11, u12, v13, v14, v15, v16, v17, v18, v19, v20, v21, v22, v23, v24, v25, v26, v27, v28, v29, v30, v31, v32, v33, v34, v35, v36, v37, u38, u39, u40, u41, u42], defers := [] } W') :
    (Code.region 4 staysR4 true).wp Tryd.prog Q { tmps := #[.pointer (some ⟨gB, 0, none⟩), u1, u2, .int .i64 i, u4, u5, u6, u7, u8, u9, u10, u11, u12, u13, u14, u15, u16, u17, u18, u19, u20, u21, u22, u23, u24, u25, u26, u27, u28, u29, u30, u31, u32, u33, u34, u35, u36, u37, u38, u39, u40, u41, u42], defers := [] } W := by
  subst hA1 hA2
  have q0 := hb.blk.cell 0
  have q1 := hb.blk.cell 1
  have q2 := hb.blk.cell 2
  have q3 := hb.blk.cell 3
  have q5 := hb.blk.free 3
  have hzW := hb.blk.lt
  simp only [List.getElem?_cons_zero, List.getElem?_cons_succ] at q0 q1 q2 q3
  have i1 : (i : Int) < n1 := by omega
  have i2 : (i : Int) < n2 := by omega
  refine held_start (ops' := staysR4) (l0 := #[false, false, false, false, false, false, false, false, false, false, false, false, false, false, false, false, false, false, false, false, false, false, false, false, false, false]) (S := (fun w' => (∀ a, w'.cell? a = W.cell? a) ∧ w'.heap.size = W.heap.size)) (by kernel_rfl) (by kernel_rfl) (by kernel_rfl) (by kernel_rfl) ⟨fun _ => rfl, rfl⟩ (fun R hR => ?_)
  (refine held_take (v := ?_) (d := some 13) 0 (by kernel_rfl) (by kernel_rfl) rfl ?_ ?_
   rotate_left
   · intro w hSw
     conv in opOf _ _ => whnf
     (have hSw := hSw.1)
     go_simp
     try (with_reducible rfl)
   try simp only [Act.put, List.setIfInBounds_toArray, List.set_cons_zero, List.set_cons_succ])
  (refine held_take (v := ?_) (d := some 14) 1 (by kernel_rfl) (by kernel_rfl) rfl ?_ ?_
   rotate_left
   · intro w hSw
     conv in opOf _ _ => whnf
     (have hSw := hSw.1)
     go_simp
     try (with_reducible rfl)
   try simp only [Act.put, List.setIfInBounds_toArray, List.set_cons_zero, List.set_cons_succ])
  (refine held_take (v := ?_) (d := some 15) 2 (by kernel_rfl) (by kernel_rfl) rfl ?_ ?_
   rotate_left
   · intro w hSw
     conv in opOf _ _ => whnf
     (have hSw := hSw.1)
     go_simp
     try (with_reducible rfl)
   try simp only [Act.put, List.setIfInBounds_toArray, List.set_cons_zero, List.set_cons_succ])
  (refine held_take (v := ?_) (d := some 16) 3 (by kernel_rfl) (by kernel_rfl) rfl ?_ ?_
   rotate_left
   · intro w hSw
     conv in opOf _ _ => whnf
     (have hSw := hSw.1)
     go_simp
     try (with_reducible rfl)
   try simp only [Act.put, List.setIfInBounds_toArray, List.set_cons_zero, List.set_cons_succ])
  (refine held_take (v := ?_) (d := some 17) 4 (by kernel_rfl) (by kernel_rfl) rfl ?_ ?_
   rotate_left
   · intro w hSw
     conv in opOf _ _ => whnf
     (have hSw := hSw.1)
     go_simp
     try (with_reducible rfl)
   try simp only [Act.put, List.setIfInBounds_toArray, List.set_cons_zero, List.set_cons_succ])
  (refine held_take (v := ?_) (d := some 18) 5 (by kernel_rfl) (by kernel_rfl) rfl ?_ ?_
   rotate_left
   · intro w hSw
     conv in opOf _ _ => whnf
     (have hSw := hSw.1)
     go_simp
     try (with_reducible rfl)
   try simp only [Act.put, List.setIfInBounds_toArray, List.set_cons_zero, List.set_cons_succ])
  (refine held_take (v := ?_) (d := some 19) 6 (by kernel_rfl) (by kernel_rfl) rfl ?_ ?_
   rotate_left
   · intro w hSw
     conv in opOf _ _ => whnf
     (have hSw := hSw.1)
     go_simp
     try (with_reducible rfl)
   try simp only [Act.put, List.setIfInBounds_toArray, List.set_cons_zero, List.set_cons_succ])
  (refine held_take (v := ?_) (d := some 20) 7 (by kernel_rfl) (by kernel_rfl) rfl ?_ ?_
   rotate_left
   · intro w hSw
     conv in opOf _ _ => whnf
     (have hSw := hSw.1)
     go_simp
     try (with_reducible rfl)
   try simp only [Act.put, List.setIfInBounds_toArray, List.set_cons_zero, List.set_cons_succ])
  (refine held_take (v := ?_) (d := some 21) 8 (by kernel_rfl) (by kernel_rfl) rfl ?_ ?_
   rotate_left
   · intro w hSw
     conv in opOf _ _ => whnf
     (have hSw := hSw.1)
     go_simp
     try (with_reducible rfl)
   try simp only [Act.put, List.setIfInBounds_toArray, List.set_cons_zero, List.set_cons_succ])
  (refine held_take (v := ?_) (d := some 22) 9 (by kernel_rfl) (by kernel_rfl) rfl ?_ ?_
   rotate_left
   · intro w hSw
     conv in opOf _ _ => whnf
     (have hSw := hSw.1)
     go_simp
     try (with_reducible rfl)
   try simp only [Act.put, List.setIfInBounds_toArray, List.set_cons_zero, List.set_cons_succ])
  (refine held_take (v := ?_) (d := some 23) 10 (by kernel_rfl) (by kernel_rfl) rfl ?_ ?_
   rotate_left
   · intro w hSw
     conv in opOf _ _ => whnf
     (have hSw := hSw.1)
     go_simp
     try (with_reducible rfl)
   try simp only [Act.put, List.setIfInBounds_toArray, List.set_cons_zero, List.set_cons_succ])
  (refine held_take (v := ?_) (d := some 24) 11 (by kernel_rfl) (by kernel_rfl) rfl ?_ ?_
   rotate_left
   · intro w hSw
     conv in opOf _ _ => whnf
     (have hSw := hSw.1)
     go_simp
     try (with_reducible rfl)
   try simp only [Act.put, List.setIfInBounds_toArray, List.set_cons_zero, List.set_cons_succ])
  (refine held_take (v := ?_) (d := some 25) 12 (by kernel_rfl) (by kernel_rfl) rfl ?_ ?_
   rotate_left
   · intro w hSw
     conv in opOf _ _ => whnf
     (have hSw := hSw.1)
     go_simp
     try (with_reducible rfl)
   try simp only [Act.put, List.setIfInBounds_toArray, List.set_cons_zero, List.set_cons_succ])
  (refine held_take (v := ?_) (d := some 26) 13 (by kernel_rfl) (by kernel_rfl) rfl ?_ ?_
   rotate_left
   · intro w hSw
     conv in opOf _ _ => whnf
     (have hSw := hSw.1)
     go_simp
     try (with_reducible rfl)
   try simp only [Act.put, List.setIfInBounds_toArray, List.set_cons_zero, List.set_cons_succ])
  (refine held_take (v := ?_) (d := some 27) 14 (by kernel_rfl) (by kernel_rfl) rfl ?_ ?_
   rotate_left
   · intro w hSw
     conv in opOf _ _ => whnf
     (have hSw := hSw.1)
     go_simp
     try (with_reducible rfl)
   try simp only [Act.put, List.setIfInBounds_toArray, List.set_cons_zero, List.set_cons_succ])
  (refine held_take (v := ?_) (d := some 28) 15 (by kernel_rfl) (by kernel_rfl) rfl ?_ ?_
   rotate_left
   · intro w hSw
     conv in opOf _ _ => whnf
     (have hSw := hSw.1)
     go_simp
     try (with_reducible rfl)
   try simp only [Act.put, List.setIfInBounds_toArray, List.set_cons_zero, List.set_cons_succ])
  (refine held_take (v := ?_) (d := some 29) 16 (by kernel_rfl) (by kernel_rfl) rfl ?_ ?_
   rotate_left
   · intro w hSw
     conv in opOf _ _ => whnf
     (have hSw := hSw.1)
     go_simp
     try (with_reducible rfl)
   try simp only [Act.put, List.setIfInBounds_toArray, List.set_cons_zero, List.set_cons_succ])
  (refine held_take (v := ?_) (d := some 30) 17 (by kernel_rfl) (by kernel_rfl) rfl ?_ ?_
   rotate_left
   · intro w hSw
     conv in opOf _ _ => whnf
     (have hSw := hSw.1)
     go_simp
     try (with_reducible rfl)
   try simp only [Act.put, List.setIfInBounds_toArray, List.set_cons_zero, List.set_cons_succ])
  (refine held_take (v := ?_) (d := some 31) 18 (by kernel_rfl) (by kernel_rfl) rfl ?_ ?_
   rotate_left
   · intro w hSw
     conv in opOf _ _ => whnf
     (have hSw := hSw.1)
     go_simp
     try (with_reducible rfl)
   try simp only [Act.put, List.setIfInBounds_toArray, List.set_cons_zero, List.set_cons_succ])
  (refine held_take (v := ?_) (d := some 32) 19 (by kernel_rfl) (by kernel_rfl) rfl ?_ ?_
   rotate_left
   · intro w hSw
     conv in opOf _ _ => whnf
     (have hSw := hSw.1)
     go_simp
     try (with_reducible rfl)
   try simp only [Act.put, List.setIfInBounds_toArray, List.set_cons_zero, List.set_cons_succ])
  (refine held_one 20 (by kernel_rfl) (by kernel_rfl) (held_call (V := .bool true) (B := fun w' => ∃ k, w' = W.drew.drewN k) (d := some 33) 20 (by kernel_rfl) (by kernel_rfl) rfl (fun hS => HS.out) (by kernel_rfl) (fun w' hS hB => ⟨(by obtain ⟨k, rfl⟩ := hB; exact ⟨fun _ => rfl, rfl⟩), ?_⟩))
   try simp only [Act.put, List.setIfInBounds_toArray, List.set_cons_zero, List.set_cons_succ])
  obtain ⟨kk, rfl⟩ := hB
  (refine held_take (v := ?_) (d := some 34) 21 (by kernel_rfl) (by kernel_rfl) rfl ?_ ?_
   rotate_left
   · intro w hSw
     conv in opOf _ _ => whnf
     (have hSw := hSw.1)
     go_simp
     try (with_reducible rfl)
   try simp only [Act.put, List.setIfInBounds_toArray, List.set_cons_zero, List.set_cons_succ])
  (refine held_take (v := ?_) (d := some 35) 22 (by kernel_rfl) (by kernel_rfl) rfl ?_ ?_
   rotate_left
   · intro w hSw
     conv in opOf _ _ => whnf
     (have hSw := hSw.1)
     go_simp
     try (with_reducible rfl)
   try simp only [Act.put, List.setIfInBounds_toArray, List.set_cons_zero, List.set_cons_succ])
  (refine held_take (v := ?_) (d := some 36) 23 (by kernel_rfl) (by kernel_rfl) rfl ?_ ?_
   rotate_left
   · intro w hSw
     conv in opOf _ _ => whnf
     (have hSw := hSw.1)
     go_simp
     try (with_reducible rfl)
   try simp only [Act.put, List.setIfInBounds_toArray, List.set_cons_zero, List.set_cons_succ])
  (refine held_take (v := ?_) (d := some 37) 24 (by kernel_rfl) (by kernel_rfl) rfl ?_ ?_
   rotate_left
   · intro w hSw
     conv in opOf _ _ => whnf
     (have hSw := hSw.1)
     go_simp
     try (with_reducible rfl)
   try simp only [Act.put, List.setIfInBounds_toArray, List.set_cons_zero, List.set_cons_succ])
  (refine held_one 25 (by kernel_rfl) (by kernel_rfl) (held_mute (w' := ?_) (d := none) 25 (by kernel_rfl) (by kernel_rfl) rfl ?_ ?_)
   rotate_left 1
   · intro hSw
     conv in opOf _ _ => whnf
     go_simp
     first | done | (with_reducible rfl)
   intro hS
   refine ⟨⟨fun a => (set_same W _ q3 a), by rw [World.size_setCell]; rfl⟩, ?_⟩
   try simp only [Act.put, List.setIfInBounds_toArray, List.set_cons_zero, List.set_cons_succ])
  refine held_done (by kernel_rfl) (fun hS => hR.out _ _ ?_)
  exact hQ _ _ _ _ _ _ _ _ _ _ _ _ _ _ _ _ _ _ _ _ _ _ _ _ _ _ (set_bad hb _) (((BFr.refl gB _ _ W).drewN (1 + kk)).setB 3 _)

theorem set_held {W : World} {gB : Nat} {v1 v2 : Value} {n1 n2 : Nat} {xs1 xs2 : List Value} {h : Int} {es : List Ent} (hb : BkW W gB v1 v2 n1 n2 xs1 xs2 h es) (h' : Int) : BkW (W.drew.setCell ⟨gB, 2, none⟩ (.int .i64 h')) gB v1 v2 n1 n2 xs1 xs2 h' es :=
  hb.drew.set_ 2 _ rfl hb.drew.lists hb.drew.was rfl rfl
theorem wrapI_bounds (x : Int) : -9223372036854775808 ≤ IntKind.i64.wrap x ∧ IntKind.i64.wrap x ≤ 9223372036854775807 := by simp [IntKind.wrap, IntKind.bits, IntKind.signed]; omega
set_option maxRecDepth 100000 in
set_option maxHeartbeats 4000000 in
theorem keep_r5 (gB n1 n2 : Nat) (A1 : Option Addr) (c1 : Nat) (v2 : Value) (xs1 xs2 : List Value) (h : Int) (es : List Ent) (g1 o1 : Nat) (x : Ent) (u1 u2 u3 u4 u5 u6 u7 u8 u9 u10 u11 u12 u13 u14 u15 u16 u17 u18 u19 u20 u21 u22 u23 u24 u25 u26 u27 u28 u29 u30 u31 u32 u33 u34 u35 u36 u37 u38 u39 u40 u41 u42 u43 u44 u45 u46 u47 u48 u49 u50 u51 u52 u53 u54 u55 u56 u57 u58 u59 u60 u61 u62 u63 u64 u65 u66 u67 u68 u69 u70 u71 u72 u73 u74 u75 u76 u77 u78 u79 u80 u81 u82 u83 u84 u85 u86 u87 u88 u89 u90 u91 u92 u93 u94 u95 u96 u97 u98 u99 u100 u101 u102 u103 u104 u105 u106 u107 u108 u109 u110 u111 : Value) (W : World) (Q : Exit → Act → World → Prop)
    (hb : BkW W gB (.slice A1 n1 c1) v2 n1 n2 xs1 xs2 h es) (hA1 : A1 = some ⟨g1, o1, none⟩) (h1 : 1 ≤ n1) (hg1 : gB < g1) (e1 : W.cell? ⟨g1, o1, none⟩ = some (.slice x.A x.n x.c))
    (hQ : ∀ (h' : Int) (W' : World) (v80 v81 v82 v83 v84 v85 v86 v87 v88 v89 v90 v91 v92 v93 v94 v95 : Value), BkW W' gB (.slice A1 n1 c1) v2 n1 n2 xs1 xs2 h' es → -9223372036854775808 ≤ h' ∧ h' ≤ 9223372036854775807 →
      BFr gB (Value.ownBlock (.slice A1 n1 c1)) v2.ownBlock W (Value.ownBlock (.slice A1 n1 c1)) v2.ownBlock W' → Q .normal { tmps := #[.pointer (some ⟨gB, 0, none⟩), u1, u2, u3, u4, u5, u6, u7, u8, u9, u10, u11, u12, u13, u14, u15, u16, u17, u18, u19, u20, u21, u22, u23, u24, u25, u26, u27, u28, u29, u30, u31, u32, u33, u34, u35, u36, u37, u38, u39, u40, u41, u42, u43, u44, u45, u46, u47, u48, u49, u50, u51, u52, u53, u54, u55, u56, u57, u58, u59, u60, u61, u62, u63, u64, u65, u66, u67, u68, u69, u70, u71, u72, u73, u74, u75, u76, u77, u78, u79, v80, v81, v82, v83, v84, v85, v86, v87, v88, v89, v90, v91, v92, v93, v94, v95, u96, u97, u98, u99, u100, u101, u102, u103, u104, u105, u106, u107, u108, u109, u110, u111], defers := [] } W') :
    (Code.region 5 keepR5 true).wp Tryd.prog Q { tmps := #[.pointer (some ⟨gB, 0, none⟩), u1, u2, u3, u4, u5, u6, u7, u8, u9, u10, u11, u12, u13, u14, u15, u16, u17, u18, u19, u20, u21, u22, u23, u24, u25, u26, u27, u28, u29, u30, u31, u32, u33, u34, u35, u36, u37, u38, u39, u40, u41, u42, u43, u44, u45, u46, u47, u48, u49, u50, u51, u52, u53, u54, u55, u56, u57, u58, u59, u60, u61, u62, u63, u64, u65, u66, u67, u68, u69, u70, u71, u72, u73, u74, u75, u76, u77, u78, u79, u80, u81, u82, u83, u84, u85, u86, u87, u88, u89, u90, u91, u92, u93, u94, u95, u96, u97, u98, u99, u100, u101, u102, u103, u104, u105, u106, u107, u108, u109, u110, u111], defers := [] } W := by
  subst hA1
  have q0 := hb.blk.cell 0
  have q2 := hb.blk.cell 2
  have q5 := hb.blk.free 2
  have hzW := hb.blk.lt
  have i1 : (0 : Int) < n1 := by omega
  have j1 : 0 < n1 := h1
  simp only [List.getElem?_cons_zero, List.getElem?_cons_succ] at q0 q2
  refine held_start (ops' := keepR5) (l0 := #[false, false, false, false, false, false, false, false, false, false, false, false, false, false, false, false, false]) (S := (fun w' => w'.cell? ⟨gB, 0, none⟩ = some (.slice (some ⟨g1, o1, none⟩) n1 c1) ∧ w'.cell? ⟨g1, o1, none⟩ = some (.slice x.A x.n x.c))) (by kernel_rfl) (by kernel_rfl) (by kernel_rfl) (by kernel_rfl) ⟨q0, e1⟩ (fun R hR => ?_)
  (refine held_take (v := ?_) (d := some 80) 0 (by kernel_rfl) (by kernel_rfl) rfl ?_ ?_
   rotate_left
   · intro w hSw
     conv in opOf _ _ => whnf
     (obtain ⟨hSa, hSb⟩ := hSw)
     go_simp
     try (with_reducible rfl)
   try simp only [Act.put, List.setIfInBounds_toArray, List.set_cons_zero, List.set_cons_succ])
  (refine held_take (v := ?_) (d := some 81) 1 (by kernel_rfl) (by kernel_rfl) rfl ?_ ?_
   rotate_left
   · intro w hSw
     conv in opOf _ _ => whnf
     (obtain ⟨hSa, hSb⟩ := hSw)
     go_simp
     try (with_reducible rfl)
   try simp only [Act.put, List.setIfInBounds_toArray, List.set_cons_zero, List.set_cons_succ])
  (refine held_take (v := ?_) (d := some 82) 2 (by kernel_rfl) (by kernel_rfl) rfl ?_ ?_
   rotate_left
   · intro w hSw
     conv in opOf _ _ => whnf
     (obtain ⟨hSa, hSb⟩ := hSw)
     go_simp
     try (with_reducible rfl)
   try simp only [Act.put, List.setIfInBounds_toArray, List.set_cons_zero, List.set_cons_succ])
  (refine held_take (v := ?_) (d := some 83) 3 (by kernel_rfl) (by kernel_rfl) rfl ?_ ?_
   rotate_left
   · intro w hSw
     conv in opOf _ _ => whnf
     (obtain ⟨hSa, hSb⟩ := hSw)
     go_simp
     try (with_reducible rfl)
   try simp only [Act.put, List.setIfInBounds_toArray, List.set_cons_zero, List.set_cons_succ])
  (refine held_take (v := ?_) (d := some 85) 5 (by kernel_rfl) (by kernel_rfl) rfl ?_ ?_
   rotate_left
   · intro w hSw
     conv in opOf _ _ => whnf
     (obtain ⟨hSa, hSb⟩ := hSw)
     go_simp
     try (with_reducible rfl)
   try simp only [Act.put, List.setIfInBounds_toArray, List.set_cons_zero, List.set_cons_succ])
  (refine held_take (v := ?_) (d := some 86) 6 (by kernel_rfl) (by kernel_rfl) rfl ?_ ?_
   rotate_left
   · intro w hSw
     conv in opOf _ _ => whnf
     (obtain ⟨hSa, hSb⟩ := hSw)
     go_simp
     try (with_reducible rfl)
   try simp only [Act.put, List.setIfInBounds_toArray, List.set_cons_zero, List.set_cons_succ])
  (refine held_take (v := ?_) (d := some 87) 7 (by kernel_rfl) (by kernel_rfl) rfl ?_ ?_
   rotate_left
   · intro w hSw
     conv in opOf _ _ => whnf
     (obtain ⟨hSa, hSb⟩ := hSw)
     go_simp
     try (with_reducible rfl)
   try simp only [Act.put, List.setIfInBounds_toArray, List.set_cons_zero, List.set_cons_succ])
  (refine held_take (v := ?_) (d := some 88) 8 (by kernel_rfl) (by kernel_rfl) rfl ?_ ?_
   rotate_left
   · intro w hSw
     conv in opOf _ _ => whnf
     (obtain ⟨hSa, hSb⟩ := hSw)
     go_simp
     try (with_reducible rfl)
   try simp only [Act.put, List.setIfInBounds_toArray, List.set_cons_zero, List.set_cons_succ])
  (refine held_take (v := ?_) (d := some 89) 9 (by kernel_rfl) (by kernel_rfl) rfl ?_ ?_
   rotate_left
   · intro w hSw
     conv in opOf _ _ => whnf
     (obtain ⟨hSa, hSb⟩ := hSw)
     go_simp
     try (with_reducible rfl)
   try simp only [Act.put, List.setIfInBounds_toArray, List.set_cons_zero, List.set_cons_succ])
  (refine held_take (v := ?_) (d := some 90) 10 (by kernel_rfl) (by kernel_rfl) rfl ?_ ?_
   rotate_left
   · intro w hSw
     conv in opOf _ _ => whnf
     (obtain ⟨hSa, hSb⟩ := hSw)
     go_simp
     try (with_reducible rfl)
   try simp only [Act.put, List.setIfInBounds_toArray, List.set_cons_zero, List.set_cons_succ])
  (refine held_take (v := ?_) (d := some 91) 11 (by kernel_rfl) (by kernel_rfl) rfl ?_ ?_
   rotate_left
   · intro w hSw
     conv in opOf _ _ => whnf
     (obtain ⟨hSa, hSb⟩ := hSw)
     go_simp
     try (with_reducible rfl)
   try simp only [Act.put, List.setIfInBounds_toArray, List.set_cons_zero, List.set_cons_succ])
  (refine held_one 4 (by kernel_rfl) (by kernel_rfl) (held_run (v := ?_) (w' := ?_) (d := some 84) 4 (by kernel_rfl) (by kernel_rfl) rfl ?_ ?_)
   rotate_left 2
   · intro hSw
     conv in opOf _ _ => whnf
     go_simp
     first | done | (with_reducible rfl) | (constructor <;> with_reducible rfl)
   intro hS
   refine ⟨hS, ?_⟩
   try simp only [Act.put, List.setIfInBounds_toArray, List.set_cons_zero, List.set_cons_succ])
  (refine held_take (v := ?_) (d := some 92) 12 (by kernel_rfl) (by kernel_rfl) rfl ?_ ?_
   rotate_left
   · intro w hSw
     conv in opOf _ _ => whnf
     (obtain ⟨hSa, hSb⟩ := hSw)
     go_simp
     try (with_reducible rfl)
   try simp only [Act.put, List.setIfInBounds_toArray, List.set_cons_zero, List.set_cons_succ])
  (refine held_take (v := ?_) (d := some 93) 13 (by kernel_rfl) (by kernel_rfl) rfl ?_ ?_
   rotate_left
   · intro w hSw
     conv in opOf _ _ => whnf
     (obtain ⟨hSa, hSb⟩ := hSw)
     go_simp
     try (with_reducible rfl)
   try simp only [Act.put, List.setIfInBounds_toArray, List.set_cons_zero, List.set_cons_succ])
  (refine held_take (v := ?_) (d := some 94) 14 (by kernel_rfl) (by kernel_rfl) rfl ?_ ?_
   rotate_left
   · intro w hSw
     conv in opOf _ _ => whnf
     (obtain ⟨hSa, hSb⟩ := hSw)
     go_simp
     try (with_reducible rfl)
   try simp only [Act.put, List.setIfInBounds_toArray, List.set_cons_zero, List.set_cons_succ])
  (refine held_take (v := ?_) (d := some 95) 15 (by kernel_rfl) (by kernel_rfl) rfl ?_ ?_
   rotate_left
   · intro w hSw
     conv in opOf _ _ => whnf
     (obtain ⟨hSa, hSb⟩ := hSw)
     go_simp
     try (with_reducible rfl)
   try simp only [Act.put, List.setIfInBounds_toArray, List.set_cons_zero, List.set_cons_succ])
  (refine held_one 16 (by kernel_rfl) (by kernel_rfl) (held_mute (w' := ?_) (d := none) 16 (by kernel_rfl) (by kernel_rfl) rfl ?_ ?_)
   rotate_left 1
   · intro hSw
     conv in opOf _ _ => whnf
     go_simp
     first | done | (with_reducible rfl)
   intro hS
   refine ⟨⟨(World.cell?_setCell_other _ _ _ _ (by simp)).trans hS.1, (World.cell?_setCell_other _ _ _ _ (by first | (simp; done) | (simp; omega))).trans hS.2⟩, ?_⟩
   try simp only [Act.put, List.setIfInBounds_toArray, List.set_cons_zero, List.set_cons_succ])
  refine held_done (by kernel_rfl) (fun hS => hR.out _ _ ?_)
  exact hQ _ _ _ _ _ _ _ _ _ _ _ _ _ _ _ _ _ _ (set_held hb _) (wrapI_bounds _) (((BFr.refl gB _ _ W).drewN 1).setB 2 _)

end Go.Proofs.YtfplkmldleigpaaDoor.bookop
