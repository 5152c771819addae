import Derived.Test.YthcjnkakfpmpbaaDoorQ45
import Derived.Test.YthcjnkakfpmpbaaDoorQ46
import Derived.Test.YthcjnkakfpmpbaaDoorQ42
namespace Go.Proofs.YthcjnkakfpmpbaaDoor.cpuPlays
open Go.RowKit
set_option linter.unusedVariables false
set_option linter.unusedSimpArgs false
theorem within_big (n m : Int) (h0 : -9223372036854775808 ≤ n) (h1 : n ≤ 9223372036854775807) (hm0 : 0 ≤ m) (hm : m < 2000000) :
    ∃ r : Int,0 ≤ r ∧ r ≤ m ∧ ∀ w,Calls Tryd.prog 21 #[.int .i64 n,.int .i64 0,.int .i64 m] w fun e w' => e = .returned (.int .i64 r) ∧ w = w' := by
  have hq1 : n.tmod (m + 1) < m + 1 := Int.tmod_lt_of_pos _ (by omega)
  have hq0 : -(m + 1) < n.tmod (m + 1) := by have := Int.lt_tmod_of_pos n (show 0 < m + 1 by omega); omega
  have hne : (m + 1 == 0) = false := by simp; omega
  have hne' : (m + 1 = 0) = False := by simp; omega
  by_cases h : n.tmod (m + 1) < 0
  · refine ⟨n.tmod (m + 1) + m + 1,by omega,by omega,fun w => ?_⟩
    go_enter Tryd.func21,Tryd.ntmps21
    go_wp2
    go_ret
    exact ⟨rfl,rfl⟩
  · refine ⟨n.tmod (m + 1),by omega,by omega,fun w => ?_⟩
    go_enter Tryd.func21,Tryd.ntmps21
    go_wp2
    go_ret
    exact ⟨rfl,rfl⟩
set_option maxRecDepth 100000 in
set_option maxHeartbeats 8000000 in
theorem core (w : World) (A0 Am lA : Option Addr) (n c0 mm mc ln lc : Nat) (input : List Int) (mem : List UInt8) (fr0 : Int) (f : Nat → (Int × Int × Int × Int × Int) × Int)
    (s0 : Sl w w.heap.size 1 A0 n (is32 input)) (hb0 : n * 4 ≤ 140737488351232) (hir : ∀ x ∈ input,In32 x) (sm : Sl w w.heap.size 1 Am mm (bs mem)) (hbm : mm ≤ 140737488351232) (hf0 : -9223372036854775808 ≤ fr0) (hf1 : fr0 ≤ 9223372036854775807) (hln : ln ≤ 140737488351232)
    (hA : AsksIn w lA ln f) (hT : TabIs 0 w) :
    Calls Tryd.prog 14 #[.slice A0 n c0,.slice Am mm mc,.int .i64 fr0,.slice lA ln lc] w fun e w' => e = .returned (.bool true) ∧ Below w.heap.size w w' := by
  have htb : 0 < w.heap.size := hT.lt
  have hli : input.length = n := by have := s0.len; rw [is32_length] at this; omega
  have hne : ∀ g w,(binOp BinOp.eql 50 (.pointer (some ⟨g,0,none⟩)) (.pointer none)).run Tryd.prog w = .ok (.bool false) w := by intro g w; kernel_rfl
  have hnn : ∀ w,(binOp BinOp.eql 50 (.pointer none) (.pointer none)).run Tryd.prog w = .ok (.bool true) w := by intro w; kernel_rfl
  obtain ⟨i0,hi0,hz0,hz1,hz2⟩ := info_parts i32_info
  obtain ⟨fr,fr0',fr1',hwi⟩ := within_big fr0 1048576 hf0 hf1 (by omega) (by omega)
  have Hir := Lib.hid hir
  have Hli := Lib.hid hli
  have HA := Lib.hid hA
  have Hwi := Lib.hid hwi
  clear hir hli hA hwi
  by_cases hn : n ≤ 4096
  case neg =>
    have hnI : (4096 : Int) < n := by omega
    go_enter Tryd.func14,Tryd.ntmps14
    go_wp2_with (first
      | (go_at_call 41; (with_reducible refine Calls.mono (roomy_i32 A0 n c0 input (-7) w s0 (by omega)) ?_); rintro e w1 ⟨rfl,hB1,hb1⟩)
      | (go_at_call 33; (with_reducible refine Calls.mono (new_much (some ⟨w.heap.size,0,none⟩) n (n + 80) w1 (by omega)) ?_); rintro e w2 ⟨rfl,rfl⟩)
      | (go_at_call 30; refine (known18_any _ (hT.below hb1 htb)).mono ?_; rintro e w9 ⟨rfl,hb9⟩)
      | fail)
    go_ret
    exact ⟨rfl,hb1.trans (hb9.mono hb1.size)⟩
  case pos =>
    have hnI : ¬ (4096 : Int) < n := by omega
    go_enter Tryd.func14,Tryd.ntmps14
    go_wp2_with (first
      | (go_at_call 41; (with_reducible refine Calls.mono (roomy_i32 A0 n c0 input (-7) w s0 (by omega)) ?_); rintro e w1 ⟨rfl,hB1,hb1⟩; have hz1' := hB1.lt; have s1 : Sl w1 w1.heap.size 1 (some ⟨w.heap.size,0,none⟩) n (is32 input) := by have h := (hB1.sl (sz := 1) (n := n + 80) (by rw [is32_length,List.length_append,List.length_replicate,Hli.out]; omega)).front (k := n) (by omega); rwa [Nat.mul_one,is32_take,← Hli.out,List.take_left,Hli.out] at h)
      | (go_at_call 33; (with_reducible refine Calls.mono (new_any (some ⟨w.heap.size,0,none⟩) n (n + 80) (is32 input) w1 s1 (is32_one input) hn (by intro h; cases h)) ?_); rintro e w2 ⟨g1,A1,c1,rfl,hg1,hBg,ho1,hne1,hb2⟩; have hz2' := hb2.size)
      | (go_at_call 21; refine (Hwi.out _).mono ?_; rintro e w3 ⟨rfl,rfl⟩)
      | (at_builtin
         refine wpList_app _ rfl (.tmp 48) (.tmp 49) _ rfl w2.heap.size 21 i0 _ 1 4 Tryd.underlying67 hi0 hz0 hz1 hz2 rfl (by omega) (.slice (some ⟨w2.heap.size,0,none⟩) 0 0) 0 [] rfl (own_empty _ _ _) w2.heap.size A0 n c0 (is32 input) rfl ((((s0.below hb1).more hb1.size).below hb2).more hb2.size |>.alloc (Nat.le_refl _) _) (is32_one input) (by unfold maxLen; omega) (by omega) (by simp) n (by omega) (is32 input) rfl ?_
         intro A2 c2 w4 hc2 hown2 hgr2 hoo2
         have hb4 : Below w2.heap.size w2 w4 := ((Below.refl _ _).alloc (Nat.le_refl _) _).grown hgr2 (by simp) (fun k hk => by simp [Value.ownBlock] at hk; omega))
      | (go_at_call 15; refine (roomy_u8 Am mm mc mem 165 _ (((((((sm.below hb1).more hb1.size).below hb2).more hb2.size).below hb4).more hb4.size).alloc (Nat.le_refl _) _ |>.more (by simp)) (by omega)).mono ?_; rintro e w5 ⟨rfl,hB5,hb5⟩)
      | fail)
    have hbA : Below w4.heap.size w4 (w4.alloc (.cells (Tryd.zeroCells89.setIfInBounds 270 (.slice A2 n c2)) 89)) := (Below.refl _ _).alloc (Nat.le_refl _) _
    have hzA : (w4.alloc (.cells (Tryd.zeroCells89.setIfInBounds 270 (.slice A2 n c2)) 89)).heap.size = w4.heap.size + 1 := World.size_alloc _ _
    have hB2r : Blk (w4.alloc (.cells (Tryd.zeroCells89.setIfInBounds 270 (.slice A2 n c2)) 89)) w4.heap.size refL.t (Tryd.zeroCells89.setIfInBounds 270 (.slice A2 n c2)).toList := by
      unfold Blk
      rw [Array.toArray_toList]
      exact heap_alloc_new w4 _
    have hr2 := Row.of_own hown2
    have m2 := mach_new (L := refL) (base := w.heap.size) w2.heap.size hB2r (core_r _) (cells_r _).2.1 (cells_r _).1 (cells_r _).2.2 Hli.out.symm (hr2.keep fun k e => Below.heap_alloc w4 _ k (hr2.lt k e).2) (fun k e => by have := (hr2.lt k e).2; omega) (Nat.le_trans hb1.size hb2.size) hb4.size
    have hBg' : Blk w2 g1 cpuL.t (Tryd.zeroCells119.setIfInBounds 270 (.slice A1 n c1)).toList := hBg
    have m1 := mach_new (L := cpuL) (base := w.heap.size) w1.heap.size hBg' (core_c _) (cells_c _).2.1 (cells_c _).1 (cells_c _).2.2 Hli.out.symm (Row.of_own ho1) hne1 hb1.size hg1
    rw [hzA] at hB5 hb5
    generalize w4.alloc (.cells (Tryd.zeroCells89.setIfInBounds 270 (.slice A2 n c2)) 89) = wA at hbA hzA hB2r m2 hb5 ⊢
    have hb45 : Below w4.heap.size w4 w5 := hbA.trans (hb5.mono (by omega))
    have hb25 : Below w2.heap.size w2 w5 := hb4.trans (hb45.mono hb4.size)
    have hb15 : Below w1.heap.size w1 w5 := hb2.trans (hb25.mono hb2.size)
    have hb05 : Below w.heap.size w w5 := hb1.trans (hb15.mono hb1.size)
    obtain ⟨V,hV⟩ : ∃ V : Nat → Prop,V = fun k => w1.heap.size ≤ k ∧ k < w4.heap.size + 1 := ⟨_,rfl⟩
    have hVb : ∀ x,V x → w.heap.size ≤ x := fun x h => by rw [hV] at h; have := hb1.size; have := h.1; omega
    have hb4s := hb4.size
    have hb2s := hb2.size
    have I0 : Inv w5 V g1 w4.heap.size w.heap.size Kz [] [] input Kz [] [] input (fun _ => False) w5 := by
      refine ⟨_,_,m1.keep hb25.size fun k hu => hb25.block k hu.2,m2.keep (by have := hb5.size; omega) fun k hu => hb5.block k (by have := hu.2; omega),fun x h1 h2 => by have := h1.2; have := h2.1; omega,fun x h => .inl ?_,KFr.refl _ _,fun x h => h.elim⟩
      rw [hV]
      rcases h with h | h
      · exact ⟨h.1,by have := h.2; omega⟩
      · exact ⟨by have := h.1; omega,by have := h.2; omega⟩
    have hroom : Sl w5 w5.heap.size 1 (some ⟨w4.heap.size + 1,0,none⟩) (mm + 80) (bs (mem ++ List.replicate 80 165)) := by
      have hml : mem.length = mm := by have := sm.len; rw [bs_length] at this; omega
      exact hB5.sl (by rw [bs_length,List.length_append,List.length_replicate,hml]; omega)
    have hrmem : Sl w5 w5.heap.size 1 (some ⟨w4.heap.size + 1,0,none⟩) mm (bs mem) := by
      have hml : mem.length = mm := by have := sm.len; rw [bs_length] at this; omega
      have h := hroom.front (k := mm) (by omega)
      rwa [Nat.mul_one,bs_take,← hml,List.take_left,hml] at h
    have hfull : Sl w5 w5.heap.size 1 (some ⟨w.heap.size,0,none⟩) (n + 80) (is32 (input ++ List.replicate 80 (-7))) := by
      have h := hB1.sl (sz := 1) (n := n + 80) (by rw [is32_length,List.length_append,List.length_replicate,Hli.out]; omega)
      exact (h.below hb15).more hb15.size
    have hfV : ¬ V w.heap.size := fun h => by rw [hV] at h; have := h.1; omega
    have hrV : ¬ V (w4.heap.size + 1) := fun h => by rw [hV] at h; have := h.2; omega
    have hrl : w4.heap.size + 1 < w5.heap.size := hB5.lt
    have hfl : w.heap.size < w5.heap.size := by have := hb15.size; omega
    have hg2l : w4.heap.size < w5.heap.size := by omega
    have hTg : 0 ≠ g1 := by have := hb1.size; omega
    -- what holds behind any steps
    have hBe : ∀ K out st inp Kr out2 st2 inp2 B wr,Inv w5 V g1 w4.heap.size w.heap.size K out st inp Kr out2 st2 inp2 B wr → Below w.heap.size w wr := fun _ _ _ _ _ _ _ _ _ _ I => hb05.trans (I.belowBase hVb hb05.size)
    have hRm : ∀ K out st inp Kr out2 st2 inp2 B wr,Inv w5 V g1 w4.heap.size w.heap.size K out st inp Kr out2 st2 inp2 B wr → Sl wr wr.heap.size 1 (some ⟨w4.heap.size + 1,0,none⟩) mm (bs mem) := fun K out st inp Kr out2 st2 inp2 B wr I =>
      ⟨hrmem.len,fun hz => by
        obtain ⟨b,o,e,hb,hc⟩ := hrmem.at_ hz
        obtain ⟨rfl,rfl⟩ : b = w4.heap.size + 1 ∧ o = 0 := by injection e with e; injection e with e1 e2; exact ⟨e1.symm,e2.symm⟩
        exact ⟨_,_,rfl,Nat.lt_of_lt_of_le hrl I.size,hc.keep fun i => World.cell?_of_block (w := w5) (a := ⟨w4.heap.size + 1,i,none⟩) (I.block hrl hrV)⟩⟩
    have Hf := Lib.hid (And.intro hroom hfull)
    have HI0 := Lib.hid I0
    have HBe := Lib.hid hBe
    have HRm := Lib.hid hRm
    clear hB2r m1 m2 hBg hBg' hB5 hB1 ho1 hne1 hgr2 hown2 hr2 hroom hfull hrmem I0 hBe hRm s1 hoo2 hbA hb45 hb25 hb5
    go_loopw [14] (fun i wr => ∃ (k : Nat) (K Kr : List Value) (out st inp : List Int),i = .int .i64 k ∧ k ≤ ln ∧ k ≤ 200 ∧ Hid (KR K Kr ∧ (∀ x ∈ st,In32 x) ∧ (∀ x ∈ inp,In32 x) ∧ out.length ≤ 4096 ∧ st.length ≤ 256) ∧ Inv w5 V g1 w4.heap.size w.heap.size K out st inp Kr out st inp (fun _ => False) wr) (fun i _ => 200 - (intOf i).toNat)
    case atStart => exact ⟨0,_,_,_,_,_,rfl,Nat.zero_le _,by omega,Lib.hid ⟨kz_kr,by simp,Hir.out,by simp,by simp⟩,HI0.out⟩
    case round =>
      obtain ⟨k,K,Kr,out,st,inp,rfl,hk1,hk2,hKK,hI⟩ := hrel
      have HI := Lib.hid hI
      clear hI
      by_cases hlt : k < ln ∧ k < 200
      · obtain ⟨hl1,hl2⟩ := hlt
        have hI1 : (k : Int) < ln := by omega
        have hI2 : (k : Int) < 200 := by omega
        obtain ⟨lb,lo,hlA,hlb,hAsk,hN,hWd⟩ := HA.out k hl1
        subst hlA
        obtain ⟨hKR0,hst0,hin0,hol0,hsl0⟩ := hKK.out
        rcases hfk : f k with ⟨⟨i0',i1',i2',i3',i4'⟩,wd⟩
        rw [hfk] at hAsk hN hWd
        dsimp only at hAsk hN hWd
        obtain ⟨⟨E0,E1,E2⟩,out',st',inp',G,Gr,hKR,hst',hin',hol',hsl',H1,H2⟩ := both_any i0' i1' i2' i3' i4' wd fr mem K Kr out st inp hKR0 hN hWd fr0' (by omega) hst0 hin0 hol0 hsl0
        have hAw : ∀ K out st inp Kr out2 st2 inp2 B wr,Inv w5 V g1 w4.heap.size w.heap.size K out st inp Kr out2 st2 inp2 B wr → AskAt lb (lo + k * 6) i0' i1' i2' i3' i4' wd wr := fun _ _ _ _ _ _ _ _ _ _ I => hAsk.keep fun j => (HBe.out _ _ _ _ _ _ _ _ _ _ I).cell (p := ⟨lb,j,none⟩) hlb
        have hlw : ∀ K out st inp Kr out2 st2 inp2 B wr,Inv w5 V g1 w4.heap.size w.heap.size K out st inp Kr out2 st2 inp2 B wr → lb < wr.heap.size := fun _ _ _ _ _ _ _ _ _ _ I => by have := (HBe.out _ _ _ _ _ _ _ _ _ _ I).size; omega
        have HK := Lib.hid hKR
        have HH1 := Lib.hid H1
        have HH2 := Lib.hid H2
        have HAw := Lib.hid hAw
        have HLw := Lib.hid hlw
        clear hKR H1 H2 hAw hlw hAsk hN hWd hfk hKR0 hst0 hin0 hol0 hsl0
        go_wp2_with fail
        refine wp_region_swap (ops' := cpR13) (by kernel_rfl) (cp_r13 (fun B w' => Inv w5 V g1 w4.heap.size w.heap.size K out st inp Kr out st inp B w') (fun B w' => ∃ K',G K' ∧ Inv w5 V g1 w4.heap.size w.heap.size K' out' st' inp' Kr out st inp B w')
          ⟨fun _ _ _ h I => I.below h,fun _ _ o I => I.new o,fun _ _ _ vs hX I => I.set hX vs 0⟩ ⟨fun _ _ _ h ⟨K',hG,I⟩ => ⟨K',hG,I.below h⟩,fun _ _ o ⟨K',hG,I⟩ => ⟨K',hG,I.new o⟩,fun _ _ _ vs hX ⟨K',hG,I⟩ => ⟨K',hG,I.set hX vs 0⟩⟩
          (fun _ => False) g1 lb lo ln lc k (w4.heap.size + 1) Am mm mc fr i0' i1' i2' i3' i4' wd E0 E1 E2 _ _ _ _ _ _ _ _ _ _ _ _ _ _ _ _ _ _ _ _ _ _ _ _ _ _ _ _ _ _ _ _ _ _ _ _ _ _ _ _ _ _ _ _ _ _ _ _ _ _ _ _ _ _ _ _ _ _ _ _ _ _ _ _ _ _ _ _ _ _ _ _ _ _ _ _ _ _ _ _ _ _ _ _ _ _ _ _ _ _ _ _ _ _ _ _ _ _ _ _ _ _ _ _ _ _ _ _ _ _ _ _ _ _ _ _ _ _ _ _ _ _ _ _ _ _ _ _ _ _ _ _ _ _ _ _ _ _ _ _ _ _ _ _ _ _ hl1 (by omega) HI.out (fun x h => h.elim) (HAw.out _ _ _ _ _ _ _ _ _ _ HI.out) (HLw.out _ _ _ _ _ _ _ _ _ _ HI.out)
          (Lib.hid fun B w' I hA' hl' => (I.do1 fun U m => HH1.out w' U g1 w.heap.size _ mm _ m (hT.below (HBe.out _ _ _ _ _ _ _ _ _ _ I) htb) hTg (HBe.out _ _ _ _ _ _ _ _ _ _ I).size (HRm.out _ _ _ _ _ _ _ _ _ _ I) (by omega)).mono fun e w'' h => by
            obtain ⟨rfl,⟨K',hG,I'⟩,hfr,hsz1⟩ := h
            exact ⟨rfl,⟨K',hG,I'⟩,HAw.out _ _ _ _ _ _ _ _ _ _ I',HLw.out _ _ _ _ _ _ _ _ _ _ I',hsz1,hfr⟩) ?_)
        intro YH YI YJ YK YL YM YN YO YP YQ YR YS YT YU YV YW YX X1 w6 hP6 hX1 hA6 hl6 hz6 _
        go_wp2_with fail
        refine wp_region_swap (ops' := cpR14) (by kernel_rfl) (cp_r14 (fun B w' => ∃ K',G K' ∧ Inv w5 V g1 w4.heap.size w.heap.size K' out' st' inp' Kr out st inp B w') (fun B w' => ∃ K' Kr',G K' ∧ Gr Kr' ∧ Inv w5 V g1 w4.heap.size w.heap.size K' out' st' inp' Kr' out' st' inp' B w')
          ⟨fun _ _ _ h ⟨K',hG,I⟩ => ⟨K',hG,I.below h⟩,fun _ _ o ⟨K',hG,I⟩ => ⟨K',hG,I.new o⟩,fun _ _ _ vs hX ⟨K',hG,I⟩ => ⟨K',hG,I.set hX vs 0⟩⟩ ⟨fun _ _ _ h ⟨K',Kr',hG,hGr,I⟩ => ⟨K',Kr',hG,hGr,I.below h⟩,fun _ _ o ⟨K',Kr',hG,hGr,I⟩ => ⟨K',Kr',hG,hGr,I.new o⟩,fun _ _ _ vs hX ⟨K',Kr',hG,hGr,I⟩ => ⟨K',Kr',hG,hGr,I.set hX vs 0⟩⟩
          (fun x => False ∨ x = X1) w4.heap.size lb lo ln lc k Am mm mc fr i0' i1' i2' i3' i4' wd E0 E1 E2 _ _ _ _ _ _ _ _ _ _ _ _ _ _ _ _ _ _ _ _ _ _ _ _ _ _ _ _ _ _ _ _ _ _ _ _ _ _ _ _ _ _ _ _ _ _ _ _ _ _ _ _ _ _ _ _ _ _ _ _ _ _ _ _ _ _ _ _ _ _ _ _ _ _ _ _ _ _ _ _ _ _ _ _ _ _ _ _ _ _ _ _ _ _ _ _ _ _ _ _ _ _ _ _ _ _ _ _ _ _ _ _ _ _ _ _ _ _ _ _ _ _ _ _ _ _ _ _ _ _ _ _ _ _ _ _ _ _ _ _ _ _ _ _ _ _ _ hl1 (by omega) hP6 (fun x h => h.elim (fun h => h.elim) fun h => by rw [h]; exact hX1.lt) hA6 hl6
          (Lib.hid fun B w' hP hA' hl' => by
            obtain ⟨K',hG,I⟩ := hP
            refine (I.do2 fun U m => HH2.out w' U w4.heap.size w.heap.size Am mm mc m (HBe.out _ _ _ _ _ _ _ _ _ _ I).size ((sm.below (HBe.out _ _ _ _ _ _ _ _ _ _ I)).more (HBe.out _ _ _ _ _ _ _ _ _ _ I).size) (by omega)).mono fun e w'' h => ?_
            obtain ⟨rfl,⟨Kr',hGr,I'⟩,hfr,hsz1⟩ := h
            exact ⟨rfl,⟨K',Kr',hG,hGr,I'⟩,HAw.out _ _ _ _ _ _ _ _ _ _ I',HLw.out _ _ _ _ _ _ _ _ _ _ I',hsz1,hfr⟩) ?_)
        intro YY YZ Y0 Y1 Y2 Y3 Y4 Y5 Y6 Y7 Y8 Y9 Za Zb X2 w7 hP7 hX2 hA7 hl7 hz7 hf7
        obtain ⟨K',Kr',hG,hGr,I7⟩ := hP7
        have hKR' := HK.out _ _ hG hGr
        have hX1' : Blk w7 X1 56 [.int .i64 E0,.int .i64 E1,.int .u32 E2] := (hf7 X1 (.inr rfl)).trans hX1
        obtain ⟨cs1,AT1,AS1,AI1,cT1,cS1,cI1,U1,m1⟩ := I7.cpu
        obtain ⟨cs2,AT2,AS2,AI2,cT2,cS2,cI2,U2,m2⟩ := I7.ref
        have HI7 := Lib.hid I7
        have HM1 := Lib.hid m1
        have HM2 := Lib.hid m2
        have HKR := Lib.hid hKR'
        have HX1 := Lib.hid hX1'
        have HX2 := Lib.hid hX2
        have HL := Lib.hid (And.intro hst' (And.intro hin' (And.intro hol' hsl')))
        clear I7 m1 m2 hKR' hX1' hX1 hX2 hA6 hA7 hl6 hl7 hz6 hz7 hf7 hP6 hst' hin' hol' hsl'
        go_wp2_with fail
        refine wp_region_swap (ops' := cpR15) (by kernel_rfl) (cp_r15 g1 w4.heap.size X1 X2 st'.length out'.length cS2 cT2 AS2 AT2 out' E0 E1 E2 _ _ _ _ _ _ _ _ _ _ _ _ _ _ _ _ _ _ _ _ _ _ _ _ _ _ _ _ _ _ _ _ _ _ _ _ _ _ _ _ _ _ _ _ _ _ _ _ _ _ _ _ _ _ _ _ _ _ _ _ _ _ _ _ _ _ _ _ _ _ _ _ _ _ _ _ _ _ _ _ _ _ _ _ _ _ _ _ _ _ _ _ _ _ _ _ _ _ _ _ _ _ _ _ _ _ _ _ _ _ _ _ _ _ _ _ _ _ _ _ _ _ _ _ _ _ _ _ _ _ _ _ _ _ _ _ _ _ _ _ _ _ _ _ _ _ _ _ HX1.out.lt HX2.out.lt HM2.out.blk.lt HL.out.2.2.1 (HX1.out.cell 0) (HX1.out.cell 1) (HX1.out.cell 2) (HX2.out.cell 0) (HX2.out.cell 1) (HX2.out.cell 2)
          ((HM2.out.blk.cell 12).trans HM2.out.eS) ((HM2.out.blk.cell 269).trans HM2.out.eT) HM2.out.rT.sl
          (Lib.hid fun w' hb => depthM w' g1 _ _ _ cs1 (HM1.out.blk.below hb HM1.out.blk.lt) HM1.out.eS)
          (Lib.hid fun w' hb => (trace_anyM w' g1 _ _ _ cs1 w.heap.size out' (HM1.out.blk.below hb HM1.out.blk.lt) HM1.out.eT (HM1.out.rT.keep fun j e => hb.block j (HM1.out.rT.lt j e).2) (by have := HL.out.2.2.1; omega)).mono fun e w'' ⟨A,c,h1,h2,h3⟩ => ⟨_,h1,A,c,rfl,h2,h3⟩) ?_)
        intro Zc Zd Ze Zf Ya Yb Yc Yd Ye Yf Yg Yh Yi Yj Yk Yl Ym Yn Yo Yp Yq Yr Ys Yt Yu Yv Yw Yx w8 hb8
        go_wp2_with fail
        go_loopw [17] (fun i wr' => ∃ j q : Nat,i = .int .i64 j ∧ j ≤ 8 ∧ wr' = w8.drewN q) (fun i _ => 8 - (intOf i).toNat)
        case atStart => exact ⟨0,0,rfl,Nat.zero_le _,rfl⟩
        case round =>
          obtain ⟨j,q,rfl,hj8,rfl⟩ := hrel
          by_cases hj : j < 8
          · have hjI : (j : Int) < 8 := by omega
            obtain ⟨x,_,hx1,hx2⟩ := HKR.out.r j hj
            have hb8q : Below w7.heap.size w7 (w8.drewN q) := below_drewN hb8 q
            have cx2 := (HM2.out.core j (by omega)).trans hx2
            rw [lay_lo (by omega)] at cx2
            have cx1 : cs1[j]? = some (.int .i32 x) := (HM1.out.core j (by omega)).trans hx1
            have hc2 := ((HM2.out.blk.below hb8q HM2.out.blk.lt).cell j).trans cx2
            have hbk1 : Blk (w8.drewN q).drew g1 119 cs1 := HM1.out.blk.below (show Below w7.heap.size w7 (w8.drewN q).drew from below_drewN hb8q 1) HM1.out.blk.lt
            have Hc := Lib.hid (And.intro hc2 (And.intro cx1 hbk1))
            clear hc2 cx1 cx2 hbk1 hx1 hx2
            go_wp2_with fail
            refine wp_region_swap (ops' := cpR20) (by kernel_rfl) (cp_r20 g1 w4.heap.size j x _ _ _ _ _ _ _ _ _ _ _ _ _ _ _ _ _ _ _ _ _ _ _ _ _ _ _ _ _ _ _ _ _ _ _ _ _ _ _ _ _ _ _ _ _ _ _ _ _ _ _ _ _ _ _ _ _ _ _ _ _ _ _ _ _ _ _ _ _ _ _ _ _ _ _ _ _ _ _ _ _ _ _ _ _ _ _ _ _ _ _ _ _ _ _ _ _ _ _ _ _ _ _ _ _ _ _ _ _ _ _ _ _ _ _ _ _ _ _ _ _ _ _ _ _ _ _ _ _ _ _ _ _ _ _ _ _ _ _ _ _ _ _ _ _ _ _ _ _ hj Hc.out.1 (Lib.hid (reg_any j x _ g1 cs1 Hc.out.2.2 hj Hc.out.2.1)) ?_)
            intro Yy Yz YA YB YC YD YE YF YG
            go_wp2_with fail
            go_roundw
            case rel => exact ⟨j + 1,q + 1,by go_num,by omega,rfl⟩
            case measure => simp [intOf]; omega
          · obtain rfl : j = 8 := by omega
            go_wp2_with fail
            go_roundw
            case rel => exact ⟨k + 1,K',Kr',out',st',inp',by go_num,by omega,by omega,Lib.hid ⟨HKR.out,HL.out⟩,(HI7.out.below (below_drewN hb8 q)).weak fun x h => h.elim⟩
            case measure => simp [intOf]; omega
      · have hmv : ∀ (b N : Nat) (cs : List Value),b < w5.heap.size → ¬ V b → Sl w5 w5.heap.size 1 (some ⟨b,0,none⟩) N cs → Sl wr wr.heap.size 1 (some ⟨b,0,none⟩) N cs := fun b N cs hbl hbv h => ⟨h.len,fun hz => by
          obtain ⟨b',o,e,hb,hc⟩ := h.at_ hz
          obtain ⟨rfl,rfl⟩ : b' = b ∧ o = 0 := by injection e with e; injection e with e1 e2; exact ⟨e1.symm,e2.symm⟩
          exact ⟨_,_,rfl,Nat.lt_of_lt_of_le hbl HI.out.size,hc.keep fun i => World.cell?_of_block (w := w5) (a := ⟨b',i,none⟩) (HI.out.block hbl hbv)⟩⟩
        have HFu := Lib.hid (hmv _ _ _ hfl hfV Hf.out.2)
        have HRo := Lib.hid (hmv _ _ _ hrl hrV Hf.out.1)
        clear hmv
        have hTr := Lib.hid (hT.below (HBe.out _ _ _ _ _ _ _ _ _ _ HI.out) htb)
        have hend : ¬ (k : Int) < ln ∨ ((k : Int) < ln ∧ ¬ (k : Int) < 200) := by omega
        rcases hend with hend | ⟨hend,hend2⟩
        all_goals
          go_wp2_with (first
            | (go_at_call 43; refine (intact_i32 (some ⟨w.heap.size,0,none⟩) A0 n (n + 80) c0 input (-7) wr (HFu.out) (((s0.below (HBe.out _ _ _ _ _ _ _ _ _ _ HI.out)).more (HBe.out _ _ _ _ _ _ _ _ _ _ HI.out).size)) (by omega) (by omega)).mono ?_; rintro e w9 ⟨rfl,kd,rfl⟩)
            | (go_at_call 18; refine (intact_u8 (some ⟨w4.heap.size + 1,0,none⟩) Am mm (mm + 80) mc mem 165 (wr.drewN kd) (HRo.out.drewN kd) (((sm.below (HBe.out _ _ _ _ _ _ _ _ _ _ HI.out)).more (HBe.out _ _ _ _ _ _ _ _ _ _ HI.out).size).drewN kd) (by omega) (by omega)).mono ?_; rintro e w10 ⟨rfl,kd2,rfl⟩)
            | (go_at_call 30; refine (known18_any _ (by exact hTr.out)).mono ?_; rintro e w11 ⟨rfl,hb11⟩; have hb12 : Below wr.heap.size wr w11 := ⟨hb11.os,hb11.tape,hb11.output,hb11.size,hb11.block⟩)
            | fail)
          go_ret
          have hbR := HBe.out _ _ _ _ _ _ _ _ _ _ HI.out
          exact ⟨rfl,hbR.trans (hb12.mono hbR.size)⟩
theorem walk (w : World) (A0 : Option Addr) (n0 c0 : Nat) (l0 : List Int) (s0 : Sl w w.heap.size 1 A0 n0 (is32 l0) ∧ ∀ x ∈ l0,In32 x) (hc0 : n0 ≤ c0) (b0 : n0 * 4 ≤ 140737488351232)
    (A1 : Option Addr) (n1 c1 : Nat) (l1 : List UInt8) (s1 : Sl w w.heap.size 1 A1 n1 (bs l1)) (hc1 : n1 ≤ c1) (b1 : n1 * 1 ≤ 140737488351232) (a2 : Int) (b2 : -9223372036854775808 ≤ a2 ∧ a2 ≤ 9223372036854775807)
    (A3 : Option Addr) (n3 c3 : Nat) (f : Nat → (Int × Int × Int × Int × Int) × Int) (s3 : AsksIn w A3 n3 f) (hc3 : n3 ≤ c3) (b3 : n3 * 48 ≤ 140737488351232) (hT : TabIs 0 w) :
    Calls Tryd.prog 14 #[.slice A0 n0 c0,.slice A1 n1 c1,.int .i64 a2,.slice A3 n3 c3] w fun e w' => e = .returned (.bool true) ∧ Below w.heap.size w w' :=
  core w A0 A1 A3 n0 c0 n1 c1 n3 c3 l0 l1 a2 f s0.1 b0 s0.2 s1 (by omega) b2.1 b2.2 (by omega) s3 hT
end Go.Proofs.YthcjnkakfpmpbaaDoor.cpuPlays
