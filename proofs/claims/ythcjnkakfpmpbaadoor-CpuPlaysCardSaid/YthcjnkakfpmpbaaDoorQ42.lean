import Derived.Test.YthcjnkakfpmpbaaDoorQ37
import Derived.Test.YthcjnkakfpmpbaaDoorQ38
import Derived.Test.YthcjnkakfpmpbaaDoorQ39
import Derived.Test.YthcjnkakfpmpbaaDoorQ40
import Derived.Test.YthcjnkakfpmpbaaDoorQ41
import Derived.Test.YthcjnkakfpmpbaaDoorRows
import Derived.Test.YthcjnkakfpmpbaaDoorQ1
import Derived.Outline
import Derived.Lib.Hide
import Derived.Test.YthcjnkakfpmpbaaDoorQ5
import Derived.Deep.QuietTactic
import Derived.BigQuiet
import Derived.Test.YthcjnkakfpmpbaaDoorQ18
import Derived.Test.YthcjnkakfpmpbaaDoorQ3
import Derived.Test.YthcjnkakfpmpbaaDoorQ31
import Derived.Test.YthcjnkakfpmpbaaDoorQ26
import Derived.Test.YthcjnkakfpmpbaaDoorQ4
namespace Go.Proofs.YthcjnkakfpmpbaaDoor
open Go.RowKit
set_option linter.unusedVariables false
set_option linter.unusedSimpArgs false
theorem both_any (op a b n f word from_ : Int) (mem : List UInt8) (K Kr : List Value) (out st inp : List Int) (hK : KR K Kr) (hn : In32 n) (hw : In32 word) (hf0 : 0 ≤ from_) (hf1 : from_ ≤ 1048576) (hst : ∀ x ∈ st,In32 x) (hin : ∀ x ∈ inp,In32 x) (hol : out.length ≤ 4096) (hsl : st.length ≤ 256) :
    Both op a b n f word from_ mem K Kr out st inp := by
  by_cases hc : checkR op a b n f = 0
  · obtain ⟨hop,hr,_,_⟩ := checkR_parts hc
    obtain ⟨⟨a0,_⟩,⟨b0,_⟩,_⟩ := regB_bounds hr
    obtain ⟨a',rfl⟩ := Int.eq_ofNat_of_zero_le a0
    obtain ⟨b',rfl⟩ := Int.eq_ofNat_of_zero_le b0
    have hop' : 1 ≤ op ∧ op ≤ 43 := by unfold isOp at hop; simpa using hop
    clear hop hr
    rcases (show op = 1 ∨ op = 2 ∨ op = 3 ∨ op = 4 ∨ op = 5 ∨ op = 6 ∨ op = 7 ∨ op = 8 ∨ op = 9 ∨ op = 10 ∨ op = 11 ∨ op = 12 ∨ op = 13 ∨ op = 14 ∨ op = 15 ∨ op = 16 ∨ op = 17 ∨ op = 18 ∨ op = 19 ∨ op = 20 ∨ op = 21 ∨ op = 22 ∨ op = 23 ∨ op = 24 ∨ op = 25 ∨ op = 26 ∨ op = 27 ∨ op = 28 ∨ op = 29 ∨ op = 30 ∨ op = 31 ∨ op = 32 ∨ op = 33 ∨ op = 34 ∨ op = 35 ∨ op = 36 ∨ op = 37 ∨ op = 38 ∨ op = 39 ∨ op = 40 ∨ op = 41 ∨ op = 42 ∨ op = 43 by omega) with rfl | rfl | rfl | rfl | rfl | rfl | rfl | rfl | rfl | rfl | rfl | rfl | rfl | rfl | rfl | rfl | rfl | rfl | rfl | rfl | rfl | rfl | rfl | rfl | rfl | rfl | rfl | rfl | rfl | rfl | rfl | rfl | rfl | rfl | rfl | rfl | rfl | rfl | rfl | rfl | rfl | rfl | rfl
    · exact both_nop a' b' n f word from_ mem K Kr out st inp hK hn hw hf0 hf1 hst hin hol hsl hc
    · exact both_halt a' b' n f word from_ mem K Kr out st inp hK hn hw hf0 hf1 hst hin hol hsl hc
    · exact both_ret a' b' n f word from_ mem K Kr out st inp hK hn hw hf0 hf1 hst hin hol hsl hc
    · exact both_print a' b' n f word from_ mem K Kr out st inp hK hn hw hf0 hf1 hst hin hol hsl hc
    · exact both_in a' b' n f word from_ mem K Kr out st inp hK hn hw hf0 hf1 hst hin hol hsl hc
    · exact both_push a' b' n f word from_ mem K Kr out st inp hK hn hw hf0 hf1 hst hin hol hsl hc
    · exact both_pop a' b' n f word from_ mem K Kr out st inp hK hn hw hf0 hf1 hst hin hol hsl hc
    · exact both_jr a' b' n f word from_ mem K Kr out st inp hK hn hw hf0 hf1 hst hin hol hsl hc
    · exact both_neg a' b' n f word from_ mem K Kr out st inp hK hn hw hf0 hf1 hst hin hol hsl hc
    · exact both_not a' b' n f word from_ mem K Kr out st inp hK hn hw hf0 hf1 hst hin hol hsl hc
    · exact both_zturn a' b' n f word from_ mem K Kr out st inp hK hn hw hf0 hf1 hst hin hol hsl hc
    · exact both_zconj a' b' n f word from_ mem K Kr out st inp hK hn hw hf0 hf1 hst hin hol hsl hc
    · exact both_mov a' b' n f word from_ mem K Kr out st inp hK hn hw hf0 hf1 hst hin hol hsl hc
    · exact both_add a' b' n f word from_ mem K Kr out st inp hK hn hw hf0 hf1 hst hin hol hsl hc
    · exact both_sub a' b' n f word from_ mem K Kr out st inp hK hn hw hf0 hf1 hst hin hol hsl hc
    · exact both_mul a' b' n f word from_ mem K Kr out st inp hK hn hw hf0 hf1 hst hin hol hsl hc
    · exact both_div a' b' n f word from_ mem K Kr out st inp hK hn hw hf0 hf1 hst hin hol hsl hc
    · exact both_and a' b' n f word from_ mem K Kr out st inp hK hn hw hf0 hf1 hst hin hol hsl hc
    · exact both_or a' b' n f word from_ mem K Kr out st inp hK hn hw hf0 hf1 hst hin hol hsl hc
    · exact both_xor a' b' n f word from_ mem K Kr out st inp hK hn hw hf0 hf1 hst hin hol hsl hc
    · exact both_shl a' b' n f word from_ mem K Kr out st inp hK hn hw hf0 hf1 hst hin hol hsl hc
    · exact both_shr a' b' n f word from_ mem K Kr out st inp hK hn hw hf0 hf1 hst hin hol hsl hc
    · exact both_lt a' b' n f word from_ mem K Kr out st inp hK hn hw hf0 hf1 hst hin hol hsl hc
    · exact both_eq a' b' n f word from_ mem K Kr out st inp hK hn hw hf0 hf1 hst hin hol hsl hc
    · exact both_ldb a' b' n f word from_ mem K Kr out st inp hK hn hw hf0 hf1 hst hin hol hsl hc
    · exact both_ldw a' b' n f word from_ mem K Kr out st inp hK hn hw hf0 hf1 hst hin hol hsl hc
    · exact both_ldm a' b' n f word from_ mem K Kr out st inp hK hn hw hf0 hf1 hst hin hol hsl hc
    · exact both_stm a' b' n f word from_ mem K Kr out st inp hK hn hw hf0 hf1 hst hin hol hsl hc
    · exact both_zmov a' b' n f word from_ mem K Kr out st inp hK hn hw hf0 hf1 hst hin hol hsl hc
    · exact both_zadd a' b' n f word from_ mem K Kr out st inp hK hn hw hf0 hf1 hst hin hol hsl hc
    · exact both_zsub a' b' n f word from_ mem K Kr out st inp hK hn hw hf0 hf1 hst hin hol hsl hc
    · exact both_zmul a' b' n f word from_ mem K Kr out st inp hK hn hw hf0 hf1 hst hin hol hsl hc
    · exact both_zre a' b' n f word from_ mem K Kr out st inp hK hn hw hf0 hf1 hst hin hol hsl hc
    · exact both_zim a' b' n f word from_ mem K Kr out st inp hK hn hw hf0 hf1 hst hin hol hsl hc
    · exact both_zset a' b' n f word from_ mem K Kr out st inp hK hn hw hf0 hf1 hst hin hol hsl hc
    · exact both_lis a' b' n f word from_ mem K Kr out st inp hK hn hw hf0 hf1 hst hin hol hsl hc
    · exact both_trap a' b' n f word from_ mem K Kr out st inp hK hn hw hf0 hf1 hst hin hol hsl hc
    · exact both_li a' b' n f word from_ mem K Kr out st inp hK hn hw hf0 hf1 hst hin hol hsl hc
    · exact both_ldp a' b' n f word from_ mem K Kr out st inp hK hn hw hf0 hf1 hst hin hol hsl hc
    · exact both_jmp a' b' n f word from_ mem K Kr out st inp hK hn hw hf0 hf1 hst hin hol hsl hc
    · exact both_call a' b' n f word from_ mem K Kr out st inp hK hn hw hf0 hf1 hst hin hol hsl hc
    · exact both_jz a' b' n f word from_ mem K Kr out st inp hK hn hw hf0 hf1 hst hin hol hsl hc
    · exact both_jnz a' b' n f word from_ mem K Kr out st inp hK hn hw hf0 hf1 hst hin hol hsl hc
  · have hC : (checkR op a b n f == 0) = false := by simpa using hc
    refine ⟨(6,1,0),out,st,inp,fun K' => K' = K,fun K' => K' = Kr,?_,hst,hin,hol,hsl,?_,?_⟩
    · rintro _ _ rfl rfl; exact hK
    · rintro w U g base A m c ⟨cells,AT,AS,AI,cT,cS,cI,M⟩ hT htg hbw hSl hm
      refine (do_wrong op f n word from_ a b _ _ w g cells hT htg M.blk hn rfl hC).mono ?_
      rintro e w' ⟨rfl,h⟩
      exact ⟨rfl,M.to_same hbw h.mw.1 h.mw.2 rfl⟩
    · rintro w U g base A m c ⟨cells,AT,AS,AI,cT,cS,cI,M⟩ hbw hSl hm
      refine (rdo_wrong op f n word from_ a b _ _ w g cells M.blk hn rfl hC).mono ?_
      rintro e w' ⟨rfl,h⟩
      exact ⟨rfl,M.to_same hbw h.mw.1 h.mw.2 rfl⟩
end Go.Proofs.YthcjnkakfpmpbaaDoor
namespace Go.Proofs.YthcjnkakfpmpbaaDoor
open Go.RowKit
set_option linter.unusedVariables false
theorem u8_info : (Tryd.prog.info? 5).map (fun i => (i.zero,i.size,i.bytes)) = some (some (.int .u8 0),1,1) := by kernel_rfl
theorem same_u8 (A B : Option Addr) (n m c d : Nat) (xs ys : List UInt8) (w : World) (hx : Sl w w.heap.size 1 A n (bs xs)) (hy : Sl w w.heap.size 1 B m (bs ys)) (hn : n ≤ maxLen) :
    Calls Tryd.prog 52 #[.slice A n c,.slice B m d] w fun e w' => e = .returned (.bool (sameB xs ys)) ∧ ∃ k,w' = w.drewN k := by
  have lx : xs.length = n := by have := hx.len; rw [bs_length] at this; omega
  have ly : ys.length = m := by have := hy.len; rw [bs_length] at this; omega
  unfold maxLen at hn
  by_cases hnm : n = m
  · subst hnm
    have Lx := Lib.hid lx
    have Ly := Lib.hid ly
    clear lx ly
    obtain ⟨S,hS⟩ : ∃ S,S = sameB xs ys := ⟨_,rfl⟩
    rw [← hS]
    have HS := Lib.hid hS
    clear hS
    go_enter Tryd.func52,Tryd.ntmps52
    go_wp2
    go_loopw [5] (fun i wr => ∃ k : Nat,i = .int .i64 k ∧ k ≤ n ∧ Hid (xs.take k = ys.take k) ∧ ∃ j,wr = w.drewN j) (fun i _ => n - (intOf i).toNat)
    case atStart => exact ⟨0,rfl,Nat.zero_le _,Lib.hid rfl,0,rfl⟩
    case round =>
      obtain ⟨k,rfl,hk,ht,j,rfl⟩ := hrel
      by_cases hlt : k < n
      · obtain ⟨b,o,x,rfl,hb,hgx,hcx⟩ := hx.byte hlt
        obtain ⟨b',o',y,rfl,hb',hgy,hcy⟩ := hy.byte hlt
        have Hx := Lib.hid hgx
        have Hy := Lib.hid hgy
        clear hgx hgy hx hy
        have hI : (k : Int) < (n : Int) := by omega
        go_wp2
        go_quiet (fail)
        go_wp2
        · go_ret
          have hne : ((x.toNat : Int) != (y.toNat : Int)) = true := by assumption
          exact ⟨ret_bool (by rw [HS.out]; exact (sameB_no (same_not Hx.out Hy.out (fun e => by subst e; simp at hne))).symm),_,World.drewN_drewN _ _ _⟩
        · have hne : ((x.toNat : Int) != (y.toNat : Int)) = false := by assumption
          obtain rfl : x = y := UInt8.toNat_inj.1 (by simp at hne; omega)
          go_roundw
          case rel => exact ⟨k + 1,by go_num,by omega,Lib.hid (same_step ht.out Hx.out Hy.out),j + nq,rfl⟩
          case measure => simp [intOf]; omega
      · go_wp2
        go_ret
        exact ⟨ret_bool (by rw [HS.out]; exact (sameB_yes (same_end (by rw [show k = n by omega] at ht; exact ht.out) Lx.out Ly.out)).symm),_,rfl⟩
  · have hne : sameB xs ys = false := sameB_no (fun e => hnm (by rw [← lx,← ly,e]))
    rw [hne]
    have hI : ((n : Int) != (m : Int)) = true := by simp; omega
    clear lx ly hx hy hne
    go_enter Tryd.func52,Tryd.ntmps52
    go_wp2
    go_ret
    exact ⟨rfl,0,rfl⟩
end Go.Proofs.YthcjnkakfpmpbaaDoor
namespace Go.Proofs.YthcjnkakfpmpbaaDoor
open Go.RowKit
set_option linter.unusedVariables false
def GivesRoom (w : World) (t : TypeId) (n : Nat) (cs : List Value) (e : Ending) (w' : World) : Prop :=
  e = .returned (.slice (some ⟨w.heap.size,0,none⟩) (n + 80) (n + 80)) ∧ Blk w' w.heap.size t cs ∧ Below w.heap.size w w'
set_option maxHeartbeats 400000 in
theorem roomy_u8 (A : Option Addr) (n c : Nat) (l : List UInt8) (m : UInt8) (w : World) (hs : Sl w w.heap.size 1 A n (bs l)) (hn : n + 80 ≤ 140737488355328) :
    Calls Tryd.prog 15 #[.slice A n c,.int .u8 m.toNat] w (GivesRoom w 5 n (bs (l ++ List.replicate 80 m))) := by
  obtain ⟨i0,hi0,hz0,hz1,hz2⟩ := info_parts u8_info
  have hsz : (Tryd.prog.info? 5).map (·.size) = some 1 := by rw [hi0]; simp [hz1]
  have hl : (bs l).length = n := by have := hs.len; omega
  have hfin : bs (l ++ List.replicate 80 m) = fillV (bs l) (.int .u8 0) (.int .u8 m.toNat) (n + 80) := by
    rw [← hl,fillV_last,bs_append]
    simp [bs]
  rw [hfin]
  obtain ⟨X,hX⟩ : ∃ X,X = bs l := ⟨_,rfl⟩
  have h1 : ∀ u ∈ X,u.oneCell' = true := by rw [hX]; exact bs_one l
  rw [← hX] at hs hl ⊢
  have HL := Lib.hid hl
  have Hs := Lib.hid hs
  clear hfin hX hl hs
  go_enter Tryd.func15,Tryd.ntmps15
  go_wp2_with (first
    | (at_make
       refine wpList_make_full _ rfl _ _ 22 rfl w.heap.size 5 i0 (.int .u8 0) 1 Tryd.underlying22 hi0 hz0 hz1 _ _ _ _ (n + 80) rfl rfl (by omega) (by omega) (by rw [hz2]; omega) (by unfold maxLen; omega) (Nat.le_refl _) ?_
       intro w1 hown1 hg1
       have hblk1 : Blk w1 w.heap.size 5 (List.replicate (n + 80) (.int .u8 0)) := by (have := own_blk hown1; simpa [toList_madeCells_one,Value.cells] using this)
       have hb1 : Below w.heap.size w w1 := (Below.refl _ _).grown hg1 (Nat.le_refl _) (by simp)
       have hs1 : Hid (Sl w1 w.heap.size 1 A n X) := Lib.hid (Hs.out.below hb1)
       clear hown1 hg1)
    | ((with_reducible show wpList _ _ _ _ _ _)
       refine wpList_copy_splice (o := ⟨some 13,_,_,_,_,_⟩) rfl (.tmp 11) (.tmp 12) 22 22 rfl 5 Tryd.underlying22 hsz (some ⟨w.heap.size,0,none⟩) A (n + 80) (n + 80) n c rfl rfl w.heap.size 0 (List.replicate (n + 80) (.int .u8 0)) 5 hblk1 X (by rw [HL.out]; exact (Nat.min_eq_left (by omega)).symm) (fun hp => ⟨rfl,(by rw [HL.out] at hp; obtain ⟨b,o,hA,_,hc⟩ := hs1.out.at_ hp; exact ⟨_,hA,fun j v hj => by rw [add_flat]; exact hc j v hj⟩)⟩) (by rw [HL.out]; simp) h1 w.heap.size w hb1 (Nat.le_refl _) ?_
       intro w2 hblk2 hb2))
  have hblk3 : Blk w2 w.heap.size 5 (fillV X (.int .u8 0) (.int .u8 m.toNat) n) := by
    have h := hblk2.out
    rw [splice_first X _ n HL.out] at h
    rw [show fillV X (Value.int .u8 0) (.int .u8 m.toNat) n = X ++ List.replicate 80 (.int .u8 0) from by rw [← HL.out]; exact fillV_first _ _ _]
    exact h
  clear hblk2
  go_loopw [6] (fun i wr => ∃ j : Nat,i = .int .i64 j ∧ n ≤ j ∧ j ≤ n + 80 ∧ Blk wr w.heap.size 5 (fillV X (.int .u8 0) (.int .u8 m.toNat) j) ∧ Below w.heap.size w wr) (fun i _ => n + 80 - (intOf i).toNat)
  case atStart => exact ⟨n,rfl,Nat.le_refl _,by omega,hblk3,hb2⟩
  case round =>
    obtain ⟨j,rfl,hj0,hj1,hblk,hb⟩ := hrel
    by_cases hlt : j < n + 80
    · obtain ⟨v,hv⟩ : ∃ v,wr.cell? ⟨w.heap.size,j,none⟩ = some v := by
        rw [hblk.cell,List.getElem?_eq_getElem (by rw [fillV_length _ _ _ _ (by rw [HL.out]; exact hj0) (by rw [HL.out]; omega),HL.out]; exact hlt)]
        exact ⟨_,rfl⟩
      have hf := hblk.free j
      have hI : (j : Int) < (n : Int) + 80 := by omega
      go_wp2
      go_roundw
      case rel => exact ⟨j + 1,by go_num,by omega,by omega,by rw [← fillV_step _ _ _ _ (by rw [HL.out]; exact hj0) (by rw [HL.out]; exact hlt)]; exact hblk.set_ j _,hb.setCell (Nat.le_refl _) _⟩
      case measure => simp [intOf]; omega
    · obtain rfl : j = n + 80 := by omega
      go_wp2
      go_ret
      exact ⟨rfl,hblk,hb⟩
set_option maxHeartbeats 400000 in
theorem intact_u8 (F A : Option Addr) (n cF c : Nat) (l : List UInt8) (m : UInt8) (w : World) (hf : Sl w w.heap.size 1 F (n + 80) (bs (l ++ List.replicate 80 m))) (hs : Sl w w.heap.size 1 A n (bs l)) (hc : n + 80 ≤ cF) (hn : n + 80 ≤ 140737488355328) :
    Calls Tryd.prog 18 #[.slice F (n + 80) cF,.slice A n c,.int .u8 m.toNat] w fun e w' => e = .returned (.bool true) ∧ ∃ k,w' = w.drewN k := by
  have hl : l.length = n := by have := hs.len; rw [bs_length] at this; omega
  have hfr : Sl w w.heap.size 1 F n (bs l) := by
    have h := hf.front (k := n) (by omega)
    rwa [Nat.mul_one,bs_take,← hl,List.take_left,hl] at h
  have hsame : ∀ w',Sl w' w'.heap.size 1 F n (bs l) → Sl w' w'.heap.size 1 A n (bs l) → Calls Tryd.prog 52 #[.slice F n cF,.slice A n c] w' fun e w'' => e = .returned (.bool true) ∧ ∃ k,w'' = w'.drewN k := by
    intro w' h1 h2
    have := same_u8 F A n n cF c l l w' h1 h2 (by unfold maxLen; omega)
    rwa [sameB_yes rfl] at this
  have hmark : ∀ j,n ≤ j → j < n + 80 → (l ++ List.replicate 80 m)[j]? = some m := by
    intro j h0 h1
    rw [List.getElem?_append_right (by omega),List.getElem?_replicate,if_pos (by omega)]
  have Hs := Lib.hid hsame
  have Hm := Lib.hid hmark
  clear hsame hmark hl
  have hI0 : ((n : Int) + 80 != (n : Int) + 80) = false := by simp
  go_enter Tryd.func18,Tryd.ntmps18
  go_wp2_with (go_at_call 52; refine (Hs.out _ hfr hs).mono ?_; rintro e w' ⟨rfl,kk,rfl⟩)
  go_loop [7] (fun i => ∃ j : Nat,i = .int .i64 j ∧ n ≤ j ∧ j ≤ n + 80) (fun i => n + 80 - (intOf i).toNat)
  case atStart => exact ⟨n,rfl,Nat.le_refl _,by omega⟩
  case round =>
    obtain ⟨j,rfl,hj0,hj1⟩ := hrel
    by_cases hlt : j < n + 80
    · obtain ⟨b,o,x,rfl,hb,hx,hcell⟩ := hf.byte (k := j) hlt
      obtain rfl : m = x := by rw [Hm.out j hj0 hlt] at hx; exact Option.some.inj hx
      clear hx
      have hI : (j : Int) < (n : Int) + 80 := by omega
      have hne : ((m.toNat : Int) != (m.toNat : Int)) = false := by simp
      go_wp2
      go_round
      case rel => exact ⟨j + 1,by go_num,by omega,by omega⟩
      case measure => simp [intOf]; omega
    · obtain rfl : j = n + 80 := by omega
      go_wp2
      go_ret
      exact ⟨rfl,kk,rfl⟩
end Go.Proofs.YthcjnkakfpmpbaaDoor
namespace Go.Proofs.YthcjnkakfpmpbaaDoor
open Go.RowKit
set_option linter.unusedVariables false
set_option maxHeartbeats 400000 in
theorem roomy_i32 (A : Option Addr) (n c : Nat) (l : List Int) (m : Int) (w : World) (hs : Sl w w.heap.size 1 A n (is32 l)) (hn : n + 80 ≤ 35184372088832) :
    Calls Tryd.prog 41 #[.slice A n c,.int .i32 m] w (GivesRoom w 21 n (is32 (l ++ List.replicate 80 m))) := by
  obtain ⟨i0,hi0,hz0,hz1,hz2⟩ := info_parts i32_info
  have hsz : (Tryd.prog.info? 21).map (·.size) = some 1 := by rw [hi0]; simp [hz1]
  have hl : (is32 l).length = n := by have := hs.len; omega
  have hfin : is32 (l ++ List.replicate 80 m) = fillV (is32 l) (.int .i32 0) (.int .i32 m) (n + 80) := by
    rw [← hl,fillV_last,is32_append]
    simp [is32]
  rw [hfin]
  obtain ⟨X,hX⟩ : ∃ X,X = is32 l := ⟨_,rfl⟩
  have h1 : ∀ u ∈ X,u.oneCell' = true := by rw [hX]; exact is32_one l
  rw [← hX] at hs hl ⊢
  have HL := Lib.hid hl
  have Hs := Lib.hid hs
  clear hfin hX hl hs
  go_enter Tryd.func41,Tryd.ntmps41
  go_wp2_with (first
    | (at_make
       refine wpList_make_full _ rfl _ _ 67 rfl w.heap.size 21 i0 (.int .i32 0) 1 Tryd.underlying67 hi0 hz0 hz1 _ _ _ _ (n + 80) rfl rfl (by omega) (by omega) (by rw [hz2]; omega) (by unfold maxLen; omega) (Nat.le_refl _) ?_
       intro w1 hown1 hg1
       have hblk1 : Blk w1 w.heap.size 21 (List.replicate (n + 80) (.int .i32 0)) := by (have := own_blk hown1; simpa [toList_madeCells_one,Value.cells] using this)
       have hb1 : Below w.heap.size w w1 := (Below.refl _ _).grown hg1 (Nat.le_refl _) (by simp)
       have hs1 : Hid (Sl w1 w.heap.size 1 A n X) := Lib.hid (Hs.out.below hb1)
       clear hown1 hg1)
    | ((with_reducible show wpList _ _ _ _ _ _)
       refine wpList_copy_splice (o := ⟨some 13,_,_,_,_,_⟩) rfl (.tmp 11) (.tmp 12) 67 67 rfl 21 Tryd.underlying67 hsz (some ⟨w.heap.size,0,none⟩) A (n + 80) (n + 80) n c rfl rfl w.heap.size 0 (List.replicate (n + 80) (.int .i32 0)) 21 hblk1 X (by rw [HL.out]; exact (Nat.min_eq_left (by omega)).symm) (fun hp => ⟨rfl,(by rw [HL.out] at hp; obtain ⟨b,o,hA,_,hc⟩ := hs1.out.at_ hp; exact ⟨_,hA,fun j v hj => by rw [add_flat]; exact hc j v hj⟩)⟩) (by rw [HL.out]; simp) h1 w.heap.size w hb1 (Nat.le_refl _) ?_
       intro w2 hblk2 hb2))
  have hblk3 : Blk w2 w.heap.size 21 (fillV X (.int .i32 0) (.int .i32 m) n) := by
    have h := hblk2.out
    rw [splice_first X _ n HL.out] at h
    rw [show fillV X (Value.int .i32 0) (.int .i32 m) n = X ++ List.replicate 80 (.int .i32 0) from by rw [← HL.out]; exact fillV_first _ _ _]
    exact h
  clear hblk2
  go_loopw [6] (fun i wr => ∃ j : Nat,i = .int .i64 j ∧ n ≤ j ∧ j ≤ n + 80 ∧ Blk wr w.heap.size 21 (fillV X (.int .i32 0) (.int .i32 m) j) ∧ Below w.heap.size w wr) (fun i _ => n + 80 - (intOf i).toNat)
  case atStart => exact ⟨n,rfl,Nat.le_refl _,by omega,hblk3,hb2⟩
  case round =>
    obtain ⟨j,rfl,hj0,hj1,hblk,hb⟩ := hrel
    by_cases hlt : j < n + 80
    · obtain ⟨v,hv⟩ : ∃ v,wr.cell? ⟨w.heap.size,j,none⟩ = some v := by
        rw [hblk.cell,List.getElem?_eq_getElem (by rw [fillV_length _ _ _ _ (by rw [HL.out]; exact hj0) (by rw [HL.out]; omega),HL.out]; exact hlt)]
        exact ⟨_,rfl⟩
      have hf := hblk.free j
      have hI : (j : Int) < (n : Int) + 80 := by omega
      go_wp2
      go_roundw
      case rel => exact ⟨j + 1,by go_num,by omega,by omega,by rw [← fillV_step _ _ _ _ (by rw [HL.out]; exact hj0) (by rw [HL.out]; exact hlt)]; exact hblk.set_ j _,hb.setCell (Nat.le_refl _) _⟩
      case measure => simp [intOf]; omega
    · obtain rfl : j = n + 80 := by omega
      go_wp2
      go_ret
      exact ⟨rfl,hblk,hb⟩
set_option maxHeartbeats 400000 in
theorem intact_i32 (F A : Option Addr) (n cF c : Nat) (l : List Int) (m : Int) (w : World) (hf : Sl w w.heap.size 1 F (n + 80) (is32 (l ++ List.replicate 80 m))) (hs : Sl w w.heap.size 1 A n (is32 l)) (hc : n + 80 ≤ cF) (hn : n + 80 ≤ 35184372088832) :
    Calls Tryd.prog 43 #[.slice F (n + 80) cF,.slice A n c,.int .i32 m] w fun e w' => e = .returned (.bool true) ∧ ∃ k,w' = w.drewN k := by
  have hl : l.length = n := by have := hs.len; rw [is32_length] at this; omega
  have hfr : Sl w w.heap.size 1 F n (is32 l) := by
    have h := hf.front (k := n) (by omega)
    rwa [Nat.mul_one,is32_take,← hl,List.take_left,hl] at h
  have hsame : ∀ w',Sl w' w'.heap.size 1 F n (is32 l) → Sl w' w'.heap.size 1 A n (is32 l) → Calls Tryd.prog 38 #[.slice F n cF,.slice A n c] w' fun e w'' => e = .returned (.bool true) ∧ ∃ k,w'' = w'.drewN k := by
    intro w' h1 h2
    have := same_i32 F A n n cF c l l w' h1 h2 (by unfold maxLen; omega)
    rwa [sameB_yes rfl] at this
  have hmark : ∀ j,n ≤ j → j < n + 80 → (l ++ List.replicate 80 m)[j]? = some m := by
    intro j h0 h1
    rw [List.getElem?_append_right (by omega),List.getElem?_replicate,if_pos (by omega)]
  have Hs := Lib.hid hsame
  have Hm := Lib.hid hmark
  clear hsame hmark hl
  have hI0 : ((n : Int) + 80 != (n : Int) + 80) = false := by simp
  go_enter Tryd.func43,Tryd.ntmps43
  go_wp2_with (go_at_call 38; refine (Hs.out _ hfr hs).mono ?_; rintro e w' ⟨rfl,kk,rfl⟩)
  go_loop [7] (fun i => ∃ j : Nat,i = .int .i64 j ∧ n ≤ j ∧ j ≤ n + 80) (fun i => n + 80 - (intOf i).toNat)
  case atStart => exact ⟨n,rfl,Nat.le_refl _,by omega⟩
  case round =>
    obtain ⟨j,rfl,hj0,hj1⟩ := hrel
    by_cases hlt : j < n + 80
    · obtain ⟨b,o,x,rfl,hb,hx,hcell⟩ := hf.num (k := j) hlt
      obtain rfl : m = x := by rw [Hm.out j hj0 hlt] at hx; exact Option.some.inj hx
      clear hx
      have hI : (j : Int) < (n : Int) + 80 := by omega
      have hne : (m != m) = false := by simp
      go_wp2
      go_round
      case rel => exact ⟨j + 1,by go_num,by omega,by omega⟩
      case measure => simp [intOf]; omega
    · obtain rfl : j = n + 80 := by omega
      go_wp2
      go_ret
      exact ⟨rfl,kk,rfl⟩
end Go.Proofs.YthcjnkakfpmpbaaDoor
namespace Go.Proofs.YthcjnkakfpmpbaaDoor
open Go.RowKit
set_option linter.unusedVariables false
set_option linter.unusedSimpArgs false
structure MI (w : World) (g base : Nat) (cells : List Value) (AT : Option Addr) (cT nT : Nat) (xT : List Value) (AS : Option Addr) (cS nS : Nat) (xS : List Value) : Prop where
  blk : Blk w g 119 cells
  rg : RG cells
  eT : cells[269]? = some (.slice AT nT cT)
  eS : cells[270]? = some (.slice AS nS cS)
  rT : Row w base 21 (.slice AT nT cT) nT xT
  rS : Row w base 21 (.slice AS nS cS) nS xS
  oT : ∀ u ∈ xT,u.oneCell' = true
  gT : Value.ownBlock (.slice AT nT cT) ≠ some g
  gS : Value.ownBlock (.slice AS nS cS) ≠ some g
  ap : ∀ k,Value.ownBlock (.slice AT nT cT) = some k → Value.ownBlock (.slice AS nS cS) ≠ some k
  bg : base ≤ g
section
variable {w w' w'' : World} {g base : Nat} {cells : List Value} {AT AS : Option Addr} {cT nT cS nS : Nat} {xT xS : List Value} {o1 o2 : Option Nat}
theorem MI.keep (m : MI w g base cells AT cT nT xT AS cS nS xS) (hk : ∀ k,k < w.heap.size → w'.heap[k]? = w.heap[k]?) : MI w' g base cells AT cT nT xT AS cS nS xS :=
  ⟨(hk g m.blk.lt).trans m.blk,m.rg,m.eT,m.eS,m.rT.keep fun k e => hk k (m.rT.lt k e).2,m.rS.keep fun k e => hk k (m.rS.lt k e).2,m.oT,m.gT,m.gS,m.ap,m.bg⟩
theorem MI.below (m : MI w g base cells AT cT nT xT AS cS nS xS) (h : Below w.heap.size w w') : MI w' g base cells AT cT nT xT AS cS nS xS := m.keep h.block
theorem MI.alloc (m : MI w g base cells AT cT nT xT AS cS nS xS) (o : Obj) : MI (w.alloc o) g base cells AT cT nT xT AS cS nS xS := m.keep fun k hk => Below.heap_alloc w o k hk
theorem MI.drewN (m : MI w g base cells AT cT nT xT AS cS nS xS) (n : Nat) : MI (w.drewN n) g base cells AT cT nT xT AS cS nS xS := m.keep fun _ _ => rfl
theorem MI.far (m : MI w g base cells AT cT nT xT AS cS nS xS) {X : Nat} (hX : X ≠ g) (h1 : Value.ownBlock (.slice AT nT cT) ≠ some X) (h2 : Value.ownBlock (.slice AS nS cS) ≠ some X) (i : Nat) (u : Value) : MI (w.setCell ⟨X,i,none⟩ u) g base cells AT cT nT xT AS cS nS xS :=
  ⟨(Below.heap_setCell w _ u g (Ne.symm hX)).trans m.blk,m.rg,m.eT,m.eS,m.rT.keep fun k e => Below.heap_setCell w _ u k (fun h => h1 (e.trans (congrArg some h))),m.rS.keep fun k e => Below.heap_setCell w _ u k (fun h => h2 (e.trans (congrArg some h))),m.oT,m.gT,m.gS,m.ap,m.bg⟩
theorem MI.farCells {X : Nat} (hX : X ≠ g) (h1 : Value.ownBlock (.slice AT nT cT) ≠ some X) (h2 : Value.ownBlock (.slice AS nS cS) ≠ some X) : ∀ (vs : List Value) (o : Nat) (w : World),MI w g base cells AT cT nT xT AS cS nS xS → MI (w.setCells X o vs) g base cells AT cT nT xT AS cS nS xS
  | [],_,_,m => m
  | v :: r,o,w,m => MI.farCells hX h1 h2 r (o + 1) _ (m.far hX h1 h2 o v)
end
end Go.Proofs.YthcjnkakfpmpbaaDoor
namespace Go.Proofs.YthcjnkakfpmpbaaDoor
open Go.RowKit
set_option linter.unusedVariables false
set_option linter.unusedSimpArgs false
set_option maxRecDepth 20000
def Mst (w0 : World) (base g nT nS : Nat) (wr : World) : Prop := Below base w0 wr ∧ base ≤ wr.heap.size ∧ ∃ cells AT cT xT AS cS xS,MR wr g base cells AT cT nT xT AS cS nS xS
theorem Mst.below {w0 w w' : World} {base g nT nS : Nat} (h : Mst w0 base g nT nS w) (hb : Below w.heap.size w w') : Mst w0 base g nT nS w' := by
  obtain ⟨h1,h2,cells,AT,cT,xT,AS,cS,xS,m⟩ := h
  exact ⟨h1.trans (hb.mono h2),Nat.le_trans h2 hb.size,cells,AT,cT,xT,AS,cS,xS,m.below hb⟩
theorem Mst.alloc {w0 w : World} {base g nT nS : Nat} (h : Mst w0 base g nT nS w) (o : Obj) : Mst w0 base g nT nS (w.alloc o) := h.below ((Below.refl _ _).alloc (Nat.le_refl _) o)
theorem Mst.tab {w0 w : World} {base g nT nS t : Nat} (h : Mst w0 base g nT nS w) (hT : TabIs t w0) (ht : t < base) : TabIs t w := hT.below h.1 ht
end Go.Proofs.YthcjnkakfpmpbaaDoor
namespace Go.Proofs.YthcjnkakfpmpbaaDoor.booki32
open Go.RowKit
set_option linter.unusedVariables false
set_option linter.unusedSimpArgs false
abbrev BkW (w : World) (gB : Nat) (v1 v2 : Value) (n1 n2 : Nat) (xs1 xs2 : List Value) (h : Int) (es : List Ent) : Prop := Bk w 72 67 21 1 gB v1 v2 n1 n2 xs1 xs2 h es
theorem set_same (W : World) {k : Nat} {g i : Nat} {v : Value} (u : Value) (h : W.cell? ⟨g,i,none⟩ = some v) (a : Addr) (hu : u = v := by rfl) : ((W.drewN k).setCell ⟨g,i,none⟩ u).cell? a = W.cell? a := by
  subst hu
  by_cases e : a = ⟨g,i,none⟩
  · subst e
    rw [World.cell?_setCell_same' _ _ _ (by rw [show (W.drewN k).cell? ⟨g,i,none⟩ = W.cell? ⟨g,i,none⟩ from rfl,h]; rfl),h]
  · exact (World.cell?_setCell_other _ _ _ _ (Ne.symm e))
end Go.Proofs.YthcjnkakfpmpbaaDoor.booki32
namespace Go.Proofs.YthcjnkakfpmpbaaDoor.booki32
open Go.RowKit
set_option linter.unusedVariables false
set_option linter.unusedSimpArgs false
def Good (cs : List Value) : Prop := ∃ l : List Int,cs = is32 l
theorem Good.one {cs : List Value} (h : Good cs) : ∀ u ∈ cs,u.oneCell' = true := by
  obtain ⟨l,rfl⟩ := h
  exact is32_one l
abbrev BAt (w : World) (gB : Nat) (U : Nat → Prop) : Prop := BookAt w 72 67 21 1 gB Good U
structure In (w : World) (gB : Nat) (U : Nat → Prop) (A : Option Addr) (c : Nat) (o1 o2 : Option Nat) (wr : World) (N : Nat) (es : List Ent) (A1 : Option Addr) (c1 : Nat) (A2 : Option Addr) (c2 : Nat) (h : Int) : Prop where
  len : es.length = N + 1
  few : N ≤ 4000
  bk : BkW wr gB (.slice A1 (N + 1) c1) (.slice A2 (N + 1) c2) (N + 1) (N + 1) (es.map Ent.v) (es.map Ent.was) h es
  fr : BFr gB o1 o2 w (Value.ownBlock (.slice A1 (N + 1) c1)) (Value.ownBlock (.slice A2 (N + 1) c2)) wr
  h0 : -9223372036854775808 ≤ h
  h1 : h ≤ 9223372036854775807
  good : ∀ x ∈ es,Good x.cs
  used : ∀ x ∈ es,∀ k,k < w.heap.size → blkOf x.A x.c = some k ∨ blkOf x.A' x.c' = some k → U k ∨ blkOf A c = some k
theorem In.done {w : World} {gB : Nat} {U : Nat → Prop} {A : Option Addr} {c : Nat} {o1 o2 : Option Nat} {wr : World} {N : Nat} {es : List Ent} {A1 : Option Addr} {c1 : Nat} {A2 : Option Addr} {c2 : Nat} {h : Int}
    (i : In w gB U A c o1 o2 wr N es A1 c1 A2 c2 h) (hN : N + 1 ≤ 4000) (hgB : U gB) (h1 : ∀ k,o1 = some k → U k) (h2 : ∀ k,o2 = some k → U k) :
    ∃ U',BAt wr gB U' ∧ KFr U w wr ∧ ∀ k,k < w.heap.size → U' k → U k ∨ blkOf A c = some k := by
  have hl := i.len
  have hbk := i.bk
  rw [← hl] at hbk
  refine ⟨Bk.Used gB (.slice A1 es.length c1) (.slice A2 es.length c2) es,⟨A1,c1,A2,c2,h,es,hbk,by omega,⟨i.h0,i.h1⟩,i.good,fun k hk => hk,fun k hk => hbk.used_lt hk⟩,⟨i.fr.os,i.fr.tape,i.fr.output,i.fr.size,fun k hk hu => ?_⟩,fun k hk hu => ?_⟩
  · exact i.fr.block k hk (fun e => hu (e ▸ hgB)) (fun e => hu (h1 k e)) (fun e => hu (h2 k e))
  · rcases hu with rfl | hu | hu | ⟨x,hx,hu⟩
    · exact .inl hgB
    · rw [hl] at hu
      rcases i.fr.own k hk (.inl hu) with e | e
      · exact .inl (h1 k e)
      · exact .inl (h2 k e)
    · rw [hl] at hu
      rcases i.fr.own k hk (.inr hu) with e | e
      · exact .inl (h1 k e)
      · exact .inl (h2 k e)
    · exact i.used x hx k hk hu
def At (w : World) (gB : Nat) (wr : World) : Prop := ∃ U,BAt wr gB U ∧ Below gB w wr
theorem At.put {gB : Nat} {w wr w1 w2 : World} {U U' : Nat → Prop} (h2 : Below gB w wr) (hb : Below wr.heap.size wr w1) (hz : gB ≤ wr.heap.size) (hU : ∀ k,U k → gB ≤ k) (hB : BAt w2 gB U') (hK : KFr U w1 w2) : At w gB w2 :=
  ⟨U',hB,(h2.trans (hb.mono hz)).trans (hK.below hU (Nat.le_trans hz hb.size))⟩
end Go.Proofs.YthcjnkakfpmpbaaDoor.booki32
namespace Go.Proofs.YthcjnkakfpmpbaaDoor.booki32
open Go.RowKit
set_option linter.unusedVariables false
set_option linter.unusedSimpArgs false
def markI (i j : Nat) : Int := -1000 - (i : Int)
def mk (i j : Nat) : Value := .int .i32 (markI i j)
end Go.Proofs.YthcjnkakfpmpbaaDoor.booki32
