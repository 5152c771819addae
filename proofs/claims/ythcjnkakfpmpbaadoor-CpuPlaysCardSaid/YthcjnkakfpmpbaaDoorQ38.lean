import Derived.Test.YthcjnkakfpmpbaaDoorQ36
namespace Go.Proofs.YthcjnkakfpmpbaaDoor
open Go.RowKit
set_option linter.unusedVariables false
set_option linter.unusedSimpArgs false
theorem CW.sl_same {w W : World} {g m : Nat} {cells cs : List Value} {A : Option Addr} (hB : Blk w g 119 cells) (h : CW w g cells W) (hs : Sl w w.heap.size 1 A m cs) : Sl W W.heap.size 1 A m cs := by
  refine (hs.keep fun b i hb => World.cell?_of_block (w := w) (a := ⟨b,i,none⟩) ?_).more h.size
  show W.heap[b]? = w.heap[b]?
  by_cases e : b = g
  · subst e; exact h.blk.trans hB.symm
  · exact h.fr.block b hb e
theorem leVal_one {l : List UInt8} {a : Nat} {x : UInt8} (h : l[a]? = some x) : wrap32 (leVal ((l.drop a).take 1)) = ((x.toNat : Nat) : Int) := by
  have h1 := leVal_step (l := l) (a := a) (k := 0) (W := 1) h (by omega)
  simp only [Nat.add_zero,Nat.sub_zero,Nat.sub_self,List.take_zero,leVal] at h1
  rw [h1]
  have := x.toNat_lt
  unfold wrap32
  omega
set_option maxRecDepth 20000 in
set_option maxHeartbeats 1000000 in
theorem both_ldm (a b : Nat) (n f word from_ : Int) (mem : List UInt8) (K Kr : List Value) (out st inp : List Int) (hK : KR K Kr) (hn : In32 n) (hw : In32 word) (hf0 : 0 ≤ from_) (hf1 : from_ ≤ 1048576) (hst : ∀ x ∈ st,In32 x) (hin : ∀ x ∈ inp,In32 x) (hol : out.length ≤ 4096) (hsl : st.length ≤ 256) (hc : checkR 27 a b n f = 0)  : Both 27 a b n f word from_ mem K Kr out st inp := by
  have hr : regB 4 a b n = true := (show opShape 27 = 4 by kernel_rfl) ▸ (checkR_parts hc).2.1
  have hnm : opName 27 = [108,100,109] := by kernel_rfl
  have hsh : opShape 27 = 4 := by kernel_rfl
  have ha : a < 8 := by simp [regB,limA,limB,okLim] at hr; omega
  have hb : b < 8 := by simp [regB,limA,limB,okLim] at hr; omega
  obtain ⟨x,hxr,hx,hxq⟩ := hK.r a ha
  obtain ⟨y,hyr,hy,hyq⟩ := hK.r b hb
  by_cases hk0 : y % 4294967296 < 256
  · obtain ⟨k,hkk⟩ : ∃ k : Nat,y = (k : Int) := ⟨y.toNat,by have := hyr.1; have := hyr.2; omega⟩
    subst hkk
    have hk : k < 256 := by have := hyr.2; omega
    have hkI : (k : Int) < 256 := by omega
    have hkm : (k : Int) % 4294967296 = k := by omega
    obtain ⟨V,hVr,hV,hVq⟩ := hK.m k hk
    refine ⟨(0,0,0),out,st,inp,fun K' => K' = K.set a (.int .i32 V),fun K' => K' = Kr.set a (.int .i32 V),?_,hst,hin,hol,hsl,?_,?_⟩
    · rintro _ _ rfl rfl; exact hK.setR ha hVr
    · rintro w U g base A m c ⟨cells,AT,AS,AI,cT,cS,cI,M⟩ hT htg hbw hSl hm
      have hB : Blk w g 119 cells := M.blk
      have cx := (M.core a (by omega)).trans hx
      have cy := (M.core b (by omega)).trans hy
      replace cx : cells[a]? = some (.int .i32 x) := cx
      replace cy : cells[b]? = some (.int .i32 k) := cy
      have cv := (M.core (12 + k) (by omega)).trans hV
      replace cv : cells[12 + k]? = some (.int .i32 V) := cv
      refine (do_two 27 f n word from_ a b _ (0) (0) (0) w g cells _ hT htg hB hn hc (by kernel_rfl) (Lib.hid fun W hT hB => two_ldm 27 n f a b _ from_ x V k W g cells hT htg hB ha hb cx cy hk hkI hkm cv hnm)).mono ?_
      rintro e w' ⟨rfl,h⟩
      exact ⟨rfl,M.to_set cpuL_ok hbw (by omega) h.mw.1 h.mw.2 rfl⟩
    · rintro w U g base A m c ⟨cells,AT,AS,AI,cT,cS,cI,M⟩ hbw hSl hm
      have hB : Blk w g 89 cells := M.blk
      have cx := (M.core a (by omega)).trans hxq
      rw [lay_lo (by omega)] at cx
      have cy := (M.core b (by omega)).trans hyq
      rw [lay_lo (by omega)] at cy
      have cv := (M.core (12 + k) (by omega)).trans hVq
      rw [lay_hi] at cv
      refine (rdo_two4 27 f n word from_ a b _ (0) (0) (0) (fun W w' => RW W g (cells.set a (.int .i32 V)) w') w g cells hB hn hc (by kernel_rfl) (Lib.hid fun W hbW => by
        rw [show (opName 27).toArray = #[108,100,109] by kernel_rfl]
        exact rtwo_ldm 27 n f a b _ from_ x k V W g cells (hB.below hbW hB.lt) ha hb cx cy hk cv) (Lib.hid fun W w' X h h1 h2 => RW.fr_at hB h h1 h2)).mono ?_
      rintro e w' ⟨rfl,W,w1,hbW,hZ,hl,rfl⟩
      exact ⟨rfl,M.to_set refL_ok hbw (j := a) (by omega) (RW.after hB hbW hZ _).mw.1 (by rw [lay_lo (by omega)]; exact (RW.after hB hbW hZ _).mw.2) rfl⟩
  · obtain ⟨q,hq⟩ : ∃ q,y % 4294967296 = q := ⟨_,rfl⟩
    rw [hq] at hk0
    have hdec : decide (q < 256) = false := decide_eq_false hk0
    refine ⟨(6,3,0),out,st,inp,fun K' => K' = K,fun K' => K' = Kr,?_,hst,hin,hol,hsl,?_,?_⟩
    · rintro _ _ rfl rfl; exact hK
    · rintro w U g base A m c ⟨cells,AT,AS,AI,cT,cS,cI,M⟩ hT htg hbw hSl hm
      have hB : Blk w g 119 cells := M.blk
      have cx := (M.core a (by omega)).trans hx
      have cy := (M.core b (by omega)).trans hy
      replace cx : cells[a]? = some (.int .i32 x) := cx
      replace cy : cells[b]? = some (.int .i32 y) := cy
      refine (do_two 27 f n word from_ a b _ (6) (3) (0) w g cells _ hT htg hB hn hc (by kernel_rfl) (Lib.hid fun W hT hB => two_ldm_no 27 n f a b _ from_ x y q W g cells hT htg hB ha hb cx cy hq hk0 hdec hnm)).mono ?_
      rintro e w' ⟨rfl,h⟩
      exact ⟨rfl,M.to_same hbw h.mw.1 h.mw.2 rfl⟩
    · rintro w U g base A m c ⟨cells,AT,AS,AI,cT,cS,cI,M⟩ hbw hSl hm
      have hB : Blk w g 89 cells := M.blk
      have cx := (M.core a (by omega)).trans hxq
      rw [lay_lo (by omega)] at cx
      have cy := (M.core b (by omega)).trans hyq
      rw [lay_lo (by omega)] at cy
      refine (rdo_two4 27 f n word from_ a b _ (6) (3) (0) (fun W w' => RW W g cells w') w g cells hB hn hc (by kernel_rfl) (Lib.hid fun W hbW => by
        rw [show (opName 27).toArray = #[108,100,109] by kernel_rfl]
        exact rtwo_ldm_no 27 n f a b _ from_ x y q W g cells (hB.below hbW hB.lt) ha hb cx cy hq (by omega) hyr.1 hyr.2) (Lib.hid fun W w' X h h1 h2 => RW.fr_at hB h h1 h2)).mono ?_
      rintro e w' ⟨rfl,W,w1,hbW,hZ,hl,rfl⟩
      exact ⟨rfl,M.to_same hbw (RW.after hB hbW hZ _).mw.1 (RW.after hB hbW hZ _).mw.2 rfl⟩
set_option maxRecDepth 20000 in
set_option maxHeartbeats 1000000 in
theorem both_stm (a b : Nat) (n f word from_ : Int) (mem : List UInt8) (K Kr : List Value) (out st inp : List Int) (hK : KR K Kr) (hn : In32 n) (hw : In32 word) (hf0 : 0 ≤ from_) (hf1 : from_ ≤ 1048576) (hst : ∀ x ∈ st,In32 x) (hin : ∀ x ∈ inp,In32 x) (hol : out.length ≤ 4096) (hsl : st.length ≤ 256) (hc : checkR 28 a b n f = 0)  : Both 28 a b n f word from_ mem K Kr out st inp := by
  have hr : regB 4 a b n = true := (show opShape 28 = 4 by kernel_rfl) ▸ (checkR_parts hc).2.1
  have hnm : opName 28 = [115,116,109] := by kernel_rfl
  have hsh : opShape 28 = 4 := by kernel_rfl
  have ha : a < 8 := by simp [regB,limA,limB,okLim] at hr; omega
  have hb : b < 8 := by simp [regB,limA,limB,okLim] at hr; omega
  obtain ⟨x,hxr,hx,hxq⟩ := hK.r a ha
  obtain ⟨y,hyr,hy,hyq⟩ := hK.r b hb
  by_cases hk0 : x % 4294967296 < 256
  · obtain ⟨k,hkk⟩ : ∃ k : Nat,x = (k : Int) := ⟨x.toNat,by have := hxr.1; have := hxr.2; omega⟩
    subst hkk
    have hk : k < 256 := by have := hxr.2; omega
    have hkI : (k : Int) < 256 := by omega
    have hkm : (k : Int) % 4294967296 = k := by omega
    obtain ⟨V,hVr,hV,hVq⟩ := hK.m k hk
    refine ⟨(0,0,0),out,st,inp,fun K' => K' = K.set (12 + k) (.int .i32 y),fun K' => K' = Kr.set (12 + k) (.int .i32 y),?_,hst,hin,hol,hsl,?_,?_⟩
    · rintro _ _ rfl rfl; exact hK.setM hk hyr
    · rintro w U g base A m c ⟨cells,AT,AS,AI,cT,cS,cI,M⟩ hT htg hbw hSl hm
      have hB : Blk w g 119 cells := M.blk
      have cx := (M.core a (by omega)).trans hx
      have cy := (M.core b (by omega)).trans hy
      replace cx : cells[a]? = some (.int .i32 k) := cx
      replace cy : cells[b]? = some (.int .i32 y) := cy
      have cv := (M.core (12 + k) (by omega)).trans hV
      replace cv : cells[12 + k]? = some (.int .i32 V) := cv
      refine (do_two 28 f n word from_ a b _ (0) (0) (0) w g cells _ hT htg hB hn hc (by kernel_rfl) (Lib.hid fun W hT hB => two_stm 28 n f a b _ from_ y k W g cells hT htg hB ha hb cx cy hk hkI hkm _ cv hnm)).mono ?_
      rintro e w' ⟨rfl,h⟩
      rw [set_same (by rw [List.getElem?_set_ne (by omega)]; exact cx)] at h
      exact ⟨rfl,M.to_set cpuL_ok hbw (by omega) h.mw.1 h.mw.2 rfl⟩
    · rintro w U g base A m c ⟨cells,AT,AS,AI,cT,cS,cI,M⟩ hbw hSl hm
      have hB : Blk w g 89 cells := M.blk
      have cx := (M.core a (by omega)).trans hxq
      rw [lay_lo (by omega)] at cx
      have cy := (M.core b (by omega)).trans hyq
      rw [lay_lo (by omega)] at cy
      have cv := (M.core (12 + k) (by omega)).trans hVq
      rw [lay_hi] at cv
      refine (rdo_two4 28 f n word from_ a b _ (0) (0) (0) (fun W w' => RW W g (cells.set (13 + k) (.int .i32 y)) w') w g cells hB hn hc (by kernel_rfl) (Lib.hid fun W hbW => by
        rw [show (opName 28).toArray = #[115,116,109] by kernel_rfl]
        exact rtwo_stm 28 n f a b _ from_ y k _ W g cells (hB.below hbW hB.lt) ha hb cx cy hk cv) (Lib.hid fun W w' X h h1 h2 => RW.fr_at hB h h1 h2)).mono ?_
      rintro e w' ⟨rfl,W,w1,hbW,hZ,hl,rfl⟩
      exact ⟨rfl,M.to_set refL_ok hbw (j := 12 + k) (by omega) (RW.after hB hbW hZ _).mw.1 (by rw [lay_hi]; exact (RW.after hB hbW hZ _).mw.2) rfl⟩
  · obtain ⟨q,hq⟩ : ∃ q,x % 4294967296 = q := ⟨_,rfl⟩
    rw [hq] at hk0
    have hdec : decide (q < 256) = false := decide_eq_false hk0
    refine ⟨(6,3,0),out,st,inp,fun K' => K' = K,fun K' => K' = Kr,?_,hst,hin,hol,hsl,?_,?_⟩
    · rintro _ _ rfl rfl; exact hK
    · rintro w U g base A m c ⟨cells,AT,AS,AI,cT,cS,cI,M⟩ hT htg hbw hSl hm
      have hB : Blk w g 119 cells := M.blk
      have cx := (M.core a (by omega)).trans hx
      have cy := (M.core b (by omega)).trans hy
      replace cx : cells[a]? = some (.int .i32 x) := cx
      replace cy : cells[b]? = some (.int .i32 y) := cy
      refine (do_two 28 f n word from_ a b _ (6) (3) (0) w g cells _ hT htg hB hn hc (by kernel_rfl) (Lib.hid fun W hT hB => two_stm_no 28 n f a b _ from_ x y q W g cells hT htg hB ha hb cx cy hq hk0 hdec hnm)).mono ?_
      rintro e w' ⟨rfl,h⟩
      exact ⟨rfl,M.to_same hbw h.mw.1 h.mw.2 rfl⟩
    · rintro w U g base A m c ⟨cells,AT,AS,AI,cT,cS,cI,M⟩ hbw hSl hm
      have hB : Blk w g 89 cells := M.blk
      have cx := (M.core a (by omega)).trans hxq
      rw [lay_lo (by omega)] at cx
      have cy := (M.core b (by omega)).trans hyq
      rw [lay_lo (by omega)] at cy
      refine (rdo_two4 28 f n word from_ a b _ (6) (3) (0) (fun W w' => RW W g cells w') w g cells hB hn hc (by kernel_rfl) (Lib.hid fun W hbW => by
        rw [show (opName 28).toArray = #[115,116,109] by kernel_rfl]
        exact rtwo_stm_no 28 n f a b _ from_ x y q W g cells (hB.below hbW hB.lt) ha hb cx cy hq (by omega) hxr.1 hxr.2) (Lib.hid fun W w' X h h1 h2 => RW.fr_at hB h h1 h2)).mono ?_
      rintro e w' ⟨rfl,W,w1,hbW,hZ,hl,rfl⟩
      exact ⟨rfl,M.to_same hbw (RW.after hB hbW hZ _).mw.1 (RW.after hB hbW hZ _).mw.2 rfl⟩
set_option maxRecDepth 20000 in
set_option maxHeartbeats 1000000 in
theorem both_ldb (a b : Nat) (n f word from_ : Int) (mem : List UInt8) (K Kr : List Value) (out st inp : List Int) (hK : KR K Kr) (hn : In32 n) (hw : In32 word) (hf0 : 0 ≤ from_) (hf1 : from_ ≤ 1048576) (hst : ∀ x ∈ st,In32 x) (hin : ∀ x ∈ inp,In32 x) (hol : out.length ≤ 4096) (hsl : st.length ≤ 256) (hc : checkR 25 a b n f = 0)  : Both 25 a b n f word from_ mem K Kr out st inp := by
  have hr : regB 4 a b n = true := (show opShape 25 = 4 by kernel_rfl) ▸ (checkR_parts hc).2.1
  have hnm : opName 25 = [108,100,98] := by kernel_rfl
  have hsh : opShape 25 = 4 := by kernel_rfl
  have ha : a < 8 := by simp [regB,limA,limB,okLim] at hr; omega
  have hb : b < 8 := by simp [regB,limA,limB,okLim] at hr; omega
  obtain ⟨x,hxr,hx,hxq⟩ := hK.r a ha
  obtain ⟨y,hyr,hy,hyq⟩ := hK.r b hb
  by_cases hk0 : ∃ k : Nat,y % 4294967296 - from_ = (k : Int) ∧ k + 1 ≤ mem.length
  · obtain ⟨k,hat,hkl⟩ := hk0
    refine ⟨(0,0,0),out,st,inp,fun K' => K' = K.set a (.int .i32 (wrap32 (leVal ((mem.drop k).take 1)))),fun K' => K' = Kr.set a (.int .i32 (wrap32 (leVal ((mem.drop k).take 1)))),?_,hst,hin,hol,hsl,?_,?_⟩
    · rintro _ _ rfl rfl; exact hK.setR ha (in_wrap _)
    · rintro w U g base A m c ⟨cells,AT,AS,AI,cT,cS,cI,M⟩ hT htg hbw hSl hm
      have hB : Blk w g 119 cells := M.blk
      have cx := (M.core a (by omega)).trans hx
      have cy := (M.core b (by omega)).trans hy
      replace cx : cells[a]? = some (.int .i32 x) := cx
      replace cy : cells[b]? = some (.int .i32 y) := cy
      have hml : m = mem.length := by have := hSl.len; rw [bs_length] at this; omega
      subst hml
      refine (do_twoW 25 f n word from_ a b _ (0) (0) (0) w g cells _ hT htg hB hn hc (by kernel_rfl) (Lib.hid fun W hC hT2 hB2 => two_ldb 25 n f a b _ from_ x y (wrap32 (leVal ((mem.drop k).take 1))) W g cells hT2 htg hB2 ha hb cx cy hyr.1 hyr.2 (Lib.hid fun W' hC' => bytes_ok A _ c k 1 mem from_ _ W' (CW.sl_same hB (hC.trans hC') hSl) (by omega) (by omega) hm (by omega) (by omega) hf0 hf1 hat hkl) hnm)).mono ?_
      rintro e w' ⟨rfl,h⟩
      exact ⟨rfl,M.to_set cpuL_ok hbw (by omega) h.mw.1 h.mw.2 rfl⟩
    · rintro w U g base A m c ⟨cells,AT,AS,AI,cT,cS,cI,M⟩ hbw hSl hm
      have hB : Blk w g 89 cells := M.blk
      have cx := (M.core a (by omega)).trans hxq
      rw [lay_lo (by omega)] at cx
      have cy := (M.core b (by omega)).trans hyq
      rw [lay_lo (by omega)] at cy
      have hml : m = mem.length := by have := hSl.len; rw [bs_length] at this; omega
      subst hml
      obtain ⟨mb,mo,u,hAm,hmb,hux,hmc⟩ := hSl.byte (k := k) (by omega)
      have hV : wrap32 (leVal ((mem.drop k).take 1)) = ((u.toNat : Nat) : Int) := leVal_one hux
      have hmw := hmb
      refine (rdo_two4 25 f n word from_ a b _ (0) (0) (0) (fun W w' => RW W g (cells.set a (.int .i32 (u.toNat : Nat))) w') w g cells hB hn hc (by kernel_rfl) (Lib.hid fun W hbW => by
        rw [show (opName 25).toArray = #[108,100,98] by kernel_rfl]
        exact rtwo_ldb 25 n f a b _ A _ c from_ x y k u.toNat W g cells (hB.below hbW hB.lt) ha hb cx cy hf0 hf1 hm hyr.1 hyr.2 rfl hat (by omega) mb mo hAm (Nat.lt_of_lt_of_le hmb hbW.size) ((hbW.cell (p := ⟨mb,mo + k,none⟩) hmb).trans hmc) u.toNat_lt) (Lib.hid fun W w' X h h1 h2 => RW.fr_at hB h h1 h2)).mono ?_
      rintro e w' ⟨rfl,W,w1,hbW,hZ,hl,rfl⟩
      refine ⟨rfl,?_⟩
      rw [hV]
      exact (M.to_set refL_ok hbw (j := a) (by omega) (RW.after hB hbW hZ _).mw.1 (by rw [lay_lo (by omega)]; exact (RW.after hB hbW hZ _).mw.2) rfl)
  · skip
    refine ⟨(6,3,0),out,st,inp,fun K' => K' = K,fun K' => K' = Kr,?_,hst,hin,hol,hsl,?_,?_⟩
    · rintro _ _ rfl rfl; exact hK
    · rintro w U g base A m c ⟨cells,AT,AS,AI,cT,cS,cI,M⟩ hT htg hbw hSl hm
      have hB : Blk w g 119 cells := M.blk
      have cx := (M.core a (by omega)).trans hx
      have cy := (M.core b (by omega)).trans hy
      replace cx : cells[a]? = some (.int .i32 x) := cx
      replace cy : cells[b]? = some (.int .i32 y) := cy
      have hml : m = mem.length := by have := hSl.len; rw [bs_length] at this; omega
      subst hml
      have hno : y % 4294967296 - from_ < 0 ∨ ((mem.length : Nat) : Int) < y % 4294967296 - from_ + 1 := by
        rcases Int.lt_or_le (y % 4294967296 - from_) 0 with h | h
        · exact .inl h
        · refine .inr ?_
          have h5 : ¬ ((y % 4294967296 - from_).toNat + 1 ≤ mem.length) := fun h6 => hk0 ⟨(y % 4294967296 - from_).toNat,by omega,h6⟩
          omega
      refine (do_twoW 25 f n word from_ a b _ (6) (3) (0) w g cells _ hT htg hB hn hc (by kernel_rfl) (Lib.hid fun W hC hT2 hB2 => two_ldb_no 25 n f a b _ from_ x y W g cells hT2 htg hB2 ha hb cx cy hyr.1 hyr.2 (Lib.hid fun W' hC' => bytes_no A _ c from_ _ 1 W' (by omega) (by omega) hf0 hf1 (by omega) (by omega) hm hno) hnm)).mono ?_
      rintro e w' ⟨rfl,h⟩
      exact ⟨rfl,M.to_same hbw h.mw.1 h.mw.2 rfl⟩
    · rintro w U g base A m c ⟨cells,AT,AS,AI,cT,cS,cI,M⟩ hbw hSl hm
      have hB : Blk w g 89 cells := M.blk
      have cx := (M.core a (by omega)).trans hxq
      rw [lay_lo (by omega)] at cx
      have cy := (M.core b (by omega)).trans hyq
      rw [lay_lo (by omega)] at cy
      have hml : m = mem.length := by have := hSl.len; rw [bs_length] at this; omega
      subst hml
      have hno : y % 4294967296 - from_ < 0 ∨ ((mem.length : Nat) : Int) < y % 4294967296 - from_ + 1 := by
        rcases Int.lt_or_le (y % 4294967296 - from_) 0 with h | h
        · exact .inl h
        · refine .inr ?_
          have h5 : ¬ ((y % 4294967296 - from_).toNat + 1 ≤ mem.length) := fun h6 => hk0 ⟨(y % 4294967296 - from_).toNat,by omega,h6⟩
          omega
      refine (rdo_two4 25 f n word from_ a b _ (6) (3) (0) (fun W w' => RW W g cells w') w g cells hB hn hc (by kernel_rfl) (Lib.hid fun W hbW => by
        rw [show (opName 25).toArray = #[108,100,98] by kernel_rfl]
        exact rtwo_ldb_no 25 n f a b _ A _ c from_ x y W g cells (hB.below hbW hB.lt) ha hb cx cy hf0 hf1 hm hyr.1 hyr.2 rfl hno) (Lib.hid fun W w' X h h1 h2 => RW.fr_at hB h h1 h2)).mono ?_
      rintro e w' ⟨rfl,W,w1,hbW,hZ,hl,rfl⟩
      exact ⟨rfl,M.to_same hbw (RW.after hB hbW hZ _).mw.1 (RW.after hB hbW hZ _).mw.2 rfl⟩
set_option maxRecDepth 20000 in
set_option maxHeartbeats 1000000 in
theorem both_ldw (a b : Nat) (n f word from_ : Int) (mem : List UInt8) (K Kr : List Value) (out st inp : List Int) (hK : KR K Kr) (hn : In32 n) (hw : In32 word) (hf0 : 0 ≤ from_) (hf1 : from_ ≤ 1048576) (hst : ∀ x ∈ st,In32 x) (hin : ∀ x ∈ inp,In32 x) (hol : out.length ≤ 4096) (hsl : st.length ≤ 256) (hc : checkR 26 a b n f = 0)  : Both 26 a b n f word from_ mem K Kr out st inp := by
  have hr : regB 4 a b n = true := (show opShape 26 = 4 by kernel_rfl) ▸ (checkR_parts hc).2.1
  have hnm : opName 26 = [108,100,119] := by kernel_rfl
  have hsh : opShape 26 = 4 := by kernel_rfl
  have ha : a < 8 := by simp [regB,limA,limB,okLim] at hr; omega
  have hb : b < 8 := by simp [regB,limA,limB,okLim] at hr; omega
  obtain ⟨x,hxr,hx,hxq⟩ := hK.r a ha
  obtain ⟨y,hyr,hy,hyq⟩ := hK.r b hb
  by_cases hk0 : ∃ k : Nat,y % 4294967296 - from_ = (k : Int) ∧ k + 4 ≤ mem.length
  · obtain ⟨k,hat,hkl⟩ := hk0
    refine ⟨(0,0,0),out,st,inp,fun K' => K' = K.set a (.int .i32 (wrap32 (leVal ((mem.drop k).take 4)))),fun K' => K' = Kr.set a (.int .i32 (wrap32 (leVal ((mem.drop k).take 4)))),?_,hst,hin,hol,hsl,?_,?_⟩
    · rintro _ _ rfl rfl; exact hK.setR ha (in_wrap _)
    · rintro w U g base A m c ⟨cells,AT,AS,AI,cT,cS,cI,M⟩ hT htg hbw hSl hm
      have hB : Blk w g 119 cells := M.blk
      have cx := (M.core a (by omega)).trans hx
      have cy := (M.core b (by omega)).trans hy
      replace cx : cells[a]? = some (.int .i32 x) := cx
      replace cy : cells[b]? = some (.int .i32 y) := cy
      have hml : m = mem.length := by have := hSl.len; rw [bs_length] at this; omega
      subst hml
      refine (do_twoW 26 f n word from_ a b _ (0) (0) (0) w g cells _ hT htg hB hn hc (by kernel_rfl) (Lib.hid fun W hC hT2 hB2 => two_ldw 26 n f a b _ from_ x y (wrap32 (leVal ((mem.drop k).take 4))) W g cells hT2 htg hB2 ha hb cx cy hyr.1 hyr.2 (Lib.hid fun W' hC' => bytes_ok A _ c k 4 mem from_ _ W' (CW.sl_same hB (hC.trans hC') hSl) (by omega) (by omega) hm (by omega) (by omega) hf0 hf1 hat hkl) hnm)).mono ?_
      rintro e w' ⟨rfl,h⟩
      exact ⟨rfl,M.to_set cpuL_ok hbw (by omega) h.mw.1 h.mw.2 rfl⟩
    · rintro w U g base A m c ⟨cells,AT,AS,AI,cT,cS,cI,M⟩ hbw hSl hm
      have hB : Blk w g 89 cells := M.blk
      have cx := (M.core a (by omega)).trans hxq
      rw [lay_lo (by omega)] at cx
      have cy := (M.core b (by omega)).trans hyq
      rw [lay_lo (by omega)] at cy
      have hml : m = mem.length := by have := hSl.len; rw [bs_length] at this; omega
      subst hml
      refine (rdo_two4 26 f n word from_ a b _ (0) (0) (0) (fun W w' => RW W g (cells.set a (.int .i32 (wrap32 (leVal ((mem.drop k).take 4))))) w') w g cells hB hn hc (by kernel_rfl) (Lib.hid fun W hbW => by
        rw [show (opName 26).toArray = #[108,100,119] by kernel_rfl]
        exact rtwo_ldw 26 n f a b _ A _ c from_ x y k mem W g cells (hB.below hbW hB.lt) ha hb cx cy hf0 hf1 hm hyr.1 hyr.2 rfl hat hkl ((hSl.below hbW).more hbW.size)) (Lib.hid fun W w' X h h1 h2 => RW.fr_at hB h h1 h2)).mono ?_
      rintro e w' ⟨rfl,W,w1,hbW,hZ,hl,rfl⟩
      exact ⟨rfl,M.to_set refL_ok hbw (j := a) (by omega) (RW.after hB hbW hZ _).mw.1 (by rw [lay_lo (by omega)]; exact (RW.after hB hbW hZ _).mw.2) rfl⟩
  · skip
    refine ⟨(6,3,0),out,st,inp,fun K' => K' = K,fun K' => K' = Kr,?_,hst,hin,hol,hsl,?_,?_⟩
    · rintro _ _ rfl rfl; exact hK
    · rintro w U g base A m c ⟨cells,AT,AS,AI,cT,cS,cI,M⟩ hT htg hbw hSl hm
      have hB : Blk w g 119 cells := M.blk
      have cx := (M.core a (by omega)).trans hx
      have cy := (M.core b (by omega)).trans hy
      replace cx : cells[a]? = some (.int .i32 x) := cx
      replace cy : cells[b]? = some (.int .i32 y) := cy
      have hml : m = mem.length := by have := hSl.len; rw [bs_length] at this; omega
      subst hml
      have hno : y % 4294967296 - from_ < 0 ∨ ((mem.length : Nat) : Int) < y % 4294967296 - from_ + 4 := by
        rcases Int.lt_or_le (y % 4294967296 - from_) 0 with h | h
        · exact .inl h
        · refine .inr ?_
          have h5 : ¬ ((y % 4294967296 - from_).toNat + 4 ≤ mem.length) := fun h6 => hk0 ⟨(y % 4294967296 - from_).toNat,by omega,h6⟩
          omega
      refine (do_twoW 26 f n word from_ a b _ (6) (3) (0) w g cells _ hT htg hB hn hc (by kernel_rfl) (Lib.hid fun W hC hT2 hB2 => two_ldw_no 26 n f a b _ from_ x y W g cells hT2 htg hB2 ha hb cx cy hyr.1 hyr.2 (Lib.hid fun W' hC' => bytes_no A _ c from_ _ 4 W' (by omega) (by omega) hf0 hf1 (by omega) (by omega) hm hno) hnm)).mono ?_
      rintro e w' ⟨rfl,h⟩
      exact ⟨rfl,M.to_same hbw h.mw.1 h.mw.2 rfl⟩
    · rintro w U g base A m c ⟨cells,AT,AS,AI,cT,cS,cI,M⟩ hbw hSl hm
      have hB : Blk w g 89 cells := M.blk
      have cx := (M.core a (by omega)).trans hxq
      rw [lay_lo (by omega)] at cx
      have cy := (M.core b (by omega)).trans hyq
      rw [lay_lo (by omega)] at cy
      have hml : m = mem.length := by have := hSl.len; rw [bs_length] at this; omega
      subst hml
      have hno : y % 4294967296 - from_ < 0 ∨ ((mem.length : Nat) : Int) < y % 4294967296 - from_ + 4 := by
        rcases Int.lt_or_le (y % 4294967296 - from_) 0 with h | h
        · exact .inl h
        · refine .inr ?_
          have h5 : ¬ ((y % 4294967296 - from_).toNat + 4 ≤ mem.length) := fun h6 => hk0 ⟨(y % 4294967296 - from_).toNat,by omega,h6⟩
          omega
      refine (rdo_two4 26 f n word from_ a b _ (6) (3) (0) (fun W w' => RW W g cells w') w g cells hB hn hc (by kernel_rfl) (Lib.hid fun W hbW => by
        rw [show (opName 26).toArray = #[108,100,119] by kernel_rfl]
        exact rtwo_ldw_no 26 n f a b _ A _ c from_ x y W g cells (hB.below hbW hB.lt) ha hb cx cy hf0 hf1 hm hyr.1 hyr.2 rfl hno) (Lib.hid fun W w' X h h1 h2 => RW.fr_at hB h h1 h2)).mono ?_
      rintro e w' ⟨rfl,W,w1,hbW,hZ,hl,rfl⟩
      exact ⟨rfl,M.to_same hbw (RW.after hB hbW hZ _).mw.1 (RW.after hB hbW hZ _).mw.2 rfl⟩
end Go.Proofs.YthcjnkakfpmpbaaDoor
