import Derived.Test.YthcjnkakfpmpbaaDoorQ36
namespace Go.Proofs.YthcjnkakfpmpbaaDoor
open Go.RowKit
set_option linter.unusedVariables false
set_option linter.unusedSimpArgs false
set_option maxRecDepth 20000 in
set_option maxHeartbeats 1000000 in
theorem both_zturn (a b : Nat) (n f word from_ : Int) (mem : List UInt8) (K Kr : List Value) (out st inp : List Int) (hK : KR K Kr) (hn : In32 n) (hw : In32 word) (hf0 : 0 ≤ from_) (hf1 : from_ ≤ 1048576) (hst : ∀ x ∈ st,In32 x) (hin : ∀ x ∈ inp,In32 x) (hol : out.length ≤ 4096) (hsl : st.length ≤ 256) (hc : checkR 11 a b n f = 0)  : Both 11 a b n f word from_ mem K Kr out st inp := by
  have hr : regB 3 a b n = true := (show opShape 11 = 3 by kernel_rfl) ▸ (checkR_parts hc).2.1
  have hnm : opName 11 = [122,116,117,114,110] := by kernel_rfl
  have hsh : opShape 11 = 3 := by kernel_rfl
  have ha : a < 4 := by simp [regB,limA,limB,okLim] at hr; omega
  have hb : b < 4 := by simp [regB,limA,limB,okLim] at hr; omega
  obtain ⟨p,q,p',q',zp,zq,hz,hzq⟩ := hK.z a ha
  obtain ⟨s,t,s',t',zs,zt,hy,hyq⟩ := hK.z b hb
  refine ⟨(0,0,0),out,st,inp,fun K' => K' = K.set (8 + a) (.complex .f64 (Op.negFloat .f64 q) p),fun K' => K' = Kr.set (8 + a) (.complex .f64 (Op.negFloat .f64 q') p'),?_,hst,hin,hol,hsl,?_,?_⟩
  · rintro _ _ rfl rfl; exact hK.setZ ha zq.neg zp
  · rintro w U g base A m c ⟨cells,AT,AS,AI,cT,cS,cI,M⟩ hT htg hbw hSl hm
    have hB : Blk w g 119 cells := M.blk
    have cz := (M.core (8 + a) (by omega)).trans hz
    replace cz : cells[8 + a]? = some (.complex .f64 p q) := cz
    have cy := (M.core (8 + b) (by omega)).trans hy
    replace cy : cells[8 + b]? = some (.complex .f64 s t) := cy
    refine (do_cplxA 3 (by decide) 11 f n word from_ a b _ w g cells _ hT htg hB hn hc (by kernel_rfl) (Lib.hid fun W hT hB => cx_zturn 11 n f a b p q s t W g cells hT htg hB ha hb cz cy hnm)).mono ?_
    rintro e w' ⟨rfl,h⟩
    exact ⟨rfl,M.to_set cpuL_ok hbw (by omega) h.mw.1 h.mw.2 rfl⟩
  · rintro w U g base A m c ⟨cells,AT,AS,AI,cT,cS,cI,M⟩ hbw hSl hm
    have hB : Blk w g 89 cells := M.blk
    have cz := (M.core (8 + a) (by omega)).trans hzq
    rw [lay_lo (by omega)] at cz
    refine (rdo_zA 3 (by decide) 11 f n word from_ a b _ (0) (0) (0) (fun W w' => RW W g (cells.set (8 + a) (.complex .f64 (Op.negFloat .f64 q') p')) w') w g cells hB hn hc (by kernel_rfl) (Lib.hid fun W hbW => by
      rw [show (opName 11).toArray = #[122,116,117,114,110] by kernel_rfl]
      exact rz_zturn 11 n f a b p' q' W g cells (hB.below hbW hB.lt) ha cz) (Lib.hid fun W w' X h h1 h2 => RW.fr_at hB h h1 h2)).mono ?_
    rintro e w' ⟨rfl,W,w1,hbW,hZ,hl,rfl⟩
    exact ⟨rfl,M.to_set refL_ok hbw (j := 8 + a) (by omega) (RW.after hB hbW hZ _).mw.1 (by rw [lay_lo (by omega)]; exact (RW.after hB hbW hZ _).mw.2) rfl⟩
set_option maxRecDepth 20000 in
set_option maxHeartbeats 1000000 in
theorem both_zconj (a b : Nat) (n f word from_ : Int) (mem : List UInt8) (K Kr : List Value) (out st inp : List Int) (hK : KR K Kr) (hn : In32 n) (hw : In32 word) (hf0 : 0 ≤ from_) (hf1 : from_ ≤ 1048576) (hst : ∀ x ∈ st,In32 x) (hin : ∀ x ∈ inp,In32 x) (hol : out.length ≤ 4096) (hsl : st.length ≤ 256) (hc : checkR 12 a b n f = 0)  : Both 12 a b n f word from_ mem K Kr out st inp := by
  have hr : regB 3 a b n = true := (show opShape 12 = 3 by kernel_rfl) ▸ (checkR_parts hc).2.1
  have hnm : opName 12 = [122,99,111,110,106] := by kernel_rfl
  have hsh : opShape 12 = 3 := by kernel_rfl
  have ha : a < 4 := by simp [regB,limA,limB,okLim] at hr; omega
  have hb : b < 4 := by simp [regB,limA,limB,okLim] at hr; omega
  obtain ⟨p,q,p',q',zp,zq,hz,hzq⟩ := hK.z a ha
  obtain ⟨s,t,s',t',zs,zt,hy,hyq⟩ := hK.z b hb
  refine ⟨(0,0,0),out,st,inp,fun K' => K' = K.set (8 + a) (.complex .f64 p (Op.negFloat .f64 q)),fun K' => K' = Kr.set (8 + a) (.complex .f64 p' (Op.negFloat .f64 q')),?_,hst,hin,hol,hsl,?_,?_⟩
  · rintro _ _ rfl rfl; exact hK.setZ ha zp zq.neg
  · rintro w U g base A m c ⟨cells,AT,AS,AI,cT,cS,cI,M⟩ hT htg hbw hSl hm
    have hB : Blk w g 119 cells := M.blk
    have cz := (M.core (8 + a) (by omega)).trans hz
    replace cz : cells[8 + a]? = some (.complex .f64 p q) := cz
    have cy := (M.core (8 + b) (by omega)).trans hy
    replace cy : cells[8 + b]? = some (.complex .f64 s t) := cy
    refine (do_cplxA 3 (by decide) 12 f n word from_ a b _ w g cells _ hT htg hB hn hc (by kernel_rfl) (Lib.hid fun W hT hB => cx_zconj 12 n f a b p q s t W g cells hT htg hB ha hb cz cy hnm)).mono ?_
    rintro e w' ⟨rfl,h⟩
    exact ⟨rfl,M.to_set cpuL_ok hbw (by omega) h.mw.1 h.mw.2 rfl⟩
  · rintro w U g base A m c ⟨cells,AT,AS,AI,cT,cS,cI,M⟩ hbw hSl hm
    have hB : Blk w g 89 cells := M.blk
    have cz := (M.core (8 + a) (by omega)).trans hzq
    rw [lay_lo (by omega)] at cz
    refine (rdo_zA 3 (by decide) 12 f n word from_ a b _ (0) (0) (0) (fun W w' => RW W g (cells.set (8 + a) (.complex .f64 p' (Op.negFloat .f64 q'))) w') w g cells hB hn hc (by kernel_rfl) (Lib.hid fun W hbW => by
      rw [show (opName 12).toArray = #[122,99,111,110,106] by kernel_rfl]
      exact rz_zconj 12 n f a b p' q' W g cells (hB.below hbW hB.lt) ha cz) (Lib.hid fun W w' X h h1 h2 => RW.fr_at hB h h1 h2)).mono ?_
    rintro e w' ⟨rfl,W,w1,hbW,hZ,hl,rfl⟩
    exact ⟨rfl,M.to_set refL_ok hbw (j := 8 + a) (by omega) (RW.after hB hbW hZ _).mw.1 (by rw [lay_lo (by omega)]; exact (RW.after hB hbW hZ _).mw.2) rfl⟩
set_option maxRecDepth 20000 in
set_option maxHeartbeats 1000000 in
theorem both_zmov (a b : Nat) (n f word from_ : Int) (mem : List UInt8) (K Kr : List Value) (out st inp : List Int) (hK : KR K Kr) (hn : In32 n) (hw : In32 word) (hf0 : 0 ≤ from_) (hf1 : from_ ≤ 1048576) (hst : ∀ x ∈ st,In32 x) (hin : ∀ x ∈ inp,In32 x) (hol : out.length ≤ 4096) (hsl : st.length ≤ 256) (hc : checkR 29 a b n f = 0)  : Both 29 a b n f word from_ mem K Kr out st inp := by
  have hr : regB 5 a b n = true := (show opShape 29 = 5 by kernel_rfl) ▸ (checkR_parts hc).2.1
  have hnm : opName 29 = [122,109,111,118] := by kernel_rfl
  have hsh : opShape 29 = 5 := by kernel_rfl
  have ha : a < 4 := by simp [regB,limA,limB,okLim] at hr; omega
  have hb : b < 4 := by simp [regB,limA,limB,okLim] at hr; omega
  obtain ⟨p,q,p',q',zp,zq,hz,hzq⟩ := hK.z a ha
  obtain ⟨s,t,s',t',zs,zt,hy,hyq⟩ := hK.z b hb
  refine ⟨(0,0,0),out,st,inp,fun K' => K' = K.set (8 + a) (.complex .f64 s t),fun K' => K' = Kr.set (8 + a) (.complex .f64 s' t'),?_,hst,hin,hol,hsl,?_,?_⟩
  · rintro _ _ rfl rfl; exact hK.setZ ha zs zt
  · rintro w U g base A m c ⟨cells,AT,AS,AI,cT,cS,cI,M⟩ hT htg hbw hSl hm
    have hB : Blk w g 119 cells := M.blk
    have cz := (M.core (8 + a) (by omega)).trans hz
    replace cz : cells[8 + a]? = some (.complex .f64 p q) := cz
    have cy := (M.core (8 + b) (by omega)).trans hy
    replace cy : cells[8 + b]? = some (.complex .f64 s t) := cy
    refine (do_cplxA 5 (by decide) 29 f n word from_ a b _ w g cells _ hT htg hB hn hc (by kernel_rfl) (Lib.hid fun W hT hB => cx_zmov 29 n f a b p q s t W g cells hT htg hB ha hb cz cy hnm)).mono ?_
    rintro e w' ⟨rfl,h⟩
    exact ⟨rfl,M.to_set cpuL_ok hbw (by omega) h.mw.1 h.mw.2 rfl⟩
  · rintro w U g base A m c ⟨cells,AT,AS,AI,cT,cS,cI,M⟩ hbw hSl hm
    have hB : Blk w g 89 cells := M.blk
    have cz := (M.core (8 + a) (by omega)).trans hzq
    rw [lay_lo (by omega)] at cz
    have cy := (M.core (8 + b) (by omega)).trans hyq
    rw [lay_lo (by omega)] at cy
    refine (rdo_zA 5 (by decide) 29 f n word from_ a b _ (0) (0) (0) (fun W w' => RW W g (cells.set (8 + a) (.complex .f64 s' t')) w') w g cells hB hn hc (by kernel_rfl) (Lib.hid fun W hbW => by
      rw [show (opName 29).toArray = #[122,109,111,118] by kernel_rfl]
      exact rz_zmov 29 n f a b p' q' s' t' W g cells (hB.below hbW hB.lt) ha cz hb cy) (Lib.hid fun W w' X h h1 h2 => RW.fr_at hB h h1 h2)).mono ?_
    rintro e w' ⟨rfl,W,w1,hbW,hZ,hl,rfl⟩
    exact ⟨rfl,M.to_set refL_ok hbw (j := 8 + a) (by omega) (RW.after hB hbW hZ _).mw.1 (by rw [lay_lo (by omega)]; exact (RW.after hB hbW hZ _).mw.2) rfl⟩
set_option maxRecDepth 20000 in
set_option maxHeartbeats 1000000 in
theorem both_zadd (a b : Nat) (n f word from_ : Int) (mem : List UInt8) (K Kr : List Value) (out st inp : List Int) (hK : KR K Kr) (hn : In32 n) (hw : In32 word) (hf0 : 0 ≤ from_) (hf1 : from_ ≤ 1048576) (hst : ∀ x ∈ st,In32 x) (hin : ∀ x ∈ inp,In32 x) (hol : out.length ≤ 4096) (hsl : st.length ≤ 256) (hc : checkR 30 a b n f = 0)  : Both 30 a b n f word from_ mem K Kr out st inp := by
  have hr : regB 5 a b n = true := (show opShape 30 = 5 by kernel_rfl) ▸ (checkR_parts hc).2.1
  have hnm : opName 30 = [122,97,100,100] := by kernel_rfl
  have hsh : opShape 30 = 5 := by kernel_rfl
  have ha : a < 4 := by simp [regB,limA,limB,okLim] at hr; omega
  have hb : b < 4 := by simp [regB,limA,limB,okLim] at hr; omega
  obtain ⟨p,q,p',q',zp,zq,hz,hzq⟩ := hK.z a ha
  obtain ⟨s,t,s',t',zs,zt,hy,hyq⟩ := hK.z b hb
  refine ⟨(0,0,0),out,st,inp,fun K' => ∃ re im : Nat,FR .add p s re ∧ FR .add q t im ∧ K' = K.set (8 + a) (.complex .f64 re im),fun K' => ∃ re im : Nat,FR .add p' s' re ∧ FR .add q' t' im ∧ K' = Kr.set (8 + a) (.complex .f64 re im),?_,hst,hin,hol,hsl,?_,?_⟩
  · rintro _ _ ⟨_,_,h1,h2,rfl⟩ ⟨_,_,g1,g2,rfl⟩; exact hK.setZ ha (FR.zr (by simp) h1 g1 zp zs) (FR.zr (by simp) h2 g2 zq zt)
  · rintro w U g base A m c ⟨cells,AT,AS,AI,cT,cS,cI,M⟩ hT htg hbw hSl hm
    have hB : Blk w g 119 cells := M.blk
    have cz := (M.core (8 + a) (by omega)).trans hz
    replace cz : cells[8 + a]? = some (.complex .f64 p q) := cz
    have cy := (M.core (8 + b) (by omega)).trans hy
    replace cy : cells[8 + b]? = some (.complex .f64 s t) := cy
    refine (do_cplx5G 30 f n word from_ a b _ w g cells (fun c' => ∃ re im : Nat,FR .add p s re ∧ FR .add q t im ∧ c' = cells.set (8 + a) (.complex .f64 re im)) hT htg hB hn hc (by kernel_rfl) (Lib.hid fun W hT hB => (cxn_zadd 30 n f a b p q s t W g cells hT htg hB ha hb cz cy hnm).mono fun e w' h => by
      obtain ⟨h0,re,im,h1,h2,h⟩ := h
      exact ⟨h0,_,⟨_,_,h1,h2,rfl⟩,h⟩)).mono ?_
    rintro e w' ⟨rfl,c',⟨re,im,h1,h2,rfl⟩,h⟩
    exact ⟨rfl,M.to_set cpuL_ok hbw (by omega) h.mw.1 h.mw.2 ⟨_,_,h1,h2,rfl⟩⟩
  · rintro w U g base A m c ⟨cells,AT,AS,AI,cT,cS,cI,M⟩ hbw hSl hm
    have hB : Blk w g 89 cells := M.blk
    have cz := (M.core (8 + a) (by omega)).trans hzq
    rw [lay_lo (by omega)] at cz
    have cy := (M.core (8 + b) (by omega)).trans hyq
    rw [lay_lo (by omega)] at cy
    refine (rdo_zA 5 (by decide) 30 f n word from_ a b _ (0) (0) (0) (fun W w' => ∃ re im : Nat,FR .add p' s' re ∧ FR .add q' t' im ∧ RW W g (cells.set (8 + a) (.complex .f64 re im)) w') w g cells hB hn hc (by kernel_rfl) (Lib.hid fun W hbW => by
      rw [show (opName 30).toArray = #[122,97,100,100] by kernel_rfl]
      exact rz_zadd 30 n f a b p' q' s' t' W g cells (hB.below hbW hB.lt) ha cz hb cy) (Lib.hid fun W w' X h h1 h2 => by obtain ⟨_,_,_,_,h⟩ := h; exact RW.fr_at hB h h1 h2)).mono ?_
    rintro e w' ⟨rfl,W,w1,hbW,⟨re,im,h1,h2,hZ⟩,hl,rfl⟩
    exact ⟨rfl,M.to_set refL_ok hbw (j := 8 + a) (by omega) (RW.after hB hbW hZ _).mw.1 (by rw [lay_lo (by omega)]; exact (RW.after hB hbW hZ _).mw.2) ⟨_,_,h1,h2,rfl⟩⟩
set_option maxRecDepth 20000 in
set_option maxHeartbeats 1000000 in
theorem both_zsub (a b : Nat) (n f word from_ : Int) (mem : List UInt8) (K Kr : List Value) (out st inp : List Int) (hK : KR K Kr) (hn : In32 n) (hw : In32 word) (hf0 : 0 ≤ from_) (hf1 : from_ ≤ 1048576) (hst : ∀ x ∈ st,In32 x) (hin : ∀ x ∈ inp,In32 x) (hol : out.length ≤ 4096) (hsl : st.length ≤ 256) (hc : checkR 31 a b n f = 0)  : Both 31 a b n f word from_ mem K Kr out st inp := by
  have hr : regB 5 a b n = true := (show opShape 31 = 5 by kernel_rfl) ▸ (checkR_parts hc).2.1
  have hnm : opName 31 = [122,115,117,98] := by kernel_rfl
  have hsh : opShape 31 = 5 := by kernel_rfl
  have ha : a < 4 := by simp [regB,limA,limB,okLim] at hr; omega
  have hb : b < 4 := by simp [regB,limA,limB,okLim] at hr; omega
  obtain ⟨p,q,p',q',zp,zq,hz,hzq⟩ := hK.z a ha
  obtain ⟨s,t,s',t',zs,zt,hy,hyq⟩ := hK.z b hb
  refine ⟨(0,0,0),out,st,inp,fun K' => ∃ re im : Nat,FR .sub p s re ∧ FR .sub q t im ∧ K' = K.set (8 + a) (.complex .f64 re im),fun K' => ∃ re im : Nat,FR .sub p' s' re ∧ FR .sub q' t' im ∧ K' = Kr.set (8 + a) (.complex .f64 re im),?_,hst,hin,hol,hsl,?_,?_⟩
  · rintro _ _ ⟨_,_,h1,h2,rfl⟩ ⟨_,_,g1,g2,rfl⟩; exact hK.setZ ha (FR.zr (by simp) h1 g1 zp zs) (FR.zr (by simp) h2 g2 zq zt)
  · rintro w U g base A m c ⟨cells,AT,AS,AI,cT,cS,cI,M⟩ hT htg hbw hSl hm
    have hB : Blk w g 119 cells := M.blk
    have cz := (M.core (8 + a) (by omega)).trans hz
    replace cz : cells[8 + a]? = some (.complex .f64 p q) := cz
    have cy := (M.core (8 + b) (by omega)).trans hy
    replace cy : cells[8 + b]? = some (.complex .f64 s t) := cy
    refine (do_cplx5G 31 f n word from_ a b _ w g cells (fun c' => ∃ re im : Nat,FR .sub p s re ∧ FR .sub q t im ∧ c' = cells.set (8 + a) (.complex .f64 re im)) hT htg hB hn hc (by kernel_rfl) (Lib.hid fun W hT hB => (cxn_zsub 31 n f a b p q s t W g cells hT htg hB ha hb cz cy hnm).mono fun e w' h => by
      obtain ⟨h0,re,im,h1,h2,h⟩ := h
      exact ⟨h0,_,⟨_,_,h1,h2,rfl⟩,h⟩)).mono ?_
    rintro e w' ⟨rfl,c',⟨re,im,h1,h2,rfl⟩,h⟩
    exact ⟨rfl,M.to_set cpuL_ok hbw (by omega) h.mw.1 h.mw.2 ⟨_,_,h1,h2,rfl⟩⟩
  · rintro w U g base A m c ⟨cells,AT,AS,AI,cT,cS,cI,M⟩ hbw hSl hm
    have hB : Blk w g 89 cells := M.blk
    have cz := (M.core (8 + a) (by omega)).trans hzq
    rw [lay_lo (by omega)] at cz
    have cy := (M.core (8 + b) (by omega)).trans hyq
    rw [lay_lo (by omega)] at cy
    refine (rdo_zA 5 (by decide) 31 f n word from_ a b _ (0) (0) (0) (fun W w' => ∃ re im : Nat,FR .sub p' s' re ∧ FR .sub q' t' im ∧ RW W g (cells.set (8 + a) (.complex .f64 re im)) w') w g cells hB hn hc (by kernel_rfl) (Lib.hid fun W hbW => by
      rw [show (opName 31).toArray = #[122,115,117,98] by kernel_rfl]
      exact rz_zsub 31 n f a b p' q' s' t' W g cells (hB.below hbW hB.lt) ha cz hb cy) (Lib.hid fun W w' X h h1 h2 => by obtain ⟨_,_,_,_,h⟩ := h; exact RW.fr_at hB h h1 h2)).mono ?_
    rintro e w' ⟨rfl,W,w1,hbW,⟨re,im,h1,h2,hZ⟩,hl,rfl⟩
    exact ⟨rfl,M.to_set refL_ok hbw (j := 8 + a) (by omega) (RW.after hB hbW hZ _).mw.1 (by rw [lay_lo (by omega)]; exact (RW.after hB hbW hZ _).mw.2) ⟨_,_,h1,h2,rfl⟩⟩
set_option maxRecDepth 20000 in
set_option maxHeartbeats 1000000 in
theorem both_zmul (a b : Nat) (n f word from_ : Int) (mem : List UInt8) (K Kr : List Value) (out st inp : List Int) (hK : KR K Kr) (hn : In32 n) (hw : In32 word) (hf0 : 0 ≤ from_) (hf1 : from_ ≤ 1048576) (hst : ∀ x ∈ st,In32 x) (hin : ∀ x ∈ inp,In32 x) (hol : out.length ≤ 4096) (hsl : st.length ≤ 256) (hc : checkR 32 a b n f = 0)  : Both 32 a b n f word from_ mem K Kr out st inp := by
  have hr : regB 5 a b n = true := (show opShape 32 = 5 by kernel_rfl) ▸ (checkR_parts hc).2.1
  have hnm : opName 32 = [122,109,117,108] := by kernel_rfl
  have hsh : opShape 32 = 5 := by kernel_rfl
  have ha : a < 4 := by simp [regB,limA,limB,okLim] at hr; omega
  have hb : b < 4 := by simp [regB,limA,limB,okLim] at hr; omega
  obtain ⟨p,q,p',q',zp,zq,hz,hzq⟩ := hK.z a ha
  obtain ⟨s,t,s',t',zs,zt,hy,hyq⟩ := hK.z b hb
  refine ⟨(0,0,0),out,st,inp,fun K' => ∃ ps qt re pt qs im : Nat,FR .mul p s ps ∧ FR .mul q t qt ∧ FR .sub ps qt re ∧ FR .mul p t pt ∧ FR .mul q s qs ∧ FR .add pt qs im ∧ K' = K.set (8 + a) (.complex .f64 re im),fun K' => ∃ ps qt re pt qs im : Nat,FR .mul p' s' ps ∧ FR .mul q' t' qt ∧ FR .sub ps qt re ∧ FR .mul p' t' pt ∧ FR .mul q' s' qs ∧ FR .add pt qs im ∧ K' = Kr.set (8 + a) (.complex .f64 re im),?_,hst,hin,hol,hsl,?_,?_⟩
  · rintro _ _ ⟨_,_,_,_,_,_,h1,h2,h3,h4,h5,h6,rfl⟩ ⟨_,_,_,_,_,_,g1,g2,g3,g4,g5,g6,rfl⟩; exact hK.setZ ha (FR.zr (by simp) h3 g3 (FR.zr (by simp) h1 g1 zp zs) (FR.zr (by simp) h2 g2 zq zt)) (FR.zr (by simp) h6 g6 (FR.zr (by simp) h4 g4 zp zt) (FR.zr (by simp) h5 g5 zq zs))
  · rintro w U g base A m c ⟨cells,AT,AS,AI,cT,cS,cI,M⟩ hT htg hbw hSl hm
    have hB : Blk w g 119 cells := M.blk
    have cz := (M.core (8 + a) (by omega)).trans hz
    replace cz : cells[8 + a]? = some (.complex .f64 p q) := cz
    have cy := (M.core (8 + b) (by omega)).trans hy
    replace cy : cells[8 + b]? = some (.complex .f64 s t) := cy
    refine (do_cplx5G 32 f n word from_ a b _ w g cells (fun c' => ∃ ps qt re pt qs im : Nat,FR .mul p s ps ∧ FR .mul q t qt ∧ FR .sub ps qt re ∧ FR .mul p t pt ∧ FR .mul q s qs ∧ FR .add pt qs im ∧ c' = cells.set (8 + a) (.complex .f64 re im)) hT htg hB hn hc (by kernel_rfl) (Lib.hid fun W hT hB => (cxn_zmul 32 n f a b p q s t W g cells hT htg hB ha hb cz cy hnm).mono fun e w' h => by
      obtain ⟨h0,ps,qt,re,pt,qs,im,h1,h2,h3,h4,h5,h6,h⟩ := h
      exact ⟨h0,_,⟨_,_,_,_,_,_,h1,h2,h3,h4,h5,h6,rfl⟩,h⟩)).mono ?_
    rintro e w' ⟨rfl,c',⟨ps,qt,re,pt,qs,im,h1,h2,h3,h4,h5,h6,rfl⟩,h⟩
    exact ⟨rfl,M.to_set cpuL_ok hbw (by omega) h.mw.1 h.mw.2 ⟨_,_,_,_,_,_,h1,h2,h3,h4,h5,h6,rfl⟩⟩
  · rintro w U g base A m c ⟨cells,AT,AS,AI,cT,cS,cI,M⟩ hbw hSl hm
    have hB : Blk w g 89 cells := M.blk
    have cz := (M.core (8 + a) (by omega)).trans hzq
    rw [lay_lo (by omega)] at cz
    have cy := (M.core (8 + b) (by omega)).trans hyq
    rw [lay_lo (by omega)] at cy
    refine (rdo_zA 5 (by decide) 32 f n word from_ a b _ (0) (0) (0) (fun W w' => ∃ ps qt re pt qs im : Nat,FR .mul p' s' ps ∧ FR .mul q' t' qt ∧ FR .sub ps qt re ∧ FR .mul p' t' pt ∧ FR .mul q' s' qs ∧ FR .add pt qs im ∧ RW W g (cells.set (8 + a) (.complex .f64 re im)) w') w g cells hB hn hc (by kernel_rfl) (Lib.hid fun W hbW => by
      rw [show (opName 32).toArray = #[122,109,117,108] by kernel_rfl]
      exact rz_zmul 32 n f a b p' q' s' t' W g cells (hB.below hbW hB.lt) ha cz hb cy) (Lib.hid fun W w' X h h1 h2 => by obtain ⟨_,_,_,_,_,_,_,_,_,_,_,_,h⟩ := h; exact RW.fr_at hB h h1 h2)).mono ?_
    rintro e w' ⟨rfl,W,w1,hbW,⟨ps,qt,re,pt,qs,im,h1,h2,h3,h4,h5,h6,hZ⟩,hl,rfl⟩
    exact ⟨rfl,M.to_set refL_ok hbw (j := 8 + a) (by omega) (RW.after hB hbW hZ _).mw.1 (by rw [lay_lo (by omega)]; exact (RW.after hB hbW hZ _).mw.2) ⟨_,_,_,_,_,_,h1,h2,h3,h4,h5,h6,rfl⟩⟩
set_option maxRecDepth 20000 in
set_option maxHeartbeats 1000000 in
theorem both_zset (a b : Nat) (n f word from_ : Int) (mem : List UInt8) (K Kr : List Value) (out st inp : List Int) (hK : KR K Kr) (hn : In32 n) (hw : In32 word) (hf0 : 0 ≤ from_) (hf1 : from_ ≤ 1048576) (hst : ∀ x ∈ st,In32 x) (hin : ∀ x ∈ inp,In32 x) (hol : out.length ≤ 4096) (hsl : st.length ≤ 256) (hc : checkR 35 a b n f = 0)  : Both 35 a b n f word from_ mem K Kr out st inp := by
  have hr : regB 7 a b n = true := (show opShape 35 = 7 by kernel_rfl) ▸ (checkR_parts hc).2.1
  have hnm : opName 35 = [122,115,101,116] := by kernel_rfl
  have hsh : opShape 35 = 7 := by kernel_rfl
  have ha : a < 4 := by simp [regB,limA,limB,okLim] at hr; omega
  have hb : b < 8 := by simp [regB,limA,limB,okLim] at hr; omega
  obtain ⟨k,hkn⟩ : ∃ k : Nat,n = (k : Int) := ⟨n.toNat,by simp [regB,limA,limB,okLim] at hr; omega⟩
  have hk : k < 8 := by simp [regB,limA,limB,okLim] at hr; omega
  obtain ⟨x,hxr,hx,hxq⟩ := hK.r b hb
  obtain ⟨y,hyr,hy,hyq⟩ := hK.r k hk
  obtain ⟨p,q,p',q',zp,zq,hz,hzq⟩ := hK.z a ha
  refine ⟨(0,0,0),out,st,inp,fun K' => K' = K.set (8 + a) (.complex .f64 (floatOfInt .f64 x) (floatOfInt .f64 y)),fun K' => K' = Kr.set (8 + a) (.complex .f64 (floatOfInt .f64 x) (floatOfInt .f64 y)),?_,hst,hin,hol,hsl,?_,?_⟩
  · rintro _ _ rfl rfl; exact hK.setZ ha (ZR.refl _) (ZR.refl _)
  · rintro w U g base A m c ⟨cells,AT,AS,AI,cT,cS,cI,M⟩ hT htg hbw hSl hm
    have hB : Blk w g 119 cells := M.blk
    have cz := (M.core (8 + a) (by omega)).trans hz
    replace cz : cells[8 + a]? = some (.complex .f64 p q) := cz
    have cx := (M.core b (by omega)).trans hx
    have cy := (M.core k (by omega)).trans hy
    replace cx : cells[b]? = some (.int .i32 x) := cx
    replace cy : cells[k]? = some (.int .i32 y) := cy
    refine (do_cplxA 7 (by decide) 35 f n word from_ a b _ w g cells _ hT htg hB hn hc (by kernel_rfl) (Lib.hid fun W hT hB => cx_zset 35 n f a b k x y W g cells hT htg hB ha hb hk hkn cx cy _ cz hnm)).mono ?_
    rintro e w' ⟨rfl,h⟩
    exact ⟨rfl,M.to_set cpuL_ok hbw (by omega) h.mw.1 h.mw.2 rfl⟩
  · rintro w U g base A m c ⟨cells,AT,AS,AI,cT,cS,cI,M⟩ hbw hSl hm
    have hB : Blk w g 89 cells := M.blk
    have cz := (M.core (8 + a) (by omega)).trans hzq
    rw [lay_lo (by omega)] at cz
    have cx := (M.core b (by omega)).trans hxq
    rw [lay_lo (by omega)] at cx
    have cy := (M.core k (by omega)).trans hyq
    rw [lay_lo (by omega)] at cy
    refine (rdo_zA 7 (by decide) 35 f n word from_ a b _ (0) (0) (0) (fun W w' => RW W g (cells.set (8 + a) (.complex .f64 (floatOfInt .f64 x) (floatOfInt .f64 y))) w') w g cells hB hn hc (by kernel_rfl) (Lib.hid fun W hbW => by
      rw [show (opName 35).toArray = #[122,115,101,116] by kernel_rfl]
      exact rz_zset 35 n f a b k p' q' x y W g cells (hB.below hbW hB.lt) ha cz hb hk (Lib.hid hkn) cx cy) (Lib.hid fun W w' X h h1 h2 => RW.fr_at hB h h1 h2)).mono ?_
    rintro e w' ⟨rfl,W,w1,hbW,hZ,hl,rfl⟩
    exact ⟨rfl,M.to_set refL_ok hbw (j := 8 + a) (by omega) (RW.after hB hbW hZ _).mw.1 (by rw [lay_lo (by omega)]; exact (RW.after hB hbW hZ _).mw.2) rfl⟩
set_option maxRecDepth 20000 in
set_option maxHeartbeats 1000000 in
theorem both_zre (a b : Nat) (n f word from_ : Int) (mem : List UInt8) (K Kr : List Value) (out st inp : List Int) (hK : KR K Kr) (hn : In32 n) (hw : In32 word) (hf0 : 0 ≤ from_) (hf1 : from_ ≤ 1048576) (hst : ∀ x ∈ st,In32 x) (hin : ∀ x ∈ inp,In32 x) (hol : out.length ≤ 4096) (hsl : st.length ≤ 256) (hc : checkR 33 a b n f = 0)  : Both 33 a b n f word from_ mem K Kr out st inp := by
  have hr : regB 6 a b n = true := (show opShape 33 = 6 by kernel_rfl) ▸ (checkR_parts hc).2.1
  have hnm : opName 33 = [122,114,101] := by kernel_rfl
  have hsh : opShape 33 = 6 := by kernel_rfl
  have ha : a < 8 := by simp [regB,limA,limB,okLim] at hr; omega
  have hb : b < 4 := by simp [regB,limA,limB,okLim] at hr; omega
  obtain ⟨x,hxr,hx,hxq⟩ := hK.r a ha
  obtain ⟨p,q,p',q',zp,zq,hz,hzq⟩ := hK.z b hb
  rcases hge : geMin p with _ | _
  · have hge' : geMin p' = false := zp.geMin.symm.trans hge
    refine ⟨(6,8,0),out,st,inp,fun K' => K' = K,fun K' => K' = Kr,?_,hst,hin,hol,hsl,?_,?_⟩
    · rintro _ _ rfl rfl; exact hK
    · rintro w U g base A m c ⟨cells,AT,AS,AI,cT,cS,cI,M⟩ hT htg hbw hSl hm
      have hB : Blk w g 119 cells := M.blk
      have cx := (M.core a (by omega)).trans hx
      replace cx : cells[a]? = some (.int .i32 x) := cx
      have cz := (M.core (8 + b) (by omega)).trans hz
      replace cz : cells[8 + b]? = some (.complex .f64 p q) := cz
      refine (do_part 33 f n word from_ a b _ (6) (8) (0) w g cells _ hT htg hB hn hc (by kernel_rfl) (Lib.hid fun W hT hB => pt_zre_noa 33 n f a b p q W g cells hT htg hB hb cz hge hnm)).mono ?_
      rintro e w' ⟨rfl,h⟩
      exact ⟨rfl,M.to_same hbw h.mw.1 h.mw.2 rfl⟩
    · rintro w U g base A m c ⟨cells,AT,AS,AI,cT,cS,cI,M⟩ hbw hSl hm
      have hB : Blk w g 89 cells := M.blk
      have cx := (M.core a (by omega)).trans hxq
      rw [lay_lo (by omega)] at cx
      have cz := (M.core (8 + b) (by omega)).trans hzq
      rw [lay_lo (by omega)] at cz
      refine (rdo_zA 6 (by decide) 33 f n word from_ a b _ (6) (8) (0) (fun W w' => RW W g cells w') w g cells hB hn hc (by kernel_rfl) (Lib.hid fun W hbW => by
        rw [show (opName 33).toArray = #[122,114,101] by kernel_rfl]
        exact rz_zre_no 33 n f a b p' q' W g cells (hB.below hbW hB.lt) hb cz 0 (Lib.hid fun W => whole_a p' W hge')) (Lib.hid fun W w' X h h1 h2 => RW.fr_at hB h h1 h2)).mono ?_
      rintro e w' ⟨rfl,W,w1,hbW,hZ,hl,rfl⟩
      exact ⟨rfl,M.to_same hbw (RW.after hB hbW hZ _).mw.1 (RW.after hB hbW hZ _).mw.2 rfl⟩
  rcases hle : leMax p with _ | _
  · have hge' : geMin p' = true := zp.geMin.symm.trans hge
    have hle' : leMax p' = false := zp.leMax.symm.trans hle
    refine ⟨(6,8,0),out,st,inp,fun K' => K' = K,fun K' => K' = Kr,?_,hst,hin,hol,hsl,?_,?_⟩
    · rintro _ _ rfl rfl; exact hK
    · rintro w U g base A m c ⟨cells,AT,AS,AI,cT,cS,cI,M⟩ hT htg hbw hSl hm
      have hB : Blk w g 119 cells := M.blk
      have cx := (M.core a (by omega)).trans hx
      replace cx : cells[a]? = some (.int .i32 x) := cx
      have cz := (M.core (8 + b) (by omega)).trans hz
      replace cz : cells[8 + b]? = some (.complex .f64 p q) := cz
      refine (do_part 33 f n word from_ a b _ (6) (8) (0) w g cells _ hT htg hB hn hc (by kernel_rfl) (Lib.hid fun W hT hB => pt_zre_nob 33 n f a b p q W g cells hT htg hB hb cz hge hle hnm)).mono ?_
      rintro e w' ⟨rfl,h⟩
      exact ⟨rfl,M.to_same hbw h.mw.1 h.mw.2 rfl⟩
    · rintro w U g base A m c ⟨cells,AT,AS,AI,cT,cS,cI,M⟩ hbw hSl hm
      have hB : Blk w g 89 cells := M.blk
      have cx := (M.core a (by omega)).trans hxq
      rw [lay_lo (by omega)] at cx
      have cz := (M.core (8 + b) (by omega)).trans hzq
      rw [lay_lo (by omega)] at cz
      refine (rdo_zA 6 (by decide) 33 f n word from_ a b _ (6) (8) (0) (fun W w' => RW W g cells w') w g cells hB hn hc (by kernel_rfl) (Lib.hid fun W hbW => by
        rw [show (opName 33).toArray = #[122,114,101] by kernel_rfl]
        exact rz_zre_no 33 n f a b p' q' W g cells (hB.below hbW hB.lt) hb cz 0 (Lib.hid fun W => whole_b p' W hge' hle')) (Lib.hid fun W w' X h h1 h2 => RW.fr_at hB h h1 h2)).mono ?_
      rintro e w' ⟨rfl,W,w1,hbW,hZ,hl,rfl⟩
      exact ⟨rfl,M.to_same hbw (RW.after hB hbW hZ _).mw.1 (RW.after hB hbW hZ _).mw.2 rfl⟩
  obtain rfl : p = p' := zp.eq hge
  obtain ⟨mv,bb,yy,m0,m1,hval,hyy,hdec,hne,heq⟩ := part_int hge hle
  have hcv : ∀ w,(convert 146 21 (.float .f64 p)).run Tryd.prog w = .ok (.int .i32 mv) w := fun w => run_convert_float_int w _ _ .f64 .i32 p mv (by kernel_rfl) Tryd.underlying21 hval
  have htr := fun W => trunc_num hdec hyy W
  cases bb
  · skip
    refine ⟨(6,8,0),out,st,inp,fun K' => K' = K,fun K' => K' = Kr,?_,hst,hin,hol,hsl,?_,?_⟩
    · rintro _ _ rfl rfl; exact hK
    · rintro w U g base A m c ⟨cells,AT,AS,AI,cT,cS,cI,M⟩ hT htg hbw hSl hm
      have hB : Blk w g 119 cells := M.blk
      have cx := (M.core a (by omega)).trans hx
      replace cx : cells[a]? = some (.int .i32 x) := cx
      have cz := (M.core (8 + b) (by omega)).trans hz
      replace cz : cells[8 + b]? = some (.complex .f64 p q) := cz
      refine (do_part 33 f n word from_ a b _ (6) (8) (0) w g cells _ hT htg hB hn hc (by kernel_rfl) (Lib.hid fun W hT hB => pt_zre_noc 33 n f a b p q W g cells hT htg hB hb cz hge hle yy hne (Lib.hid htr) hnm)).mono ?_
      rintro e w' ⟨rfl,h⟩
      exact ⟨rfl,M.to_same hbw h.mw.1 h.mw.2 rfl⟩
    · rintro w U g base A m c ⟨cells,AT,AS,AI,cT,cS,cI,M⟩ hbw hSl hm
      have hB : Blk w g 89 cells := M.blk
      have cx := (M.core a (by omega)).trans hxq
      rw [lay_lo (by omega)] at cx
      have cz := (M.core (8 + b) (by omega)).trans hzq
      rw [lay_lo (by omega)] at cz
      refine (rdo_zA 6 (by decide) 33 f n word from_ a b _ (6) (8) (0) (fun W w' => RW W g cells w') w g cells hB hn hc (by kernel_rfl) (Lib.hid fun W hbW => by
        rw [show (opName 33).toArray = #[122,114,101] by kernel_rfl]
        exact rz_zre_no 33 n f a b p q' W g cells (hB.below hbW hB.lt) hb cz mv (Lib.hid fun W => whole_c p W mv false hge hle hcv heq)) (Lib.hid fun W w' X h h1 h2 => RW.fr_at hB h h1 h2)).mono ?_
      rintro e w' ⟨rfl,W,w1,hbW,hZ,hl,rfl⟩
      exact ⟨rfl,M.to_same hbw (RW.after hB hbW hZ _).mw.1 (RW.after hB hbW hZ _).mw.2 rfl⟩
  · skip
    refine ⟨(0,0,0),out,st,inp,fun K' => K' = K.set a (.int .i32 mv),fun K' => K' = Kr.set a (.int .i32 mv),?_,hst,hin,hol,hsl,?_,?_⟩
    · rintro _ _ rfl rfl; exact hK.setR ha ⟨m0,m1⟩
    · rintro w U g base A m c ⟨cells,AT,AS,AI,cT,cS,cI,M⟩ hT htg hbw hSl hm
      have hB : Blk w g 119 cells := M.blk
      have cx := (M.core a (by omega)).trans hx
      replace cx : cells[a]? = some (.int .i32 x) := cx
      have cz := (M.core (8 + b) (by omega)).trans hz
      replace cz : cells[8 + b]? = some (.complex .f64 p q) := cz
      refine (do_part 33 f n word from_ a b _ (0) (0) (0) w g cells _ hT htg hB hn hc (by kernel_rfl) (Lib.hid fun W hT hB => pt_zre 33 n f a b p q yy mv W g cells hT htg hB ha hb cz _ cx hge hle hne hcv (Lib.hid htr) hnm)).mono ?_
      rintro e w' ⟨rfl,h⟩
      exact ⟨rfl,M.to_set cpuL_ok hbw (by omega) h.mw.1 h.mw.2 rfl⟩
    · rintro w U g base A m c ⟨cells,AT,AS,AI,cT,cS,cI,M⟩ hbw hSl hm
      have hB : Blk w g 89 cells := M.blk
      have cx := (M.core a (by omega)).trans hxq
      rw [lay_lo (by omega)] at cx
      have cz := (M.core (8 + b) (by omega)).trans hzq
      rw [lay_lo (by omega)] at cz
      refine (rdo_zA 6 (by decide) 33 f n word from_ a b _ (0) (0) (0) (fun W w' => RW W g (cells.set a (.int .i32 mv)) w') w g cells hB hn hc (by kernel_rfl) (Lib.hid fun W hbW => by
        rw [show (opName 33).toArray = #[122,114,101] by kernel_rfl]
        exact rz_zre 33 n f a b p q' W g cells (hB.below hbW hB.lt) hb cz ha _ cx mv (Lib.hid fun W => whole_c p W mv true hge hle hcv heq)) (Lib.hid fun W w' X h h1 h2 => RW.fr_at hB h h1 h2)).mono ?_
      rintro e w' ⟨rfl,W,w1,hbW,hZ,hl,rfl⟩
      exact ⟨rfl,M.to_set refL_ok hbw (j := a) (by omega) (RW.after hB hbW hZ _).mw.1 (by rw [lay_lo (by omega)]; exact (RW.after hB hbW hZ _).mw.2) rfl⟩
set_option maxRecDepth 20000 in
set_option maxHeartbeats 1000000 in
theorem both_zim (a b : Nat) (n f word from_ : Int) (mem : List UInt8) (K Kr : List Value) (out st inp : List Int) (hK : KR K Kr) (hn : In32 n) (hw : In32 word) (hf0 : 0 ≤ from_) (hf1 : from_ ≤ 1048576) (hst : ∀ x ∈ st,In32 x) (hin : ∀ x ∈ inp,In32 x) (hol : out.length ≤ 4096) (hsl : st.length ≤ 256) (hc : checkR 34 a b n f = 0)  : Both 34 a b n f word from_ mem K Kr out st inp := by
  have hr : regB 6 a b n = true := (show opShape 34 = 6 by kernel_rfl) ▸ (checkR_parts hc).2.1
  have hnm : opName 34 = [122,105,109] := by kernel_rfl
  have hsh : opShape 34 = 6 := by kernel_rfl
  have ha : a < 8 := by simp [regB,limA,limB,okLim] at hr; omega
  have hb : b < 4 := by simp [regB,limA,limB,okLim] at hr; omega
  obtain ⟨x,hxr,hx,hxq⟩ := hK.r a ha
  obtain ⟨p,q,p',q',zp,zq,hz,hzq⟩ := hK.z b hb
  rcases hge : geMin q with _ | _
  · have hge' : geMin q' = false := zq.geMin.symm.trans hge
    refine ⟨(6,8,0),out,st,inp,fun K' => K' = K,fun K' => K' = Kr,?_,hst,hin,hol,hsl,?_,?_⟩
    · rintro _ _ rfl rfl; exact hK
    · rintro w U g base A m c ⟨cells,AT,AS,AI,cT,cS,cI,M⟩ hT htg hbw hSl hm
      have hB : Blk w g 119 cells := M.blk
      have cx := (M.core a (by omega)).trans hx
      replace cx : cells[a]? = some (.int .i32 x) := cx
      have cz := (M.core (8 + b) (by omega)).trans hz
      replace cz : cells[8 + b]? = some (.complex .f64 p q) := cz
      refine (do_part 34 f n word from_ a b _ (6) (8) (0) w g cells _ hT htg hB hn hc (by kernel_rfl) (Lib.hid fun W hT hB => pt_zim_noa 34 n f a b p q W g cells hT htg hB hb cz hge hnm)).mono ?_
      rintro e w' ⟨rfl,h⟩
      exact ⟨rfl,M.to_same hbw h.mw.1 h.mw.2 rfl⟩
    · rintro w U g base A m c ⟨cells,AT,AS,AI,cT,cS,cI,M⟩ hbw hSl hm
      have hB : Blk w g 89 cells := M.blk
      have cx := (M.core a (by omega)).trans hxq
      rw [lay_lo (by omega)] at cx
      have cz := (M.core (8 + b) (by omega)).trans hzq
      rw [lay_lo (by omega)] at cz
      refine (rdo_zA 6 (by decide) 34 f n word from_ a b _ (6) (8) (0) (fun W w' => RW W g cells w') w g cells hB hn hc (by kernel_rfl) (Lib.hid fun W hbW => by
        rw [show (opName 34).toArray = #[122,105,109] by kernel_rfl]
        exact rz_zim_no 34 n f a b p' q' W g cells (hB.below hbW hB.lt) hb cz 0 (Lib.hid fun W => whole_a q' W hge')) (Lib.hid fun W w' X h h1 h2 => RW.fr_at hB h h1 h2)).mono ?_
      rintro e w' ⟨rfl,W,w1,hbW,hZ,hl,rfl⟩
      exact ⟨rfl,M.to_same hbw (RW.after hB hbW hZ _).mw.1 (RW.after hB hbW hZ _).mw.2 rfl⟩
  rcases hle : leMax q with _ | _
  · have hge' : geMin q' = true := zq.geMin.symm.trans hge
    have hle' : leMax q' = false := zq.leMax.symm.trans hle
    refine ⟨(6,8,0),out,st,inp,fun K' => K' = K,fun K' => K' = Kr,?_,hst,hin,hol,hsl,?_,?_⟩
    · rintro _ _ rfl rfl; exact hK
    · rintro w U g base A m c ⟨cells,AT,AS,AI,cT,cS,cI,M⟩ hT htg hbw hSl hm
      have hB : Blk w g 119 cells := M.blk
      have cx := (M.core a (by omega)).trans hx
      replace cx : cells[a]? = some (.int .i32 x) := cx
      have cz := (M.core (8 + b) (by omega)).trans hz
      replace cz : cells[8 + b]? = some (.complex .f64 p q) := cz
      refine (do_part 34 f n word from_ a b _ (6) (8) (0) w g cells _ hT htg hB hn hc (by kernel_rfl) (Lib.hid fun W hT hB => pt_zim_nob 34 n f a b p q W g cells hT htg hB hb cz hge hle hnm)).mono ?_
      rintro e w' ⟨rfl,h⟩
      exact ⟨rfl,M.to_same hbw h.mw.1 h.mw.2 rfl⟩
    · rintro w U g base A m c ⟨cells,AT,AS,AI,cT,cS,cI,M⟩ hbw hSl hm
      have hB : Blk w g 89 cells := M.blk
      have cx := (M.core a (by omega)).trans hxq
      rw [lay_lo (by omega)] at cx
      have cz := (M.core (8 + b) (by omega)).trans hzq
      rw [lay_lo (by omega)] at cz
      refine (rdo_zA 6 (by decide) 34 f n word from_ a b _ (6) (8) (0) (fun W w' => RW W g cells w') w g cells hB hn hc (by kernel_rfl) (Lib.hid fun W hbW => by
        rw [show (opName 34).toArray = #[122,105,109] by kernel_rfl]
        exact rz_zim_no 34 n f a b p' q' W g cells (hB.below hbW hB.lt) hb cz 0 (Lib.hid fun W => whole_b q' W hge' hle')) (Lib.hid fun W w' X h h1 h2 => RW.fr_at hB h h1 h2)).mono ?_
      rintro e w' ⟨rfl,W,w1,hbW,hZ,hl,rfl⟩
      exact ⟨rfl,M.to_same hbw (RW.after hB hbW hZ _).mw.1 (RW.after hB hbW hZ _).mw.2 rfl⟩
  obtain rfl : q = q' := zq.eq hge
  obtain ⟨mv,bb,yy,m0,m1,hval,hyy,hdec,hne,heq⟩ := part_int hge hle
  have hcv : ∀ w,(convert 146 21 (.float .f64 q)).run Tryd.prog w = .ok (.int .i32 mv) w := fun w => run_convert_float_int w _ _ .f64 .i32 q mv (by kernel_rfl) Tryd.underlying21 hval
  have htr := fun W => trunc_num hdec hyy W
  cases bb
  · skip
    refine ⟨(6,8,0),out,st,inp,fun K' => K' = K,fun K' => K' = Kr,?_,hst,hin,hol,hsl,?_,?_⟩
    · rintro _ _ rfl rfl; exact hK
    · rintro w U g base A m c ⟨cells,AT,AS,AI,cT,cS,cI,M⟩ hT htg hbw hSl hm
      have hB : Blk w g 119 cells := M.blk
      have cx := (M.core a (by omega)).trans hx
      replace cx : cells[a]? = some (.int .i32 x) := cx
      have cz := (M.core (8 + b) (by omega)).trans hz
      replace cz : cells[8 + b]? = some (.complex .f64 p q) := cz
      refine (do_part 34 f n word from_ a b _ (6) (8) (0) w g cells _ hT htg hB hn hc (by kernel_rfl) (Lib.hid fun W hT hB => pt_zim_noc 34 n f a b p q W g cells hT htg hB hb cz hge hle yy hne (Lib.hid htr) hnm)).mono ?_
      rintro e w' ⟨rfl,h⟩
      exact ⟨rfl,M.to_same hbw h.mw.1 h.mw.2 rfl⟩
    · rintro w U g base A m c ⟨cells,AT,AS,AI,cT,cS,cI,M⟩ hbw hSl hm
      have hB : Blk w g 89 cells := M.blk
      have cx := (M.core a (by omega)).trans hxq
      rw [lay_lo (by omega)] at cx
      have cz := (M.core (8 + b) (by omega)).trans hzq
      rw [lay_lo (by omega)] at cz
      refine (rdo_zA 6 (by decide) 34 f n word from_ a b _ (6) (8) (0) (fun W w' => RW W g cells w') w g cells hB hn hc (by kernel_rfl) (Lib.hid fun W hbW => by
        rw [show (opName 34).toArray = #[122,105,109] by kernel_rfl]
        exact rz_zim_no 34 n f a b p' q W g cells (hB.below hbW hB.lt) hb cz mv (Lib.hid fun W => whole_c q W mv false hge hle hcv heq)) (Lib.hid fun W w' X h h1 h2 => RW.fr_at hB h h1 h2)).mono ?_
      rintro e w' ⟨rfl,W,w1,hbW,hZ,hl,rfl⟩
      exact ⟨rfl,M.to_same hbw (RW.after hB hbW hZ _).mw.1 (RW.after hB hbW hZ _).mw.2 rfl⟩
  · skip
    refine ⟨(0,0,0),out,st,inp,fun K' => K' = K.set a (.int .i32 mv),fun K' => K' = Kr.set a (.int .i32 mv),?_,hst,hin,hol,hsl,?_,?_⟩
    · rintro _ _ rfl rfl; exact hK.setR ha ⟨m0,m1⟩
    · rintro w U g base A m c ⟨cells,AT,AS,AI,cT,cS,cI,M⟩ hT htg hbw hSl hm
      have hB : Blk w g 119 cells := M.blk
      have cx := (M.core a (by omega)).trans hx
      replace cx : cells[a]? = some (.int .i32 x) := cx
      have cz := (M.core (8 + b) (by omega)).trans hz
      replace cz : cells[8 + b]? = some (.complex .f64 p q) := cz
      refine (do_part 34 f n word from_ a b _ (0) (0) (0) w g cells _ hT htg hB hn hc (by kernel_rfl) (Lib.hid fun W hT hB => pt_zim 34 n f a b p q yy mv W g cells hT htg hB ha hb cz _ cx hge hle hne hcv (Lib.hid htr) hnm)).mono ?_
      rintro e w' ⟨rfl,h⟩
      exact ⟨rfl,M.to_set cpuL_ok hbw (by omega) h.mw.1 h.mw.2 rfl⟩
    · rintro w U g base A m c ⟨cells,AT,AS,AI,cT,cS,cI,M⟩ hbw hSl hm
      have hB : Blk w g 89 cells := M.blk
      have cx := (M.core a (by omega)).trans hxq
      rw [lay_lo (by omega)] at cx
      have cz := (M.core (8 + b) (by omega)).trans hzq
      rw [lay_lo (by omega)] at cz
      refine (rdo_zA 6 (by decide) 34 f n word from_ a b _ (0) (0) (0) (fun W w' => RW W g (cells.set a (.int .i32 mv)) w') w g cells hB hn hc (by kernel_rfl) (Lib.hid fun W hbW => by
        rw [show (opName 34).toArray = #[122,105,109] by kernel_rfl]
        exact rz_zim 34 n f a b p' q W g cells (hB.below hbW hB.lt) hb cz ha _ cx mv (Lib.hid fun W => whole_c q W mv true hge hle hcv heq)) (Lib.hid fun W w' X h h1 h2 => RW.fr_at hB h h1 h2)).mono ?_
      rintro e w' ⟨rfl,W,w1,hbW,hZ,hl,rfl⟩
      exact ⟨rfl,M.to_set refL_ok hbw (j := a) (by omega) (RW.after hB hbW hZ _).mw.1 (by rw [lay_lo (by omega)]; exact (RW.after hB hbW hZ _).mw.2) rfl⟩
end Go.Proofs.YthcjnkakfpmpbaaDoor
