import Derived.Test.YthcjnkakfpmpbaaDoorQ36
namespace Go.Proofs.YthcjnkakfpmpbaaDoor
open Go.RowKit
set_option linter.unusedVariables false
set_option linter.unusedSimpArgs false
set_option maxRecDepth 20000 in
set_option maxHeartbeats 1000000 in
theorem both_mov (a b : Nat) (n f word from_ : Int) (mem : List UInt8) (K Kr : List Value) (out st inp : List Int) (hK : KR K Kr) (hn : In32 n) (hw : In32 word) (hf0 : 0 ≤ from_) (hf1 : from_ ≤ 1048576) (hst : ∀ x ∈ st,In32 x) (hin : ∀ x ∈ inp,In32 x) (hol : out.length ≤ 4096) (hsl : st.length ≤ 256) (hc : checkR 13 a b n f = 0)  : Both 13 a b n f word from_ mem K Kr out st inp := by
  have hr : regB 4 a b n = true := (show opShape 13 = 4 by kernel_rfl) ▸ (checkR_parts hc).2.1
  have hnm : opName 13 = [109,111,118] := by kernel_rfl
  have hsh : opShape 13 = 4 := by kernel_rfl
  have ha : a < 8 := by simp [regB,limA,limB,okLim] at hr; omega
  have hb : b < 8 := by simp [regB,limA,limB,okLim] at hr; omega
  obtain ⟨x,hxr,hx,hxq⟩ := hK.r a ha
  obtain ⟨y,hyr,hy,hyq⟩ := hK.r b hb
  refine ⟨(0,0,0),out,st,inp,fun K' => K' = K.set a (.int .i32 (y)),fun K' => K' = Kr.set a (.int .i32 (y)),?_,hst,hin,hol,hsl,?_,?_⟩
  · rintro _ _ rfl rfl; exact hK.setR ha (hyr)
  · rintro w U g base A m c ⟨cells,AT,AS,AI,cT,cS,cI,M⟩ hT htg hbw hSl hm
    have hB : Blk w g 119 cells := M.blk
    have cx := (M.core a (by omega)).trans hx
    have cy := (M.core b (by omega)).trans hy
    replace cx : cells[a]? = some (.int .i32 x) := cx
    replace cy : cells[b]? = some (.int .i32 y) := cy
    refine (do_two 13 f n word from_ a b _ (0) (0) (0) w g cells _ hT htg hB hn hc (by kernel_rfl) (Lib.hid fun W hT hB => two_K _ 13 n f a b _ from_ x y W g cells hT htg hB ha hb cx cy hxr.1 hxr.2 hyr.1 hyr.2 (.inl ⟨hnm,rfl⟩))).mono ?_
    rintro e w' ⟨rfl,h⟩
    exact ⟨rfl,M.to_set cpuL_ok hbw (by omega) h.mw.1 h.mw.2 rfl⟩
  · rintro w U g base A m c ⟨cells,AT,AS,AI,cT,cS,cI,M⟩ hbw hSl hm
    have hB : Blk w g 89 cells := M.blk
    have cx := (M.core a (by omega)).trans hxq
    rw [lay_lo (by omega)] at cx
    have cy := (M.core b (by omega)).trans hyq
    rw [lay_lo (by omega)] at cy
    refine (rdo_two4 13 f n word from_ a b _ (0) (0) (0) (fun W w' => RW W g (cells.set a (.int .i32 (y))) w') w g cells hB hn hc (by kernel_rfl) (Lib.hid fun W hbW => by
      rw [show (opName 13).toArray = #[109,111,118] by kernel_rfl]
      exact rtwo_K _ (by simp) _ 13 n f a b _ from_ x y W g cells (hB.below hbW hB.lt) ha hb cx cy hxr.1 hxr.2 hyr.1 hyr.2 (fun k => reckon_mov x y k hxr.1 hxr.2 hyr.1 hyr.2)) (Lib.hid fun W w' X h h1 h2 => RW.fr_at hB h h1 h2)).mono ?_
    rintro e w' ⟨rfl,W,w1,hbW,hZ,hl,rfl⟩
    exact ⟨rfl,M.to_set refL_ok hbw (j := a) (by omega) (RW.after hB hbW hZ _).mw.1 (by rw [lay_lo (by omega)]; exact (RW.after hB hbW hZ _).mw.2) rfl⟩
set_option maxRecDepth 20000 in
set_option maxHeartbeats 1000000 in
theorem both_add (a b : Nat) (n f word from_ : Int) (mem : List UInt8) (K Kr : List Value) (out st inp : List Int) (hK : KR K Kr) (hn : In32 n) (hw : In32 word) (hf0 : 0 ≤ from_) (hf1 : from_ ≤ 1048576) (hst : ∀ x ∈ st,In32 x) (hin : ∀ x ∈ inp,In32 x) (hol : out.length ≤ 4096) (hsl : st.length ≤ 256) (hc : checkR 14 a b n f = 0)  : Both 14 a b n f word from_ mem K Kr out st inp := by
  have hr : regB 4 a b n = true := (show opShape 14 = 4 by kernel_rfl) ▸ (checkR_parts hc).2.1
  have hnm : opName 14 = [97,100,100] := by kernel_rfl
  have hsh : opShape 14 = 4 := by kernel_rfl
  have ha : a < 8 := by simp [regB,limA,limB,okLim] at hr; omega
  have hb : b < 8 := by simp [regB,limA,limB,okLim] at hr; omega
  obtain ⟨x,hxr,hx,hxq⟩ := hK.r a ha
  obtain ⟨y,hyr,hy,hyq⟩ := hK.r b hb
  refine ⟨(0,0,0),out,st,inp,fun K' => K' = K.set a (.int .i32 (wrap32 (x + y))),fun K' => K' = Kr.set a (.int .i32 (wrap32 (x + y))),?_,hst,hin,hol,hsl,?_,?_⟩
  · rintro _ _ rfl rfl; exact hK.setR ha (in_wrap _)
  · rintro w U g base A m c ⟨cells,AT,AS,AI,cT,cS,cI,M⟩ hT htg hbw hSl hm
    have hB : Blk w g 119 cells := M.blk
    have cx := (M.core a (by omega)).trans hx
    have cy := (M.core b (by omega)).trans hy
    replace cx : cells[a]? = some (.int .i32 x) := cx
    replace cy : cells[b]? = some (.int .i32 y) := cy
    refine (do_two 14 f n word from_ a b _ (0) (0) (0) w g cells _ hT htg hB hn hc (by kernel_rfl) (Lib.hid fun W hT hB => two_K _ 14 n f a b _ from_ x y W g cells hT htg hB ha hb cx cy hxr.1 hxr.2 hyr.1 hyr.2 (.inr (.inl ⟨hnm,rfl⟩)))).mono ?_
    rintro e w' ⟨rfl,h⟩
    exact ⟨rfl,M.to_set cpuL_ok hbw (by omega) h.mw.1 h.mw.2 rfl⟩
  · rintro w U g base A m c ⟨cells,AT,AS,AI,cT,cS,cI,M⟩ hbw hSl hm
    have hB : Blk w g 89 cells := M.blk
    have cx := (M.core a (by omega)).trans hxq
    rw [lay_lo (by omega)] at cx
    have cy := (M.core b (by omega)).trans hyq
    rw [lay_lo (by omega)] at cy
    refine (rdo_two4 14 f n word from_ a b _ (0) (0) (0) (fun W w' => RW W g (cells.set a (.int .i32 (wrap32 (x + y)))) w') w g cells hB hn hc (by kernel_rfl) (Lib.hid fun W hbW => by
      rw [show (opName 14).toArray = #[97,100,100] by kernel_rfl]
      exact rtwo_K _ (by simp) _ 14 n f a b _ from_ x y W g cells (hB.below hbW hB.lt) ha hb cx cy hxr.1 hxr.2 hyr.1 hyr.2 (fun k => reckon_add x y k hxr.1 hxr.2 hyr.1 hyr.2)) (Lib.hid fun W w' X h h1 h2 => RW.fr_at hB h h1 h2)).mono ?_
    rintro e w' ⟨rfl,W,w1,hbW,hZ,hl,rfl⟩
    exact ⟨rfl,M.to_set refL_ok hbw (j := a) (by omega) (RW.after hB hbW hZ _).mw.1 (by rw [lay_lo (by omega)]; exact (RW.after hB hbW hZ _).mw.2) rfl⟩
set_option maxRecDepth 20000 in
set_option maxHeartbeats 1000000 in
theorem both_sub (a b : Nat) (n f word from_ : Int) (mem : List UInt8) (K Kr : List Value) (out st inp : List Int) (hK : KR K Kr) (hn : In32 n) (hw : In32 word) (hf0 : 0 ≤ from_) (hf1 : from_ ≤ 1048576) (hst : ∀ x ∈ st,In32 x) (hin : ∀ x ∈ inp,In32 x) (hol : out.length ≤ 4096) (hsl : st.length ≤ 256) (hc : checkR 15 a b n f = 0)  : Both 15 a b n f word from_ mem K Kr out st inp := by
  have hr : regB 4 a b n = true := (show opShape 15 = 4 by kernel_rfl) ▸ (checkR_parts hc).2.1
  have hnm : opName 15 = [115,117,98] := by kernel_rfl
  have hsh : opShape 15 = 4 := by kernel_rfl
  have ha : a < 8 := by simp [regB,limA,limB,okLim] at hr; omega
  have hb : b < 8 := by simp [regB,limA,limB,okLim] at hr; omega
  obtain ⟨x,hxr,hx,hxq⟩ := hK.r a ha
  obtain ⟨y,hyr,hy,hyq⟩ := hK.r b hb
  refine ⟨(0,0,0),out,st,inp,fun K' => K' = K.set a (.int .i32 (wrap32 (x - y))),fun K' => K' = Kr.set a (.int .i32 (wrap32 (x - y))),?_,hst,hin,hol,hsl,?_,?_⟩
  · rintro _ _ rfl rfl; exact hK.setR ha (in_wrap _)
  · rintro w U g base A m c ⟨cells,AT,AS,AI,cT,cS,cI,M⟩ hT htg hbw hSl hm
    have hB : Blk w g 119 cells := M.blk
    have cx := (M.core a (by omega)).trans hx
    have cy := (M.core b (by omega)).trans hy
    replace cx : cells[a]? = some (.int .i32 x) := cx
    replace cy : cells[b]? = some (.int .i32 y) := cy
    refine (do_two 15 f n word from_ a b _ (0) (0) (0) w g cells _ hT htg hB hn hc (by kernel_rfl) (Lib.hid fun W hT hB => two_K _ 15 n f a b _ from_ x y W g cells hT htg hB ha hb cx cy hxr.1 hxr.2 hyr.1 hyr.2 (.inr (.inr (.inl ⟨hnm,rfl⟩))))).mono ?_
    rintro e w' ⟨rfl,h⟩
    exact ⟨rfl,M.to_set cpuL_ok hbw (by omega) h.mw.1 h.mw.2 rfl⟩
  · rintro w U g base A m c ⟨cells,AT,AS,AI,cT,cS,cI,M⟩ hbw hSl hm
    have hB : Blk w g 89 cells := M.blk
    have cx := (M.core a (by omega)).trans hxq
    rw [lay_lo (by omega)] at cx
    have cy := (M.core b (by omega)).trans hyq
    rw [lay_lo (by omega)] at cy
    refine (rdo_two4 15 f n word from_ a b _ (0) (0) (0) (fun W w' => RW W g (cells.set a (.int .i32 (wrap32 (x - y)))) w') w g cells hB hn hc (by kernel_rfl) (Lib.hid fun W hbW => by
      rw [show (opName 15).toArray = #[115,117,98] by kernel_rfl]
      exact rtwo_K _ (by simp) _ 15 n f a b _ from_ x y W g cells (hB.below hbW hB.lt) ha hb cx cy hxr.1 hxr.2 hyr.1 hyr.2 (fun k => reckon_sub x y k hxr.1 hxr.2 hyr.1 hyr.2)) (Lib.hid fun W w' X h h1 h2 => RW.fr_at hB h h1 h2)).mono ?_
    rintro e w' ⟨rfl,W,w1,hbW,hZ,hl,rfl⟩
    exact ⟨rfl,M.to_set refL_ok hbw (j := a) (by omega) (RW.after hB hbW hZ _).mw.1 (by rw [lay_lo (by omega)]; exact (RW.after hB hbW hZ _).mw.2) rfl⟩
set_option maxRecDepth 20000 in
set_option maxHeartbeats 1000000 in
theorem both_mul (a b : Nat) (n f word from_ : Int) (mem : List UInt8) (K Kr : List Value) (out st inp : List Int) (hK : KR K Kr) (hn : In32 n) (hw : In32 word) (hf0 : 0 ≤ from_) (hf1 : from_ ≤ 1048576) (hst : ∀ x ∈ st,In32 x) (hin : ∀ x ∈ inp,In32 x) (hol : out.length ≤ 4096) (hsl : st.length ≤ 256) (hc : checkR 16 a b n f = 0)  : Both 16 a b n f word from_ mem K Kr out st inp := by
  have hr : regB 4 a b n = true := (show opShape 16 = 4 by kernel_rfl) ▸ (checkR_parts hc).2.1
  have hnm : opName 16 = [109,117,108] := by kernel_rfl
  have hsh : opShape 16 = 4 := by kernel_rfl
  have ha : a < 8 := by simp [regB,limA,limB,okLim] at hr; omega
  have hb : b < 8 := by simp [regB,limA,limB,okLim] at hr; omega
  obtain ⟨x,hxr,hx,hxq⟩ := hK.r a ha
  obtain ⟨y,hyr,hy,hyq⟩ := hK.r b hb
  refine ⟨(0,0,0),out,st,inp,fun K' => K' = K.set a (.int .i32 (wrap32 (x * y))),fun K' => K' = Kr.set a (.int .i32 (wrap32 (x * y))),?_,hst,hin,hol,hsl,?_,?_⟩
  · rintro _ _ rfl rfl; exact hK.setR ha (in_wrap _)
  · rintro w U g base A m c ⟨cells,AT,AS,AI,cT,cS,cI,M⟩ hT htg hbw hSl hm
    have hB : Blk w g 119 cells := M.blk
    have cx := (M.core a (by omega)).trans hx
    have cy := (M.core b (by omega)).trans hy
    replace cx : cells[a]? = some (.int .i32 x) := cx
    replace cy : cells[b]? = some (.int .i32 y) := cy
    refine (do_two 16 f n word from_ a b _ (0) (0) (0) w g cells _ hT htg hB hn hc (by kernel_rfl) (Lib.hid fun W hT hB => two_K _ 16 n f a b _ from_ x y W g cells hT htg hB ha hb cx cy hxr.1 hxr.2 hyr.1 hyr.2 (.inr (.inr (.inr (.inl ⟨hnm,rfl⟩)))))).mono ?_
    rintro e w' ⟨rfl,h⟩
    exact ⟨rfl,M.to_set cpuL_ok hbw (by omega) h.mw.1 h.mw.2 rfl⟩
  · rintro w U g base A m c ⟨cells,AT,AS,AI,cT,cS,cI,M⟩ hbw hSl hm
    have hB : Blk w g 89 cells := M.blk
    have cx := (M.core a (by omega)).trans hxq
    rw [lay_lo (by omega)] at cx
    have cy := (M.core b (by omega)).trans hyq
    rw [lay_lo (by omega)] at cy
    refine (rdo_two4 16 f n word from_ a b _ (0) (0) (0) (fun W w' => RW W g (cells.set a (.int .i32 (wrap32 (x * y)))) w') w g cells hB hn hc (by kernel_rfl) (Lib.hid fun W hbW => by
      rw [show (opName 16).toArray = #[109,117,108] by kernel_rfl]
      exact rtwo_K _ (by simp) _ 16 n f a b _ from_ x y W g cells (hB.below hbW hB.lt) ha hb cx cy hxr.1 hxr.2 hyr.1 hyr.2 (fun k => reckon_mul x y k hxr.1 hxr.2 hyr.1 hyr.2)) (Lib.hid fun W w' X h h1 h2 => RW.fr_at hB h h1 h2)).mono ?_
    rintro e w' ⟨rfl,W,w1,hbW,hZ,hl,rfl⟩
    exact ⟨rfl,M.to_set refL_ok hbw (j := a) (by omega) (RW.after hB hbW hZ _).mw.1 (by rw [lay_lo (by omega)]; exact (RW.after hB hbW hZ _).mw.2) rfl⟩
set_option maxRecDepth 20000 in
set_option maxHeartbeats 1000000 in
theorem both_and (a b : Nat) (n f word from_ : Int) (mem : List UInt8) (K Kr : List Value) (out st inp : List Int) (hK : KR K Kr) (hn : In32 n) (hw : In32 word) (hf0 : 0 ≤ from_) (hf1 : from_ ≤ 1048576) (hst : ∀ x ∈ st,In32 x) (hin : ∀ x ∈ inp,In32 x) (hol : out.length ≤ 4096) (hsl : st.length ≤ 256) (hc : checkR 18 a b n f = 0)  : Both 18 a b n f word from_ mem K Kr out st inp := by
  have hr : regB 4 a b n = true := (show opShape 18 = 4 by kernel_rfl) ▸ (checkR_parts hc).2.1
  have hnm : opName 18 = [97,110,100] := by kernel_rfl
  have hsh : opShape 18 = 4 := by kernel_rfl
  have ha : a < 8 := by simp [regB,limA,limB,okLim] at hr; omega
  have hb : b < 8 := by simp [regB,limA,limB,okLim] at hr; omega
  obtain ⟨x,hxr,hx,hxq⟩ := hK.r a ha
  obtain ⟨y,hyr,hy,hyq⟩ := hK.r b hb
  refine ⟨(0,0,0),out,st,inp,fun K' => K' = K.set a (.int .i32 (bits BinOp.and IntKind.i32 x y)),fun K' => K' = Kr.set a (.int .i32 (bits BinOp.and IntKind.i32 x y)),?_,hst,hin,hol,hsl,?_,?_⟩
  · rintro _ _ rfl rfl; exact hK.setR ha (in_bits _ _ _)
  · rintro w U g base A m c ⟨cells,AT,AS,AI,cT,cS,cI,M⟩ hT htg hbw hSl hm
    have hB : Blk w g 119 cells := M.blk
    have cx := (M.core a (by omega)).trans hx
    have cy := (M.core b (by omega)).trans hy
    replace cx : cells[a]? = some (.int .i32 x) := cx
    replace cy : cells[b]? = some (.int .i32 y) := cy
    refine (do_two 18 f n word from_ a b _ (0) (0) (0) w g cells _ hT htg hB hn hc (by kernel_rfl) (Lib.hid fun W hT hB => two_K _ 18 n f a b _ from_ x y W g cells hT htg hB ha hb cx cy hxr.1 hxr.2 hyr.1 hyr.2 (.inr (.inr (.inr (.inr (.inl ⟨hnm,rfl⟩))))))).mono ?_
    rintro e w' ⟨rfl,h⟩
    exact ⟨rfl,M.to_set cpuL_ok hbw (by omega) h.mw.1 h.mw.2 rfl⟩
  · rintro w U g base A m c ⟨cells,AT,AS,AI,cT,cS,cI,M⟩ hbw hSl hm
    have hB : Blk w g 89 cells := M.blk
    have cx := (M.core a (by omega)).trans hxq
    rw [lay_lo (by omega)] at cx
    have cy := (M.core b (by omega)).trans hyq
    rw [lay_lo (by omega)] at cy
    refine (rdo_two4 18 f n word from_ a b _ (0) (0) (0) (fun W w' => RW W g (cells.set a (.int .i32 (bits BinOp.and IntKind.i32 x y))) w') w g cells hB hn hc (by kernel_rfl) (Lib.hid fun W hbW => by
      rw [show (opName 18).toArray = #[97,110,100] by kernel_rfl]
      exact rtwo_K _ (by simp) _ 18 n f a b _ from_ x y W g cells (hB.below hbW hB.lt) ha hb cx cy hxr.1 hxr.2 hyr.1 hyr.2 (fun k => reckon_and x y k hxr.1 hxr.2 hyr.1 hyr.2)) (Lib.hid fun W w' X h h1 h2 => RW.fr_at hB h h1 h2)).mono ?_
    rintro e w' ⟨rfl,W,w1,hbW,hZ,hl,rfl⟩
    exact ⟨rfl,M.to_set refL_ok hbw (j := a) (by omega) (RW.after hB hbW hZ _).mw.1 (by rw [lay_lo (by omega)]; exact (RW.after hB hbW hZ _).mw.2) rfl⟩
set_option maxRecDepth 20000 in
set_option maxHeartbeats 1000000 in
theorem both_or (a b : Nat) (n f word from_ : Int) (mem : List UInt8) (K Kr : List Value) (out st inp : List Int) (hK : KR K Kr) (hn : In32 n) (hw : In32 word) (hf0 : 0 ≤ from_) (hf1 : from_ ≤ 1048576) (hst : ∀ x ∈ st,In32 x) (hin : ∀ x ∈ inp,In32 x) (hol : out.length ≤ 4096) (hsl : st.length ≤ 256) (hc : checkR 19 a b n f = 0)  : Both 19 a b n f word from_ mem K Kr out st inp := by
  have hr : regB 4 a b n = true := (show opShape 19 = 4 by kernel_rfl) ▸ (checkR_parts hc).2.1
  have hnm : opName 19 = [111,114] := by kernel_rfl
  have hsh : opShape 19 = 4 := by kernel_rfl
  have ha : a < 8 := by simp [regB,limA,limB,okLim] at hr; omega
  have hb : b < 8 := by simp [regB,limA,limB,okLim] at hr; omega
  obtain ⟨x,hxr,hx,hxq⟩ := hK.r a ha
  obtain ⟨y,hyr,hy,hyq⟩ := hK.r b hb
  refine ⟨(0,0,0),out,st,inp,fun K' => K' = K.set a (.int .i32 (bits BinOp.or IntKind.i32 x y)),fun K' => K' = Kr.set a (.int .i32 (bits BinOp.or IntKind.i32 x y)),?_,hst,hin,hol,hsl,?_,?_⟩
  · rintro _ _ rfl rfl; exact hK.setR ha (in_bits _ _ _)
  · rintro w U g base A m c ⟨cells,AT,AS,AI,cT,cS,cI,M⟩ hT htg hbw hSl hm
    have hB : Blk w g 119 cells := M.blk
    have cx := (M.core a (by omega)).trans hx
    have cy := (M.core b (by omega)).trans hy
    replace cx : cells[a]? = some (.int .i32 x) := cx
    replace cy : cells[b]? = some (.int .i32 y) := cy
    refine (do_two 19 f n word from_ a b _ (0) (0) (0) w g cells _ hT htg hB hn hc (by kernel_rfl) (Lib.hid fun W hT hB => two_K _ 19 n f a b _ from_ x y W g cells hT htg hB ha hb cx cy hxr.1 hxr.2 hyr.1 hyr.2 (.inr (.inr (.inr (.inr (.inr (.inl ⟨hnm,rfl⟩)))))))).mono ?_
    rintro e w' ⟨rfl,h⟩
    exact ⟨rfl,M.to_set cpuL_ok hbw (by omega) h.mw.1 h.mw.2 rfl⟩
  · rintro w U g base A m c ⟨cells,AT,AS,AI,cT,cS,cI,M⟩ hbw hSl hm
    have hB : Blk w g 89 cells := M.blk
    have cx := (M.core a (by omega)).trans hxq
    rw [lay_lo (by omega)] at cx
    have cy := (M.core b (by omega)).trans hyq
    rw [lay_lo (by omega)] at cy
    refine (rdo_two4 19 f n word from_ a b _ (0) (0) (0) (fun W w' => RW W g (cells.set a (.int .i32 (bits BinOp.or IntKind.i32 x y))) w') w g cells hB hn hc (by kernel_rfl) (Lib.hid fun W hbW => by
      rw [show (opName 19).toArray = #[111,114] by kernel_rfl]
      exact rtwo_K _ (by simp) _ 19 n f a b _ from_ x y W g cells (hB.below hbW hB.lt) ha hb cx cy hxr.1 hxr.2 hyr.1 hyr.2 (fun k => reckon_or x y k hxr.1 hxr.2 hyr.1 hyr.2)) (Lib.hid fun W w' X h h1 h2 => RW.fr_at hB h h1 h2)).mono ?_
    rintro e w' ⟨rfl,W,w1,hbW,hZ,hl,rfl⟩
    exact ⟨rfl,M.to_set refL_ok hbw (j := a) (by omega) (RW.after hB hbW hZ _).mw.1 (by rw [lay_lo (by omega)]; exact (RW.after hB hbW hZ _).mw.2) rfl⟩
set_option maxRecDepth 20000 in
set_option maxHeartbeats 1000000 in
theorem both_xor (a b : Nat) (n f word from_ : Int) (mem : List UInt8) (K Kr : List Value) (out st inp : List Int) (hK : KR K Kr) (hn : In32 n) (hw : In32 word) (hf0 : 0 ≤ from_) (hf1 : from_ ≤ 1048576) (hst : ∀ x ∈ st,In32 x) (hin : ∀ x ∈ inp,In32 x) (hol : out.length ≤ 4096) (hsl : st.length ≤ 256) (hc : checkR 20 a b n f = 0)  : Both 20 a b n f word from_ mem K Kr out st inp := by
  have hr : regB 4 a b n = true := (show opShape 20 = 4 by kernel_rfl) ▸ (checkR_parts hc).2.1
  have hnm : opName 20 = [120,111,114] := by kernel_rfl
  have hsh : opShape 20 = 4 := by kernel_rfl
  have ha : a < 8 := by simp [regB,limA,limB,okLim] at hr; omega
  have hb : b < 8 := by simp [regB,limA,limB,okLim] at hr; omega
  obtain ⟨x,hxr,hx,hxq⟩ := hK.r a ha
  obtain ⟨y,hyr,hy,hyq⟩ := hK.r b hb
  refine ⟨(0,0,0),out,st,inp,fun K' => K' = K.set a (.int .i32 (bits BinOp.xor IntKind.i32 x y)),fun K' => K' = Kr.set a (.int .i32 (bits BinOp.xor IntKind.i32 x y)),?_,hst,hin,hol,hsl,?_,?_⟩
  · rintro _ _ rfl rfl; exact hK.setR ha (in_bits _ _ _)
  · rintro w U g base A m c ⟨cells,AT,AS,AI,cT,cS,cI,M⟩ hT htg hbw hSl hm
    have hB : Blk w g 119 cells := M.blk
    have cx := (M.core a (by omega)).trans hx
    have cy := (M.core b (by omega)).trans hy
    replace cx : cells[a]? = some (.int .i32 x) := cx
    replace cy : cells[b]? = some (.int .i32 y) := cy
    refine (do_two 20 f n word from_ a b _ (0) (0) (0) w g cells _ hT htg hB hn hc (by kernel_rfl) (Lib.hid fun W hT hB => two_K _ 20 n f a b _ from_ x y W g cells hT htg hB ha hb cx cy hxr.1 hxr.2 hyr.1 hyr.2 (.inr (.inr (.inr (.inr (.inr (.inr (.inl ⟨hnm,rfl⟩))))))))).mono ?_
    rintro e w' ⟨rfl,h⟩
    exact ⟨rfl,M.to_set cpuL_ok hbw (by omega) h.mw.1 h.mw.2 rfl⟩
  · rintro w U g base A m c ⟨cells,AT,AS,AI,cT,cS,cI,M⟩ hbw hSl hm
    have hB : Blk w g 89 cells := M.blk
    have cx := (M.core a (by omega)).trans hxq
    rw [lay_lo (by omega)] at cx
    have cy := (M.core b (by omega)).trans hyq
    rw [lay_lo (by omega)] at cy
    refine (rdo_two4 20 f n word from_ a b _ (0) (0) (0) (fun W w' => RW W g (cells.set a (.int .i32 (bits BinOp.xor IntKind.i32 x y))) w') w g cells hB hn hc (by kernel_rfl) (Lib.hid fun W hbW => by
      rw [show (opName 20).toArray = #[120,111,114] by kernel_rfl]
      exact rtwo_K _ (by simp) _ 20 n f a b _ from_ x y W g cells (hB.below hbW hB.lt) ha hb cx cy hxr.1 hxr.2 hyr.1 hyr.2 (fun k => reckon_xor x y k hxr.1 hxr.2 hyr.1 hyr.2)) (Lib.hid fun W w' X h h1 h2 => RW.fr_at hB h h1 h2)).mono ?_
    rintro e w' ⟨rfl,W,w1,hbW,hZ,hl,rfl⟩
    exact ⟨rfl,M.to_set refL_ok hbw (j := a) (by omega) (RW.after hB hbW hZ _).mw.1 (by rw [lay_lo (by omega)]; exact (RW.after hB hbW hZ _).mw.2) rfl⟩
set_option maxRecDepth 20000 in
set_option maxHeartbeats 1000000 in
theorem both_lt (a b : Nat) (n f word from_ : Int) (mem : List UInt8) (K Kr : List Value) (out st inp : List Int) (hK : KR K Kr) (hn : In32 n) (hw : In32 word) (hf0 : 0 ≤ from_) (hf1 : from_ ≤ 1048576) (hst : ∀ x ∈ st,In32 x) (hin : ∀ x ∈ inp,In32 x) (hol : out.length ≤ 4096) (hsl : st.length ≤ 256) (hc : checkR 23 a b n f = 0)  : Both 23 a b n f word from_ mem K Kr out st inp := by
  have hr : regB 4 a b n = true := (show opShape 23 = 4 by kernel_rfl) ▸ (checkR_parts hc).2.1
  have hnm : opName 23 = [108,116] := by kernel_rfl
  have hsh : opShape 23 = 4 := by kernel_rfl
  have ha : a < 8 := by simp [regB,limA,limB,okLim] at hr; omega
  have hb : b < 8 := by simp [regB,limA,limB,okLim] at hr; omega
  obtain ⟨x,hxr,hx,hxq⟩ := hK.r a ha
  obtain ⟨y,hyr,hy,hyq⟩ := hK.r b hb
  refine ⟨(0,0,0),out,st,inp,fun K' => K' = K.set a (.int .i32 (b01 (decide (x < y)))),fun K' => K' = Kr.set a (.int .i32 (b01 (decide (x < y)))),?_,hst,hin,hol,hsl,?_,?_⟩
  · rintro _ _ rfl rfl; exact hK.setR ha (in_b01 _)
  · rintro w U g base A m c ⟨cells,AT,AS,AI,cT,cS,cI,M⟩ hT htg hbw hSl hm
    have hB : Blk w g 119 cells := M.blk
    have cx := (M.core a (by omega)).trans hx
    have cy := (M.core b (by omega)).trans hy
    replace cx : cells[a]? = some (.int .i32 x) := cx
    replace cy : cells[b]? = some (.int .i32 y) := cy
    refine (do_two 23 f n word from_ a b _ (0) (0) (0) w g cells _ hT htg hB hn hc (by kernel_rfl) (Lib.hid fun W hT hB => two_K _ 23 n f a b _ from_ x y W g cells hT htg hB ha hb cx cy hxr.1 hxr.2 hyr.1 hyr.2 (.inr (.inr (.inr (.inr (.inr (.inr (.inr (.inl ⟨hnm,rfl⟩)))))))))).mono ?_
    rintro e w' ⟨rfl,h⟩
    exact ⟨rfl,M.to_set cpuL_ok hbw (by omega) h.mw.1 h.mw.2 rfl⟩
  · rintro w U g base A m c ⟨cells,AT,AS,AI,cT,cS,cI,M⟩ hbw hSl hm
    have hB : Blk w g 89 cells := M.blk
    have cx := (M.core a (by omega)).trans hxq
    rw [lay_lo (by omega)] at cx
    have cy := (M.core b (by omega)).trans hyq
    rw [lay_lo (by omega)] at cy
    refine (rdo_two4 23 f n word from_ a b _ (0) (0) (0) (fun W w' => RW W g (cells.set a (.int .i32 (b01 (decide (x < y))))) w') w g cells hB hn hc (by kernel_rfl) (Lib.hid fun W hbW => by
      rw [show (opName 23).toArray = #[108,116] by kernel_rfl]
      exact rtwo_K _ (by simp) _ 23 n f a b _ from_ x y W g cells (hB.below hbW hB.lt) ha hb cx cy hxr.1 hxr.2 hyr.1 hyr.2 (fun k => reckon_lt x y k hxr.1 hxr.2 hyr.1 hyr.2)) (Lib.hid fun W w' X h h1 h2 => RW.fr_at hB h h1 h2)).mono ?_
    rintro e w' ⟨rfl,W,w1,hbW,hZ,hl,rfl⟩
    exact ⟨rfl,M.to_set refL_ok hbw (j := a) (by omega) (RW.after hB hbW hZ _).mw.1 (by rw [lay_lo (by omega)]; exact (RW.after hB hbW hZ _).mw.2) rfl⟩
set_option maxRecDepth 20000 in
set_option maxHeartbeats 1000000 in
theorem both_eq (a b : Nat) (n f word from_ : Int) (mem : List UInt8) (K Kr : List Value) (out st inp : List Int) (hK : KR K Kr) (hn : In32 n) (hw : In32 word) (hf0 : 0 ≤ from_) (hf1 : from_ ≤ 1048576) (hst : ∀ x ∈ st,In32 x) (hin : ∀ x ∈ inp,In32 x) (hol : out.length ≤ 4096) (hsl : st.length ≤ 256) (hc : checkR 24 a b n f = 0)  : Both 24 a b n f word from_ mem K Kr out st inp := by
  have hr : regB 4 a b n = true := (show opShape 24 = 4 by kernel_rfl) ▸ (checkR_parts hc).2.1
  have hnm : opName 24 = [101,113] := by kernel_rfl
  have hsh : opShape 24 = 4 := by kernel_rfl
  have ha : a < 8 := by simp [regB,limA,limB,okLim] at hr; omega
  have hb : b < 8 := by simp [regB,limA,limB,okLim] at hr; omega
  obtain ⟨x,hxr,hx,hxq⟩ := hK.r a ha
  obtain ⟨y,hyr,hy,hyq⟩ := hK.r b hb
  refine ⟨(0,0,0),out,st,inp,fun K' => K' = K.set a (.int .i32 (b01 (x == y))),fun K' => K' = Kr.set a (.int .i32 (b01 (x == y))),?_,hst,hin,hol,hsl,?_,?_⟩
  · rintro _ _ rfl rfl; exact hK.setR ha (in_b01 _)
  · rintro w U g base A m c ⟨cells,AT,AS,AI,cT,cS,cI,M⟩ hT htg hbw hSl hm
    have hB : Blk w g 119 cells := M.blk
    have cx := (M.core a (by omega)).trans hx
    have cy := (M.core b (by omega)).trans hy
    replace cx : cells[a]? = some (.int .i32 x) := cx
    replace cy : cells[b]? = some (.int .i32 y) := cy
    refine (do_two 24 f n word from_ a b _ (0) (0) (0) w g cells _ hT htg hB hn hc (by kernel_rfl) (Lib.hid fun W hT hB => two_K _ 24 n f a b _ from_ x y W g cells hT htg hB ha hb cx cy hxr.1 hxr.2 hyr.1 hyr.2 (.inr (.inr (.inr (.inr (.inr (.inr (.inr (.inr (⟨hnm,rfl⟩))))))))))).mono ?_
    rintro e w' ⟨rfl,h⟩
    exact ⟨rfl,M.to_set cpuL_ok hbw (by omega) h.mw.1 h.mw.2 rfl⟩
  · rintro w U g base A m c ⟨cells,AT,AS,AI,cT,cS,cI,M⟩ hbw hSl hm
    have hB : Blk w g 89 cells := M.blk
    have cx := (M.core a (by omega)).trans hxq
    rw [lay_lo (by omega)] at cx
    have cy := (M.core b (by omega)).trans hyq
    rw [lay_lo (by omega)] at cy
    refine (rdo_two4 24 f n word from_ a b _ (0) (0) (0) (fun W w' => RW W g (cells.set a (.int .i32 (b01 (x == y)))) w') w g cells hB hn hc (by kernel_rfl) (Lib.hid fun W hbW => by
      rw [show (opName 24).toArray = #[101,113] by kernel_rfl]
      exact rtwo_K _ (by simp) _ 24 n f a b _ from_ x y W g cells (hB.below hbW hB.lt) ha hb cx cy hxr.1 hxr.2 hyr.1 hyr.2 (fun k => reckon_eq x y k hxr.1 hxr.2 hyr.1 hyr.2)) (Lib.hid fun W w' X h h1 h2 => RW.fr_at hB h h1 h2)).mono ?_
    rintro e w' ⟨rfl,W,w1,hbW,hZ,hl,rfl⟩
    exact ⟨rfl,M.to_set refL_ok hbw (j := a) (by omega) (RW.after hB hbW hZ _).mw.1 (by rw [lay_lo (by omega)]; exact (RW.after hB hbW hZ _).mw.2) rfl⟩
set_option maxRecDepth 20000 in
set_option maxHeartbeats 1000000 in
theorem both_shl (a b : Nat) (n f word from_ : Int) (mem : List UInt8) (K Kr : List Value) (out st inp : List Int) (hK : KR K Kr) (hn : In32 n) (hw : In32 word) (hf0 : 0 ≤ from_) (hf1 : from_ ≤ 1048576) (hst : ∀ x ∈ st,In32 x) (hin : ∀ x ∈ inp,In32 x) (hol : out.length ≤ 4096) (hsl : st.length ≤ 256) (hc : checkR 21 a b n f = 0)  : Both 21 a b n f word from_ mem K Kr out st inp := by
  have hr : regB 4 a b n = true := (show opShape 21 = 4 by kernel_rfl) ▸ (checkR_parts hc).2.1
  have hnm : opName 21 = [115,104,108] := by kernel_rfl
  have hsh : opShape 21 = 4 := by kernel_rfl
  have ha : a < 8 := by simp [regB,limA,limB,okLim] at hr; omega
  have hb : b < 8 := by simp [regB,limA,limB,okLim] at hr; omega
  obtain ⟨x,hxr,hx,hxq⟩ := hK.r a ha
  obtain ⟨y,hyr,hy,hyq⟩ := hK.r b hb
  have s0 : 0 ≤ y % 32 := by omega
  have s1 : y % 32 < 32 := by omega
  obtain ⟨R,R0,R1,hR,hs2⟩ := shl_both x (y % 32) s0 s1
  have hs2' : Op.shift BinOp.shl IntKind.i32 x IntKind.u32 (bits BinOp.and IntKind.u32 (y % 4294967296) 31) = pure (.int .i32 (wrap32 R)) := by rw [and31_u]; exact hs2
  refine ⟨(0,0,0),out,st,inp,fun K' => K' = K.set a (.int .i32 (wrap32 R)),fun K' => K' = Kr.set a (.int .i32 (wrap32 R)),?_,hst,hin,hol,hsl,?_,?_⟩
  · rintro _ _ rfl rfl; exact hK.setR ha (in_wrap _)
  · rintro w U g base A m c ⟨cells,AT,AS,AI,cT,cS,cI,M⟩ hT htg hbw hSl hm
    have hB : Blk w g 119 cells := M.blk
    have cx := (M.core a (by omega)).trans hx
    have cy := (M.core b (by omega)).trans hy
    replace cx : cells[a]? = some (.int .i32 x) := cx
    replace cy : cells[b]? = some (.int .i32 y) := cy
    refine (do_two 21 f n word from_ a b _ (0) (0) (0) w g cells _ hT htg hB hn hc (by kernel_rfl) (Lib.hid fun W hT hB => two_shl 21 n f a b _ from_ x y (wrap32 R) W g cells hT htg hB ha hb cx cy hxr.1 hxr.2 hyr.1 hyr.2 hs2' hnm)).mono ?_
    rintro e w' ⟨rfl,h⟩
    exact ⟨rfl,M.to_set cpuL_ok hbw (by omega) h.mw.1 h.mw.2 rfl⟩
  · rintro w U g base A m c ⟨cells,AT,AS,AI,cT,cS,cI,M⟩ hbw hSl hm
    have hB : Blk w g 89 cells := M.blk
    have cx := (M.core a (by omega)).trans hxq
    rw [lay_lo (by omega)] at cx
    have cy := (M.core b (by omega)).trans hyq
    rw [lay_lo (by omega)] at cy
    refine (rdo_two4 21 f n word from_ a b _ (0) (0) (0) (fun W w' => RW W g (cells.set a (.int .i32 (wrap32 R))) w') w g cells hB hn hc (by kernel_rfl) (Lib.hid fun W hbW => by
      rw [show (opName 21).toArray = #[115,104,108] by kernel_rfl]
      exact rtwo_shl 21 n f a b _ from_ x y W g cells (hB.below hbW hB.lt) ha hb cx cy hxr.1 hxr.2 hyr.1 hyr.2 (y % 32) R (and31_i y) s0 s1 hR R0 R1) (Lib.hid fun W w' X h h1 h2 => RW.fr_at hB h h1 h2)).mono ?_
    rintro e w' ⟨rfl,W,w1,hbW,hZ,hl,rfl⟩
    exact ⟨rfl,M.to_set refL_ok hbw (j := a) (by omega) (RW.after hB hbW hZ _).mw.1 (by rw [lay_lo (by omega)]; exact (RW.after hB hbW hZ _).mw.2) rfl⟩
set_option maxRecDepth 20000 in
set_option maxHeartbeats 1000000 in
theorem both_shr (a b : Nat) (n f word from_ : Int) (mem : List UInt8) (K Kr : List Value) (out st inp : List Int) (hK : KR K Kr) (hn : In32 n) (hw : In32 word) (hf0 : 0 ≤ from_) (hf1 : from_ ≤ 1048576) (hst : ∀ x ∈ st,In32 x) (hin : ∀ x ∈ inp,In32 x) (hol : out.length ≤ 4096) (hsl : st.length ≤ 256) (hc : checkR 22 a b n f = 0)  : Both 22 a b n f word from_ mem K Kr out st inp := by
  have hr : regB 4 a b n = true := (show opShape 22 = 4 by kernel_rfl) ▸ (checkR_parts hc).2.1
  have hnm : opName 22 = [115,104,114] := by kernel_rfl
  have hsh : opShape 22 = 4 := by kernel_rfl
  have ha : a < 8 := by simp [regB,limA,limB,okLim] at hr; omega
  have hb : b < 8 := by simp [regB,limA,limB,okLim] at hr; omega
  obtain ⟨x,hxr,hx,hxq⟩ := hK.r a ha
  obtain ⟨y,hyr,hy,hyq⟩ := hK.r b hb
  have s0 : 0 ≤ y % 32 := by omega
  have s1 : y % 32 < 32 := by omega
  obtain ⟨R,R0,R1,hR,hs2⟩ := shr_any x (y % 32) s0 s1
  have hs2' : Op.shift BinOp.shr IntKind.u32 (x % 4294967296) IntKind.u32 (bits BinOp.and IntKind.u32 (y % 4294967296) 31) = pure (.int .u32 R) := by rw [and31_u]; exact hs2
  refine ⟨(0,0,0),out,st,inp,fun K' => K' = K.set a (.int .i32 (wrap32 R)),fun K' => K' = Kr.set a (.int .i32 (wrap32 R)),?_,hst,hin,hol,hsl,?_,?_⟩
  · rintro _ _ rfl rfl; exact hK.setR ha (in_wrap _)
  · rintro w U g base A m c ⟨cells,AT,AS,AI,cT,cS,cI,M⟩ hT htg hbw hSl hm
    have hB : Blk w g 119 cells := M.blk
    have cx := (M.core a (by omega)).trans hx
    have cy := (M.core b (by omega)).trans hy
    replace cx : cells[a]? = some (.int .i32 x) := cx
    replace cy : cells[b]? = some (.int .i32 y) := cy
    refine (do_two 22 f n word from_ a b _ (0) (0) (0) w g cells _ hT htg hB hn hc (by kernel_rfl) (Lib.hid fun W hT hB => two_shr 22 n f a b _ from_ x y R W g cells hT htg hB ha hb cx cy hxr.1 hxr.2 hyr.1 hyr.2 hs2' R0 R1 hnm)).mono ?_
    rintro e w' ⟨rfl,h⟩
    exact ⟨rfl,M.to_set cpuL_ok hbw (by omega) h.mw.1 h.mw.2 rfl⟩
  · rintro w U g base A m c ⟨cells,AT,AS,AI,cT,cS,cI,M⟩ hbw hSl hm
    have hB : Blk w g 89 cells := M.blk
    have cx := (M.core a (by omega)).trans hxq
    rw [lay_lo (by omega)] at cx
    have cy := (M.core b (by omega)).trans hyq
    rw [lay_lo (by omega)] at cy
    refine (rdo_two4 22 f n word from_ a b _ (0) (0) (0) (fun W w' => RW W g (cells.set a (.int .i32 (wrap32 R))) w') w g cells hB hn hc (by kernel_rfl) (Lib.hid fun W hbW => by
      rw [show (opName 22).toArray = #[115,104,114] by kernel_rfl]
      exact rtwo_shr 22 n f a b _ from_ x y W g cells (hB.below hbW hB.lt) ha hb cx cy hxr.1 hxr.2 hyr.1 hyr.2 (y % 32) R (and31_i y) s0 s1 hR R0 R1) (Lib.hid fun W w' X h h1 h2 => RW.fr_at hB h h1 h2)).mono ?_
    rintro e w' ⟨rfl,W,w1,hbW,hZ,hl,rfl⟩
    exact ⟨rfl,M.to_set refL_ok hbw (j := a) (by omega) (RW.after hB hbW hZ _).mw.1 (by rw [lay_lo (by omega)]; exact (RW.after hB hbW hZ _).mw.2) rfl⟩
set_option maxRecDepth 20000 in
set_option maxHeartbeats 1000000 in
theorem both_div (a b : Nat) (n f word from_ : Int) (mem : List UInt8) (K Kr : List Value) (out st inp : List Int) (hK : KR K Kr) (hn : In32 n) (hw : In32 word) (hf0 : 0 ≤ from_) (hf1 : from_ ≤ 1048576) (hst : ∀ x ∈ st,In32 x) (hin : ∀ x ∈ inp,In32 x) (hol : out.length ≤ 4096) (hsl : st.length ≤ 256) (hc : checkR 17 a b n f = 0)  : Both 17 a b n f word from_ mem K Kr out st inp := by
  have hr : regB 4 a b n = true := (show opShape 17 = 4 by kernel_rfl) ▸ (checkR_parts hc).2.1
  have hnm : opName 17 = [100,105,118] := by kernel_rfl
  have hsh : opShape 17 = 4 := by kernel_rfl
  have ha : a < 8 := by simp [regB,limA,limB,okLim] at hr; omega
  have hb : b < 8 := by simp [regB,limA,limB,okLim] at hr; omega
  obtain ⟨x,hxr,hx,hxq⟩ := hK.r a ha
  obtain ⟨y,hyr,hy,hyq⟩ := hK.r b hb
  by_cases h0 : y = 0
  · subst h0
    refine ⟨(6,2,0),out,st,inp,fun K' => K' = K,fun K' => K' = Kr,?_,hst,hin,hol,hsl,?_,?_⟩
    · rintro _ _ rfl rfl; exact hK
    · rintro w U g base A m c ⟨cells,AT,AS,AI,cT,cS,cI,M⟩ hT htg hbw hSl hm
      have hB : Blk w g 119 cells := M.blk
      have cx := (M.core a (by omega)).trans hx
      have cy := (M.core b (by omega)).trans hy
      replace cx : cells[a]? = some (.int .i32 x) := cx
      replace cy : cells[b]? = some (.int .i32 0) := cy
      refine (do_two 17 f n word from_ a b _ (6) (2) (0) w g cells _ hT htg hB hn hc (by kernel_rfl) (Lib.hid fun W hT hB => two_div0 17 n f a b _ from_ x W g cells hT htg hB ha hb cx cy hnm)).mono ?_
      rintro e w' ⟨rfl,h⟩
      exact ⟨rfl,M.to_same hbw h.mw.1 h.mw.2 rfl⟩
    · rintro w U g base A m c ⟨cells,AT,AS,AI,cT,cS,cI,M⟩ hbw hSl hm
      have hB : Blk w g 89 cells := M.blk
      have cx := (M.core a (by omega)).trans hxq
      rw [lay_lo (by omega)] at cx
      have cy := (M.core b (by omega)).trans hyq
      rw [lay_lo (by omega)] at cy
      refine (rdo_two4 17 f n word from_ a b _ (6) (2) (0) (fun W w' => RW W g cells w') w g cells hB hn hc (by kernel_rfl) (Lib.hid fun W hbW => by
        rw [show (opName 17).toArray = #[100,105,118] by kernel_rfl]
        exact rtwo_div0 17 n f a b _ from_ x W g cells (hB.below hbW hB.lt) ha hb cx cy) (Lib.hid fun W w' X h h1 h2 => RW.fr_at hB h h1 h2)).mono ?_
      rintro e w' ⟨rfl,W,w1,hbW,hZ,hl,rfl⟩
      exact ⟨rfl,M.to_same hbw (RW.after hB hbW hZ _).mw.1 (RW.after hB hbW hZ _).mw.2 rfl⟩
  by_cases h1 : y = -1
  · subst h1
    refine ⟨(0,0,0),out,st,inp,fun K' => K' = K.set a (.int .i32 (wrap32 (x.tdiv (-1)))),fun K' => K' = Kr.set a (.int .i32 (wrap32 (x.tdiv (-1)))),?_,hst,hin,hol,hsl,?_,?_⟩
    · rintro _ _ rfl rfl; exact hK.setR ha (in_wrap _)
    · rintro w U g base A m c ⟨cells,AT,AS,AI,cT,cS,cI,M⟩ hT htg hbw hSl hm
      have hB : Blk w g 119 cells := M.blk
      have cx := (M.core a (by omega)).trans hx
      have cy := (M.core b (by omega)).trans hy
      replace cx : cells[a]? = some (.int .i32 x) := cx
      replace cy : cells[b]? = some (.int .i32 (-1)) := cy
      refine (do_two 17 f n word from_ a b _ (0) (0) (0) w g cells (cells.set a (.int .i32 (wrap32 (x.tdiv (-1))))) hT htg hB hn hc (by kernel_rfl) (Lib.hid fun W hT hB => two_div 17 n f a b _ from_ x (-1) W g cells hT htg hB ha hb cx cy hxr.1 hxr.2 hyr.1 hyr.2 (by decide) (by decide) hnm)).mono ?_
      rintro e w' ⟨rfl,h⟩
      exact ⟨rfl,M.to_set cpuL_ok hbw (by omega) h.mw.1 h.mw.2 rfl⟩
    · rintro w U g base A m c ⟨cells,AT,AS,AI,cT,cS,cI,M⟩ hbw hSl hm
      have hB : Blk w g 89 cells := M.blk
      have cx := (M.core a (by omega)).trans hxq
      rw [lay_lo (by omega)] at cx
      have cy := (M.core b (by omega)).trans hyq
      rw [lay_lo (by omega)] at cy
      refine (rdo_two4 17 f n word from_ a b _ (0) (0) (0) (fun W w' => RW W g (cells.set a (.int .i32 (wrap32 (x.tdiv (-1))))) w') w g cells hB hn hc (by kernel_rfl) (Lib.hid fun W hbW => by
        rw [show (opName 17).toArray = #[100,105,118] by kernel_rfl]
        exact (show x.tdiv (-1) = -x by rw [Int.tdiv_neg,Int.tdiv_one]) ▸ rtwo_div1 17 n f a b _ from_ x W g cells (hB.below hbW hB.lt) ha hb cx cy hxr.1 hxr.2) (Lib.hid fun W w' X h h1 h2 => RW.fr_at hB h h1 h2)).mono ?_
      rintro e w' ⟨rfl,W,w1,hbW,hZ,hl,rfl⟩
      exact ⟨rfl,M.to_set refL_ok hbw (j := a) (by omega) (RW.after hB hbW hZ _).mw.1 (by rw [lay_lo (by omega)]; exact (RW.after hB hbW hZ _).mw.2) rfl⟩
  · refine ⟨(0,0,0),out,st,inp,fun K' => K' = K.set a (.int .i32 (wrap32 (x.tdiv y))),fun K' => K' = Kr.set a (.int .i32 (wrap32 (x.tdiv y))),?_,hst,hin,hol,hsl,?_,?_⟩
    · rintro _ _ rfl rfl; exact hK.setR ha (in_wrap _)
    · rintro w U g base A m c ⟨cells,AT,AS,AI,cT,cS,cI,M⟩ hT htg hbw hSl hm
      have hB : Blk w g 119 cells := M.blk
      have cx := (M.core a (by omega)).trans hx
      have cy := (M.core b (by omega)).trans hy
      replace cx : cells[a]? = some (.int .i32 x) := cx
      replace cy : cells[b]? = some (.int .i32 y) := cy
      refine (do_two 17 f n word from_ a b _ (0) (0) (0) w g cells (cells.set a (.int .i32 (wrap32 (x.tdiv y)))) hT htg hB hn hc (by kernel_rfl) (Lib.hid fun W hT hB => two_div 17 n f a b _ from_ x y W g cells hT htg hB ha hb cx cy hxr.1 hxr.2 hyr.1 hyr.2 (by simpa using h0) h0 hnm)).mono ?_
      rintro e w' ⟨rfl,h⟩
      exact ⟨rfl,M.to_set cpuL_ok hbw (by omega) h.mw.1 h.mw.2 rfl⟩
    · rintro w U g base A m c ⟨cells,AT,AS,AI,cT,cS,cI,M⟩ hbw hSl hm
      have hB : Blk w g 89 cells := M.blk
      have cx := (M.core a (by omega)).trans hxq
      rw [lay_lo (by omega)] at cx
      have cy := (M.core b (by omega)).trans hyq
      rw [lay_lo (by omega)] at cy
      refine (rdo_two4 17 f n word from_ a b _ (0) (0) (0) (fun W w' => RW W g (cells.set a (.int .i32 (wrap32 (x.tdiv y)))) w') w g cells hB hn hc (by kernel_rfl) (Lib.hid fun W hbW => by
        rw [show (opName 17).toArray = #[100,105,118] by kernel_rfl]
        exact rtwo_div 17 n f a b _ from_ x y W g cells (hB.below hbW hB.lt) ha hb cx cy hxr.1 hxr.2 hyr.1 hyr.2 h1 h0) (Lib.hid fun W w' X h h1 h2 => RW.fr_at hB h h1 h2)).mono ?_
      rintro e w' ⟨rfl,W,w1,hbW,hZ,hl,rfl⟩
      exact ⟨rfl,M.to_set refL_ok hbw (j := a) (by omega) (RW.after hB hbW hZ _).mw.1 (by rw [lay_lo (by omega)]; exact (RW.after hB hbW hZ _).mw.2) rfl⟩
end Go.Proofs.YthcjnkakfpmpbaaDoor
