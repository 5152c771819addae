import Derived.Test.YthcjnkakfpmpbaaDoorQ36
namespace Go.Proofs.YthcjnkakfpmpbaaDoor
open Go.RowKit
set_option linter.unusedVariables false
set_option linter.unusedSimpArgs false
set_option maxRecDepth 20000 in
set_option maxHeartbeats 1000000 in
theorem both_neg (a b : Nat) (n f word from_ : Int) (mem : List UInt8) (K Kr : List Value) (out st inp : List Int) (hK : KR K Kr) (hn : In32 n) (hw : In32 word) (hf0 : 0 ≤ from_) (hf1 : from_ ≤ 1048576) (hst : ∀ x ∈ st,In32 x) (hin : ∀ x ∈ inp,In32 x) (hol : out.length ≤ 4096) (hsl : st.length ≤ 256) (hc : checkR 9 a b n f = 0)  : Both 9 a b n f word from_ mem K Kr out st inp := by
  have hr : regB 2 a b n = true := (show opShape 9 = 2 by kernel_rfl) ▸ (checkR_parts hc).2.1
  have hnm : opName 9 = [110,101,103] := by kernel_rfl
  have hsh : opShape 9 = 2 := by kernel_rfl
  have ha : a < 8 := by simp [regB,limA,limB,okLim] at hr; omega
  obtain ⟨x,hxr,hx,hxq⟩ := hK.r a ha
  refine ⟨(0,0,0),out,st,inp,fun K' => K' = K.set a (.int .i32 (wrap32 (-x))),fun K' => K' = Kr.set a (.int .i32 (wrap32 (-x))),?_,hst,hin,hol,hsl,?_,?_⟩
  · rintro _ _ rfl rfl; exact hK.setR ha (in_wrap _)
  · rintro w U g base A m c ⟨cells,AT,AS,AI,cT,cS,cI,M⟩ hT htg hbw hSl hm
    have hB : Blk w g 119 cells := M.blk
    have cx := (M.core a (by omega)).trans hx
    replace cx : cells[a]? = some (.int .i32 x) := cx
    refine (do_one 9 f n word from_ a b _ (0) (0) (0) w g cells _ hT htg hB hn hc (by kernel_rfl) (Lib.hid fun W hT hB => one_neg 9 b n f a x W g cells hT htg hB ha cx hxr.1 hxr.2 hnm)).mono ?_
    rintro e w' ⟨rfl,h⟩
    exact ⟨rfl,M.to_set cpuL_ok hbw (by omega) h.mw.1 h.mw.2 rfl⟩
  · rintro w U g base A m c ⟨cells,AT,AS,AI,cT,cS,cI,M⟩ hbw hSl hm
    have hB : Blk w g 89 cells := M.blk
    have cx := (M.core a (by omega)).trans hxq
    rw [lay_lo (by omega)] at cx
    refine (rdo_oneA 2 (by decide) 9 f n word from_ a b _ (0) (0) (0) (fun W w' => RW W g (cells.set a (.int .i32 (wrap32 (-x)))) w') w g cells hB hn hc (by kernel_rfl) (Lib.hid fun W hbW => by
      rw [show (opName 9).toArray = #[110,101,103] by kernel_rfl]
      exact ro_neg 9 n f b word a x W g cells (hB.below hbW hB.lt) ha cx hxr.1 hxr.2) (Lib.hid fun W w' X h h1 h2 => RW.fr_at hB h h1 h2)).mono ?_
    rintro e w' ⟨rfl,W,w1,hbW,hZ,hl,rfl⟩
    exact ⟨rfl,M.to_set refL_ok hbw (j := a) (by omega) (RW.after hB hbW hZ _).mw.1 (by rw [lay_lo (by omega)]; exact (RW.after hB hbW hZ _).mw.2) rfl⟩
set_option maxRecDepth 20000 in
set_option maxHeartbeats 1000000 in
theorem both_not (a b : Nat) (n f word from_ : Int) (mem : List UInt8) (K Kr : List Value) (out st inp : List Int) (hK : KR K Kr) (hn : In32 n) (hw : In32 word) (hf0 : 0 ≤ from_) (hf1 : from_ ≤ 1048576) (hst : ∀ x ∈ st,In32 x) (hin : ∀ x ∈ inp,In32 x) (hol : out.length ≤ 4096) (hsl : st.length ≤ 256) (hc : checkR 10 a b n f = 0)  : Both 10 a b n f word from_ mem K Kr out st inp := by
  have hr : regB 2 a b n = true := (show opShape 10 = 2 by kernel_rfl) ▸ (checkR_parts hc).2.1
  have hnm : opName 10 = [110,111,116] := by kernel_rfl
  have hsh : opShape 10 = 2 := by kernel_rfl
  have ha : a < 8 := by simp [regB,limA,limB,okLim] at hr; omega
  obtain ⟨x,hxr,hx,hxq⟩ := hK.r a ha
  refine ⟨(0,0,0),out,st,inp,fun K' => K' = K.set a (.int .i32 (bits BinOp.xor IntKind.i32 (-1) x)),fun K' => K' = Kr.set a (.int .i32 (bits BinOp.xor IntKind.i32 (-1) x)),?_,hst,hin,hol,hsl,?_,?_⟩
  · rintro _ _ rfl rfl; exact hK.setR ha (in_bits _ _ _)
  · rintro w U g base A m c ⟨cells,AT,AS,AI,cT,cS,cI,M⟩ hT htg hbw hSl hm
    have hB : Blk w g 119 cells := M.blk
    have cx := (M.core a (by omega)).trans hx
    replace cx : cells[a]? = some (.int .i32 x) := cx
    refine (do_one 10 f n word from_ a b _ (0) (0) (0) w g cells _ hT htg hB hn hc (by kernel_rfl) (Lib.hid fun W hT hB => one_not 10 b n f a x W g cells hT htg hB ha cx hxr.1 hxr.2 hnm)).mono ?_
    rintro e w' ⟨rfl,h⟩
    exact ⟨rfl,M.to_set cpuL_ok hbw (by omega) h.mw.1 h.mw.2 rfl⟩
  · rintro w U g base A m c ⟨cells,AT,AS,AI,cT,cS,cI,M⟩ hbw hSl hm
    have hB : Blk w g 89 cells := M.blk
    have cx := (M.core a (by omega)).trans hxq
    rw [lay_lo (by omega)] at cx
    refine (rdo_oneA 2 (by decide) 10 f n word from_ a b _ (0) (0) (0) (fun W w' => RW W g (cells.set a (.int .i32 (bits BinOp.xor IntKind.i32 (-1) x))) w') w g cells hB hn hc (by kernel_rfl) (Lib.hid fun W hbW => by
      rw [show (opName 10).toArray = #[110,111,116] by kernel_rfl]
      exact ro_not 10 n f b word a x W g cells (hB.below hbW hB.lt) ha cx hxr.1 hxr.2) (Lib.hid fun W w' X h h1 h2 => RW.fr_at hB h h1 h2)).mono ?_
    rintro e w' ⟨rfl,W,w1,hbW,hZ,hl,rfl⟩
    exact ⟨rfl,M.to_set refL_ok hbw (j := a) (by omega) (RW.after hB hbW hZ _).mw.1 (by rw [lay_lo (by omega)]; exact (RW.after hB hbW hZ _).mw.2) rfl⟩
set_option maxRecDepth 20000 in
set_option maxHeartbeats 1000000 in
theorem both_jr (a b : Nat) (n f word from_ : Int) (mem : List UInt8) (K Kr : List Value) (out st inp : List Int) (hK : KR K Kr) (hn : In32 n) (hw : In32 word) (hf0 : 0 ≤ from_) (hf1 : from_ ≤ 1048576) (hst : ∀ x ∈ st,In32 x) (hin : ∀ x ∈ inp,In32 x) (hol : out.length ≤ 4096) (hsl : st.length ≤ 256) (hc : checkR 8 a b n f = 0)  : Both 8 a b n f word from_ mem K Kr out st inp := by
  have hr : regB 2 a b n = true := (show opShape 8 = 2 by kernel_rfl) ▸ (checkR_parts hc).2.1
  have hnm : opName 8 = [106,114] := by kernel_rfl
  have hsh : opShape 8 = 2 := by kernel_rfl
  have ha : a < 8 := by simp [regB,limA,limB,okLim] at hr; omega
  obtain ⟨x,hxr,hx,hxq⟩ := hK.r a ha
  refine ⟨(4,0,(x % 4294967296)),out,st,inp,fun K' => K' = K,fun K' => K' = Kr,?_,hst,hin,hol,hsl,?_,?_⟩
  · rintro _ _ rfl rfl; exact hK
  · rintro w U g base A m c ⟨cells,AT,AS,AI,cT,cS,cI,M⟩ hT htg hbw hSl hm
    have hB : Blk w g 119 cells := M.blk
    have cx := (M.core a (by omega)).trans hx
    replace cx : cells[a]? = some (.int .i32 x) := cx
    refine (do_one 8 f n word from_ a b _ (4) (0) ((x % 4294967296)) w g cells _ hT htg hB hn hc (by kernel_rfl) (Lib.hid fun W hT hB => one_jr 8 b n f a W g cells hT htg hB ha x cx hxr.1 hxr.2 hnm)).mono ?_
    rintro e w' ⟨rfl,h⟩
    exact ⟨rfl,M.to_same hbw h.mw.1 h.mw.2 rfl⟩
  · rintro w U g base A m c ⟨cells,AT,AS,AI,cT,cS,cI,M⟩ hbw hSl hm
    have hB : Blk w g 89 cells := M.blk
    have cx := (M.core a (by omega)).trans hxq
    rw [lay_lo (by omega)] at cx
    refine (rdo_oneA 2 (by decide) 8 f n word from_ a b _ (4) (0) ((x % 4294967296)) (fun W w' => RW W g cells w') w g cells hB hn hc (by kernel_rfl) (Lib.hid fun W hbW => by
      rw [show (opName 8).toArray = #[106,114] by kernel_rfl]
      exact ro_jr 8 n f b word a x W g cells (hB.below hbW hB.lt) ha cx hxr.1 hxr.2) (Lib.hid fun W w' X h h1 h2 => RW.fr_at hB h h1 h2)).mono ?_
    rintro e w' ⟨rfl,W,w1,hbW,hZ,hl,rfl⟩
    exact ⟨rfl,M.to_same hbw (RW.after hB hbW hZ _).mw.1 (RW.after hB hbW hZ _).mw.2 rfl⟩
set_option maxRecDepth 20000 in
set_option maxHeartbeats 1000000 in
theorem both_print (a b : Nat) (n f word from_ : Int) (mem : List UInt8) (K Kr : List Value) (out st inp : List Int) (hK : KR K Kr) (hn : In32 n) (hw : In32 word) (hf0 : 0 ≤ from_) (hf1 : from_ ≤ 1048576) (hst : ∀ x ∈ st,In32 x) (hin : ∀ x ∈ inp,In32 x) (hol : out.length ≤ 4096) (hsl : st.length ≤ 256) (hc : checkR 4 a b n f = 0)  : Both 4 a b n f word from_ mem K Kr out st inp := by
  have hr : regB 2 a b n = true := (show opShape 4 = 2 by kernel_rfl) ▸ (checkR_parts hc).2.1
  have hnm : opName 4 = [112,114,105,110,116] := by kernel_rfl
  have hsh : opShape 4 = 2 := by kernel_rfl
  have ha : a < 8 := by simp [regB,limA,limB,okLim] at hr; omega
  obtain ⟨x,hxr,hx,hxq⟩ := hK.r a ha
  by_cases hl : out.length < 4096
  · skip
    refine ⟨(0,0,0),out ++ [x],st,inp,fun K' => K' = K,fun K' => K' = Kr,?_,hst,hin,(by simp; omega),hsl,?_,?_⟩
    · rintro _ _ rfl rfl; exact hK
    · rintro w U g base A m c ⟨cells,AT,AS,AI,cT,cS,cI,M⟩ hT htg hbw hSl hm
      have hB : Blk w g 119 cells := M.blk
      have cx := (M.core a (by omega)).trans hx
      replace cx : cells[a]? = some (.int .i32 x) := cx
      have eF : cells[269]? = some (.slice AT out.length cT) := M.eT
      have hgo : Value.ownBlock (.slice AT out.length cT) ≠ some g := fun e => (M.uT g e).2 rfl
      refine (do_oneR 4 f n word from_ a b _ 269 w g base cells AT cT out.length (is32 out) x hB M.rT hgo hT htg hn hc (by kernel_rfl) (Lib.hid fun W hT2 hB2 hr2 hsz => one_printR 4 b n f a x W g base cells AT cT _ (is32 out) hB2 eF hr2 hgo hT2 (Nat.le_trans hbw hsz) ha cx hnm hl)).mono ?_
      rintro e w' ⟨rfl,hp,A',c',h1,h2,h3⟩
      exact ⟨rfl,M.to_print cpuL_ok hbw x A' c' hp h1 h2 h3 rfl⟩
    · rintro w U g base A m c ⟨cells,AT,AS,AI,cT,cS,cI,M⟩ hbw hSl hm
      have hB : Blk w g 89 cells := M.blk
      have cx := (M.core a (by omega)).trans hxq
      rw [lay_lo (by omega)] at cx
      have eF : cells[269]? = some (.slice AT out.length cT) := M.eT
      have hgo : Value.ownBlock (.slice AT out.length cT) ≠ some g := fun e => (M.uT g e).2 rfl
      refine (rdo_oneA 2 (by decide) 4 f n word from_ a b _ (0) (0) (0) (fun W w' => GrowR W g base 269 cells AT cT out.length (is32 out) x w') w g cells hB hn hc (by kernel_rfl) (Lib.hid fun W hbW => by
        rw [show (opName 4).toArray = #[112,114,105,110,116] by kernel_rfl]
        exact ro_print 4 n f b word a base AT cT _ (is32 out) x W g cells (hB.below hbW hB.lt) ha cx eF (M.rT.keep fun k e => hbW.block k (M.rT.lt k e).2) hgo (Nat.le_trans hbw hbW.size) hl) (Lib.hid fun W w' X h h1 h2 => GrowR.fr_at hB M.rT h h1 h2)).mono ?_
      rintro e w' ⟨rfl,W,w1,hbW,hZ,hlW,rfl⟩
      obtain ⟨hp,A',c',h1,h2,h3⟩ := GrowR.after hB M.rT hbW hlW hZ (.int .i64 0) (.int .i64 0) (.int .u32 0)
      exact ⟨rfl,M.to_print refL_ok hbw x A' c' hp h1 h2 h3 rfl⟩
  · skip
    refine ⟨(6,7,0),out,st,inp,fun K' => K' = K,fun K' => K' = Kr,?_,hst,hin,hol,hsl,?_,?_⟩
    · rintro _ _ rfl rfl; exact hK
    · rintro w U g base A m c ⟨cells,AT,AS,AI,cT,cS,cI,M⟩ hT htg hbw hSl hm
      have hB : Blk w g 119 cells := M.blk
      have cx := (M.core a (by omega)).trans hx
      replace cx : cells[a]? = some (.int .i32 x) := cx
      have eF : cells[269]? = some (.slice AT out.length cT) := M.eT
      have hgo : Value.ownBlock (.slice AT out.length cT) ≠ some g := fun e => (M.uT g e).2 rfl
      refine (do_one 4 f n word from_ a b _ (6) (7) (0) w g cells _ hT htg hB hn hc (by kernel_rfl) (Lib.hid fun W hT hB => (one_print_full 4 b n f a x W g cells AT cT _ AS cS 0 hB eF hT ha cx hnm (by omega)).mono fun e w' h => ⟨h.1,(CW.start hB).below h.2⟩)).mono ?_
      rintro e w' ⟨rfl,h⟩
      exact ⟨rfl,M.to_same hbw h.mw.1 h.mw.2 rfl⟩
    · rintro w U g base A m c ⟨cells,AT,AS,AI,cT,cS,cI,M⟩ hbw hSl hm
      have hB : Blk w g 89 cells := M.blk
      have cx := (M.core a (by omega)).trans hxq
      rw [lay_lo (by omega)] at cx
      have eF : cells[269]? = some (.slice AT out.length cT) := M.eT
      have hgo : Value.ownBlock (.slice AT out.length cT) ≠ some g := fun e => (M.uT g e).2 rfl
      refine (rdo_oneA 2 (by decide) 4 f n word from_ a b _ (6) (7) (0) (fun W w' => RW W g cells w') w g cells hB hn hc (by kernel_rfl) (Lib.hid fun W hbW => by
        rw [show (opName 4).toArray = #[112,114,105,110,116] by kernel_rfl]
        exact ro_print_full 4 n f b word a AT _ cT W g cells (hB.below hbW hB.lt) eF (by omega)) (Lib.hid fun W w' X h h1 h2 => RW.fr_at hB h h1 h2)).mono ?_
      rintro e w' ⟨rfl,W,w1,hbW,hZ,hl,rfl⟩
      exact ⟨rfl,M.to_same hbw (RW.after hB hbW hZ _).mw.1 (RW.after hB hbW hZ _).mw.2 rfl⟩
set_option maxRecDepth 20000 in
set_option maxHeartbeats 1000000 in
theorem both_push (a b : Nat) (n f word from_ : Int) (mem : List UInt8) (K Kr : List Value) (out st inp : List Int) (hK : KR K Kr) (hn : In32 n) (hw : In32 word) (hf0 : 0 ≤ from_) (hf1 : from_ ≤ 1048576) (hst : ∀ x ∈ st,In32 x) (hin : ∀ x ∈ inp,In32 x) (hol : out.length ≤ 4096) (hsl : st.length ≤ 256) (hc : checkR 6 a b n f = 0)  : Both 6 a b n f word from_ mem K Kr out st inp := by
  have hr : regB 2 a b n = true := (show opShape 6 = 2 by kernel_rfl) ▸ (checkR_parts hc).2.1
  have hnm : opName 6 = [112,117,115,104] := by kernel_rfl
  have hsh : opShape 6 = 2 := by kernel_rfl
  have ha : a < 8 := by simp [regB,limA,limB,okLim] at hr; omega
  obtain ⟨x,hxr,hx,hxq⟩ := hK.r a ha
  by_cases hl : st.length < 256
  · skip
    refine ⟨(0,0,0),out,st ++ [x],inp,fun K' => K' = K,fun K' => K' = Kr,?_,(fun y hy => (List.mem_append.1 hy).elim (hst y) fun h => by rw [List.mem_singleton.1 h]; exact hxr),hin,hol,(by simp; omega),?_,?_⟩
    · rintro _ _ rfl rfl; exact hK
    · rintro w U g base A m c ⟨cells,AT,AS,AI,cT,cS,cI,M⟩ hT htg hbw hSl hm
      have hB : Blk w g 119 cells := M.blk
      have cx := (M.core a (by omega)).trans hx
      replace cx : cells[a]? = some (.int .i32 x) := cx
      have eF : cells[268]? = some (.slice AS st.length cS) := M.eS
      have hgo : Value.ownBlock (.slice AS st.length cS) ≠ some g := fun e => (M.uS g e).2 rfl
      refine (do_oneR 6 f n word from_ a b _ 268 w g base cells AS cS st.length (is32 st) x hB M.rS hgo hT htg hn hc (by kernel_rfl) (Lib.hid fun W hT2 hB2 hr2 hsz => one_pushR 6 b n f a x W g base cells AS cS _ (is32 st) hB2 eF hr2 hgo hT2 (Nat.le_trans hbw hsz) ha cx hnm hl)).mono ?_
      rintro e w' ⟨rfl,hp,A',c',h1,h2,h3⟩
      exact ⟨rfl,M.to_push cpuL_ok hbw x A' c' hp h1 h2 h3 rfl⟩
    · rintro w U g base A m c ⟨cells,AT,AS,AI,cT,cS,cI,M⟩ hbw hSl hm
      have hB : Blk w g 89 cells := M.blk
      have cx := (M.core a (by omega)).trans hxq
      rw [lay_lo (by omega)] at cx
      have eF : cells[12]? = some (.slice AS st.length cS) := M.eS
      have hgo : Value.ownBlock (.slice AS st.length cS) ≠ some g := fun e => (M.uS g e).2 rfl
      refine (rdo_oneA 2 (by decide) 6 f n word from_ a b _ (0) (0) (0) (fun W w' => GrowR W g base 12 cells AS cS st.length (is32 st) x w') w g cells hB hn hc (by kernel_rfl) (Lib.hid fun W hbW => by
        rw [show (opName 6).toArray = #[112,117,115,104] by kernel_rfl]
        exact ro_push 6 n f b word a base AS cS _ (is32 st) x W g cells (hB.below hbW hB.lt) ha cx eF (M.rS.keep fun k e => hbW.block k (M.rS.lt k e).2) hgo (Nat.le_trans hbw hbW.size) hl) (Lib.hid fun W w' X h h1 h2 => GrowR.fr_at hB M.rS h h1 h2)).mono ?_
      rintro e w' ⟨rfl,W,w1,hbW,hZ,hlW,rfl⟩
      obtain ⟨hp,A',c',h1,h2,h3⟩ := GrowR.after hB M.rS hbW hlW hZ (.int .i64 0) (.int .i64 0) (.int .u32 0)
      exact ⟨rfl,M.to_push refL_ok hbw x A' c' hp h1 h2 h3 rfl⟩
  · skip
    refine ⟨(6,4,0),out,st,inp,fun K' => K' = K,fun K' => K' = Kr,?_,hst,hin,hol,hsl,?_,?_⟩
    · rintro _ _ rfl rfl; exact hK
    · rintro w U g base A m c ⟨cells,AT,AS,AI,cT,cS,cI,M⟩ hT htg hbw hSl hm
      have hB : Blk w g 119 cells := M.blk
      have cx := (M.core a (by omega)).trans hx
      replace cx : cells[a]? = some (.int .i32 x) := cx
      have eF : cells[268]? = some (.slice AS st.length cS) := M.eS
      have hgo : Value.ownBlock (.slice AS st.length cS) ≠ some g := fun e => (M.uS g e).2 rfl
      refine (do_one 6 f n word from_ a b _ (6) (4) (0) w g cells _ hT htg hB hn hc (by kernel_rfl) (Lib.hid fun W hT hB => (one_push_full 6 b n f a x W g cells AT cT 0 AS cS _ hB eF hT ha cx hnm (by omega)).mono fun e w' h => ⟨h.1,(CW.start hB).below h.2⟩)).mono ?_
      rintro e w' ⟨rfl,h⟩
      exact ⟨rfl,M.to_same hbw h.mw.1 h.mw.2 rfl⟩
    · rintro w U g base A m c ⟨cells,AT,AS,AI,cT,cS,cI,M⟩ hbw hSl hm
      have hB : Blk w g 89 cells := M.blk
      have cx := (M.core a (by omega)).trans hxq
      rw [lay_lo (by omega)] at cx
      have eF : cells[12]? = some (.slice AS st.length cS) := M.eS
      have hgo : Value.ownBlock (.slice AS st.length cS) ≠ some g := fun e => (M.uS g e).2 rfl
      refine (rdo_oneA 2 (by decide) 6 f n word from_ a b _ (6) (4) (0) (fun W w' => RW W g cells w') w g cells hB hn hc (by kernel_rfl) (Lib.hid fun W hbW => by
        rw [show (opName 6).toArray = #[112,117,115,104] by kernel_rfl]
        exact ro_push_full 6 n f b word a AS _ cS W g cells (hB.below hbW hB.lt) eF (by omega)) (Lib.hid fun W w' X h h1 h2 => RW.fr_at hB h h1 h2)).mono ?_
      rintro e w' ⟨rfl,W,w1,hbW,hZ,hl,rfl⟩
      exact ⟨rfl,M.to_same hbw (RW.after hB hbW hZ _).mw.1 (RW.after hB hbW hZ _).mw.2 rfl⟩
set_option maxRecDepth 20000 in
set_option maxHeartbeats 1000000 in
theorem both_pop (a b : Nat) (n f word from_ : Int) (mem : List UInt8) (K Kr : List Value) (out st inp : List Int) (hK : KR K Kr) (hn : In32 n) (hw : In32 word) (hf0 : 0 ≤ from_) (hf1 : from_ ≤ 1048576) (hst : ∀ x ∈ st,In32 x) (hin : ∀ x ∈ inp,In32 x) (hol : out.length ≤ 4096) (hsl : st.length ≤ 256) (hc : checkR 7 a b n f = 0)  : Both 7 a b n f word from_ mem K Kr out st inp := by
  have hr : regB 2 a b n = true := (show opShape 7 = 2 by kernel_rfl) ▸ (checkR_parts hc).2.1
  have hnm : opName 7 = [112,111,112] := by kernel_rfl
  have hsh : opShape 7 = 2 := by kernel_rfl
  have ha : a < 8 := by simp [regB,limA,limB,okLim] at hr; omega
  obtain ⟨x,hxr,hx,hxq⟩ := hK.r a ha
  rcases List.eq_nil_or_concat st with hse | ⟨s0,v,hse⟩
  · subst hse
    refine ⟨(6,4,0),out,[],inp,fun K' => K' = K,fun K' => K' = Kr,?_,hst,hin,hol,hsl,?_,?_⟩
    · rintro _ _ rfl rfl; exact hK
    · rintro w U g base A m c ⟨cells,AT,AS,AI,cT,cS,cI,M⟩ hT htg hbw hSl hm
      have hB : Blk w g 119 cells := M.blk
      have cx := (M.core a (by omega)).trans hx
      replace cx : cells[a]? = some (.int .i32 x) := cx
      have eF : cells[268]? = some (.slice AS 0 cS) := M.eS
      refine (do_one 7 f n word from_ a b _ (6) (4) (0) w g cells _ hT htg hB hn hc (by kernel_rfl) (Lib.hid fun W hT hB => one_pop0 7 b n f a W g cells hT htg hB ha AS cS eF hnm)).mono ?_
      rintro e w' ⟨rfl,h⟩
      exact ⟨rfl,M.to_same hbw h.mw.1 h.mw.2 rfl⟩
    · rintro w U g base A m c ⟨cells,AT,AS,AI,cT,cS,cI,M⟩ hbw hSl hm
      have hB : Blk w g 89 cells := M.blk
      have cx := (M.core a (by omega)).trans hxq
      rw [lay_lo (by omega)] at cx
      have eF : cells[12]? = some (.slice AS 0 cS) := M.eS
      refine (rdo_oneA 2 (by decide) 7 f n word from_ a b _ (6) (4) (0) (fun W w' => RW W g cells w') w g cells hB hn hc (by kernel_rfl) (Lib.hid fun W hbW => by
        rw [show (opName 7).toArray = #[112,111,112] by kernel_rfl]
        exact ro_pop0 7 n f b word a AS 0 cS W g cells (hB.below hbW hB.lt) eF rfl) (Lib.hid fun W w' X h h1 h2 => RW.fr_at hB h h1 h2)).mono ?_
      rintro e w' ⟨rfl,W,w1,hbW,hZ,hl,rfl⟩
      exact ⟨rfl,M.to_same hbw (RW.after hB hbW hZ _).mw.1 (RW.after hB hbW hZ _).mw.2 rfl⟩
  · rw [List.concat_eq_append] at hse
    subst hse
    have hv : In32 v := hst v (by simp)
    refine ⟨(0,0,0),out,s0,inp,fun K' => K' = K.set a (.int .i32 v),fun K' => K' = Kr.set a (.int .i32 v),?_,(fun y hy => hst y (by simp [hy])),hin,hol,(by simp at hsl; omega),?_,?_⟩
    · rintro _ _ rfl rfl; exact hK.setR ha hv
    · rintro w U g base A m c ⟨cells,AT,AS,AI,cT,cS,cI,M⟩ hT htg hbw hSl hm
      have hB : Blk w g 119 cells := M.blk
      have cx := (M.core a (by omega)).trans hx
      replace cx : cells[a]? = some (.int .i32 x) := cx
      have hlen : (s0 ++ [v]).length = s0.length + 1 := by simp
      have hcap := M.rS.cap
      obtain ⟨b',o',hAS,hb1,hb2,hcell⟩ := M.rS.at_ (k := s0.length) (u := .int .i32 v) (by rw [is32_append,List.getElem?_append_right (by rw [is32_length]; omega),is32_length,Nat.sub_self]; rfl)
      have hbg : b' ≠ g := (M.uS b' (by rw [hAS]; rfl)).2
      subst hAS
      rw [hlen] at hcap
      have eF : cells[268]? = some (.slice (some ⟨b',o',none⟩) (s0.length + 1) cS) := by have := M.eS; rw [hlen] at this; exact this
      refine (do_oneW 7 f n word from_ a b _ (0) (0) (0) w g cells _ hT htg hB hn hc (by kernel_rfl) (Lib.hid fun W hC hT2 hB2 => one_pop 7 b n f a W g cells hT2 htg hB2 ha _ cx b' o' s0.length cS v eF ((World.cell?_of_block (w := w) (a := ⟨b',o' + s0.length,none⟩) (hC.fr.block b' hb2 hbg)).trans hcell) hbg hcap _ (Lib.hid rfl) hnm)).mono ?_
      rintro e w' ⟨rfl,h⟩
      exact ⟨rfl,M.to_pop cpuL_ok hbw (by omega) h.mw.1 h.mw.2 rfl⟩
    · rintro w U g base A m c ⟨cells,AT,AS,AI,cT,cS,cI,M⟩ hbw hSl hm
      have hB : Blk w g 89 cells := M.blk
      have cx := (M.core a (by omega)).trans hxq
      rw [lay_lo (by omega)] at cx
      have hlen : (s0 ++ [v]).length = s0.length + 1 := by simp
      have hcap := M.rS.cap
      obtain ⟨b',o',hAS,hb1,hb2,hcell⟩ := M.rS.at_ (k := s0.length) (u := .int .i32 v) (by rw [is32_append,List.getElem?_append_right (by rw [is32_length]; omega),is32_length,Nat.sub_self]; rfl)
      have hbg : b' ≠ g := (M.uS b' (by rw [hAS]; rfl)).2
      subst hAS
      rw [hlen] at hcap
      have eF : cells[12]? = some (.slice (some ⟨b',o',none⟩) (s0.length + 1) cS) := by have := M.eS; rw [hlen] at this; exact this
      refine (rdo_oneA 2 (by decide) 7 f n word from_ a b _ (0) (0) (0) (fun W w' => RW W g ((cells.set a (.int .i32 v)).set 12 (.slice (some ⟨b',o',none⟩) s0.length cS)) w') w g cells hB hn hc (by kernel_rfl) (Lib.hid fun W hbW => by
        rw [show (opName 7).toArray = #[112,111,112] by kernel_rfl]
        exact ro_pop 7 n f b word a b' o' s0.length cS v _ W g cells (hB.below hbW hB.lt) ha cx eF ((hbW.cell (p := ⟨b',o' + s0.length,none⟩) hb2).trans hcell) hbg hcap.1 hcap.2) (Lib.hid fun W w' X h h1 h2 => RW.fr_at hB h h1 h2)).mono ?_
      rintro e w' ⟨rfl,W,w1,hbW,hZ,hl,rfl⟩
      exact ⟨rfl,M.to_pop refL_ok hbw (j := a) (by omega) (RW.after hB hbW hZ _).mw.1 (by rw [lay_lo (by omega)]; exact (RW.after hB hbW hZ _).mw.2) rfl⟩
set_option maxRecDepth 20000 in
set_option maxHeartbeats 1000000 in
theorem both_in (a b : Nat) (n f word from_ : Int) (mem : List UInt8) (K Kr : List Value) (out st inp : List Int) (hK : KR K Kr) (hn : In32 n) (hw : In32 word) (hf0 : 0 ≤ from_) (hf1 : from_ ≤ 1048576) (hst : ∀ x ∈ st,In32 x) (hin : ∀ x ∈ inp,In32 x) (hol : out.length ≤ 4096) (hsl : st.length ≤ 256) (hc : checkR 5 a b n f = 0)  : Both 5 a b n f word from_ mem K Kr out st inp := by
  have hr : regB 2 a b n = true := (show opShape 5 = 2 by kernel_rfl) ▸ (checkR_parts hc).2.1
  have hnm : opName 5 = [105,110] := by kernel_rfl
  have hsh : opShape 5 = 2 := by kernel_rfl
  have ha : a < 8 := by simp [regB,limA,limB,okLim] at hr; omega
  obtain ⟨x,hxr,hx,hxq⟩ := hK.r a ha
  rcases inp with _ | ⟨v,i0⟩
  · skip
    refine ⟨(6,6,0),out,st,[],fun K' => K' = K,fun K' => K' = Kr,?_,hst,hin,hol,hsl,?_,?_⟩
    · rintro _ _ rfl rfl; exact hK
    · rintro w U g base A m c ⟨cells,AT,AS,AI,cT,cS,cI,M⟩ hT htg hbw hSl hm
      have hB : Blk w g 119 cells := M.blk
      have cx := (M.core a (by omega)).trans hx
      replace cx : cells[a]? = some (.int .i32 x) := cx
      have eF : cells[270]? = some (.slice AI 0 cI) := M.eI
      refine (do_one 5 f n word from_ a b _ (6) (6) (0) w g cells _ hT htg hB hn hc (by kernel_rfl) (Lib.hid fun W hT hB => one_in0 5 b n f a W g cells hT htg hB ha AI cI eF hnm)).mono ?_
      rintro e w' ⟨rfl,h⟩
      exact ⟨rfl,M.to_same hbw h.mw.1 h.mw.2 rfl⟩
    · rintro w U g base A m c ⟨cells,AT,AS,AI,cT,cS,cI,M⟩ hbw hSl hm
      have hB : Blk w g 89 cells := M.blk
      have cx := (M.core a (by omega)).trans hxq
      rw [lay_lo (by omega)] at cx
      have eF : cells[270]? = some (.slice AI 0 cI) := M.eI
      refine (rdo_oneA 2 (by decide) 5 f n word from_ a b _ (6) (6) (0) (fun W w' => RW W g cells w') w g cells hB hn hc (by kernel_rfl) (Lib.hid fun W hbW => by
        rw [show (opName 5).toArray = #[105,110] by kernel_rfl]
        exact ro_in0 5 n f b word a AI 0 cI W g cells (hB.below hbW hB.lt) eF rfl) (Lib.hid fun W w' X h h1 h2 => RW.fr_at hB h h1 h2)).mono ?_
      rintro e w' ⟨rfl,W,w1,hbW,hZ,hl,rfl⟩
      exact ⟨rfl,M.to_same hbw (RW.after hB hbW hZ _).mw.1 (RW.after hB hbW hZ _).mw.2 rfl⟩
  · have hv : In32 v := hin v (by simp)
    refine ⟨(0,0,0),out,st,i0,fun K' => K' = K.set a (.int .i32 v),fun K' => K' = Kr.set a (.int .i32 v),?_,hst,(fun y hy => hin y (by simp [hy])),hol,hsl,?_,?_⟩
    · rintro _ _ rfl rfl; exact hK.setR ha hv
    · rintro w U g base A m c ⟨cells,AT,AS,AI,cT,cS,cI,M⟩ hT htg hbw hSl hm
      have hB : Blk w g 119 cells := M.blk
      have cx := (M.core a (by omega)).trans hx
      replace cx : cells[a]? = some (.int .i32 x) := cx
      have hcap := M.rI.cap
      rw [List.length_cons] at hcap
      obtain ⟨b',o',hAI,hb1,hb2,hcell⟩ := M.rI.at_ (k := 0) (u := .int .i32 v) rfl
      have hbg : b' ≠ g := (M.uI b' (by rw [hAI]; rfl)).2
      subst hAI
      have hrow := M.rI.rest
      rw [Option.map_some,add_flat] at hrow
      have hown : ∀ k,Value.ownBlock (.slice (if cI = 1 then some ⟨b',o',none⟩ else some ⟨b',o' + 1,none⟩) i0.length (cI - 1)) = some k → Value.ownBlock (.slice (some ⟨b',o',none⟩) (v :: i0).length cI) = some k := fun k e => by rw [← e]; split <;> rfl
      have eF : cells[270]? = some (.slice (some ⟨b',o',none⟩) (i0.length + 1) cI) := M.eI
      refine (do_oneW 5 f n word from_ a b _ (0) (0) (0) w g cells _ hT htg hB hn hc (by kernel_rfl) (Lib.hid fun W hC hT2 hB2 => one_in 5 b n f a W g cells hT2 htg hB2 ha _ cx b' o' i0.length cI v eF ((World.cell?_of_block (w := w) (a := ⟨b',o',none⟩) (hC.fr.block b' hb2 hbg)).trans hcell) hbg hcap _ (Lib.hid rfl) hnm)).mono ?_
      rintro e w' ⟨rfl,h⟩
      exact ⟨rfl,M.to_in cpuL_ok hbw (by omega) _ _ h.mw.1 h.mw.2 hrow hown rfl⟩
    · rintro w U g base A m c ⟨cells,AT,AS,AI,cT,cS,cI,M⟩ hbw hSl hm
      have hB : Blk w g 89 cells := M.blk
      have cx := (M.core a (by omega)).trans hxq
      rw [lay_lo (by omega)] at cx
      have hcap := M.rI.cap
      rw [List.length_cons] at hcap
      obtain ⟨b',o',hAI,hb1,hb2,hcell⟩ := M.rI.at_ (k := 0) (u := .int .i32 v) rfl
      have hbg : b' ≠ g := (M.uI b' (by rw [hAI]; rfl)).2
      subst hAI
      have hrow := M.rI.rest
      rw [Option.map_some,add_flat] at hrow
      have hown : ∀ k,Value.ownBlock (.slice (if cI = 1 then some ⟨b',o',none⟩ else some ⟨b',o' + 1,none⟩) i0.length (cI - 1)) = some k → Value.ownBlock (.slice (some ⟨b',o',none⟩) (v :: i0).length cI) = some k := fun k e => by rw [← e]; split <;> rfl
      have eF : cells[270]? = some (.slice (some ⟨b',o',none⟩) (i0.length + 1) cI) := M.eI
      have hin1 : ∀ W,Below w.heap.size w W → Calls Tryd.prog 70 #[.pointer (some ⟨g,0,none⟩),.string ⟨#[105,110]⟩,.agg #[.int .i64 5,.int .i64 a,.int .i64 b,.int .i32 n,.int .i64 f],.int .i32 word] W fun e w' => e = .returned (.agg #[.int .i64 0,.int .i64 0,.int .u32 0]) ∧ RW W g ((cells.set a (.int .i32 v)).set 270 (.slice (if cI = 1 then some ⟨b',o',none⟩ else some ⟨b',o' + 1,none⟩) i0.length (cI - 1))) w' := fun W hbW => by
        by_cases hc1 : cI = 1
        · subst hc1
          obtain hz : i0.length = 0 := by omega
          rw [hz] at eF ⊢
          exact ro_in1 5 n f b word a b' o' v _ W g cells (hB.below hbW hB.lt) ha cx eF ((hbW.cell (p := ⟨b',o',none⟩) hb2).trans hcell) hbg
        · rw [if_neg hc1]
          exact ro_in2 5 n f b word a b' o' i0.length cI v _ W g cells (hB.below hbW hB.lt) ha cx eF ((hbW.cell (p := ⟨b',o',none⟩) hb2).trans hcell) hbg hcap.1 hcap.2 hc1
      refine (rdo_oneA 2 (by decide) 5 f n word from_ a b _ (0) (0) (0) (fun W w' => RW W g ((cells.set a (.int .i32 v)).set 270 (.slice (if cI = 1 then some ⟨b',o',none⟩ else some ⟨b',o' + 1,none⟩) i0.length (cI - 1))) w') w g cells hB hn hc (by kernel_rfl) (Lib.hid fun W hbW => by
        rw [show (opName 5).toArray = #[105,110] by kernel_rfl]
        exact hin1 W hbW) (Lib.hid fun W w' X h h1 h2 => RW.fr_at hB h h1 h2)).mono ?_
      rintro e w' ⟨rfl,W,w1,hbW,hZ,hl,rfl⟩
      exact ⟨rfl,M.to_in refL_ok hbw (j := a) (by omega) _ _ (RW.after hB hbW hZ _).mw.1 (by rw [lay_lo (by omega)]; exact (RW.after hB hbW hZ _).mw.2) hrow hown rfl⟩
end Go.Proofs.YthcjnkakfpmpbaaDoor
