import Derived.Test.YtihdbaehaiaiiaaX12
import Derived.Test.YtihdbaehaiaiiaaDenB
set_option linter.unusedSimpArgs false
section
set_option linter.unusedVariables false
set_option maxRecDepth 100000
namespace Go.Den
def enc61 (y : (Int × Bool)) : V := .tup [.sc (.int .u32 y.1), .sc (.bool y.2)]
noncomputable def tree61 (x0 : Int) : R := (cond (cmpB x0) (some (enc61 ((cmpN x0, true)), [])) (some (enc61 ((0, false)), [])))
theorem run61 (x0 : Int) : funK ctx kn66 lt61 3 61 [.sc (.int .u32 x0)] [] 0 finV = tree61 x0 := by kernel_rfl
noncomputable def p61 (x0 : Int) : (Int × Bool) := (cond (cmpB x0) ((cmpN x0, true)) ((0, false)))
theorem told61 (x0 : Int) : Told enc61 (tree61 x0) (some (p61 x0)) := (told_p (fun h0 => told_leaf _) (fun h0 => told_leaf _))
noncomputable def k61 (l : List V) : Option (Bool × V) := match l with
  | [.sc (.int .u32 x0)] => some (true, enc61 (p61 x0))
  | _ => none
noncomputable def kn61 : Known := kn66.add 61 k61
theorem kn61_ok : KnownOK ctx kn61 174 := Known.add_ok kn66_ok rfl (by omega) (by
  intro l r h
  unfold k61 at h
  split at h
  · simp only [Option.some.injEq, Prod.mk.injEq] at h
    obtain ⟨_, rfl⟩ := h
    exact ⟨(Told.spec kn66_ok (lt61_ok.mono (by omega)) (run61 _) (told61 _) rfl).mono (by omega), rfl, rfl⟩
  · cases h)
def enc57 (y : (Int × Int × Int)) : V := .tup [.sc (.int .i64 y.1), .sc (.int .i64 y.2.1), .sc (.int .i64 y.2.2)]
noncomputable def tree57 (g : Int) (w : Bool) (d : Bool) (v : Int) (c : Int) (i : Int) (m : Int) (e : Int) (j : Int) (u : Bool) (o : Int) (q : Int) (t : Int) (s : Bool) (p : Bool) : R := (cond (8 == g) (some (enc57 ((1, i, 15)), [])) (cond (9 == g) (some (enc57 ((2, i, 15)), [])) (cond (11 == g) (some (enc57 ((5, i, 15)), [])) (cond (10 == g) (some (enc57 ((3, i, 15)), [])) (cond (13 == g) (some (enc57 ((12, 15, c)), [])) (cond (15 == g) (some (enc57 ((16, 15, c)), [])) (some (enc57 ((g, i, c)), []))))))))
theorem run57 (g : Int) (w : Bool) (d : Bool) (v : Int) (c : Int) (i : Int) (m : Int) (e : Int) (j : Int) (u : Bool) (o : Int) (q : Int) (t : Int) (s : Bool) (p : Bool) : funK ctx kn61 lt61 3 57 [.agg [.sc (.int .i64 g), .sc (.bool w), .sc (.bool d), .sc (.int .i64 v), .sc (.int .i64 c), .sc (.int .i64 i), .sc (.int .i64 m), .sc (.int .i64 e), .sc (.int .u32 j), .sc (.bool u), .sc (.int .i64 o), .sc (.int .i64 q), .sc (.int .i64 t), .sc (.bool s), .sc (.bool p)]] [] 0 finV = tree57 g w d v c i m e j u o q t s p := by kernel_rfl
noncomputable def p57 (g : Int) (w : Bool) (d : Bool) (v : Int) (c : Int) (i : Int) (m : Int) (e : Int) (j : Int) (u : Bool) (o : Int) (q : Int) (t : Int) (s : Bool) (p : Bool) : (Int × Int × Int) := (cond (8 == g) ((1, i, 15)) (cond (9 == g) ((2, i, 15)) (cond (11 == g) ((5, i, 15)) (cond (10 == g) ((3, i, 15)) (cond (13 == g) ((12, 15, c)) (cond (15 == g) ((16, 15, c)) ((g, i, c))))))))
theorem told57 (g : Int) (w : Bool) (d : Bool) (v : Int) (c : Int) (i : Int) (m : Int) (e : Int) (j : Int) (u : Bool) (o : Int) (q : Int) (t : Int) (s : Bool) (p : Bool) : Told enc57 (tree57 g w d v c i m e j u o q t s p) (some (p57 g w d v c i m e j u o q t s p)) := (told_p (fun h0 => told_leaf _) (fun h0 => (told_p (fun h1 => told_leaf _) (fun h1 => (told_p (fun h2 => told_leaf _) (fun h2 => (told_p (fun h3 => told_leaf _) (fun h3 => (told_p (fun h4 => told_leaf _) (fun h4 => (told_p (fun h5 => told_leaf _) (fun h5 => told_leaf _))))))))))))
noncomputable def k57 (l : List V) : Option (Bool × V) := match l with
  | [.agg [.sc (.int .i64 g), .sc (.bool w), .sc (.bool d), .sc (.int .i64 v), .sc (.int .i64 c), .sc (.int .i64 i), .sc (.int .i64 m), .sc (.int .i64 e), .sc (.int .u32 j), .sc (.bool u), .sc (.int .i64 o), .sc (.int .i64 q), .sc (.int .i64 t), .sc (.bool s), .sc (.bool p)]] => some (true, enc57 (p57 g w d v c i m e j u o q t s p))
  | _ => none
noncomputable def kn57 : Known := kn61.add 57 k57
theorem kn57_ok : KnownOK ctx kn57 177 := Known.add_ok kn61_ok rfl (by omega) (by
  intro l r h
  unfold k57 at h
  split at h
  · simp only [Option.some.injEq, Prod.mk.injEq] at h
    obtain ⟨_, rfl⟩ := h
    exact ⟨(Told.spec kn61_ok (lt61_ok.mono (by omega)) (run57 _ _ _ _ _ _ _ _ _ _ _ _ _ _ _) (told57 _ _ _ _ _ _ _ _ _ _ _ _ _ _ _) rfl).mono (by omega), rfl, rfl⟩
  · cases h)
def enc62 (y : (Int × Int)) : V := .tup [.sc (.int .i64 y.1), .sc (.int .i64 y.2)]
noncomputable def tree62 (x0 : Int) : R := (some (enc62 ((shlF .i64 (bitsF .and .i64 (shrF .i64 x0 11) 1) 10, bitsF .or .i64 (shlF .i64 (bitsF .and .i64 (shrF .i64 x0 8) 7) 12) (bitsF .and .i64 x0 255))), []))
theorem run62 (x0 : Int) : funK ctx kn57 lt61 3 62 [.sc (.int .i64 x0)] [] 0 finV = tree62 x0 := by kernel_rfl
noncomputable def p62 (x0 : Int) : (Int × Int) := ((shlF .i64 (bitsF .and .i64 (shrF .i64 x0 11) 1) 10, bitsF .or .i64 (shlF .i64 (bitsF .and .i64 (shrF .i64 x0 8) 7) 12) (bitsF .and .i64 x0 255)))
theorem told62 (x0 : Int) : Told enc62 (tree62 x0) (some (p62 x0)) := told_leaf _
noncomputable def k62 (l : List V) : Option (Bool × V) := match l with
  | [.sc (.int .i64 x0)] => some (true, enc62 (p62 x0))
  | _ => none
noncomputable def kn62 : Known := kn57.add 62 k62
theorem kn62_ok : KnownOK ctx kn62 180 := Known.add_ok kn57_ok rfl (by omega) (by
  intro l r h
  unfold k62 at h
  split at h
  · simp only [Option.some.injEq, Prod.mk.injEq] at h
    obtain ⟨_, rfl⟩ := h
    exact ⟨(Told.spec kn57_ok (lt61_ok.mono (by omega)) (run62 _) (told62 _) rfl).mono (by omega), rfl, rfl⟩
  · cases h)
def enc60 (y : (List Int)) : V := .agg ((y).map fun y => .sc (.int .u16 y))
noncomputable def tree60 (x0 : Int) (x1 : Int) : R := (some (enc60 ([wrapF .u16 x0, wrapF .u16 x1]), []))
theorem run60 (x0 : Int) (x1 : Int) : funK ctx kn62 lt61 3 60 [.sc (.int .i64 x0), .sc (.int .i64 x1)] [] 0 finV = tree60 x0 x1 := by kernel_rfl
noncomputable def p60 (x0 : Int) (x1 : Int) : (List Int) := ([wrapF .u16 x0, wrapF .u16 x1])
theorem told60 (x0 : Int) (x1 : Int) : Told enc60 (tree60 x0 x1) (some (p60 x0 x1)) := told_leaf _
noncomputable def k60 (l : List V) : Option (Bool × V) := match l with
  | [.sc (.int .i64 x0), .sc (.int .i64 x1)] => some (true, enc60 (p60 x0 x1))
  | _ => none
noncomputable def kn60 : Known := kn62.add 60 k60
theorem kn60_ok : KnownOK ctx kn60 183 := Known.add_ok kn62_ok rfl (by omega) (by
  intro l r h
  unfold k60 at h
  split at h
  · simp only [Option.some.injEq, Prod.mk.injEq] at h
    obtain ⟨_, rfl⟩ := h
    exact ⟨(Told.spec kn62_ok (lt61_ok.mono (by omega)) (run60 _ _) (told60 _ _) rfl).mono (by omega), rfl, (by show closedL 0 (List.map _ _) = true; exact closedL_map 0 _ (fun _ => rfl) _)⟩
  · cases h)
def enc59 (y : Int) : V := .sc (.int .i64 y)
noncomputable def tree59 (x0 : Bool) : R := (cond (x0) (some (enc59 (1), [])) (some (enc59 (0), [])))
theorem run59 (x0 : Bool) : funK ctx kn60 lt61 3 59 [.sc (.bool x0)] [] 0 finV = tree59 x0 := by kernel_rfl
noncomputable def p59 (x0 : Bool) : Int := (cond (x0) (1) (0))
theorem told59 (x0 : Bool) : Told enc59 (tree59 x0) (some (p59 x0)) := (told_p (fun h0 => told_leaf _) (fun h0 => told_leaf _))
noncomputable def k59 (l : List V) : Option (Bool × V) := match l with
  | [.sc (.bool x0)] => some (true, enc59 (p59 x0))
  | _ => none
noncomputable def kn59 : Known := kn60.add 59 k59
theorem kn59_ok : KnownOK ctx kn59 186 := Known.add_ok kn60_ok rfl (by omega) (by
  intro l r h
  unfold k59 at h
  split at h
  · simp only [Option.some.injEq, Prod.mk.injEq] at h
    obtain ⟨_, rfl⟩ := h
    exact ⟨(Told.spec kn60_ok (lt61_ok.mono (by omega)) (run59 _) (told59 _) rfl).mono (by omega), rfl, rfl⟩
  · cases h)
def enc28 (y : (Bool × List (List Int))) : V := .sl (y).1 2 ((y).2.map fun y => .agg ((y).map fun y => .sc (.int .u16 y)))
noncomputable def tree28 (g : Int) (w : Bool) (d : Bool) (v : Int) (c : Int) (i : Int) (m : Int) (e : Int) (j : Int) (u : Bool) (o : Int) (q : Int) (t : Int) (s : Bool) (p : Bool) : R := (fun (t0 : Int) => (fun (t1 : Int) => (cond (decide (placeI [1, 14, 12, 16, 2, 0, 0, 0, 5, 0, 6, 7, 0, 3, 4, 0] (p57 g w d v c i m e j u o q t s p).fst 0 < 0)) (some (enc28 ((true, [])), [])) (cond (!u) (cond (o == 5) (some (enc28 ((true, [[wrapF .u16 (bitsF .or .i64 59904 t0), wrapF .u16 (bitsF .or .i64 (bitsF .or .i64 (bitsF .or .i64 (bitsF .or .i64 0 t1) 0) 48) m)]])), [])) (some (enc28 ((true, [[wrapF .u16 (bitsF .or .i64 59904 t0), wrapF .u16 (bitsF .or .i64 (bitsF .or .i64 (bitsF .or .i64 (bitsF .or .i64 (shlF .i64 (shrF .i64 (bitsF .and .i64 q 31) 2) 12) t1) (shlF .i64 (bitsF .and .i64 (bitsF .and .i64 q 31) 3) 6)) (shlF .i64 (if true = true then if 0 > wrapF .i64 (o - 1) then 0 else wrapF .i64 (o - 1) else if 0 < wrapF .i64 (o - 1) then 0 else wrapF .i64 (o - 1)) 4)) m)]])), []))) (cond ((p61 j).snd) (some (enc28 ((false, [[wrapF .u16 (bitsF .or .i64 (bitsF .or .i64 61440 (p62 (wrapF .i64 (p61 j).fst)).fst) t0), wrapF .u16 (bitsF .or .i64 (p62 (wrapF .i64 (p61 j).fst)).snd t1)]])), [])) (some (enc28 ((false, [])), [])))))) (shlF .i64 (p57 g w d v c i m e j u o q t s p).snd.snd 8)) (bitsF .or .i64 (bitsF .or .i64 (shlF .i64 (placeI [1, 14, 12, 16, 2, 0, 0, 0, 5, 0, 6, 7, 0, 3, 4, 0] (p57 g w d v c i m e j u o q t s p).fst 0) 5) (shlF .i64 (p59 d) 4)) (p57 g w d v c i m e j u o q t s p).snd.fst)
theorem run28 (g : Int) (w : Bool) (d : Bool) (v : Int) (c : Int) (i : Int) (m : Int) (e : Int) (j : Int) (u : Bool) (o : Int) (q : Int) (t : Int) (s : Bool) (p : Bool) : funK ctx kn59 lt61 3 28 [.agg [.sc (.int .i64 g), .sc (.bool w), .sc (.bool d), .sc (.int .i64 v), .sc (.int .i64 c), .sc (.int .i64 i), .sc (.int .i64 m), .sc (.int .i64 e), .sc (.int .u32 j), .sc (.bool u), .sc (.int .i64 o), .sc (.int .i64 q), .sc (.int .i64 t), .sc (.bool s), .sc (.bool p)]] [] 0 finV = tree28 g w d v c i m e j u o q t s p := by kernel_rfl
noncomputable def p28 (g : Int) (w : Bool) (d : Bool) (v : Int) (c : Int) (i : Int) (m : Int) (e : Int) (j : Int) (u : Bool) (o : Int) (q : Int) (t : Int) (s : Bool) (p : Bool) : (Bool × List (List Int)) := (fun (t0 : Int) => (fun (t1 : Int) => (cond (decide (placeI [1, 14, 12, 16, 2, 0, 0, 0, 5, 0, 6, 7, 0, 3, 4, 0] (p57 g w d v c i m e j u o q t s p).fst 0 < 0)) ((true, [])) (cond (!u) (cond (o == 5) ((true, [[wrapF .u16 (bitsF .or .i64 59904 t0), wrapF .u16 (bitsF .or .i64 (bitsF .or .i64 (bitsF .or .i64 (bitsF .or .i64 0 t1) 0) 48) m)]])) ((true, [[wrapF .u16 (bitsF .or .i64 59904 t0), wrapF .u16 (bitsF .or .i64 (bitsF .or .i64 (bitsF .or .i64 (bitsF .or .i64 (shlF .i64 (shrF .i64 (bitsF .and .i64 q 31) 2) 12) t1) (shlF .i64 (bitsF .and .i64 (bitsF .and .i64 q 31) 3) 6)) (shlF .i64 (if true = true then if 0 > wrapF .i64 (o - 1) then 0 else wrapF .i64 (o - 1) else if 0 < wrapF .i64 (o - 1) then 0 else wrapF .i64 (o - 1)) 4)) m)]]))) (cond ((p61 j).snd) ((false, [[wrapF .u16 (bitsF .or .i64 (bitsF .or .i64 61440 (p62 (wrapF .i64 (p61 j).fst)).fst) t0), wrapF .u16 (bitsF .or .i64 (p62 (wrapF .i64 (p61 j).fst)).snd t1)]])) ((false, [])))))) (shlF .i64 (p57 g w d v c i m e j u o q t s p).snd.snd 8)) (bitsF .or .i64 (bitsF .or .i64 (shlF .i64 (placeI [1, 14, 12, 16, 2, 0, 0, 0, 5, 0, 6, 7, 0, 3, 4, 0] (p57 g w d v c i m e j u o q t s p).fst 0) 5) (shlF .i64 (p59 d) 4)) (p57 g w d v c i m e j u o q t s p).snd.fst)
theorem told28 (g : Int) (w : Bool) (d : Bool) (v : Int) (c : Int) (i : Int) (m : Int) (e : Int) (j : Int) (u : Bool) (o : Int) (q : Int) (t : Int) (s : Bool) (p : Bool) : Told enc28 (tree28 g w d v c i m e j u o q t s p) (some (p28 g w d v c i m e j u o q t s p)) := (told_p (fun h0 => told_leaf _) (fun h0 => (told_p (fun h1 => (told_p (fun h2 => told_leaf _) (fun h2 => told_leaf _))) (fun h1 => (told_p (fun h2 => told_leaf _) (fun h2 => told_leaf _))))))
noncomputable def k28 (l : List V) : Option (Bool × V) := match l with
  | [.agg [.sc (.int .i64 g), .sc (.bool w), .sc (.bool d), .sc (.int .i64 v), .sc (.int .i64 c), .sc (.int .i64 i), .sc (.int .i64 m), .sc (.int .i64 e), .sc (.int .u32 j), .sc (.bool u), .sc (.int .i64 o), .sc (.int .i64 q), .sc (.int .i64 t), .sc (.bool s), .sc (.bool p)]] => some (true, enc28 (p28 g w d v c i m e j u o q t s p))
  | _ => none
noncomputable def kn28 : Known := kn59.add 28 k28
theorem kn28_ok : KnownOK ctx kn28 189 := Known.add_ok kn59_ok rfl (by omega) (by
  intro l r h
  unfold k28 at h
  split at h
  · simp only [Option.some.injEq, Prod.mk.injEq] at h
    obtain ⟨_, rfl⟩ := h
    exact ⟨(Told.spec kn59_ok (lt61_ok.mono (by omega)) (run28 _ _ _ _ _ _ _ _ _ _ _ _ _ _ _) (told28 _ _ _ _ _ _ _ _ _ _ _ _ _ _ _) rfl).mono (by omega), rfl, (by show closedL 0 (List.map _ _) = true; exact closedL_map 0 _ (fun _ => (by show closedL 0 (List.map _ _) = true; exact closedL_map 0 _ (fun _ => rfl) _)) _)⟩
  · cases h)
def enc29 (y : (Bool × List (List Int))) : V := .sl (y).1 2 ((y).2.map fun y => .agg ((y).map fun y => .sc (.int .u16 y)))
noncomputable def tree29 (g : Int) (w : Bool) (d : Bool) (v : Int) (c : Int) (i : Int) (m : Int) (e : Int) (j : Int) (u : Bool) (o : Int) (q : Int) (t : Int) (s : Bool) (p : Bool) : R := (fun (t0 : Int) => (fun (t1 : Int) => (fun (t2 : Int) => (fun (t3 : Int) => (fun (t4 : Int) => (cond (g == 5) (some (enc29 ((true, [[wrapF .u16 (bitsF .or .i64 (bitsF .or .i64 61952 (p62 t1).fst) i), wrapF .u16 t2]])), [])) (cond (g == 3) (some (enc29 ((true, [[wrapF .u16 (bitsF .or .i64 (bitsF .or .i64 62112 (p62 t1).fst) i), wrapF .u16 t2]])), [])) (cond (g == 13) (some (enc29 ((true, [[wrapF .u16 (bitsF .or .i64 (bitsF .or .i64 62016 (p62 t1).fst) t4), wrapF .u16 t2]])), [])) (cond (g == 30) (some (enc29 ((true, [[wrapF .u16 (bitsF .or .i64 (bitsF .or .i64 62144 (p62 t1).fst) t4), wrapF .u16 t2]])), [])) (cond (g == 32) (some (enc29 ((true, [[wrapF .u16 (bitsF .or .i64 62272 i), wrapF .u16 t3]])), [])) (cond (g == 31) (some (enc29 ((true, [[wrapF .u16 (bitsF .or .i64 62400 i), wrapF .u16 t3]])), [])) (cond (g == 33) (some (enc29 ((true, [[wrapF .u16 (bitsF .or .i64 62304 i), wrapF .u16 (bitsF .or .i64 t0 (bitsF .and .i64 (wrapF .i64 (wrapF .i64 (wrapF .i64 (j.tmod 32) + wrapF .i64 (wrapF .u32 (j.tdiv 32))) - 1)) 31))]])), [])) (some (enc29 ((true, [])), [])))))))))) (wrapF .i64 (bitsF .and .u32 (shrF .u32 j 12) 15))) (bitsF .or .i64 t0 (bitsF .and .i64 (wrapF .i64 (wrapF .i64 (wrapF .u32 (j.tdiv 32)) - 1)) 31))) (bitsF .or .i64 (p62 t1).snd (shlF .i64 c 8))) (wrapF .i64 (bitsF .and .u32 j 4095))) (bitsF .or .i64 (bitsF .or .i64 (shlF .i64 (shrF .i64 (wrapF .i64 (j.tmod 32)) 2) 12) (shlF .i64 (bitsF .and .i64 (wrapF .i64 (j.tmod 32)) 3) 6)) (shlF .i64 c 8))
theorem run29 (g : Int) (w : Bool) (d : Bool) (v : Int) (c : Int) (i : Int) (m : Int) (e : Int) (j : Int) (u : Bool) (o : Int) (q : Int) (t : Int) (s : Bool) (p : Bool) : funK ctx kn28 lt61 3 29 [.agg [.sc (.int .i64 g), .sc (.bool w), .sc (.bool d), .sc (.int .i64 v), .sc (.int .i64 c), .sc (.int .i64 i), .sc (.int .i64 m), .sc (.int .i64 e), .sc (.int .u32 j), .sc (.bool u), .sc (.int .i64 o), .sc (.int .i64 q), .sc (.int .i64 t), .sc (.bool s), .sc (.bool p)]] [] 0 finV = tree29 g w d v c i m e j u o q t s p := by kernel_rfl
noncomputable def p29 (g : Int) (w : Bool) (d : Bool) (v : Int) (c : Int) (i : Int) (m : Int) (e : Int) (j : Int) (u : Bool) (o : Int) (q : Int) (t : Int) (s : Bool) (p : Bool) : (Bool × List (List Int)) := (fun (t0 : Int) => (fun (t1 : Int) => (fun (t2 : Int) => (fun (t3 : Int) => (fun (t4 : Int) => (cond (g == 5) ((true, [[wrapF .u16 (bitsF .or .i64 (bitsF .or .i64 61952 (p62 t1).fst) i), wrapF .u16 t2]])) (cond (g == 3) ((true, [[wrapF .u16 (bitsF .or .i64 (bitsF .or .i64 62112 (p62 t1).fst) i), wrapF .u16 t2]])) (cond (g == 13) ((true, [[wrapF .u16 (bitsF .or .i64 (bitsF .or .i64 62016 (p62 t1).fst) t4), wrapF .u16 t2]])) (cond (g == 30) ((true, [[wrapF .u16 (bitsF .or .i64 (bitsF .or .i64 62144 (p62 t1).fst) t4), wrapF .u16 t2]])) (cond (g == 32) ((true, [[wrapF .u16 (bitsF .or .i64 62272 i), wrapF .u16 t3]])) (cond (g == 31) ((true, [[wrapF .u16 (bitsF .or .i64 62400 i), wrapF .u16 t3]])) (cond (g == 33) ((true, [[wrapF .u16 (bitsF .or .i64 62304 i), wrapF .u16 (bitsF .or .i64 t0 (bitsF .and .i64 (wrapF .i64 (wrapF .i64 (wrapF .i64 (j.tmod 32) + wrapF .i64 (wrapF .u32 (j.tdiv 32))) - 1)) 31))]])) ((true, [])))))))))) (wrapF .i64 (bitsF .and .u32 (shrF .u32 j 12) 15))) (bitsF .or .i64 t0 (bitsF .and .i64 (wrapF .i64 (wrapF .i64 (wrapF .u32 (j.tdiv 32)) - 1)) 31))) (bitsF .or .i64 (p62 t1).snd (shlF .i64 c 8))) (wrapF .i64 (bitsF .and .u32 j 4095))) (bitsF .or .i64 (bitsF .or .i64 (shlF .i64 (shrF .i64 (wrapF .i64 (j.tmod 32)) 2) 12) (shlF .i64 (bitsF .and .i64 (wrapF .i64 (j.tmod 32)) 3) 6)) (shlF .i64 c 8))
theorem told29 (g : Int) (w : Bool) (d : Bool) (v : Int) (c : Int) (i : Int) (m : Int) (e : Int) (j : Int) (u : Bool) (o : Int) (q : Int) (t : Int) (s : Bool) (p : Bool) : Told enc29 (tree29 g w d v c i m e j u o q t s p) (some (p29 g w d v c i m e j u o q t s p)) := (told_p (fun h0 => told_leaf _) (fun h0 => (told_p (fun h1 => told_leaf _) (fun h1 => (told_p (fun h2 => told_leaf _) (fun h2 => (told_p (fun h3 => told_leaf _) (fun h3 => (told_p (fun h4 => told_leaf _) (fun h4 => (told_p (fun h5 => told_leaf _) (fun h5 => (told_p (fun h6 => told_leaf _) (fun h6 => told_leaf _))))))))))))))
noncomputable def k29 (l : List V) : Option (Bool × V) := match l with
  | [.agg [.sc (.int .i64 g), .sc (.bool w), .sc (.bool d), .sc (.int .i64 v), .sc (.int .i64 c), .sc (.int .i64 i), .sc (.int .i64 m), .sc (.int .i64 e), .sc (.int .u32 j), .sc (.bool u), .sc (.int .i64 o), .sc (.int .i64 q), .sc (.int .i64 t), .sc (.bool s), .sc (.bool p)]] => some (true, enc29 (p29 g w d v c i m e j u o q t s p))
  | _ => none
noncomputable def kn29 : Known := kn28.add 29 k29
theorem kn29_ok : KnownOK ctx kn29 192 := Known.add_ok kn28_ok rfl (by omega) (by
  intro l r h
  unfold k29 at h
  split at h
  · simp only [Option.some.injEq, Prod.mk.injEq] at h
    obtain ⟨_, rfl⟩ := h
    exact ⟨(Told.spec kn28_ok (lt61_ok.mono (by omega)) (run29 _ _ _ _ _ _ _ _ _ _ _ _ _ _ _) (told29 _ _ _ _ _ _ _ _ _ _ _ _ _ _ _) rfl).mono (by omega), rfl, (by show closedL 0 (List.map _ _) = true; exact closedL_map 0 _ (fun _ => (by show closedL 0 (List.map _ _) = true; exact closedL_map 0 _ (fun _ => rfl) _)) _)⟩
  · cases h)
def enc34 (y : (Bool × List (List Int))) : V := .sl (y).1 2 ((y).2.map fun y => .agg ((y).map fun y => .sc (.int .u16 y)))
noncomputable def tree34 (g : Int) (w : Bool) (d : Bool) (v : Int) (c : Int) (i : Int) (m : Int) (e : Int) (j : Int) (u : Bool) (o : Int) (q : Int) (t : Int) (s : Bool) (p : Bool) : R := (cond (decide (0 ≤ p59 p ∧ p59 p < 2)) (cond (decide ((p59 p).toNat < 2)) (some (enc34 ((true, [[wrapF .u16 (bitsF .or .i64 (bitsF .or .i64 (bitsF .or .i64 (getI [59520, 59648] (p59 p).toNat) (shlF .i64 (p59 s) 5)) (shlF .i64 (p59 (g == 52)) 4)) i), wrapF .u16 t]])), [])) none) none)
theorem run34 (g : Int) (w : Bool) (d : Bool) (v : Int) (c : Int) (i : Int) (m : Int) (e : Int) (j : Int) (u : Bool) (o : Int) (q : Int) (t : Int) (s : Bool) (p : Bool) : funK ctx kn29 lt61 3 34 [.agg [.sc (.int .i64 g), .sc (.bool w), .sc (.bool d), .sc (.int .i64 v), .sc (.int .i64 c), .sc (.int .i64 i), .sc (.int .i64 m), .sc (.int .i64 e), .sc (.int .u32 j), .sc (.bool u), .sc (.int .i64 o), .sc (.int .i64 q), .sc (.int .i64 t), .sc (.bool s), .sc (.bool p)]] [] 0 finV = tree34 g w d v c i m e j u o q t s p := by kernel_rfl
noncomputable def o34 (g : Int) (w : Bool) (d : Bool) (v : Int) (c : Int) (i : Int) (m : Int) (e : Int) (j : Int) (u : Bool) (o : Int) (q : Int) (t : Int) (s : Bool) (p : Bool) : Option (Bool × List (List Int)) := (cond (decide (0 ≤ p59 p ∧ p59 p < 2)) (some ((true, [[wrapF .u16 (bitsF .or .i64 (bitsF .or .i64 (bitsF .or .i64 (getI [59520, 59648] (p59 p).toNat) (shlF .i64 (p59 s) 5)) (shlF .i64 (p59 (g == 52)) 4)) i), wrapF .u16 t]]))) none)
theorem told34 (g : Int) (w : Bool) (d : Bool) (v : Int) (c : Int) (i : Int) (m : Int) (e : Int) (j : Int) (u : Bool) (o : Int) (q : Int) (t : Int) (s : Bool) (p : Bool) : Told enc34 (tree34 g w d v c i m e j u o q t s p) (o34 g w d v c i m e j u o q t s p) := (told_c (fun h0 => (told_t (by try simp only [decide_eq_true_eq, decide_eq_false_iff_not, beq_iff_eq, beq_eq_false_iff_ne, bne_iff_ne, bne_eq_false_iff_eq, Bool.not_eq_true', Bool.not_eq_false'] at *; omega) (told_leaf _))) (fun h0 => told_none _))
noncomputable def g34 (g : Int) (w : Bool) (d : Bool) (v : Int) (c : Int) (i : Int) (m : Int) (e : Int) (j : Int) (u : Bool) (o : Int) (q : Int) (t : Int) (s : Bool) (p : Bool) : (Bool × List (List Int)) := (o34 g w d v c i m e j u o q t s p).getD default
noncomputable def k34 (l : List V) : Option (Bool × V) := match l with
  | [.agg [.sc (.int .i64 g), .sc (.bool w), .sc (.bool d), .sc (.int .i64 v), .sc (.int .i64 c), .sc (.int .i64 i), .sc (.int .i64 m), .sc (.int .i64 e), .sc (.int .u32 j), .sc (.bool u), .sc (.int .i64 o), .sc (.int .i64 q), .sc (.int .i64 t), .sc (.bool s), .sc (.bool p)]] => some ((o34 g w d v c i m e j u o q t s p).isSome, enc34 (g34 g w d v c i m e j u o q t s p))
  | _ => none
noncomputable def kn34 : Known := kn29.add 34 k34
theorem kn34_ok : KnownOK ctx kn34 195 := Known.add_ok kn29_ok rfl (by omega) (by
  intro l r h
  unfold k34 at h
  split at h
  · simp only [Option.some.injEq, Prod.mk.injEq] at h
    obtain ⟨h1, rfl⟩ := h
    obtain ⟨a, ha⟩ := Option.isSome_iff_exists.1 h1
    unfold g34
    rw [ha]
    exact ⟨(Told.spec kn29_ok (lt61_ok.mono (by omega)) (run34 _ _ _ _ _ _ _ _ _ _ _ _ _ _ _) (told34 _ _ _ _ _ _ _ _ _ _ _ _ _ _ _) ha).mono (by omega), rfl, (by show closedL 0 (List.map _ _) = true; exact closedL_map 0 _ (fun _ => (by show closedL 0 (List.map _ _) = true; exact closedL_map 0 _ (fun _ => rfl) _)) _)⟩
  · cases h)
def enc32 (y : (Bool × List (List Int))) : V := .sl (y).1 2 ((y).2.map fun y => .agg ((y).map fun y => .sc (.int .u16 y)))
noncomputable def tree32 (g : Int) (w : Bool) (d : Bool) (v : Int) (c : Int) (i : Int) (m : Int) (e : Int) (j : Int) (u : Bool) (o : Int) (q : Int) (t : Int) (s : Bool) (p : Bool) : R := (fun (t0 : R) => (fun (t1 : R) => (cond (g == 21) (some (enc32 ((true, [[wrapF .u16 (bitsF .or .i64 64256 i), wrapF .u16 (bitsF .or .i64 (bitsF .or .i64 61440 (shlF .i64 c 8)) m)]])), [])) (cond (g == 22) t0 (cond (g == 23) t0 (cond (g == 29) t1 (cond (g == 28) t1 (cond (decide (placeI [25, 24, 27, 26] g 0 ≥ 0)) (some (enc32 ((true, [[wrapF .u16 (bitsF .or .i64 (bitsF .or .i64 64384 (shlF .i64 (placeI [25, 24, 27, 26] g 0) 5)) i), wrapF .u16 (bitsF .or .i64 (bitsF .or .i64 (shlF .i64 c 12) (shlF .i64 e 8)) m)]])), [])) (some (enc32 ((true, [])), []))))))))) (some (enc32 ((true, [[wrapF .u16 (bitsF .or .i64 (bitsF .or .i64 64400 (shlF .i64 (p59 (g == 28)) 5)) i), wrapF .u16 (bitsF .or .i64 (bitsF .or .i64 61680 (shlF .i64 c 8)) m)]])), []))) (some (enc32 ((true, [[wrapF .u16 (bitsF .or .i64 64256 i), wrapF .u16 (bitsF .or .i64 (bitsF .or .i64 (bitsF .or .i64 (shlF .i64 e 12) (shlF .i64 c 8)) (shlF .i64 (p59 (g == 23)) 4)) m)]])), []))
theorem run32 (g : Int) (w : Bool) (d : Bool) (v : Int) (c : Int) (i : Int) (m : Int) (e : Int) (j : Int) (u : Bool) (o : Int) (q : Int) (t : Int) (s : Bool) (p : Bool) : funK ctx kn34 lt61 3 32 [.agg [.sc (.int .i64 g), .sc (.bool w), .sc (.bool d), .sc (.int .i64 v), .sc (.int .i64 c), .sc (.int .i64 i), .sc (.int .i64 m), .sc (.int .i64 e), .sc (.int .u32 j), .sc (.bool u), .sc (.int .i64 o), .sc (.int .i64 q), .sc (.int .i64 t), .sc (.bool s), .sc (.bool p)]] [] 0 finV = tree32 g w d v c i m e j u o q t s p := by kernel_rfl
noncomputable def p32 (g : Int) (w : Bool) (d : Bool) (v : Int) (c : Int) (i : Int) (m : Int) (e : Int) (j : Int) (u : Bool) (o : Int) (q : Int) (t : Int) (s : Bool) (p : Bool) : (Bool × List (List Int)) := (fun (t0 : Int) => (fun (t1 : Int) => (fun (t2 : Int) => (fun (t3 : Int) => (cond (g == 21) ((true, [[wrapF .u16 t3, wrapF .u16 (bitsF .or .i64 (bitsF .or .i64 61440 (shlF .i64 c 8)) m)]])) (cond (g == 22) ((true, [[wrapF .u16 t3, wrapF .u16 t0]])) (cond (g == 23) ((true, [[wrapF .u16 t3, wrapF .u16 t0]])) (cond (g == 29) ((true, [[wrapF .u16 t1, wrapF .u16 t2]])) (cond (g == 28) ((true, [[wrapF .u16 t1, wrapF .u16 t2]])) (cond (decide (placeI [25, 24, 27, 26] g 0 ≥ 0)) ((true, [[wrapF .u16 (bitsF .or .i64 (bitsF .or .i64 64384 (shlF .i64 (placeI [25, 24, 27, 26] g 0) 5)) i), wrapF .u16 (bitsF .or .i64 (bitsF .or .i64 (shlF .i64 c 12) (shlF .i64 e 8)) m)]])) ((true, []))))))))) (bitsF .or .i64 64256 i)) (bitsF .or .i64 (bitsF .or .i64 61680 (shlF .i64 c 8)) m)) (bitsF .or .i64 (bitsF .or .i64 64400 (shlF .i64 (p59 (g == 28)) 5)) i)) (bitsF .or .i64 (bitsF .or .i64 (bitsF .or .i64 (shlF .i64 e 12) (shlF .i64 c 8)) (shlF .i64 (p59 (g == 23)) 4)) m)
theorem told32 (g : Int) (w : Bool) (d : Bool) (v : Int) (c : Int) (i : Int) (m : Int) (e : Int) (j : Int) (u : Bool) (o : Int) (q : Int) (t : Int) (s : Bool) (p : Bool) : Told enc32 (tree32 g w d v c i m e j u o q t s p) (some (p32 g w d v c i m e j u o q t s p)) := (told_p (fun h0 => told_leaf _) (fun h0 => (told_p (fun h1 => told_leaf _) (fun h1 => (told_p (fun h2 => told_leaf _) (fun h2 => (told_p (fun h3 => told_leaf _) (fun h3 => (told_p (fun h4 => told_leaf _) (fun h4 => (told_p (fun h5 => told_leaf _) (fun h5 => told_leaf _))))))))))))
noncomputable def k32 (l : List V) : Option (Bool × V) := match l with
  | [.agg [.sc (.int .i64 g), .sc (.bool w), .sc (.bool d), .sc (.int .i64 v), .sc (.int .i64 c), .sc (.int .i64 i), .sc (.int .i64 m), .sc (.int .i64 e), .sc (.int .u32 j), .sc (.bool u), .sc (.int .i64 o), .sc (.int .i64 q), .sc (.int .i64 t), .sc (.bool s), .sc (.bool p)]] => some (true, enc32 (p32 g w d v c i m e j u o q t s p))
  | _ => none
noncomputable def kn32 : Known := kn34.add 32 k32
theorem kn32_ok : KnownOK ctx kn32 198 := Known.add_ok kn34_ok rfl (by omega) (by
  intro l r h
  unfold k32 at h
  split at h
  · simp only [Option.some.injEq, Prod.mk.injEq] at h
    obtain ⟨_, rfl⟩ := h
    exact ⟨(Told.spec kn34_ok (lt61_ok.mono (by omega)) (run32 _ _ _ _ _ _ _ _ _ _ _ _ _ _ _) (told32 _ _ _ _ _ _ _ _ _ _ _ _ _ _ _) rfl).mono (by omega), rfl, (by show closedL 0 (List.map _ _) = true; exact closedL_map 0 _ (fun _ => (by show closedL 0 (List.map _ _) = true; exact closedL_map 0 _ (fun _ => rfl) _)) _)⟩
  · cases h)
end Go.Den
end
section
set_option linter.unusedVariables false
set_option maxRecDepth 100000
namespace Go.Den
def enc31 (y : (Bool × List (List Int))) : V := .sl (y).1 2 ((y).2.map fun y => .agg ((y).map fun y => .sc (.int .u16 y)))
noncomputable def tree31 (e : Int) (v : Bool) (c : Bool) (i : Int) (a : Int) (m : Int) (g : Int) (d : Int) (j : Int) (u : Bool) (t : Int) (o : Int) (s : Int) (p : Bool) (q : Bool) : R := (fun (t0 : Int) => (cond (decide (placeI [17, 18, 19, 20] e 0 ≥ 0)) (some (enc31 ((true, [[wrapF .u16 (bitsF .or .i64 (bitsF .or .i64 (bitsF .or .i64 64000 (shlF .i64 (placeI [17, 18, 19, 20] e 0) 5)) (shlF .i64 (p59 c) 4)) m), wrapF .u16 (bitsF .or .i64 (bitsF .or .i64 61440 (shlF .i64 a 8)) g)]])), [])) (cond (decide (placeI [40, 42, 0, 0, 39, 41] e 0 ≥ 0)) (some (enc31 ((true, [[wrapF .u16 (bitsF .or .i64 64015 (shlF .i64 (placeI [40, 42, 0, 0, 39, 41] e 0) 4)), wrapF .u16 t0]])), [])) (cond (decide (placeI [36, 37, 35, 38] e 0 ≥ 0)) (some (enc31 ((true, [[wrapF .u16 (bitsF .or .i64 64144 g), wrapF .u16 (bitsF .or .i64 (bitsF .or .i64 (bitsF .or .i64 61568 (shlF .i64 (placeI [36, 37, 35, 38] e 0) 4)) (shlF .i64 a 8)) g)]])), [])) (cond (e == 34) (some (enc31 ((true, [[wrapF .u16 (bitsF .or .i64 64176 g), wrapF .u16 t0]])), [])) (some (enc31 ((true, [])), []))))))) (bitsF .or .i64 (bitsF .or .i64 61568 (shlF .i64 a 8)) g)
theorem run31 (e : Int) (v : Bool) (c : Bool) (i : Int) (a : Int) (m : Int) (g : Int) (d : Int) (j : Int) (u : Bool) (t : Int) (o : Int) (s : Int) (p : Bool) (q : Bool) : funK ctx kn32 lt61 3 31 [.agg [.sc (.int .i64 e), .sc (.bool v), .sc (.bool c), .sc (.int .i64 i), .sc (.int .i64 a), .sc (.int .i64 m), .sc (.int .i64 g), .sc (.int .i64 d), .sc (.int .u32 j), .sc (.bool u), .sc (.int .i64 t), .sc (.int .i64 o), .sc (.int .i64 s), .sc (.bool p), .sc (.bool q)]] [] 0 finV = tree31 e v c i a m g d j u t o s p q := by kernel_rfl
noncomputable def p31 (e : Int) (v : Bool) (c : Bool) (i : Int) (a : Int) (m : Int) (g : Int) (d : Int) (j : Int) (u : Bool) (t : Int) (o : Int) (s : Int) (p : Bool) (q : Bool) : (Bool × List (List Int)) := (fun (t0 : Int) => (cond (decide (placeI [17, 18, 19, 20] e 0 ≥ 0)) ((true, [[wrapF .u16 (bitsF .or .i64 (bitsF .or .i64 (bitsF .or .i64 64000 (shlF .i64 (placeI [17, 18, 19, 20] e 0) 5)) (shlF .i64 (p59 c) 4)) m), wrapF .u16 (bitsF .or .i64 (bitsF .or .i64 61440 (shlF .i64 a 8)) g)]])) (cond (decide (placeI [40, 42, 0, 0, 39, 41] e 0 ≥ 0)) ((true, [[wrapF .u16 (bitsF .or .i64 64015 (shlF .i64 (placeI [40, 42, 0, 0, 39, 41] e 0) 4)), wrapF .u16 t0]])) (cond (decide (placeI [36, 37, 35, 38] e 0 ≥ 0)) ((true, [[wrapF .u16 (bitsF .or .i64 64144 g), wrapF .u16 (bitsF .or .i64 (bitsF .or .i64 (bitsF .or .i64 61568 (shlF .i64 (placeI [36, 37, 35, 38] e 0) 4)) (shlF .i64 a 8)) g)]])) (cond (e == 34) ((true, [[wrapF .u16 (bitsF .or .i64 64176 g), wrapF .u16 t0]])) ((true, []))))))) (bitsF .or .i64 (bitsF .or .i64 61568 (shlF .i64 a 8)) g)
theorem told31 (e : Int) (v : Bool) (c : Bool) (i : Int) (a : Int) (m : Int) (g : Int) (d : Int) (j : Int) (u : Bool) (t : Int) (o : Int) (s : Int) (p : Bool) (q : Bool) : Told enc31 (tree31 e v c i a m g d j u t o s p q) (some (p31 e v c i a m g d j u t o s p q)) := (told_p (fun h0 => told_leaf _) (fun h0 => (told_p (fun h1 => told_leaf _) (fun h1 => (told_p (fun h2 => told_leaf _) (fun h2 => (told_p (fun h3 => told_leaf _) (fun h3 => told_leaf _))))))))
noncomputable def k31 (l : List V) : Option (Bool × V) := match l with
  | [.agg [.sc (.int .i64 e), .sc (.bool v), .sc (.bool c), .sc (.int .i64 i), .sc (.int .i64 a), .sc (.int .i64 m), .sc (.int .i64 g), .sc (.int .i64 d), .sc (.int .u32 j), .sc (.bool u), .sc (.int .i64 t), .sc (.int .i64 o), .sc (.int .i64 s), .sc (.bool p), .sc (.bool q)]] => some (true, enc31 (p31 e v c i a m g d j u t o s p q))
  | _ => none
noncomputable def kn31 : Known := kn32.add 31 k31
theorem kn31_ok : KnownOK ctx kn31 201 := Known.add_ok kn32_ok rfl (by omega) (by
  intro l r h
  unfold k31 at h
  split at h
  · simp only [Option.some.injEq, Prod.mk.injEq] at h
    obtain ⟨_, rfl⟩ := h
    exact ⟨(Told.spec kn32_ok (lt61_ok.mono (by omega)) (run31 _ _ _ _ _ _ _ _ _ _ _ _ _ _ _) (told31 _ _ _ _ _ _ _ _ _ _ _ _ _ _ _) rfl).mono (by omega), rfl, (by show closedL 0 (List.map _ _) = true; exact closedL_map 0 _ (fun _ => (by show closedL 0 (List.map _ _) = true; exact closedL_map 0 _ (fun _ => rfl) _)) _)⟩
  · cases h)
def enc30 (y : (Bool × List (List Int))) : V := .sl (y).1 2 ((y).2.map fun y => .agg ((y).map fun y => .sc (.int .u16 y)))
noncomputable def tree30 (e : Int) (v : Bool) (c : Bool) (i : Int) (a : Int) (m : Int) (g : Int) (d : Int) (j : Int) (u : Bool) (t : Int) (o : Int) (s : Int) (p : Bool) (q : Bool) : R := (fun (t1 : Int) => (fun (t2 : Int) => (fun (t0 : R) => (cond (e == 54) (cond (i != 14) (some (enc30 ((true, [[wrapF .u16 (bitsF .or .i64 (bitsF .or .i64 (bitsF .or .i64 61440 (shlF .i64 (bitsF .and .i64 (shrF .i64 t1 20) 1) 10)) (shlF .i64 (bitsF .and .i64 i 15) 6)) (bitsF .and .i64 (shrF .i64 t1 12) 63)), wrapF .u16 (bitsF .or .i64 (bitsF .or .i64 (bitsF .or .i64 32768 (shlF .i64 (bitsF .and .i64 (shrF .i64 t1 18) 1) 13)) (shlF .i64 (bitsF .and .i64 (shrF .i64 t1 19) 1) 11)) (bitsF .and .i64 (shrF .i64 t1 1) 2047))]])), [])) t0) t0)) (some (enc30 ((true, [[wrapF .u16 (bitsF .or .i64 (bitsF .or .i64 61440 (shlF .i64 t2 10)) (bitsF .and .i64 (shrF .i64 t1 12) 1023)), wrapF .u16 (bitsF .or .i64 (bitsF .or .i64 (bitsF .or .i64 (bitsF .or .i64 36864 (shlF .i64 (p59 (e == 55)) 14)) (shlF .i64 (bitsF .xor .i64 (bitsF .xor .i64 1 (bitsF .and .i64 (shrF .i64 t1 23) 1)) t2) 13)) (shlF .i64 (bitsF .xor .i64 (bitsF .xor .i64 1 (bitsF .and .i64 (shrF .i64 t1 22) 1)) t2) 11)) (bitsF .and .i64 (shrF .i64 t1 1) 2047))]])), []))) (bitsF .and .i64 (shrF .i64 t1 24) 1)) (wrapF .i64 j)
theorem run30 (e : Int) (v : Bool) (c : Bool) (i : Int) (a : Int) (m : Int) (g : Int) (d : Int) (j : Int) (u : Bool) (t : Int) (o : Int) (s : Int) (p : Bool) (q : Bool) : funK ctx kn31 lt61 3 30 [.agg [.sc (.int .i64 e), .sc (.bool v), .sc (.bool c), .sc (.int .i64 i), .sc (.int .i64 a), .sc (.int .i64 m), .sc (.int .i64 g), .sc (.int .i64 d), .sc (.int .u32 j), .sc (.bool u), .sc (.int .i64 t), .sc (.int .i64 o), .sc (.int .i64 s), .sc (.bool p), .sc (.bool q)]] [] 0 finV = tree30 e v c i a m g d j u t o s p q := by kernel_rfl
noncomputable def p30 (e : Int) (v : Bool) (c : Bool) (i : Int) (a : Int) (m : Int) (g : Int) (d : Int) (j : Int) (u : Bool) (t : Int) (o : Int) (s : Int) (p : Bool) (q : Bool) : (Bool × List (List Int)) := (fun (t1 : Int) => (fun (t3 : Int) => (fun (t0 : Int) => (fun (t2 : Int) => (cond (e == 54) (cond (i != 14) ((true, [[wrapF .u16 (bitsF .or .i64 (bitsF .or .i64 (bitsF .or .i64 61440 (shlF .i64 (bitsF .and .i64 (shrF .i64 t1 20) 1) 10)) (shlF .i64 (bitsF .and .i64 i 15) 6)) (bitsF .and .i64 (shrF .i64 t1 12) 63)), wrapF .u16 (bitsF .or .i64 (bitsF .or .i64 (bitsF .or .i64 32768 (shlF .i64 (bitsF .and .i64 (shrF .i64 t1 18) 1) 13)) (shlF .i64 (bitsF .and .i64 (shrF .i64 t1 19) 1) 11)) (bitsF .and .i64 (shrF .i64 t1 1) 2047))]])) ((true, [[wrapF .u16 t2, wrapF .u16 t0]]))) ((true, [[wrapF .u16 t2, wrapF .u16 t0]])))) (bitsF .or .i64 (bitsF .or .i64 61440 (shlF .i64 t3 10)) (bitsF .and .i64 (shrF .i64 t1 12) 1023))) (bitsF .or .i64 (bitsF .or .i64 (bitsF .or .i64 (bitsF .or .i64 36864 (shlF .i64 (p59 (e == 55)) 14)) (shlF .i64 (bitsF .xor .i64 (bitsF .xor .i64 1 (bitsF .and .i64 (shrF .i64 t1 23) 1)) t3) 13)) (shlF .i64 (bitsF .xor .i64 (bitsF .xor .i64 1 (bitsF .and .i64 (shrF .i64 t1 22) 1)) t3) 11)) (bitsF .and .i64 (shrF .i64 t1 1) 2047))) (bitsF .and .i64 (shrF .i64 t1 24) 1)) (wrapF .i64 j)
theorem told30 (e : Int) (v : Bool) (c : Bool) (i : Int) (a : Int) (m : Int) (g : Int) (d : Int) (j : Int) (u : Bool) (t : Int) (o : Int) (s : Int) (p : Bool) (q : Bool) : Told enc30 (tree30 e v c i a m g d j u t o s p q) (some (p30 e v c i a m g d j u t o s p q)) := (told_p (fun h0 => (told_p (fun h1 => told_leaf _) (fun h1 => told_leaf _))) (fun h0 => told_leaf _))
noncomputable def k30 (l : List V) : Option (Bool × V) := match l with
  | [.agg [.sc (.int .i64 e), .sc (.bool v), .sc (.bool c), .sc (.int .i64 i), .sc (.int .i64 a), .sc (.int .i64 m), .sc (.int .i64 g), .sc (.int .i64 d), .sc (.int .u32 j), .sc (.bool u), .sc (.int .i64 t), .sc (.int .i64 o), .sc (.int .i64 s), .sc (.bool p), .sc (.bool q)]] => some (true, enc30 (p30 e v c i a m g d j u t o s p q))
  | _ => none
noncomputable def kn30 : Known := kn31.add 30 k30
theorem kn30_ok : KnownOK ctx kn30 204 := Known.add_ok kn31_ok rfl (by omega) (by
  intro l r h
  unfold k30 at h
  split at h
  · simp only [Option.some.injEq, Prod.mk.injEq] at h
    obtain ⟨_, rfl⟩ := h
    exact ⟨(Told.spec kn31_ok (lt61_ok.mono (by omega)) (run30 _ _ _ _ _ _ _ _ _ _ _ _ _ _ _) (told30 _ _ _ _ _ _ _ _ _ _ _ _ _ _ _) rfl).mono (by omega), rfl, (by show closedL 0 (List.map _ _) = true; exact closedL_map 0 _ (fun _ => (by show closedL 0 (List.map _ _) = true; exact closedL_map 0 _ (fun _ => rfl) _)) _)⟩
  · cases h)
end Go.Den
end
section
set_option linter.unusedVariables false
set_option maxRecDepth 100000
namespace Go.Den
noncomputable def lt13 : Loops := lt61.add 13 pathC L13

theorem lt13_ok : LoopsOK ctx lt13 168 := Loops.join (Loops.add_ok0 (kn7_ok.mono (show 165 ≤ 165 by omega)) (noLoops_ok _) 3 rfl fun l H K r h0 => by
  unfold L13 at h0
  obtain ⟨_, _, rfl, h1⟩ := slotK_ok h0
  obtain ⟨v, rfl, h2⟩ := numK_ok h1
  obtain ⟨_, _, rfl, h3⟩ := slotK_ok h2
  obtain ⟨i, rfl, h4⟩ := numK_ok h3
  obtain ⟨rfl, h5⟩ := endL_ok h4
  obtain ⟨rfl, h6⟩ := heapK0_ok h5
  obtain ⟨c1, h7⟩ := cond_l h6
  have c1 := of_decide_eq_true c1
  subst c1
  have hl := loop13 v K 4096 0 ctx.fuel (by omega) (by show 4096 < 70000; omega) (fun m hm => absurd hm (Nat.not_lt_zero m))
  exact hl.trans h7) lt61_ok
end Go.Den
end
