import Derived.Test.YtihdbaehaiaiiaaX35
set_option linter.unusedSimpArgs false
section
set_option linter.unusedVariables false
set_option maxRecDepth 100000
namespace Go.Den

/-- the cells of an instruction -/
def cells30 (y : S30) : List V := [.sc (.int .i64 y.f_Op), .sc (.bool y.f_Wide), .sc (.bool y.f_S), .sc (.int .i64 y.f_Cond), .sc (.int .i64 y.f_D), .sc (.int .i64 y.f_N), .sc (.int .i64 y.f_M), .sc (.int .i64 y.f_A), .sc (.int .u32 y.f_Imm), .sc (.bool y.f_UseImm), .sc (.int .i64 y.f_Sh), .sc (.int .i64 y.f_Amt), .sc (.int .i64 y.f_List), .sc (.bool y.f_Back), .sc (.bool y.f_Down)]

/-- a block that holds an instruction -/
def s30K (cs : List V) (F : S30 → R) : R :=
  consVK cs fun c cs => numK .i64 c fun x0 => consVK cs fun c cs => boolK c fun x1 => consVK cs fun c cs => boolK c fun x2 => consVK cs fun c cs => numK .i64 c fun x3 => consVK cs fun c cs => numK .i64 c fun x4 => consVK cs fun c cs => numK .i64 c fun x5 => consVK cs fun c cs => numK .i64 c fun x6 => consVK cs fun c cs => numK .i64 c fun x7 => consVK cs fun c cs => numK .u32 c fun x8 => consVK cs fun c cs => boolK c fun x9 => consVK cs fun c cs => numK .i64 c fun x10 => consVK cs fun c cs => numK .i64 c fun x11 => consVK cs fun c cs => numK .i64 c fun x12 => consVK cs fun c cs => boolK c fun x13 => consVK cs fun c cs => boolK c fun x14 => nilVK cs (F (S30.mk x0 x1 x2 x3 x4 x5 x6 x7 x8 x9 x10 x11 x12 x13 x14))

theorem s30K_ok {cs : List V} {F : S30 → R} {r : V × Heap} (h0 : s30K cs F = some r) : ∃ y, cs = cells30 y ∧ F y = some r := by
  unfold s30K at h0
  obtain ⟨_, _, rfl, g0⟩ := consVK_ok h0
  obtain ⟨x0, rfl, h1⟩ := numK_ok g0
  obtain ⟨_, _, rfl, g1⟩ := consVK_ok h1
  obtain ⟨x1, rfl, h2⟩ := boolK_ok g1
  obtain ⟨_, _, rfl, g2⟩ := consVK_ok h2
  obtain ⟨x2, rfl, h3⟩ := boolK_ok g2
  obtain ⟨_, _, rfl, g3⟩ := consVK_ok h3
  obtain ⟨x3, rfl, h4⟩ := numK_ok g3
  obtain ⟨_, _, rfl, g4⟩ := consVK_ok h4
  obtain ⟨x4, rfl, h5⟩ := numK_ok g4
  obtain ⟨_, _, rfl, g5⟩ := consVK_ok h5
  obtain ⟨x5, rfl, h6⟩ := numK_ok g5
  obtain ⟨_, _, rfl, g6⟩ := consVK_ok h6
  obtain ⟨x6, rfl, h7⟩ := numK_ok g6
  obtain ⟨_, _, rfl, g7⟩ := consVK_ok h7
  obtain ⟨x7, rfl, h8⟩ := numK_ok g7
  obtain ⟨_, _, rfl, g8⟩ := consVK_ok h8
  obtain ⟨x8, rfl, h9⟩ := numK_ok g8
  obtain ⟨_, _, rfl, g9⟩ := consVK_ok h9
  obtain ⟨x9, rfl, h10⟩ := boolK_ok g9
  obtain ⟨_, _, rfl, g10⟩ := consVK_ok h10
  obtain ⟨x10, rfl, h11⟩ := numK_ok g10
  obtain ⟨_, _, rfl, g11⟩ := consVK_ok h11
  obtain ⟨x11, rfl, h12⟩ := numK_ok g11
  obtain ⟨_, _, rfl, g12⟩ := consVK_ok h12
  obtain ⟨x12, rfl, h13⟩ := numK_ok g12
  obtain ⟨_, _, rfl, g13⟩ := consVK_ok h13
  obtain ⟨x13, rfl, h14⟩ := boolK_ok g13
  obtain ⟨_, _, rfl, g14⟩ := consVK_ok h14
  obtain ⟨x14, rfl, h15⟩ := boolK_ok g14
  obtain ⟨rfl, g⟩ := nilVK_ok h15
  exact ⟨_, rfl, g⟩

abbrev path33 : Path := [false, true, false, true, true]

def h33 (i N : Int) : Int := (bitsF .or .i64 (bitsF .or .i64 (bitsF .or .i64 (bitsF .or .i64 63488 (shlF .i64 (shrF .i64 i 3) 8)) (shlF .i64 (bitsF .and .i64 (shrF .i64 i 1) 3) 5)) (shlF .i64 (bitsF .and .i64 i 1) 4)) N)
def ka33 (D Imm : Int) : Int := (wrapF .u16 (bitsF .or .i64 (shlF .i64 D 12) (wrapF .i64 (bitsF .and .u32 Imm 4095))))
def kb33 (D Imm : Int) : Int := (wrapF .u16 (bitsF .or .i64 (shlF .i64 D 12) (wrapF .i64 (bitsF .and .u32 (wrapF .u32 (0 - Imm)) 4095))))
def kc33 (D Amt M : Int) : Int := (wrapF .u16 (bitsF .or .i64 (bitsF .or .i64 (shlF .i64 D 12) (shlF .i64 (bitsF .and .i64 Amt 3) 4)) M))

/-- what one round tells -/
def m33 (y : S30) (i : Int) : List (List Int) :=
  cond y.f_UseImm (cond (y.f_N == 15) [[wrapF .u16 (bitsF .or .i64 (h33 i y.f_N) 128), ka33 y.f_D y.f_Imm], [wrapF .u16 (h33 i y.f_N), kb33 y.f_D y.f_Imm]]
    [[wrapF .u16 (bitsF .or .i64 (h33 i y.f_N) 128), ka33 y.f_D y.f_Imm]]) [[wrapF .u16 (h33 i y.f_N), kc33 y.f_D y.f_Amt y.f_M]]

theorem m33_len (y : S30) (i : Int) : (m33 y i).length ≤ 2 := by
  unfold m33
  cases y.f_UseImm <;> cases (y.f_N == 15) <;> simp

def all33 (y : S30) (i : Nat) : Nat → List (List Int)
  | 0 => []
  | j + 1 => m33 y (i : Int) ++ all33 y (i + 1) j

theorem body33 (xs : List V) (i : Int) (Op : Int) (Wide : Bool) (S : Bool) (Cond : Int) (D : Int) (N : Int) (M : Int) (A : Int) (Imm : Int) (UseImm : Bool) (Sh : Int) (Amt : Int) (Ls : Int) (Back : Bool) (Down : Bool) (K : Ex → Fr → Heap → R) : bodyK ctx kn30 lt13 3 33 path33 0 [(1, .ptr 0 0), (3, .sl true 2 xs), (9, .sc (.int .i64 i))] [cells30 (S30.mk Op Wide S Cond D N M A Imm UseImm Sh Amt Ls Back Down)] K = (cond (closedL 1 xs && true && true) (cond (decide (i < 16)) (cond (UseImm) (cond (N == 15) (cond (decide ((xs.length + 2) * 4 ≤ 140737488355328)) (cond (closedL 1 (xs ++ List.map V.dem [V.agg [V.sc (Value.int .u16 (wrapF .u16 (bitsF .or .i64 (h33 i N) 128))), V.sc (Value.int .u16 (ka33 D Imm))], V.agg [V.sc (Value.int .u16 (wrapF .u16 (h33 i N))), V.sc (Value.int .u16 (kb33 D Imm))]]) && true && true) (K .nrm [(1, .ptr (0) (0)), (3, .sl (true) (2) (xs ++ List.map V.dem [V.agg [V.sc (Value.int .u16 (wrapF .u16 (bitsF .or .i64 (h33 i N) 128))), V.sc (Value.int .u16 (ka33 D Imm))], V.agg [V.sc (Value.int .u16 (wrapF .u16 (h33 i N))), V.sc (Value.int .u16 (kb33 D Imm))]])), (9, .sc (.int .i64 (wrapF .i64 (i + 1))))] [cells30 (S30.mk Op Wide S Cond D N M A Imm UseImm Sh Amt Ls Back Down)]) none) none) (cond (UseImm) (cond (decide ((xs.length + 1) * 4 ≤ 140737488355328)) (cond (closedL 1 (xs ++ List.map V.dem [V.agg [V.sc (Value.int .u16 (wrapF .u16 (bitsF .or .i64 (h33 i N) 128))), V.sc (Value.int .u16 (ka33 D Imm))]]) && true && true) (K .nrm [(1, .ptr (0) (0)), (3, .sl (true) (2) (xs ++ List.map V.dem [V.agg [V.sc (Value.int .u16 (wrapF .u16 (bitsF .or .i64 (h33 i N) 128))), V.sc (Value.int .u16 (ka33 D Imm))]])), (9, .sc (.int .i64 (wrapF .i64 (i + 1))))] [cells30 (S30.mk Op Wide S Cond D N M A Imm UseImm Sh Amt Ls Back Down)]) none) none) (cond (decide ((xs.length + 1) * 4 ≤ 140737488355328)) (cond (closedL 1 (xs ++ List.map V.dem [V.agg [V.sc (Value.int .u16 (wrapF .u16 (h33 i N))), V.sc (Value.int .u16 (kc33 D Amt M))]]) && true && true) (K .nrm [(1, .ptr (0) (0)), (3, .sl (true) (2) (xs ++ List.map V.dem [V.agg [V.sc (Value.int .u16 (wrapF .u16 (h33 i N))), V.sc (Value.int .u16 (kc33 D Amt M))]])), (9, .sc (.int .i64 (wrapF .i64 (i + 1))))] [cells30 (S30.mk Op Wide S Cond D N M A Imm UseImm Sh Amt Ls Back Down)]) none) none))) (cond (UseImm) (cond (decide ((xs.length + 1) * 4 ≤ 140737488355328)) (cond (closedL 1 (xs ++ List.map V.dem [V.agg [V.sc (Value.int .u16 (wrapF .u16 (bitsF .or .i64 (h33 i N) 128))), V.sc (Value.int .u16 (ka33 D Imm))]]) && true && true) (K .nrm [(1, .ptr (0) (0)), (3, .sl (true) (2) (xs ++ List.map V.dem [V.agg [V.sc (Value.int .u16 (wrapF .u16 (bitsF .or .i64 (h33 i N) 128))), V.sc (Value.int .u16 (ka33 D Imm))]])), (9, .sc (.int .i64 (wrapF .i64 (i + 1))))] [cells30 (S30.mk Op Wide S Cond D N M A Imm UseImm Sh Amt Ls Back Down)]) none) none) (cond (decide ((xs.length + 1) * 4 ≤ 140737488355328)) (cond (closedL 1 (xs ++ List.map V.dem [V.agg [V.sc (Value.int .u16 (wrapF .u16 (h33 i N))), V.sc (Value.int .u16 (kc33 D Amt M))]]) && true && true) (K .nrm [(1, .ptr (0) (0)), (3, .sl (true) (2) (xs ++ List.map V.dem [V.agg [V.sc (Value.int .u16 (wrapF .u16 (h33 i N))), V.sc (Value.int .u16 (kc33 D Amt M))]])), (9, .sc (.int .i64 (wrapF .i64 (i + 1))))] [cells30 (S30.mk Op Wide S Cond D N M A Imm UseImm Sh Amt Ls Back Down)]) none) none))) (K (.ext 0) [(10, .sc (.bool (false))), (1, .ptr (0) (0)), (3, .sl (true) (2) (xs)), (9, .sc (.int .i64 (i))), (10, .sc (.bool (decide (i < 16))))] [cells30 (S30.mk Op Wide S Cond D N M A Imm UseImm Sh Amt Ls Back Down)])) none) := by kernel_rfl

theorem app1 (l : List (List Int)) (a b : Int) : l.map enc60 ++ List.map V.dem [V.agg [V.sc (Value.int .u16 a), V.sc (Value.int .u16 b)]] = (l ++ [[a, b]]).map enc60 := by
  rw [List.map_append]
  rfl

theorem app2 (l : List (List Int)) (a b c d : Int) : l.map enc60 ++ List.map V.dem [V.agg [V.sc (Value.int .u16 a), V.sc (Value.int .u16 b)], V.agg [V.sc (Value.int .u16 c), V.sc (Value.int .u16 d)]] = (l ++ [[a, b], [c, d]]).map enc60 := by
  rw [List.map_append]
  rfl

theorem clos60 (l : List (List Int)) : closedL 1 (l.map enc60) = true := closed_rows 1 .u16 l

def fr33 (l : List (List Int)) (i : Int) : Fr := [(1, .ptr 0 0), (3, .sl true 2 (l.map enc60)), (9, .sc (.int .i64 i))]
def ex33 (l : List (List Int)) : Fr := [(10, .sc (.bool false)), (1, .ptr 0 0), (3, .sl true 2 (l.map enc60)), (9, .sc (.int .i64 16)), (10, .sc (.bool false))]

theorem step33 (y : S30) (l : List (List Int)) (i : Int) (hl : l.length ≤ 1000) (hi : i < 16) (K : Ex → Fr → Heap → R) :
    bodyK ctx kn30 lt13 3 33 path33 0 (fr33 l i) [cells30 y] K = K .nrm (fr33 (l ++ m33 y i) (wrapF .i64 (i + 1))) [cells30 y] := by
  obtain ⟨Op, Wide, S, Cond, D, N, M, A, Imm, UseImm, Sh, Amt, Ls, Back, Down⟩ := y
  unfold fr33 m33
  rw [body33]
  simp only [app1, app2, clos60, List.length_map, Bool.and_self, cond_true, decide_eq_true hi]
  have h2 : decide ((l.length + 2) * 4 ≤ 140737488355328) = true := decide_eq_true (by omega)
  have h1 : decide ((l.length + 1) * 4 ≤ 140737488355328) = true := decide_eq_true (by omega)
  rw [h1, h2]
  cases UseImm <;> cases (N == 15) <;> rfl

theorem last33 (y : S30) (l : List (List Int)) (K : Ex → Fr → Heap → R) :
    bodyK ctx kn30 lt13 3 33 path33 0 (fr33 l 16) [cells30 y] K = K (.ext 0) (ex33 l) [cells30 y] := by
  obtain ⟨Op, Wide, S, Cond, D, N, M, A, Imm, UseImm, Sh, Amt, Ls, Back, Down⟩ := y
  unfold fr33 ex33
  rw [body33]
  simp only [clos60, Bool.and_self, cond_true]
  rfl

theorem loop33 (y : S30) (K : Ex → Fr → Heap → R) : ∀ (j i N : Nat) (l : List (List Int)), i + j = 16 → j < N → l.length ≤ 2 * i →
    iterK (bodyK ctx kn30 lt13 3 33 path33 0) N (fr33 l (i : Int)) [cells30 y] K = K (.ext 0) (ex33 (l ++ all33 y i j)) [cells30 y] := by
  intro j
  induction j with
  | zero =>
    intro i N l hi hN hl
    obtain ⟨N, rfl⟩ : ∃ m, N = m + 1 := ⟨N - 1, by omega⟩
    have h0 : i = 16 := by omega
    subst h0
    simp only [iterK]
    rw [show ((16 : Nat) : Int) = 16 from rfl, last33]
    simp only [all33, List.append_nil]
  | succ j ih =>
    intro i N l hi hN hl
    obtain ⟨N, rfl⟩ : ∃ m, N = m + 1 := ⟨N - 1, by omega⟩
    simp only [iterK]
    rw [step33 y l _ (by omega) (by omega)]
    have e : wrapF .i64 ((i : Int) + 1) = ((i + 1 : Nat) : Int) := by
      rw [wrapF_le (by omega) (by simp only [topN, Int.ofNat_eq_natCast]; omega)]
      omega
    rw [e]
    have hm := m33_len y (i : Int)
    have := ih (i + 1) N (l ++ m33 y (i : Int)) (by omega) (by omega) (by rw [List.length_append]; omega)
    simp only [this, all33, List.append_assoc]

noncomputable def L33 : LoopT := fun l H K =>
  slotK 1 l fun v1 l => ptrK 0 0 v1 <| slotK 3 l fun v3 l => slK v3 fun o kk xs => slotK 9 l fun v9 l => numK .i64 v9 fun i => endL l <|
  heapKc H fun cs H => heapK0 H <| s30K cs fun y =>
  cond o (cond (Nat.beq kk 2) (cond (decide (i = 0)) (nilVK xs (K (.ext 0) (ex33 (all33 y 0 16)) [cells30 y])) none) none) none

noncomputable def lt33 : Loops := lt13.add 33 path33 L33

theorem lt33_ok : LoopsOK ctx lt33 207 := Loops.add_ok0 kn30_ok (lt13_ok.mono (by omega)) 3 rfl fun l H K r h0 => by
  unfold L33 at h0
  obtain ⟨_, _, rfl, h1⟩ := slotK_ok h0
  obtain ⟨rfl, h2⟩ := ptrK_ok h1
  obtain ⟨_, _, rfl, h3⟩ := slotK_ok h2
  obtain ⟨o, kk, xs, rfl, h4⟩ := slK_ok h3
  obtain ⟨_, _, rfl, h5⟩ := slotK_ok h4
  obtain ⟨i, rfl, h6⟩ := numK_ok h5
  obtain ⟨rfl, h7⟩ := endL_ok h6
  obtain ⟨cs, _, rfl, h8⟩ := heapKc_ok h7
  obtain ⟨rfl, h9⟩ := heapK0_ok h8
  obtain ⟨y, rfl, h10⟩ := s30K_ok h9
  obtain ⟨rfl, h11⟩ := cond_l h10
  obtain ⟨c1, h12⟩ := cond_l h11
  obtain ⟨c2, h13⟩ := cond_l h12
  obtain ⟨rfl, h14⟩ := nilVK_ok h13
  have c1 := Nat.eq_of_beq_eq_true c1
  have c2 := of_decide_eq_true c2
  subst c1 c2
  have hl := loop33 y K 16 0 ctx.fuel [] (by omega) (by show 16 < 70000; omega) (by simp)
  simp only [List.nil_append] at hl
  exact hl.trans h14

noncomputable def kn30b : Known := kn30
theorem kn30b_ok : KnownOK ctx kn30b 207 := kn30_ok.mono (by omega)

end Go.Den
end
section
set_option linter.unusedVariables false
set_option maxRecDepth 100000
namespace Go.Den
def enc33 (y : (Bool × List (List Int))) : V := .sl (y).1 2 ((y).2.map fun y => .agg ((y).map fun y => .sc (.int .u16 y)))
noncomputable def tree33 (e : Int) (v : Bool) (d : Bool) (m : Int) (a : Int) (g : Int) (s : Int) (c : Int) (p : Int) (u : Bool) (t : Int) (i : Int) (q : Int) (j : Bool) (o : Bool) : R := (some (enc33 ((false, all33 { f_Op := e, f_Wide := v, f_S := d, f_Cond := m, f_D := a, f_N := g, f_M := s, f_A := c, f_Imm := p, f_UseImm := u, f_Sh := t, f_Amt := i, f_List := q, f_Back := j, f_Down := o } 0 16)), []))
theorem run33 (e : Int) (v : Bool) (d : Bool) (m : Int) (a : Int) (g : Int) (s : Int) (c : Int) (p : Int) (u : Bool) (t : Int) (i : Int) (q : Int) (j : Bool) (o : Bool) : funK ctx kn30b lt33 3 33 [.agg [.sc (.int .i64 e), .sc (.bool v), .sc (.bool d), .sc (.int .i64 m), .sc (.int .i64 a), .sc (.int .i64 g), .sc (.int .i64 s), .sc (.int .i64 c), .sc (.int .u32 p), .sc (.bool u), .sc (.int .i64 t), .sc (.int .i64 i), .sc (.int .i64 q), .sc (.bool j), .sc (.bool o)]] [] 0 finV = tree33 e v d m a g s c p u t i q j o := by kernel_rfl
noncomputable def p33 (e : Int) (v : Bool) (d : Bool) (m : Int) (a : Int) (g : Int) (s : Int) (c : Int) (p : Int) (u : Bool) (t : Int) (i : Int) (q : Int) (j : Bool) (o : Bool) : (Bool × List (List Int)) := ((false, all33 { f_Op := e, f_Wide := v, f_S := d, f_Cond := m, f_D := a, f_N := g, f_M := s, f_A := c, f_Imm := p, f_UseImm := u, f_Sh := t, f_Amt := i, f_List := q, f_Back := j, f_Down := o } 0 16))
theorem told33 (e : Int) (v : Bool) (d : Bool) (m : Int) (a : Int) (g : Int) (s : Int) (c : Int) (p : Int) (u : Bool) (t : Int) (i : Int) (q : Int) (j : Bool) (o : Bool) : Told enc33 (tree33 e v d m a g s c p u t i q j o) (some (p33 e v d m a g s c p u t i q j o)) := told_leaf _
noncomputable def k33 (l : List V) : Option (Bool × V) := match l with
  | [.agg [.sc (.int .i64 e), .sc (.bool v), .sc (.bool d), .sc (.int .i64 m), .sc (.int .i64 a), .sc (.int .i64 g), .sc (.int .i64 s), .sc (.int .i64 c), .sc (.int .u32 p), .sc (.bool u), .sc (.int .i64 t), .sc (.int .i64 i), .sc (.int .i64 q), .sc (.bool j), .sc (.bool o)]] => some (true, enc33 (p33 e v d m a g s c p u t i q j o))
  | _ => none
noncomputable def kn33 : Known := kn30b.add 33 k33
theorem kn33_ok : KnownOK ctx kn33 210 := Known.add_ok kn30b_ok rfl (by omega) (by
  intro l r h
  unfold k33 at h
  split at h
  · simp only [Option.some.injEq, Prod.mk.injEq] at h
    obtain ⟨_, rfl⟩ := h
    exact ⟨(Told.spec kn30b_ok (lt33_ok.mono (by omega)) (run33 _ _ _ _ _ _ _ _ _ _ _ _ _ _ _) (told33 _ _ _ _ _ _ _ _ _ _ _ _ _ _ _) rfl).mono (by omega), rfl, (by show closedL 0 (List.map _ _) = true; exact closedL_map 0 _ (fun _ => (by show closedL 0 (List.map _ _) = true; exact closedL_map 0 _ (fun _ => rfl) _)) _)⟩
  · cases h)
def enc64 (y : Int) : V := .sc (.int .i64 y)
noncomputable def tree64 (x0 : Int) : R := (fun (t3 : R) => (fun (t1 : R) => (fun (t0 : R) => (fun (t4 : R) => (fun (t2 : R) => (cond (decide (x0 ≥ 1)) (cond (decide (x0 ≤ 20)) (some (enc64 (1), [])) t2) t2)) (cond (x0 == 43) (some (enc64 (1), [])) (cond (decide (x0 ≥ 21)) (cond (decide (x0 ≤ 29)) (some (enc64 (2), [])) t4) t4))) (cond (decide (x0 ≥ 30)) (cond (decide (x0 ≤ 42)) (some (enc64 (3), [])) t0) t0)) (cond (decide (x0 ≥ 44)) (cond (decide (x0 ≤ 51)) (some (enc64 (4), [])) t1) t1)) (cond (x0 == 52) (some (enc64 (5), [])) (cond (x0 == 53) (some (enc64 (5), [])) (cond (decide (x0 ≥ 54)) (cond (decide (x0 ≤ 59)) (some (enc64 (6), [])) t3) t3)))) (cond (decide (x0 ≥ 60)) (cond (decide (x0 < 66)) (some (enc64 (7), [])) (some (enc64 (0), []))) (some (enc64 (0), [])))
theorem run64 (x0 : Int) : funK ctx kn33 lt33 3 64 [.sc (.int .i64 x0)] [] 0 finV = tree64 x0 := by kernel_rfl
noncomputable def p64 (x0 : Int) : Int := (fun (t1 : Int) => (fun (t0 : Int) => (fun (t2 : Int) => (cond (decide (x0 ≥ 1)) (cond (decide (x0 ≤ 20)) (1) t2) t2)) (cond (x0 == 43) (1) (cond (decide (x0 ≥ 21)) (cond (decide (x0 ≤ 29)) (2) (cond (decide (x0 ≥ 30)) (cond (decide (x0 ≤ 42)) (3) t0) t0)) (cond (decide (x0 ≥ 30)) (cond (decide (x0 ≤ 42)) (3) t0) t0)))) (cond (decide (x0 ≥ 44)) (cond (decide (x0 ≤ 51)) (4) t1) t1)) (cond (x0 == 52) (5) (cond (x0 == 53) (5) (cond (decide (x0 ≥ 54)) (cond (decide (x0 ≤ 59)) (6) (cond (decide (x0 ≥ 60)) (cond (decide (x0 < 66)) (7) (0)) (0))) (cond (decide (x0 ≥ 60)) (cond (decide (x0 < 66)) (7) (0)) (0)))))
theorem told64 (x0 : Int) : Told enc64 (tree64 x0) (some (p64 x0)) := (told_p (fun h0 => (told_p (fun h1 => told_leaf _) (fun h1 => (told_p (fun h2 => told_leaf _) (fun h2 => (told_p (fun h3 => (told_p (fun h4 => told_leaf _) (fun h4 => (told_p (fun h5 => (told_p (fun h6 => told_leaf _) (fun h6 => (told_p (fun h7 => (told_p (fun h8 => told_leaf _) (fun h8 => (told_p (fun h9 => told_leaf _) (fun h9 => (told_p (fun h10 => told_leaf _) (fun h10 => (told_p (fun h11 => (told_p (fun h12 => told_leaf _) (fun h12 => (told_p (fun h13 => (told_p (fun h14 => told_leaf _) (fun h14 => told_leaf _))) (fun h13 => told_leaf _))))) (fun h11 => (told_p (fun h12 => (told_p (fun h13 => told_leaf _) (fun h13 => told_leaf _))) (fun h12 => told_leaf _))))))))))) (fun h7 => (told_p (fun h8 => told_leaf _) (fun h8 => (told_p (fun h9 => told_leaf _) (fun h9 => (told_p (fun h10 => (told_p (fun h11 => told_leaf _) (fun h11 => (told_p (fun h12 => (told_p (fun h13 => told_leaf _) (fun h13 => told_leaf _))) (fun h12 => told_leaf _))))) (fun h10 => (told_p (fun h11 => (told_p (fun h12 => told_leaf _) (fun h12 => told_leaf _))) (fun h11 => told_leaf _))))))))))))) (fun h5 => (told_p (fun h6 => (told_p (fun h7 => told_leaf _) (fun h7 => (told_p (fun h8 => told_leaf _) (fun h8 => (told_p (fun h9 => told_leaf _) (fun h9 => (told_p (fun h10 => (told_p (fun h11 => told_leaf _) (fun h11 => (told_p (fun h12 => (told_p (fun h13 => told_leaf _) (fun h13 => told_leaf _))) (fun h12 => told_leaf _))))) (fun h10 => (told_p (fun h11 => (told_p (fun h12 => told_leaf _) (fun h12 => told_leaf _))) (fun h11 => told_leaf _))))))))))) (fun h6 => (told_p (fun h7 => told_leaf _) (fun h7 => (told_p (fun h8 => told_leaf _) (fun h8 => (told_p (fun h9 => (told_p (fun h10 => told_leaf _) (fun h10 => (told_p (fun h11 => (told_p (fun h12 => told_leaf _) (fun h12 => told_leaf _))) (fun h11 => told_leaf _))))) (fun h9 => (told_p (fun h10 => (told_p (fun h11 => told_leaf _) (fun h11 => told_leaf _))) (fun h10 => told_leaf _))))))))))))))) (fun h3 => (told_p (fun h4 => (told_p (fun h5 => told_leaf _) (fun h5 => (told_p (fun h6 => (told_p (fun h7 => told_leaf _) (fun h7 => (told_p (fun h8 => told_leaf _) (fun h8 => (told_p (fun h9 => told_leaf _) (fun h9 => (told_p (fun h10 => (told_p (fun h11 => told_leaf _) (fun h11 => (told_p (fun h12 => (told_p (fun h13 => told_leaf _) (fun h13 => told_leaf _))) (fun h12 => told_leaf _))))) (fun h10 => (told_p (fun h11 => (told_p (fun h12 => told_leaf _) (fun h12 => told_leaf _))) (fun h11 => told_leaf _))))))))))) (fun h6 => (told_p (fun h7 => told_leaf _) (fun h7 => (told_p (fun h8 => told_leaf _) (fun h8 => (told_p (fun h9 => (told_p (fun h10 => told_leaf _) (fun h10 => (told_p (fun h11 => (told_p (fun h12 => told_leaf _) (fun h12 => told_leaf _))) (fun h11 => told_leaf _))))) (fun h9 => (told_p (fun h10 => (told_p (fun h11 => told_leaf _) (fun h11 => told_leaf _))) (fun h10 => told_leaf _))))))))))))) (fun h4 => (told_p (fun h5 => (told_p (fun h6 => told_leaf _) (fun h6 => (told_p (fun h7 => told_leaf _) (fun h7 => (told_p (fun h8 => told_leaf _) (fun h8 => (told_p (fun h9 => (told_p (fun h10 => told_leaf _) (fun h10 => (told_p (fun h11 => (told_p (fun h12 => told_leaf _) (fun h12 => told_leaf _))) (fun h11 => told_leaf _))))) (fun h9 => (told_p (fun h10 => (told_p (fun h11 => told_leaf _) (fun h11 => told_leaf _))) (fun h10 => told_leaf _))))))))))) (fun h5 => (told_p (fun h6 => told_leaf _) (fun h6 => (told_p (fun h7 => told_leaf _) (fun h7 => (told_p (fun h8 => (told_p (fun h9 => told_leaf _) (fun h9 => (told_p (fun h10 => (told_p (fun h11 => told_leaf _) (fun h11 => told_leaf _))) (fun h10 => told_leaf _))))) (fun h8 => (told_p (fun h9 => (told_p (fun h10 => told_leaf _) (fun h10 => told_leaf _))) (fun h9 => told_leaf _))))))))))))))))))) (fun h0 => (told_p (fun h1 => told_leaf _) (fun h1 => (told_p (fun h2 => (told_p (fun h3 => told_leaf _) (fun h3 => (told_p (fun h4 => (told_p (fun h5 => told_leaf _) (fun h5 => (told_p (fun h6 => (told_p (fun h7 => told_leaf _) (fun h7 => (told_p (fun h8 => told_leaf _) (fun h8 => (told_p (fun h9 => told_leaf _) (fun h9 => (told_p (fun h10 => (told_p (fun h11 => told_leaf _) (fun h11 => (told_p (fun h12 => (told_p (fun h13 => told_leaf _) (fun h13 => told_leaf _))) (fun h12 => told_leaf _))))) (fun h10 => (told_p (fun h11 => (told_p (fun h12 => told_leaf _) (fun h12 => told_leaf _))) (fun h11 => told_leaf _))))))))))) (fun h6 => (told_p (fun h7 => told_leaf _) (fun h7 => (told_p (fun h8 => told_leaf _) (fun h8 => (told_p (fun h9 => (told_p (fun h10 => told_leaf _) (fun h10 => (told_p (fun h11 => (told_p (fun h12 => told_leaf _) (fun h12 => told_leaf _))) (fun h11 => told_leaf _))))) (fun h9 => (told_p (fun h10 => (told_p (fun h11 => told_leaf _) (fun h11 => told_leaf _))) (fun h10 => told_leaf _))))))))))))) (fun h4 => (told_p (fun h5 => (told_p (fun h6 => told_leaf _) (fun h6 => (told_p (fun h7 => told_leaf _) (fun h7 => (told_p (fun h8 => told_leaf _) (fun h8 => (told_p (fun h9 => (told_p (fun h10 => told_leaf _) (fun h10 => (told_p (fun h11 => (told_p (fun h12 => told_leaf _) (fun h12 => told_leaf _))) (fun h11 => told_leaf _))))) (fun h9 => (told_p (fun h10 => (told_p (fun h11 => told_leaf _) (fun h11 => told_leaf _))) (fun h10 => told_leaf _))))))))))) (fun h5 => (told_p (fun h6 => told_leaf _) (fun h6 => (told_p (fun h7 => told_leaf _) (fun h7 => (told_p (fun h8 => (told_p (fun h9 => told_leaf _) (fun h9 => (told_p (fun h10 => (told_p (fun h11 => told_leaf _) (fun h11 => told_leaf _))) (fun h10 => told_leaf _))))) (fun h8 => (told_p (fun h9 => (told_p (fun h10 => told_leaf _) (fun h10 => told_leaf _))) (fun h9 => told_leaf _))))))))))))))) (fun h2 => (told_p (fun h3 => (told_p (fun h4 => told_leaf _) (fun h4 => (told_p (fun h5 => (told_p (fun h6 => told_leaf _) (fun h6 => (told_p (fun h7 => told_leaf _) (fun h7 => (told_p (fun h8 => told_leaf _) (fun h8 => (told_p (fun h9 => (told_p (fun h10 => told_leaf _) (fun h10 => (told_p (fun h11 => (told_p (fun h12 => told_leaf _) (fun h12 => told_leaf _))) (fun h11 => told_leaf _))))) (fun h9 => (told_p (fun h10 => (told_p (fun h11 => told_leaf _) (fun h11 => told_leaf _))) (fun h10 => told_leaf _))))))))))) (fun h5 => (told_p (fun h6 => told_leaf _) (fun h6 => (told_p (fun h7 => told_leaf _) (fun h7 => (told_p (fun h8 => (told_p (fun h9 => told_leaf _) (fun h9 => (told_p (fun h10 => (told_p (fun h11 => told_leaf _) (fun h11 => told_leaf _))) (fun h10 => told_leaf _))))) (fun h8 => (told_p (fun h9 => (told_p (fun h10 => told_leaf _) (fun h10 => told_leaf _))) (fun h9 => told_leaf _))))))))))))) (fun h3 => (told_p (fun h4 => (told_p (fun h5 => told_leaf _) (fun h5 => (told_p (fun h6 => told_leaf _) (fun h6 => (told_p (fun h7 => told_leaf _) (fun h7 => (told_p (fun h8 => (told_p (fun h9 => told_leaf _) (fun h9 => (told_p (fun h10 => (told_p (fun h11 => told_leaf _) (fun h11 => told_leaf _))) (fun h10 => told_leaf _))))) (fun h8 => (told_p (fun h9 => (told_p (fun h10 => told_leaf _) (fun h10 => told_leaf _))) (fun h9 => told_leaf _))))))))))) (fun h4 => (told_p (fun h5 => told_leaf _) (fun h5 => (told_p (fun h6 => told_leaf _) (fun h6 => (told_p (fun h7 => (told_p (fun h8 => told_leaf _) (fun h8 => (told_p (fun h9 => (told_p (fun h10 => told_leaf _) (fun h10 => told_leaf _))) (fun h9 => told_leaf _))))) (fun h7 => (told_p (fun h8 => (told_p (fun h9 => told_leaf _) (fun h9 => told_leaf _))) (fun h8 => told_leaf _))))))))))))))))))
noncomputable def k64 (l : List V) : Option (Bool × V) := match l with
  | [.sc (.int .i64 x0)] => some (true, enc64 (p64 x0))
  | _ => none
noncomputable def kn64 : Known := kn33.add 64 k64
theorem kn64_ok : KnownOK ctx kn64 213 := Known.add_ok kn33_ok rfl (by omega) (by
  intro l r h
  unfold k64 at h
  split at h
  · simp only [Option.some.injEq, Prod.mk.injEq] at h
    obtain ⟨_, rfl⟩ := h
    exact ⟨(Told.spec kn33_ok (lt33_ok.mono (by omega)) (run64 _) (told64 _) rfl).mono (by omega), rfl, rfl⟩
  · cases h)
def enc85 (y : Bool) : V := .sc (.bool y)
noncomputable def tree85 (x0 : Int) : R := (cond (decide (x0 ≥ 17)) (some (enc85 (decide (x0 ≤ 20)), [])) (some (enc85 (false), [])))
theorem run85 (x0 : Int) : funK ctx kn64 lt33 3 85 [.sc (.int .i64 x0)] [] 0 finV = tree85 x0 := by kernel_rfl
noncomputable def p85 (x0 : Int) : Bool := (cond (decide (x0 ≥ 17)) (decide (x0 ≤ 20)) (false))
theorem told85 (x0 : Int) : Told enc85 (tree85 x0) (some (p85 x0)) := (told_p (fun h0 => told_leaf _) (fun h0 => told_leaf _))
noncomputable def k85 (l : List V) : Option (Bool × V) := match l with
  | [.sc (.int .i64 x0)] => some (true, enc85 (p85 x0))
  | _ => none
noncomputable def kn85 : Known := kn64.add 85 k85
theorem kn85_ok : KnownOK ctx kn85 216 := Known.add_ok kn64_ok rfl (by omega) (by
  intro l r h
  unfold k85 at h
  split at h
  · simp only [Option.some.injEq, Prod.mk.injEq] at h
    obtain ⟨_, rfl⟩ := h
    exact ⟨(Told.spec kn64_ok (lt33_ok.mono (by omega)) (run85 _) (told85 _) rfl).mono (by omega), rfl, rfl⟩
  · cases h)
def enc68 (y : Int) : V := .sc (.int .i64 y)
noncomputable def tree68 (x0 : Bool) : R := (cond (x0) (some (enc68 (1), [])) (some (enc68 (0), [])))
theorem run68 (x0 : Bool) : funK ctx kn85 lt33 3 68 [.sc (.bool x0)] [] 0 finV = tree68 x0 := by kernel_rfl
noncomputable def p68 (x0 : Bool) : Int := (cond (x0) (1) (0))
theorem told68 (x0 : Bool) : Told enc68 (tree68 x0) (some (p68 x0)) := (told_p (fun h0 => told_leaf _) (fun h0 => told_leaf _))
noncomputable def k68 (l : List V) : Option (Bool × V) := match l with
  | [.sc (.bool x0)] => some (true, enc68 (p68 x0))
  | _ => none
noncomputable def kn68 : Known := kn85.add 68 k68
theorem kn68_ok : KnownOK ctx kn68 219 := Known.add_ok kn85_ok rfl (by omega) (by
  intro l r h
  unfold k68 at h
  split at h
  · simp only [Option.some.injEq, Prod.mk.injEq] at h
    obtain ⟨_, rfl⟩ := h
    exact ⟨(Told.spec kn85_ok (lt33_ok.mono (by omega)) (run68 _) (told68 _) rfl).mono (by omega), rfl, rfl⟩
  · cases h)
def enc84 (y : (Int × Int × Int)) : V := .tup [.sc (.int .i64 y.1), .sc (.int .i64 y.2.1), .sc (.int .i64 y.2.2)]
noncomputable def tree84 (e : Int) (v : Bool) (d : Bool) (m : Int) (a : Int) (g : Int) (s : Int) (c : Int) (p : Int) (u : Bool) (t : Int) (i : Int) (q : Int) (j : Bool) (o : Bool) : R := (cond (e == 8) (some (enc84 ((0, 15, g)), [])) (cond (e == 9) (some (enc84 ((4, 15, g)), [])) (cond (e == 11) (some (enc84 ((8, 15, g)), [])) (cond (e == 10) (some (enc84 ((13, 15, g)), [])) (cond (e == 13) (some (enc84 ((2, a, 15)), [])) (cond (e == 15) (some (enc84 ((3, a, 15)), [])) (some (enc84 ((placeR [1, 14, 12, 16, 2, -1, -1, -1, 5, -1, 6, 7, -1, 3, 4] e 0, a, g)), []))))))))
theorem run84 (e : Int) (v : Bool) (d : Bool) (m : Int) (a : Int) (g : Int) (s : Int) (c : Int) (p : Int) (u : Bool) (t : Int) (i : Int) (q : Int) (j : Bool) (o : Bool) : funK ctx kn68 lt33 3 84 [.agg [.sc (.int .i64 e), .sc (.bool v), .sc (.bool d), .sc (.int .i64 m), .sc (.int .i64 a), .sc (.int .i64 g), .sc (.int .i64 s), .sc (.int .i64 c), .sc (.int .u32 p), .sc (.bool u), .sc (.int .i64 t), .sc (.int .i64 i), .sc (.int .i64 q), .sc (.bool j), .sc (.bool o)]] [] 0 finV = tree84 e v d m a g s c p u t i q j o := by kernel_rfl
noncomputable def p84 (e : Int) (v : Bool) (d : Bool) (m : Int) (a : Int) (g : Int) (s : Int) (c : Int) (p : Int) (u : Bool) (t : Int) (i : Int) (q : Int) (j : Bool) (o : Bool) : (Int × Int × Int) := (cond (e == 8) ((0, 15, g)) (cond (e == 9) ((4, 15, g)) (cond (e == 11) ((8, 15, g)) (cond (e == 10) ((13, 15, g)) (cond (e == 13) ((2, a, 15)) (cond (e == 15) ((3, a, 15)) ((placeR [1, 14, 12, 16, 2, -1, -1, -1, 5, -1, 6, 7, -1, 3, 4] e 0, a, g))))))))
theorem told84 (e : Int) (v : Bool) (d : Bool) (m : Int) (a : Int) (g : Int) (s : Int) (c : Int) (p : Int) (u : Bool) (t : Int) (i : Int) (q : Int) (j : Bool) (o : Bool) : Told enc84 (tree84 e v d m a g s c p u t i q j o) (some (p84 e v d m a g s c p u t i q j o)) := (told_p (fun h0 => told_leaf _) (fun h0 => (told_p (fun h1 => told_leaf _) (fun h1 => (told_p (fun h2 => told_leaf _) (fun h2 => (told_p (fun h3 => told_leaf _) (fun h3 => (told_p (fun h4 => told_leaf _) (fun h4 => (told_p (fun h5 => told_leaf _) (fun h5 => told_leaf _))))))))))))
noncomputable def k84 (l : List V) : Option (Bool × V) := match l with
  | [.agg [.sc (.int .i64 e), .sc (.bool v), .sc (.bool d), .sc (.int .i64 m), .sc (.int .i64 a), .sc (.int .i64 g), .sc (.int .i64 s), .sc (.int .i64 c), .sc (.int .u32 p), .sc (.bool u), .sc (.int .i64 t), .sc (.int .i64 i), .sc (.int .i64 q), .sc (.bool j), .sc (.bool o)]] => some (true, enc84 (p84 e v d m a g s c p u t i q j o))
  | _ => none
noncomputable def kn84 : Known := kn68.add 84 k84
theorem kn84_ok : KnownOK ctx kn84 222 := Known.add_ok kn68_ok rfl (by omega) (by
  intro l r h
  unfold k84 at h
  split at h
  · simp only [Option.some.injEq, Prod.mk.injEq] at h
    obtain ⟨_, rfl⟩ := h
    exact ⟨(Told.spec kn68_ok (lt33_ok.mono (by omega)) (run84 _ _ _ _ _ _ _ _ _ _ _ _ _ _ _) (told84 _ _ _ _ _ _ _ _ _ _ _ _ _ _ _) rfl).mono (by omega), rfl, rfl⟩
  · cases h)
end Go.Den
end
