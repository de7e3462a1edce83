import Derived.Test.YtihdbaehaiaiiaaV1
set_option linter.unusedSimpArgs false
section
set_option linter.unusedVariables false
set_option maxRecDepth 100000
namespace Go.Den

def ieq : Int → Int → Bool
  | .ofNat a, .ofNat b => Nat.beq a b
  | .negSucc a, .negSucc b => Nat.beq a b
  | _, _ => false

theorem ieq_ok : ∀ {a b : Int}, ieq a b = true → a = b
  | .ofNat a, .ofNat b, h => by rw [Nat.eq_of_beq_eq_true h]
  | .negSucc a, .negSucc b, h => by rw [Nat.eq_of_beq_eq_true h]
  | .ofNat _, .negSucc _, h => by cases h
  | .negSucc _, .ofNat _, h => by cases h

def beqB : Bool → Bool → Bool
  | true, b => b
  | false, true => false
  | false, false => true

theorem beqB_ok : ∀ {a b : Bool}, beqB a b = true → a = b := by decide

def and1B (a : Bool) (b : Bool) : Bool := match a with
  | true => b
  | false => false

theorem and1B_ok {a b : Bool} (h : and1B a b = true) : a = true ∧ b = true := by
  cases a
  · cases h
  · exact ⟨rfl, h⟩

def allB (f : Nat → Bool) : Nat → Nat → Bool
  | 0, _ => true
  | n + 1, i => match f i with
    | true => allB f n (i + 1)
    | false => false

theorem allB_ok {f : Nat → Bool} : ∀ {n i : Nat}, allB f n i = true → ∀ j, i ≤ j → j < i + n → f j = true
  | 0, i, _, j, h1, h2 => absurd h2 (by omega)
  | n + 1, i, h, j, h1, h2 => by
    simp only [allB] at h
    split at h
    · rename_i hf
      by_cases hj : j = i
      · subst hj; exact hf
      · exact allB_ok h j (by omega) (by omega)
    · cases h

end Go.Den
end
section
set_option linter.unusedVariables false
set_option maxRecDepth 100000
namespace Go.Den
def enc86 (y : (Int × Bool)) : V := .tup [.sc (.int .u32 y.1), .sc (.bool y.2)]
noncomputable def tree86 (x0 : Int) (x1 : Int) (x2 : Bool) : R := (cond (x1 == 1) (some (enc86 ((shlF .u32 x0 1, g88 x0 31)), [])) (cond (x1 == 2) (some (enc86 ((shrF .u32 x0 1, g88 x0 0)), [])) (cond (x1 == 3) (some (enc86 ((bitsF .or .u32 (shrF .u32 x0 1) (bitsF .and .u32 x0 2147483648), g88 x0 0)), [])) (cond (x1 == 4) (some (enc86 ((bitsF .or .u32 (shrF .u32 x0 1) (shlF .u32 x0 31), g88 x0 0)), [])) (cond (x2) (some (enc86 ((bitsF .or .u32 (shrF .u32 x0 1) 2147483648, g88 x0 0)), [])) (some (enc86 ((shrF .u32 x0 1, g88 x0 0)), [])))))))
theorem run86 (x0 : Int) (x1 : Int) (x2 : Bool) : funK ctx kn82 noLoops 3 86 [.sc (.int .u32 x0), .sc (.int .i64 x1), .sc (.bool x2)] [] 0 finV = tree86 x0 x1 x2 := by kernel_rfl
noncomputable def p86 (x0 : Int) (x1 : Int) (x2 : Bool) : (Int × Bool) := (cond (x1 == 1) ((shlF .u32 x0 1, g88 x0 31)) (cond (x1 == 2) ((shrF .u32 x0 1, g88 x0 0)) (cond (x1 == 3) ((bitsF .or .u32 (shrF .u32 x0 1) (bitsF .and .u32 x0 2147483648), g88 x0 0)) (cond (x1 == 4) ((bitsF .or .u32 (shrF .u32 x0 1) (shlF .u32 x0 31), g88 x0 0)) (cond (x2) ((bitsF .or .u32 (shrF .u32 x0 1) 2147483648, g88 x0 0)) ((shrF .u32 x0 1, g88 x0 0)))))))
theorem told86 (x0 : Int) (x1 : Int) (x2 : Bool) : Told enc86 (tree86 x0 x1 x2) (some (p86 x0 x1 x2)) := (told_p (fun h0 => told_leaf _) (fun h0 => (told_p (fun h1 => told_leaf _) (fun h1 => (told_p (fun h2 => told_leaf _) (fun h2 => (told_p (fun h3 => told_leaf _) (fun h3 => (told_p (fun h4 => told_leaf _) (fun h4 => told_leaf _))))))))))
noncomputable def k86 (l : List V) : Option (Bool × V) := match l with
  | [.sc (.int .u32 x0), .sc (.int .i64 x1), .sc (.bool x2)] => some (true, enc86 (p86 x0 x1 x2))
  | _ => none
noncomputable def kn86 : Known := kn82.add 86 k86
theorem kn86_ok : KnownOK ctx kn86 102 := Known.add_ok kn82_ok rfl (by omega) (by
  intro l r h
  unfold k86 at h
  split at h
  · simp only [Option.some.injEq, Prod.mk.injEq] at h
    obtain ⟨_, rfl⟩ := h
    exact ⟨(Told.spec kn82_ok (noLoops_ok _) (run86 _ _ _) (told86 _ _ _) rfl).mono (by omega), rfl, rfl⟩
  · cases h)
end Go.Den
end
section
set_option linter.unusedVariables false
set_option maxRecDepth 100000
namespace Go.Den

/-- steps of a shift -/
noncomputable def itS (kd : Int) : Nat → Int → Bool → Int × Bool
  | 0, v, c => (v, c)
  | n + 1, v, c => itS kd n (p86 v kd c).1 (p86 v kd c).2

abbrev path69 : Path := [false, true, false, true, true, true, true]

def fr69 (v kd n : Int) (c : Bool) (i : Int) (u8 u9 u19 u23 u32 : V) : Fr := [(0, .sc (.int .u32 v)), (1, .sc (.int .i64 kd)), (2, .sc (.int .i64 n)), (3, .sc (.bool c)), (8, u8), (9, u9), (10, .sc (.int .i64 i)), (19, u19), (23, u23), (32, u32)]

theorem body69 (lim : Nat) (v : Int) (kd : Int) (n : Int) (c : Bool) (i : Int) (u8 : V) (u9 : V) (u19 : V) (u23 : V) (u32 : V) (K : Ex → Fr → Heap → R) : bodyK ctx kn86 noLoops 3 69 path69 lim [(0, .sc (.int .u32 v)), (1, .sc (.int .i64 kd)), (2, .sc (.int .i64 n)), (3, .sc (.bool c)), (8, u8), (9, u9), (10, .sc (.int .i64 i)), (19, u19), (23, u23), (32, u32)] [] K = (cond (decide (i < n)) (K .nrm [(0, .sc (.int .u32 ((p86 v kd c).fst))), (1, .sc (.int .i64 (kd))), (2, .sc (.int .i64 (n))), (3, .sc (.bool ((p86 v kd c).snd))), (8, u8), (9, u9), (10, .sc (.int .i64 (wrapF .i64 (i + 1)))), (19, u19), (23, u23), (32, .sc (.bool (true)))] []) (K (.ext 0) [(32, .sc (.bool (false))), (0, .sc (.int .u32 (v))), (1, .sc (.int .i64 (kd))), (2, .sc (.int .i64 (n))), (3, .sc (.bool (c))), (8, u8), (9, u9), (10, .sc (.int .i64 (i))), (19, u19), (23, u23), (32, .sc (.bool (decide (i < n))))] [])) := by kernel_rfl

theorem loop69 (lim : Nat) (kd : Int) (n : Nat) (hn : n ≤ 255) (u8 u9 u19 u23 : V) (K : Ex → Fr → Heap → R) : ∀ (k i N : Nat) (v : Int) (c : Bool) (u32 : V), i + k = n → k < N →
    iterK (bodyK ctx kn86 noLoops 3 69 path69 lim) N (fr69 v kd n c i u8 u9 u19 u23 u32) [] K =
      K (.ext 0) ((32, .sc (.bool false)) :: fr69 (itS kd k v c).1 kd n (itS kd k v c).2 n u8 u9 u19 u23 (.sc (.bool false))) [] := by
  intro k
  induction k with
  | zero =>
    intro i N v c u32 hi hN
    obtain ⟨N, rfl⟩ : ∃ m, N = m + 1 := ⟨N - 1, by omega⟩
    simp only [iterK]
    unfold fr69
    rw [body69, decide_eq_false (show ¬ (i : Int) < (n : Int) by omega), show i = n by omega]
    rfl
  | succ k ih =>
    intro i N v c u32 hi hN
    obtain ⟨N, rfl⟩ : ∃ m, N = m + 1 := ⟨N - 1, by omega⟩
    simp only [iterK]
    have hs : wrapF .i64 ((i : Int) + 1) = ((i + 1 : Nat) : Int) := by
      rw [wrapF_id (by omega) (by simp only [halfK]; omega)]
      omega
    unfold fr69
    rw [body69, decide_eq_true (show (i : Int) < (n : Int) by omega), hs]
    exact ih (i + 1) N _ _ _ (by omega) (by omega)

noncomputable def L69 : LoopT := fun l H K =>
  slotK 0 l fun v0 l => numK .u32 v0 fun v => slotK 1 l fun v1 l => numK .i64 v1 fun kd => slotK 2 l fun v2 l => numK .i64 v2 fun n => slotK 3 l fun v3 l => boolK v3 fun c =>
  slotK 8 l fun u8 l => slotK 9 l fun u9 l => slotK 10 l fun v10 l => numK .i64 v10 fun i => slotK 19 l fun u19 l => slotK 23 l fun u23 l => slotK 32 l fun u32 l => endL l <| heapK0 H <|
  cond (decide (i = 0)) (cond (decide (0 ≤ n ∧ n ≤ 255)) (K (.ext 0) ((32, .sc (.bool false)) :: fr69 (itS kd n.toNat v c).1 kd n (itS kd n.toNat v c).2 n u8 u9 u19 u23 (.sc (.bool false))) []) none) none

noncomputable def lt69 : Loops := noLoops.add 69 path69 L69

theorem lt69_ok : LoopsOK ctx lt69 105 := Loops.add_ok kn86_ok (noLoops_ok _) 3 fun lim l H K r h0 => by
  unfold L69 at h0
  obtain ⟨_, _, rfl, h1⟩ := slotK_ok h0
  obtain ⟨v, rfl, h2⟩ := numK_ok h1
  obtain ⟨_, _, rfl, h3⟩ := slotK_ok h2
  obtain ⟨kd, rfl, h4⟩ := numK_ok h3
  obtain ⟨_, _, rfl, h5⟩ := slotK_ok h4
  obtain ⟨n, rfl, h6⟩ := numK_ok h5
  obtain ⟨_, _, rfl, h7⟩ := slotK_ok h6
  obtain ⟨c, rfl, h8⟩ := boolK_ok h7
  obtain ⟨u8, _, rfl, h9⟩ := slotK_ok h8
  obtain ⟨u9, _, rfl, h10⟩ := slotK_ok h9
  obtain ⟨_, _, rfl, h11⟩ := slotK_ok h10
  obtain ⟨i, rfl, h12⟩ := numK_ok h11
  obtain ⟨u19, _, rfl, h13⟩ := slotK_ok h12
  obtain ⟨u23, _, rfl, h14⟩ := slotK_ok h13
  obtain ⟨u32, _, rfl, h15⟩ := slotK_ok h14
  obtain ⟨rfl, h16⟩ := endL_ok h15
  obtain ⟨rfl, h17⟩ := heapK0_ok h16
  obtain ⟨c1, h18⟩ := cond_l h17
  obtain ⟨c2, h19⟩ := cond_l h18
  have c1 := of_decide_eq_true c1
  have c2 := of_decide_eq_true c2
  subst c1
  obtain ⟨m, rfl⟩ := Int.eq_ofNat_of_zero_le c2.1
  have hl := loop69 lim kd m (by omega) u8 u9 u19 u23 K m 0 ctx.fuel v c u32 (by omega) (by show m < 70000; omega)
  exact hl.trans h19

noncomputable def knE : Known := kn86
theorem knE_ok : KnownOK ctx knE 105 := kn86_ok.mono (by omega)

end Go.Den
end
section
set_option linter.unusedVariables false
set_option maxRecDepth 100000
namespace Go.Den
def enc69 (y : (Int × Bool)) : V := .tup [.sc (.int .u32 y.1), .sc (.bool y.2)]
noncomputable def tree69 (x0 : Int) (x1 : Int) (x2 : Int) (x3 : Bool) : R := (cond (decide (x1 < 1)) (some (enc69 ((x0, x3)), [])) (cond (decide (x1 > 5)) (some (enc69 ((x0, x3)), [])) (cond (x1 == 5) (some (enc69 (((p86 x0 x1 x3).fst, (p86 x0 x1 x3).snd)), [])) (cond (decide ((0 ≤ if false = true then if 255 > if true = true then if 0 > x2 then 0 else x2 else if 0 < x2 then 0 else x2 then 255 else if true = true then if 0 > x2 then 0 else x2 else if 0 < x2 then 0 else x2 else if 255 < if true = true then if 0 > x2 then 0 else x2 else if 0 < x2 then 0 else x2 then 255 else if true = true then if 0 > x2 then 0 else x2 else if 0 < x2 then 0 else x2) ∧ (if false = true then if 255 > if true = true then if 0 > x2 then 0 else x2 else if 0 < x2 then 0 else x2 then 255 else if true = true then if 0 > x2 then 0 else x2 else if 0 < x2 then 0 else x2 else if 255 < if true = true then if 0 > x2 then 0 else x2 else if 0 < x2 then 0 else x2 then 255 else if true = true then if 0 > x2 then 0 else x2 else if 0 < x2 then 0 else x2) ≤ 255)) (some (enc69 (((itS x1 (if false = true then if 255 > if true = true then if 0 > x2 then 0 else x2 else if 0 < x2 then 0 else x2 then 255 else if true = true then if 0 > x2 then 0 else x2 else if 0 < x2 then 0 else x2 else if 255 < if true = true then if 0 > x2 then 0 else x2 else if 0 < x2 then 0 else x2 then 255 else if true = true then if 0 > x2 then 0 else x2 else if 0 < x2 then 0 else x2).toNat x0 x3).fst, (itS x1 (if false = true then if 255 > if true = true then if 0 > x2 then 0 else x2 else if 0 < x2 then 0 else x2 then 255 else if true = true then if 0 > x2 then 0 else x2 else if 0 < x2 then 0 else x2 else if 255 < if true = true then if 0 > x2 then 0 else x2 else if 0 < x2 then 0 else x2 then 255 else if true = true then if 0 > x2 then 0 else x2 else if 0 < x2 then 0 else x2).toNat x0 x3).snd)), [])) none))))
theorem run69 (x0 : Int) (x1 : Int) (x2 : Int) (x3 : Bool) : funK ctx knE lt69 3 69 [.sc (.int .u32 x0), .sc (.int .i64 x1), .sc (.int .i64 x2), .sc (.bool x3)] [] 0 finV = tree69 x0 x1 x2 x3 := by kernel_rfl
noncomputable def o69 (x0 : Int) (x1 : Int) (x2 : Int) (x3 : Bool) : Option (Int × Bool) := (cond (decide (x1 < 1)) (some ((x0, x3))) (cond (decide (x1 > 5)) (some ((x0, x3))) (cond (x1 == 5) (some (((p86 x0 x1 x3).fst, (p86 x0 x1 x3).snd))) (cond (decide ((0 ≤ if false = true then if 255 > if true = true then if 0 > x2 then 0 else x2 else if 0 < x2 then 0 else x2 then 255 else if true = true then if 0 > x2 then 0 else x2 else if 0 < x2 then 0 else x2 else if 255 < if true = true then if 0 > x2 then 0 else x2 else if 0 < x2 then 0 else x2 then 255 else if true = true then if 0 > x2 then 0 else x2 else if 0 < x2 then 0 else x2) ∧ (if false = true then if 255 > if true = true then if 0 > x2 then 0 else x2 else if 0 < x2 then 0 else x2 then 255 else if true = true then if 0 > x2 then 0 else x2 else if 0 < x2 then 0 else x2 else if 255 < if true = true then if 0 > x2 then 0 else x2 else if 0 < x2 then 0 else x2 then 255 else if true = true then if 0 > x2 then 0 else x2 else if 0 < x2 then 0 else x2) ≤ 255)) (some (((itS x1 (if false = true then if 255 > if true = true then if 0 > x2 then 0 else x2 else if 0 < x2 then 0 else x2 then 255 else if true = true then if 0 > x2 then 0 else x2 else if 0 < x2 then 0 else x2 else if 255 < if true = true then if 0 > x2 then 0 else x2 else if 0 < x2 then 0 else x2 then 255 else if true = true then if 0 > x2 then 0 else x2 else if 0 < x2 then 0 else x2).toNat x0 x3).fst, (itS x1 (if false = true then if 255 > if true = true then if 0 > x2 then 0 else x2 else if 0 < x2 then 0 else x2 then 255 else if true = true then if 0 > x2 then 0 else x2 else if 0 < x2 then 0 else x2 else if 255 < if true = true then if 0 > x2 then 0 else x2 else if 0 < x2 then 0 else x2 then 255 else if true = true then if 0 > x2 then 0 else x2 else if 0 < x2 then 0 else x2).toNat x0 x3).snd))) none))))
theorem told69 (x0 : Int) (x1 : Int) (x2 : Int) (x3 : Bool) : Told enc69 (tree69 x0 x1 x2 x3) (o69 x0 x1 x2 x3) := (told_c (fun h0 => told_leaf _) (fun h0 => (told_c (fun h1 => told_leaf _) (fun h1 => (told_c (fun h2 => told_leaf _) (fun h2 => (told_c (fun h3 => told_leaf _) (fun h3 => told_none _))))))))
noncomputable def g69 (x0 : Int) (x1 : Int) (x2 : Int) (x3 : Bool) : (Int × Bool) := (o69 x0 x1 x2 x3).getD default
noncomputable def k69 (l : List V) : Option (Bool × V) := match l with
  | [.sc (.int .u32 x0), .sc (.int .i64 x1), .sc (.int .i64 x2), .sc (.bool x3)] => some ((o69 x0 x1 x2 x3).isSome, enc69 (g69 x0 x1 x2 x3))
  | _ => none
noncomputable def kn69 : Known := knE.add 69 k69
theorem kn69_ok : KnownOK ctx kn69 108 := Known.add_ok knE_ok rfl (by omega) (by
  intro l r h
  unfold k69 at h
  split at h
  · simp only [Option.some.injEq, Prod.mk.injEq] at h
    obtain ⟨h1, rfl⟩ := h
    obtain ⟨a, ha⟩ := Option.isSome_iff_exists.1 h1
    unfold g69
    rw [ha]
    exact ⟨(Told.spec knE_ok (lt69_ok.mono (by omega)) (run69 _ _ _ _) (told69 _ _ _ _) ha).mono (by omega), rfl, rfl⟩
  · cases h)
def enc36 (y : (Int × Bool × Bool)) : V := .tup [.sc (.int .u32 y.1), .sc (.bool y.2.1), .sc (.bool y.2.2)]
noncomputable def tree36 (x0 : Int) (x1 : Bool) : R := (cond (bitsF .and .u32 (shrF .u32 x0 10) 3 == 0) (cond (decide (bitsF .and .u32 (shrF .u32 x0 8) 3 > 0)) (cond (bitsF .and .u32 x0 255 == 0) (some (enc36 ((0, x1, false)), [])) (cond (decide (0 ≤ bitsF .and .u32 (shrF .u32 x0 8) 3 ∧ bitsF .and .u32 (shrF .u32 x0 8) 3 < 4)) (cond (decide ((bitsF .and .u32 (shrF .u32 x0 8) 3).toNat < 4)) (some (enc36 ((getI [bitsF .and .u32 x0 255, bitsF .or .u32 (bitsF .and .u32 x0 255) (shlF .u32 (bitsF .and .u32 x0 255) 16), bitsF .or .u32 (shlF .u32 (bitsF .and .u32 x0 255) 8) (shlF .u32 (bitsF .and .u32 x0 255) 24), bitsF .or .u32 (bitsF .or .u32 (bitsF .or .u32 (bitsF .and .u32 x0 255) (shlF .u32 (bitsF .and .u32 x0 255) 8)) (shlF .u32 (bitsF .and .u32 x0 255) 16)) (shlF .u32 (bitsF .and .u32 x0 255) 24)] (bitsF .and .u32 (shrF .u32 x0 8) 3).toNat, x1, true)), [])) none) none)) (cond (decide (0 ≤ bitsF .and .u32 (shrF .u32 x0 8) 3 ∧ bitsF .and .u32 (shrF .u32 x0 8) 3 < 4)) (cond (decide ((bitsF .and .u32 (shrF .u32 x0 8) 3).toNat < 4)) (some (enc36 ((getI [bitsF .and .u32 x0 255, bitsF .or .u32 (bitsF .and .u32 x0 255) (shlF .u32 (bitsF .and .u32 x0 255) 16), bitsF .or .u32 (shlF .u32 (bitsF .and .u32 x0 255) 8) (shlF .u32 (bitsF .and .u32 x0 255) 24), bitsF .or .u32 (bitsF .or .u32 (bitsF .or .u32 (bitsF .and .u32 x0 255) (shlF .u32 (bitsF .and .u32 x0 255) 8)) (shlF .u32 (bitsF .and .u32 x0 255) 16)) (shlF .u32 (bitsF .and .u32 x0 255) 24)] (bitsF .and .u32 (shrF .u32 x0 8) 3).toNat, x1, true)), [])) none) none)) (cond ((o69 (bitsF .or .u32 (bitsF .and .u32 x0 127) 128) 4 (wrapF .i64 (bitsF .and .u32 (shrF .u32 x0 7) 31)) x1).isSome) (some (enc36 (((g69 (bitsF .or .u32 (bitsF .and .u32 x0 127) 128) 4 (wrapF .i64 (bitsF .and .u32 (shrF .u32 x0 7) 31)) x1).fst, (g69 (bitsF .or .u32 (bitsF .and .u32 x0 127) 128) 4 (wrapF .i64 (bitsF .and .u32 (shrF .u32 x0 7) 31)) x1).snd, true)), [])) none))
theorem run36 (x0 : Int) (x1 : Bool) : funK ctx kn69 lt69 3 36 [.sc (.int .u32 x0), .sc (.bool x1)] [] 0 finV = tree36 x0 x1 := by kernel_rfl
noncomputable def o36 (x0 : Int) (x1 : Bool) : Option (Int × Bool × Bool) := (cond (bitsF .and .u32 (shrF .u32 x0 10) 3 == 0) (cond (decide (bitsF .and .u32 (shrF .u32 x0 8) 3 > 0)) (cond (bitsF .and .u32 x0 255 == 0) (some ((0, x1, false))) (some ((getI [bitsF .and .u32 x0 255, bitsF .or .u32 (bitsF .and .u32 x0 255) (shlF .u32 (bitsF .and .u32 x0 255) 16), bitsF .or .u32 (shlF .u32 (bitsF .and .u32 x0 255) 8) (shlF .u32 (bitsF .and .u32 x0 255) 24), bitsF .or .u32 (bitsF .or .u32 (bitsF .or .u32 (bitsF .and .u32 x0 255) (shlF .u32 (bitsF .and .u32 x0 255) 8)) (shlF .u32 (bitsF .and .u32 x0 255) 16)) (shlF .u32 (bitsF .and .u32 x0 255) 24)] (bitsF .and .u32 (shrF .u32 x0 8) 3).toNat, x1, true)))) (some ((getI [bitsF .and .u32 x0 255, bitsF .or .u32 (bitsF .and .u32 x0 255) (shlF .u32 (bitsF .and .u32 x0 255) 16), bitsF .or .u32 (shlF .u32 (bitsF .and .u32 x0 255) 8) (shlF .u32 (bitsF .and .u32 x0 255) 24), bitsF .or .u32 (bitsF .or .u32 (bitsF .or .u32 (bitsF .and .u32 x0 255) (shlF .u32 (bitsF .and .u32 x0 255) 8)) (shlF .u32 (bitsF .and .u32 x0 255) 16)) (shlF .u32 (bitsF .and .u32 x0 255) 24)] (bitsF .and .u32 (shrF .u32 x0 8) 3).toNat, x1, true)))) (cond ((o69 (bitsF .or .u32 (bitsF .and .u32 x0 127) 128) 4 (wrapF .i64 (bitsF .and .u32 (shrF .u32 x0 7) 31)) x1).isSome) (some (((g69 (bitsF .or .u32 (bitsF .and .u32 x0 127) 128) 4 (wrapF .i64 (bitsF .and .u32 (shrF .u32 x0 7) 31)) x1).fst, (g69 (bitsF .or .u32 (bitsF .and .u32 x0 127) 128) 4 (wrapF .i64 (bitsF .and .u32 (shrF .u32 x0 7) 31)) x1).snd, true))) none))
theorem told36 (x0 : Int) (x1 : Bool) : Told enc36 (tree36 x0 x1) (o36 x0 x1) := (told_c (fun h0 => (told_c (fun h1 => (told_c (fun h2 => told_leaf _) (fun h2 => (told_t (by have f0 := and_fact (.u32) (shrF .u32 x0 8) (3) (by decide) (by decide); have f1 := shr_fact (.u32) (x0) (8); try simp only [decide_eq_true_eq, decide_eq_false_iff_not, beq_iff_eq, beq_eq_false_iff_ne, bne_iff_ne, bne_eq_false_iff_eq, Bool.not_eq_true', Bool.not_eq_false'] at *; omega) ((told_t (by have f0 := and_fact (.u32) (shrF .u32 x0 8) (3) (by decide) (by decide); have f1 := shr_fact (.u32) (x0) (8); try simp only [decide_eq_true_eq, decide_eq_false_iff_not, beq_iff_eq, beq_eq_false_iff_ne, bne_iff_ne, bne_eq_false_iff_eq, Bool.not_eq_true', Bool.not_eq_false'] at *; omega) (told_leaf _))))))) (fun h1 => (told_t (by have f0 := and_fact (.u32) (shrF .u32 x0 8) (3) (by decide) (by decide); have f1 := shr_fact (.u32) (x0) (8); try simp only [decide_eq_true_eq, decide_eq_false_iff_not, beq_iff_eq, beq_eq_false_iff_ne, bne_iff_ne, bne_eq_false_iff_eq, Bool.not_eq_true', Bool.not_eq_false'] at *; omega) ((told_t (by have f0 := and_fact (.u32) (shrF .u32 x0 8) (3) (by decide) (by decide); have f1 := shr_fact (.u32) (x0) (8); try simp only [decide_eq_true_eq, decide_eq_false_iff_not, beq_iff_eq, beq_eq_false_iff_ne, bne_iff_ne, bne_eq_false_iff_eq, Bool.not_eq_true', Bool.not_eq_false'] at *; omega) (told_leaf _))))))) (fun h0 => (told_c (fun h1 => told_leaf _) (fun h1 => told_none _))))
noncomputable def g36 (x0 : Int) (x1 : Bool) : (Int × Bool × Bool) := (o36 x0 x1).getD default
noncomputable def k36 (l : List V) : Option (Bool × V) := match l with
  | [.sc (.int .u32 x0), .sc (.bool x1)] => some ((o36 x0 x1).isSome, enc36 (g36 x0 x1))
  | _ => none
noncomputable def kn36 : Known := kn69.add 36 k36
theorem kn36_ok : KnownOK ctx kn36 111 := Known.add_ok kn69_ok rfl (by omega) (by
  intro l r h
  unfold k36 at h
  split at h
  · simp only [Option.some.injEq, Prod.mk.injEq] at h
    obtain ⟨h1, rfl⟩ := h
    obtain ⟨a, ha⟩ := Option.isSome_iff_exists.1 h1
    unfold g36
    rw [ha]
    exact ⟨(Told.spec kn69_ok (lt69_ok.mono (by omega)) (run36 _ _) (told36 _ _) ha).mono (by omega), rfl, rfl⟩
  · cases h)
end Go.Den
end
section
set_option linter.unusedVariables false
set_option maxRecDepth 100000
namespace Go.Den

/-- the reference's Expand is the program's -/
noncomputable def chk36 (n : Nat) : Bool := match o36 (Int.ofNat n) false with
  | some (a, b, c) => (match o41 (Int.ofNat n) false with
    | some (a', b', c') => and1B (ieq a a') (and1B (beqB b b') (beqB c c'))
    | none => false)
  | none => false

theorem chk36_0 : allB chk36 1024 0 = true := by kernel_rfl
theorem chk36_1 : allB chk36 1024 1024 = true := by kernel_rfl
theorem chk36_2 : allB chk36 1024 2048 = true := by kernel_rfl
theorem chk36_3 : allB chk36 1024 3072 = true := by kernel_rfl

theorem chk36_all {n : Nat} (h : n < 4096) : chk36 n = true := by
  rcases Nat.lt_or_ge n 1024 with h1 | h1
  · exact allB_ok chk36_0 n (by omega) (by omega)
  rcases Nat.lt_or_ge n 2048 with h2 | h2
  · exact allB_ok chk36_1 n (by omega) (by omega)
  rcases Nat.lt_or_ge n 3072 with h3 | h3
  · exact allB_ok chk36_2 n (by omega) (by omega)
  · exact allB_ok chk36_3 n (by omega) (by omega)

theorem expand_eq {x : Int} (h : 0 ≤ x ∧ x < 4096) : o36 x false = o41 x false := by
  obtain ⟨n, rfl⟩ := Int.eq_ofNat_of_zero_le h.1
  have hc := chk36_all (show n < 4096 by omega)
  unfold chk36 at hc
  rw [show (n : Int) = Int.ofNat n from rfl]
  split at hc
  · rename_i a b c ha
    split at hc
    · rename_i a' b' c' hb
      obtain ⟨h1, h2⟩ := and1B_ok hc
      obtain ⟨h2, h3⟩ := and1B_ok h2
      rw [ha, hb, ieq_ok h1, beqB_ok h2, beqB_ok h3]
    · cases hc
  · cases hc

theorem expand_eqg {x : Int} (h : 0 ≤ x ∧ x < 4096) : g36 x false = g41 x false := by
  unfold g36 g41
  rw [expand_eq h]

end Go.Den
end
