import Derived.Test.YtihdbaehaiaiiaaX01
set_option linter.unusedSimpArgs false
section
set_option linter.unusedVariables false
set_option maxRecDepth 100000
namespace Go.Den

/-- a list of pairs as values -/
abbrev mapV (l : List (List Int)) : List V := List.map (fun y => V.agg (List.map (fun y => V.sc (Value.int .u16 y)) y)) l

/-- two halves -/
def isPair (w : List Int) : Bool := match w with
  | [a, b] => decide ((0 ≤ a ∧ a ≤ 65535) ∧ 0 ≤ b ∧ b ≤ 65535)
  | _ => false

def allPair : List (List Int) → Bool
  | [] => true
  | w :: l => isPair w && allPair l

theorem isPair_ok {w : List Int} (h : isPair w = true) : ∃ a b, w = [a, b] ∧ (0 ≤ a ∧ a ≤ 65535) ∧ 0 ≤ b ∧ b ≤ 65535 := by
  unfold isPair at h
  split at h
  · exact ⟨_, _, rfl, of_decide_eq_true h⟩
  · cases h

theorem okP_mapV : ∀ {l : List (List Int)}, allPair l = true → okP (mapV l) = true
  | [], _ => rfl
  | w :: l, h => by
    simp only [allPair, Bool.and_eq_true] at h
    obtain ⟨a, b, rfl, hr⟩ := isPair_ok h.1
    have ih := okP_mapV h.2
    show (match isA zs2 (V.agg [V.sc (.int .u16 a), V.sc (.int .u16 b)]) with
      | true => match decide ((0 ≤ a ∧ a ≤ 65535) ∧ 0 ≤ b ∧ b ≤ 65535) with
        | true => okP (mapV l)
        | false => false
      | false => false) = true
    rw [decide_eq_true hr, ih]
    rfl

/-- which the first of them is -/
noncomputable def hit (y : S30) : List (List Int) → Option (Int × Int)
  | [] => none
  | w :: l => match w with
    | [a, b] => cond (eq30 (dW a b false) y) (some (a, b)) (hit y l)
    | _ => hit y l

theorem hit_spec (y : S30) : ∀ {l : List (List Int)}, allPair l = true →
    (∃ a b, hit y l = some (a, b) ∧ hitB y (mapV l) = true ∧ fa (mapV l) (hitN y (mapV l)) = a ∧ fb (mapV l) (hitN y (mapV l)) = b ∧ [a, b] ∈ l ∧ dW a b false = y ∧ (0 ≤ a ∧ a ≤ 65535) ∧ 0 ≤ b ∧ b ≤ 65535)
    ∨ (hit y l = none ∧ hitB y (mapV l) = false ∧ ∀ a b, [a, b] ∈ l → dW a b false ≠ y)
  | [], _ => Or.inr ⟨rfl, rfl, fun a b h => by cases h⟩
  | w :: l, h => by
    simp only [allPair, Bool.and_eq_true] at h
    obtain ⟨a, b, rfl, hr⟩ := isPair_ok h.1
    have e1 : hit y ([a, b] :: l) = cond (eq30 (dW a b false) y) (some (a, b)) (hit y l) := rfl
    have e2 : hitB y (mapV ([a, b] :: l)) = cond (eq30 (dW a b false) y) true (hitB y (mapV l)) := rfl
    have e3 : hitN y (mapV ([a, b] :: l)) = cond (eq30 (dW a b false) y) 0 (hitN y (mapV l) + 1) := rfl
    cases hE : eq30 (dW a b false) y with
    | true =>
      rw [hE] at e1 e2 e3
      refine Or.inl ⟨a, b, e1, e2, ?_, ?_, List.mem_cons_self, (eq30_iff _ _).1 hE, hr⟩
      · rw [e3]; rfl
      · rw [e3]; rfl
    | false =>
      rw [hE] at e1 e2 e3
      simp only [cond_false] at e1 e2 e3
      rcases hit_spec y h.2 with ⟨c, d, h1, h2, h3, h4, h5, h6, h7⟩ | ⟨h1, h2, h3⟩
      · refine Or.inl ⟨c, d, e1.trans h1, e2.trans h2, ?_, ?_, List.mem_cons_of_mem _ h5, h6, h7⟩
        · rw [e3]; exact h3
        · rw [e3]; exact h4
      · refine Or.inr ⟨e1.trans h1, e2.trans h2, fun c d hm => ?_⟩
        rcases List.mem_cons.1 hm with hm | hm
        · cases hm
          exact fun he => by rw [(eq30_iff _ _).2 he] at hE; cases hE
        · exact h3 c d hm

noncomputable section
def o35y (y : S30) : Option (Int × Int) := o35 y.f_Op y.f_Wide y.f_S y.f_Cond y.f_D y.f_N y.f_M y.f_A y.f_Imm y.f_UseImm y.f_Sh y.f_Amt y.f_List y.f_Back y.f_Down
def o11y (y : S30) : Option (Int × Int × Bool) := o11 y.f_Op y.f_Wide y.f_S y.f_Cond y.f_D y.f_N y.f_M y.f_A y.f_Imm y.f_UseImm y.f_Sh y.f_Amt y.f_List y.f_Back y.f_Down
def o12y (y : S30) : Option (Int × Int × Bool) := o12 y.f_Op y.f_Wide y.f_S y.f_Cond y.f_D y.f_N y.f_M y.f_A y.f_Imm y.f_UseImm y.f_Sh y.f_Amt y.f_List y.f_Back y.f_Down
def L28 (y : S30) : List (List Int) := (p28 y.f_Op y.f_Wide y.f_S y.f_Cond y.f_D y.f_N y.f_M y.f_A y.f_Imm y.f_UseImm y.f_Sh y.f_Amt y.f_List y.f_Back y.f_Down).2
def L29 (y : S30) : List (List Int) := (p29 y.f_Op y.f_Wide y.f_S y.f_Cond y.f_D y.f_N y.f_M y.f_A y.f_Imm y.f_UseImm y.f_Sh y.f_Amt y.f_List y.f_Back y.f_Down).2
def L30 (y : S30) : List (List Int) := (p30 y.f_Op y.f_Wide y.f_S y.f_Cond y.f_D y.f_N y.f_M y.f_A y.f_Imm y.f_UseImm y.f_Sh y.f_Amt y.f_List y.f_Back y.f_Down).2
def L31 (y : S30) : List (List Int) := (p31 y.f_Op y.f_Wide y.f_S y.f_Cond y.f_D y.f_N y.f_M y.f_A y.f_Imm y.f_UseImm y.f_Sh y.f_Amt y.f_List y.f_Back y.f_Down).2
def L32 (y : S30) : List (List Int) := (p32 y.f_Op y.f_Wide y.f_S y.f_Cond y.f_D y.f_N y.f_M y.f_A y.f_Imm y.f_UseImm y.f_Sh y.f_Amt y.f_List y.f_Back y.f_Down).2
def L33y (y : S30) : List (List Int) := (p33 y.f_Op y.f_Wide y.f_S y.f_Cond y.f_D y.f_N y.f_M y.f_A y.f_Imm y.f_UseImm y.f_Sh y.f_Amt y.f_List y.f_Back y.f_Down).2
def L34 (y : S30) : List (List Int) := (g34 y.f_Op y.f_Wide y.f_S y.f_Cond y.f_D y.f_N y.f_M y.f_A y.f_Imm y.f_UseImm y.f_Sh y.f_Amt y.f_List y.f_Back y.f_Down).2
def o34y (y : S30) : Option (Bool × List (List Int)) := o34 y.f_Op y.f_Wide y.f_S y.f_Cond y.f_D y.f_N y.f_M y.f_A y.f_Imm y.f_UseImm y.f_Sh y.f_Amt y.f_List y.f_Back y.f_Down

def stepE (y : S30) (l : List (List Int)) (X : Option (Int × Int × Bool)) : Option (Int × Int × Bool) :=
  cond (decide ((mapV l).length ≤ 10000)) (cond (okP (mapV l)) (cond (hitB y (mapV l)) (some (fa (mapV l) (Int.ofNat (hitN y (mapV l))).toNat, fb (mapV l) (Int.ofNat (hitN y (mapV l))).toNat, true)) X) none) none
end

theorem o11_form (y : S30) : o11y y = cond (y.f_Op == 64) (some (0, 0, false)) (cond (y.f_Op == 65) (some (0, 0, false))
    (stepE y (L28 y) (stepE y (L29 y) (stepE y (L30 y) (stepE y (L31 y) (stepE y (L32 y) (stepE y (L33y y) (cond (o34y y).isSome (stepE y (L34 y) (some (0, 0, false))) none)))))))) := by
  obtain ⟨Op, Wide, S, Cond, D, N, M, A, Imm, UseImm, Sh, Amt, Ls, Back, Down⟩ := y
  rfl

/-- all that Encode looks at -/
noncomputable def cands (y : S30) : List (List Int) := L28 y ++ (L29 y ++ (L30 y ++ (L31 y ++ (L32 y ++ (L33y y ++ L34 y)))))

/-- none of a list, or one of it -/
theorem step_ok (y : S30) {l : List (List Int)} (h : allPair l = true) (hl : l.length ≤ 10000) (X : Option (Int × Int × Bool)) :
    (∃ a b, stepE y l X = some (a, b, true) ∧ [a, b] ∈ l ∧ dW a b false = y ∧ (0 ≤ a ∧ a ≤ 65535) ∧ 0 ≤ b ∧ b ≤ 65535) ∨ (stepE y l X = X ∧ ∀ a b, [a, b] ∈ l → dW a b false ≠ y) := by
  unfold stepE
  rw [decide_eq_true (show (mapV l).length ≤ 10000 by rw [List.length_map]; exact hl), okP_mapV h]
  rcases hit_spec y h with ⟨a, b, h1, h2, h3, h4, h5, h6, h7⟩ | ⟨h1, h2, h3⟩
  · refine Or.inl ⟨a, b, ?_, h5, h6, h7⟩
    rw [h2]
    show some (fa (mapV l) (hitN y (mapV l)), fb (mapV l) (hitN y (mapV l)), true) = _
    rw [h3, h4]
  · rw [h2]
    exact Or.inr ⟨rfl, h3⟩

/-- the lists are pairs of halves -/
def Lists (y : S30) : Prop := (allPair (L28 y) = true ∧ (L28 y).length ≤ 10000) ∧ (allPair (L29 y) = true ∧ (L29 y).length ≤ 10000) ∧ (allPair (L30 y) = true ∧ (L30 y).length ≤ 10000) ∧ (allPair (L31 y) = true ∧ (L31 y).length ≤ 10000)
  ∧ (allPair (L32 y) = true ∧ (L32 y).length ≤ 10000) ∧ (allPair (L33y y) = true ∧ (L33y y).length ≤ 10000) ∧ ((o34y y).isSome = true ∧ allPair (L34 y) = true ∧ (L34 y).length ≤ 10000)

theorem o11_spec {y : S30} (hL : Lists y) :
    (∃ a b, o11y y = some (a, b, true) ∧ y.f_Op ≠ 64 ∧ y.f_Op ≠ 65 ∧ dW a b false = y ∧ (0 ≤ a ∧ a ≤ 65535) ∧ 0 ≤ b ∧ b ≤ 65535)
    ∨ (o11y y = some (0, 0, false) ∧ (y.f_Op = 64 ∨ y.f_Op = 65 ∨ ∀ a b, [a, b] ∈ cands y → dW a b false ≠ y)) := by
  rw [o11_form]
  by_cases h64 : y.f_Op = 64
  · rw [beqT h64]
    exact Or.inr ⟨rfl, Or.inl h64⟩
  rw [beqF h64]
  by_cases h65 : y.f_Op = 65
  · rw [beqT h65]
    exact Or.inr ⟨rfl, Or.inr (Or.inl h65)⟩
  rw [beqF h65]
  simp only [cond_false]
  obtain ⟨l1, l2, l3, l4, l5, l6, l0, l7⟩ := hL
  rw [l0, cond_true]
  rcases step_ok y l1.1 l1.2 (stepE y (L29 y) (stepE y (L30 y) (stepE y (L31 y) (stepE y (L32 y) (stepE y (L33y y) (stepE y (L34 y) (some (0, 0, false)))))))) with ⟨a, b, e, _, r⟩ | ⟨e1, n1⟩
  · exact Or.inl ⟨a, b, e, h64, h65, r⟩
  rw [e1]
  rcases step_ok y l2.1 l2.2 (stepE y (L30 y) (stepE y (L31 y) (stepE y (L32 y) (stepE y (L33y y) (stepE y (L34 y) (some (0, 0, false))))))) with ⟨a, b, e, _, r⟩ | ⟨e1, n2⟩
  · exact Or.inl ⟨a, b, e, h64, h65, r⟩
  rw [e1]
  rcases step_ok y l3.1 l3.2 (stepE y (L31 y) (stepE y (L32 y) (stepE y (L33y y) (stepE y (L34 y) (some (0, 0, false)))))) with ⟨a, b, e, _, r⟩ | ⟨e1, n3⟩
  · exact Or.inl ⟨a, b, e, h64, h65, r⟩
  rw [e1]
  rcases step_ok y l4.1 l4.2 (stepE y (L32 y) (stepE y (L33y y) (stepE y (L34 y) (some (0, 0, false))))) with ⟨a, b, e, _, r⟩ | ⟨e1, n4⟩
  · exact Or.inl ⟨a, b, e, h64, h65, r⟩
  rw [e1]
  rcases step_ok y l5.1 l5.2 (stepE y (L33y y) (stepE y (L34 y) (some (0, 0, false)))) with ⟨a, b, e, _, r⟩ | ⟨e1, n5⟩
  · exact Or.inl ⟨a, b, e, h64, h65, r⟩
  rw [e1]
  rcases step_ok y l6.1 l6.2 (stepE y (L34 y) (some (0, 0, false))) with ⟨a, b, e, _, r⟩ | ⟨e1, n6⟩
  · exact Or.inl ⟨a, b, e, h64, h65, r⟩
  rw [e1]
  rcases step_ok y l7.1 l7.2 (some (0, 0, false)) with ⟨a, b, e, _, r⟩ | ⟨e1, n7⟩
  · exact Or.inl ⟨a, b, e, h64, h65, r⟩
  refine Or.inr ⟨e1, Or.inr (Or.inr fun a b hm => ?_)⟩
  unfold cands at hm
  simp only [List.mem_append] at hm
  rcases hm with hm | hm | hm | hm | hm | hm | hm
  · exact n1 a b hm
  · exact n2 a b hm
  · exact n3 a b hm
  · exact n4 a b hm
  · exact n5 a b hm
  · exact n6 a b hm
  · exact n7 a b hm

/-- bounds of what is encoded -/
def Bnd (y : S30) : Prop := y.f_Wide = true ∧ (0 ≤ y.f_D ∧ y.f_D ≤ 15) ∧ (0 ≤ y.f_N ∧ y.f_N ≤ 15) ∧ (0 ≤ y.f_M ∧ y.f_M ≤ 15) ∧ (0 ≤ y.f_A ∧ y.f_A ≤ 15) ∧ (0 ≤ y.f_Amt ∧ y.f_Amt ≤ 32) ∧ (0 ≤ y.f_List ∧ y.f_List ≤ 65535)

/-- what two halves are tells them again -/
def GoodE (h k : Int) (y : S30) : Prop := y.f_Op = 64 ∨ y.f_Op = 65 ∨ (o35y y = some (h, k) ∧ [h, k] ∈ cands y ∧ Bnd y)

theorem o12_form (y : S30) : o12y y = cond (!y.f_Wide) (some (0, 0, false)) (cond (y.f_Op == 64) (some (0, 0, false)) (cond (y.f_Op == 65) (some (0, 0, false))
    (cond (decide (imn y.f_List (imn y.f_Amt (imn y.f_A (imn y.f_M (imn y.f_N y.f_D)))) < 0)) (some (0, 0, false)) (cond (decide (imx y.f_A (imx y.f_M (imx y.f_N y.f_D)) > 15)) (some (0, 0, false))
    (cond (decide (y.f_Amt > 32)) (some (0, 0, false)) (cond (decide (y.f_List > 65535)) (some (0, 0, false)) (cond (o35y y).isSome
      (cond (!eq30 (dW (wrapF .u16 ((o35y y).getD default).1) (wrapF .u16 ((o35y y).getD default).2) false) y) (some (0, 0, false)) (some (wrapF .u16 ((o35y y).getD default).1, wrapF .u16 ((o35y y).getD default).2, true))) none))))))) := by
  obtain ⟨Op, Wide, S, Cond, D, N, M, A, Imm, UseImm, Sh, Amt, Ls, Back, Down⟩ := y
  rfl

theorem o12_bnd {y : S30} (hb : Bnd y) (h64 : y.f_Op ≠ 64) (h65 : y.f_Op ≠ 65) : o12y y = cond (o35y y).isSome
      (cond (!eq30 (dW (wrapF .u16 ((o35y y).getD default).1) (wrapF .u16 ((o35y y).getD default).2) false) y) (some (0, 0, false)) (some (wrapF .u16 ((o35y y).getD default).1, wrapF .u16 ((o35y y).getD default).2, true))) none := by
  obtain ⟨hw, hD, hN, hM, hA, hAm, hLs⟩ := hb
  rw [o12_form, hw, beqF h64, beqF h65]
  have c1 : ¬ imn y.f_List (imn y.f_Amt (imn y.f_A (imn y.f_M (imn y.f_N y.f_D)))) < 0 := by
    unfold imn
    repeat' split
    all_goals omega
  have c2 : ¬ imx y.f_A (imx y.f_M (imx y.f_N y.f_D)) > 15 := by
    unfold imx
    repeat' split
    all_goals omega
  rw [decide_eq_false c1, decide_eq_false c2, decide_eq_false (show ¬ y.f_Amt > 32 by omega), decide_eq_false (show ¬ y.f_List > 65535 by omega)]
  rfl

theorem w16 (x : Int) : 0 ≤ wrapF .u16 x ∧ wrapF .u16 x ≤ 65535 := (wrap_fact .u16 x 0 65535 (by decide)).1

/-- the program's Encode is the reference's, if so for each pair of halves -/
theorem enc_eq {y : S30} (hL : Lists y) (hR : (o35y y).isSome = true) (hG : ∀ h k, (0 ≤ h ∧ h ≤ 65535) → (0 ≤ k ∧ k ≤ 65535) → GoodE h k (dW h k false)) :
    ∃ r, o11y y = some r ∧ o12y y = some r := by
  rcases o11_spec hL with ⟨a, b, e, h64, h65, hd, ha, hb⟩ | ⟨e, hn⟩
  · refine ⟨_, e, ?_⟩
    have hg := hG a b ha hb
    rw [hd] at hg
    rcases hg with hg | hg | ⟨g1, g2, g3⟩
    · exact absurd hg h64
    · exact absurd hg h65
    rw [o12_bnd g3 h64 h65, g1]
    simp only [Option.isSome_some, cond_true, Option.getD_some]
    rw [wrapF_le ha.1 (by simp only [topN, Int.ofNat_eq_natCast]; omega), wrapF_le hb.1 (by simp only [topN, Int.ofNat_eq_natCast]; omega), hd, eq30_refl]
    rfl
  · refine ⟨_, e, ?_⟩
    rw [o12_form]
    cases y.f_Wide with
    | false => rfl
    | true =>
      by_cases h64 : y.f_Op = 64
      · rw [beqT h64]; rfl
      rw [beqF h64]
      by_cases h65 : y.f_Op = 65
      · rw [beqT h65]; rfl
      rw [beqF h65]
      have hn : ∀ a b, [a, b] ∈ cands y → dW a b false ≠ y := by
        rcases hn with hn | hn | hn
        · exact absurd hn h64
        · exact absurd hn h65
        · exact hn
      rw [hR]
      have hq : eq30 (dW (wrapF .u16 ((o35y y).getD default).1) (wrapF .u16 ((o35y y).getD default).2) false) y = false := by
        cases hE : eq30 (dW (wrapF .u16 ((o35y y).getD default).1) (wrapF .u16 ((o35y y).getD default).2) false) y with
        | false => rfl
        | true =>
          exfalso
          have hE := (eq30_iff _ _).1 hE
          have hg := hG _ _ (w16 ((o35y y).getD default).1) (w16 ((o35y y).getD default).2)
          rw [hE] at hg
          rcases hg with hg | hg | ⟨g1, g2, g3⟩
          · exact h64 hg
          · exact h65 hg
          · exact hn _ _ g2 hE
      rw [hq]
      cases decide (imn y.f_List (imn y.f_Amt (imn y.f_A (imn y.f_M (imn y.f_N y.f_D)))) < 0) <;>
      cases decide (imx y.f_A (imx y.f_M (imx y.f_N y.f_D)) > 15) <;>
      cases decide (y.f_Amt > 32) <;>
      cases decide (y.f_List > 65535) <;> rfl

/-- an instruction that two halves are is encoded as they are -/
theorem enc_of {y : S30} (hL : Lists y) (hG : ∀ h k, (0 ≤ h ∧ h ≤ 65535) → (0 ≤ k ∧ k ≤ 65535) → GoodE h k (dW h k false)) {h k : Int} (hh : 0 ≤ h ∧ h ≤ 65535) (hk : 0 ≤ k ∧ k ≤ 65535) (hd : dW h k false = y) (h64 : y.f_Op ≠ 64) (h65 : y.f_Op ≠ 65) :
    o11y y = some (h, k, true) := by
  have key : ∀ a b, (0 ≤ a ∧ a ≤ 65535) → (0 ≤ b ∧ b ≤ 65535) → dW a b false = y → o35y y = some (a, b) ∧ [a, b] ∈ cands y := fun a b ha hb he => by
    have hg := hG a b ha hb
    rw [he] at hg
    rcases hg with hg | hg | ⟨g1, g2, g3⟩
    · exact absurd hg h64
    · exact absurd hg h65
    · exact ⟨g1, g2⟩
  rcases o11_spec hL with ⟨a, b, e, _, _, hd', ha, hb⟩ | ⟨e, hn⟩
  · have := (key a b ha hb hd').1
    rw [(key h k hh hk hd).1] at this
    cases this
    exact e
  · rcases hn with hn | hn | hn
    · exact absurd hn h64
    · exact absurd hn h65
    · exact absurd hd (hn _ _ (key h k hh hk hd).2)

end Go.Den
end
section
set_option linter.unusedVariables false
set_option maxRecDepth 100000
namespace Go.Den

/-- what two halves are, row by row -/
theorem dW_cases {h k : Int} (hh : U16 h) (hk : U16 k) (i : Bool) (P : S30 → Prop)
    (c1 : fm h 11 31 = 30 → fm k 15 1 = 1 → P (p16 h k i))
    (c2 : fm h 11 31 = 30 → fm k 15 1 = 0 → fm h 9 1 = 0 → P (g17 h k i))
    (c3 : fm h 11 31 = 30 → fm k 15 1 = 0 → fm h 9 1 = 1 → P (p18 h k i))
    (c4 : fm h 9 127 = 117 → fm k 15 1 = 0 → P (p19 h k i))
    (c5 : fm h 9 127 = 124 → P (p20 h k i))
    (c6 : fm h 8 255 = 250 → P (p21 h k i))
    (c7 : fm h 8 255 = 251 → P (p22 h k i))
    (c8 : fm h 6 1023 = 930 ∨ fm h 6 1023 = 932 → P (p23 h k i))
    (c9 : P (p24 h k i)) : P (dW h k i) := by
  have w1 : wrapF .u32 h = h := wrapF_le hh.1 (by have := hh.2; simp only [topN, Int.ofNat_eq_natCast]; omega)
  have w2 : wrapF .u32 k = k := wrapF_le hk.1 (by have := hk.2; simp only [topN, Int.ofNat_eq_natCast]; omega)
  obtain ⟨d1, d2⟩ := decode_eq hh hk i
  obtain ⟨r, hr⟩ := Option.isSome_iff_exists.1 d1
  have hd : dW h k i = r := by unfold dW g10; rw [hr, Option.getD_some]
  rw [hd]
  have h9 : o9 h k i = some r := d2.trans hr
  have r15 := fm_fact k 15 1 (by decide)
  have r91 := fm_fact h 9 1 (by decide)
  unfold o9 at h9
  simp only [w1, w2, gf7 hh, gf1 hh, gf1 hk, s16_11 hh, s16_8 hh, s16_6 hh, Int.reduceLE] at h9
  by_cases a : fm h 11 31 = 30
  · rw [beqT a] at h9
    by_cases b : fm k 15 1 = 0
    · rw [beqT b] at h9
      by_cases c : fm h 9 1 = 0
      · rw [beqT c] at h9
        obtain ⟨q, q1, q2⟩ := modified_eq hh hk i
        rw [q2] at h9
        have g2 : g17 h k i = wrapR h k i q := by unfold g17; rw [q2, Option.getD_some]
        have h9 : some (g17 h k i) = some r := h9
        cases h9
        exact c2 a b c
      · rw [beqF c] at h9
        have h9 : some (p18 h k i) = some r := h9
        cases h9
        exact c3 a b (by omega)
    · rw [beqF b] at h9
      have h9 : some (p16 h k i) = some r := h9
      cases h9
      exact c1 a (by omega)
  · rw [beqF a] at h9
    simp only [cond_false] at h9
    by_cases b : fm h 9 127 = 117 ∧ fm k 15 1 = 0
    · rw [beqT b.1, beqT b.2] at h9
      have h9 : some (p19 h k i) = some r := h9
      cases h9
      exact c4 b.1 b.2
    · have hb : (bif fm h 9 127 == 117 then fm k 15 1 == 0 else false) = false := by
        by_cases b1 : fm h 9 127 = 117
        · rw [beqT b1, beqF (fun b2 => b ⟨b1, b2⟩)]; rfl
        · rw [beqF b1]; rfl
      rw [hb] at h9
      simp only [cond_false] at h9
      by_cases c : fm h 9 127 = 124
      · rw [beqT c] at h9
        have h9 : some (p20 h k i) = some r := h9
        cases h9
        exact c5 c
      rw [beqF c] at h9
      by_cases d : fm h 8 255 = 250
      · rw [beqT d] at h9
        have h9 : some (p21 h k i) = some r := h9
        cases h9
        exact c6 d
      rw [beqF d] at h9
      by_cases e : fm h 8 255 = 251
      · rw [beqT e] at h9
        have h9 : some (p22 h k i) = some r := h9
        cases h9
        exact c7 e
      rw [beqF e] at h9
      by_cases f : fm h 6 1023 = 930
      · rw [beqT f] at h9
        have h9 : some (p23 h k i) = some r := h9
        cases h9
        exact c8 (Or.inl f)
      rw [beqF f] at h9
      by_cases g : fm h 6 1023 = 932
      · rw [beqT g] at h9
        have h9 : some (p23 h k i) = some r := h9
        cases h9
        exact c8 (Or.inr g)
      rw [beqF g] at h9
      have h9 : some (p24 h k i) = some r := h9
      cases h9
      exact c9

end Go.Den
end
section
set_option linter.unusedVariables false
set_option maxRecDepth 100000
namespace Go.Den

/-! ### fields of numbers as sums -/

theorem or_mid_nat (x y z s t : Nat) (hst : s ≤ t) (hy : y < 2 ^ s) (hz : 2 ^ s * z < 2 ^ t) : (2 ^ t * x + y) ||| (2 ^ s * z) = 2 ^ t * x + y + 2 ^ s * z := by
  have h1 : y ||| (2 ^ s * z) = 2 ^ s * z + y := by
    rw [Nat.or_comm, ← Nat.two_pow_add_eq_or_of_lt hy]
  have hyt : y < 2 ^ t := Nat.lt_of_lt_of_le hy (Nat.pow_le_pow_right (by decide) hst)
  have h2 : 2 ^ s * z + y < 2 ^ t := by
    obtain ⟨d, rfl⟩ := Nat.exists_eq_add_of_le hst
    rw [Nat.pow_add] at hz ⊢
    have hz' : z + 1 ≤ 2 ^ d := Nat.lt_of_mul_lt_mul_left hz
    have h3 : 2 ^ s * (z + 1) ≤ 2 ^ s * 2 ^ d := Nat.mul_le_mul_left _ hz'
    rw [Nat.mul_add, Nat.mul_one] at h3
    omega
  rw [Nat.two_pow_add_eq_or_of_lt hyt, Nat.or_assoc, h1, ← Nat.two_pow_add_eq_or_of_lt h2, ← Nat.two_pow_add_eq_or_of_lt hyt]
  omega

theorem big_of (k : IntKind) (hk : Nat.ble 4294967295 (topN k) = true) {n : Nat} (h : n ≤ 4294967295) : n ≤ topN k := Nat.le_trans h (Nat.le_of_ble_eq_true hk)

/-- 'or' of fields that don't overlap: B lies in a gap of A -/
theorem or_lin (k : IntKind) (A B R A1 A0 : Int) (t s p q : Nat) (hk : Nat.ble 4294967295 (topN k) = true) (hst : s ≤ t) (hp : 2 ^ t = p) (hq : 2 ^ s = q) (hA : A = A1 + A0) (h1 : 0 ≤ A1 ∧ A1 % p = 0) (h0 : 0 ≤ A0 ∧ A0 < q) (hB : 0 ≤ B ∧ B < p ∧ B % q = 0) (hR : R = A + B) (hT : R ≤ 4294967295) : bitsF .or k A B = R := by
  subst hA hR
  obtain ⟨a1, rfl⟩ := Int.eq_ofNat_of_zero_le h1.1
  obtain ⟨a0, rfl⟩ := Int.eq_ofNat_of_zero_le h0.1
  obtain ⟨b, rfl⟩ := Int.eq_ofNat_of_zero_le hB.1
  have hd1 : a1 % p = 0 := by have := h1.2; omega
  have hdb : b % q = 0 := by have := hB.2.2; omega
  have e := bitsF_or_nat k (a1 + a0) b (big_of k hk (by omega)) (big_of k hk (by omega))
  rw [show ((a1 : Int) + (a0 : Int)) = Int.ofNat (a1 + a0) from (Int.natCast_add a1 a0).symm, show ((b : Int)) = Int.ofNat b from rfl, e]
  obtain ⟨x, rfl⟩ : ∃ x, a1 = p * x := ⟨a1 / p, by have := Nat.div_add_mod a1 p; omega⟩
  obtain ⟨z, rfl⟩ : ∃ z, b = q * z := ⟨b / q, by have := Nat.div_add_mod b q; omega⟩
  subst hp hq
  have := or_mid_nat x a0 z s t hst (by have := h0.2; omega) (by have := hB.2.1; omega)
  show Int.ofNat ((2 ^ t * x + a0) ||| (2 ^ s * z)) = _
  rw [this]
  simp only [Int.ofNat_eq_natCast, Int.natCast_add]

theorem and_lin (k : IntKind) (X R m A1 : Int) (t p : Nat) (hk : Nat.ble 4294967295 (topN k) = true) (hp : 2 ^ t = p) (hm : m = (p : Int) - 1) (hX : X = A1 + R) (h1 : 0 ≤ A1 ∧ A1 % p = 0) (h0 : 0 ≤ R ∧ R < p) (hT : X ≤ 4294967295) (hmT : m ≤ 4294967295) : bitsF .and k X m = R := by
  subst hX
  obtain ⟨a1, rfl⟩ := Int.eq_ofNat_of_zero_le h1.1
  obtain ⟨r, rfl⟩ := Int.eq_ofNat_of_zero_le h0.1
  have hd1 : a1 % p = 0 := by have := h1.2; omega
  have hp0 : 0 < p := by rw [← hp]; exact Nat.two_pow_pos t
  have hm' : m = ((2 ^ t - 1 : Nat) : Int) := by rw [hp]; omega
  have e := bitsF_and_nat k (a1 + r) (2 ^ t - 1) (big_of k hk (by omega)) (big_of k hk (by omega))
  rw [hm', show ((a1 : Int) + (r : Int)) = Int.ofNat (a1 + r) from (Int.natCast_add a1 r).symm, show (((2 ^ t - 1 : Nat)) : Int) = Int.ofNat (2 ^ t - 1) from rfl, e]
  show Int.ofNat ((a1 + r) &&& (2 ^ t - 1)) = _
  rw [Nat.and_two_pow_sub_one_eq_mod, hp]
  have : (a1 + r) % p = r := by
    rw [Nat.add_mod, hd1, Nat.zero_add, Nat.mod_mod]
    exact Nat.mod_eq_of_lt (by have := h0.2; omega)
  rw [this]
  rfl

theorem shr_lin (k : IntKind) (X s R A0 : Int) (p : Nat) (hk : Nat.ble 4294967295 (topN k) = true) (hs : 0 ≤ s) (hp : 2 ^ s.toNat = p) (hX : X = R * p + A0) (h0 : 0 ≤ A0 ∧ A0 < p) (hR : 0 ≤ R) (hT : X ≤ 4294967295) : shrF k X s = R := by
  obtain ⟨r, rfl⟩ := Int.eq_ofNat_of_zero_le hR
  obtain ⟨a, rfl⟩ := Int.eq_ofNat_of_zero_le h0.1
  obtain ⟨n, rfl⟩ := Int.eq_ofNat_of_zero_le hs
  have hX' : X = Int.ofNat (r * p + a) := by rw [hX]; simp only [Int.ofNat_eq_natCast, Int.natCast_add, Int.natCast_mul]
  rw [hX', show ((n : Int)) = Int.ofNat n from rfl, shrF_nat k _ n (big_of k hk (by rw [hX'] at hT; simp only [Int.ofNat_eq_natCast] at hT; omega))]
  simp only [Int.toNat_natCast] at hp
  rw [hp]
  have hp0 : 0 < p := by rw [← hp]; exact Nat.two_pow_pos n
  have : (r * p + a) / p = r := by
    rw [Nat.mul_comm, Nat.mul_add_div hp0, Nat.div_eq_of_lt (by have := h0.2; omega), Nat.add_zero]
  rw [this]
  rfl

theorem shl_lin (k : IntKind) (X s R : Int) (p : Nat) (hk : Nat.ble 4294967295 (topN k) = true) (hs : 0 ≤ s ∧ s.toNat ≤ bitsK k) (hp : 2 ^ s.toNat = p) (h0 : 0 ≤ X) (hR : R = X * p) (hT : R ≤ 4294967295) : shlF k X s = R := by
  have h4 : (4294967295 : Int) ≤ Int.ofNat (topN k) := by
    have := Nat.le_of_ble_eq_true hk
    simp only [Int.ofNat_eq_natCast]
    omega
  rw [hR]
  exact shl_mul' k X s p h0 hs hp (by rw [← hR]; omega)

theorem wrap_lin (k : IntKind) (X R : Int) (m : Nat) (hk : Nat.ble m (topN k) = true) (hR : R = X) (h0 : 0 ≤ X) (hT : X ≤ m) : wrapF k X = R := by
  rw [hR]
  exact wrapF_le h0 (by
    have := Nat.le_of_ble_eq_true hk
    simp only [Int.ofNat_eq_natCast]
    omega)

theorem tmod_lin (X b R q : Int) (hb : 0 < b) (h0 : 0 ≤ X) (hX : X = q * b + R) (hR : 0 ≤ R ∧ R < b) : X.tmod b = R := by
  rw [(tmod_fact X b hb h0).2.2, hX, Int.add_comm, Int.add_mul_emod_self_right]
  exact Int.emod_eq_of_lt hR.1 hR.2

theorem tdiv_lin (X b R q : Int) (hb : 0 < b) (h0 : 0 ≤ X) (hX : X = q * b + R) (hR : 0 ≤ R ∧ R < b) : X.tdiv b = q := by
  rw [(tdiv_fact X b hb).1 h0, hX, Int.add_comm, Int.add_mul_ediv_right _ _ (by omega), Int.ediv_eq_zero_of_lt hR.1 hR.2, Int.zero_add]

abbrev oI (a b : Int) : Int := bitsF .or .i64 a b
abbrev aI (a b : Int) : Int := bitsF .and .i64 a b
abbrev aU (a b : Int) : Int := bitsF .and .u32 a b
abbrev xI (a b : Int) : Int := bitsF .xor .i64 a b
abbrev sI (a b : Int) : Int := shlF .i64 a b
abbrev rI (a b : Int) : Int := shrF .i64 a b
abbrev rU (a b : Int) : Int := shrF .u32 a b
abbrev wI (a : Int) : Int := wrapF .i64 a
abbrev wU (a : Int) : Int := wrapF .u32 a
abbrev wH (a : Int) : Int := wrapF .u16 a

theorem oL {A B R : Int} (A1 A0 : Int) (t s p q : Nat) (hd : s ≤ t ∧ 2 ^ t = p ∧ 2 ^ s = q := by decide) (h : A = A1 + A0 ∧ (0 ≤ A1 ∧ A1 % p = 0) ∧ (0 ≤ A0 ∧ A0 < q) ∧ (0 ≤ B ∧ B < p ∧ B % q = 0) ∧ R = A + B ∧ R ≤ 4294967295 := by omega) : oI A B = R :=
  or_lin .i64 A B R A1 A0 t s p q (by decide) hd.1 hd.2.1 hd.2.2 h.1 h.2.1 h.2.2.1 h.2.2.2.1 h.2.2.2.2.1 h.2.2.2.2.2
theorem aL {X R m : Int} (A1 : Int) (t p : Nat) (hd : 2 ^ t = p := by decide) (h : m = (p : Int) - 1 ∧ X = A1 + R ∧ (0 ≤ A1 ∧ A1 % p = 0) ∧ (0 ≤ R ∧ R < p) ∧ X ≤ 4294967295 ∧ m ≤ 4294967295 := by omega) : aI X m = R :=
  and_lin .i64 X R m A1 t p (by decide) hd h.1 h.2.1 h.2.2.1 h.2.2.2.1 h.2.2.2.2.1 h.2.2.2.2.2
theorem aLU {X R m : Int} (A1 : Int) (t p : Nat) (hd : 2 ^ t = p := by decide) (h : m = (p : Int) - 1 ∧ X = A1 + R ∧ (0 ≤ A1 ∧ A1 % p = 0) ∧ (0 ≤ R ∧ R < p) ∧ X ≤ 4294967295 ∧ m ≤ 4294967295 := by omega) : aU X m = R :=
  and_lin .u32 X R m A1 t p (by decide) hd h.1 h.2.1 h.2.2.1 h.2.2.2.1 h.2.2.2.2.1 h.2.2.2.2.2
theorem rL {X s R : Int} (A0 : Int) (p : Nat) (hd : 0 ≤ s ∧ 2 ^ s.toNat = p := by decide) (h : X = R * p + A0 ∧ (0 ≤ A0 ∧ A0 < p) ∧ 0 ≤ R ∧ X ≤ 4294967295 := by omega) : rI X s = R :=
  shr_lin .i64 X s R A0 p (by decide) hd.1 hd.2 h.1 h.2.1 h.2.2.1 h.2.2.2
theorem rLU {X s R : Int} (A0 : Int) (p : Nat) (hd : 0 ≤ s ∧ 2 ^ s.toNat = p := by decide) (h : X = R * p + A0 ∧ (0 ≤ A0 ∧ A0 < p) ∧ 0 ≤ R ∧ X ≤ 4294967295 := by omega) : rU X s = R :=
  shr_lin .u32 X s R A0 p (by decide) hd.1 hd.2 h.1 h.2.1 h.2.2.1 h.2.2.2
theorem sL {X s R : Int} (p : Nat) (hd : (0 ≤ s ∧ s.toNat ≤ bitsK .i64) ∧ 2 ^ s.toNat = p := by decide) (h : 0 ≤ X ∧ R = X * p ∧ R ≤ 4294967295 := by omega) : sI X s = R :=
  shl_lin .i64 X s R p (by decide) hd.1 hd.2 h.1 h.2.1 h.2.2
theorem wLI {X R : Int} (h : R = X ∧ 0 ≤ X ∧ X ≤ (4294967295 : Nat) := by omega) : wI X = R := wrap_lin .i64 X R 4294967295 (by decide) h.1 h.2.1 h.2.2
theorem wLU {X R : Int} (h : R = X ∧ 0 ≤ X ∧ X ≤ (4294967295 : Nat) := by omega) : wU X = R := wrap_lin .u32 X R 4294967295 (by decide) h.1 h.2.1 h.2.2
theorem wLH {X R : Int} (h : R = X ∧ 0 ≤ X ∧ X ≤ (65535 : Nat) := by omega) : wH X = R := wrap_lin .u16 X R 65535 (by decide) h.1 h.2.1 h.2.2
theorem pair_some {a b c d : Int} (h1 : a = c) (h2 : b = d) : some (a, b) = some (c, d) := by rw [h1, h2]

theorem p59_b {x : Int} (h : 0 ≤ x ∧ x ≤ 1) : p59 (x == 1) = x := by
  obtain rfl | rfl : x = 0 ∨ x = 1 := by omega
  all_goals rfl
theorem p68_b {x : Int} (h : 0 ≤ x ∧ x ≤ 1) : p68 (x == 1) = x := by
  obtain rfl | rfl : x = 0 ∨ x = 1 := by omega
  all_goals rfl

/-- one of a list of one -/
theorem mem_one {h k a b : Int} {L : List (List Int)} (e : L = [[a, b]]) (ha : a = h) (hb : b = k) : [h, k] ∈ L := by
  rw [e, ha, hb]
  exact List.mem_cons_self

theorem row_one {o : Option (Int × Int)} {X Y H K : Int} (h : o = some (X, Y)) (h1 : X = H) (h2 : Y = K) : o = some (H, K) := by rw [h, h1, h2]

theorem mem_at {h k a b : Int} {L : List (List Int)} (n : Nat) (e : (L.drop n).head? = some [a, b]) (ha : a = h) (hb : b = k) : [h, k] ∈ L := by
  subst ha hb
  exact List.mem_of_mem_drop (List.mem_of_mem_head? e)

theorem mem_cands (y : S30) {w : List Int} : (w ∈ L28 y → w ∈ cands y) ∧ (w ∈ L29 y → w ∈ cands y) ∧ (w ∈ L30 y → w ∈ cands y) ∧ (w ∈ L31 y → w ∈ cands y) ∧ (w ∈ L32 y → w ∈ cands y) ∧ (w ∈ L33y y → w ∈ cands y) ∧ (w ∈ L34 y → w ∈ cands y) := by
  unfold cands
  simp only [List.mem_append]
  refine ⟨?_, ?_, ?_, ?_, ?_, ?_, ?_⟩ <;> intro h <;> simp only [h, true_or, or_true]

theorem mem_all33 (y : S30) {w : List Int} : ∀ (j i n : Nat), i ≤ n → n < i + j → w ∈ m33 y (n : Int) → w ∈ all33 y i j
  | 0, i, n, h1, h2, _ => by omega
  | j + 1, i, n, h1, h2, h => by
    unfold all33
    rw [List.mem_append]
    by_cases e : n = i
    · subst e
      exact Or.inl h
    · exact Or.inr (mem_all33 y j (i + 1) n (by omega) (by omega) h)

theorem mem_L33 (y : S30) {w : List Int} (n : Nat) (hn : n < 16) (h : w ∈ m33 y (n : Int)) : w ∈ L33y y := mem_all33 y 16 0 n (Nat.zero_le _) hn h

end Go.Den
end
