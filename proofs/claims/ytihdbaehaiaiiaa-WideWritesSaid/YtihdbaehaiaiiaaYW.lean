import Derived.Test.YtihdbaehaiaiiaaY13
set_option linter.unusedSimpArgs false
section
set_option linter.unusedVariables false
set_option maxRecDepth 100000
namespace Go.Den

abbrev path4 : Path := [false, true, false, true, true]
abbrev path4i : Path := [false, true, true, false, false, true, false, false, true, false, true, true]

def fr4i (h k n x y i : Int) (xs : List V) (m j : Int) : Fr := [(0, .sc (.int .u16 h)), (1, .sc (.int .u16 k)), (2, .sc (.int .u8 n)), (3, .sc (.int .u16 x)), (4, .sc (.int .u16 y)), (11, .ptr 0 0), (13, .sc (.int .u8 i)), (62, .sl true 2 xs), (63, .sc (.int .i64 m)), (64, .sc (.int .i64 j))]
def ex4i (h k n x y i : Int) (xs : List V) (m j : Int) (b : Bool) : Fr := [(65, .sc (.bool (false))), (0, .sc (.int .u16 (h))), (1, .sc (.int .u16 (k))), (2, .sc (.int .u8 (n))), (3, .sc (.int .u16 (x))), (4, .sc (.int .u16 (y))), (11, .ptr (0) (0)), (13, .sc (.int .u8 (i))), (62, .sl (true) (2) (xs)), (63, .sc (.int .i64 (m))), (64, .sc (.int .i64 (j))), (65, .sc (.bool (b)))]
noncomputable def ret4i_0 (h k n x y i : Int) (xs : List V) (m j : Int) (r : S30) : Fr := [(0, .sc (.int .u16 (h))), (1, .sc (.int .u16 (k))), (2, .sc (.int .u8 (n))), (3, .sc (.int .u16 (x))), (4, .sc (.int .u16 (y))), (5, .any), (11, .ptr (0) (0)), (12, .sc (.bool (false))), (13, .sc (.int .u8 (i))), (14, .any), (15, .any), (17, .ptr (1) (0)), (18, .ptr (2) (0)), (19, .sc (.int .u16 ((E (dW (fa xs j.toNat) (fb xs j.toNat) false)).fst))), (20, .sc (.int .u16 ((E (dW (fa xs j.toNat) (fb xs j.toNat) false)).snd.fst))), (21, .sc (.bool ((E (dW (fa xs j.toNat) (fb xs j.toNat) false)).snd.snd))), (22, .sc (.bool ((dW (fa xs j.toNat) (fb xs j.toNat) false).f_Op != 65))), (23, .any), (24, .any), (25, .any), (26, .any), (27, .any), (28, .any), (30, .any), (32, .any), (62, .sl (true) (2) (xs)), (63, .sc (.int .i64 (m))), (64, .sc (.int .i64 (j))), (65, .sc (.bool (true))), (116, .sc (.bool (true)))]
noncomputable def hp4i_0 (h k n x y i : Int) (xs : List V) (m j : Int) (r : S30) : Heap := [cells30 r, [.sc (.int .u16 (fa xs j.toNat)), .sc (.int .u16 (fb xs j.toNat))], [.sc (.int .i64 ((dW (fa xs j.toNat) (fb xs j.toNat) false).f_Op)), .sc (.bool ((dW (fa xs j.toNat) (fb xs j.toNat) false).f_Wide)), .sc (.bool ((dW (fa xs j.toNat) (fb xs j.toNat) false).f_S)), .sc (.int .i64 ((dW (fa xs j.toNat) (fb xs j.toNat) false).f_Cond)), .sc (.int .i64 ((dW (fa xs j.toNat) (fb xs j.toNat) false).f_D)), .sc (.int .i64 ((dW (fa xs j.toNat) (fb xs j.toNat) false).f_N)), .sc (.int .i64 ((dW (fa xs j.toNat) (fb xs j.toNat) false).f_M)), .sc (.int .i64 ((dW (fa xs j.toNat) (fb xs j.toNat) false).f_A)), .sc (.int .u32 ((dW (fa xs j.toNat) (fb xs j.toNat) false).f_Imm)), .sc (.bool ((dW (fa xs j.toNat) (fb xs j.toNat) false).f_UseImm)), .sc (.int .i64 ((dW (fa xs j.toNat) (fb xs j.toNat) false).f_Sh)), .sc (.int .i64 ((dW (fa xs j.toNat) (fb xs j.toNat) false).f_Amt)), .sc (.int .i64 ((dW (fa xs j.toNat) (fb xs j.toNat) false).f_List)), .sc (.bool ((dW (fa xs j.toNat) (fb xs j.toNat) false).f_Back)), .sc (.bool ((dW (fa xs j.toNat) (fb xs j.toNat) false).f_Down))]]
noncomputable def ret4i_1 (h k n x y i : Int) (xs : List V) (m j : Int) (r : S30) : Fr := [(0, .sc (.int .u16 (h))), (1, .sc (.int .u16 (k))), (2, .sc (.int .u8 (n))), (3, .sc (.int .u16 (x))), (4, .sc (.int .u16 (y))), (5, .any), (11, .ptr (0) (0)), (12, .sc (.bool (false))), (13, .sc (.int .u8 (i))), (14, .any), (15, .any), (17, .ptr (1) (0)), (18, .ptr (2) (0)), (19, .sc (.int .u16 ((E (dW (fa xs j.toNat) (fb xs j.toNat) false)).fst))), (20, .sc (.int .u16 ((E (dW (fa xs j.toNat) (fb xs j.toNat) false)).snd.fst))), (21, .sc (.bool ((E (dW (fa xs j.toNat) (fb xs j.toNat) false)).snd.snd))), (22, .sc (.bool (false))), (23, .any), (24, .any), (25, .any), (26, .any), (27, .any), (28, .any), (30, .any), (32, .any), (62, .sl (true) (2) (xs)), (63, .sc (.int .i64 (m))), (64, .sc (.int .i64 (j))), (65, .sc (.bool (true))), (116, .sc (.bool (true)))]
noncomputable def hp4i_1 (h k n x y i : Int) (xs : List V) (m j : Int) (r : S30) : Heap := [cells30 r, [.sc (.int .u16 (fa xs j.toNat)), .sc (.int .u16 (fb xs j.toNat))], [.sc (.int .i64 ((dW (fa xs j.toNat) (fb xs j.toNat) false).f_Op)), .sc (.bool ((dW (fa xs j.toNat) (fb xs j.toNat) false).f_Wide)), .sc (.bool ((dW (fa xs j.toNat) (fb xs j.toNat) false).f_S)), .sc (.int .i64 ((dW (fa xs j.toNat) (fb xs j.toNat) false).f_Cond)), .sc (.int .i64 ((dW (fa xs j.toNat) (fb xs j.toNat) false).f_D)), .sc (.int .i64 ((dW (fa xs j.toNat) (fb xs j.toNat) false).f_N)), .sc (.int .i64 ((dW (fa xs j.toNat) (fb xs j.toNat) false).f_M)), .sc (.int .i64 ((dW (fa xs j.toNat) (fb xs j.toNat) false).f_A)), .sc (.int .u32 ((dW (fa xs j.toNat) (fb xs j.toNat) false).f_Imm)), .sc (.bool ((dW (fa xs j.toNat) (fb xs j.toNat) false).f_UseImm)), .sc (.int .i64 ((dW (fa xs j.toNat) (fb xs j.toNat) false).f_Sh)), .sc (.int .i64 ((dW (fa xs j.toNat) (fb xs j.toNat) false).f_Amt)), .sc (.int .i64 ((dW (fa xs j.toNat) (fb xs j.toNat) false).f_List)), .sc (.bool ((dW (fa xs j.toNat) (fb xs j.toNat) false).f_Back)), .sc (.bool ((dW (fa xs j.toNat) (fb xs j.toNat) false).f_Down))]]

theorem body4i (h : Int) (k : Int) (n : Int) (x : Int) (y : Int) (i : Int) (xs : List V) (m : Int) (j : Int) (r : S30) (K : Ex → Fr → Heap → R) : bodyK ctx knE2 lt11 3 4 path4i 0 (fr4i h k n x y i xs m j) [cells30 r] K = (cond (closedL 1 xs && true && true) (cond (decide (j < m)) (cond (decide (0 ≤ j ∧ j < Int.ofNat xs.length)) (cond (allA zs2 xs) (cond (decide (j.toNat < xs.length)) (cond (decide ((0 ≤ fa xs j.toNat ∧ fa xs j.toNat ≤ 65535) ∧ 0 ≤ fb xs j.toNat ∧ fb xs j.toNat ≤ 65535)) (cond ((dW (fa xs j.toNat) (fb xs j.toNat) false).f_Op != 64) (cond (!(E (dW (fa xs j.toNat) (fb xs j.toNat) false)).snd.snd == ((dW (fa xs j.toNat) (fb xs j.toNat) false).f_Op != 65)) (K .ret (ret4i_0 h k n x y i xs m j r) (hp4i_0 h k n x y i xs m j r)) (cond ((dW (fa xs j.toNat) (fb xs j.toNat) false).f_Op != 65) (cond ((E (dW (fa xs j.toNat) (fb xs j.toNat) false)).fst != fa xs j.toNat) (K .ret (ret4i_0 h k n x y i xs m j r) (hp4i_0 h k n x y i xs m j r)) (cond ((E (dW (fa xs j.toNat) (fb xs j.toNat) false)).snd.fst != fb xs j.toNat) (K .ret (ret4i_0 h k n x y i xs m j r) (hp4i_0 h k n x y i xs m j r)) (cond (!(dW (fa xs j.toNat) (fb xs j.toNat) false).f_Op != 65) (cond ((E (dW (fa xs j.toNat) (fb xs j.toNat) false)).fst != 0) (K .ret (ret4i_0 h k n x y i xs m j r) (hp4i_0 h k n x y i xs m j r)) (cond ((E (dW (fa xs j.toNat) (fb xs j.toNat) false)).snd.fst != 0) (K .ret (ret4i_0 h k n x y i xs m j r) (hp4i_0 h k n x y i xs m j r)) (cond (closedL 1 xs && true && true) (K .nrm (fr4i h k n x y i xs m (wrapF .i64 (j + 1))) [cells30 r]) none))) (cond (closedL 1 xs && true && true) (K .nrm (fr4i h k n x y i xs m (wrapF .i64 (j + 1))) [cells30 r]) none)))) (cond (!(dW (fa xs j.toNat) (fb xs j.toNat) false).f_Op != 65) (cond ((E (dW (fa xs j.toNat) (fb xs j.toNat) false)).fst != 0) (K .ret (ret4i_0 h k n x y i xs m j r) (hp4i_0 h k n x y i xs m j r)) (cond ((E (dW (fa xs j.toNat) (fb xs j.toNat) false)).snd.fst != 0) (K .ret (ret4i_0 h k n x y i xs m j r) (hp4i_0 h k n x y i xs m j r)) (cond (closedL 1 xs && true && true) (K .nrm (fr4i h k n x y i xs m (wrapF .i64 (j + 1))) [cells30 r]) none))) (cond (closedL 1 xs && true && true) (K .nrm (fr4i h k n x y i xs m (wrapF .i64 (j + 1))) [cells30 r]) none)))) (cond (!(E (dW (fa xs j.toNat) (fb xs j.toNat) false)).snd.snd == false) (K .ret (ret4i_1 h k n x y i xs m j r) (hp4i_1 h k n x y i xs m j r)) (cond ((E (dW (fa xs j.toNat) (fb xs j.toNat) false)).fst != 0) (K .ret (ret4i_1 h k n x y i xs m j r) (hp4i_1 h k n x y i xs m j r)) (cond ((E (dW (fa xs j.toNat) (fb xs j.toNat) false)).snd.fst != 0) (K .ret (ret4i_1 h k n x y i xs m j r) (hp4i_1 h k n x y i xs m j r)) (cond (closedL 1 xs && true && true) (K .nrm (fr4i h k n x y i xs m (wrapF .i64 (j + 1))) [cells30 r]) none))))) none) none) none) none) (K (.ext 2) (ex4i h k n x y i xs m j (decide (j < m))) [cells30 r])) none) := by kernel_rfl

theorem bneT {a b : Int} (h : a ≠ b) : (a != b) = true := bne_iff_ne.2 h
theorem bneF (a : Int) : (a != a) = false := bne_self_eq_false a

theorem step4i (h k n x y i : Int) (xs : List V) (r : S30) (j : Nat) (hj : j < xs.length) (hl : xs.length ≤ 10000) (hok : okP xs = true) (K : Ex → Fr → Heap → R) :
    bodyK ctx knE2 lt11 3 4 path4i 0 (fr4i h k n x y i xs (xs.length : Int) (j : Int)) [cells30 r] K = K .nrm (fr4i h k n x y i xs (xs.length : Int) ((j + 1 : Nat) : Int)) [cells30 r] := by
  obtain ⟨v, vs, hd⟩ : ∃ v vs, xs.drop j = v :: vs := by
    cases hd : xs.drop j with
    | nil =>
      have := List.length_drop (i := j) (l := xs)
      rw [hd] at this
      simp at this
      omega
    | cons v vs => exact ⟨v, vs, rfl⟩
  have ho := okP_drop xs j hok
  rw [hd] at ho
  obtain ⟨_, hr, _⟩ := okP_cons ho
  have ea : fa xs j = vA v := col_at 0 xs j v vs hd
  have eb : fb xs j = vB v := col_at 1 xs j v vs hd
  have e : wrapF .i64 ((j : Int) + 1) = ((j + 1 : Nat) : Int) := by
    rw [wrapF_le (by omega) (by simp only [topN, Int.ofNat_eq_natCast]; omega)]
    omega
  rw [body4i, okP_closed hok, okP_all hok, decide_eq_true (show (j : Int) < (xs.length : Int) by omega), decide_eq_true (show 0 ≤ (j : Int) ∧ (j : Int) < Int.ofNat xs.length by simp only [Int.ofNat_eq_natCast]; omega)]
  rw [show ((j : Int)).toNat = j from Int.toNat_natCast j, decide_eq_true (show j < xs.length by omega), ea, eb, decide_eq_true hr, e]
  generalize vA v = a at *
  generalize vB v = b at *
  simp only [Bool.and_self, cond_true]
  by_cases e64 : (dW a b false).f_Op = 64
  · rw [E_none (Or.inl e64), e64]
    rfl
  by_cases e65 : (dW a b false).f_Op = 65
  · rw [E_none (Or.inr e65), e65]
    rfl
  rw [E_dW hr.1 hr.2 e64 e65, bneT e64, bneT e65]
  simp only [bneF]
  rfl

theorem loop4i (h k n x y i : Int) (xs : List V) (r : S30) (hl : xs.length ≤ 10000) (hok : okP xs = true) (K : Ex → Fr → Heap → R) : ∀ (q j N : Nat), j + q = xs.length → q < N →
    iterK (bodyK ctx knE2 lt11 3 4 path4i 0) N (fr4i h k n x y i xs (xs.length : Int) (j : Int)) [cells30 r] K = K (.ext 2) (ex4i h k n x y i xs (xs.length : Int) (xs.length : Int) false) [cells30 r] := by
  intro q
  induction q with
  | zero =>
    intro j N hi hN
    obtain ⟨N, rfl⟩ : ∃ m, N = m + 1 := ⟨N - 1, by omega⟩
    have h0 : j = xs.length := by omega
    subst h0
    simp only [iterK]
    rw [body4i, okP_closed hok, decide_eq_false (show ¬ ((xs.length : Int) < (xs.length : Int)) by omega)]
    rfl
  | succ q ih =>
    intro j N hi hN
    obtain ⟨N, rfl⟩ : ∃ m, N = m + 1 := ⟨N - 1, by omega⟩
    simp only [iterK]
    rw [step4i h k n x y i xs r j (by omega) hl hok]
    exact ih (j + 1) N (by omega) (by omega)

noncomputable def L4i : LoopT := fun l H K =>
  slotK 0 l fun v0 l => numK .u16 v0 fun h => slotK 1 l fun v1 l => numK .u16 v1 fun k => slotK 2 l fun v2 l => numK .u8 v2 fun n => slotK 3 l fun v3 l => numK .u16 v3 fun x => slotK 4 l fun v4 l => numK .u16 v4 fun y =>
  slotK 11 l fun v11 l => ptrK 0 0 v11 <| slotK 13 l fun v13 l => numK .u8 v13 fun i => slotK 62 l fun v62 l => slK v62 fun o kk xs => slotK 63 l fun v63 l => numK .i64 v63 fun m => slotK 64 l fun v64 l => numK .i64 v64 fun j => endL l <|
  heapKc H fun cs H => heapK0 H <| s30K cs fun r =>
  cond o (cond (Nat.beq kk 2) (cond (j == 0) (cond (m == (xs.length : Int)) (cond (decide (xs.length ≤ 10000)) (cond (okP xs) (K (.ext 2) (ex4i h k n x y i xs (xs.length : Int) (xs.length : Int) false) [cells30 r]) none) none) none) none) none) none

noncomputable def lt4i : Loops := lt11.add 4 path4i L4i

theorem lt4i_ok : LoopsOK ctx lt4i 243 := Loops.add_ok0 knE2_ok (lt11_ok.mono (by omega)) 3 rfl fun l H K r h0 => by
  unfold L4i at h0
  obtain ⟨_, _, rfl, h1⟩ := slotK_ok h0
  obtain ⟨h, rfl, h2⟩ := numK_ok h1
  obtain ⟨_, _, rfl, h3⟩ := slotK_ok h2
  obtain ⟨k, rfl, h4⟩ := numK_ok h3
  obtain ⟨_, _, rfl, h5⟩ := slotK_ok h4
  obtain ⟨n, rfl, h6⟩ := numK_ok h5
  obtain ⟨_, _, rfl, h7⟩ := slotK_ok h6
  obtain ⟨x, rfl, h8⟩ := numK_ok h7
  obtain ⟨_, _, rfl, h9⟩ := slotK_ok h8
  obtain ⟨y, rfl, h10⟩ := numK_ok h9
  obtain ⟨_, _, rfl, h11⟩ := slotK_ok h10
  obtain ⟨rfl, h12⟩ := ptrK_ok h11
  obtain ⟨_, _, rfl, h13⟩ := slotK_ok h12
  obtain ⟨i, rfl, h14⟩ := numK_ok h13
  obtain ⟨_, _, rfl, h15⟩ := slotK_ok h14
  obtain ⟨o, kk, xs, rfl, h16⟩ := slK_ok h15
  obtain ⟨_, _, rfl, h17⟩ := slotK_ok h16
  obtain ⟨m, rfl, h18⟩ := numK_ok h17
  obtain ⟨_, _, rfl, h19⟩ := slotK_ok h18
  obtain ⟨j, rfl, h20⟩ := numK_ok h19
  obtain ⟨rfl, h21⟩ := endL_ok h20
  obtain ⟨cs, _, rfl, h22⟩ := heapKc_ok h21
  obtain ⟨rfl, h23⟩ := heapK0_ok h22
  obtain ⟨r, rfl, h24⟩ := s30K_ok h23
  obtain ⟨rfl, h25⟩ := cond_l h24
  obtain ⟨c1, h26⟩ := cond_l h25
  obtain ⟨c2, h27⟩ := cond_l h26
  obtain ⟨c3, h28⟩ := cond_l h27
  obtain ⟨c4, h29⟩ := cond_l h28
  obtain ⟨c5, h30⟩ := cond_l h29
  have c1 := Nat.eq_of_beq_eq_true c1
  rw [beq_iff_eq] at c2 c3
  subst c1 c2 c3
  have c4 := of_decide_eq_true c4
  exact (loop4i h k n x y i xs r c4 c5 K xs.length 0 ctx.fuel (by omega) (by show xs.length < 70000; omega)).trans h30

noncomputable def pr4 (h k n x y i : Int) : List V := [.agg [.sc (.int .u16 ((p8 (wrapF .u8 (n + i)) x y).fst)), .sc (.int .u16 ((p8 (wrapF .u8 (n + i)) x y).snd))], .agg [.sc (.int .u16 (bitsF .or .u16 h 59392)), .sc (.int .u16 (k))], .agg [.sc (.int .u16 (bitsF .xor .u16 (p8 (wrapF .u8 (n + i)) x y).fst (shlF .u16 1 (k.tmod 16)))), .sc (.int .u16 (bitsF .xor .u16 (p8 (wrapF .u8 (n + i)) x y).snd (shlF .u16 1 (h.tmod 16))))]]
def fr4 (h k n x y i : Int) : Fr := [(0, .sc (.int .u16 h)), (1, .sc (.int .u16 k)), (2, .sc (.int .u8 n)), (3, .sc (.int .u16 x)), (4, .sc (.int .u16 y)), (11, .ptr 0 0), (13, .sc (.int .u8 i))]
def ex4 (h k n x y i : Int) (b : Bool) : Fr := [(32, .sc (.bool (false))), (0, .sc (.int .u16 (h))), (1, .sc (.int .u16 (k))), (2, .sc (.int .u8 (n))), (3, .sc (.int .u16 (x))), (4, .sc (.int .u16 (y))), (11, .ptr (0) (0)), (13, .sc (.int .u8 (i))), (32, .sc (.bool (b)))]

end Go.Den
end
section
set_option linter.unusedVariables false
set_option maxRecDepth 100000
namespace Go.Den

theorem body4 (h : Int) (k : Int) (n : Int) (x : Int) (y : Int) (i : Int) (r : S30) (K : Ex → Fr → Heap → R) : bodyK ctx knE2 lt4i 3 4 path4 0 (fr4 h k n x y i) [cells30 r] K = (cond (decide (i < 24)) (cond (decide ((0 ≤ wrapF .u8 (n + i) ∧ wrapF .u8 (n + i) ≤ 255) ∧ (0 ≤ x ∧ x ≤ 65535) ∧ 0 ≤ y ∧ y ≤ 65535)) (cond (decide (k.tmod 16 < 0)) none (cond (decide (h.tmod 16 < 0)) none (cond (okP (pr4 h k n x y i)) (K .nrm (fr4 h k n x y (wrapF .u8 (i + 1))) [cells30 r]) none))) none) (K (.ext 0) (ex4 h k n x y i (decide (i < 24))) [cells30 r])) := by kernel_rfl

theorem okP_c {a b : Int} {l : List V} (ha : 0 ≤ a ∧ a ≤ 65535) (hb : 0 ≤ b ∧ b ≤ 65535) (h : okP l = true) : okP (V.agg [V.sc (Value.int .u16 a), V.sc (Value.int .u16 b)] :: l) = true := by
  show (match isA zs2 (V.agg [V.sc (.int .u16 a), V.sc (.int .u16 b)]) with
    | true => match decide ((0 ≤ a ∧ a ≤ 65535) ∧ 0 ≤ b ∧ b ≤ 65535) with
      | true => okP l
      | false => false
    | false => false) = true
  rw [decide_eq_true ⟨ha, hb⟩, h]
  rfl

theorem okP_pr4 {h k x y : Int} (hh : U16 h) (hk : U16 k) (hx : U16 x) (hy : U16 y) (n i : Int) : okP (pr4 h k n x y i) = true := by
  obtain ⟨p1, p2⟩ := p8_rng (wrapF .u8 (n + i)) x y hx hy
  unfold pr4
  exact okP_c p1 p2 (okP_c (bits_rng .or .u16 _ _ 0 65535 (by decide)) hk (okP_c (bits_rng .xor .u16 _ _ 0 65535 (by decide)) (bits_rng .xor .u16 _ _ 0 65535 (by decide)) rfl))

theorem step4 {h k x y : Int} (hh : U16 h) (hk : U16 k) (hx : U16 x) (hy : U16 y) (n : Int) (r : S30) (i : Nat) (hi : i < 24) (K : Ex → Fr → Heap → R) :
    bodyK ctx knE2 lt4i 3 4 path4 0 (fr4 h k n x y i) [cells30 r] K = K .nrm (fr4 h k n x y ((i + 1 : Nat) : Int)) [cells30 r] := by
  have e1 : decide ((i : Int) < 24) = true := decide_eq_true (by omega)
  have e2 : decide (h.tmod 16 < 0) = false := decide_eq_false (by
    have := tmod_fact h 16 (by decide)
    have := hh.1
    omega)
  have e3 : decide (k.tmod 16 < 0) = false := decide_eq_false (by
    have := tmod_fact k 16 (by decide)
    have := hk.1
    omega)
  have e4 : decide ((0 ≤ wrapF .u8 (n + (i : Int)) ∧ wrapF .u8 (n + (i : Int)) ≤ 255) ∧ (0 ≤ x ∧ x ≤ 65535) ∧ 0 ≤ y ∧ y ≤ 65535) = true := decide_eq_true ⟨(wrap_fact .u8 _ 0 255 ⟨rfl, rfl⟩).1, hx, hy⟩
  have hs : wrapF .u8 ((i : Int) + 1) = ((i + 1 : Nat) : Int) := by
    rw [wrapF_id (by omega) (by simp only [halfK]; omega)]
    omega
  rw [body4, e1, e2, e3, e4, okP_pr4 hh hk hx hy, hs]
  rfl

theorem loop4 {h k x y : Int} (hh : U16 h) (hk : U16 k) (hx : U16 x) (hy : U16 y) (n : Int) (r : S30) (K : Ex → Fr → Heap → R) : ∀ (j i N : Nat), i + j = 24 → j < N →
    iterK (bodyK ctx knE2 lt4i 3 4 path4 0) N (fr4 h k n x y i) [cells30 r] K = K (.ext 0) (ex4 h k n x y 24 false) [cells30 r] := by
  intro j
  induction j with
  | zero =>
    intro i N hi hN
    obtain ⟨N, rfl⟩ : ∃ m, N = m + 1 := ⟨N - 1, by omega⟩
    simp only [iterK]
    rw [body4, decide_eq_false (show ¬ (i : Int) < 24 by omega), show i = 24 by omega]
    rfl
  | succ j ih =>
    intro i N hi hN
    obtain ⟨N, rfl⟩ : ∃ m, N = m + 1 := ⟨N - 1, by omega⟩
    simp only [iterK]
    rw [step4 hh hk hx hy n r i (by omega)]
    exact ih (i + 1) N (by omega) (by omega)

noncomputable def L4 : LoopT := fun l H K =>
  slotK 0 l fun v0 l => numK .u16 v0 fun h => slotK 1 l fun v1 l => numK .u16 v1 fun k => slotK 2 l fun v2 l => numK .u8 v2 fun n => slotK 3 l fun v3 l => numK .u16 v3 fun x => slotK 4 l fun v4 l => numK .u16 v4 fun y =>
  slotK 11 l fun v11 l => ptrK 0 0 v11 <| slotK 13 l fun v13 l => numK .u8 v13 fun i => endL l <|
  heapKc H fun cs H => heapK0 H <| s30K cs fun r =>
  cond (decide (i = 0)) (cond (decide ((0 ≤ h ∧ h ≤ 65535) ∧ (0 ≤ k ∧ k ≤ 65535) ∧ (0 ≤ x ∧ x ≤ 65535) ∧ (0 ≤ y ∧ y ≤ 65535))) (K (.ext 0) (ex4 h k n x y 24 false) [cells30 r]) none) none

noncomputable def lt4 : Loops := lt4i.add 4 path4 L4

theorem lt4_ok : LoopsOK ctx lt4 246 := Loops.add_ok0 (knE2_ok.mono (show 240 ≤ 243 by omega)) lt4i_ok 3 rfl fun l H K r h0 => by
  unfold L4 at h0
  obtain ⟨_, _, rfl, h1⟩ := slotK_ok h0
  obtain ⟨h, rfl, h2⟩ := numK_ok h1
  obtain ⟨_, _, rfl, h3⟩ := slotK_ok h2
  obtain ⟨k, rfl, h4⟩ := numK_ok h3
  obtain ⟨_, _, rfl, h5⟩ := slotK_ok h4
  obtain ⟨n, rfl, h6⟩ := numK_ok h5
  obtain ⟨_, _, rfl, h7⟩ := slotK_ok h6
  obtain ⟨x, rfl, h8⟩ := numK_ok h7
  obtain ⟨_, _, rfl, h9⟩ := slotK_ok h8
  obtain ⟨y, rfl, h10⟩ := numK_ok h9
  obtain ⟨_, _, rfl, h11⟩ := slotK_ok h10
  obtain ⟨rfl, h12⟩ := ptrK_ok h11
  obtain ⟨_, _, rfl, h13⟩ := slotK_ok h12
  obtain ⟨i, rfl, h14⟩ := numK_ok h13
  obtain ⟨rfl, h15⟩ := endL_ok h14
  obtain ⟨cs, _, rfl, h16⟩ := heapKc_ok h15
  obtain ⟨rfl, h17⟩ := heapK0_ok h16
  obtain ⟨r, rfl, h18⟩ := s30K_ok h17
  obtain ⟨c1, h19⟩ := cond_l h18
  obtain ⟨c2, h20⟩ := cond_l h19
  have c1 := of_decide_eq_true c1
  have c2 := of_decide_eq_true c2
  subst c1
  exact (loop4 c2.1 c2.2.1 c2.2.2.1 c2.2.2.2 n r K 24 0 ctx.fuel (by omega) (by show 24 < 70000; omega)).trans h20
noncomputable def knW : Known := knE2
theorem knW_ok : KnownOK ctx knW 246 := knE2_ok.mono (by omega)

end Go.Den
end
section
set_option linter.unusedVariables false
set_option maxRecDepth 100000
namespace Go.Den
def enc4 (y : Bool) : V := .sc (.bool y)
noncomputable def tree4 (x0 : Int) (x1 : Int) (x2 : Int) (x3 : Int) (x4 : Int) (p : Int) (v : Bool) (d : Bool) (g : Int) (c : Int) (o : Int) (m : Int) (a : Int) (i : Int) (u : Bool) (q : Int) (e : Int) (j : Int) (s : Bool) (t : Bool) : R := (cond (decide ((0 ≤ x0 ∧ x0 ≤ 65535) ∧ (0 ≤ x1 ∧ x1 ≤ 65535) ∧ (0 ≤ x3 ∧ x3 ≤ 65535) ∧ 0 ≤ x4 ∧ x4 ≤ 65535)) (some (enc4 (bif bif (E (S30.mk p v d g c o m a i u q e j s t)).fst == (E (S30.mk p v d g c o m a i u q e j s t)).fst then (E (S30.mk p v d g c o m a i u q e j s t)).snd.fst == (E (S30.mk p v d g c o m a i u q e j s t)).snd.fst else false then (E (S30.mk p v d g c o m a i u q e j s t)).snd.snd == (E (S30.mk p v d g c o m a i u q e j s t)).snd.snd else false), [])) none)
theorem run4 (x0 : Int) (x1 : Int) (x2 : Int) (x3 : Int) (x4 : Int) (p : Int) (v : Bool) (d : Bool) (g : Int) (c : Int) (o : Int) (m : Int) (a : Int) (i : Int) (u : Bool) (q : Int) (e : Int) (j : Int) (s : Bool) (t : Bool) : funK ctx knW lt4 3 4 [.sc (.int .u16 x0), .sc (.int .u16 x1), .sc (.int .u8 x2), .sc (.int .u16 x3), .sc (.int .u16 x4), .agg [.sc (.int .i64 p), .sc (.bool v), .sc (.bool d), .sc (.int .i64 g), .sc (.int .i64 c), .sc (.int .i64 o), .sc (.int .i64 m), .sc (.int .i64 a), .sc (.int .u32 i), .sc (.bool u), .sc (.int .i64 q), .sc (.int .i64 e), .sc (.int .i64 j), .sc (.bool s), .sc (.bool t)]] [] 0 finV = tree4 x0 x1 x2 x3 x4 p v d g c o m a i u q e j s t := by kernel_rfl
noncomputable def p4 (x0 : Int) (x1 : Int) (x2 : Int) (x3 : Int) (x4 : Int) (p : Int) (v : Bool) (d : Bool) (g : Int) (c : Int) (o : Int) (m : Int) (a : Int) (i : Int) (u : Bool) (q : Int) (e : Int) (j : Int) (s : Bool) (t : Bool) : Bool := (bif bif (E (S30.mk p v d g c o m a i u q e j s t)).fst == (E (S30.mk p v d g c o m a i u q e j s t)).fst then (E (S30.mk p v d g c o m a i u q e j s t)).snd.fst == (E (S30.mk p v d g c o m a i u q e j s t)).snd.fst else false then (E (S30.mk p v d g c o m a i u q e j s t)).snd.snd == (E (S30.mk p v d g c o m a i u q e j s t)).snd.snd else false)
theorem told4 (x0 : Int) (x1 : Int) (x2 : Int) (x3 : Int) (x4 : Int) (p : Int) (v : Bool) (d : Bool) (g : Int) (c : Int) (o : Int) (m : Int) (a : Int) (i : Int) (u : Bool) (q : Int) (e : Int) (j : Int) (s : Bool) (t : Bool) (hd : (0 ≤ x0 ∧ x0 ≤ 65535) ∧ (0 ≤ x1 ∧ x1 ≤ 65535) ∧ (0 ≤ x2 ∧ x2 ≤ 255) ∧ (0 ≤ x3 ∧ x3 ≤ 65535) ∧ (0 ≤ x4 ∧ x4 ≤ 65535) ∧ (-9223372036854775808 ≤ p ∧ p ≤ 9223372036854775807) ∧ (-9223372036854775808 ≤ g ∧ g ≤ 9223372036854775807) ∧ (-9223372036854775808 ≤ c ∧ c ≤ 9223372036854775807) ∧ (-9223372036854775808 ≤ o ∧ o ≤ 9223372036854775807) ∧ (-9223372036854775808 ≤ m ∧ m ≤ 9223372036854775807) ∧ (-9223372036854775808 ≤ a ∧ a ≤ 9223372036854775807) ∧ (0 ≤ i ∧ i ≤ 4294967295) ∧ (-9223372036854775808 ≤ q ∧ q ≤ 9223372036854775807) ∧ (-9223372036854775808 ≤ e ∧ e ≤ 9223372036854775807) ∧ (-9223372036854775808 ≤ j ∧ j ≤ 9223372036854775807)) : Told enc4 (tree4 x0 x1 x2 x3 x4 p v d g c o m a i u q e j s t) (some (p4 x0 x1 x2 x3 x4 p v d g c o m a i u q e j s t)) := (told_t (by try simp only [decide_eq_true_eq, decide_eq_false_iff_not, beq_iff_eq, beq_eq_false_iff_ne, bne_iff_ne, bne_eq_false_iff_eq, Bool.not_eq_true', Bool.not_eq_false'] at *; omega) (told_leaf _))
noncomputable def k4 (l : List V) : Option (Bool × V) := match l with
  | [.sc (.int .u16 x0), .sc (.int .u16 x1), .sc (.int .u8 x2), .sc (.int .u16 x3), .sc (.int .u16 x4), .agg [.sc (.int .i64 p), .sc (.bool v), .sc (.bool d), .sc (.int .i64 g), .sc (.int .i64 c), .sc (.int .i64 o), .sc (.int .i64 m), .sc (.int .i64 a), .sc (.int .u32 i), .sc (.bool u), .sc (.int .i64 q), .sc (.int .i64 e), .sc (.int .i64 j), .sc (.bool s), .sc (.bool t)]] => some (decide ((0 ≤ x0 ∧ x0 ≤ 65535) ∧ (0 ≤ x1 ∧ x1 ≤ 65535) ∧ (0 ≤ x2 ∧ x2 ≤ 255) ∧ (0 ≤ x3 ∧ x3 ≤ 65535) ∧ (0 ≤ x4 ∧ x4 ≤ 65535) ∧ (-9223372036854775808 ≤ p ∧ p ≤ 9223372036854775807) ∧ (-9223372036854775808 ≤ g ∧ g ≤ 9223372036854775807) ∧ (-9223372036854775808 ≤ c ∧ c ≤ 9223372036854775807) ∧ (-9223372036854775808 ≤ o ∧ o ≤ 9223372036854775807) ∧ (-9223372036854775808 ≤ m ∧ m ≤ 9223372036854775807) ∧ (-9223372036854775808 ≤ a ∧ a ≤ 9223372036854775807) ∧ (0 ≤ i ∧ i ≤ 4294967295) ∧ (-9223372036854775808 ≤ q ∧ q ≤ 9223372036854775807) ∧ (-9223372036854775808 ≤ e ∧ e ≤ 9223372036854775807) ∧ (-9223372036854775808 ≤ j ∧ j ≤ 9223372036854775807)), enc4 (p4 x0 x1 x2 x3 x4 p v d g c o m a i u q e j s t))
  | _ => none
noncomputable def kn4 : Known := knW.add 4 k4
theorem kn4_ok : KnownOK ctx kn4 249 := Known.add_ok knW_ok rfl (by omega) (by
  intro l r h
  unfold k4 at h
  split at h
  · simp only [Option.some.injEq, Prod.mk.injEq] at h
    obtain ⟨h1, rfl⟩ := h
    exact ⟨(Told.spec knW_ok (lt4_ok.mono (by omega)) (run4 _ _ _ _ _ _ _ _ _ _ _ _ _ _ _ _ _ _ _ _) (told4 _ _ _ _ _ _ _ _ _ _ _ _ _ _ _ _ _ _ _ _ (of_decide_eq_true h1)) rfl).mono (by omega), rfl, rfl⟩
  · cases h)
end Go.Den
end
