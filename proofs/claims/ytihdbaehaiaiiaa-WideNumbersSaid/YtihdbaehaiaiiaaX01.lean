import Derived.Test.YtihdbaehaiaiiaaX89
import Derived.Test.YtihdbaehaiaiiaaV156
set_option linter.unusedSimpArgs false
section
set_option linter.unusedVariables false
set_option maxRecDepth 100000
namespace Go.Den

abbrev path11 : Path := [false, true, true, false, false, true, true, false, false, true, false, true, true]
abbrev fns11 : List V := [V.fn (Fn.func 28) [] [], V.fn (Fn.func 29) [] [], V.fn (Fn.func 30) [] [], V.fn (Fn.func 31) [] [], V.fn (Fn.func 32) [] [], V.fn (Fn.func 33) [] [], V.fn (Fn.func 34) [] []]
abbrev zs2 : List V := [V.sc (Value.int .u16 0), V.sc (Value.int .u16 0)]

def fa (xs : List V) (i : Nat) : Int := getI (colI 0 xs) i
def fb (xs : List V) (i : Nat) : Int := getI (colI 1 xs) i

def fr11 (o : Bool) (xs : List V) (j n i : Int) : Fr := [(1, .ptr 0 0), (17, .sl true 1 fns11), (18, .sc (.int .i64 7)), (19, .sc (.int .i64 j)), (25, .sl o 2 xs), (26, .sc (.int .i64 n)), (27, .sc (.int .i64 i))]
def ret11 (o : Bool) (xs : List V) (j n i : Int) : Fr := [(0, .any), (1, .ptr (0) (0)), (2, .sc (.int .u16 (fa xs i.toNat))), (3, .sc (.int .u16 (fb xs i.toNat))), (4, .sc (.bool (true))), (6, .any), (8, .ptr (1) (0)), (16, .any), (17, .sl (true) (1) fns11), (18, .sc (.int .i64 (7))), (19, .sc (.int .i64 (j))), (20, .any), (25, .sl (o) (2) (xs)), (26, .sc (.int .i64 (n))), (27, .sc (.int .i64 (i))), (28, .sc (.bool (true))), (37, .sc (.bool (true)))]
def ex11 (o : Bool) (xs : List V) (j n i : Int) (b : Bool) : Fr := [(28, .sc (.bool (false))), (1, .ptr (0) (0)), (17, .sl (true) (1) fns11), (18, .sc (.int .i64 (7))), (19, .sc (.int .i64 (j))), (25, .sl (o) (2) (xs)), (26, .sc (.int .i64 (n))), (27, .sc (.int .i64 (i))), (28, .sc (.bool (b)))]

theorem body11 (o : Bool) (xs : List V) (j : Int) (n : Int) (i : Int) (y : S30) (K : Ex → Fr → Heap → R) : bodyK ctx kn35 lt33 3 11 path11 0 (fr11 o xs j n i) [cells30 y] K = (cond (closedL 1 xs && true && true) (cond (decide (i < n)) (cond (decide (0 ≤ i ∧ i < ↑xs.length)) (cond (allA zs2 xs) (cond (decide (i.toNat < xs.length)) (cond (decide ((0 ≤ fa xs i.toNat ∧ fa xs i.toNat ≤ 65535) ∧ 0 ≤ fb xs i.toNat ∧ fb xs i.toNat ≤ 65535)) (cond (eq30 (dW (fa xs i.toNat) (fb xs i.toNat) false) y) (K .ret (ret11 o xs j n i) [cells30 y, [.sc (.int .u16 (fa xs i.toNat)), .sc (.int .u16 (fb xs i.toNat))]]) (cond (closedL 1 xs && true && true) (K .nrm (fr11 o xs j n (wrapF .i64 (i + 1))) [cells30 y]) none)) none) none) none) none) (K (.ext 2) (ex11 o xs j n i (decide (i < n))) [cells30 y])) none) := by kernel_rfl

def vA (v : V) : Int := intV (cellAt v 0)
def vB (v : V) : Int := intV (cellAt v 1)

/-- pairs of halves -/
def okP : List V → Bool
  | [] => true
  | v :: vs => match isA zs2 v with
    | true => match decide ((0 ≤ vA v ∧ vA v ≤ 65535) ∧ 0 ≤ vB v ∧ vB v ≤ 65535) with
      | true => okP vs
      | false => false
    | false => false

/-- is one of them an instruction's? -/
noncomputable def hitB (y : S30) : List V → Bool
  | [] => false
  | v :: vs => cond (eq30 (dW (vA v) (vB v) false) y) true (hitB y vs)

/-- which of them is the first one -/
noncomputable def hitN (y : S30) : List V → Nat
  | [] => 0
  | v :: vs => cond (eq30 (dW (vA v) (vB v) false) y) 0 (hitN y vs + 1)

theorem okP_cons {v : V} {vs : List V} (h : okP (v :: vs) = true) : isA zs2 v = true ∧ ((0 ≤ vA v ∧ vA v ≤ 65535) ∧ 0 ≤ vB v ∧ vB v ≤ 65535) ∧ okP vs = true := by
  unfold okP at h
  split at h
  · rename_i h1
    split at h
    · rename_i h2
      exact ⟨h1, of_decide_eq_true h2, h⟩
    · cases h
  · cases h

theorem okP_all : ∀ {xs : List V}, okP xs = true → allA zs2 xs = true
  | [], _ => rfl
  | v :: vs, h => by
    obtain ⟨h1, _, h3⟩ := okP_cons h
    unfold allA
    rw [h1]
    exact okP_all h3

theorem isA_closed {v : V} (h : isA zs2 v = true) : closed 1 v = true := by
  unfold isA at h
  split at h
  · rename_i cs
    unfold closed
    match cs, h with
    | [], h => cases h
    | [a], h =>
      exfalso
      unfold sameShape at h
      simp only at h
      split at h
      · cases h
      · cases h
    | [a, b], h =>
      unfold sameShape at h
      simp only at h
      split at h
      · rename_i h1
        unfold sameShape at h
        simp only at h
        split at h
        · rename_i h2
          rw [isI_ok h1, isI_ok h2]
          rfl
        · cases h
      · cases h
    | a :: b :: c :: cs, h =>
      exfalso
      unfold sameShape at h
      simp only at h
      split at h
      · unfold sameShape at h
        simp only at h
        split at h
        · cases h
        · cases h
      · cases h
  · cases h

theorem okP_closed : ∀ {xs : List V}, okP xs = true → closedL 1 xs = true
  | [], _ => rfl
  | v :: vs, h => by
    obtain ⟨h1, _, h3⟩ := okP_cons h
    unfold closedL
    rw [isA_closed h1, okP_closed h3]
    rfl

theorem col_at (c : Nat) : ∀ (xs : List V) (i : Nat) (v : V) (vs : List V), xs.drop i = v :: vs → getI (colI c xs) i = intV (cellAt v c)
  | [], i, v, vs, h => by simp at h
  | x :: xs, 0, v, vs, h => by
    simp only [List.drop_zero, List.cons.injEq] at h
    rw [← h.1]
    rfl
  | x :: xs, i + 1, v, vs, h => col_at c xs i v vs (by simpa using h)

theorem okP_drop : ∀ (xs : List V) (i : Nat), okP xs = true → okP (xs.drop i) = true
  | [], i, _ => by simp [okP]
  | x :: xs, 0, h => h
  | x :: xs, i + 1, h => by
    simp only [List.drop_succ_cons]
    exact okP_drop xs i (okP_cons h).2.2

theorem loop11 (o : Bool) (xs : List V) (j : Int) (y : S30) (K : Ex → Fr → Heap → R) (hok : okP xs = true) (hlen : xs.length ≤ 10000) : ∀ (r i N : Nat), i + r = xs.length → r < N →
    iterK (bodyK ctx kn35 lt33 3 11 path11 0) N (fr11 o xs j (xs.length : Int) (i : Int)) [cells30 y] K =
      cond (hitB y (xs.drop i)) (K .ret (ret11 o xs j (xs.length : Int) ((i + hitN y (xs.drop i) : Nat) : Int)) [cells30 y, [.sc (.int .u16 (fa xs (i + hitN y (xs.drop i)))), .sc (.int .u16 (fb xs (i + hitN y (xs.drop i))))]])
        (K (.ext 2) (ex11 o xs j (xs.length : Int) (xs.length : Int) false) [cells30 y]) := by
  intro r
  induction r with
  | zero =>
    intro i N hi hN
    obtain ⟨N, rfl⟩ : ∃ m, N = m + 1 := ⟨N - 1, by omega⟩
    have h0 : i = xs.length := by omega
    subst h0
    simp only [iterK]
    rw [body11, okP_closed hok, List.drop_length]
    rw [decide_eq_false (show ¬ ((xs.length : Int) < (xs.length : Int)) by omega)]
    rfl
  | succ r ih =>
    intro i N hi hN
    obtain ⟨N, rfl⟩ : ∃ m, N = m + 1 := ⟨N - 1, by omega⟩
    obtain ⟨v, vs, hd⟩ : ∃ v vs, xs.drop i = v :: vs := by
      cases hd : xs.drop i with
      | nil =>
        have := List.length_drop (i := i) (l := xs)
        rw [hd] at this
        simp at this
        omega
      | cons v vs => exact ⟨v, vs, rfl⟩
    have hd1 : xs.drop (i + 1) = vs := by
      rw [← List.tail_drop, hd]
      rfl
    have ho := okP_drop xs i hok
    rw [hd] at ho
    obtain ⟨_, hr, _⟩ := okP_cons ho
    have ea : fa xs i = vA v := col_at 0 xs i v vs hd
    have eb : fb xs i = vB v := col_at 1 xs i v vs hd
    simp only [iterK]
    rw [body11, okP_closed hok, okP_all hok, decide_eq_true (show (i : Int) < (xs.length : Int) by omega), decide_eq_true (show 0 ≤ (i : Int) ∧ (i : Int) < (xs.length : Int) by omega)]
    rw [show ((i : Int)).toNat = i from Int.toNat_natCast i, decide_eq_true (show i < xs.length by omega), ea, eb, decide_eq_true hr, hd]
    have e : wrapF .i64 ((i : Int) + 1) = ((i + 1 : Nat) : Int) := by
      rw [wrapF_le (by omega) (by simp only [topN, Int.ofNat_eq_natCast]; omega)]
      omega
    rw [e, ih (i + 1) N (by omega) (by omega), hd1]
    simp only [Bool.and_self, cond_true, hitB, hitN]
    cases hE : eq30 (dW (vA v) (vB v) false) y with
    | true =>
      simp only [cond_true, Nat.add_zero, ea, eb]
    | false =>
      simp only [cond_false, show i + 1 + hitN y vs = i + (hitN y vs + 1) by omega]

/-- a function as a value -/
def fnK (n : Nat) (v : V) (F : R) : R :=
  match v with
  | .fn f a b => match f with
    | .func m => cond (Nat.beq m n) (nilVK a (nilVK b F)) none
    | _ => none
  | _ => none

theorem fnK_ok {n : Nat} {v : V} {F : R} {r : V × Heap} (h : fnK n v F = some r) : v = .fn (.func n) [] [] ∧ F = some r := by
  unfold fnK at h
  split at h
  · split at h
    · obtain ⟨h1, g1⟩ := cond_l h
      obtain ⟨rfl, g2⟩ := nilVK_ok g1
      obtain ⟨rfl, g3⟩ := nilVK_ok g2
      have h1 := Nat.eq_of_beq_eq_true h1
      subst h1
      exact ⟨rfl, g3⟩
    · cases h
  · cases h

noncomputable def L11 : LoopT := fun l H K =>
  slotK 1 l fun v1 l => ptrK 0 0 v1 <| slotK 17 l fun v17 l => slK v17 fun o17 k17 fs => consVK fs fun f fs => fnK 28 f <| consVK fs fun f fs => fnK 29 f <| consVK fs fun f fs => fnK 30 f <| consVK fs fun f fs => fnK 31 f <| consVK fs fun f fs => fnK 32 f <| consVK fs fun f fs => fnK 33 f <| consVK fs fun f fs => fnK 34 f <| nilVK fs <|
  slotK 18 l fun v18 l => numK .i64 v18 fun m => slotK 19 l fun v19 l => numK .i64 v19 fun j => slotK 25 l fun v25 l => slK v25 fun o kk xs =>
  slotK 26 l fun v26 l => numK .i64 v26 fun n => slotK 27 l fun v27 l => numK .i64 v27 fun i => endL l <|
  heapKc H fun cs H => heapK0 H <| s30K cs fun y =>
  cond o17 (cond (Nat.beq k17 1) (cond (m == 7) (cond (Nat.beq kk 2) (cond (i == 0) (cond (n == (xs.length : Int)) (cond (decide (xs.length ≤ 10000)) (cond (okP xs)
    (cond (hitB y xs) (K .ret (ret11 o xs j (xs.length : Int) ((hitN y xs : Nat) : Int)) [cells30 y, [.sc (.int .u16 (fa xs (hitN y xs))), .sc (.int .u16 (fb xs (hitN y xs)))]])
      (K (.ext 2) (ex11 o xs j (xs.length : Int) (xs.length : Int) false) [cells30 y])) none) none) none) none) none) none) none) none

noncomputable def lt11 : Loops := lt33.add 11 path11 L11

theorem lt11_ok : LoopsOK ctx lt11 237 := Loops.add_ok0 kn35_ok (lt33_ok.mono (by omega)) 3 rfl fun l H K r h0 => by
  unfold L11 at h0
  obtain ⟨_, _, rfl, h1⟩ := slotK_ok h0
  obtain ⟨rfl, h2⟩ := ptrK_ok h1
  obtain ⟨_, _, rfl, h3⟩ := slotK_ok h2
  obtain ⟨o17, k17, fs, rfl, h4⟩ := slK_ok h3
  obtain ⟨_, _, rfl, h5⟩ := consVK_ok h4
  obtain ⟨rfl, h6⟩ := fnK_ok h5
  obtain ⟨_, _, rfl, h7⟩ := consVK_ok h6
  obtain ⟨rfl, h8⟩ := fnK_ok h7
  obtain ⟨_, _, rfl, h9⟩ := consVK_ok h8
  obtain ⟨rfl, h10⟩ := fnK_ok h9
  obtain ⟨_, _, rfl, h11⟩ := consVK_ok h10
  obtain ⟨rfl, h12⟩ := fnK_ok h11
  obtain ⟨_, _, rfl, h13⟩ := consVK_ok h12
  obtain ⟨rfl, h14⟩ := fnK_ok h13
  obtain ⟨_, _, rfl, h15⟩ := consVK_ok h14
  obtain ⟨rfl, h16⟩ := fnK_ok h15
  obtain ⟨_, _, rfl, h17⟩ := consVK_ok h16
  obtain ⟨rfl, h18⟩ := fnK_ok h17
  obtain ⟨rfl, h19⟩ := nilVK_ok h18
  obtain ⟨_, _, rfl, h20⟩ := slotK_ok h19
  obtain ⟨m, rfl, h21⟩ := numK_ok h20
  obtain ⟨_, _, rfl, h22⟩ := slotK_ok h21
  obtain ⟨j, rfl, h23⟩ := numK_ok h22
  obtain ⟨_, _, rfl, h24⟩ := slotK_ok h23
  obtain ⟨o, kk, xs, rfl, h25⟩ := slK_ok h24
  obtain ⟨_, _, rfl, h26⟩ := slotK_ok h25
  obtain ⟨n, rfl, h27⟩ := numK_ok h26
  obtain ⟨_, _, rfl, h28⟩ := slotK_ok h27
  obtain ⟨i, rfl, h29⟩ := numK_ok h28
  obtain ⟨rfl, h30⟩ := endL_ok h29
  obtain ⟨cs, _, rfl, h31⟩ := heapKc_ok h30
  obtain ⟨rfl, h32⟩ := heapK0_ok h31
  obtain ⟨y, rfl, h33⟩ := s30K_ok h32
  obtain ⟨rfl, h34⟩ := cond_l h33
  obtain ⟨c1, h35⟩ := cond_l h34
  obtain ⟨c2, h36⟩ := cond_l h35
  obtain ⟨c3, h37⟩ := cond_l h36
  obtain ⟨c4, h38⟩ := cond_l h37
  obtain ⟨c5, h39⟩ := cond_l h38
  obtain ⟨c6, h40⟩ := cond_l h39
  obtain ⟨c7, h41⟩ := cond_l h40
  have c1 := Nat.eq_of_beq_eq_true c1
  have c3 := Nat.eq_of_beq_eq_true c3
  rw [beq_iff_eq] at c2 c4 c5
  subst c1 c2 c3 c4 c5
  have c6 := of_decide_eq_true c6
  have hl := loop11 o xs j y K c7 c6 xs.length 0 ctx.fuel (by omega) (by show xs.length < 70000; omega)
  simp only [List.drop_zero, Nat.zero_add] at hl
  exact hl.trans h41

end Go.Den
end
section
set_option linter.unusedVariables false
set_option maxRecDepth 100000
namespace Go.Den
def enc11 (y : (Int × Int × Bool)) : V := .tup [.sc (.int .u16 y.1), .sc (.int .u16 y.2.1), .sc (.bool y.2.2)]
noncomputable def tree11 (g : Int) (w : Bool) (e : Bool) (m : Int) (d : Int) (t : Int) (s : Int) (c : Int) (p : Int) (v : Bool) (u : Int) (i : Int) (q : Int) (j : Bool) (o : Bool) : R := (cond (g == 64) (some (enc11 ((0, 0, false)), [])) (cond (g == 65) (some (enc11 ((0, 0, false)), [])) (cond (closedL 1 (List.map (fun y => V.agg (List.map (fun y => V.sc (Value.int .u16 y)) y)) (p28 g w e m d t s c p v u i q j o).snd) && true && true) (cond (Int.ofNat (List.map (fun y => V.agg (List.map (fun y => V.sc (Value.int .u16 y)) y)) (p28 g w e m d t s c p v u i q j o).snd).length == Int.ofNat (List.map (fun y => V.agg (List.map (fun y => V.sc (Value.int .u16 y)) y)) (p28 g w e m d t s c p v u i q j o).snd).length) (cond (decide ((List.map (fun y => V.agg (List.map (fun y => V.sc (Value.int .u16 y)) y)) (p28 g w e m d t s c p v u i q j o).snd).length ≤ 10000)) (cond (okP (List.map (fun y => V.agg (List.map (fun y => V.sc (Value.int .u16 y)) y)) (p28 g w e m d t s c p v u i q j o).snd)) (cond (hitB (S30.mk g w e m d t s c p v u i q j o) (List.map (fun y => V.agg (List.map (fun y => V.sc (Value.int .u16 y)) y)) (p28 g w e m d t s c p v u i q j o).snd)) (some (enc11 ((fa (List.map (fun y => V.agg (List.map (fun y => V.sc (Value.int .u16 y)) y)) (p28 g w e m d t s c p v u i q j o).snd) (Int.ofNat (hitN (S30.mk g w e m d t s c p v u i q j o) (List.map (fun y => V.agg (List.map (fun y => V.sc (Value.int .u16 y)) y)) (p28 g w e m d t s c p v u i q j o).snd))).toNat, fb (List.map (fun y => V.agg (List.map (fun y => V.sc (Value.int .u16 y)) y)) (p28 g w e m d t s c p v u i q j o).snd) (Int.ofNat (hitN (S30.mk g w e m d t s c p v u i q j o) (List.map (fun y => V.agg (List.map (fun y => V.sc (Value.int .u16 y)) y)) (p28 g w e m d t s c p v u i q j o).snd))).toNat, true)), [])) (cond (closedL 1 (List.map (fun y => V.agg (List.map (fun y => V.sc (Value.int .u16 y)) y)) (p29 g w e m d t s c p v u i q j o).snd) && true && true) (cond (Int.ofNat (List.map (fun y => V.agg (List.map (fun y => V.sc (Value.int .u16 y)) y)) (p29 g w e m d t s c p v u i q j o).snd).length == Int.ofNat (List.map (fun y => V.agg (List.map (fun y => V.sc (Value.int .u16 y)) y)) (p29 g w e m d t s c p v u i q j o).snd).length) (cond (decide ((List.map (fun y => V.agg (List.map (fun y => V.sc (Value.int .u16 y)) y)) (p29 g w e m d t s c p v u i q j o).snd).length ≤ 10000)) (cond (okP (List.map (fun y => V.agg (List.map (fun y => V.sc (Value.int .u16 y)) y)) (p29 g w e m d t s c p v u i q j o).snd)) (cond (hitB (S30.mk g w e m d t s c p v u i q j o) (List.map (fun y => V.agg (List.map (fun y => V.sc (Value.int .u16 y)) y)) (p29 g w e m d t s c p v u i q j o).snd)) (some (enc11 ((fa (List.map (fun y => V.agg (List.map (fun y => V.sc (Value.int .u16 y)) y)) (p29 g w e m d t s c p v u i q j o).snd) (Int.ofNat (hitN (S30.mk g w e m d t s c p v u i q j o) (List.map (fun y => V.agg (List.map (fun y => V.sc (Value.int .u16 y)) y)) (p29 g w e m d t s c p v u i q j o).snd))).toNat, fb (List.map (fun y => V.agg (List.map (fun y => V.sc (Value.int .u16 y)) y)) (p29 g w e m d t s c p v u i q j o).snd) (Int.ofNat (hitN (S30.mk g w e m d t s c p v u i q j o) (List.map (fun y => V.agg (List.map (fun y => V.sc (Value.int .u16 y)) y)) (p29 g w e m d t s c p v u i q j o).snd))).toNat, true)), [])) (cond (closedL 1 (List.map (fun y => V.agg (List.map (fun y => V.sc (Value.int .u16 y)) y)) (p30 g w e m d t s c p v u i q j o).snd) && true && true) (cond (Int.ofNat (List.map (fun y => V.agg (List.map (fun y => V.sc (Value.int .u16 y)) y)) (p30 g w e m d t s c p v u i q j o).snd).length == Int.ofNat (List.map (fun y => V.agg (List.map (fun y => V.sc (Value.int .u16 y)) y)) (p30 g w e m d t s c p v u i q j o).snd).length) (cond (decide ((List.map (fun y => V.agg (List.map (fun y => V.sc (Value.int .u16 y)) y)) (p30 g w e m d t s c p v u i q j o).snd).length ≤ 10000)) (cond (okP (List.map (fun y => V.agg (List.map (fun y => V.sc (Value.int .u16 y)) y)) (p30 g w e m d t s c p v u i q j o).snd)) (cond (hitB (S30.mk g w e m d t s c p v u i q j o) (List.map (fun y => V.agg (List.map (fun y => V.sc (Value.int .u16 y)) y)) (p30 g w e m d t s c p v u i q j o).snd)) (some (enc11 ((fa (List.map (fun y => V.agg (List.map (fun y => V.sc (Value.int .u16 y)) y)) (p30 g w e m d t s c p v u i q j o).snd) (Int.ofNat (hitN (S30.mk g w e m d t s c p v u i q j o) (List.map (fun y => V.agg (List.map (fun y => V.sc (Value.int .u16 y)) y)) (p30 g w e m d t s c p v u i q j o).snd))).toNat, fb (List.map (fun y => V.agg (List.map (fun y => V.sc (Value.int .u16 y)) y)) (p30 g w e m d t s c p v u i q j o).snd) (Int.ofNat (hitN (S30.mk g w e m d t s c p v u i q j o) (List.map (fun y => V.agg (List.map (fun y => V.sc (Value.int .u16 y)) y)) (p30 g w e m d t s c p v u i q j o).snd))).toNat, true)), [])) (cond (closedL 1 (List.map (fun y => V.agg (List.map (fun y => V.sc (Value.int .u16 y)) y)) (p31 g w e m d t s c p v u i q j o).snd) && true && true) (cond (Int.ofNat (List.map (fun y => V.agg (List.map (fun y => V.sc (Value.int .u16 y)) y)) (p31 g w e m d t s c p v u i q j o).snd).length == Int.ofNat (List.map (fun y => V.agg (List.map (fun y => V.sc (Value.int .u16 y)) y)) (p31 g w e m d t s c p v u i q j o).snd).length) (cond (decide ((List.map (fun y => V.agg (List.map (fun y => V.sc (Value.int .u16 y)) y)) (p31 g w e m d t s c p v u i q j o).snd).length ≤ 10000)) (cond (okP (List.map (fun y => V.agg (List.map (fun y => V.sc (Value.int .u16 y)) y)) (p31 g w e m d t s c p v u i q j o).snd)) (cond (hitB (S30.mk g w e m d t s c p v u i q j o) (List.map (fun y => V.agg (List.map (fun y => V.sc (Value.int .u16 y)) y)) (p31 g w e m d t s c p v u i q j o).snd)) (some (enc11 ((fa (List.map (fun y => V.agg (List.map (fun y => V.sc (Value.int .u16 y)) y)) (p31 g w e m d t s c p v u i q j o).snd) (Int.ofNat (hitN (S30.mk g w e m d t s c p v u i q j o) (List.map (fun y => V.agg (List.map (fun y => V.sc (Value.int .u16 y)) y)) (p31 g w e m d t s c p v u i q j o).snd))).toNat, fb (List.map (fun y => V.agg (List.map (fun y => V.sc (Value.int .u16 y)) y)) (p31 g w e m d t s c p v u i q j o).snd) (Int.ofNat (hitN (S30.mk g w e m d t s c p v u i q j o) (List.map (fun y => V.agg (List.map (fun y => V.sc (Value.int .u16 y)) y)) (p31 g w e m d t s c p v u i q j o).snd))).toNat, true)), [])) (cond (closedL 1 (List.map (fun y => V.agg (List.map (fun y => V.sc (Value.int .u16 y)) y)) (p32 g w e m d t s c p v u i q j o).snd) && true && true) (cond (Int.ofNat (List.map (fun y => V.agg (List.map (fun y => V.sc (Value.int .u16 y)) y)) (p32 g w e m d t s c p v u i q j o).snd).length == Int.ofNat (List.map (fun y => V.agg (List.map (fun y => V.sc (Value.int .u16 y)) y)) (p32 g w e m d t s c p v u i q j o).snd).length) (cond (decide ((List.map (fun y => V.agg (List.map (fun y => V.sc (Value.int .u16 y)) y)) (p32 g w e m d t s c p v u i q j o).snd).length ≤ 10000)) (cond (okP (List.map (fun y => V.agg (List.map (fun y => V.sc (Value.int .u16 y)) y)) (p32 g w e m d t s c p v u i q j o).snd)) (cond (hitB (S30.mk g w e m d t s c p v u i q j o) (List.map (fun y => V.agg (List.map (fun y => V.sc (Value.int .u16 y)) y)) (p32 g w e m d t s c p v u i q j o).snd)) (some (enc11 ((fa (List.map (fun y => V.agg (List.map (fun y => V.sc (Value.int .u16 y)) y)) (p32 g w e m d t s c p v u i q j o).snd) (Int.ofNat (hitN (S30.mk g w e m d t s c p v u i q j o) (List.map (fun y => V.agg (List.map (fun y => V.sc (Value.int .u16 y)) y)) (p32 g w e m d t s c p v u i q j o).snd))).toNat, fb (List.map (fun y => V.agg (List.map (fun y => V.sc (Value.int .u16 y)) y)) (p32 g w e m d t s c p v u i q j o).snd) (Int.ofNat (hitN (S30.mk g w e m d t s c p v u i q j o) (List.map (fun y => V.agg (List.map (fun y => V.sc (Value.int .u16 y)) y)) (p32 g w e m d t s c p v u i q j o).snd))).toNat, true)), [])) (cond (closedL 1 (List.map (fun y => V.agg (List.map (fun y => V.sc (Value.int .u16 y)) y)) (p33 g w e m d t s c p v u i q j o).snd) && true && true) (cond (Int.ofNat (List.map (fun y => V.agg (List.map (fun y => V.sc (Value.int .u16 y)) y)) (p33 g w e m d t s c p v u i q j o).snd).length == Int.ofNat (List.map (fun y => V.agg (List.map (fun y => V.sc (Value.int .u16 y)) y)) (p33 g w e m d t s c p v u i q j o).snd).length) (cond (decide ((List.map (fun y => V.agg (List.map (fun y => V.sc (Value.int .u16 y)) y)) (p33 g w e m d t s c p v u i q j o).snd).length ≤ 10000)) (cond (okP (List.map (fun y => V.agg (List.map (fun y => V.sc (Value.int .u16 y)) y)) (p33 g w e m d t s c p v u i q j o).snd)) (cond (hitB (S30.mk g w e m d t s c p v u i q j o) (List.map (fun y => V.agg (List.map (fun y => V.sc (Value.int .u16 y)) y)) (p33 g w e m d t s c p v u i q j o).snd)) (some (enc11 ((fa (List.map (fun y => V.agg (List.map (fun y => V.sc (Value.int .u16 y)) y)) (p33 g w e m d t s c p v u i q j o).snd) (Int.ofNat (hitN (S30.mk g w e m d t s c p v u i q j o) (List.map (fun y => V.agg (List.map (fun y => V.sc (Value.int .u16 y)) y)) (p33 g w e m d t s c p v u i q j o).snd))).toNat, fb (List.map (fun y => V.agg (List.map (fun y => V.sc (Value.int .u16 y)) y)) (p33 g w e m d t s c p v u i q j o).snd) (Int.ofNat (hitN (S30.mk g w e m d t s c p v u i q j o) (List.map (fun y => V.agg (List.map (fun y => V.sc (Value.int .u16 y)) y)) (p33 g w e m d t s c p v u i q j o).snd))).toNat, true)), [])) (cond ((o34 g w e m d t s c p v u i q j o).isSome) (cond (closedL 1 (List.map (fun y => V.agg (List.map (fun y => V.sc (Value.int .u16 y)) y)) (g34 g w e m d t s c p v u i q j o).snd) && true && true) (cond (Int.ofNat (List.map (fun y => V.agg (List.map (fun y => V.sc (Value.int .u16 y)) y)) (g34 g w e m d t s c p v u i q j o).snd).length == Int.ofNat (List.map (fun y => V.agg (List.map (fun y => V.sc (Value.int .u16 y)) y)) (g34 g w e m d t s c p v u i q j o).snd).length) (cond (decide ((List.map (fun y => V.agg (List.map (fun y => V.sc (Value.int .u16 y)) y)) (g34 g w e m d t s c p v u i q j o).snd).length ≤ 10000)) (cond (okP (List.map (fun y => V.agg (List.map (fun y => V.sc (Value.int .u16 y)) y)) (g34 g w e m d t s c p v u i q j o).snd)) (cond (hitB (S30.mk g w e m d t s c p v u i q j o) (List.map (fun y => V.agg (List.map (fun y => V.sc (Value.int .u16 y)) y)) (g34 g w e m d t s c p v u i q j o).snd)) (some (enc11 ((fa (List.map (fun y => V.agg (List.map (fun y => V.sc (Value.int .u16 y)) y)) (g34 g w e m d t s c p v u i q j o).snd) (Int.ofNat (hitN (S30.mk g w e m d t s c p v u i q j o) (List.map (fun y => V.agg (List.map (fun y => V.sc (Value.int .u16 y)) y)) (g34 g w e m d t s c p v u i q j o).snd))).toNat, fb (List.map (fun y => V.agg (List.map (fun y => V.sc (Value.int .u16 y)) y)) (g34 g w e m d t s c p v u i q j o).snd) (Int.ofNat (hitN (S30.mk g w e m d t s c p v u i q j o) (List.map (fun y => V.agg (List.map (fun y => V.sc (Value.int .u16 y)) y)) (g34 g w e m d t s c p v u i q j o).snd))).toNat, true)), [])) (some (enc11 ((0, 0, false)), []))) none) none) none) none) none)) none) none) none) none)) none) none) none) none)) none) none) none) none)) none) none) none) none)) none) none) none) none)) none) none) none) none)))
theorem run11 (g : Int) (w : Bool) (e : Bool) (m : Int) (d : Int) (t : Int) (s : Int) (c : Int) (p : Int) (v : Bool) (u : Int) (i : Int) (q : Int) (j : Bool) (o : Bool) : funK ctx kn12 lt11 3 11 [.agg [.sc (.int .i64 g), .sc (.bool w), .sc (.bool e), .sc (.int .i64 m), .sc (.int .i64 d), .sc (.int .i64 t), .sc (.int .i64 s), .sc (.int .i64 c), .sc (.int .u32 p), .sc (.bool v), .sc (.int .i64 u), .sc (.int .i64 i), .sc (.int .i64 q), .sc (.bool j), .sc (.bool o)]] [] 0 finV = tree11 g w e m d t s c p v u i q j o := by kernel_rfl
noncomputable def o11 (g : Int) (w : Bool) (e : Bool) (m : Int) (d : Int) (t : Int) (s : Int) (c : Int) (p : Int) (v : Bool) (u : Int) (i : Int) (q : Int) (j : Bool) (o : Bool) : Option (Int × Int × Bool) := (cond (g == 64) (some ((0, 0, false))) (cond (g == 65) (some ((0, 0, false))) (cond (decide ((List.map (fun y => V.agg (List.map (fun y => V.sc (Value.int .u16 y)) y)) (p28 g w e m d t s c p v u i q j o).snd).length ≤ 10000)) (cond (okP (List.map (fun y => V.agg (List.map (fun y => V.sc (Value.int .u16 y)) y)) (p28 g w e m d t s c p v u i q j o).snd)) (cond (hitB (S30.mk g w e m d t s c p v u i q j o) (List.map (fun y => V.agg (List.map (fun y => V.sc (Value.int .u16 y)) y)) (p28 g w e m d t s c p v u i q j o).snd)) (some ((fa (List.map (fun y => V.agg (List.map (fun y => V.sc (Value.int .u16 y)) y)) (p28 g w e m d t s c p v u i q j o).snd) (Int.ofNat (hitN (S30.mk g w e m d t s c p v u i q j o) (List.map (fun y => V.agg (List.map (fun y => V.sc (Value.int .u16 y)) y)) (p28 g w e m d t s c p v u i q j o).snd))).toNat, fb (List.map (fun y => V.agg (List.map (fun y => V.sc (Value.int .u16 y)) y)) (p28 g w e m d t s c p v u i q j o).snd) (Int.ofNat (hitN (S30.mk g w e m d t s c p v u i q j o) (List.map (fun y => V.agg (List.map (fun y => V.sc (Value.int .u16 y)) y)) (p28 g w e m d t s c p v u i q j o).snd))).toNat, true))) (cond (decide ((List.map (fun y => V.agg (List.map (fun y => V.sc (Value.int .u16 y)) y)) (p29 g w e m d t s c p v u i q j o).snd).length ≤ 10000)) (cond (okP (List.map (fun y => V.agg (List.map (fun y => V.sc (Value.int .u16 y)) y)) (p29 g w e m d t s c p v u i q j o).snd)) (cond (hitB (S30.mk g w e m d t s c p v u i q j o) (List.map (fun y => V.agg (List.map (fun y => V.sc (Value.int .u16 y)) y)) (p29 g w e m d t s c p v u i q j o).snd)) (some ((fa (List.map (fun y => V.agg (List.map (fun y => V.sc (Value.int .u16 y)) y)) (p29 g w e m d t s c p v u i q j o).snd) (Int.ofNat (hitN (S30.mk g w e m d t s c p v u i q j o) (List.map (fun y => V.agg (List.map (fun y => V.sc (Value.int .u16 y)) y)) (p29 g w e m d t s c p v u i q j o).snd))).toNat, fb (List.map (fun y => V.agg (List.map (fun y => V.sc (Value.int .u16 y)) y)) (p29 g w e m d t s c p v u i q j o).snd) (Int.ofNat (hitN (S30.mk g w e m d t s c p v u i q j o) (List.map (fun y => V.agg (List.map (fun y => V.sc (Value.int .u16 y)) y)) (p29 g w e m d t s c p v u i q j o).snd))).toNat, true))) (cond (decide ((List.map (fun y => V.agg (List.map (fun y => V.sc (Value.int .u16 y)) y)) (p30 g w e m d t s c p v u i q j o).snd).length ≤ 10000)) (cond (okP (List.map (fun y => V.agg (List.map (fun y => V.sc (Value.int .u16 y)) y)) (p30 g w e m d t s c p v u i q j o).snd)) (cond (hitB (S30.mk g w e m d t s c p v u i q j o) (List.map (fun y => V.agg (List.map (fun y => V.sc (Value.int .u16 y)) y)) (p30 g w e m d t s c p v u i q j o).snd)) (some ((fa (List.map (fun y => V.agg (List.map (fun y => V.sc (Value.int .u16 y)) y)) (p30 g w e m d t s c p v u i q j o).snd) (Int.ofNat (hitN (S30.mk g w e m d t s c p v u i q j o) (List.map (fun y => V.agg (List.map (fun y => V.sc (Value.int .u16 y)) y)) (p30 g w e m d t s c p v u i q j o).snd))).toNat, fb (List.map (fun y => V.agg (List.map (fun y => V.sc (Value.int .u16 y)) y)) (p30 g w e m d t s c p v u i q j o).snd) (Int.ofNat (hitN (S30.mk g w e m d t s c p v u i q j o) (List.map (fun y => V.agg (List.map (fun y => V.sc (Value.int .u16 y)) y)) (p30 g w e m d t s c p v u i q j o).snd))).toNat, true))) (cond (decide ((List.map (fun y => V.agg (List.map (fun y => V.sc (Value.int .u16 y)) y)) (p31 g w e m d t s c p v u i q j o).snd).length ≤ 10000)) (cond (okP (List.map (fun y => V.agg (List.map (fun y => V.sc (Value.int .u16 y)) y)) (p31 g w e m d t s c p v u i q j o).snd)) (cond (hitB (S30.mk g w e m d t s c p v u i q j o) (List.map (fun y => V.agg (List.map (fun y => V.sc (Value.int .u16 y)) y)) (p31 g w e m d t s c p v u i q j o).snd)) (some ((fa (List.map (fun y => V.agg (List.map (fun y => V.sc (Value.int .u16 y)) y)) (p31 g w e m d t s c p v u i q j o).snd) (Int.ofNat (hitN (S30.mk g w e m d t s c p v u i q j o) (List.map (fun y => V.agg (List.map (fun y => V.sc (Value.int .u16 y)) y)) (p31 g w e m d t s c p v u i q j o).snd))).toNat, fb (List.map (fun y => V.agg (List.map (fun y => V.sc (Value.int .u16 y)) y)) (p31 g w e m d t s c p v u i q j o).snd) (Int.ofNat (hitN (S30.mk g w e m d t s c p v u i q j o) (List.map (fun y => V.agg (List.map (fun y => V.sc (Value.int .u16 y)) y)) (p31 g w e m d t s c p v u i q j o).snd))).toNat, true))) (cond (decide ((List.map (fun y => V.agg (List.map (fun y => V.sc (Value.int .u16 y)) y)) (p32 g w e m d t s c p v u i q j o).snd).length ≤ 10000)) (cond (okP (List.map (fun y => V.agg (List.map (fun y => V.sc (Value.int .u16 y)) y)) (p32 g w e m d t s c p v u i q j o).snd)) (cond (hitB (S30.mk g w e m d t s c p v u i q j o) (List.map (fun y => V.agg (List.map (fun y => V.sc (Value.int .u16 y)) y)) (p32 g w e m d t s c p v u i q j o).snd)) (some ((fa (List.map (fun y => V.agg (List.map (fun y => V.sc (Value.int .u16 y)) y)) (p32 g w e m d t s c p v u i q j o).snd) (Int.ofNat (hitN (S30.mk g w e m d t s c p v u i q j o) (List.map (fun y => V.agg (List.map (fun y => V.sc (Value.int .u16 y)) y)) (p32 g w e m d t s c p v u i q j o).snd))).toNat, fb (List.map (fun y => V.agg (List.map (fun y => V.sc (Value.int .u16 y)) y)) (p32 g w e m d t s c p v u i q j o).snd) (Int.ofNat (hitN (S30.mk g w e m d t s c p v u i q j o) (List.map (fun y => V.agg (List.map (fun y => V.sc (Value.int .u16 y)) y)) (p32 g w e m d t s c p v u i q j o).snd))).toNat, true))) (cond (decide ((List.map (fun y => V.agg (List.map (fun y => V.sc (Value.int .u16 y)) y)) (p33 g w e m d t s c p v u i q j o).snd).length ≤ 10000)) (cond (okP (List.map (fun y => V.agg (List.map (fun y => V.sc (Value.int .u16 y)) y)) (p33 g w e m d t s c p v u i q j o).snd)) (cond (hitB (S30.mk g w e m d t s c p v u i q j o) (List.map (fun y => V.agg (List.map (fun y => V.sc (Value.int .u16 y)) y)) (p33 g w e m d t s c p v u i q j o).snd)) (some ((fa (List.map (fun y => V.agg (List.map (fun y => V.sc (Value.int .u16 y)) y)) (p33 g w e m d t s c p v u i q j o).snd) (Int.ofNat (hitN (S30.mk g w e m d t s c p v u i q j o) (List.map (fun y => V.agg (List.map (fun y => V.sc (Value.int .u16 y)) y)) (p33 g w e m d t s c p v u i q j o).snd))).toNat, fb (List.map (fun y => V.agg (List.map (fun y => V.sc (Value.int .u16 y)) y)) (p33 g w e m d t s c p v u i q j o).snd) (Int.ofNat (hitN (S30.mk g w e m d t s c p v u i q j o) (List.map (fun y => V.agg (List.map (fun y => V.sc (Value.int .u16 y)) y)) (p33 g w e m d t s c p v u i q j o).snd))).toNat, true))) (cond ((o34 g w e m d t s c p v u i q j o).isSome) (cond (decide ((List.map (fun y => V.agg (List.map (fun y => V.sc (Value.int .u16 y)) y)) (g34 g w e m d t s c p v u i q j o).snd).length ≤ 10000)) (cond (okP (List.map (fun y => V.agg (List.map (fun y => V.sc (Value.int .u16 y)) y)) (g34 g w e m d t s c p v u i q j o).snd)) (cond (hitB (S30.mk g w e m d t s c p v u i q j o) (List.map (fun y => V.agg (List.map (fun y => V.sc (Value.int .u16 y)) y)) (g34 g w e m d t s c p v u i q j o).snd)) (some ((fa (List.map (fun y => V.agg (List.map (fun y => V.sc (Value.int .u16 y)) y)) (g34 g w e m d t s c p v u i q j o).snd) (Int.ofNat (hitN (S30.mk g w e m d t s c p v u i q j o) (List.map (fun y => V.agg (List.map (fun y => V.sc (Value.int .u16 y)) y)) (g34 g w e m d t s c p v u i q j o).snd))).toNat, fb (List.map (fun y => V.agg (List.map (fun y => V.sc (Value.int .u16 y)) y)) (g34 g w e m d t s c p v u i q j o).snd) (Int.ofNat (hitN (S30.mk g w e m d t s c p v u i q j o) (List.map (fun y => V.agg (List.map (fun y => V.sc (Value.int .u16 y)) y)) (g34 g w e m d t s c p v u i q j o).snd))).toNat, true))) (some ((0, 0, false)))) none) none) none)) none) none)) none) none)) none) none)) none) none)) none) none)) none) none)))
theorem told11 (g : Int) (w : Bool) (e : Bool) (m : Int) (d : Int) (t : Int) (s : Int) (c : Int) (p : Int) (v : Bool) (u : Int) (i : Int) (q : Int) (j : Bool) (o : Bool) : Told enc11 (tree11 g w e m d t s c p v u i q j o) (o11 g w e m d t s c p v u i q j o) := (told_c (fun h0 => told_leaf _) (fun h0 => (told_c (fun h1 => told_leaf _) (fun h1 => (told_t (by simp only [closed_rows, closed_ints, closedL, closed, Bool.and_self]) ((told_t (by simp only [beq_self_eq_true, bne_self_eq_false, Bool.and_self, Bool.and_true, Bool.true_and, Bool.false_and, Bool.and_false, Bool.not_true, Bool.not_false]) ((told_c (fun h4 => (told_c (fun h5 => (told_c (fun h6 => told_leaf _) (fun h6 => (told_t (by simp only [closed_rows, closed_ints, closedL, closed, Bool.and_self]) ((told_t (by simp only [beq_self_eq_true, bne_self_eq_false, Bool.and_self, Bool.and_true, Bool.true_and, Bool.false_and, Bool.and_false, Bool.not_true, Bool.not_false]) ((told_c (fun h9 => (told_c (fun h10 => (told_c (fun h11 => told_leaf _) (fun h11 => (told_t (by simp only [closed_rows, closed_ints, closedL, closed, Bool.and_self]) ((told_t (by simp only [beq_self_eq_true, bne_self_eq_false, Bool.and_self, Bool.and_true, Bool.true_and, Bool.false_and, Bool.and_false, Bool.not_true, Bool.not_false]) ((told_c (fun h14 => (told_c (fun h15 => (told_c (fun h16 => told_leaf _) (fun h16 => (told_t (by simp only [closed_rows, closed_ints, closedL, closed, Bool.and_self]) ((told_t (by simp only [beq_self_eq_true, bne_self_eq_false, Bool.and_self, Bool.and_true, Bool.true_and, Bool.false_and, Bool.and_false, Bool.not_true, Bool.not_false]) ((told_c (fun h19 => (told_c (fun h20 => (told_c (fun h21 => told_leaf _) (fun h21 => (told_t (by simp only [closed_rows, closed_ints, closedL, closed, Bool.and_self]) ((told_t (by simp only [beq_self_eq_true, bne_self_eq_false, Bool.and_self, Bool.and_true, Bool.true_and, Bool.false_and, Bool.and_false, Bool.not_true, Bool.not_false]) ((told_c (fun h24 => (told_c (fun h25 => (told_c (fun h26 => told_leaf _) (fun h26 => (told_t (by simp only [closed_rows, closed_ints, closedL, closed, Bool.and_self]) ((told_t (by simp only [beq_self_eq_true, bne_self_eq_false, Bool.and_self, Bool.and_true, Bool.true_and, Bool.false_and, Bool.and_false, Bool.not_true, Bool.not_false]) ((told_c (fun h29 => (told_c (fun h30 => (told_c (fun h31 => told_leaf _) (fun h31 => (told_c (fun h32 => (told_t (by simp only [closed_rows, closed_ints, closedL, closed, Bool.and_self]) ((told_t (by simp only [beq_self_eq_true, bne_self_eq_false, Bool.and_self, Bool.and_true, Bool.true_and, Bool.false_and, Bool.and_false, Bool.not_true, Bool.not_false]) ((told_c (fun h35 => (told_c (fun h36 => (told_c (fun h37 => told_leaf _) (fun h37 => told_leaf _))) (fun h36 => told_none _))) (fun h35 => told_none _))))))) (fun h32 => told_none _))))) (fun h30 => told_none _))) (fun h29 => told_none _))))))))) (fun h25 => told_none _))) (fun h24 => told_none _))))))))) (fun h20 => told_none _))) (fun h19 => told_none _))))))))) (fun h15 => told_none _))) (fun h14 => told_none _))))))))) (fun h10 => told_none _))) (fun h9 => told_none _))))))))) (fun h5 => told_none _))) (fun h4 => told_none _))))))))))
noncomputable def g11 (g : Int) (w : Bool) (e : Bool) (m : Int) (d : Int) (t : Int) (s : Int) (c : Int) (p : Int) (v : Bool) (u : Int) (i : Int) (q : Int) (j : Bool) (o : Bool) : (Int × Int × Bool) := (o11 g w e m d t s c p v u i q j o).getD default
noncomputable def k11 (l : List V) : Option (Bool × V) := match l with
  | [.agg [.sc (.int .i64 g), .sc (.bool w), .sc (.bool e), .sc (.int .i64 m), .sc (.int .i64 d), .sc (.int .i64 t), .sc (.int .i64 s), .sc (.int .i64 c), .sc (.int .u32 p), .sc (.bool v), .sc (.int .i64 u), .sc (.int .i64 i), .sc (.int .i64 q), .sc (.bool j), .sc (.bool o)]] => some ((o11 g w e m d t s c p v u i q j o).isSome, enc11 (g11 g w e m d t s c p v u i q j o))
  | _ => none
noncomputable def kn11 : Known := kn12.add 11 k11
theorem kn11_ok : KnownOK ctx kn11 240 := Known.add_ok kn12_ok rfl (by omega) (by
  intro l r h
  unfold k11 at h
  split at h
  · simp only [Option.some.injEq, Prod.mk.injEq] at h
    obtain ⟨h1, rfl⟩ := h
    obtain ⟨a, ha⟩ := Option.isSome_iff_exists.1 h1
    unfold g11
    rw [ha]
    exact ⟨(Told.spec kn12_ok (lt11_ok.mono (by omega)) (run11 _ _ _ _ _ _ _ _ _ _ _ _ _ _ _) (told11 _ _ _ _ _ _ _ _ _ _ _ _ _ _ _) ha).mono (by omega), rfl, rfl⟩
  · cases h)
end Go.Den
end
