import Derived.Test.YtllippimokoioaaE1
set_option maxRecDepth 100000
namespace Go.Den

/-- which five bits a half of an op begins with -/
def grpT : List (List Nat) := [[8], [8], [8], [3, 7, 22], [8], [3, 6, 8, 21, 22], [8], [8], [8], [8], [5, 8], [8], [8], [0, 4, 8], [8], [8], [8], [0, 8], [1, 8], [2, 8], [8], [8], [8], [8], [8], [8], [8], [8], [8], [8], [8], [8], [8], [8], [8], [8], [22, 23, 24, 25], [22, 23, 24, 25], [22, 23, 24, 25], [22, 23, 24, 25], [22, 23, 24, 25], [22, 23, 24, 25], [22, 23, 24, 25], [20], [9, 10, 11, 13, 15, 17, 19], [9, 10, 11, 13, 15, 17, 19], [9, 10, 11, 13, 15, 17, 19], [9, 10, 11, 13, 15, 17, 19], [9, 10, 11, 13, 15, 17, 19], [10, 12, 14, 16, 18], [10, 12, 14, 16, 18], [10, 12, 14, 16, 18], [22, 23, 24, 25], [22, 23, 24, 25], [26, 27, 28], [8], [8], [8], [22, 23, 24, 25], [22, 23, 24, 25], [22, 23, 24, 25], [22, 23, 24, 25], [26, 27, 28], [22, 23, 24, 25], [0, 1, 2, 3, 4, 5, 6, 7, 8, 9, 10, 11, 12, 13, 14, 15, 16, 17, 18, 19, 20, 21, 22, 23, 24, 25, 26, 27, 28, 29, 30, 31], [0, 1, 2, 3, 4, 5, 6, 7, 8, 9, 10, 11, 12, 13, 14, 15, 16, 17, 18, 19, 20, 21, 22, 23, 24, 25, 26, 27, 28, 29, 30, 31]]

def getG : List (List Nat) → Nat → List Nat
  | [], _ => []
  | a :: l, j => match j with
    | 0 => a
    | j + 1 => getG l j

def memN (n : Nat) : List Nat → Bool
  | [] => false
  | a :: l => match Nat.beq n a with
    | true => true
    | false => memN n l

theorem memN_ok {n : Nat} : ∀ {l : List Nat}, memN n l = true → n ∈ l
  | [], h => by cases h
  | a :: l, h => by
    unfold memN at h
    split at h
    · rename_i hb
      rw [Nat.eq_of_beq_eq_true hb]
      exact List.mem_cons_self
    · exact List.mem_cons_of_mem _ (memN_ok h)

def opN : Int → Nat
  | .ofNat n => n
  | .negSucc _ => 100

theorem opN_ok : ∀ {x : Int}, opN x < 66 → x = (opN x : Int)
  | .ofNat n, _ => rfl
  | .negSucc n, h => by
    have h : 100 < 66 := h
    omega

noncomputable def gchk (h : Nat) : Bool := and1B (memN (Nat.div h 2048) (getG grpT (opN (p30 (Int.ofNat h) false).f_Op))) (memN (Nat.div h 2048) (getG grpT (opN (p30 (Int.ofNat h) true).f_Op)))

end Go.Den
