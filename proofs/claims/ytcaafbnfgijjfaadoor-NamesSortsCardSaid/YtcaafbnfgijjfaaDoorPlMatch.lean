/- A name held against a pattern, in plain words: row by row, and by what stands behind. -/
import Derived.Lib.SplitLaws
import Derived.Test.YtcaafbnfgijjfaaDoorPlNames
namespace Go.Proofs.YtcaafbnfgijjfaaDoor.G
set_option linter.unusedVariables false
set_option linter.unusedSimpArgs false

/-! ### rows -/
def starRow : Bool → List Bool → List Bool
  | _, [] => []
  | acc, b :: l => (b || acc) :: starRow (b || acc) l
def stepR (c : UInt8) (name : List UInt8) (can : List Bool) : List Bool :=
  if c = 42 then starRow false can else false :: List.zipWith (fun x b => (decide (c = 63) || decide (c = x)) && b) name can
def rowsR (p name : List UInt8) : List Bool := p.foldl (fun can c => stepR c name can) (true :: List.replicate name.length false)
theorem starRow_length : ∀ (l : List Bool) (acc : Bool), (starRow acc l).length = l.length
  | [], _ => rfl
  | b :: l, acc => by simp [starRow, starRow_length l]
theorem stepR_length (c : UInt8) (name : List UInt8) (can : List Bool) (h : can.length = name.length + 1) : (stepR c name can).length = name.length + 1 := by
  unfold stepR
  split
  · rw [starRow_length, h]
  · simp [h]
theorem starRow_get : ∀ (l : List Bool) (acc : Bool) (i : Nat), i < l.length → (starRow acc l).getD i false = (l.getD i false || if i = 0 then acc else (starRow acc l).getD (i - 1) false)
  | [], _, i, h => absurd h (by simp)
  | b :: l, acc, 0, _ => by simp [starRow]
  | b :: l, acc, i + 1, h => by
    have h' : i < l.length := by simpa using h
    have ih := starRow_get l (b || acc) i h'
    simp only [starRow, List.getD_cons_succ, Nat.add_sub_cancel, if_neg (Nat.succ_ne_zero i)]
    rw [ih]
    cases i with
    | zero => simp
    | succ i => simp
theorem stepR_get (c : UInt8) (name : List UInt8) (can : List Bool) (h : can.length = name.length + 1) (i : Nat) (hi : i ≤ name.length) :
    (stepR c name can).getD i false = if c = 42 then (can.getD i false || (decide (0 < i) && (stepR c name can).getD (i - 1) false)) else (decide (0 < i) && ((decide (c = 63) || decide (c = name.getD (i - 1) 0)) && can.getD (i - 1) false)) := by
  by_cases hc : c = 42
  · rw [if_pos hc]
    unfold stepR
    rw [if_pos hc, starRow_get can false i (by omega)]
    cases i with
    | zero => simp
    | succ i => simp
  · rw [if_neg hc]
    unfold stepR
    rw [if_neg hc]
    cases i with
    | zero => simp
    | succ i =>
      simp only [List.getD_cons_succ, Nat.zero_lt_succ, decide_true, Bool.true_and, Nat.add_sub_cancel]
      have h1 : i < name.length := by omega
      have h2 : i < can.length := by omega
      simp [List.getD_eq_getElem?_getD, List.getElem?_zipWith, List.getElem?_eq_getElem h1, List.getElem?_eq_getElem h2]
theorem rowsR_length (name : List UInt8) : ∀ (p : List UInt8), (rowsR p name).length = name.length + 1 := by
  intro p
  unfold rowsR
  have : ∀ (p : List UInt8) (can : List Bool), can.length = name.length + 1 → (p.foldl (fun can c => stepR c name can) can).length = name.length + 1 := by
    intro p
    induction p with
    | nil => intro can h; exact h
    | cons c p ih => intro can h; exact ih _ (stepR_length c name can h)
  exact this p _ (by simp)

/-! ### while a row is being written -/
def partR (R : List Bool) (i : Nat) : List Bool := R.take i ++ List.replicate (R.length - i) false
theorem partR_zero (R : List Bool) : partR R 0 = List.replicate R.length false := by simp [partR]
theorem partR_all (R : List Bool) : partR R R.length = R := by simp [partR]
theorem partR_length (R : List Bool) (i : Nat) (h : i ≤ R.length) : (partR R i).length = R.length := by simp [partR]; omega
theorem partR_get (R : List Bool) (i j : Nat) (h : i ≤ R.length) (hj : j < i) : (partR R i).getD j false = R.getD j false := by
  unfold partR
  simp only [List.getD_eq_getElem?_getD]
  rw [List.getElem?_append_left (by simp; omega), List.getElem?_take_of_lt hj]
theorem partR_set (R : List Bool) (i : Nat) (h : i < R.length) : (partR R i).set i (R.getD i false) = partR R (i + 1) := by
  unfold partR
  rw [List.set_append_right _ _ (by simp; omega)]
  have e : R.length - i = (R.length - (i + 1)) + 1 := by omega
  have e2 : i - (R.take i).length = 0 := by simp; omega
  rw [e2, e, List.replicate_succ, List.set_cons_zero, List.take_succ_eq_append_getElem h, List.append_assoc]
  simp [List.getD_eq_getElem?_getD, List.getElem?_eq_getElem h]
theorem partR_keep (R : List Bool) (i : Nat) (h : i < R.length) (hf : R.getD i false = false) : partR R i = partR R (i + 1) := by
  have := partR_set R i h
  rw [hf] at this
  rw [← this]
  unfold partR
  rw [List.set_append_right _ _ (by simp; omega)]
  have e : R.length - i = (R.length - (i + 1)) + 1 := by omega
  have e2 : i - (R.take i).length = 0 := by simp; omega
  rw [e2, e, List.replicate_succ, List.set_cons_zero]

/-! ### the same from behind: the pattern and the name turned round -/
def Mt : List UInt8 → List UInt8 → Bool
  | [], n => n.isEmpty
  | c :: p, [] => decide (c = 42) && Mt p []
  | c :: p, x :: n => if c = 42 then (Mt p (x :: n) || Mt (c :: p) n) else (decide (c = 63) || decide (c = x)) && Mt p n
termination_by p n => (p.length, n.length)
def matchL (p n : List UInt8) : Bool := Mt p.reverse n.reverse
theorem Mt_star (p n : List UInt8) : Mt (42 :: p) n = (Mt p n || match n with | [] => false | _ :: n' => Mt (42 :: p) n') := by
  cases n with
  | nil => rw [Mt]; simp
  | cons x n => rw [Mt]; simp
theorem take_rev (n : List UInt8) (i : Nat) (h : i < n.length) : (n.take (i + 1)).reverse = n[i] :: (n.take i).reverse := by
  rw [List.take_succ_eq_append_getElem h]; simp
theorem rows_Mt (n : List UInt8) : ∀ (q : List UInt8) (i : Nat), i ≤ n.length → (rowsR q.reverse n).getD i false = Mt q (n.take i).reverse := by
  intro q
  induction q with
  | nil =>
    intro i hi
    show (true :: List.replicate n.length false).getD i false = _
    cases i with
    | zero => simp [Mt]
    | succ i =>
      have h1 : i < n.length := by omega
      rw [take_rev n i h1, Mt]
      simp [List.getD_eq_getElem?_getD, List.getElem?_replicate, h1]
  | cons c q ih =>
    have hstep : rowsR (c :: q).reverse n = stepR c n (rowsR q.reverse n) := by
      unfold rowsR; rw [List.reverse_cons, List.foldl_append]; rfl
    have hl := rowsR_length n q.reverse
    rw [hstep]
    intro i
    induction i with
    | zero =>
      intro hi
      rw [stepR_get c n _ hl 0 hi]
      have := ih 0 hi
      simp only [List.take_zero, List.reverse_nil] at this ⊢
      rw [Mt, ← this]
      by_cases hc : c = 42
      · simp [hc]
      · simp [hc]
    | succ i ihi =>
      intro hi
      have h1 : i < n.length := by omega
      rw [stepR_get c n _ hl (i + 1) hi, take_rev n i h1, Mt, Nat.add_sub_cancel]
      by_cases hc : c = 42
      · rw [if_pos hc, if_pos hc, ih (i + 1) hi, take_rev n i h1, ihi (by omega)]
        simp
      · rw [if_neg hc, if_neg hc, ih i (by omega)]
        simp [List.getD_eq_getElem?_getD, List.getElem?_eq_getElem h1]
theorem rows_match (p n : List UInt8) : (rowsR p n).getD n.length false = matchL p n := by
  have := rows_Mt n p.reverse n.length (Nat.le_refl _)
  simpa [matchL] using this

/-! ### what a pattern stands for -/
theorem Mt_any : ∀ n : List UInt8, Mt [42] n = true
  | [] => by rw [Mt_star]; simp [Mt]
  | x :: n => by rw [Mt_star]; simp [Mt_any n]
theorem Mt_self : ∀ q : List UInt8, Mt q q = true
  | [] => by simp [Mt]
  | c :: q => by
    have ih := Mt_self q
    rw [Mt]
    split
    · rename_i h; subst h
      have h2 : Mt (42 :: q) q = true := by rw [Mt_star]; simp [ih]
      simp [h2]
    · simp [ih]
theorem Mt_behind (p p' : List UInt8) (h : Mt p p' = true) : ∀ m : List UInt8, Mt (42 :: p) (m ++ p') = true
  | [] => by rw [Mt_star]; simp [h]
  | x :: m => by rw [List.cons_append, Mt_star]; simp [Mt_behind p p' h m]
theorem Mt_ahead (m : List UInt8) : ∀ q : List UInt8, Mt (q ++ [42]) (q ++ m) = true
  | [] => Mt_any m
  | c :: q => by
    have ih := Mt_ahead m q
    rw [List.cons_append, List.cons_append, Mt]
    split
    · rename_i h; subst h
      have : Mt (42 :: (q ++ [42])) (q ++ m) = true := by rw [Mt_star]; simp [ih]
      simp [this]
    · simp [ih]
theorem Mt_plain : ∀ (q n : List UInt8), (∀ c ∈ q, c ≠ 42 ∧ c ≠ 63) → Mt q n = decide (q = n)
  | [], n, _ => by cases n <;> simp [Mt]
  | c :: q, [], h => by
    have := (h c (by simp)).1
    rw [Mt]; simp [this]
  | c :: q, x :: n, h => by
    have h1 := h c (by simp)
    rw [Mt, if_neg h1.1, Mt_plain q n (fun d hd => h d (by simp [hd]))]
    by_cases e : c = x <;> simp [h1.2, e]
theorem Mt_one (n : List UInt8) : Mt [63] n = decide (n.length = 1) := by
  cases n with
  | nil => simp [Mt]
  | cons x n => cases n <;> simp [Mt]
end Go.Proofs.YtcaafbnfgijjfaaDoor.G
