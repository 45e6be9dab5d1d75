/- names.Split by its contract: the closures, slices.IndexFunc and ContainsFunc at a predicate on texts, strings.Split at one byte. -/
import Derived.Test.YtcbmbjapcpbnnaaGreatDoorG0
import Derived.Test.YtcbmbjapcpbnnaaGreatDoorG1
import Derived.Test.YtcbmbjapcpbnnaaGreatDoorShelf
import Derived.Test.YtcbmbjapcpbnnaaGreatDoorPlNames
namespace Go.Proofs.YtcbmbjapcpbnnaaGreatDoor.G
open Go.RowKit Go.Proofs.YtcbmbjapcpbnnaaGreatDoorW.PrintWords Go.Proofs.YtcbmbjapcpbnnaaGreatDoorW.PrintLast
set_option linter.unusedVariables false
set_option linter.unusedSimpArgs false

/-- A function value that is a predicate on texts: it only reads. -/
def IsPred (g : Nat) (cb : Array Value) (p : ByteArray → Bool) (l : List ByteArray) : Prop :=
  ∀ x, x ∈ l → ∀ W : World, Calls Tryz.prog g (#[.string x] ++ cb) W fun e w' => e = .returned (.bool (p x)) ∧ Drawn0 W w'

theorem rdOf_mem {l : List ByteArray} {i : Int} (h0 : 0 ≤ i) (h : i < (l.length : Int)) : rdOf ByteArray.empty l i ∈ l := by
  unfold rdOf
  rw [List.getD_eq_getElem?_getD, List.getElem?_eq_getElem (by omega)]
  exact List.getElem_mem _

/-- Where the first one stands of which p holds; -1: there is none. -/
def idxP {α : Type} (p : α → Bool) (l : List α) : Int := match l.findIdx? p with | some i => (i : Int) | none => -1
theorem idxP_at {α : Type} (p : α → Bool) (l : List α) (d : α) (k : Nat) (hk : k < l.length) (hn : ∀ j, j < k → p (l.getD j d) = false) (hy : p (l.getD k d) = true) : idxP p l = (k : Int) := by
  unfold idxP
  have : l.findIdx? p = some k := by
    rw [List.findIdx?_eq_some_iff_getElem]
    refine ⟨hk, ?_, ?_⟩
    · rw [List.getD_eq_getElem?_getD, List.getElem?_eq_getElem hk] at hy; exact hy
    · intro j hj
      have := hn j hj
      rw [List.getD_eq_getElem?_getD, List.getElem?_eq_getElem (by omega)] at this
      simpa using this
  rw [this]
theorem idxP_none {α : Type} (p : α → Bool) (l : List α) (d : α) (hn : ∀ j, j < l.length → p (l.getD j d) = false) : idxP p l = -1 := by
  unfold idxP
  have : l.findIdx? p = none := by
    rw [List.findIdx?_eq_none_iff]
    intro x hx
    obtain ⟨j, hj, rfl⟩ := List.mem_iff_getElem.1 hx
    have := hn j hj
    rw [List.getD_eq_getElem?_getD, List.getElem?_eq_getElem hj] at this
    exact this
  rw [this]
theorem idxP_any {α : Type} (p : α → Bool) (l : List α) : decide (0 ≤ idxP p l) = l.any p := by
  unfold idxP
  cases h : l.findIdx? p with
  | none => rw [List.findIdx?_eq_none_iff] at h; symm; simpa using h
  | some i =>
    rw [List.findIdx?_eq_some_iff_getElem] at h
    obtain ⟨hi, hp, _⟩ := h
    have : l.any p = true := List.any_eq_true.2 ⟨_, List.getElem_mem hi, hp⟩
    rw [this]; simp
theorem drawn_trans {w w1 w2 : World} (h : Drawn0 w w1) (k : Drawn0 w1 w2) : Drawn0 w w2 := by
  obtain ⟨n, rfl⟩ := k
  exact h.step n

set_option maxRecDepth 100000 in
theorem indexFunc_pred (A0 : Option Addr) (c0 : Nat) (l0 : List ByteArray) (g : Nat) (p : ByteArray → Bool) (w : World)
    (eg : ∀ args w, (callFunc g args).run Tryz.prog w = .ok (.enter g args) w)
    (hr0 : Kd.C Kd.string w A0 l0.length l0) (hp : IsPred g #[] p l0) :
    Calls Tryz.prog 90 #[.slice A0 l0.length c0, .func (.func g) #[] #[]] w fun e w' =>
      e = .returned (.int .i64 (idxP p l0)) ∧ Drawn0 w w' := by
  have HR0 := Aside0.mk hr0
  have HM := Aside0.mk (Kd.C_max hr0)
  have HP := Aside0.mk hp
  clear hr0 hp
  have hm := HM.out
  go_enter Tryz.func90, Tryz.ntmps90
  go_wp2_with fail
  go_loopw [8] (fun v8 wr => ∃ k : Nat, k ≤ l0.length ∧ v8 = .int .i64 k ∧ Aside0 (∀ j, j < k → p (l0.getD j ByteArray.empty) = false) ∧ Aside0 (Drawn0 w wr)) (fun v8 _ => l0.length - (intOf v8).toNat)
  case atStart => exact ⟨0, by omega, rfl, ⟨fun j hj => by omega⟩, ⟨Drawn0.refl _⟩⟩
  case round =>
    obtain ⟨k, hk, rfl, HN, HD⟩ := hrel
    by_cases hlt : k < l0.length
    · obtain ⟨ad, e1, hx⟩ := Kd.at_string HR0.out (k : Int) (by omega) (by omega)
      subst e1
      have hx' : wr.cell? (ad.add k) = some (.string (rdOf ByteArray.empty l0 (k : Int))) := by
        obtain ⟨⟨n, rfl⟩⟩ := HD.out
        simpa using hx
      clear hx
      have hmem := Aside0.mk (rdOf_mem (l := l0) (i := (k : Int)) (by omega) (by omega))
      cases hpx : p (rdOf ByteArray.empty l0 (k : Int)) with
      | true =>
        have hc := HP.out _ hmem.out wr
        rw [hpx] at hc
        have HC := Aside0.mk hc
        clear hc
        have HPX := Aside0.mk hpx
        clear hpx
        go_wp2_with (go_at_fn g; refine HC.out.mono ?_; rintro e w' ⟨rfl, HD2⟩)
        go_ret
        exact ⟨by rw [idxP_at p l0 ByteArray.empty k hlt HN.out HPX.out]; simp, drawn_trans HD.out HD2⟩
      | false =>
        have hc := HP.out _ hmem.out wr
        rw [hpx] at hc
        have HC := Aside0.mk hc
        clear hc
        have HPX := Aside0.mk hpx
        clear hpx
        go_wp2_with (go_at_fn g; refine HC.out.mono ?_; rintro e w' ⟨rfl, HD2⟩)
        go_roundw
        case rel =>
          refine ⟨k + 1, by omega, by go_num, ⟨fun j hj => ?_⟩, ⟨drawn_trans HD.out HD2⟩⟩
          by_cases hjk : j < k
          · exact HN.out j hjk
          · obtain rfl : j = k := by omega
            exact HPX.out
        case measure => simp [intOf]; omega
    · go_wp2_with fail
      go_ret
      obtain rfl : k = l0.length := by omega
      exact ⟨by rw [idxP_none p l0 ByteArray.empty HN.out]; simp, HD.out⟩

set_option maxRecDepth 100000 in
theorem containsFunc_pred (A0 : Option Addr) (c0 : Nat) (l0 : List ByteArray) (g : Nat) (p : ByteArray → Bool) (w : World)
    (eg : ∀ args w, (callFunc g args).run Tryz.prog w = .ok (.enter g args) w)
    (hr0 : Kd.C Kd.string w A0 l0.length l0) (hp : IsPred g #[] p l0) :
    Calls Tryz.prog 73 #[.slice A0 l0.length c0, .func (.func g) #[] #[]] w fun e w' => e = .returned (.bool (l0.any p)) ∧ Drawn0 w w' := by
  have HC := Aside0.mk (indexFunc_pred A0 c0 l0 g p w eg hr0 hp)
  have HA := Aside0.mk (idxP_any p l0)
  clear hr0 hp eg
  obtain ⟨n, hn⟩ : ∃ n, n = idxP p l0 := ⟨_, rfl⟩
  rw [← hn] at HC HA
  clear hn
  go_enter Tryz.func73, Tryz.ntmps73
  go_wp2_with (go_at_call 90; refine HC.out.mono ?_; rintro e w' ⟨rfl, HD2⟩)
  go_ret
  exact ⟨by rw [← HA.out]; simp, HD2⟩

/-! ### the two closures -/
set_option maxRecDepth 100000 in
theorem long_pred (l : List ByteArray) (hl : ∀ x, x ∈ l → x.size ≤ 140737488351232) : IsPred 72 #[] (fun x => decide (12 < x.size)) l := by
  intro x hx W
  have hs := hl x hx
  show Calls Tryz.prog 72 #[.string x] W _
  by_cases h : 12 < x.size
  · have hb : decide (12 < x.size) = true := decide_eq_true h
    go_enter Tryz.func72, Tryz.ntmps72
    go_wp2
    go_ret
    exact ⟨by simp; omega, Drawn0.refl _⟩
  · have hb : decide (12 < x.size) = false := decide_eq_false h
    go_enter Tryz.func72, Tryz.ntmps72
    go_wp2
    go_ret
    exact ⟨by simp; omega, Drawn0.refl _⟩
set_option maxRecDepth 100000 in
theorem bad_pred (l : List ByteArray) (hl : ∀ x, x ∈ l → x.size ≤ 140737488351232) : IsPred 74 #[] (fun x => !nameOk x) l := by
  intro x hx W
  have HC := Aside0.mk (names_Name.calls (x.size + 3) x (nameOk x) W (name_f x (hl x hx)))
  clear hl hx
  obtain ⟨b, hb⟩ : ∃ b, b = nameOk x := ⟨_, rfl⟩
  show Calls Tryz.prog 74 #[.string x] W fun e w' => e = .returned (.bool (!nameOk x)) ∧ Drawn0 W w'
  rw [← hb] at HC ⊢
  clear hb
  go_enter Tryz.func74, Tryz.ntmps74
  go_wp2_with (go_at_call 75; refine HC.out.mono ?_; rintro e w' ⟨rfl, HD2⟩)
  go_ret
  exact ⟨by simp, HD2⟩

/-! ### strings.Split at a slash -/
set_option maxRecDepth 100000 in
theorem split_slash (s : ByteArray) (w : World) (hs : s.size < 4294967281) :
    Calls Tryz.prog 42 #[.string s, .string ⟨#[47]⟩] w fun e w' => ∃ v, e = .returned v ∧ Kd.R Kd.string 9 w' w.heap.size (fun _ => True) v (cutB 47 s) ∧ Below w.heap.size w w' := by
  have hle := cutB_length_le 47 s
  have hlen := Lib.splitB_all ⟨#[47]⟩ (by decide) 0 _ s rfl
  have hsp := splitB_one 47 s
  have c := Any.strings_genSplit_core Tryz.lays221 (by kernel_rfl) s ⟨#[47]⟩ 0 (-1) (Lib.countB s ⟨#[47]⟩ + 1) w hs (by decide) (Nat.zero_le _)
    (fun x c hx => (Tryz.strings_Index_one x 47 _).mono fun e w' ⟨he, hw⟩ => ⟨by rw [he]; congr 2; exact (Lib.index_one _ _).symm, hw⟩)
    ((Tryz.strings_Count_one s 47 w).mono fun e w' ⟨he, hw⟩ => ⟨by rw [he]; show _ = Ending.returned (Value.int .i64 ((Lib.count s.data.toList [47] : Nat) : Int)); rw [Lib.count_one]; rfl, hw⟩)
    (by decide) (by decide) (by rw [if_pos (by decide)]; have := Lib.countB_le ⟨#[47]⟩ (by decide) s.size s (Nat.le_refl _); omega)
  rw [Nat.add_sub_cancel, hlen] at c
  have e2 : Lib.cellsOf (Lib.splitB ⟨#[47]⟩ 0 (Lib.countB s ⟨#[47]⟩) s) (Lib.countB s ⟨#[47]⟩ + 1) = ((Lib.splitB ⟨#[47]⟩ 0 (Lib.countB s ⟨#[47]⟩) s).map Value.string).toArray := by rw [← hlen]; exact Lib.cellsOf_full _
  rw [e2, hsp] at c
  rw [hsp] at hlen
  rw [← hlen] at c
  clear e2 hsp hlen
  obtain ⟨l, hl⟩ : ∃ l, l = cutB 47 s := ⟨_, rfl⟩
  rw [← hl] at c hle ⊢
  clear hl
  have HC := Aside0.mk c
  clear c
  have HL := Aside0.mk hle
  clear hle
  go_enter Tryz.func42, Tryz.ntmps42
  go_wp2_with (go_at_call 61; refine HC.out.mono ?_; rintro e w' ⟨rfl, rfl⟩)
  go_ret
  refine ⟨_, rfl, ?_, (Below.refl _ _).alloc (Nat.le_refl _) _⟩
  have ho : (w.alloc (.cells (l.map Value.string).toArray 9)).ownsRow w.heap.size 9 1 (.slice (some ⟨w.heap.size, 0, none⟩) l.length l.length) l.length (encs Value.string l) := by
    simpa [encs] using World.ownsRow_lit (base := w.heap.size) (e := 9) (size := 1) w (l.map Value.string).toArray l.length (Nat.le_refl _) (by have := HL.out; simp only [maxLen]; omega) (by simp)
  exact Kd.R_of_own ho (fun _ _ => trivial)

/-- The rest, behind the text's beginning: what the pieces say. -/
def restOf (l : List ByteArray) : List ByteArray × Option Int :=
  if l.any (fun x => !nameOk x) then ([], some 2) else if l.any (fun x => decide (12 < x.size)) then ([], some 3) else if 6 < l.length then ([], some 4) else (l, none)
/-- names.Split. -/
def names_Split.f (a0 : ByteArray) : Option (List ByteArray × Option Int) :=
  if 200 < a0.size then some ([], some 2)
  else if a0.data.toList.head? ≠ some 47 then some ([], some 2)
  else if a0.data.toList = [47] then some ([], none)
  else some (restOf ((cutL 47 a0.data.toList.tail).map ofL))

theorem hasPrefix_slash (l : List UInt8) : Lib.hasPrefix l [47] = decide (l.head? = some 47) := by
  cases l with
  | nil => rfl
  | cons x l =>
    show (([47] : List UInt8).isPrefixOf (x :: l)) = _
    simp only [List.isPrefixOf, Bool.and_true, List.head?_cons, Option.some.injEq]
    rw [Bool.eq_iff_iff, decide_eq_true_eq, beq_iff_eq]
    exact eq_comm
theorem cut_tail (s : ByteArray) : cutB 47 (s.extract 1 s.size) = (cutL 47 s.data.toList.tail).map ofL := by
  unfold cutB
  rw [ext_data, List.take_of_length_le (by rw [size_len]; simp), List.drop_one]
theorem cut_sizes (c : UInt8) : ∀ (l x : List UInt8), x ∈ cutL c l → x.length ≤ l.length
  | [], x, h => by simp [cutL] at h; simp [h]
  | y :: l, x, h => by
    have ih := cut_sizes c l
    have hn := cutL_ne c l
    rw [cutL] at h
    split at h
    · rcases List.mem_cons.1 h with rfl | h
      · simp
      · have := ih x h; simp; omega
    · rcases List.mem_cons.1 h with rfl | h
      · have : (cutL c l).headD [] ∈ cutL c l := by
          cases hc : cutL c l with
          | nil => exact absurd hc hn
          | cons a b => simp
        have := ih _ this
        simp only [List.length_cons]; omega
      · have := ih x (List.mem_of_mem_tail h); simp; omega
theorem cutB_sizes (c : UInt8) (s x : ByteArray) (h : x ∈ cutB c s) : x.size ≤ s.size := by
  unfold cutB at h
  obtain ⟨y, hy, rfl⟩ := List.mem_map.1 h
  rw [ofL_size, size_len]
  exact cut_sizes c _ _ hy

set_option maxRecDepth 100000 in
theorem split_bad (a0 : ByteArray) (w : World) (h : 200 < a0.size ∨ a0.data.toList.head? ≠ some 47) :
    Calls Tryz.prog 56 #[.string a0] w fun e w' => ∃ v0_ : Value, e = .returned (.tuple #[v0_, errW (some 2)]) ∧ Kd.R Kd.string 9 w' w.heap.size (fun _ => True) v0_ [] ∧ Below w.heap.size w w' := by
  have HS := Aside0.mk (Tryz.strings_HasPrefix a0 ⟨#[47]⟩ w)
  by_cases h1 : 200 < a0.size
  · clear h
    go_enter Tryz.func56, Tryz.ntmps56
    go_wp2_with fail
    go_ret2
    exact ⟨_, rfl, Kd.R_nil _ _ _ _ _, Below.refl _ _⟩
  · have h2 : decide (a0.data.toList.head? = some 47) = false := by
      rcases h with h | h
      · exact absurd h h1
      · exact decide_eq_false h
    have HS : Aside0 (Calls Tryz.prog 71 #[.string a0, .string ⟨#[47]⟩] w fun e w' => e = .returned (.bool false) ∧ w = w') := ⟨HS.out.mono fun e w' ⟨he, hw⟩ => ⟨by rw [he]; congr 2; exact (hasPrefix_slash _).trans h2, hw.symm⟩⟩
    clear h h2
    go_enter Tryz.func56, Tryz.ntmps56
    go_wp2_with (go_at_call 71; refine HS.out.mono ?_; rintro e w' ⟨rfl, rfl⟩)
    go_ret2
    exact ⟨_, rfl, Kd.R_nil _ _ _ _ _, Below.refl _ _⟩

set_option maxRecDepth 100000 in
theorem split_root (a0 : ByteArray) (w : World) (h1 : ¬ 200 < a0.size) (h : a0.data.toList = [47]) :
    Calls Tryz.prog 56 #[.string a0] w fun e w' => ∃ v0_ : Value, e = .returned (.tuple #[v0_, errW none]) ∧ Kd.R Kd.string 9 w' w.heap.size (fun _ => True) v0_ [] ∧ Below w.heap.size w w' := by
  obtain rfl : a0 = ofL [47] := data_inj (by rw [h, ofL_data])
  clear h h1
  have HS : Aside0 (Calls Tryz.prog 71 #[.string ⟨#[47]⟩, .string ⟨#[47]⟩] w fun e w' => e = .returned (.bool true) ∧ w = w') := ⟨(Tryz.strings_HasPrefix ⟨#[47]⟩ ⟨#[47]⟩ w).mono fun e w' ⟨he, hw⟩ => ⟨he, hw.symm⟩⟩
  show Calls Tryz.prog 56 #[.string ⟨#[47]⟩] w _
  go_enter Tryz.func56, Tryz.ntmps56
  go_wp2_with (go_at_call 71; refine HS.out.mono ?_; rintro e w' ⟨rfl, rfl⟩)
  go_ret2
  exact ⟨_, rfl, Kd.R_nil _ _ _ _ _, Below.refl _ _⟩

set_option maxRecDepth 100000 in
set_option maxHeartbeats 1000000 in
theorem split_rest (a0 : ByteArray) (w : World) (h1 : ¬ 200 < a0.size) (h2 : a0.data.toList.head? = some 47) (h3 : ¬ a0.data.toList = [47]) :
    Calls Tryz.prog 56 #[.string a0] w fun e w' => ∃ v0_ : Value, e = .returned (.tuple #[v0_, errW (restOf ((cutL 47 a0.data.toList.tail).map ofL)).2]) ∧ Kd.R Kd.string 9 w' w.heap.size (fun _ => True) v0_ (restOf ((cutL 47 a0.data.toList.tail).map ofL)).1 ∧ Below w.heap.size w w' := by
  have HS : Aside0 (Calls Tryz.prog 71 #[.string a0, .string ⟨#[47]⟩] w fun e w' => e = .returned (.bool true) ∧ w = w') := ⟨(Tryz.strings_HasPrefix a0 ⟨#[47]⟩ w).mono fun e w' ⟨he, hw⟩ => ⟨by rw [he]; congr 2; exact (hasPrefix_slash _).trans (decide_eq_true h2), hw.symm⟩⟩
  have h3b : (a0.toList == [47]) = false := by rw [toL]; simpa using h3
  have hpos : 1 ≤ a0.size := by
    rw [size_len]
    cases hd : a0.data.toList with
    | nil => rw [hd] at h2; simp at h2
    | cons _ _ => simp
  have hex : (a0.extract 1 a0.size).size ≤ a0.size := by rw [size_len, ext_data, size_len a0]; simp
  have HC := Aside0.mk (split_slash (a0.extract 1 a0.size) w (by omega))
  have HZ : Aside0 (∀ x, x ∈ cutB 47 (a0.extract 1 a0.size) → x.size ≤ 140737488351232) := ⟨fun x hx => by have := cutB_sizes 47 _ x hx; omega⟩
  have HLl : Aside0 ((cutB 47 (a0.extract 1 a0.size)).length ≤ 202) := ⟨by have := cutB_length_le 47 (a0.extract 1 a0.size); omega⟩
  rw [← cut_tail]
  clear h2 h3 hex
  obtain ⟨l, hl⟩ : ∃ l, l = cutB 47 (a0.extract 1 a0.size) := ⟨_, rfl⟩
  rw [← hl] at HC HZ HLl ⊢
  clear hl
  obtain ⟨r, hr⟩ : ∃ r, r = restOf l := ⟨_, rfl⟩
  rw [← hr]
  have HRR := Aside0.mk hr
  clear hr
  have HP1 := Aside0.mk (bad_pred l HZ.out)
  have HP2 := Aside0.mk (long_pred l HZ.out)
  have eb : ∀ args w, (callFunc 74 args).run Tryz.prog w = .ok (.enter 74 args) w := enters_of Tryz.func74 (by kernel_rfl) rfl
  have el : ∀ args w, (callFunc 72 args).run Tryz.prog w = .ok (.enter 72 args) w := enters_of Tryz.func72 (by kernel_rfl) rfl
  have EB := Aside0.mk eb
  have EL := Aside0.mk el
  clear eb el
  go_enter Tryz.func56, Tryz.ntmps56
  go_wp2_with (first | (go_at_call 71; refine HS.out.mono ?_; rintro e w' ⟨rfl, rfl⟩) | (go_at_call 42; fail))
  refine HC.out.mono ?_
  rintro e w1 ⟨v, rfl, HR, HB⟩
  obtain ⟨A1, c1, rfl, hc1, hC⟩ := Kd.R_reads HR
  have HR := Aside0.mk HR
  have HB := Aside0.mk HB
  have hm := HLl.out
  have HK := Aside0.mk (containsFunc_pred A1 c1 l _ _ w1 EB.out hC HP1.out)
  have HCC := Aside0.mk hC
  clear hC hc1
  cases hq1 : l.any (fun x => !nameOk x) with
  | true =>
    rw [hq1] at HK
    have e1 : restOf l = ([], some 2) := by unfold restOf; rw [if_pos hq1]
    have HE := Aside0.mk e1
    clear e1 hq1
    go_wp2_with (go_at_call 73; refine HK.out.mono ?_; rintro e w2 ⟨rfl, HD⟩)
    go_ret2
    rw [HRR.out, HE.out]
    exact ⟨_, rfl, Kd.R_nil _ _ _ _ _, below_then HB.out HB.out.size HD.below⟩
  | false =>
    rw [hq1] at HK
    have HQ1 := Aside0.mk hq1
    clear hq1
    go_wp2_with (go_at_call 73; refine HK.out.mono ?_; rintro e w2 ⟨rfl, HD⟩; fail)
    refine HK.out.mono ?_
    rintro e w2 ⟨rfl, HD⟩
    have HK2 := Aside0.mk (containsFunc_pred A1 c1 l _ _ w2 EL.out (Kd.C_below HCC.out HD.below) HP2.out)
    have HD := Aside0.mk HD
    clear HK
    cases hq2 : l.any (fun x => decide (12 < x.size)) with
    | true =>
      rw [hq2] at HK2
      have e1 : restOf l = ([], some 3) := by unfold restOf; rw [if_neg (by rw [HQ1.out]; simp), if_pos hq2]
      have HE := Aside0.mk e1
      clear e1 hq2
      go_wp2_with (go_at_call 73; refine HK2.out.mono ?_; rintro e w3 ⟨rfl, HD3⟩)
      go_ret2
      rw [HRR.out, HE.out]
      exact ⟨_, rfl, Kd.R_nil _ _ _ _ _, below_then HB.out HB.out.size (drawn_trans HD.out HD3).below⟩
    | false =>
      rw [hq2] at HK2
      have HQ2 := Aside0.mk hq2
      clear hq2
      by_cases h6 : 6 < l.length
      · have e1 : restOf l = ([], some 4) := by unfold restOf; rw [if_neg (by rw [HQ1.out]; simp), if_neg (by rw [HQ2.out]; simp), if_pos h6]
        have HE := Aside0.mk e1
        clear e1
        have hb6 : decide (6 < l.length) = true := decide_eq_true h6
        go_wp2_with (go_at_call 73; refine HK2.out.mono ?_; rintro e w3 ⟨rfl, HD3⟩)
        go_ret2
        rw [HRR.out, HE.out]
        exact ⟨_, rfl, Kd.R_nil _ _ _ _ _, below_then HB.out HB.out.size (drawn_trans HD.out HD3).below⟩
      · have e1 : restOf l = (l, none) := by unfold restOf; rw [if_neg (by rw [HQ1.out]; simp), if_neg (by rw [HQ2.out]; simp), if_neg h6]
        have HE := Aside0.mk e1
        clear e1
        have hb6 : decide (6 < l.length) = false := decide_eq_false h6
        go_wp2_with (go_at_call 73; refine HK2.out.mono ?_; rintro e w3 ⟨rfl, HD3⟩)
        go_ret2
        rw [HRR.out, HE.out]
        exact ⟨_, rfl, Kd.R_below HR.out (drawn_trans HD.out HD3).below, below_then HB.out HB.out.size (drawn_trans HD.out HD3).below⟩

theorem names_Split.calls (a0 : ByteArray) (r1 : List ByteArray) (r2 : Option Int) (w : World) (h : names_Split.f a0 = some (r1, r2)) :
    Calls Tryz.prog 56 #[.string a0] w fun e w' => ∃ v0_ : Value, e = .returned (.tuple #[v0_, errW r2]) ∧ Kd.R Kd.string 9 w' w.heap.size (fun _ => True) v0_ r1 ∧ Below w.heap.size w w' := by
  unfold names_Split.f at h
  by_cases h1 : 200 < a0.size
  · rw [if_pos h1] at h; cases h
    exact split_bad a0 w (.inl h1)
  · rw [if_neg h1] at h
    by_cases h2 : a0.data.toList.head? = some 47
    · rw [if_neg (by simpa using h2)] at h
      by_cases h3 : a0.data.toList = [47]
      · rw [if_pos h3] at h; cases h
        exact split_root a0 w h1 h3
      · rw [if_neg h3] at h
        have e : restOf ((cutL 47 a0.data.toList.tail).map ofL) = (r1, r2) := Option.some.inj h
        have := split_rest a0 w h1 h2 h3
        rw [e] at this
        exact this
    · rw [if_pos h2] at h; cases h
      exact split_bad a0 w (.inr h2)
end Go.Proofs.YtcbmbjapcpbnnaaGreatDoor.G
