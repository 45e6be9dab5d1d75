/- dolmenref26.Op at an operation that has no text: it answers the empty text. -/
import Derived.Test.YtcbmbjapcpbnnaaGreatDoorG0
import Derived.Test.YtcbmbjapcpbnnaaGreatDoorG10
import Derived.Test.YtcbmbjapcpbnnaaGreatDoorG7
import Derived.Test.YtcbmbjapcpbnnaaGreatDoorGvStr
import Derived.Test.YtcbmbjapcpbnnaaGreatDoorGvSplit
namespace Go.Proofs.YtcbmbjapcpbnnaaGreatDoor.G
open Go.RowKit Go.Proofs.YtcbmbjapcpbnnaaGreatDoorW.PrintWords Go.Proofs.YtcbmbjapcpbnnaaGreatDoorW.PrintLast
set_option linter.unusedVariables false
set_option linter.unusedSimpArgs false

def refWords : List ByteArray := (dolmenref26_words.f).getD []
theorem refWords_size (k : Int) (h0 : 0 ≤ k) (h1 : k < ((refWords.length : Nat) : Int)) : (rdOf ByteArray.empty refWords k).size ≤ 8 := by
  have hall : ∀ x, x ∈ refWords → x.size ≤ 8 := by decide
  exact hall _ (rdOf_mem h0 h1)
theorem lit_C (W : World) (l : List Int) (hl : l.length ≤ 1000) : Kd.C (Kd.int .i64) (W.alloc (.cells (l.map (Value.int .i64)).toArray 3)) (some ⟨W.heap.size, 0, none⟩) l.length l := by
  have ho : (W.alloc (.cells (l.map (Value.int .i64)).toArray 3)).ownsRow W.heap.size 3 1 (.slice (some ⟨W.heap.size, 0, none⟩) l.length l.length) l.length (encs (Value.int .i64) l) := by
    simpa [encs] using World.ownsRow_lit (base := W.heap.size) (e := 3) (size := 1) W (l.map (Value.int .i64)).toArray l.length (Nat.le_refl _) (by simp only [maxLen]; omega) (by simp)
  have hR : Kd.R (Kd.int .i64) 3 (W.alloc (.cells (l.map (Value.int .i64)).toArray 3)) W.heap.size (fun _ => True) (.slice (some ⟨W.heap.size, 0, none⟩) l.length l.length) l := Kd.R_of_own ho (fun _ _ => trivial)
  obtain ⟨A, c, h1, _, h3⟩ := Kd.R_reads hR
  injection h1 with h1
  subst h1
  exact h3
theorem near_call1 {x : Int} {b : Bool} (h : dolmenref26_near.f 5 [x] = some b) (W : World) :
    Calls Tryz.prog 38 #[.slice (some ⟨W.heap.size, 0, none⟩) 1 1] (W.alloc (.cells #[.int .i64 x] 3)) fun e w' => e = .returned (.bool b) ∧ Drawn0 (W.alloc (.cells #[.int .i64 x] 3)) w' :=
  dolmenref26_near.calls 5 (some ⟨W.heap.size, 0, none⟩) 1 [x] b _ (lit_C W [x] (by simp)) (by simp) h
theorem near_call2 {x y : Int} {b : Bool} (h : dolmenref26_near.f 5 [x, y] = some b) (W : World) :
    Calls Tryz.prog 38 #[.slice (some ⟨W.heap.size, 0, none⟩) 2 2] (W.alloc (.cells #[.int .i64 x, .int .i64 y] 3)) fun e w' => e = .returned (.bool b) ∧ Drawn0 (W.alloc (.cells #[.int .i64 x, .int .i64 y] 3)) w' :=
  dolmenref26_near.calls 5 (some ⟨W.heap.size, 0, none⟩) 2 [x, y] b _ (lit_C W [x, y] (by simp)) (by simp) h
set_option maxRecDepth 100000 in
set_option maxHeartbeats 1000000 in
theorem refop_low (kind : Int) (path to_ : ByteArray) (off n : Int) (A5 : Option Addr) (c5 : Nat) (l5 : List Int) (snap : Int) (w : World)
    (hk_ : kind < 1) :
    Calls Tryz.prog 12 #[.agg #[.int .i64 kind, .string path, .string to_, .int .i64 off, .int .i64 n, .slice A5 l5.length c5, .int .i64 snap]] w fun e w' => e = .returned (.string ⟨#[]⟩) ∧ Below w.heap.size w w' := by
  try clear hk
  have HB := Aside0.mk (Below.refl w.heap.size w)
  go_enter Tryz.func12, Tryz.ntmps12
  go_wp2_with (((with_reducible refine gate_dst (N := 1) rfl ?_); refine box_event ?hg (N := 1) ?hd (cs := #[.int .i64 kind, .string path, .string to_, .int .i64 off, .int .i64 n, .slice A5 l5.length c5, .int .i64 snap]) (t := 24) ?hr ?_; (case hd => rfl); (case hg => rfl); (case hr => first | (go_simp; done) | (go_simp; rfl)); intro gb hg w1 hbox hb; have n0_ := Aside0.mk (below_step (by repeat (first | (with_reducible first | exact HB.out | apply below_alloc | apply pw_below_drewN | apply below_drew1) | exact HB.out)) hb); have BK := Aside0.mk hbox; clear HB; have HB := n0_; clear n0_; have hz0 := (blk_cell BK.out 0).trans (show _ = some (.int .i64 kind : Value) from rfl); have hz1 := (blk_cell BK.out 1).trans (show _ = some (.string path : Value) from rfl); have hz2 := (blk_cell BK.out 2).trans (show _ = some (.string to_ : Value) from rfl); have hz3 := (blk_cell BK.out 3).trans (show _ = some (.int .i64 off : Value) from rfl); have hz4 := (blk_cell BK.out 4).trans (show _ = some (.int .i64 n : Value) from rfl); have hz5 := (blk_cell BK.out 5).trans (show _ = some (.slice A5 l5.length c5 : Value) from rfl); have hz6 := (blk_cell BK.out 6).trans (show _ = some (.int .i64 snap : Value) from rfl); clear hb hbox hg))
  go_ret
  exact ⟨rfl, (by repeat (first | (with_reducible first | exact HB.out | apply below_alloc | apply pw_below_drewN | apply below_drew1) | exact HB.out))⟩

set_option maxRecDepth 100000 in
set_option maxHeartbeats 1000000 in
theorem refop_high (kind : Int) (path to_ : ByteArray) (off n : Int) (A5 : Option Addr) (c5 : Nat) (l5 : List Int) (snap : Int) (w : World)
    (hk_ : 14 < kind) :
    Calls Tryz.prog 12 #[.agg #[.int .i64 kind, .string path, .string to_, .int .i64 off, .int .i64 n, .slice A5 l5.length c5, .int .i64 snap]] w fun e w' => e = .returned (.string ⟨#[]⟩) ∧ Below w.heap.size w w' := by
  try clear hk
  have HB := Aside0.mk (Below.refl w.heap.size w)
  go_enter Tryz.func12, Tryz.ntmps12
  go_wp2_with (((with_reducible refine gate_dst (N := 1) rfl ?_); refine box_event ?hg (N := 1) ?hd (cs := #[.int .i64 kind, .string path, .string to_, .int .i64 off, .int .i64 n, .slice A5 l5.length c5, .int .i64 snap]) (t := 24) ?hr ?_; (case hd => rfl); (case hg => rfl); (case hr => first | (go_simp; done) | (go_simp; rfl)); intro gb hg w1 hbox hb; have n0_ := Aside0.mk (below_step (by repeat (first | (with_reducible first | exact HB.out | apply below_alloc | apply pw_below_drewN | apply below_drew1) | exact HB.out)) hb); have BK := Aside0.mk hbox; clear HB; have HB := n0_; clear n0_; have hz0 := (blk_cell BK.out 0).trans (show _ = some (.int .i64 kind : Value) from rfl); have hz1 := (blk_cell BK.out 1).trans (show _ = some (.string path : Value) from rfl); have hz2 := (blk_cell BK.out 2).trans (show _ = some (.string to_ : Value) from rfl); have hz3 := (blk_cell BK.out 3).trans (show _ = some (.int .i64 off : Value) from rfl); have hz4 := (blk_cell BK.out 4).trans (show _ = some (.int .i64 n : Value) from rfl); have hz5 := (blk_cell BK.out 5).trans (show _ = some (.slice A5 l5.length c5 : Value) from rfl); have hz6 := (blk_cell BK.out 6).trans (show _ = some (.int .i64 snap : Value) from rfl); clear hb hbox hg))
  go_ret
  exact ⟨rfl, (by repeat (first | (with_reducible first | exact HB.out | apply below_alloc | apply pw_below_drewN | apply below_drew1) | exact HB.out))⟩

set_option maxRecDepth 100000 in
set_option maxHeartbeats 1000000 in
theorem refop_unsnap (kind : Int) (path to_ : ByteArray) (off n : Int) (A5 : Option Addr) (c5 : Nat) (l5 : List Int) (snap : Int) (w : World)
    (hk : kind = 13) (hn : dolmenref26_near.f 5 [snap] = some false) :
    Calls Tryz.prog 12 #[.agg #[.int .i64 kind, .string path, .string to_, .int .i64 off, .int .i64 n, .slice A5 l5.length c5, .int .i64 snap]] w fun e w' => e = .returned (.string ⟨#[]⟩) ∧ Below w.heap.size w w' := by
  have hk0 : 0 ≤ kind := by omega
  have hk1 : kind < ((refWords.length : Nat) : Int) := by show kind < 15; omega
  have hk15 : kind < 15 := by omega
  have hkl : (kind < 1) = False := by simp; omega
  have hkh : (14 < kind) = False := by simp; omega
  have e12 : (kind == 12) = false := by rw [beq_eq_false_iff_ne]; omega
  have e14 : (kind == 14) = false := by rw [beq_eq_false_iff_ne]; omega
  have e13 : (kind == 13) = true := by rw [beq_iff_eq]; exact hk
  try clear hk
  have HB := Aside0.mk (Below.refl w.heap.size w)
  go_enter Tryz.func12, Tryz.ntmps12
  go_wp2_with (((with_reducible refine gate_dst (N := 1) rfl ?_); refine box_event ?hg (N := 1) ?hd (cs := #[.int .i64 kind, .string path, .string to_, .int .i64 off, .int .i64 n, .slice A5 l5.length c5, .int .i64 snap]) (t := 24) ?hr ?_; (case hd => rfl); (case hg => rfl); (case hr => first | (go_simp; done) | (go_simp; rfl)); intro gb hg w1 hbox hb; have n0_ := Aside0.mk (below_step (by repeat (first | (with_reducible first | exact HB.out | apply below_alloc | apply pw_below_drewN | apply below_drew1) | exact HB.out)) hb); have BK := Aside0.mk hbox; clear HB; have HB := n0_; clear n0_; have hz0 := (blk_cell BK.out 0).trans (show _ = some (.int .i64 kind : Value) from rfl); have hz1 := (blk_cell BK.out 1).trans (show _ = some (.string path : Value) from rfl); have hz2 := (blk_cell BK.out 2).trans (show _ = some (.string to_ : Value) from rfl); have hz3 := (blk_cell BK.out 3).trans (show _ = some (.int .i64 off : Value) from rfl); have hz4 := (blk_cell BK.out 4).trans (show _ = some (.int .i64 n : Value) from rfl); have hz5 := (blk_cell BK.out 5).trans (show _ = some (.slice A5 l5.length c5 : Value) from rfl); have hz6 := (blk_cell BK.out 6).trans (show _ = some (.int .i64 snap : Value) from rfl); clear hb hbox hg))
  go_region_with (go_at_call 37; refine (dolmenref26_words.calls refWords _ rfl).mono ?_; rintro e w2 ⟨v2, rfl, hR, hb⟩; have n0_ := Aside0.mk (below_step (by repeat (first | (with_reducible first | exact HB.out | apply below_alloc | apply pw_below_drewN | apply below_drew1) | exact HB.out)) hb); have n1_ := Aside0.mk (blk_below (g := gb) (o := .cells #[.int .i64 kind, .string path, .string to_, .int .i64 off, .int .i64 n, .slice A5 l5.length c5, .int .i64 snap] 24 (0, 0)) (by first | exact BK.out | exact blk_drew BK.out | exact blk_alloc BK.out _ | exact blk_drewN BK.out _) hb); clear HB BK; have HB := n0_; have BK := n1_; clear n0_ n1_ hb; have hz0 := (blk_cell BK.out 0).trans (show _ = some (.int .i64 kind : Value) from rfl); have hz1 := (blk_cell BK.out 1).trans (show _ = some (.string path : Value) from rfl); have hz2 := (blk_cell BK.out 2).trans (show _ = some (.string to_ : Value) from rfl); have hz3 := (blk_cell BK.out 3).trans (show _ = some (.int .i64 off : Value) from rfl); have hz4 := (blk_cell BK.out 4).trans (show _ = some (.int .i64 n : Value) from rfl); have hz5 := (blk_cell BK.out 5).trans (show _ = some (.slice A5 l5.length c5 : Value) from rfl); have hz6 := (blk_cell BK.out 6).trans (show _ = some (.int .i64 snap : Value) from rfl); obtain ⟨A2, c2, hv2, hc2, hC2⟩ := Kd.R_reads hR; have hv3 : v2 = .slice A2 15 c2 := hv2; subst hv3; obtain ⟨ad, e2, hx⟩ := Kd.at_string hC2 kind hk0 hk1; subst e2; obtain ⟨s, hs⟩ : ∃ s, s = rdOf ByteArray.empty refWords kind := ⟨_, rfl⟩; rw [← hs] at hx; have hsz : s.size ≤ 8 := (by rw [hs]; exact refWords_size _ hk0 hk1); clear hs hR hC2 hv2 hc2)
  all_goals (go_wp2_with (first | (go_at_call_of 38 (1 : Nat); refine (near_call1 hn _).mono ?_; rintro e wn27 ⟨rfl, hd_⟩; have n0_ := Aside0.mk (below_step (below_alloc HB.out _) hd_.below); have n1_ := Aside0.mk (blk_below (blk_alloc BK.out _) hd_.below); clear HB BK hd_; have HB := n0_; have BK := n1_; clear n0_ n1_; have hz0 := (blk_cell BK.out 0).trans (show _ = some (.int .i64 kind : Value) from rfl); have hz1 := (blk_cell BK.out 1).trans (show _ = some (.string path : Value) from rfl); have hz2 := (blk_cell BK.out 2).trans (show _ = some (.string to_ : Value) from rfl); have hz3 := (blk_cell BK.out 3).trans (show _ = some (.int .i64 off : Value) from rfl); have hz4 := (blk_cell BK.out 4).trans (show _ = some (.int .i64 n : Value) from rfl); have hz5 := (blk_cell BK.out 5).trans (show _ = some (.slice A5 l5.length c5 : Value) from rfl); have hz6 := (blk_cell BK.out 6).trans (show _ = some (.int .i64 snap : Value) from rfl); skip)))
  all_goals go_ret
  all_goals exact ⟨rfl, (by repeat (first | (with_reducible first | exact HB.out | apply below_alloc | apply pw_below_drewN | apply below_drew1) | exact HB.out))⟩

set_option maxRecDepth 100000 in
set_option maxHeartbeats 1000000 in
theorem refop_path (kind : Int) (path to_ : ByteArray) (off n : Int) (A5 : Option Addr) (c5 : Nat) (l5 : List Int) (snap : Int) (w : World)
    (hk : 1 ≤ kind ∧ kind ≤ 11) (hg : dolmenref26_good.f 300001 path = some false) :
    Calls Tryz.prog 12 #[.agg #[.int .i64 kind, .string path, .string to_, .int .i64 off, .int .i64 n, .slice A5 l5.length c5, .int .i64 snap]] w fun e w' => e = .returned (.string ⟨#[]⟩) ∧ Below w.heap.size w w' := by
  have hk0 : 0 ≤ kind := by omega
  have hk1 : kind < ((refWords.length : Nat) : Int) := by show kind < 15; omega
  have hk15 : kind < 15 := by omega
  have hkl : (kind < 1) = False := by simp; omega
  have hkh : (14 < kind) = False := by simp; omega
  have e12 : (kind == 12) = false := by rw [beq_eq_false_iff_ne]; omega
  have e14 : (kind == 14) = false := by rw [beq_eq_false_iff_ne]; omega
  have e13 : (kind == 13) = false := by rw [beq_eq_false_iff_ne]; omega
  try clear hk
  have HB := Aside0.mk (Below.refl w.heap.size w)
  go_enter Tryz.func12, Tryz.ntmps12
  go_wp2_with (((with_reducible refine gate_dst (N := 1) rfl ?_); refine box_event ?hg (N := 1) ?hd (cs := #[.int .i64 kind, .string path, .string to_, .int .i64 off, .int .i64 n, .slice A5 l5.length c5, .int .i64 snap]) (t := 24) ?hr ?_; (case hd => rfl); (case hg => rfl); (case hr => first | (go_simp; done) | (go_simp; rfl)); intro gb hg w1 hbox hb; have n0_ := Aside0.mk (below_step (by repeat (first | (with_reducible first | exact HB.out | apply below_alloc | apply pw_below_drewN | apply below_drew1) | exact HB.out)) hb); have BK := Aside0.mk hbox; clear HB; have HB := n0_; clear n0_; have hz0 := (blk_cell BK.out 0).trans (show _ = some (.int .i64 kind : Value) from rfl); have hz1 := (blk_cell BK.out 1).trans (show _ = some (.string path : Value) from rfl); have hz2 := (blk_cell BK.out 2).trans (show _ = some (.string to_ : Value) from rfl); have hz3 := (blk_cell BK.out 3).trans (show _ = some (.int .i64 off : Value) from rfl); have hz4 := (blk_cell BK.out 4).trans (show _ = some (.int .i64 n : Value) from rfl); have hz5 := (blk_cell BK.out 5).trans (show _ = some (.slice A5 l5.length c5 : Value) from rfl); have hz6 := (blk_cell BK.out 6).trans (show _ = some (.int .i64 snap : Value) from rfl); clear hb hbox hg))
  go_region_with (go_at_call 37; refine (dolmenref26_words.calls refWords _ rfl).mono ?_; rintro e w2 ⟨v2, rfl, hR, hb⟩; have n0_ := Aside0.mk (below_step (by repeat (first | (with_reducible first | exact HB.out | apply below_alloc | apply pw_below_drewN | apply below_drew1) | exact HB.out)) hb); have n1_ := Aside0.mk (blk_below (g := gb) (o := .cells #[.int .i64 kind, .string path, .string to_, .int .i64 off, .int .i64 n, .slice A5 l5.length c5, .int .i64 snap] 24 (0, 0)) (by first | exact BK.out | exact blk_drew BK.out | exact blk_alloc BK.out _ | exact blk_drewN BK.out _) hb); clear HB BK; have HB := n0_; have BK := n1_; clear n0_ n1_ hb; have hz0 := (blk_cell BK.out 0).trans (show _ = some (.int .i64 kind : Value) from rfl); have hz1 := (blk_cell BK.out 1).trans (show _ = some (.string path : Value) from rfl); have hz2 := (blk_cell BK.out 2).trans (show _ = some (.string to_ : Value) from rfl); have hz3 := (blk_cell BK.out 3).trans (show _ = some (.int .i64 off : Value) from rfl); have hz4 := (blk_cell BK.out 4).trans (show _ = some (.int .i64 n : Value) from rfl); have hz5 := (blk_cell BK.out 5).trans (show _ = some (.slice A5 l5.length c5 : Value) from rfl); have hz6 := (blk_cell BK.out 6).trans (show _ = some (.int .i64 snap : Value) from rfl); obtain ⟨A2, c2, hv2, hc2, hC2⟩ := Kd.R_reads hR; have hv3 : v2 = .slice A2 15 c2 := hv2; subst hv3; obtain ⟨ad, e2, hx⟩ := Kd.at_string hC2 kind hk0 hk1; subst e2; obtain ⟨s, hs⟩ : ∃ s, s = rdOf ByteArray.empty refWords kind := ⟨_, rfl⟩; rw [← hs] at hx; have hsz : s.size ≤ 8 := (by rw [hs]; exact refWords_size _ hk0 hk1); clear hs hR hC2 hv2 hc2)
  all_goals (go_wp2_with (first | (go_at_call 40; refine (dolmenref26_good.calls 300001 path false _ hg).mono ?_; rintro e wg ⟨rfl, hb⟩; have n0_ := Aside0.mk (below_step (by repeat (first | (with_reducible first | exact HB.out | apply below_alloc | apply pw_below_drewN | apply below_drew1) | exact HB.out)) hb); have n1_ := Aside0.mk (blk_below (g := gb) (o := .cells #[.int .i64 kind, .string path, .string to_, .int .i64 off, .int .i64 n, .slice A5 l5.length c5, .int .i64 snap] 24 (0, 0)) (by first | exact BK.out | exact blk_drew BK.out | exact blk_alloc BK.out _ | exact blk_drewN BK.out _) hb); clear HB BK; have HB := n0_; have BK := n1_; clear n0_ n1_ hb; have hz0 := (blk_cell BK.out 0).trans (show _ = some (.int .i64 kind : Value) from rfl); have hz1 := (blk_cell BK.out 1).trans (show _ = some (.string path : Value) from rfl); have hz2 := (blk_cell BK.out 2).trans (show _ = some (.string to_ : Value) from rfl); have hz3 := (blk_cell BK.out 3).trans (show _ = some (.int .i64 off : Value) from rfl); have hz4 := (blk_cell BK.out 4).trans (show _ = some (.int .i64 n : Value) from rfl); have hz5 := (blk_cell BK.out 5).trans (show _ = some (.slice A5 l5.length c5 : Value) from rfl); have hz6 := (blk_cell BK.out 6).trans (show _ = some (.int .i64 snap : Value) from rfl); skip)))
  all_goals go_ret
  all_goals exact ⟨rfl, (by repeat (first | (with_reducible first | exact HB.out | apply below_alloc | apply pw_below_drewN | apply below_drew1) | exact HB.out))⟩

set_option maxRecDepth 100000 in
set_option maxHeartbeats 1000000 in
theorem refop_neg (kind : Int) (path to_ : ByteArray) (off n : Int) (A5 : Option Addr) (c5 : Nat) (l5 : List Int) (snap : Int) (w : World)
    (hk : 1 ≤ kind ∧ kind ≤ 11) (hg : dolmenref26_good.f 300001 path = some true) (hs0 : snap < 0) :
    Calls Tryz.prog 12 #[.agg #[.int .i64 kind, .string path, .string to_, .int .i64 off, .int .i64 n, .slice A5 l5.length c5, .int .i64 snap]] w fun e w' => e = .returned (.string ⟨#[]⟩) ∧ Below w.heap.size w w' := by
  have hk0 : 0 ≤ kind := by omega
  have hk1 : kind < ((refWords.length : Nat) : Int) := by show kind < 15; omega
  have hk15 : kind < 15 := by omega
  have hkl : (kind < 1) = False := by simp; omega
  have hkh : (14 < kind) = False := by simp; omega
  have e12 : (kind == 12) = false := by rw [beq_eq_false_iff_ne]; omega
  have e14 : (kind == 14) = false := by rw [beq_eq_false_iff_ne]; omega
  have e13 : (kind == 13) = false := by rw [beq_eq_false_iff_ne]; omega
  try clear hk
  have HB := Aside0.mk (Below.refl w.heap.size w)
  go_enter Tryz.func12, Tryz.ntmps12
  go_wp2_with (((with_reducible refine gate_dst (N := 1) rfl ?_); refine box_event ?hg (N := 1) ?hd (cs := #[.int .i64 kind, .string path, .string to_, .int .i64 off, .int .i64 n, .slice A5 l5.length c5, .int .i64 snap]) (t := 24) ?hr ?_; (case hd => rfl); (case hg => rfl); (case hr => first | (go_simp; done) | (go_simp; rfl)); intro gb hg w1 hbox hb; have n0_ := Aside0.mk (below_step (by repeat (first | (with_reducible first | exact HB.out | apply below_alloc | apply pw_below_drewN | apply below_drew1) | exact HB.out)) hb); have BK := Aside0.mk hbox; clear HB; have HB := n0_; clear n0_; have hz0 := (blk_cell BK.out 0).trans (show _ = some (.int .i64 kind : Value) from rfl); have hz1 := (blk_cell BK.out 1).trans (show _ = some (.string path : Value) from rfl); have hz2 := (blk_cell BK.out 2).trans (show _ = some (.string to_ : Value) from rfl); have hz3 := (blk_cell BK.out 3).trans (show _ = some (.int .i64 off : Value) from rfl); have hz4 := (blk_cell BK.out 4).trans (show _ = some (.int .i64 n : Value) from rfl); have hz5 := (blk_cell BK.out 5).trans (show _ = some (.slice A5 l5.length c5 : Value) from rfl); have hz6 := (blk_cell BK.out 6).trans (show _ = some (.int .i64 snap : Value) from rfl); clear hb hbox hg))
  go_region_with (go_at_call 37; refine (dolmenref26_words.calls refWords _ rfl).mono ?_; rintro e w2 ⟨v2, rfl, hR, hb⟩; have n0_ := Aside0.mk (below_step (by repeat (first | (with_reducible first | exact HB.out | apply below_alloc | apply pw_below_drewN | apply below_drew1) | exact HB.out)) hb); have n1_ := Aside0.mk (blk_below (g := gb) (o := .cells #[.int .i64 kind, .string path, .string to_, .int .i64 off, .int .i64 n, .slice A5 l5.length c5, .int .i64 snap] 24 (0, 0)) (by first | exact BK.out | exact blk_drew BK.out | exact blk_alloc BK.out _ | exact blk_drewN BK.out _) hb); clear HB BK; have HB := n0_; have BK := n1_; clear n0_ n1_ hb; have hz0 := (blk_cell BK.out 0).trans (show _ = some (.int .i64 kind : Value) from rfl); have hz1 := (blk_cell BK.out 1).trans (show _ = some (.string path : Value) from rfl); have hz2 := (blk_cell BK.out 2).trans (show _ = some (.string to_ : Value) from rfl); have hz3 := (blk_cell BK.out 3).trans (show _ = some (.int .i64 off : Value) from rfl); have hz4 := (blk_cell BK.out 4).trans (show _ = some (.int .i64 n : Value) from rfl); have hz5 := (blk_cell BK.out 5).trans (show _ = some (.slice A5 l5.length c5 : Value) from rfl); have hz6 := (blk_cell BK.out 6).trans (show _ = some (.int .i64 snap : Value) from rfl); obtain ⟨A2, c2, hv2, hc2, hC2⟩ := Kd.R_reads hR; have hv3 : v2 = .slice A2 15 c2 := hv2; subst hv3; obtain ⟨ad, e2, hx⟩ := Kd.at_string hC2 kind hk0 hk1; subst e2; obtain ⟨s, hs⟩ : ∃ s, s = rdOf ByteArray.empty refWords kind := ⟨_, rfl⟩; rw [← hs] at hx; have hsz : s.size ≤ 8 := (by rw [hs]; exact refWords_size _ hk0 hk1); clear hs hR hC2 hv2 hc2)
  all_goals (go_wp2_with (first | (go_at_call 40; refine (dolmenref26_good.calls 300001 path true _ hg).mono ?_; rintro e wg ⟨rfl, hb⟩; have n0_ := Aside0.mk (below_step (by repeat (first | (with_reducible first | exact HB.out | apply below_alloc | apply pw_below_drewN | apply below_drew1) | exact HB.out)) hb); have n1_ := Aside0.mk (blk_below (g := gb) (o := .cells #[.int .i64 kind, .string path, .string to_, .int .i64 off, .int .i64 n, .slice A5 l5.length c5, .int .i64 snap] 24 (0, 0)) (by first | exact BK.out | exact blk_drew BK.out | exact blk_alloc BK.out _ | exact blk_drewN BK.out _) hb); clear HB BK; have HB := n0_; have BK := n1_; clear n0_ n1_ hb; have hz0 := (blk_cell BK.out 0).trans (show _ = some (.int .i64 kind : Value) from rfl); have hz1 := (blk_cell BK.out 1).trans (show _ = some (.string path : Value) from rfl); have hz2 := (blk_cell BK.out 2).trans (show _ = some (.string to_ : Value) from rfl); have hz3 := (blk_cell BK.out 3).trans (show _ = some (.int .i64 off : Value) from rfl); have hz4 := (blk_cell BK.out 4).trans (show _ = some (.int .i64 n : Value) from rfl); have hz5 := (blk_cell BK.out 5).trans (show _ = some (.slice A5 l5.length c5 : Value) from rfl); have hz6 := (blk_cell BK.out 6).trans (show _ = some (.int .i64 snap : Value) from rfl); skip)))
  all_goals go_ret
  all_goals exact ⟨rfl, (by repeat (first | (with_reducible first | exact HB.out | apply below_alloc | apply pw_below_drewN | apply below_drew1) | exact HB.out))⟩

set_option maxRecDepth 100000 in
set_option maxHeartbeats 1000000 in
theorem refop_snap (kind : Int) (path to_ : ByteArray) (off n : Int) (A5 : Option Addr) (c5 : Nat) (l5 : List Int) (snap : Int) (w : World)
    (hk : 1 ≤ kind ∧ kind ≤ 11) (hg : dolmenref26_good.f 300001 path = some true) (hs0 : 0 ≤ snap) (hn : dolmenref26_near.f 5 [snap] = some false) :
    Calls Tryz.prog 12 #[.agg #[.int .i64 kind, .string path, .string to_, .int .i64 off, .int .i64 n, .slice A5 l5.length c5, .int .i64 snap]] w fun e w' => e = .returned (.string ⟨#[]⟩) ∧ Below w.heap.size w w' := by
  have hk0 : 0 ≤ kind := by omega
  have hk1 : kind < ((refWords.length : Nat) : Int) := by show kind < 15; omega
  have hk15 : kind < 15 := by omega
  have hkl : (kind < 1) = False := by simp; omega
  have hkh : (14 < kind) = False := by simp; omega
  have e12 : (kind == 12) = false := by rw [beq_eq_false_iff_ne]; omega
  have e14 : (kind == 14) = false := by rw [beq_eq_false_iff_ne]; omega
  have e13 : (kind == 13) = false := by rw [beq_eq_false_iff_ne]; omega
  try clear hk
  have HB := Aside0.mk (Below.refl w.heap.size w)
  go_enter Tryz.func12, Tryz.ntmps12
  go_wp2_with (((with_reducible refine gate_dst (N := 1) rfl ?_); refine box_event ?hg (N := 1) ?hd (cs := #[.int .i64 kind, .string path, .string to_, .int .i64 off, .int .i64 n, .slice A5 l5.length c5, .int .i64 snap]) (t := 24) ?hr ?_; (case hd => rfl); (case hg => rfl); (case hr => first | (go_simp; done) | (go_simp; rfl)); intro gb hg w1 hbox hb; have n0_ := Aside0.mk (below_step (by repeat (first | (with_reducible first | exact HB.out | apply below_alloc | apply pw_below_drewN | apply below_drew1) | exact HB.out)) hb); have BK := Aside0.mk hbox; clear HB; have HB := n0_; clear n0_; have hz0 := (blk_cell BK.out 0).trans (show _ = some (.int .i64 kind : Value) from rfl); have hz1 := (blk_cell BK.out 1).trans (show _ = some (.string path : Value) from rfl); have hz2 := (blk_cell BK.out 2).trans (show _ = some (.string to_ : Value) from rfl); have hz3 := (blk_cell BK.out 3).trans (show _ = some (.int .i64 off : Value) from rfl); have hz4 := (blk_cell BK.out 4).trans (show _ = some (.int .i64 n : Value) from rfl); have hz5 := (blk_cell BK.out 5).trans (show _ = some (.slice A5 l5.length c5 : Value) from rfl); have hz6 := (blk_cell BK.out 6).trans (show _ = some (.int .i64 snap : Value) from rfl); clear hb hbox hg))
  go_region_with (go_at_call 37; refine (dolmenref26_words.calls refWords _ rfl).mono ?_; rintro e w2 ⟨v2, rfl, hR, hb⟩; have n0_ := Aside0.mk (below_step (by repeat (first | (with_reducible first | exact HB.out | apply below_alloc | apply pw_below_drewN | apply below_drew1) | exact HB.out)) hb); have n1_ := Aside0.mk (blk_below (g := gb) (o := .cells #[.int .i64 kind, .string path, .string to_, .int .i64 off, .int .i64 n, .slice A5 l5.length c5, .int .i64 snap] 24 (0, 0)) (by first | exact BK.out | exact blk_drew BK.out | exact blk_alloc BK.out _ | exact blk_drewN BK.out _) hb); clear HB BK; have HB := n0_; have BK := n1_; clear n0_ n1_ hb; have hz0 := (blk_cell BK.out 0).trans (show _ = some (.int .i64 kind : Value) from rfl); have hz1 := (blk_cell BK.out 1).trans (show _ = some (.string path : Value) from rfl); have hz2 := (blk_cell BK.out 2).trans (show _ = some (.string to_ : Value) from rfl); have hz3 := (blk_cell BK.out 3).trans (show _ = some (.int .i64 off : Value) from rfl); have hz4 := (blk_cell BK.out 4).trans (show _ = some (.int .i64 n : Value) from rfl); have hz5 := (blk_cell BK.out 5).trans (show _ = some (.slice A5 l5.length c5 : Value) from rfl); have hz6 := (blk_cell BK.out 6).trans (show _ = some (.int .i64 snap : Value) from rfl); obtain ⟨A2, c2, hv2, hc2, hC2⟩ := Kd.R_reads hR; have hv3 : v2 = .slice A2 15 c2 := hv2; subst hv3; obtain ⟨ad, e2, hx⟩ := Kd.at_string hC2 kind hk0 hk1; subst e2; obtain ⟨s, hs⟩ : ∃ s, s = rdOf ByteArray.empty refWords kind := ⟨_, rfl⟩; rw [← hs] at hx; have hsz : s.size ≤ 8 := (by rw [hs]; exact refWords_size _ hk0 hk1); clear hs hR hC2 hv2 hc2)
  all_goals (go_wp2_with (first | (go_at_call 40; refine (dolmenref26_good.calls 300001 path true _ hg).mono ?_; rintro e wg ⟨rfl, hb⟩; have n0_ := Aside0.mk (below_step (by repeat (first | (with_reducible first | exact HB.out | apply below_alloc | apply pw_below_drewN | apply below_drew1) | exact HB.out)) hb); have n1_ := Aside0.mk (blk_below (g := gb) (o := .cells #[.int .i64 kind, .string path, .string to_, .int .i64 off, .int .i64 n, .slice A5 l5.length c5, .int .i64 snap] 24 (0, 0)) (by first | exact BK.out | exact blk_drew BK.out | exact blk_alloc BK.out _ | exact blk_drewN BK.out _) hb); clear HB BK; have HB := n0_; have BK := n1_; clear n0_ n1_ hb; have hz0 := (blk_cell BK.out 0).trans (show _ = some (.int .i64 kind : Value) from rfl); have hz1 := (blk_cell BK.out 1).trans (show _ = some (.string path : Value) from rfl); have hz2 := (blk_cell BK.out 2).trans (show _ = some (.string to_ : Value) from rfl); have hz3 := (blk_cell BK.out 3).trans (show _ = some (.int .i64 off : Value) from rfl); have hz4 := (blk_cell BK.out 4).trans (show _ = some (.int .i64 n : Value) from rfl); have hz5 := (blk_cell BK.out 5).trans (show _ = some (.slice A5 l5.length c5 : Value) from rfl); have hz6 := (blk_cell BK.out 6).trans (show _ = some (.int .i64 snap : Value) from rfl); skip) | (go_at_call_of 38 (1 : Nat); refine (near_call1 hn _).mono ?_; rintro e wn48 ⟨rfl, hd_⟩; have n0_ := Aside0.mk (below_step (below_alloc HB.out _) hd_.below); have n1_ := Aside0.mk (blk_below (blk_alloc BK.out _) hd_.below); clear HB BK hd_; have HB := n0_; have BK := n1_; clear n0_ n1_; have hz0 := (blk_cell BK.out 0).trans (show _ = some (.int .i64 kind : Value) from rfl); have hz1 := (blk_cell BK.out 1).trans (show _ = some (.string path : Value) from rfl); have hz2 := (blk_cell BK.out 2).trans (show _ = some (.string to_ : Value) from rfl); have hz3 := (blk_cell BK.out 3).trans (show _ = some (.int .i64 off : Value) from rfl); have hz4 := (blk_cell BK.out 4).trans (show _ = some (.int .i64 n : Value) from rfl); have hz5 := (blk_cell BK.out 5).trans (show _ = some (.slice A5 l5.length c5 : Value) from rfl); have hz6 := (blk_cell BK.out 6).trans (show _ = some (.int .i64 snap : Value) from rfl); skip)))
  all_goals go_ret
  all_goals exact ⟨rfl, (by repeat (first | (with_reducible first | exact HB.out | apply below_alloc | apply pw_below_drewN | apply below_drew1) | exact HB.out))⟩

set_option maxRecDepth 100000 in
set_option maxHeartbeats 1000000 in
theorem refop_to5 (kind : Int) (path to_ : ByteArray) (off n : Int) (A5 : Option Addr) (c5 : Nat) (l5 : List Int) (snap : Int) (w : World)
    (hk : kind = 5) (hg : dolmenref26_good.f 300001 path = some true) (hpz : path.size ≤ 200) (hs0 : 0 ≤ snap) (hn : dolmenref26_near.f 5 [snap] = some true) (ht : dolmenref26_good.f 300001 to_ = some false) :
    Calls Tryz.prog 12 #[.agg #[.int .i64 kind, .string path, .string to_, .int .i64 off, .int .i64 n, .slice A5 l5.length c5, .int .i64 snap]] w fun e w' => e = .returned (.string ⟨#[]⟩) ∧ Below w.heap.size w w' := by
  have hk0 : 0 ≤ kind := by omega
  have hk1 : kind < ((refWords.length : Nat) : Int) := by show kind < 15; omega
  have hk15 : kind < 15 := by omega
  have hkl : (kind < 1) = False := by simp; omega
  have hkh : (14 < kind) = False := by simp; omega
  have e12 : (kind == 12) = false := by rw [beq_eq_false_iff_ne]; omega
  have e14 : (kind == 14) = false := by rw [beq_eq_false_iff_ne]; omega
  have e13 : (kind == 13) = false := by rw [beq_eq_false_iff_ne]; omega
  have e5 : (kind == 5) = true := by rw [beq_iff_eq]; exact hk
  have e6 : (kind == 6) = false := by rw [beq_eq_false_iff_ne]; omega
  have e7 : (kind == 7) = false := by rw [beq_eq_false_iff_ne]; omega
  have e8 : (kind == 8) = false := by rw [beq_eq_false_iff_ne]; omega
  have e9 : (kind == 9) = false := by rw [beq_eq_false_iff_ne]; omega
  try clear hk
  have HB := Aside0.mk (Below.refl w.heap.size w)
  go_enter Tryz.func12, Tryz.ntmps12
  go_wp2_with (((with_reducible refine gate_dst (N := 1) rfl ?_); refine box_event ?hg (N := 1) ?hd (cs := #[.int .i64 kind, .string path, .string to_, .int .i64 off, .int .i64 n, .slice A5 l5.length c5, .int .i64 snap]) (t := 24) ?hr ?_; (case hd => rfl); (case hg => rfl); (case hr => first | (go_simp; done) | (go_simp; rfl)); intro gb hg w1 hbox hb; have n0_ := Aside0.mk (below_step (by repeat (first | (with_reducible first | exact HB.out | apply below_alloc | apply pw_below_drewN | apply below_drew1) | exact HB.out)) hb); have BK := Aside0.mk hbox; clear HB; have HB := n0_; clear n0_; have hz0 := (blk_cell BK.out 0).trans (show _ = some (.int .i64 kind : Value) from rfl); have hz1 := (blk_cell BK.out 1).trans (show _ = some (.string path : Value) from rfl); have hz2 := (blk_cell BK.out 2).trans (show _ = some (.string to_ : Value) from rfl); have hz3 := (blk_cell BK.out 3).trans (show _ = some (.int .i64 off : Value) from rfl); have hz4 := (blk_cell BK.out 4).trans (show _ = some (.int .i64 n : Value) from rfl); have hz5 := (blk_cell BK.out 5).trans (show _ = some (.slice A5 l5.length c5 : Value) from rfl); have hz6 := (blk_cell BK.out 6).trans (show _ = some (.int .i64 snap : Value) from rfl); clear hb hbox hg))
  go_region_with (go_at_call 37; refine (dolmenref26_words.calls refWords _ rfl).mono ?_; rintro e w2 ⟨v2, rfl, hR, hb⟩; have n0_ := Aside0.mk (below_step (by repeat (first | (with_reducible first | exact HB.out | apply below_alloc | apply pw_below_drewN | apply below_drew1) | exact HB.out)) hb); have n1_ := Aside0.mk (blk_below (g := gb) (o := .cells #[.int .i64 kind, .string path, .string to_, .int .i64 off, .int .i64 n, .slice A5 l5.length c5, .int .i64 snap] 24 (0, 0)) (by first | exact BK.out | exact blk_drew BK.out | exact blk_alloc BK.out _ | exact blk_drewN BK.out _) hb); clear HB BK; have HB := n0_; have BK := n1_; clear n0_ n1_ hb; have hz0 := (blk_cell BK.out 0).trans (show _ = some (.int .i64 kind : Value) from rfl); have hz1 := (blk_cell BK.out 1).trans (show _ = some (.string path : Value) from rfl); have hz2 := (blk_cell BK.out 2).trans (show _ = some (.string to_ : Value) from rfl); have hz3 := (blk_cell BK.out 3).trans (show _ = some (.int .i64 off : Value) from rfl); have hz4 := (blk_cell BK.out 4).trans (show _ = some (.int .i64 n : Value) from rfl); have hz5 := (blk_cell BK.out 5).trans (show _ = some (.slice A5 l5.length c5 : Value) from rfl); have hz6 := (blk_cell BK.out 6).trans (show _ = some (.int .i64 snap : Value) from rfl); obtain ⟨A2, c2, hv2, hc2, hC2⟩ := Kd.R_reads hR; have hv3 : v2 = .slice A2 15 c2 := hv2; subst hv3; obtain ⟨ad, e2, hx⟩ := Kd.at_string hC2 kind hk0 hk1; subst e2; obtain ⟨s, hs⟩ : ∃ s, s = rdOf ByteArray.empty refWords kind := ⟨_, rfl⟩; rw [← hs] at hx; have hsz : s.size ≤ 8 := (by rw [hs]; exact refWords_size _ hk0 hk1); clear hs hR hC2 hv2 hc2)
  all_goals (go_wp2_with (first | (go_at_call_of 40 path; refine (dolmenref26_good.calls 300001 path true _ hg).mono ?_; rintro e wg ⟨rfl, hb⟩; have n0_ := Aside0.mk (below_step (by repeat (first | (with_reducible first | exact HB.out | apply below_alloc | apply pw_below_drewN | apply below_drew1) | exact HB.out)) hb); have n1_ := Aside0.mk (blk_below (g := gb) (o := .cells #[.int .i64 kind, .string path, .string to_, .int .i64 off, .int .i64 n, .slice A5 l5.length c5, .int .i64 snap] 24 (0, 0)) (by first | exact BK.out | exact blk_drew BK.out | exact blk_alloc BK.out _ | exact blk_drewN BK.out _) hb); clear HB BK; have HB := n0_; have BK := n1_; clear n0_ n1_ hb; have hz0 := (blk_cell BK.out 0).trans (show _ = some (.int .i64 kind : Value) from rfl); have hz1 := (blk_cell BK.out 1).trans (show _ = some (.string path : Value) from rfl); have hz2 := (blk_cell BK.out 2).trans (show _ = some (.string to_ : Value) from rfl); have hz3 := (blk_cell BK.out 3).trans (show _ = some (.int .i64 off : Value) from rfl); have hz4 := (blk_cell BK.out 4).trans (show _ = some (.int .i64 n : Value) from rfl); have hz5 := (blk_cell BK.out 5).trans (show _ = some (.slice A5 l5.length c5 : Value) from rfl); have hz6 := (blk_cell BK.out 6).trans (show _ = some (.int .i64 snap : Value) from rfl); skip) | (go_at_call_of 40 to_; refine (dolmenref26_good.calls 300001 to_ false _ ht).mono ?_; rintro e wg ⟨rfl, hb⟩; have n0_ := Aside0.mk (below_step (by repeat (first | (with_reducible first | exact HB.out | apply below_alloc | apply pw_below_drewN | apply below_drew1) | exact HB.out)) hb); have n1_ := Aside0.mk (blk_below (g := gb) (o := .cells #[.int .i64 kind, .string path, .string to_, .int .i64 off, .int .i64 n, .slice A5 l5.length c5, .int .i64 snap] 24 (0, 0)) (by first | exact BK.out | exact blk_drew BK.out | exact blk_alloc BK.out _ | exact blk_drewN BK.out _) hb); clear HB BK; have HB := n0_; have BK := n1_; clear n0_ n1_ hb; have hz0 := (blk_cell BK.out 0).trans (show _ = some (.int .i64 kind : Value) from rfl); have hz1 := (blk_cell BK.out 1).trans (show _ = some (.string path : Value) from rfl); have hz2 := (blk_cell BK.out 2).trans (show _ = some (.string to_ : Value) from rfl); have hz3 := (blk_cell BK.out 3).trans (show _ = some (.int .i64 off : Value) from rfl); have hz4 := (blk_cell BK.out 4).trans (show _ = some (.int .i64 n : Value) from rfl); have hz5 := (blk_cell BK.out 5).trans (show _ = some (.slice A5 l5.length c5 : Value) from rfl); have hz6 := (blk_cell BK.out 6).trans (show _ = some (.int .i64 snap : Value) from rfl); skip) | (go_at_call_of 38 (1 : Nat); refine (near_call1 hn _).mono ?_; rintro e wn48 ⟨rfl, hd_⟩; have n0_ := Aside0.mk (below_step (below_alloc HB.out _) hd_.below); have n1_ := Aside0.mk (blk_below (blk_alloc BK.out _) hd_.below); clear HB BK hd_; have HB := n0_; have BK := n1_; clear n0_ n1_; have hz0 := (blk_cell BK.out 0).trans (show _ = some (.int .i64 kind : Value) from rfl); have hz1 := (blk_cell BK.out 1).trans (show _ = some (.string path : Value) from rfl); have hz2 := (blk_cell BK.out 2).trans (show _ = some (.string to_ : Value) from rfl); have hz3 := (blk_cell BK.out 3).trans (show _ = some (.int .i64 off : Value) from rfl); have hz4 := (blk_cell BK.out 4).trans (show _ = some (.int .i64 n : Value) from rfl); have hz5 := (blk_cell BK.out 5).trans (show _ = some (.slice A5 l5.length c5 : Value) from rfl); have hz6 := (blk_cell BK.out 6).trans (show _ = some (.int .i64 snap : Value) from rfl); skip)))
  all_goals go_ret
  all_goals exact ⟨rfl, (by repeat (first | (with_reducible first | exact HB.out | apply below_alloc | apply pw_below_drewN | apply below_drew1) | exact HB.out))⟩

set_option maxRecDepth 100000 in
set_option maxHeartbeats 1000000 in
theorem refop_to6 (kind : Int) (path to_ : ByteArray) (off n : Int) (A5 : Option Addr) (c5 : Nat) (l5 : List Int) (snap : Int) (w : World)
    (hk : kind = 6) (hg : dolmenref26_good.f 300001 path = some true) (hpz : path.size ≤ 200) (hs0 : 0 ≤ snap) (hn : dolmenref26_near.f 5 [snap] = some true) (ht : dolmenref26_good.f 300001 to_ = some false) :
    Calls Tryz.prog 12 #[.agg #[.int .i64 kind, .string path, .string to_, .int .i64 off, .int .i64 n, .slice A5 l5.length c5, .int .i64 snap]] w fun e w' => e = .returned (.string ⟨#[]⟩) ∧ Below w.heap.size w w' := by
  have hk0 : 0 ≤ kind := by omega
  have hk1 : kind < ((refWords.length : Nat) : Int) := by show kind < 15; omega
  have hk15 : kind < 15 := by omega
  have hkl : (kind < 1) = False := by simp; omega
  have hkh : (14 < kind) = False := by simp; omega
  have e12 : (kind == 12) = false := by rw [beq_eq_false_iff_ne]; omega
  have e14 : (kind == 14) = false := by rw [beq_eq_false_iff_ne]; omega
  have e13 : (kind == 13) = false := by rw [beq_eq_false_iff_ne]; omega
  have e5 : (kind == 5) = false := by rw [beq_eq_false_iff_ne]; omega
  have e6 : (kind == 6) = true := by rw [beq_iff_eq]; exact hk
  have e7 : (kind == 7) = false := by rw [beq_eq_false_iff_ne]; omega
  have e8 : (kind == 8) = false := by rw [beq_eq_false_iff_ne]; omega
  have e9 : (kind == 9) = false := by rw [beq_eq_false_iff_ne]; omega
  try clear hk
  have HB := Aside0.mk (Below.refl w.heap.size w)
  go_enter Tryz.func12, Tryz.ntmps12
  go_wp2_with (((with_reducible refine gate_dst (N := 1) rfl ?_); refine box_event ?hg (N := 1) ?hd (cs := #[.int .i64 kind, .string path, .string to_, .int .i64 off, .int .i64 n, .slice A5 l5.length c5, .int .i64 snap]) (t := 24) ?hr ?_; (case hd => rfl); (case hg => rfl); (case hr => first | (go_simp; done) | (go_simp; rfl)); intro gb hg w1 hbox hb; have n0_ := Aside0.mk (below_step (by repeat (first | (with_reducible first | exact HB.out | apply below_alloc | apply pw_below_drewN | apply below_drew1) | exact HB.out)) hb); have BK := Aside0.mk hbox; clear HB; have HB := n0_; clear n0_; have hz0 := (blk_cell BK.out 0).trans (show _ = some (.int .i64 kind : Value) from rfl); have hz1 := (blk_cell BK.out 1).trans (show _ = some (.string path : Value) from rfl); have hz2 := (blk_cell BK.out 2).trans (show _ = some (.string to_ : Value) from rfl); have hz3 := (blk_cell BK.out 3).trans (show _ = some (.int .i64 off : Value) from rfl); have hz4 := (blk_cell BK.out 4).trans (show _ = some (.int .i64 n : Value) from rfl); have hz5 := (blk_cell BK.out 5).trans (show _ = some (.slice A5 l5.length c5 : Value) from rfl); have hz6 := (blk_cell BK.out 6).trans (show _ = some (.int .i64 snap : Value) from rfl); clear hb hbox hg))
  go_region_with (go_at_call 37; refine (dolmenref26_words.calls refWords _ rfl).mono ?_; rintro e w2 ⟨v2, rfl, hR, hb⟩; have n0_ := Aside0.mk (below_step (by repeat (first | (with_reducible first | exact HB.out | apply below_alloc | apply pw_below_drewN | apply below_drew1) | exact HB.out)) hb); have n1_ := Aside0.mk (blk_below (g := gb) (o := .cells #[.int .i64 kind, .string path, .string to_, .int .i64 off, .int .i64 n, .slice A5 l5.length c5, .int .i64 snap] 24 (0, 0)) (by first | exact BK.out | exact blk_drew BK.out | exact blk_alloc BK.out _ | exact blk_drewN BK.out _) hb); clear HB BK; have HB := n0_; have BK := n1_; clear n0_ n1_ hb; have hz0 := (blk_cell BK.out 0).trans (show _ = some (.int .i64 kind : Value) from rfl); have hz1 := (blk_cell BK.out 1).trans (show _ = some (.string path : Value) from rfl); have hz2 := (blk_cell BK.out 2).trans (show _ = some (.string to_ : Value) from rfl); have hz3 := (blk_cell BK.out 3).trans (show _ = some (.int .i64 off : Value) from rfl); have hz4 := (blk_cell BK.out 4).trans (show _ = some (.int .i64 n : Value) from rfl); have hz5 := (blk_cell BK.out 5).trans (show _ = some (.slice A5 l5.length c5 : Value) from rfl); have hz6 := (blk_cell BK.out 6).trans (show _ = some (.int .i64 snap : Value) from rfl); obtain ⟨A2, c2, hv2, hc2, hC2⟩ := Kd.R_reads hR; have hv3 : v2 = .slice A2 15 c2 := hv2; subst hv3; obtain ⟨ad, e2, hx⟩ := Kd.at_string hC2 kind hk0 hk1; subst e2; obtain ⟨s, hs⟩ : ∃ s, s = rdOf ByteArray.empty refWords kind := ⟨_, rfl⟩; rw [← hs] at hx; have hsz : s.size ≤ 8 := (by rw [hs]; exact refWords_size _ hk0 hk1); clear hs hR hC2 hv2 hc2)
  all_goals (go_wp2_with (first | (go_at_call_of 40 path; refine (dolmenref26_good.calls 300001 path true _ hg).mono ?_; rintro e wg ⟨rfl, hb⟩; have n0_ := Aside0.mk (below_step (by repeat (first | (with_reducible first | exact HB.out | apply below_alloc | apply pw_below_drewN | apply below_drew1) | exact HB.out)) hb); have n1_ := Aside0.mk (blk_below (g := gb) (o := .cells #[.int .i64 kind, .string path, .string to_, .int .i64 off, .int .i64 n, .slice A5 l5.length c5, .int .i64 snap] 24 (0, 0)) (by first | exact BK.out | exact blk_drew BK.out | exact blk_alloc BK.out _ | exact blk_drewN BK.out _) hb); clear HB BK; have HB := n0_; have BK := n1_; clear n0_ n1_ hb; have hz0 := (blk_cell BK.out 0).trans (show _ = some (.int .i64 kind : Value) from rfl); have hz1 := (blk_cell BK.out 1).trans (show _ = some (.string path : Value) from rfl); have hz2 := (blk_cell BK.out 2).trans (show _ = some (.string to_ : Value) from rfl); have hz3 := (blk_cell BK.out 3).trans (show _ = some (.int .i64 off : Value) from rfl); have hz4 := (blk_cell BK.out 4).trans (show _ = some (.int .i64 n : Value) from rfl); have hz5 := (blk_cell BK.out 5).trans (show _ = some (.slice A5 l5.length c5 : Value) from rfl); have hz6 := (blk_cell BK.out 6).trans (show _ = some (.int .i64 snap : Value) from rfl); skip) | (go_at_call_of 40 to_; refine (dolmenref26_good.calls 300001 to_ false _ ht).mono ?_; rintro e wg ⟨rfl, hb⟩; have n0_ := Aside0.mk (below_step (by repeat (first | (with_reducible first | exact HB.out | apply below_alloc | apply pw_below_drewN | apply below_drew1) | exact HB.out)) hb); have n1_ := Aside0.mk (blk_below (g := gb) (o := .cells #[.int .i64 kind, .string path, .string to_, .int .i64 off, .int .i64 n, .slice A5 l5.length c5, .int .i64 snap] 24 (0, 0)) (by first | exact BK.out | exact blk_drew BK.out | exact blk_alloc BK.out _ | exact blk_drewN BK.out _) hb); clear HB BK; have HB := n0_; have BK := n1_; clear n0_ n1_ hb; have hz0 := (blk_cell BK.out 0).trans (show _ = some (.int .i64 kind : Value) from rfl); have hz1 := (blk_cell BK.out 1).trans (show _ = some (.string path : Value) from rfl); have hz2 := (blk_cell BK.out 2).trans (show _ = some (.string to_ : Value) from rfl); have hz3 := (blk_cell BK.out 3).trans (show _ = some (.int .i64 off : Value) from rfl); have hz4 := (blk_cell BK.out 4).trans (show _ = some (.int .i64 n : Value) from rfl); have hz5 := (blk_cell BK.out 5).trans (show _ = some (.slice A5 l5.length c5 : Value) from rfl); have hz6 := (blk_cell BK.out 6).trans (show _ = some (.int .i64 snap : Value) from rfl); skip) | (go_at_call_of 38 (1 : Nat); refine (near_call1 hn _).mono ?_; rintro e wn48 ⟨rfl, hd_⟩; have n0_ := Aside0.mk (below_step (below_alloc HB.out _) hd_.below); have n1_ := Aside0.mk (blk_below (blk_alloc BK.out _) hd_.below); clear HB BK hd_; have HB := n0_; have BK := n1_; clear n0_ n1_; have hz0 := (blk_cell BK.out 0).trans (show _ = some (.int .i64 kind : Value) from rfl); have hz1 := (blk_cell BK.out 1).trans (show _ = some (.string path : Value) from rfl); have hz2 := (blk_cell BK.out 2).trans (show _ = some (.string to_ : Value) from rfl); have hz3 := (blk_cell BK.out 3).trans (show _ = some (.int .i64 off : Value) from rfl); have hz4 := (blk_cell BK.out 4).trans (show _ = some (.int .i64 n : Value) from rfl); have hz5 := (blk_cell BK.out 5).trans (show _ = some (.slice A5 l5.length c5 : Value) from rfl); have hz6 := (blk_cell BK.out 6).trans (show _ = some (.int .i64 snap : Value) from rfl); skip)))
  all_goals go_ret
  all_goals exact ⟨rfl, (by repeat (first | (with_reducible first | exact HB.out | apply below_alloc | apply pw_below_drewN | apply below_drew1) | exact HB.out))⟩

set_option maxRecDepth 100000 in
set_option maxHeartbeats 1000000 in
theorem refop_read (kind : Int) (path to_ : ByteArray) (off n : Int) (A5 : Option Addr) (c5 : Nat) (l5 : List Int) (snap : Int) (w : World)
    (hk : kind = 7) (hg : dolmenref26_good.f 300001 path = some true) (hpz : path.size ≤ 200) (hs0 : 0 ≤ snap) (hn : dolmenref26_near.f 5 [snap] = some true) (hm : dolmenref26_near.f 5 [off, n] = some false) :
    Calls Tryz.prog 12 #[.agg #[.int .i64 kind, .string path, .string to_, .int .i64 off, .int .i64 n, .slice A5 l5.length c5, .int .i64 snap]] w fun e w' => e = .returned (.string ⟨#[]⟩) ∧ Below w.heap.size w w' := by
  have hk0 : 0 ≤ kind := by omega
  have hk1 : kind < ((refWords.length : Nat) : Int) := by show kind < 15; omega
  have hk15 : kind < 15 := by omega
  have hkl : (kind < 1) = False := by simp; omega
  have hkh : (14 < kind) = False := by simp; omega
  have e12 : (kind == 12) = false := by rw [beq_eq_false_iff_ne]; omega
  have e14 : (kind == 14) = false := by rw [beq_eq_false_iff_ne]; omega
  have e13 : (kind == 13) = false := by rw [beq_eq_false_iff_ne]; omega
  have e5 : (kind == 5) = false := by rw [beq_eq_false_iff_ne]; omega
  have e6 : (kind == 6) = false := by rw [beq_eq_false_iff_ne]; omega
  have e7 : (kind == 7) = true := by rw [beq_iff_eq]; exact hk
  have e8 : (kind == 8) = false := by rw [beq_eq_false_iff_ne]; omega
  have e9 : (kind == 9) = false := by rw [beq_eq_false_iff_ne]; omega
  try clear hk
  have HB := Aside0.mk (Below.refl w.heap.size w)
  go_enter Tryz.func12, Tryz.ntmps12
  go_wp2_with (((with_reducible refine gate_dst (N := 1) rfl ?_); refine box_event ?hg (N := 1) ?hd (cs := #[.int .i64 kind, .string path, .string to_, .int .i64 off, .int .i64 n, .slice A5 l5.length c5, .int .i64 snap]) (t := 24) ?hr ?_; (case hd => rfl); (case hg => rfl); (case hr => first | (go_simp; done) | (go_simp; rfl)); intro gb hg w1 hbox hb; have n0_ := Aside0.mk (below_step (by repeat (first | (with_reducible first | exact HB.out | apply below_alloc | apply pw_below_drewN | apply below_drew1) | exact HB.out)) hb); have BK := Aside0.mk hbox; clear HB; have HB := n0_; clear n0_; have hz0 := (blk_cell BK.out 0).trans (show _ = some (.int .i64 kind : Value) from rfl); have hz1 := (blk_cell BK.out 1).trans (show _ = some (.string path : Value) from rfl); have hz2 := (blk_cell BK.out 2).trans (show _ = some (.string to_ : Value) from rfl); have hz3 := (blk_cell BK.out 3).trans (show _ = some (.int .i64 off : Value) from rfl); have hz4 := (blk_cell BK.out 4).trans (show _ = some (.int .i64 n : Value) from rfl); have hz5 := (blk_cell BK.out 5).trans (show _ = some (.slice A5 l5.length c5 : Value) from rfl); have hz6 := (blk_cell BK.out 6).trans (show _ = some (.int .i64 snap : Value) from rfl); clear hb hbox hg))
  go_region_with (go_at_call 37; refine (dolmenref26_words.calls refWords _ rfl).mono ?_; rintro e w2 ⟨v2, rfl, hR, hb⟩; have n0_ := Aside0.mk (below_step (by repeat (first | (with_reducible first | exact HB.out | apply below_alloc | apply pw_below_drewN | apply below_drew1) | exact HB.out)) hb); have n1_ := Aside0.mk (blk_below (g := gb) (o := .cells #[.int .i64 kind, .string path, .string to_, .int .i64 off, .int .i64 n, .slice A5 l5.length c5, .int .i64 snap] 24 (0, 0)) (by first | exact BK.out | exact blk_drew BK.out | exact blk_alloc BK.out _ | exact blk_drewN BK.out _) hb); clear HB BK; have HB := n0_; have BK := n1_; clear n0_ n1_ hb; have hz0 := (blk_cell BK.out 0).trans (show _ = some (.int .i64 kind : Value) from rfl); have hz1 := (blk_cell BK.out 1).trans (show _ = some (.string path : Value) from rfl); have hz2 := (blk_cell BK.out 2).trans (show _ = some (.string to_ : Value) from rfl); have hz3 := (blk_cell BK.out 3).trans (show _ = some (.int .i64 off : Value) from rfl); have hz4 := (blk_cell BK.out 4).trans (show _ = some (.int .i64 n : Value) from rfl); have hz5 := (blk_cell BK.out 5).trans (show _ = some (.slice A5 l5.length c5 : Value) from rfl); have hz6 := (blk_cell BK.out 6).trans (show _ = some (.int .i64 snap : Value) from rfl); obtain ⟨A2, c2, hv2, hc2, hC2⟩ := Kd.R_reads hR; have hv3 : v2 = .slice A2 15 c2 := hv2; subst hv3; obtain ⟨ad, e2, hx⟩ := Kd.at_string hC2 kind hk0 hk1; subst e2; obtain ⟨s, hs⟩ : ∃ s, s = rdOf ByteArray.empty refWords kind := ⟨_, rfl⟩; rw [← hs] at hx; have hsz : s.size ≤ 8 := (by rw [hs]; exact refWords_size _ hk0 hk1); clear hs hR hC2 hv2 hc2)
  all_goals (go_wp2_with (first | (go_at_call 40; refine (dolmenref26_good.calls 300001 path true _ hg).mono ?_; rintro e wg ⟨rfl, hb⟩; have n0_ := Aside0.mk (below_step (by repeat (first | (with_reducible first | exact HB.out | apply below_alloc | apply pw_below_drewN | apply below_drew1) | exact HB.out)) hb); have n1_ := Aside0.mk (blk_below (g := gb) (o := .cells #[.int .i64 kind, .string path, .string to_, .int .i64 off, .int .i64 n, .slice A5 l5.length c5, .int .i64 snap] 24 (0, 0)) (by first | exact BK.out | exact blk_drew BK.out | exact blk_alloc BK.out _ | exact blk_drewN BK.out _) hb); clear HB BK; have HB := n0_; have BK := n1_; clear n0_ n1_ hb; have hz0 := (blk_cell BK.out 0).trans (show _ = some (.int .i64 kind : Value) from rfl); have hz1 := (blk_cell BK.out 1).trans (show _ = some (.string path : Value) from rfl); have hz2 := (blk_cell BK.out 2).trans (show _ = some (.string to_ : Value) from rfl); have hz3 := (blk_cell BK.out 3).trans (show _ = some (.int .i64 off : Value) from rfl); have hz4 := (blk_cell BK.out 4).trans (show _ = some (.int .i64 n : Value) from rfl); have hz5 := (blk_cell BK.out 5).trans (show _ = some (.slice A5 l5.length c5 : Value) from rfl); have hz6 := (blk_cell BK.out 6).trans (show _ = some (.int .i64 snap : Value) from rfl); skip) | (go_at_call_of 38 (1 : Nat); refine (near_call1 hn _).mono ?_; rintro e wn48 ⟨rfl, hd_⟩; have n0_ := Aside0.mk (below_step (below_alloc HB.out _) hd_.below); have n1_ := Aside0.mk (blk_below (blk_alloc BK.out _) hd_.below); clear HB BK hd_; have HB := n0_; have BK := n1_; clear n0_ n1_; have hz0 := (blk_cell BK.out 0).trans (show _ = some (.int .i64 kind : Value) from rfl); have hz1 := (blk_cell BK.out 1).trans (show _ = some (.string path : Value) from rfl); have hz2 := (blk_cell BK.out 2).trans (show _ = some (.string to_ : Value) from rfl); have hz3 := (blk_cell BK.out 3).trans (show _ = some (.int .i64 off : Value) from rfl); have hz4 := (blk_cell BK.out 4).trans (show _ = some (.int .i64 n : Value) from rfl); have hz5 := (blk_cell BK.out 5).trans (show _ = some (.slice A5 l5.length c5 : Value) from rfl); have hz6 := (blk_cell BK.out 6).trans (show _ = some (.int .i64 snap : Value) from rfl); skip) | (go_at_call_of 38 (2 : Nat); refine (near_call2 hm _).mono ?_; rintro e wn77 ⟨rfl, hd_⟩; have n0_ := Aside0.mk (below_step (below_alloc HB.out _) hd_.below); have n1_ := Aside0.mk (blk_below (blk_alloc BK.out _) hd_.below); clear HB BK hd_; have HB := n0_; have BK := n1_; clear n0_ n1_; have hz0 := (blk_cell BK.out 0).trans (show _ = some (.int .i64 kind : Value) from rfl); have hz1 := (blk_cell BK.out 1).trans (show _ = some (.string path : Value) from rfl); have hz2 := (blk_cell BK.out 2).trans (show _ = some (.string to_ : Value) from rfl); have hz3 := (blk_cell BK.out 3).trans (show _ = some (.int .i64 off : Value) from rfl); have hz4 := (blk_cell BK.out 4).trans (show _ = some (.int .i64 n : Value) from rfl); have hz5 := (blk_cell BK.out 5).trans (show _ = some (.slice A5 l5.length c5 : Value) from rfl); have hz6 := (blk_cell BK.out 6).trans (show _ = some (.int .i64 snap : Value) from rfl); skip)))
  all_goals go_ret
  all_goals exact ⟨rfl, (by repeat (first | (with_reducible first | exact HB.out | apply below_alloc | apply pw_below_drewN | apply below_drew1) | exact HB.out))⟩

set_option maxRecDepth 100000 in
set_option maxHeartbeats 1000000 in
theorem refop_write (kind : Int) (path to_ : ByteArray) (off n : Int) (A5 : Option Addr) (c5 : Nat) (l5 : List Int) (snap : Int) (w : World)
    (hk : kind = 8) (hg : dolmenref26_good.f 300001 path = some true) (hpz : path.size ≤ 200) (hs0 : 0 ≤ snap) (hn : dolmenref26_near.f 5 [snap] = some true) (hm : dolmenref26_near.f 5 [off] = some false) :
    Calls Tryz.prog 12 #[.agg #[.int .i64 kind, .string path, .string to_, .int .i64 off, .int .i64 n, .slice A5 l5.length c5, .int .i64 snap]] w fun e w' => e = .returned (.string ⟨#[]⟩) ∧ Below w.heap.size w w' := by
  have hk0 : 0 ≤ kind := by omega
  have hk1 : kind < ((refWords.length : Nat) : Int) := by show kind < 15; omega
  have hk15 : kind < 15 := by omega
  have hkl : (kind < 1) = False := by simp; omega
  have hkh : (14 < kind) = False := by simp; omega
  have e12 : (kind == 12) = false := by rw [beq_eq_false_iff_ne]; omega
  have e14 : (kind == 14) = false := by rw [beq_eq_false_iff_ne]; omega
  have e13 : (kind == 13) = false := by rw [beq_eq_false_iff_ne]; omega
  have e5 : (kind == 5) = false := by rw [beq_eq_false_iff_ne]; omega
  have e6 : (kind == 6) = false := by rw [beq_eq_false_iff_ne]; omega
  have e7 : (kind == 7) = false := by rw [beq_eq_false_iff_ne]; omega
  have e8 : (kind == 8) = true := by rw [beq_iff_eq]; exact hk
  have e9 : (kind == 9) = false := by rw [beq_eq_false_iff_ne]; omega
  try clear hk
  have HB := Aside0.mk (Below.refl w.heap.size w)
  go_enter Tryz.func12, Tryz.ntmps12
  go_wp2_with (((with_reducible refine gate_dst (N := 1) rfl ?_); refine box_event ?hg (N := 1) ?hd (cs := #[.int .i64 kind, .string path, .string to_, .int .i64 off, .int .i64 n, .slice A5 l5.length c5, .int .i64 snap]) (t := 24) ?hr ?_; (case hd => rfl); (case hg => rfl); (case hr => first | (go_simp; done) | (go_simp; rfl)); intro gb hg w1 hbox hb; have n0_ := Aside0.mk (below_step (by repeat (first | (with_reducible first | exact HB.out | apply below_alloc | apply pw_below_drewN | apply below_drew1) | exact HB.out)) hb); have BK := Aside0.mk hbox; clear HB; have HB := n0_; clear n0_; have hz0 := (blk_cell BK.out 0).trans (show _ = some (.int .i64 kind : Value) from rfl); have hz1 := (blk_cell BK.out 1).trans (show _ = some (.string path : Value) from rfl); have hz2 := (blk_cell BK.out 2).trans (show _ = some (.string to_ : Value) from rfl); have hz3 := (blk_cell BK.out 3).trans (show _ = some (.int .i64 off : Value) from rfl); have hz4 := (blk_cell BK.out 4).trans (show _ = some (.int .i64 n : Value) from rfl); have hz5 := (blk_cell BK.out 5).trans (show _ = some (.slice A5 l5.length c5 : Value) from rfl); have hz6 := (blk_cell BK.out 6).trans (show _ = some (.int .i64 snap : Value) from rfl); clear hb hbox hg))
  go_region_with (go_at_call 37; refine (dolmenref26_words.calls refWords _ rfl).mono ?_; rintro e w2 ⟨v2, rfl, hR, hb⟩; have n0_ := Aside0.mk (below_step (by repeat (first | (with_reducible first | exact HB.out | apply below_alloc | apply pw_below_drewN | apply below_drew1) | exact HB.out)) hb); have n1_ := Aside0.mk (blk_below (g := gb) (o := .cells #[.int .i64 kind, .string path, .string to_, .int .i64 off, .int .i64 n, .slice A5 l5.length c5, .int .i64 snap] 24 (0, 0)) (by first | exact BK.out | exact blk_drew BK.out | exact blk_alloc BK.out _ | exact blk_drewN BK.out _) hb); clear HB BK; have HB := n0_; have BK := n1_; clear n0_ n1_ hb; have hz0 := (blk_cell BK.out 0).trans (show _ = some (.int .i64 kind : Value) from rfl); have hz1 := (blk_cell BK.out 1).trans (show _ = some (.string path : Value) from rfl); have hz2 := (blk_cell BK.out 2).trans (show _ = some (.string to_ : Value) from rfl); have hz3 := (blk_cell BK.out 3).trans (show _ = some (.int .i64 off : Value) from rfl); have hz4 := (blk_cell BK.out 4).trans (show _ = some (.int .i64 n : Value) from rfl); have hz5 := (blk_cell BK.out 5).trans (show _ = some (.slice A5 l5.length c5 : Value) from rfl); have hz6 := (blk_cell BK.out 6).trans (show _ = some (.int .i64 snap : Value) from rfl); obtain ⟨A2, c2, hv2, hc2, hC2⟩ := Kd.R_reads hR; have hv3 : v2 = .slice A2 15 c2 := hv2; subst hv3; obtain ⟨ad, e2, hx⟩ := Kd.at_string hC2 kind hk0 hk1; subst e2; obtain ⟨s, hs⟩ : ∃ s, s = rdOf ByteArray.empty refWords kind := ⟨_, rfl⟩; rw [← hs] at hx; have hsz : s.size ≤ 8 := (by rw [hs]; exact refWords_size _ hk0 hk1); clear hs hR hC2 hv2 hc2)
  all_goals (go_wp2_with (first | (go_at_call 40; refine (dolmenref26_good.calls 300001 path true _ hg).mono ?_; rintro e wg ⟨rfl, hb⟩; have n0_ := Aside0.mk (below_step (by repeat (first | (with_reducible first | exact HB.out | apply below_alloc | apply pw_below_drewN | apply below_drew1) | exact HB.out)) hb); have n1_ := Aside0.mk (blk_below (g := gb) (o := .cells #[.int .i64 kind, .string path, .string to_, .int .i64 off, .int .i64 n, .slice A5 l5.length c5, .int .i64 snap] 24 (0, 0)) (by first | exact BK.out | exact blk_drew BK.out | exact blk_alloc BK.out _ | exact blk_drewN BK.out _) hb); clear HB BK; have HB := n0_; have BK := n1_; clear n0_ n1_ hb; have hz0 := (blk_cell BK.out 0).trans (show _ = some (.int .i64 kind : Value) from rfl); have hz1 := (blk_cell BK.out 1).trans (show _ = some (.string path : Value) from rfl); have hz2 := (blk_cell BK.out 2).trans (show _ = some (.string to_ : Value) from rfl); have hz3 := (blk_cell BK.out 3).trans (show _ = some (.int .i64 off : Value) from rfl); have hz4 := (blk_cell BK.out 4).trans (show _ = some (.int .i64 n : Value) from rfl); have hz5 := (blk_cell BK.out 5).trans (show _ = some (.slice A5 l5.length c5 : Value) from rfl); have hz6 := (blk_cell BK.out 6).trans (show _ = some (.int .i64 snap : Value) from rfl); skip) | (go_at_call_of 38 (1 : Nat); refine (near_call1 hn _).mono ?_; rintro e wn48 ⟨rfl, hd_⟩; have n0_ := Aside0.mk (below_step (below_alloc HB.out _) hd_.below); have n1_ := Aside0.mk (blk_below (blk_alloc BK.out _) hd_.below); clear HB BK hd_; have HB := n0_; have BK := n1_; clear n0_ n1_; have hz0 := (blk_cell BK.out 0).trans (show _ = some (.int .i64 kind : Value) from rfl); have hz1 := (blk_cell BK.out 1).trans (show _ = some (.string path : Value) from rfl); have hz2 := (blk_cell BK.out 2).trans (show _ = some (.string to_ : Value) from rfl); have hz3 := (blk_cell BK.out 3).trans (show _ = some (.int .i64 off : Value) from rfl); have hz4 := (blk_cell BK.out 4).trans (show _ = some (.int .i64 n : Value) from rfl); have hz5 := (blk_cell BK.out 5).trans (show _ = some (.slice A5 l5.length c5 : Value) from rfl); have hz6 := (blk_cell BK.out 6).trans (show _ = some (.int .i64 snap : Value) from rfl); skip) | (go_at_call_of 38 (1 : Nat); refine (near_call1 hm _).mono ?_; rintro e wn95 ⟨rfl, hd_⟩; have n0_ := Aside0.mk (below_step (below_alloc HB.out _) hd_.below); have n1_ := Aside0.mk (blk_below (blk_alloc BK.out _) hd_.below); clear HB BK hd_; have HB := n0_; have BK := n1_; clear n0_ n1_; have hz0 := (blk_cell BK.out 0).trans (show _ = some (.int .i64 kind : Value) from rfl); have hz1 := (blk_cell BK.out 1).trans (show _ = some (.string path : Value) from rfl); have hz2 := (blk_cell BK.out 2).trans (show _ = some (.string to_ : Value) from rfl); have hz3 := (blk_cell BK.out 3).trans (show _ = some (.int .i64 off : Value) from rfl); have hz4 := (blk_cell BK.out 4).trans (show _ = some (.int .i64 n : Value) from rfl); have hz5 := (blk_cell BK.out 5).trans (show _ = some (.slice A5 l5.length c5 : Value) from rfl); have hz6 := (blk_cell BK.out 6).trans (show _ = some (.int .i64 snap : Value) from rfl); skip)))
  all_goals go_ret
  all_goals exact ⟨rfl, (by repeat (first | (with_reducible first | exact HB.out | apply below_alloc | apply pw_below_drewN | apply below_drew1) | exact HB.out))⟩

set_option maxRecDepth 100000 in
set_option maxHeartbeats 1000000 in
theorem refop_trunc (kind : Int) (path to_ : ByteArray) (off n : Int) (A5 : Option Addr) (c5 : Nat) (l5 : List Int) (snap : Int) (w : World)
    (hk : kind = 9) (hg : dolmenref26_good.f 300001 path = some true) (hpz : path.size ≤ 200) (hs0 : 0 ≤ snap) (hn : dolmenref26_near.f 5 [snap] = some true) (hm : dolmenref26_near.f 5 [n] = some false) :
    Calls Tryz.prog 12 #[.agg #[.int .i64 kind, .string path, .string to_, .int .i64 off, .int .i64 n, .slice A5 l5.length c5, .int .i64 snap]] w fun e w' => e = .returned (.string ⟨#[]⟩) ∧ Below w.heap.size w w' := by
  have hk0 : 0 ≤ kind := by omega
  have hk1 : kind < ((refWords.length : Nat) : Int) := by show kind < 15; omega
  have hk15 : kind < 15 := by omega
  have hkl : (kind < 1) = False := by simp; omega
  have hkh : (14 < kind) = False := by simp; omega
  have e12 : (kind == 12) = false := by rw [beq_eq_false_iff_ne]; omega
  have e14 : (kind == 14) = false := by rw [beq_eq_false_iff_ne]; omega
  have e13 : (kind == 13) = false := by rw [beq_eq_false_iff_ne]; omega
  have e5 : (kind == 5) = false := by rw [beq_eq_false_iff_ne]; omega
  have e6 : (kind == 6) = false := by rw [beq_eq_false_iff_ne]; omega
  have e7 : (kind == 7) = false := by rw [beq_eq_false_iff_ne]; omega
  have e8 : (kind == 8) = false := by rw [beq_eq_false_iff_ne]; omega
  have e9 : (kind == 9) = true := by rw [beq_iff_eq]; exact hk
  try clear hk
  have HB := Aside0.mk (Below.refl w.heap.size w)
  go_enter Tryz.func12, Tryz.ntmps12
  go_wp2_with (((with_reducible refine gate_dst (N := 1) rfl ?_); refine box_event ?hg (N := 1) ?hd (cs := #[.int .i64 kind, .string path, .string to_, .int .i64 off, .int .i64 n, .slice A5 l5.length c5, .int .i64 snap]) (t := 24) ?hr ?_; (case hd => rfl); (case hg => rfl); (case hr => first | (go_simp; done) | (go_simp; rfl)); intro gb hg w1 hbox hb; have n0_ := Aside0.mk (below_step (by repeat (first | (with_reducible first | exact HB.out | apply below_alloc | apply pw_below_drewN | apply below_drew1) | exact HB.out)) hb); have BK := Aside0.mk hbox; clear HB; have HB := n0_; clear n0_; have hz0 := (blk_cell BK.out 0).trans (show _ = some (.int .i64 kind : Value) from rfl); have hz1 := (blk_cell BK.out 1).trans (show _ = some (.string path : Value) from rfl); have hz2 := (blk_cell BK.out 2).trans (show _ = some (.string to_ : Value) from rfl); have hz3 := (blk_cell BK.out 3).trans (show _ = some (.int .i64 off : Value) from rfl); have hz4 := (blk_cell BK.out 4).trans (show _ = some (.int .i64 n : Value) from rfl); have hz5 := (blk_cell BK.out 5).trans (show _ = some (.slice A5 l5.length c5 : Value) from rfl); have hz6 := (blk_cell BK.out 6).trans (show _ = some (.int .i64 snap : Value) from rfl); clear hb hbox hg))
  go_region_with (go_at_call 37; refine (dolmenref26_words.calls refWords _ rfl).mono ?_; rintro e w2 ⟨v2, rfl, hR, hb⟩; have n0_ := Aside0.mk (below_step (by repeat (first | (with_reducible first | exact HB.out | apply below_alloc | apply pw_below_drewN | apply below_drew1) | exact HB.out)) hb); have n1_ := Aside0.mk (blk_below (g := gb) (o := .cells #[.int .i64 kind, .string path, .string to_, .int .i64 off, .int .i64 n, .slice A5 l5.length c5, .int .i64 snap] 24 (0, 0)) (by first | exact BK.out | exact blk_drew BK.out | exact blk_alloc BK.out _ | exact blk_drewN BK.out _) hb); clear HB BK; have HB := n0_; have BK := n1_; clear n0_ n1_ hb; have hz0 := (blk_cell BK.out 0).trans (show _ = some (.int .i64 kind : Value) from rfl); have hz1 := (blk_cell BK.out 1).trans (show _ = some (.string path : Value) from rfl); have hz2 := (blk_cell BK.out 2).trans (show _ = some (.string to_ : Value) from rfl); have hz3 := (blk_cell BK.out 3).trans (show _ = some (.int .i64 off : Value) from rfl); have hz4 := (blk_cell BK.out 4).trans (show _ = some (.int .i64 n : Value) from rfl); have hz5 := (blk_cell BK.out 5).trans (show _ = some (.slice A5 l5.length c5 : Value) from rfl); have hz6 := (blk_cell BK.out 6).trans (show _ = some (.int .i64 snap : Value) from rfl); obtain ⟨A2, c2, hv2, hc2, hC2⟩ := Kd.R_reads hR; have hv3 : v2 = .slice A2 15 c2 := hv2; subst hv3; obtain ⟨ad, e2, hx⟩ := Kd.at_string hC2 kind hk0 hk1; subst e2; obtain ⟨s, hs⟩ : ∃ s, s = rdOf ByteArray.empty refWords kind := ⟨_, rfl⟩; rw [← hs] at hx; have hsz : s.size ≤ 8 := (by rw [hs]; exact refWords_size _ hk0 hk1); clear hs hR hC2 hv2 hc2)
  all_goals (go_wp2_with (first | (go_at_call 40; refine (dolmenref26_good.calls 300001 path true _ hg).mono ?_; rintro e wg ⟨rfl, hb⟩; have n0_ := Aside0.mk (below_step (by repeat (first | (with_reducible first | exact HB.out | apply below_alloc | apply pw_below_drewN | apply below_drew1) | exact HB.out)) hb); have n1_ := Aside0.mk (blk_below (g := gb) (o := .cells #[.int .i64 kind, .string path, .string to_, .int .i64 off, .int .i64 n, .slice A5 l5.length c5, .int .i64 snap] 24 (0, 0)) (by first | exact BK.out | exact blk_drew BK.out | exact blk_alloc BK.out _ | exact blk_drewN BK.out _) hb); clear HB BK; have HB := n0_; have BK := n1_; clear n0_ n1_ hb; have hz0 := (blk_cell BK.out 0).trans (show _ = some (.int .i64 kind : Value) from rfl); have hz1 := (blk_cell BK.out 1).trans (show _ = some (.string path : Value) from rfl); have hz2 := (blk_cell BK.out 2).trans (show _ = some (.string to_ : Value) from rfl); have hz3 := (blk_cell BK.out 3).trans (show _ = some (.int .i64 off : Value) from rfl); have hz4 := (blk_cell BK.out 4).trans (show _ = some (.int .i64 n : Value) from rfl); have hz5 := (blk_cell BK.out 5).trans (show _ = some (.slice A5 l5.length c5 : Value) from rfl); have hz6 := (blk_cell BK.out 6).trans (show _ = some (.int .i64 snap : Value) from rfl); skip) | (go_at_call_of 38 (1 : Nat); refine (near_call1 hn _).mono ?_; rintro e wn48 ⟨rfl, hd_⟩; have n0_ := Aside0.mk (below_step (below_alloc HB.out _) hd_.below); have n1_ := Aside0.mk (blk_below (blk_alloc BK.out _) hd_.below); clear HB BK hd_; have HB := n0_; have BK := n1_; clear n0_ n1_; have hz0 := (blk_cell BK.out 0).trans (show _ = some (.int .i64 kind : Value) from rfl); have hz1 := (blk_cell BK.out 1).trans (show _ = some (.string path : Value) from rfl); have hz2 := (blk_cell BK.out 2).trans (show _ = some (.string to_ : Value) from rfl); have hz3 := (blk_cell BK.out 3).trans (show _ = some (.int .i64 off : Value) from rfl); have hz4 := (blk_cell BK.out 4).trans (show _ = some (.int .i64 n : Value) from rfl); have hz5 := (blk_cell BK.out 5).trans (show _ = some (.slice A5 l5.length c5 : Value) from rfl); have hz6 := (blk_cell BK.out 6).trans (show _ = some (.int .i64 snap : Value) from rfl); skip) | (go_at_call_of 38 (1 : Nat); refine (near_call1 hm _).mono ?_; rintro e wn113 ⟨rfl, hd_⟩; have n0_ := Aside0.mk (below_step (below_alloc HB.out _) hd_.below); have n1_ := Aside0.mk (blk_below (blk_alloc BK.out _) hd_.below); clear HB BK hd_; have HB := n0_; have BK := n1_; clear n0_ n1_; have hz0 := (blk_cell BK.out 0).trans (show _ = some (.int .i64 kind : Value) from rfl); have hz1 := (blk_cell BK.out 1).trans (show _ = some (.string path : Value) from rfl); have hz2 := (blk_cell BK.out 2).trans (show _ = some (.string to_ : Value) from rfl); have hz3 := (blk_cell BK.out 3).trans (show _ = some (.int .i64 off : Value) from rfl); have hz4 := (blk_cell BK.out 4).trans (show _ = some (.int .i64 n : Value) from rfl); have hz5 := (blk_cell BK.out 5).trans (show _ = some (.slice A5 l5.length c5 : Value) from rfl); have hz6 := (blk_cell BK.out 6).trans (show _ = some (.int .i64 snap : Value) from rfl); skip)))
  all_goals go_ret
  all_goals exact ⟨rfl, (by repeat (first | (with_reducible first | exact HB.out | apply below_alloc | apply pw_below_drewN | apply below_drew1) | exact HB.out))⟩

def noText : Option ByteArray := some ⟨#[]⟩
/-- The answer where there is no text; of the others nothing is said. -/
def dolmenref26_Op.f (kind : Int) (path to_ : ByteArray) (off n : Int) (data : List Int) (snap : Int) : Option ByteArray :=
  if kind < 1 then noText else if 14 < kind then noText
  else if kind = 13 then (if dolmenref26_near.f 5 [snap] = some false then noText else none)
  else if 11 < kind then none
  else if dolmenref26_good.f 300001 path = some false then noText
  else if dolmenref26_good.f 300001 path = some true ∧ path.size ≤ 200 then
    (if snap < 0 then noText
     else if dolmenref26_near.f 5 [snap] = some false then noText
     else if dolmenref26_near.f 5 [snap] = some true then
       (if kind = 5 ∨ kind = 6 then (if dolmenref26_good.f 300001 to_ = some false then noText else none)
        else if kind = 7 then (if dolmenref26_near.f 5 [off, n] = some false then noText else none)
        else if kind = 8 then (if dolmenref26_near.f 5 [off] = some false then noText else none)
        else if kind = 9 then (if dolmenref26_near.f 5 [n] = some false then noText else none)
        else none)
     else none)
  else none
theorem dolmenref26_Op.calls (kind : Int) (path to_ : ByteArray) (off n : Int) (A5 : Option Addr) (c5 : Nat) (l5 : List Int) (snap : Int) (r : ByteArray) (w : World) (hr5 : Kd.C (Kd.int .u8) w A5 l5.length l5) (hc5 : l5.length ≤ c5) (h : dolmenref26_Op.f kind path to_ off n l5 snap = some r) :
    Calls Tryz.prog 12 #[.agg #[.int .i64 kind, .string path, .string to_, .int .i64 off, .int .i64 n, .slice A5 l5.length c5, .int .i64 snap]] w fun e w' => e = .returned (.string r) ∧ Below w.heap.size w w' := by
  unfold dolmenref26_Op.f noText at h
  by_cases g1 : kind < 1
  · rw [if_pos g1] at h; cases h; exact refop_low kind path to_ off n A5 c5 l5 snap w g1
  rw [if_neg g1] at h
  by_cases g2 : 14 < kind
  · rw [if_pos g2] at h; cases h; exact refop_high kind path to_ off n A5 c5 l5 snap w g2
  rw [if_neg g2] at h
  by_cases g3 : kind = 13
  · rw [if_pos g3] at h
    split at h
    · rename_i hn
      cases h; exact refop_unsnap kind path to_ off n A5 c5 l5 snap w g3 hn
    · cases h
  rw [if_neg g3] at h
  by_cases g4 : 11 < kind
  · rw [if_pos g4] at h; cases h
  rw [if_neg g4] at h
  have hk : 1 ≤ kind ∧ kind ≤ 11 := by omega
  by_cases g5 : dolmenref26_good.f 300001 path = some false
  · rw [if_pos g5] at h; cases h; exact refop_path kind path to_ off n A5 c5 l5 snap w hk g5
  rw [if_neg g5] at h
  by_cases g6 : dolmenref26_good.f 300001 path = some true ∧ path.size ≤ 200
  · rw [if_pos g6] at h
    obtain ⟨hg, hz⟩ := g6
    by_cases g7 : snap < 0
    · rw [if_pos g7] at h; cases h; exact refop_neg kind path to_ off n A5 c5 l5 snap w hk hg g7
    rw [if_neg g7] at h
    have hs0 : 0 ≤ snap := by omega
    by_cases g8 : dolmenref26_near.f 5 [snap] = some false
    · rw [if_pos g8] at h; cases h; exact refop_snap kind path to_ off n A5 c5 l5 snap w hk hg hs0 g8
    rw [if_neg g8] at h
    by_cases g9 : dolmenref26_near.f 5 [snap] = some true
    · rw [if_pos g9] at h
      by_cases k5 : kind = 5 ∨ kind = 6
      · rw [if_pos k5] at h
        split at h
        · rename_i ht
          cases h
          rcases k5 with k5 | k5
          · exact refop_to5 kind path to_ off n A5 c5 l5 snap w k5 hg hz hs0 g9 ht
          · exact refop_to6 kind path to_ off n A5 c5 l5 snap w k5 hg hz hs0 g9 ht
        · cases h
      rw [if_neg k5] at h
      by_cases k7 : kind = 7
      · rw [if_pos k7] at h
        split at h
        · rename_i hm
          cases h; exact refop_read kind path to_ off n A5 c5 l5 snap w k7 hg hz hs0 g9 hm
        · cases h
      rw [if_neg k7] at h
      by_cases k8 : kind = 8
      · rw [if_pos k8] at h
        split at h
        · rename_i hm
          cases h; exact refop_write kind path to_ off n A5 c5 l5 snap w k8 hg hz hs0 g9 hm
        · cases h
      rw [if_neg k8] at h
      by_cases k9 : kind = 9
      · rw [if_pos k9] at h
        split at h
        · rename_i hm
          cases h; exact refop_trunc kind path to_ off n A5 c5 l5 snap w k9 hg hz hs0 g9 hm
        · cases h
      rw [if_neg k9] at h
      cases h
    · rw [if_neg g9] at h; cases h
  · rw [if_neg g6] at h; cases h
end Go.Proofs.YtcbmbjapcpbnnaaGreatDoor.G
