-- PRINTED BY print.sh 35421559b90ae4d0a3588c463048766b98c2df88dd9212a6774a882060cdf62d: not written by this session
import Derived.Test.YtfiddfbagbaofaaPFnExactGrantedx0
import Derived.Test.YtfiddfbagbaofaaPFnExactGrantedx1
namespace Go.Proofs.Ytfiddfbagbaofaa.PFnExactGranted
open Go.RowKit Go.Proofs.YtfiddfbagbaofaaW.PrintWords Go.Proofs.YtfiddfbagbaofaaW.PrintLast Go.Proofs.YtfiddfbagbaofaaW.PrintMore
attribute [local go_sem] max2_int min2_int max_two min_two max_three min_three max_four min_four   -- for this text's walks alone
set_option linter.unusedVariables false
set_option linter.unusedSimpArgs false

/-! ### impl_pte_grants: function 94 -/
def impl_pte_grants.j0 : Nat → Int → Int → Bool → Int → Bool → Bool → Int → Option (Bool)
  | 0, _, _, _, _, _, _, _ => none
  | k + 1, x0, x1, x7, x112000, x112001, x112002, x112003 => if x112000 = 0 then (if x7 = true then ((impl_pte_bit.f x0 4).bind fun t117 => (if t117 = true then ((impl_pte_bit.f x0 6).bind fun t118 => (some t118)) else (some false))) else (some false)) else (if x112000 = 1 then (if x7 = true then ((impl_pte_bit.f x0 4).bind fun t119 => (if t119 = true then (if x1 = 0 then (some false) else (if x112001 = true then ((impl_pte_bit.f x0 6).bind fun t120 => (some t120)) else (some false))) else ((impl_pte_bit.f x0 6).bind fun t121 => (some t121)))) else (some false)) else (some false))
def impl_pte_grants.f (k : Nat) (a0 : Int) (a1 : Int) (a2_0 : Int) (a2_1 : Bool) (a2_2 : Bool) (a2_3 : Int) : Option (Bool) := if a1 = 0 then ((impl_pte_bit.f a0 3).bind fun t112 => (impl_pte_grants.j0 k a0 a1 t112 a2_0 a2_1 a2_2 a2_3)) else (if a1 = 1 then ((impl_pte_bit.f a0 1).bind fun t113 => (if t113 = true then (impl_pte_grants.j0 k a0 a1 true a2_0 a2_1 a2_2 a2_3) else ((impl_pte_bit.f a0 3).bind fun t114 => (if t114 = true then (impl_pte_grants.j0 k a0 a1 a2_2 a2_0 a2_1 a2_2 a2_3) else (impl_pte_grants.j0 k a0 a1 false a2_0 a2_1 a2_2 a2_3))))) else (if a1 = 2 then ((impl_pte_bit.f a0 2).bind fun t115 => (if t115 = true then ((impl_pte_bit.f a0 7).bind fun t116 => (impl_pte_grants.j0 k a0 a1 t116 a2_0 a2_1 a2_2 a2_3)) else (impl_pte_grants.j0 k a0 a1 false a2_0 a2_1 a2_2 a2_3))) else (impl_pte_grants.j0 k a0 a1 false a2_0 a2_1 a2_2 a2_3)))
theorem impl_pte_grants.mono_l : ∀ k, (∀ y0 y1 y2 y3 y4 y5 y6, LeO (impl_pte_grants.j0 k y0 y1 y2 y3 y4 y5 y6) (impl_pte_grants.j0 (k + 1) y0 y1 y2 y3 y4 y5 y6))
  | 0 => fun _ _ _ _ _ _ _ r h => by simp [impl_pte_grants.j0] at h
  | k + 1 => by
    have ih0 := impl_pte_grants.mono_l k
    · intro y0 y1 y2 y3 y4 y5 y6
      unfold impl_pte_grants.j0
      repeat' first
      | (with_reducible exact ih0 _ _ _ _ _ _ _)
      | (with_reducible exact LeO.refl _)
      | (with_reducible exact LeO.none _)
      | (with_reducible refine LeO.ite ?_ ?_)
      | (with_reducible refine LeO.bind ?_ (fun _ => ?_))
      | exact ih0 _ _ _ _ _ _ _
      | exact LeO.none _
      | refine LeO.ite ?_ ?_
      | refine LeO.bind ?_ (fun _ => ?_)
theorem impl_pte_grants.mono : ∀ a0 a1 a2 a3 a4 a5 k, LeO (impl_pte_grants.f k a0 a1 a2 a3 a4 a5) (impl_pte_grants.f (k + 1) a0 a1 a2 a3 a4 a5) := by
  intro a0 a1 a2 a3 a4 a5 k
  have ih0 := impl_pte_grants.mono_l k
  unfold impl_pte_grants.f
  repeat' first
      | (with_reducible exact ih0 _ _ _ _ _ _ _)
      | (with_reducible exact LeO.refl _)
      | (with_reducible exact LeO.none _)
      | (with_reducible refine LeO.ite ?_ ?_)
      | (with_reducible refine LeO.bind ?_ (fun _ => ?_))
      | exact ih0 _ _ _ _ _ _ _
      | exact LeO.none _
      | refine LeO.ite ?_ ?_
      | refine LeO.bind ?_ (fun _ => ?_)
set_option maxHeartbeats 8000000 in
set_option maxRecDepth 100000 in
theorem impl_pte_grants.calls (k : Nat) (a0 : Int) (a1 : Int) (a2_0 : Int) (a2_1 : Bool) (a2_2 : Bool) (a2_3 : Int) (r : Bool) (w : World) (h : impl_pte_grants.f k a0 a1 a2_0 a2_1 a2_2 a2_3 = some r) :
    Calls Try.prog 94 #[.int .u64 a0, .int .i64 a1, .agg #[.int .i64 a2_0, .bool a2_1, .bool a2_2, .int .u64 a2_3]] w fun e w' => e = .returned (.bool r) ∧ Below w.heap.size w w' := by
  have hu86 := Try.underlying86
  have HB := Aside0.mk (Below.refl w.heap.size w)
  have H : (if a1 = 0 then ((impl_pte_bit.f a0 3).bind fun t112 => (impl_pte_grants.j0 k a0 a1 t112 a2_0 a2_1 a2_2 a2_3)) else (if a1 = 1 then ((impl_pte_bit.f a0 1).bind fun t113 => (if t113 = true then (impl_pte_grants.j0 k a0 a1 true a2_0 a2_1 a2_2 a2_3) else ((impl_pte_bit.f a0 3).bind fun t114 => (if t114 = true then (impl_pte_grants.j0 k a0 a1 a2_2 a2_0 a2_1 a2_2 a2_3) else (impl_pte_grants.j0 k a0 a1 false a2_0 a2_1 a2_2 a2_3))))) else (if a1 = 2 then ((impl_pte_bit.f a0 2).bind fun t115 => (if t115 = true then ((impl_pte_bit.f a0 7).bind fun t116 => (impl_pte_grants.j0 k a0 a1 t116 a2_0 a2_1 a2_2 a2_3)) else (impl_pte_grants.j0 k a0 a1 false a2_0 a2_1 a2_2 a2_3))) else (impl_pte_grants.j0 k a0 a1 false a2_0 a2_1 a2_2 a2_3)))) = some r := h
  clear h
  have HC4 := Aside0.mk H
  clear H
  go_enter Try.func94, Try.ntmps94
  go_upto_block 0 with (first | ((with_reducible refine gate_dst (N := 5) rfl ?_); refine box_event ?hg (N := 5) ?hd (cs := #[.int .i64 a2_0, .bool a2_1, .bool a2_2, .int .u64 a2_3]) (t := 86) ?hr ?_; (case hd => rfl); (case hg => rfl); (case hr => first | (go_simp; done) | (go_simp; rfl)); intro gb111 hg w5 hbox hb; have n0_ := Aside0.mk (below_step (by repeat (first | (with_reducible first | exact HB.out | apply below_alloc | apply pw_below_drewN | apply below_drew1) | exact HB.out)) hb); have n1_ := Aside0.mk (hbox); have n2_ := Aside0.mk ((by rw [hg]; exact (below_size (by repeat (first | (with_reducible first | exact HB.out | apply below_alloc | apply pw_below_drewN | apply below_drew1) | exact HB.out))) : w.heap.size ≤ gb111)); have n3_ := Aside0.mk ((by rw [hg]; exact (below_size (by repeat (first | (with_reducible first | exact HB.out | apply below_alloc | apply pw_below_drewN | apply below_drew1) | exact HB.out))) : w.heap.size ≤ gb111)); clear HB; have HB := n0_; have BK111 := n1_; have GW111 := n2_; have GE111 := n3_; clear n0_ n1_ n2_ n3_; clear hb hbox hg))
  (try simp only [Act.put, List.setIfInBounds_toArray, List.set_cons_zero, List.set_cons_succ])
  go_cut [7] (fun v7 wc => ∃ (kq : Nat) (x7_3 : Bool), v7 = .bool x7_3 ∧ Aside0 (impl_pte_grants.j0 kq a0 a1 x7_3 a2_0 a2_1 a2_2 a2_3 = some r) ∧ Aside0 (kq ≤ k) ∧ Aside0 (wc.heap[gb111]? = some (.cells #[.int .i64 a2_0, .bool a2_1, .bool a2_2, .int .u64 a2_3] 86 (0, 0))) ∧ Aside0 (Below w.heap.size w wc))
  case first =>
    have H := HC4.out
    clear HC4
    by_cases c6 : a1 = 0
    · rw [if_pos c6] at H
      have c6b0 : (a1 == 0) = true := beq_iff_eq.mpr c6
      have c6b1 : (a1 != 0) = false := bne_eq_false_iff_eq.mpr c6
      clear c6
      (first | rw [c6b0] | (simp only [i64_w, i32_w]; rw [c6b0]) | skip)
      replace H := Option.bind_eq_some_iff.mp H
      obtain ⟨t112, A70, H⟩ := H
      replace H : (impl_pte_grants.j0 k a0 a1 t112 a2_0 a2_1 a2_2 a2_3) = some r := H
      have A7 := Aside0.mk A70
      clear A70
      have H' := Aside0.mk H
      clear H
      go_wp2_with (first | ((with_reducible refine gate_callee (f := 182) rfl ?_); refine goesL_ (some 12) rfl rfl Try.func182 (by kernel_rfl) rfl #[.int .u64 a0, .int .i64 3] rfl (by (try simp only [List.map_toArray, List.map_cons, List.map_nil]); first | done | rfl | (simp only [List.length_drop, List.length_take]; rfl)) ?_; (with_reducible refine (impl_pte_bit.calls a0 3 t112 _ A7.out).mono ?_); rintro e w' ⟨rfl, ⟨nd, rfl⟩⟩; refine ⟨_, rfl, ?_⟩))
      go_meet
      case rel => exact ⟨_, (t112), (by first | rfl | (simp; done) | (simp [*]; done)), H', ⟨by first | omega | exact Nat.le_refl _⟩, ⟨by (with_reducible repeat (first | refine blk_drewN ?_ _ | refine blk_drew ?_ | refine blk_alloc ?_ _)); exact BK111.out⟩, ⟨by repeat (first | (with_reducible first | exact HB.out | apply below_alloc | apply pw_below_drewN | apply below_drew1 | refine below_set ?_ GE111.out) | exact HB.out)⟩⟩
    · rw [if_neg c6] at H
      have c6b0 : (a1 == 0) = false := beq_eq_false_iff_ne.mpr c6
      have c6b1 : (a1 != 0) = true := bne_iff_ne.mpr c6
      (first | rw [c6b0] | (simp only [i64_w, i32_w]; rw [c6b0]) | skip)
      by_cases c8 : a1 = 1
      · rw [if_pos c8] at H
        have c8b0 : (a1 == 1) = true := beq_iff_eq.mpr c8
        have c8b1 : (a1 != 1) = false := bne_eq_false_iff_eq.mpr c8
        clear c8
        replace H := Option.bind_eq_some_iff.mp H
        obtain ⟨t113, A90, H⟩ := H
        replace H : (if t113 = true then (impl_pte_grants.j0 k a0 a1 true a2_0 a2_1 a2_2 a2_3) else ((impl_pte_bit.f a0 3).bind fun t114 => (if t114 = true then (impl_pte_grants.j0 k a0 a1 a2_2 a2_0 a2_1 a2_2 a2_3) else (impl_pte_grants.j0 k a0 a1 false a2_0 a2_1 a2_2 a2_3)))) = some r := H
        have A9 := Aside0.mk A90
        clear A90
        by_cases c10 : t113 = true
        · subst c10
          have H1 : (impl_pte_grants.j0 k a0 a1 true a2_0 a2_1 a2_2 a2_3) = some r := by rw [if_pos rfl] at H; exact H
          clear H
          have H := H1
          clear H1
          have H' := Aside0.mk H
          clear H
          go_wp2_with (first | ((with_reducible refine gate_callee (f := 182) rfl ?_); refine goesL_ (some 16) rfl rfl Try.func182 (by kernel_rfl) rfl #[.int .u64 a0, .int .i64 1] rfl (by (try simp only [List.map_toArray, List.map_cons, List.map_nil]); first | done | rfl | (simp only [List.length_drop, List.length_take]; rfl)) ?_; (with_reducible refine (impl_pte_bit.calls a0 1 true _ A9.out).mono ?_); rintro e w' ⟨rfl, ⟨nd, rfl⟩⟩; refine ⟨_, rfl, ?_⟩))
          go_meet
          case rel => exact ⟨_, (true), (by first | rfl | (simp; done) | (simp [*]; done)), H', ⟨by first | omega | exact Nat.le_refl _⟩, ⟨by (with_reducible repeat (first | refine blk_drewN ?_ _ | refine blk_drew ?_ | refine blk_alloc ?_ _)); exact BK111.out⟩, ⟨by repeat (first | (with_reducible first | exact HB.out | apply below_alloc | apply pw_below_drewN | apply below_drew1 | refine below_set ?_ GE111.out) | exact HB.out)⟩⟩
        · replace c10 := Bool.eq_false_iff.mpr c10
          subst c10
          have H1 : ((impl_pte_bit.f a0 3).bind fun t114 => (if t114 = true then (impl_pte_grants.j0 k a0 a1 a2_2 a2_0 a2_1 a2_2 a2_3) else (impl_pte_grants.j0 k a0 a1 false a2_0 a2_1 a2_2 a2_3))) = some r := by rw [if_neg (show ¬ (false = true) by decide)] at H; exact H
          clear H
          have H := H1
          clear H1
          replace H := Option.bind_eq_some_iff.mp H
          obtain ⟨t114, A110, H⟩ := H
          replace H : (if t114 = true then (impl_pte_grants.j0 k a0 a1 a2_2 a2_0 a2_1 a2_2 a2_3) else (impl_pte_grants.j0 k a0 a1 false a2_0 a2_1 a2_2 a2_3)) = some r := H
          have A11 := Aside0.mk A110
          clear A110
          by_cases c12 : t114 = true
          · subst c12
            have H1 : (impl_pte_grants.j0 k a0 a1 a2_2 a2_0 a2_1 a2_2 a2_3) = some r := by rw [if_pos rfl] at H; exact H
            clear H
            have H := H1
            clear H1
            have H' := Aside0.mk H
            clear H
            go_wp2_with (first | ((with_reducible refine gate_callee (f := 182) rfl ?_); refine goesL_ (some 16) rfl rfl Try.func182 (by kernel_rfl) rfl #[.int .u64 a0, .int .i64 1] rfl (by (try simp only [List.map_toArray, List.map_cons, List.map_nil]); first | done | rfl | (simp only [List.length_drop, List.length_take]; rfl)) ?_; (with_reducible refine (impl_pte_bit.calls a0 1 false _ A9.out).mono ?_); rintro e w' ⟨rfl, ⟨nd, rfl⟩⟩; refine ⟨_, rfl, ?_⟩) | (go_at_call 182; (with_reducible refine (impl_pte_bit.calls a0 3 true _ A11.out).mono ?_); rintro e w' ⟨rfl, ⟨nd, rfl⟩⟩; have hcz13_0 : w5.cell? ⟨gb111, 0, none⟩ = some (.int .i64 a2_0) := (blk_cell BK111.out 0).trans rfl; have hcz13_1 : w5.cell? ⟨gb111, 1, none⟩ = some (.bool a2_1) := (blk_cell BK111.out 1).trans rfl; have hcz13_2 : w5.cell? ⟨gb111, 2, none⟩ = some (.bool a2_2) := (blk_cell BK111.out 2).trans rfl; have hcz13_3 : w5.cell? ⟨gb111, 3, none⟩ = some (.int .u64 a2_3) := (blk_cell BK111.out 3).trans rfl; have hfz13_0 := blk_frozen BK111.out 0; have hfz13_1 := blk_frozen BK111.out 1; have hfz13_2 := blk_frozen BK111.out 2; have hfz13_3 := blk_frozen BK111.out 3))
            go_meet
            case rel => exact ⟨_, (a2_2), (by first | rfl | (simp; done) | (simp [*]; done)), H', ⟨by first | omega | exact Nat.le_refl _⟩, ⟨by (with_reducible repeat (first | refine blk_drewN ?_ _ | refine blk_drew ?_ | refine blk_alloc ?_ _)); exact BK111.out⟩, ⟨by repeat (first | (with_reducible first | exact HB.out | apply below_alloc | apply pw_below_drewN | apply below_drew1 | refine below_set ?_ GE111.out) | exact HB.out)⟩⟩
          · replace c12 := Bool.eq_false_iff.mpr c12
            subst c12
            have H1 : (impl_pte_grants.j0 k a0 a1 false a2_0 a2_1 a2_2 a2_3) = some r := by rw [if_neg (show ¬ (false = true) by decide)] at H; exact H
            clear H
            have H := H1
            clear H1
            have H' := Aside0.mk H
            clear H
            go_wp2_with (first | ((with_reducible refine gate_callee (f := 182) rfl ?_); refine goesL_ (some 16) rfl rfl Try.func182 (by kernel_rfl) rfl #[.int .u64 a0, .int .i64 1] rfl (by (try simp only [List.map_toArray, List.map_cons, List.map_nil]); first | done | rfl | (simp only [List.length_drop, List.length_take]; rfl)) ?_; (with_reducible refine (impl_pte_bit.calls a0 1 false _ A9.out).mono ?_); rintro e w' ⟨rfl, ⟨nd, rfl⟩⟩; refine ⟨_, rfl, ?_⟩) | (go_at_call 182; (with_reducible refine (impl_pte_bit.calls a0 3 false _ A11.out).mono ?_); rintro e w' ⟨rfl, ⟨nd, rfl⟩⟩))
            go_meet
            case rel => exact ⟨_, (false), (by first | rfl | (simp; done) | (simp [*]; done)), H', ⟨by first | omega | exact Nat.le_refl _⟩, ⟨by (with_reducible repeat (first | refine blk_drewN ?_ _ | refine blk_drew ?_ | refine blk_alloc ?_ _)); exact BK111.out⟩, ⟨by repeat (first | (with_reducible first | exact HB.out | apply below_alloc | apply pw_below_drewN | apply below_drew1 | refine below_set ?_ GE111.out) | exact HB.out)⟩⟩
      · rw [if_neg c8] at H
        have c8b0 : (a1 == 1) = false := beq_eq_false_iff_ne.mpr c8
        have c8b1 : (a1 != 1) = true := bne_iff_ne.mpr c8
        by_cases c14 : a1 = 2
        · rw [if_pos c14] at H
          have c14b0 : (a1 == 2) = true := beq_iff_eq.mpr c14
          have c14b1 : (a1 != 2) = false := bne_eq_false_iff_eq.mpr c14
          clear c14
          replace H := Option.bind_eq_some_iff.mp H
          obtain ⟨t115, A150, H⟩ := H
          replace H : (if t115 = true then ((impl_pte_bit.f a0 7).bind fun t116 => (impl_pte_grants.j0 k a0 a1 t116 a2_0 a2_1 a2_2 a2_3)) else (impl_pte_grants.j0 k a0 a1 false a2_0 a2_1 a2_2 a2_3)) = some r := H
          have A15 := Aside0.mk A150
          clear A150
          by_cases c16 : t115 = true
          · subst c16
            have H1 : ((impl_pte_bit.f a0 7).bind fun t116 => (impl_pte_grants.j0 k a0 a1 t116 a2_0 a2_1 a2_2 a2_3)) = some r := by rw [if_pos rfl] at H; exact H
            clear H
            have H := H1
            clear H1
            replace H := Option.bind_eq_some_iff.mp H
            obtain ⟨t116, A170, H⟩ := H
            replace H : (impl_pte_grants.j0 k a0 a1 t116 a2_0 a2_1 a2_2 a2_3) = some r := H
            have A17 := Aside0.mk A170
            clear A170
            have H' := Aside0.mk H
            clear H
            go_wp2_with (first | ((with_reducible refine gate_callee (f := 182) rfl ?_); refine goesL_ (some 28) rfl rfl Try.func182 (by kernel_rfl) rfl #[.int .u64 a0, .int .i64 2] rfl (by (try simp only [List.map_toArray, List.map_cons, List.map_nil]); first | done | rfl | (simp only [List.length_drop, List.length_take]; rfl)) ?_; (with_reducible refine (impl_pte_bit.calls a0 2 true _ A15.out).mono ?_); rintro e w' ⟨rfl, ⟨nd, rfl⟩⟩; refine ⟨_, rfl, ?_⟩) | (go_at_call 182; (with_reducible refine (impl_pte_bit.calls a0 7 t116 _ A17.out).mono ?_); rintro e w' ⟨rfl, ⟨nd, rfl⟩⟩))
            go_meet
            case rel => exact ⟨_, (t116), (by first | rfl | (simp; done) | (simp [*]; done)), H', ⟨by first | omega | exact Nat.le_refl _⟩, ⟨by (with_reducible repeat (first | refine blk_drewN ?_ _ | refine blk_drew ?_ | refine blk_alloc ?_ _)); exact BK111.out⟩, ⟨by repeat (first | (with_reducible first | exact HB.out | apply below_alloc | apply pw_below_drewN | apply below_drew1 | refine below_set ?_ GE111.out) | exact HB.out)⟩⟩
          · replace c16 := Bool.eq_false_iff.mpr c16
            subst c16
            have H1 : (impl_pte_grants.j0 k a0 a1 false a2_0 a2_1 a2_2 a2_3) = some r := by rw [if_neg (show ¬ (false = true) by decide)] at H; exact H
            clear H
            have H := H1
            clear H1
            have H' := Aside0.mk H
            clear H
            go_wp2_with (first | ((with_reducible refine gate_callee (f := 182) rfl ?_); refine goesL_ (some 28) rfl rfl Try.func182 (by kernel_rfl) rfl #[.int .u64 a0, .int .i64 2] rfl (by (try simp only [List.map_toArray, List.map_cons, List.map_nil]); first | done | rfl | (simp only [List.length_drop, List.length_take]; rfl)) ?_; (with_reducible refine (impl_pte_bit.calls a0 2 false _ A15.out).mono ?_); rintro e w' ⟨rfl, ⟨nd, rfl⟩⟩; refine ⟨_, rfl, ?_⟩))
            go_meet
            case rel => exact ⟨_, (false), (by first | rfl | (simp; done) | (simp [*]; done)), H', ⟨by first | omega | exact Nat.le_refl _⟩, ⟨by (with_reducible repeat (first | refine blk_drewN ?_ _ | refine blk_drew ?_ | refine blk_alloc ?_ _)); exact BK111.out⟩, ⟨by repeat (first | (with_reducible first | exact HB.out | apply below_alloc | apply pw_below_drewN | apply below_drew1 | refine below_set ?_ GE111.out) | exact HB.out)⟩⟩
        · rw [if_neg c14] at H
          have c14b0 : (a1 == 2) = false := beq_eq_false_iff_ne.mpr c14
          have c14b1 : (a1 != 2) = true := bne_iff_ne.mpr c14
          have H' := Aside0.mk H
          clear H
          go_wp2
          go_meet
          case rel => exact ⟨_, (false), (by first | rfl | (simp; done) | (simp [*]; done)), H', ⟨by first | omega | exact Nat.le_refl _⟩, ⟨by (with_reducible repeat (first | refine blk_drewN ?_ _ | refine blk_drew ?_ | refine blk_alloc ?_ _)); exact BK111.out⟩, ⟨by repeat (first | (with_reducible first | exact HB.out | apply below_alloc | apply pw_below_drewN | apply below_drew1 | refine below_set ?_ GE111.out) | exact HB.out)⟩⟩
  case rest =>
    clear HC4
    try clear c1
    try clear p2
    try clear c6
    try clear c6b0
    try clear c6b1
    try clear c8
    try clear c8b0
    try clear c8b1
    try clear c9
    try clear c10
    try clear c12
    try clear c14
    try clear c14b0
    try clear c14b1
    try clear c16
    try clear hcz13_0
    try clear hcz13_1
    try clear hcz13_2
    try clear hcz13_3
    try clear hfz13_0
    try clear hfz13_1
    try clear hfz13_2
    try clear hfz13_3
    obtain ⟨kq, x7_3, rfl, HA, HJ3, BK111, HB⟩ := hcut
    cases kq with
    | zero => exact absurd HA.out (by simp [impl_pte_grants.j0])
    | succ kj3 =>
      have H := HA.out
      clear HA
      simp only [impl_pte_grants.j0] at H
      by_cases c18 : a2_0 = 0
      · rw [if_pos c18] at H
        have c18b0 : (a2_0 == 0) = true := beq_iff_eq.mpr c18
        have c18b1 : (a2_0 != 0) = false := bne_eq_false_iff_eq.mpr c18
        clear c18
        by_cases c19 : x7_3 = true
        · subst c19
          have H1 : ((impl_pte_bit.f a0 4).bind fun t117 => (if t117 = true then ((impl_pte_bit.f a0 6).bind fun t118 => (some t118)) else (some false))) = some r := by rw [if_pos rfl] at H; exact H
          clear H
          have H := H1
          clear H1
          replace H := Option.bind_eq_some_iff.mp H
          obtain ⟨t117, A200, H⟩ := H
          replace H : (if t117 = true then ((impl_pte_bit.f a0 6).bind fun t118 => (some t118)) else (some false)) = some r := H
          have A20 := Aside0.mk A200
          clear A200
          by_cases c21 : t117 = true
          · subst c21
            have H1 : ((impl_pte_bit.f a0 6).bind fun t118 => (some t118)) = some r := by rw [if_pos rfl] at H; exact H
            clear H
            have H := H1
            clear H1
            replace H := Option.bind_eq_some_iff.mp H
            obtain ⟨t118, A220, H⟩ := H
            replace H : (some t118) = some r := H
            have A22 := Aside0.mk A220
            clear A220
            obtain rfl := Option.some.inj H
            have hcz23_0 : wc.cell? ⟨gb111, 0, none⟩ = some (.int .i64 a2_0) := (blk_cell BK111.out 0).trans rfl
            have hcz23_1 : wc.cell? ⟨gb111, 1, none⟩ = some (.bool a2_1) := (blk_cell BK111.out 1).trans rfl
            have hcz23_2 : wc.cell? ⟨gb111, 2, none⟩ = some (.bool a2_2) := (blk_cell BK111.out 2).trans rfl
            have hcz23_3 : wc.cell? ⟨gb111, 3, none⟩ = some (.int .u64 a2_3) := (blk_cell BK111.out 3).trans rfl
            have hfz23_0 := blk_frozen BK111.out 0
            have hfz23_1 := blk_frozen BK111.out 1
            have hfz23_2 := blk_frozen BK111.out 2
            have hfz23_3 := blk_frozen BK111.out 3
            go_wp2_with (first | (go_at_call 182; (with_reducible refine (impl_pte_bit.calls a0 4 true _ A20.out).mono ?_); rintro e w' ⟨rfl, ⟨nd, rfl⟩⟩) | (go_at_call 182; (with_reducible refine (impl_pte_bit.calls a0 6 t118 _ A22.out).mono ?_); rintro e w' ⟨rfl, ⟨nd, rfl⟩⟩))
            go_ret
            exact ⟨by first | rfl | (simp [errW_none, errW_some] <;> rfl) | (simp [*, errW_none, errW_some] <;> rfl), by repeat (first | (with_reducible first | exact HB.out | apply below_alloc | apply pw_below_drewN | apply below_drew1 | refine below_set ?_ GE111.out) | exact HB.out)⟩
          · replace c21 := Bool.eq_false_iff.mpr c21
            subst c21
            have H1 : (some false) = some r := by rw [if_neg (show ¬ (false = true) by decide)] at H; exact H
            clear H
            have H := H1
            clear H1
            obtain rfl := Option.some.inj H
            have hcz24_0 : wc.cell? ⟨gb111, 0, none⟩ = some (.int .i64 a2_0) := (blk_cell BK111.out 0).trans rfl
            have hcz24_1 : wc.cell? ⟨gb111, 1, none⟩ = some (.bool a2_1) := (blk_cell BK111.out 1).trans rfl
            have hcz24_2 : wc.cell? ⟨gb111, 2, none⟩ = some (.bool a2_2) := (blk_cell BK111.out 2).trans rfl
            have hcz24_3 : wc.cell? ⟨gb111, 3, none⟩ = some (.int .u64 a2_3) := (blk_cell BK111.out 3).trans rfl
            have hfz24_0 := blk_frozen BK111.out 0
            have hfz24_1 := blk_frozen BK111.out 1
            have hfz24_2 := blk_frozen BK111.out 2
            have hfz24_3 := blk_frozen BK111.out 3
            go_wp2_with (first | (go_at_call 182; (with_reducible refine (impl_pte_bit.calls a0 4 false _ A20.out).mono ?_); rintro e w' ⟨rfl, ⟨nd, rfl⟩⟩))
            go_ret
            exact ⟨by first | rfl | (simp [errW_none, errW_some] <;> rfl) | (simp [*, errW_none, errW_some] <;> rfl), by repeat (first | (with_reducible first | exact HB.out | apply below_alloc | apply pw_below_drewN | apply below_drew1 | refine below_set ?_ GE111.out) | exact HB.out)⟩
        · replace c19 := Bool.eq_false_iff.mpr c19
          subst c19
          have H1 : (some false) = some r := by rw [if_neg (show ¬ (false = true) by decide)] at H; exact H
          clear H
          have H := H1
          clear H1
          obtain rfl := Option.some.inj H
          have hcz25_0 : wc.cell? ⟨gb111, 0, none⟩ = some (.int .i64 a2_0) := (blk_cell BK111.out 0).trans rfl
          have hcz25_1 : wc.cell? ⟨gb111, 1, none⟩ = some (.bool a2_1) := (blk_cell BK111.out 1).trans rfl
          have hcz25_2 : wc.cell? ⟨gb111, 2, none⟩ = some (.bool a2_2) := (blk_cell BK111.out 2).trans rfl
          have hcz25_3 : wc.cell? ⟨gb111, 3, none⟩ = some (.int .u64 a2_3) := (blk_cell BK111.out 3).trans rfl
          have hfz25_0 := blk_frozen BK111.out 0
          have hfz25_1 := blk_frozen BK111.out 1
          have hfz25_2 := blk_frozen BK111.out 2
          have hfz25_3 := blk_frozen BK111.out 3
          go_wp2
          go_ret
          exact ⟨by first | rfl | (simp [errW_none, errW_some] <;> rfl) | (simp [*, errW_none, errW_some] <;> rfl), by repeat (first | (with_reducible first | exact HB.out | apply below_alloc | apply pw_below_drewN | apply below_drew1 | refine below_set ?_ GE111.out) | exact HB.out)⟩
      · rw [if_neg c18] at H
        have c18b0 : (a2_0 == 0) = false := beq_eq_false_iff_ne.mpr c18
        have c18b1 : (a2_0 != 0) = true := bne_iff_ne.mpr c18
        by_cases c26 : a2_0 = 1
        · rw [if_pos c26] at H
          have c26b0 : (a2_0 == 1) = true := beq_iff_eq.mpr c26
          have c26b1 : (a2_0 != 1) = false := bne_eq_false_iff_eq.mpr c26
          clear c26
          by_cases c27 : x7_3 = true
          · subst c27
            have H1 : ((impl_pte_bit.f a0 4).bind fun t119 => (if t119 = true then (if a1 = 0 then (some false) else (if a2_1 = true then ((impl_pte_bit.f a0 6).bind fun t120 => (some t120)) else (some false))) else ((impl_pte_bit.f a0 6).bind fun t121 => (some t121)))) = some r := by rw [if_pos rfl] at H; exact H
            clear H
            have H := H1
            clear H1
            replace H := Option.bind_eq_some_iff.mp H
            obtain ⟨t119, A280, H⟩ := H
            replace H : (if t119 = true then (if a1 = 0 then (some false) else (if a2_1 = true then ((impl_pte_bit.f a0 6).bind fun t120 => (some t120)) else (some false))) else ((impl_pte_bit.f a0 6).bind fun t121 => (some t121))) = some r := H
            have A28 := Aside0.mk A280
            clear A280
            by_cases c29 : t119 = true
            · subst c29
              have H1 : (if a1 = 0 then (some false) else (if a2_1 = true then ((impl_pte_bit.f a0 6).bind fun t120 => (some t120)) else (some false))) = some r := by rw [if_pos rfl] at H; exact H
              clear H
              have H := H1
              clear H1
              by_cases c30 : a1 = 0
              · rw [if_pos c30] at H
                have c30b0 : (a1 == 0) = true := beq_iff_eq.mpr c30
                have c30b1 : (a1 != 0) = false := bne_eq_false_iff_eq.mpr c30
                clear c30
                obtain rfl := Option.some.inj H
                have hcz31_0 : wc.cell? ⟨gb111, 0, none⟩ = some (.int .i64 a2_0) := (blk_cell BK111.out 0).trans rfl
                have hcz31_1 : wc.cell? ⟨gb111, 1, none⟩ = some (.bool a2_1) := (blk_cell BK111.out 1).trans rfl
                have hcz31_2 : wc.cell? ⟨gb111, 2, none⟩ = some (.bool a2_2) := (blk_cell BK111.out 2).trans rfl
                have hcz31_3 : wc.cell? ⟨gb111, 3, none⟩ = some (.int .u64 a2_3) := (blk_cell BK111.out 3).trans rfl
                have hfz31_0 := blk_frozen BK111.out 0
                have hfz31_1 := blk_frozen BK111.out 1
                have hfz31_2 := blk_frozen BK111.out 2
                have hfz31_3 := blk_frozen BK111.out 3
                go_wp2_with (first | (go_at_call 182; (with_reducible refine (impl_pte_bit.calls a0 4 true _ A28.out).mono ?_); rintro e w' ⟨rfl, ⟨nd, rfl⟩⟩))
                go_ret
                exact ⟨by first | rfl | (simp [errW_none, errW_some] <;> rfl) | (simp [*, errW_none, errW_some] <;> rfl), by repeat (first | (with_reducible first | exact HB.out | apply below_alloc | apply pw_below_drewN | apply below_drew1 | refine below_set ?_ GE111.out) | exact HB.out)⟩
              · rw [if_neg c30] at H
                have c30b0 : (a1 == 0) = false := beq_eq_false_iff_ne.mpr c30
                have c30b1 : (a1 != 0) = true := bne_iff_ne.mpr c30
                by_cases c32 : a2_1 = true
                · subst c32
                  have H1 : ((impl_pte_bit.f a0 6).bind fun t120 => (some t120)) = some r := by rw [if_pos rfl] at H; exact H
                  clear H
                  have H := H1
                  clear H1
                  replace H := Option.bind_eq_some_iff.mp H
                  obtain ⟨t120, A330, H⟩ := H
                  replace H : (some t120) = some r := H
                  have A33 := Aside0.mk A330
                  clear A330
                  obtain rfl := Option.some.inj H
                  have hcz34_0 : wc.cell? ⟨gb111, 0, none⟩ = some (.int .i64 a2_0) := (blk_cell BK111.out 0).trans rfl
                  have hcz34_1 : wc.cell? ⟨gb111, 1, none⟩ = some (.bool true) := (blk_cell BK111.out 1).trans rfl
                  have hcz34_2 : wc.cell? ⟨gb111, 2, none⟩ = some (.bool a2_2) := (blk_cell BK111.out 2).trans rfl
                  have hcz34_3 : wc.cell? ⟨gb111, 3, none⟩ = some (.int .u64 a2_3) := (blk_cell BK111.out 3).trans rfl
                  have hfz34_0 := blk_frozen BK111.out 0
                  have hfz34_1 := blk_frozen BK111.out 1
                  have hfz34_2 := blk_frozen BK111.out 2
                  have hfz34_3 := blk_frozen BK111.out 3
                  go_wp2_with (first | (go_at_call 182; (with_reducible refine (impl_pte_bit.calls a0 4 true _ A28.out).mono ?_); rintro e w' ⟨rfl, ⟨nd, rfl⟩⟩) | (go_at_call 182; (with_reducible refine (impl_pte_bit.calls a0 6 t120 _ A33.out).mono ?_); rintro e w' ⟨rfl, ⟨nd, rfl⟩⟩))
                  go_ret
                  exact ⟨by first | rfl | (simp [errW_none, errW_some] <;> rfl) | (simp [*, errW_none, errW_some] <;> rfl), by repeat (first | (with_reducible first | exact HB.out | apply below_alloc | apply pw_below_drewN | apply below_drew1 | refine below_set ?_ GE111.out) | exact HB.out)⟩
                · replace c32 := Bool.eq_false_iff.mpr c32
                  subst c32
                  have H1 : (some false) = some r := by rw [if_neg (show ¬ (false = true) by decide)] at H; exact H
                  clear H
                  have H := H1
                  clear H1
                  obtain rfl := Option.some.inj H
                  have hcz35_0 : wc.cell? ⟨gb111, 0, none⟩ = some (.int .i64 a2_0) := (blk_cell BK111.out 0).trans rfl
                  have hcz35_1 : wc.cell? ⟨gb111, 1, none⟩ = some (.bool false) := (blk_cell BK111.out 1).trans rfl
                  have hcz35_2 : wc.cell? ⟨gb111, 2, none⟩ = some (.bool a2_2) := (blk_cell BK111.out 2).trans rfl
                  have hcz35_3 : wc.cell? ⟨gb111, 3, none⟩ = some (.int .u64 a2_3) := (blk_cell BK111.out 3).trans rfl
                  have hfz35_0 := blk_frozen BK111.out 0
                  have hfz35_1 := blk_frozen BK111.out 1
                  have hfz35_2 := blk_frozen BK111.out 2
                  have hfz35_3 := blk_frozen BK111.out 3
                  go_wp2_with (first | (go_at_call 182; (with_reducible refine (impl_pte_bit.calls a0 4 true _ A28.out).mono ?_); rintro e w' ⟨rfl, ⟨nd, rfl⟩⟩))
                  go_ret
                  exact ⟨by first | rfl | (simp [errW_none, errW_some] <;> rfl) | (simp [*, errW_none, errW_some] <;> rfl), by repeat (first | (with_reducible first | exact HB.out | apply below_alloc | apply pw_below_drewN | apply below_drew1 | refine below_set ?_ GE111.out) | exact HB.out)⟩
            · replace c29 := Bool.eq_false_iff.mpr c29
              subst c29
              have H1 : ((impl_pte_bit.f a0 6).bind fun t121 => (some t121)) = some r := by rw [if_neg (show ¬ (false = true) by decide)] at H; exact H
              clear H
              have H := H1
              clear H1
              replace H := Option.bind_eq_some_iff.mp H
              obtain ⟨t121, A360, H⟩ := H
              replace H : (some t121) = some r := H
              have A36 := Aside0.mk A360
              clear A360
              obtain rfl := Option.some.inj H
              have hcz37_0 : wc.cell? ⟨gb111, 0, none⟩ = some (.int .i64 a2_0) := (blk_cell BK111.out 0).trans rfl
              have hcz37_1 : wc.cell? ⟨gb111, 1, none⟩ = some (.bool a2_1) := (blk_cell BK111.out 1).trans rfl
              have hcz37_2 : wc.cell? ⟨gb111, 2, none⟩ = some (.bool a2_2) := (blk_cell BK111.out 2).trans rfl
              have hcz37_3 : wc.cell? ⟨gb111, 3, none⟩ = some (.int .u64 a2_3) := (blk_cell BK111.out 3).trans rfl
              have hfz37_0 := blk_frozen BK111.out 0
              have hfz37_1 := blk_frozen BK111.out 1
              have hfz37_2 := blk_frozen BK111.out 2
              have hfz37_3 := blk_frozen BK111.out 3
              go_wp2_with (first | (go_at_call 182; (with_reducible refine (impl_pte_bit.calls a0 4 false _ A28.out).mono ?_); rintro e w' ⟨rfl, ⟨nd, rfl⟩⟩) | (go_at_call 182; (with_reducible refine (impl_pte_bit.calls a0 6 t121 _ A36.out).mono ?_); rintro e w' ⟨rfl, ⟨nd, rfl⟩⟩))
              go_ret
              exact ⟨by first | rfl | (simp [errW_none, errW_some] <;> rfl) | (simp [*, errW_none, errW_some] <;> rfl), by repeat (first | (with_reducible first | exact HB.out | apply below_alloc | apply pw_below_drewN | apply below_drew1 | refine below_set ?_ GE111.out) | exact HB.out)⟩
          · replace c27 := Bool.eq_false_iff.mpr c27
            subst c27
            have H1 : (some false) = some r := by rw [if_neg (show ¬ (false = true) by decide)] at H; exact H
            clear H
            have H := H1
            clear H1
            obtain rfl := Option.some.inj H
            have hcz38_0 : wc.cell? ⟨gb111, 0, none⟩ = some (.int .i64 a2_0) := (blk_cell BK111.out 0).trans rfl
            have hcz38_1 : wc.cell? ⟨gb111, 1, none⟩ = some (.bool a2_1) := (blk_cell BK111.out 1).trans rfl
            have hcz38_2 : wc.cell? ⟨gb111, 2, none⟩ = some (.bool a2_2) := (blk_cell BK111.out 2).trans rfl
            have hcz38_3 : wc.cell? ⟨gb111, 3, none⟩ = some (.int .u64 a2_3) := (blk_cell BK111.out 3).trans rfl
            have hfz38_0 := blk_frozen BK111.out 0
            have hfz38_1 := blk_frozen BK111.out 1
            have hfz38_2 := blk_frozen BK111.out 2
            have hfz38_3 := blk_frozen BK111.out 3
            go_wp2
            go_ret
            exact ⟨by first | rfl | (simp [errW_none, errW_some] <;> rfl) | (simp [*, errW_none, errW_some] <;> rfl), by repeat (first | (with_reducible first | exact HB.out | apply below_alloc | apply pw_below_drewN | apply below_drew1 | refine below_set ?_ GE111.out) | exact HB.out)⟩
        · rw [if_neg c26] at H
          have c26b0 : (a2_0 == 1) = false := beq_eq_false_iff_ne.mpr c26
          have c26b1 : (a2_0 != 1) = true := bne_iff_ne.mpr c26
          obtain rfl := Option.some.inj H
          have hcz39_0 : wc.cell? ⟨gb111, 0, none⟩ = some (.int .i64 a2_0) := (blk_cell BK111.out 0).trans rfl
          have hcz39_1 : wc.cell? ⟨gb111, 1, none⟩ = some (.bool a2_1) := (blk_cell BK111.out 1).trans rfl
          have hcz39_2 : wc.cell? ⟨gb111, 2, none⟩ = some (.bool a2_2) := (blk_cell BK111.out 2).trans rfl
          have hcz39_3 : wc.cell? ⟨gb111, 3, none⟩ = some (.int .u64 a2_3) := (blk_cell BK111.out 3).trans rfl
          have hfz39_0 := blk_frozen BK111.out 0
          have hfz39_1 := blk_frozen BK111.out 1
          have hfz39_2 := blk_frozen BK111.out 2
          have hfz39_3 := blk_frozen BK111.out 3
          go_wp2
          go_ret
          exact ⟨by first | rfl | (simp [errW_none, errW_some] <;> rfl) | (simp [*, errW_none, errW_some] <;> rfl), by repeat (first | (with_reducible first | exact HB.out | apply below_alloc | apply pw_below_drewN | apply below_drew1 | refine below_set ?_ GE111.out) | exact HB.out)⟩

/-! ### impl_Granted: function 28 -/
def impl_Granted.f (k : Nat) (a0 : Int) (a1 : Int) (a2 : Int) (a3 : Bool) (a4 : Bool) : Option (Bool) := (impl_pte_grants.f k a0 a1 a2 a3 a4 0).bind fun t122 => (some t122)
theorem impl_Granted.mono : ∀ a0 a1 a2 a3 a4 k, LeO (impl_Granted.f k a0 a1 a2 a3 a4) (impl_Granted.f (k + 1) a0 a1 a2 a3 a4) := by
  intro a0 a1 a2 a3 a4 k
  unfold impl_Granted.f
  repeat' first
      | (with_reducible exact impl_pte_grants.mono _ _ _ _ _ _ _)
      | (with_reducible exact LeO.refl _)
      | (with_reducible exact LeO.none _)
      | (with_reducible refine LeO.ite ?_ ?_)
      | (with_reducible refine LeO.bind ?_ (fun _ => ?_))
      | exact impl_pte_grants.mono _ _ _ _ _ _ _
      | exact LeO.none _
      | refine LeO.ite ?_ ?_
      | refine LeO.bind ?_ (fun _ => ?_)
set_option maxHeartbeats 8000000 in
set_option maxRecDepth 100000 in
theorem impl_Granted.calls (k : Nat) (a0 : Int) (a1 : Int) (a2 : Int) (a3 : Bool) (a4 : Bool) (r : Bool) (w : World) (h : impl_Granted.f k a0 a1 a2 a3 a4 = some r) :
    Calls Try.prog 28 #[.int .u64 a0, .int .i64 a1, .int .i64 a2, .bool a3, .bool a4] w fun e w' => e = .returned (.bool r) ∧ Below w.heap.size w w' := by
  have hu86 := Try.underlying86
  have HB := Aside0.mk (Below.refl w.heap.size w)
  have H : ((impl_pte_grants.f k a0 a1 a2 a3 a4 0).bind fun t122 => (some t122)) = some r := h
  clear h
  replace H := Option.bind_eq_some_iff.mp H
  obtain ⟨t122, A60, H⟩ := H
  replace H : (some t122) = some r := H
  have A6 := Aside0.mk A60
  clear A60
  obtain rfl := Option.some.inj H
  go_enter Try.func28, Try.ntmps28
  go_wp2_with (first | ((with_reducible refine gate_callee (f := 94) rfl ?_); refine goesL_ (some 17) rfl rfl Try.func94 (by kernel_rfl) rfl #[.int .u64 a0, .int .i64 a1, .agg #[.int .i64 a2, .bool a3, .bool a4, .int .u64 0]] rfl (by (try simp only [List.map_toArray, List.map_cons, List.map_nil]); first | done | rfl | (simp only [List.length_drop, List.length_take]; rfl)) ?_; (with_reducible refine (impl_pte_grants.calls k a0 a1 a2 a3 a4 0 t122 _ A6.out).mono ?_); rintro e w7 ⟨rfl, hb⟩; refine ⟨_, rfl, ?_⟩; have n0_ := Aside0.mk (below_step (by repeat (first | (with_reducible first | exact HB.out | apply below_alloc | apply pw_below_drewN | apply below_drew1) | exact HB.out)) hb); clear HB; have HB := n0_; clear n0_; (try clear hb); (try clear hb2); (try clear hk); (try clear hi)))
  go_ret
  exact ⟨by first | rfl | (simp [errW_none, errW_some] <;> rfl) | (simp [*, errW_none, errW_some] <;> rfl), by repeat (first | (with_reducible first | exact HB.out | apply below_alloc | apply pw_below_drewN | apply below_drew1) | exact HB.out)⟩

/-! ### laws_FnExactGranted: function 7 -/
def laws_FnExactGranted.f (k : Nat) (a0 : Int) (a1 : Int) (a2 : Int) (a3 : Bool) (a4 : Bool) : Option (Bool) := (spec_Granted.f k a0 a1 a2 a3 a4).bind fun t123 => ((impl_Granted.f k a0 a1 a2 a3 a4).bind fun t124 => (if (t124 != t123) = true then (some false) else (some true)))
theorem laws_FnExactGranted.mono : ∀ a0 a1 a2 a3 a4 k, LeO (laws_FnExactGranted.f k a0 a1 a2 a3 a4) (laws_FnExactGranted.f (k + 1) a0 a1 a2 a3 a4) := by
  intro a0 a1 a2 a3 a4 k
  unfold laws_FnExactGranted.f
  repeat' first
      | (with_reducible exact impl_Granted.mono _ _ _ _ _ _)
      | (with_reducible exact spec_Granted.mono _ _ _ _ _ _)
      | (with_reducible exact LeO.refl _)
      | (with_reducible exact LeO.none _)
      | (with_reducible refine LeO.ite ?_ ?_)
      | (with_reducible refine LeO.bind ?_ (fun _ => ?_))
      | exact impl_Granted.mono _ _ _ _ _ _
      | exact spec_Granted.mono _ _ _ _ _ _
      | exact LeO.none _
      | refine LeO.ite ?_ ?_
      | refine LeO.bind ?_ (fun _ => ?_)
set_option maxHeartbeats 8000000 in
set_option maxRecDepth 100000 in
theorem laws_FnExactGranted.calls (k : Nat) (a0 : Int) (a1 : Int) (a2 : Int) (a3 : Bool) (a4 : Bool) (r : Bool) (w : World) (h : laws_FnExactGranted.f k a0 a1 a2 a3 a4 = some r) :
    Calls Try.prog 7 #[.int .u64 a0, .int .i64 a1, .int .i64 a2, .bool a3, .bool a4] w fun e w' => e = .returned (.bool r) ∧ Below w.heap.size w w' := by
  have HB := Aside0.mk (Below.refl w.heap.size w)
  have H : ((spec_Granted.f k a0 a1 a2 a3 a4).bind fun t123 => ((impl_Granted.f k a0 a1 a2 a3 a4).bind fun t124 => (if (t124 != t123) = true then (some false) else (some true)))) = some r := h
  clear h
  replace H := Option.bind_eq_some_iff.mp H
  obtain ⟨t123, A60, H⟩ := H
  replace H : ((impl_Granted.f k a0 a1 a2 a3 a4).bind fun t124 => (if (t124 != t123) = true then (some false) else (some true))) = some r := H
  have A6 := Aside0.mk A60
  clear A60
  replace H := Option.bind_eq_some_iff.mp H
  obtain ⟨t124, A70, H⟩ := H
  replace H : (if (t124 != t123) = true then (some false) else (some true)) = some r := H
  have A7 := Aside0.mk A70
  clear A70
  by_cases c8 : (t124 != t123) = true
  · rw [if_pos c8] at H
    have c8b0 : (t124 != t123) = true := c8
    (try (have c8b1 : decide (t124 = t123) = false := by simpa using c8))
    (try (have c8b2 : (t124 == t123) = false := by simpa using c8))
    (try (have c8b3 : ¬ (t124 = t123) := by simpa using c8))
    clear c8
    obtain rfl := Option.some.inj H
    go_enter Try.func7, Try.ntmps7
    go_wp2_with (first | ((with_reducible refine gate_callee (f := 27) rfl ?_); refine goesL_ (some 18) rfl rfl Try.func27 (by kernel_rfl) rfl #[.int .u64 a0, .int .i64 a1, .int .i64 a2, .bool a3, .bool a4] rfl (by (try simp only [List.map_toArray, List.map_cons, List.map_nil]); first | done | rfl | (simp only [List.length_drop, List.length_take]; rfl)) ?_; (with_reducible refine (spec_Granted.calls k a0 a1 a2 a3 a4 t123 _ A6.out).mono ?_); rintro e w' ⟨rfl, ⟨nd, rfl⟩⟩; refine ⟨_, rfl, ?_⟩) | ((with_reducible refine gate_callee (f := 28) rfl ?_); refine goesL_ (some 24) rfl rfl Try.func28 (by kernel_rfl) rfl #[.int .u64 a0, .int .i64 a1, .int .i64 a2, .bool a3, .bool a4] rfl (by (try simp only [List.map_toArray, List.map_cons, List.map_nil]); first | done | rfl | (simp only [List.length_drop, List.length_take]; rfl)) ?_; (with_reducible refine (impl_Granted.calls k a0 a1 a2 a3 a4 t124 _ A7.out).mono ?_); rintro e w9 ⟨rfl, hb⟩; refine ⟨_, rfl, ?_⟩; have n0_ := Aside0.mk (below_step (by repeat (first | (with_reducible first | exact HB.out | apply below_alloc | apply pw_below_drewN | apply below_drew1) | exact HB.out)) hb); clear HB; have HB := n0_; clear n0_; (try clear hb); (try clear hb2); (try clear hk); (try clear hi)))
    go_ret
    exact ⟨by first | rfl | (simp [errW_none, errW_some] <;> rfl) | (simp [*, errW_none, errW_some] <;> rfl), by repeat (first | (with_reducible first | exact HB.out | apply below_alloc | apply pw_below_drewN | apply below_drew1) | exact HB.out)⟩
  · rw [if_neg c8] at H
    have c8b0 : (t124 != t123) = false := by simpa using c8
    (try (have c8b1 : decide (t124 = t123) = true := by simpa using c8))
    (try (have c8b2 : (t124 == t123) = true := by simpa using c8))
    clear c8
    obtain rfl := Option.some.inj H
    go_enter Try.func7, Try.ntmps7
    go_wp2_with (first | ((with_reducible refine gate_callee (f := 27) rfl ?_); refine goesL_ (some 18) rfl rfl Try.func27 (by kernel_rfl) rfl #[.int .u64 a0, .int .i64 a1, .int .i64 a2, .bool a3, .bool a4] rfl (by (try simp only [List.map_toArray, List.map_cons, List.map_nil]); first | done | rfl | (simp only [List.length_drop, List.length_take]; rfl)) ?_; (with_reducible refine (spec_Granted.calls k a0 a1 a2 a3 a4 t123 _ A6.out).mono ?_); rintro e w' ⟨rfl, ⟨nd, rfl⟩⟩; refine ⟨_, rfl, ?_⟩) | ((with_reducible refine gate_callee (f := 28) rfl ?_); refine goesL_ (some 24) rfl rfl Try.func28 (by kernel_rfl) rfl #[.int .u64 a0, .int .i64 a1, .int .i64 a2, .bool a3, .bool a4] rfl (by (try simp only [List.map_toArray, List.map_cons, List.map_nil]); first | done | rfl | (simp only [List.length_drop, List.length_take]; rfl)) ?_; (with_reducible refine (impl_Granted.calls k a0 a1 a2 a3 a4 t124 _ A7.out).mono ?_); rintro e w10 ⟨rfl, hb⟩; refine ⟨_, rfl, ?_⟩; have n0_ := Aside0.mk (below_step (by repeat (first | (with_reducible first | exact HB.out | apply below_alloc | apply pw_below_drewN | apply below_drew1) | exact HB.out)) hb); clear HB; have HB := n0_; clear n0_; (try clear hb); (try clear hb2); (try clear hk); (try clear hi)))
    go_ret
    exact ⟨by first | rfl | (simp [errW_none, errW_some] <;> rfl) | (simp [*, errW_none, errW_some] <;> rfl), by repeat (first | (with_reducible first | exact HB.out | apply below_alloc | apply pw_below_drewN | apply below_drew1) | exact HB.out)⟩

/-- THE ONE PURE STATEMENT of laws_FnExactGranted: yours. -/
def laws_FnExactGranted.Pure : Prop := ∀ (a0 : Int) (a1 : Int) (a2 : Int) (a3 : Bool) (a4 : Bool), (Lit.int .u64 a0).wf = true → (Lit.int .i64 a1).wf = true → (Lit.int .i64 a2).wf = true → ∃ k, laws_FnExactGranted.f k a0 a1 a2 a3 a4 = some true
theorem laws_FnExactGranted.walk (P : laws_FnExactGranted.Pure) (a0 : Int) (a1 : Int) (a2 : Int) (a3 : Bool) (a4 : Bool) (w : World) (w0 : (Lit.int .u64 a0).wf = true) (w1 : (Lit.int .i64 a1).wf = true) (w2 : (Lit.int .i64 a2).wf = true) :
    Calls Try.prog 7 #[.int .u64 a0, .int .i64 a1, .int .i64 a2, .bool a3, .bool a4] w fun e w' => e = .returned (.bool true) ∧ Below w.heap.size w w' := by
  obtain ⟨k, h⟩ := P a0 a1 a2 a3 a4 w0 w1 w2
  refine (laws_FnExactGranted.calls k a0 a1 a2 a3 a4 true w h).mono ?_
  rintro e w' ⟨rfl, hd⟩
  exact ⟨rfl, hd⟩

end Go.Proofs.Ytfiddfbagbaofaa.PFnExactGranted
