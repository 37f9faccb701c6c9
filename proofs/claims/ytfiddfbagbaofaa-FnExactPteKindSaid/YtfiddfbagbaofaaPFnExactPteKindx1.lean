-- PRINTED BY print.sh 35421559b90ae4d0a3588c463048766b98c2df88dd9212a6774a882060cdf62d: not written by this session
import Derived.Test.YtfiddfbagbaofaaPFnExactPteKindx0
namespace Go.Proofs.Ytfiddfbagbaofaa.PFnExactPteKind
open Go.RowKit Go.Proofs.YtfiddfbagbaofaaW.PrintWords Go.Proofs.YtfiddfbagbaofaaW.PrintLast Go.Proofs.YtfiddfbagbaofaaW.PrintMore
attribute [local go_sem] max2_int min2_int max_two min_two max_three min_three max_four min_four   -- for this text's walks alone
set_option linter.unusedVariables false
set_option linter.unusedSimpArgs false

/-! ### spec_l2Pow: function 88 -/
def spec_l2Pow.f : Nat → Int → Option (Int)
  | 0, _ => none
  | k + 1, a0 => if a0 ≤ 0 then (some 1) else ((spec_l2Pow.f k (wrap64 (a0 - 1))).bind fun t101 => (some (IntKind.u64.wrap (2 * t101))))
theorem spec_l2Pow.mono_l : ∀ k, (∀ y0, LeO (spec_l2Pow.f k y0) (spec_l2Pow.f (k + 1) y0))
  | 0 => fun _ r h => by simp [spec_l2Pow.f] at h
  | k + 1 => by
    have ih0 := spec_l2Pow.mono_l k
    · intro y0
      unfold spec_l2Pow.f
      repeat' first
      | (with_reducible exact ih0 _)
      | (with_reducible exact LeO.refl _)
      | (with_reducible exact LeO.none _)
      | (with_reducible refine LeO.ite ?_ ?_)
      | (with_reducible refine LeO.bind ?_ (fun _ => ?_))
      | exact ih0 _
      | exact LeO.none _
      | refine LeO.ite ?_ ?_
      | refine LeO.bind ?_ (fun _ => ?_)
theorem spec_l2Pow.mono : ∀ a0 k, LeO (spec_l2Pow.f k a0) (spec_l2Pow.f (k + 1) a0) := by
  intro a0 k
  have ih0 := spec_l2Pow.mono_l k
  exact ih0 a0
set_option maxHeartbeats 8000000 in
set_option maxRecDepth 100000 in
theorem spec_l2Pow.calls (k : Nat) : ∀ (a0 : Int) (r : Int) (w : World) (h : spec_l2Pow.f k a0 = some r),
    Calls Try.prog 88 #[.int .i64 a0] w fun e w' => e = .returned (.int .u64 r) ∧ Drawn0 w w' := by
  induction k using Nat.strongRecOn with
  | _ k ih =>
  intro a0 r w h
  cases k with
  | zero => exact absurd h (by simp [spec_l2Pow.f])
  | succ k =>
  simp only [spec_l2Pow.f] at h
  have H : (if a0 ≤ 0 then (some 1) else ((spec_l2Pow.f k (wrap64 (a0 - 1))).bind fun t101 => (some (IntKind.u64.wrap (2 * t101))))) = some r := h
  clear h
  by_cases c2 : a0 ≤ 0
  · rw [if_pos c2] at H
    have c2b0 : decide (a0 ≤ 0) = true := decide_eq_true c2
    clear c2
    obtain rfl := Option.some.inj H
    go_enter Try.func88, Try.ntmps88
    go_wp2
    go_ret
    exact ⟨by first | rfl | (simp; done) | (simp [*]; done), by repeat (first | exact Drawn0.refl _ | apply Drawn0.step)⟩
  · rw [if_neg c2] at H
    have c2b0 : decide (a0 ≤ 0) = false := decide_eq_false c2
    clear c2
    replace H := Option.bind_eq_some_iff.mp H
    obtain ⟨t101, A30, H⟩ := H
    replace H : (some (IntKind.u64.wrap (2 * t101))) = some r := H
    have A3 := Aside0.mk A30
    clear A30
    obtain rfl := Option.some.inj H
    go_enter Try.func88, Try.ntmps88
    go_wp2_with (first | ((with_reducible refine gate_callee (f := 88) rfl ?_); refine goesL_ (some 7) rfl rfl Try.func88 (by kernel_rfl) rfl #[.int .i64 (wrap64 (a0 - 1))] rfl (by (try simp only [List.map_toArray, List.map_cons, List.map_nil]); first | done | rfl | (simp only [List.length_drop, List.length_take]; rfl)) ?_; (with_reducible refine (ih k (by omega) (wrap64 (a0 - 1)) t101 _ A3.out).mono ?_); rintro e w' ⟨rfl, ⟨nd, rfl⟩⟩; refine ⟨_, rfl, ?_⟩))
    go_ret
    exact ⟨by first | rfl | (simp; done) | (simp [*]; done), by repeat (first | exact Drawn0.refl _ | apply Drawn0.step)⟩

/-! ### spec_l2Bits: function 87 -/
def spec_l2Bits.f (k : Nat) (a0 : Int) (a1 : Int) (a2 : Int) : Option (Int) := (spec_l2Pow.f k a1).bind fun t102 => (if t102 = 0 then (none) else ((spec_l2Pow.f k (wrap64 ((wrap64 (a2 - a1)) + 1))).bind fun t103 => (if t103 = 0 then (none) else (some (Int.tmod (IntKind.u64.wrap (Int.tdiv a0 t102)) t103)))))
theorem spec_l2Bits.mono : ∀ a0 a1 a2 k, LeO (spec_l2Bits.f k a0 a1 a2) (spec_l2Bits.f (k + 1) a0 a1 a2) := by
  intro a0 a1 a2 k
  unfold spec_l2Bits.f
  repeat' first
      | (with_reducible exact spec_l2Pow.mono _ _)
      | (with_reducible exact LeO.refl _)
      | (with_reducible exact LeO.none _)
      | (with_reducible refine LeO.ite ?_ ?_)
      | (with_reducible refine LeO.bind ?_ (fun _ => ?_))
      | exact spec_l2Pow.mono _ _
      | exact LeO.none _
      | refine LeO.ite ?_ ?_
      | refine LeO.bind ?_ (fun _ => ?_)
set_option maxHeartbeats 8000000 in
set_option maxRecDepth 100000 in
theorem spec_l2Bits.calls (k : Nat) (a0 : Int) (a1 : Int) (a2 : Int) (r : Int) (w : World) (h : spec_l2Bits.f k a0 a1 a2 = some r) :
    Calls Try.prog 87 #[.int .u64 a0, .int .i64 a1, .int .i64 a2] w fun e w' => e = .returned (.int .u64 r) ∧ Drawn0 w w' := by
  have H : ((spec_l2Pow.f k a1).bind fun t102 => (if t102 = 0 then (none) else ((spec_l2Pow.f k (wrap64 ((wrap64 (a2 - a1)) + 1))).bind fun t103 => (if t103 = 0 then (none) else (some (Int.tmod (IntKind.u64.wrap (Int.tdiv a0 t102)) t103)))))) = some r := h
  clear h
  replace H := Option.bind_eq_some_iff.mp H
  obtain ⟨t102, A40, H⟩ := H
  replace H : (if t102 = 0 then (none) else ((spec_l2Pow.f k (wrap64 ((wrap64 (a2 - a1)) + 1))).bind fun t103 => (if t103 = 0 then (none) else (some (Int.tmod (IntKind.u64.wrap (Int.tdiv a0 t102)) t103))))) = some r := H
  have A4 := Aside0.mk A40
  clear A40
  by_cases c5 : t102 = 0
  · rw [if_pos c5] at H
    exact absurd H (by simp)
  · rw [if_neg c5] at H
    have c5b0 : (t102 == 0) = false := beq_eq_false_iff_ne.mpr c5
    have c5b1 : (t102 != 0) = true := bne_iff_ne.mpr c5
    replace H := Option.bind_eq_some_iff.mp H
    obtain ⟨t103, A60, H⟩ := H
    replace H : (if t103 = 0 then (none) else (some (Int.tmod (IntKind.u64.wrap (Int.tdiv a0 t102)) t103))) = some r := H
    have A6 := Aside0.mk A60
    clear A60
    by_cases c7 : t103 = 0
    · rw [if_pos c7] at H
      exact absurd H (by simp)
    · rw [if_neg c7] at H
      have c7b0 : (t103 == 0) = false := beq_eq_false_iff_ne.mpr c7
      have c7b1 : (t103 != 0) = true := bne_iff_ne.mpr c7
      obtain rfl := Option.some.inj H
      go_enter Try.func87, Try.ntmps87
      go_wp2_with (first | (go_at_call 88; (with_reducible refine (spec_l2Pow.calls k a1 t102 _ A4.out).mono ?_); rintro e w' ⟨rfl, ⟨nd, rfl⟩⟩; (try first | exact ⟨rfl, _, World.drewN_drewN _ _ _⟩ | exact ⟨rfl, _, Eq.trans (World.drewN_drewN _ _ _) (congrArg (World.drewN _) (Nat.add_assoc _ _ _))⟩)) | (go_at_call 88; (with_reducible refine (spec_l2Pow.calls k (wrap64 ((wrap64 (a2 - a1)) + 1)) t103 _ A6.out).mono ?_); rintro e w' ⟨rfl, ⟨nd, rfl⟩⟩; (try first | exact ⟨rfl, _, World.drewN_drewN _ _ _⟩ | exact ⟨rfl, _, Eq.trans (World.drewN_drewN _ _ _) (congrArg (World.drewN _) (Nat.add_assoc _ _ _))⟩)))
      repeat (go_quiet (first | (go_at_call 88; (with_reducible refine (spec_l2Pow.calls k a1 t102 _ A4.out).mono ?_); rintro e w' ⟨rfl, ⟨nd, rfl⟩⟩; (try first | exact ⟨rfl, _, World.drewN_drewN _ _ _⟩ | exact ⟨rfl, _, Eq.trans (World.drewN_drewN _ _ _) (congrArg (World.drewN _) (Nat.add_assoc _ _ _))⟩)) | (go_at_call 88; (with_reducible refine (spec_l2Pow.calls k (wrap64 ((wrap64 (a2 - a1)) + 1)) t103 _ A6.out).mono ?_); rintro e w' ⟨rfl, ⟨nd, rfl⟩⟩; (try first | exact ⟨rfl, _, World.drewN_drewN _ _ _⟩ | exact ⟨rfl, _, Eq.trans (World.drewN_drewN _ _ _) (congrArg (World.drewN _) (Nat.add_assoc _ _ _))⟩))); try go_wp2_with (first | (go_at_call 88; (with_reducible refine (spec_l2Pow.calls k a1 t102 _ A4.out).mono ?_); rintro e w' ⟨rfl, ⟨nd, rfl⟩⟩; (try first | exact ⟨rfl, _, World.drewN_drewN _ _ _⟩ | exact ⟨rfl, _, Eq.trans (World.drewN_drewN _ _ _) (congrArg (World.drewN _) (Nat.add_assoc _ _ _))⟩)) | (go_at_call 88; (with_reducible refine (spec_l2Pow.calls k (wrap64 ((wrap64 (a2 - a1)) + 1)) t103 _ A6.out).mono ?_); rintro e w' ⟨rfl, ⟨nd, rfl⟩⟩; (try first | exact ⟨rfl, _, World.drewN_drewN _ _ _⟩ | exact ⟨rfl, _, Eq.trans (World.drewN_drewN _ _ _) (congrArg (World.drewN _) (Nat.add_assoc _ _ _))⟩))))
      go_ret
      exact ⟨by first | rfl | (simp; done) | (simp [*]; done), by repeat (first | exact Drawn0.refl _ | apply Drawn0.step)⟩

/-! ### spec_l2Ppn: function 89 -/
def spec_l2Ppn.f (k : Nat) (a0 : Int) : Option (Int) := (spec_l2Bits.f k a0 10 53).bind fun t104 => (some t104)
theorem spec_l2Ppn.mono : ∀ a0 k, LeO (spec_l2Ppn.f k a0) (spec_l2Ppn.f (k + 1) a0) := by
  intro a0 k
  unfold spec_l2Ppn.f
  repeat' first
      | (with_reducible exact spec_l2Bits.mono _ _ _ _)
      | (with_reducible exact LeO.refl _)
      | (with_reducible exact LeO.none _)
      | (with_reducible refine LeO.ite ?_ ?_)
      | (with_reducible refine LeO.bind ?_ (fun _ => ?_))
      | exact spec_l2Bits.mono _ _ _ _
      | exact LeO.none _
      | refine LeO.ite ?_ ?_
      | refine LeO.bind ?_ (fun _ => ?_)
set_option maxHeartbeats 8000000 in
set_option maxRecDepth 100000 in
theorem spec_l2Ppn.calls (k : Nat) (a0 : Int) (r : Int) (w : World) (h : spec_l2Ppn.f k a0 = some r) :
    Calls Try.prog 89 #[.int .u64 a0] w fun e w' => e = .returned (.int .u64 r) ∧ Drawn0 w w' := by
  have H : ((spec_l2Bits.f k a0 10 53).bind fun t104 => (some t104)) = some r := h
  clear h
  replace H := Option.bind_eq_some_iff.mp H
  obtain ⟨t104, A20, H⟩ := H
  replace H : (some t104) = some r := H
  have A2 := Aside0.mk A20
  clear A20
  obtain rfl := Option.some.inj H
  go_enter Try.func89, Try.ntmps89
  go_wp2_with (first | ((with_reducible refine gate_callee (f := 87) rfl ?_); refine goesL_ (some 4) rfl rfl Try.func87 (by kernel_rfl) rfl #[.int .u64 a0, .int .i64 10, .int .i64 53] rfl (by (try simp only [List.map_toArray, List.map_cons, List.map_nil]); first | done | rfl | (simp only [List.length_drop, List.length_take]; rfl)) ?_; (with_reducible refine (spec_l2Bits.calls k a0 10 53 t104 _ A2.out).mono ?_); rintro e w' ⟨rfl, ⟨nd, rfl⟩⟩; refine ⟨_, rfl, ?_⟩))
  go_ret
  exact ⟨by first | rfl | (simp; done) | (simp [*]; done), by repeat (first | exact Drawn0.refl _ | apply Drawn0.step)⟩

/-! ### spec_l2Bit: function 92 -/
def spec_l2Bit.f (k : Nat) (a0 : Int) (a1 : Int) : Option (Bool) := (spec_l2Bits.f k a0 a1 a1).bind fun t105 => (some (t105 == 1))
theorem spec_l2Bit.mono : ∀ a0 a1 k, LeO (spec_l2Bit.f k a0 a1) (spec_l2Bit.f (k + 1) a0 a1) := by
  intro a0 a1 k
  unfold spec_l2Bit.f
  repeat' first
      | (with_reducible exact spec_l2Bits.mono _ _ _ _)
      | (with_reducible exact LeO.refl _)
      | (with_reducible exact LeO.none _)
      | (with_reducible refine LeO.ite ?_ ?_)
      | (with_reducible refine LeO.bind ?_ (fun _ => ?_))
      | exact spec_l2Bits.mono _ _ _ _
      | exact LeO.none _
      | refine LeO.ite ?_ ?_
      | refine LeO.bind ?_ (fun _ => ?_)
set_option maxHeartbeats 8000000 in
set_option maxRecDepth 100000 in
theorem spec_l2Bit.calls (k : Nat) (a0 : Int) (a1 : Int) (r : Bool) (w : World) (h : spec_l2Bit.f k a0 a1 = some r) :
    Calls Try.prog 92 #[.int .u64 a0, .int .i64 a1] w fun e w' => e = .returned (.bool r) ∧ Drawn0 w w' := by
  have H : ((spec_l2Bits.f k a0 a1 a1).bind fun t105 => (some (t105 == 1))) = some r := h
  clear h
  replace H := Option.bind_eq_some_iff.mp H
  obtain ⟨t105, A30, H⟩ := H
  replace H : (some (t105 == 1)) = some r := H
  have A3 := Aside0.mk A30
  clear A30
  obtain rfl := Option.some.inj H
  go_enter Try.func92, Try.ntmps92
  go_wp2_with (first | ((with_reducible refine gate_callee (f := 87) rfl ?_); refine goesL_ (some 8) rfl rfl Try.func87 (by kernel_rfl) rfl #[.int .u64 a0, .int .i64 a1, .int .i64 a1] rfl (by (try simp only [List.map_toArray, List.map_cons, List.map_nil]); first | done | rfl | (simp only [List.length_drop, List.length_take]; rfl)) ?_; (with_reducible refine (spec_l2Bits.calls k a0 a1 a1 t105 _ A3.out).mono ?_); rintro e w' ⟨rfl, ⟨nd, rfl⟩⟩; refine ⟨_, rfl, ?_⟩))
  go_ret
  exact ⟨by first | rfl | (simp; done) | (simp [*]; done), by repeat (first | exact Drawn0.refl _ | apply Drawn0.step)⟩

/-! ### spec_PteKind: function 25 -/
mutual
def spec_PteKind.j0 : Nat → Int → Int → Bool → Bool → Bool → Bool → Bool → Bool → Bool → Option (Int)
  | 0, _, _, _, _, _, _, _, _, _ => none
  | k + 1, x0, x1, x5, x6, x7, x8, x9, x10, x45 => if x45 = true then (some 0) else (if x5 = true then (spec_PteKind.j1 k x0 x1 x8 x9 x10 false) else (if x6 = true then (spec_PteKind.j1 k x0 x1 x8 x9 x10 false) else (spec_PteKind.j1 k x0 x1 x8 x9 x10 (!x7))))
def spec_PteKind.j1 : Nat → Int → Int → Bool → Bool → Bool → Bool → Option (Int)
  | 0, _, _, _, _, _, _ => none
  | k + 1, x0, x1, x8, x9, x10, x55 => if x55 = true then (if x1 = 0 then (some 0) else (if x8 = true then (some 0) else (if x9 = true then (some 0) else (if x10 = true then (some 0) else (some 1))))) else ((spec_l2Ppn.f k x0).bind fun t114 => ((spec_l2Pow.f k (wrap64 (3 * x1))).bind fun t115 => (if t115 = 0 then (none) else (if (Int.tmod t114 t115) > 0 then (some 0) else (some 2)))))
end
def spec_PteKind.f (k : Nat) (a0 : Int) (a1 : Int) : Option (Int) := (spec_l2Bit.f k a0 1).bind fun t106 => ((spec_l2Bit.f k a0 2).bind fun t107 => ((spec_l2Bit.f k a0 3).bind fun t108 => ((spec_l2Bit.f k a0 4).bind fun t109 => ((spec_l2Bit.f k a0 6).bind fun t110 => ((spec_l2Bit.f k a0 7).bind fun t111 => (if a1 < 0 then (spec_PteKind.j0 k a0 a1 t106 t107 t108 t109 t110 t111 true) else (if a1 > 2 then (spec_PteKind.j0 k a0 a1 t106 t107 t108 t109 t110 t111 true) else ((spec_l2Bit.f k a0 0).bind fun t112 => (if t112 = true then ((spec_l2Bits.f k a0 54 63).bind fun t113 => (if t113 > 0 then (spec_PteKind.j0 k a0 a1 t106 t107 t108 t109 t110 t111 true) else (if t107 = true then (spec_PteKind.j0 k a0 a1 t106 t107 t108 t109 t110 t111 (!t106)) else (spec_PteKind.j0 k a0 a1 t106 t107 t108 t109 t110 t111 false)))) else (spec_PteKind.j0 k a0 a1 t106 t107 t108 t109 t110 t111 true))))))))))
theorem spec_PteKind.mono_l : ∀ k, (∀ y0 y1 y2 y3 y4 y5 y6 y7 y8, LeO (spec_PteKind.j0 k y0 y1 y2 y3 y4 y5 y6 y7 y8) (spec_PteKind.j0 (k + 1) y0 y1 y2 y3 y4 y5 y6 y7 y8)) ∧ (∀ y0 y1 y2 y3 y4 y5, LeO (spec_PteKind.j1 k y0 y1 y2 y3 y4 y5) (spec_PteKind.j1 (k + 1) y0 y1 y2 y3 y4 y5))
  | 0 => ⟨fun _ _ _ _ _ _ _ _ _ r h => by simp [spec_PteKind.j0] at h, fun _ _ _ _ _ _ r h => by simp [spec_PteKind.j1] at h⟩
  | k + 1 => by
    obtain ⟨ih0, ih1⟩ := spec_PteKind.mono_l k
    refine ⟨?_, ?_⟩
    · intro y0 y1 y2 y3 y4 y5 y6 y7 y8
      unfold spec_PteKind.j0
      repeat' first
      | (with_reducible exact ih0 _ _ _ _ _ _ _ _ _)
      | (with_reducible exact ih1 _ _ _ _ _ _)
      | (with_reducible exact spec_l2Bit.mono _ _ _)
      | (with_reducible exact spec_l2Bits.mono _ _ _ _)
      | (with_reducible exact spec_l2Pow.mono _ _)
      | (with_reducible exact spec_l2Ppn.mono _ _)
      | (with_reducible exact LeO.refl _)
      | (with_reducible exact LeO.none _)
      | (with_reducible refine LeO.ite ?_ ?_)
      | (with_reducible refine LeO.bind ?_ (fun _ => ?_))
      | exact ih0 _ _ _ _ _ _ _ _ _
      | exact ih1 _ _ _ _ _ _
      | exact spec_l2Bit.mono _ _ _
      | exact spec_l2Bits.mono _ _ _ _
      | exact spec_l2Pow.mono _ _
      | exact spec_l2Ppn.mono _ _
      | exact LeO.none _
      | refine LeO.ite ?_ ?_
      | refine LeO.bind ?_ (fun _ => ?_)
    · intro y0 y1 y2 y3 y4 y5
      unfold spec_PteKind.j1
      repeat' first
      | (with_reducible exact ih0 _ _ _ _ _ _ _ _ _)
      | (with_reducible exact ih1 _ _ _ _ _ _)
      | (with_reducible exact spec_l2Bit.mono _ _ _)
      | (with_reducible exact spec_l2Bits.mono _ _ _ _)
      | (with_reducible exact spec_l2Pow.mono _ _)
      | (with_reducible exact spec_l2Ppn.mono _ _)
      | (with_reducible exact LeO.refl _)
      | (with_reducible exact LeO.none _)
      | (with_reducible refine LeO.ite ?_ ?_)
      | (with_reducible refine LeO.bind ?_ (fun _ => ?_))
      | exact ih0 _ _ _ _ _ _ _ _ _
      | exact ih1 _ _ _ _ _ _
      | exact spec_l2Bit.mono _ _ _
      | exact spec_l2Bits.mono _ _ _ _
      | exact spec_l2Pow.mono _ _
      | exact spec_l2Ppn.mono _ _
      | exact LeO.none _
      | refine LeO.ite ?_ ?_
      | refine LeO.bind ?_ (fun _ => ?_)
theorem spec_PteKind.mono : ∀ a0 a1 k, LeO (spec_PteKind.f k a0 a1) (spec_PteKind.f (k + 1) a0 a1) := by
  intro a0 a1 k
  obtain ⟨ih0, ih1⟩ := spec_PteKind.mono_l k
  unfold spec_PteKind.f
  repeat' first
      | (with_reducible exact ih0 _ _ _ _ _ _ _ _ _)
      | (with_reducible exact ih1 _ _ _ _ _ _)
      | (with_reducible exact spec_l2Bit.mono _ _ _)
      | (with_reducible exact spec_l2Bits.mono _ _ _ _)
      | (with_reducible exact spec_l2Pow.mono _ _)
      | (with_reducible exact spec_l2Ppn.mono _ _)
      | (with_reducible exact LeO.refl _)
      | (with_reducible exact LeO.none _)
      | (with_reducible refine LeO.ite ?_ ?_)
      | (with_reducible refine LeO.bind ?_ (fun _ => ?_))
      | exact ih0 _ _ _ _ _ _ _ _ _
      | exact ih1 _ _ _ _ _ _
      | exact spec_l2Bit.mono _ _ _
      | exact spec_l2Bits.mono _ _ _ _
      | exact spec_l2Pow.mono _ _
      | exact spec_l2Ppn.mono _ _
      | exact LeO.none _
      | refine LeO.ite ?_ ?_
      | refine LeO.bind ?_ (fun _ => ?_)
set_option maxHeartbeats 8000000 in
set_option maxRecDepth 100000 in
theorem spec_PteKind.calls (k : Nat) (a0 : Int) (a1 : Int) (r : Int) (w : World) (h : spec_PteKind.f k a0 a1 = some r) :
    Calls Try.prog 25 #[.int .u64 a0, .int .i64 a1] w fun e w' => e = .returned (.int .i64 r) ∧ Drawn0 w w' := by
  have H : ((spec_l2Bit.f k a0 1).bind fun t106 => ((spec_l2Bit.f k a0 2).bind fun t107 => ((spec_l2Bit.f k a0 3).bind fun t108 => ((spec_l2Bit.f k a0 4).bind fun t109 => ((spec_l2Bit.f k a0 6).bind fun t110 => ((spec_l2Bit.f k a0 7).bind fun t111 => (if a1 < 0 then (spec_PteKind.j0 k a0 a1 t106 t107 t108 t109 t110 t111 true) else (if a1 > 2 then (spec_PteKind.j0 k a0 a1 t106 t107 t108 t109 t110 t111 true) else ((spec_l2Bit.f k a0 0).bind fun t112 => (if t112 = true then ((spec_l2Bits.f k a0 54 63).bind fun t113 => (if t113 > 0 then (spec_PteKind.j0 k a0 a1 t106 t107 t108 t109 t110 t111 true) else (if t107 = true then (spec_PteKind.j0 k a0 a1 t106 t107 t108 t109 t110 t111 (!t106)) else (spec_PteKind.j0 k a0 a1 t106 t107 t108 t109 t110 t111 false)))) else (spec_PteKind.j0 k a0 a1 t106 t107 t108 t109 t110 t111 true))))))))))) = some r := h
  clear h
  replace H := Option.bind_eq_some_iff.mp H
  obtain ⟨t106, A30, H⟩ := H
  replace H : ((spec_l2Bit.f k a0 2).bind fun t107 => ((spec_l2Bit.f k a0 3).bind fun t108 => ((spec_l2Bit.f k a0 4).bind fun t109 => ((spec_l2Bit.f k a0 6).bind fun t110 => ((spec_l2Bit.f k a0 7).bind fun t111 => (if a1 < 0 then (spec_PteKind.j0 k a0 a1 t106 t107 t108 t109 t110 t111 true) else (if a1 > 2 then (spec_PteKind.j0 k a0 a1 t106 t107 t108 t109 t110 t111 true) else ((spec_l2Bit.f k a0 0).bind fun t112 => (if t112 = true then ((spec_l2Bits.f k a0 54 63).bind fun t113 => (if t113 > 0 then (spec_PteKind.j0 k a0 a1 t106 t107 t108 t109 t110 t111 true) else (if t107 = true then (spec_PteKind.j0 k a0 a1 t106 t107 t108 t109 t110 t111 (!t106)) else (spec_PteKind.j0 k a0 a1 t106 t107 t108 t109 t110 t111 false)))) else (spec_PteKind.j0 k a0 a1 t106 t107 t108 t109 t110 t111 true)))))))))) = some r := H
  have A3 := Aside0.mk A30
  clear A30
  replace H := Option.bind_eq_some_iff.mp H
  obtain ⟨t107, A40, H⟩ := H
  replace H : ((spec_l2Bit.f k a0 3).bind fun t108 => ((spec_l2Bit.f k a0 4).bind fun t109 => ((spec_l2Bit.f k a0 6).bind fun t110 => ((spec_l2Bit.f k a0 7).bind fun t111 => (if a1 < 0 then (spec_PteKind.j0 k a0 a1 t106 t107 t108 t109 t110 t111 true) else (if a1 > 2 then (spec_PteKind.j0 k a0 a1 t106 t107 t108 t109 t110 t111 true) else ((spec_l2Bit.f k a0 0).bind fun t112 => (if t112 = true then ((spec_l2Bits.f k a0 54 63).bind fun t113 => (if t113 > 0 then (spec_PteKind.j0 k a0 a1 t106 t107 t108 t109 t110 t111 true) else (if t107 = true then (spec_PteKind.j0 k a0 a1 t106 t107 t108 t109 t110 t111 (!t106)) else (spec_PteKind.j0 k a0 a1 t106 t107 t108 t109 t110 t111 false)))) else (spec_PteKind.j0 k a0 a1 t106 t107 t108 t109 t110 t111 true))))))))) = some r := H
  have A4 := Aside0.mk A40
  clear A40
  replace H := Option.bind_eq_some_iff.mp H
  obtain ⟨t108, A50, H⟩ := H
  replace H : ((spec_l2Bit.f k a0 4).bind fun t109 => ((spec_l2Bit.f k a0 6).bind fun t110 => ((spec_l2Bit.f k a0 7).bind fun t111 => (if a1 < 0 then (spec_PteKind.j0 k a0 a1 t106 t107 t108 t109 t110 t111 true) else (if a1 > 2 then (spec_PteKind.j0 k a0 a1 t106 t107 t108 t109 t110 t111 true) else ((spec_l2Bit.f k a0 0).bind fun t112 => (if t112 = true then ((spec_l2Bits.f k a0 54 63).bind fun t113 => (if t113 > 0 then (spec_PteKind.j0 k a0 a1 t106 t107 t108 t109 t110 t111 true) else (if t107 = true then (spec_PteKind.j0 k a0 a1 t106 t107 t108 t109 t110 t111 (!t106)) else (spec_PteKind.j0 k a0 a1 t106 t107 t108 t109 t110 t111 false)))) else (spec_PteKind.j0 k a0 a1 t106 t107 t108 t109 t110 t111 true)))))))) = some r := H
  have A5 := Aside0.mk A50
  clear A50
  replace H := Option.bind_eq_some_iff.mp H
  obtain ⟨t109, A60, H⟩ := H
  replace H : ((spec_l2Bit.f k a0 6).bind fun t110 => ((spec_l2Bit.f k a0 7).bind fun t111 => (if a1 < 0 then (spec_PteKind.j0 k a0 a1 t106 t107 t108 t109 t110 t111 true) else (if a1 > 2 then (spec_PteKind.j0 k a0 a1 t106 t107 t108 t109 t110 t111 true) else ((spec_l2Bit.f k a0 0).bind fun t112 => (if t112 = true then ((spec_l2Bits.f k a0 54 63).bind fun t113 => (if t113 > 0 then (spec_PteKind.j0 k a0 a1 t106 t107 t108 t109 t110 t111 true) else (if t107 = true then (spec_PteKind.j0 k a0 a1 t106 t107 t108 t109 t110 t111 (!t106)) else (spec_PteKind.j0 k a0 a1 t106 t107 t108 t109 t110 t111 false)))) else (spec_PteKind.j0 k a0 a1 t106 t107 t108 t109 t110 t111 true))))))) = some r := H
  have A6 := Aside0.mk A60
  clear A60
  replace H := Option.bind_eq_some_iff.mp H
  obtain ⟨t110, A70, H⟩ := H
  replace H : ((spec_l2Bit.f k a0 7).bind fun t111 => (if a1 < 0 then (spec_PteKind.j0 k a0 a1 t106 t107 t108 t109 t110 t111 true) else (if a1 > 2 then (spec_PteKind.j0 k a0 a1 t106 t107 t108 t109 t110 t111 true) else ((spec_l2Bit.f k a0 0).bind fun t112 => (if t112 = true then ((spec_l2Bits.f k a0 54 63).bind fun t113 => (if t113 > 0 then (spec_PteKind.j0 k a0 a1 t106 t107 t108 t109 t110 t111 true) else (if t107 = true then (spec_PteKind.j0 k a0 a1 t106 t107 t108 t109 t110 t111 (!t106)) else (spec_PteKind.j0 k a0 a1 t106 t107 t108 t109 t110 t111 false)))) else (spec_PteKind.j0 k a0 a1 t106 t107 t108 t109 t110 t111 true)))))) = some r := H
  have A7 := Aside0.mk A70
  clear A70
  replace H := Option.bind_eq_some_iff.mp H
  obtain ⟨t111, A80, H⟩ := H
  replace H : (if a1 < 0 then (spec_PteKind.j0 k a0 a1 t106 t107 t108 t109 t110 t111 true) else (if a1 > 2 then (spec_PteKind.j0 k a0 a1 t106 t107 t108 t109 t110 t111 true) else ((spec_l2Bit.f k a0 0).bind fun t112 => (if t112 = true then ((spec_l2Bits.f k a0 54 63).bind fun t113 => (if t113 > 0 then (spec_PteKind.j0 k a0 a1 t106 t107 t108 t109 t110 t111 true) else (if t107 = true then (spec_PteKind.j0 k a0 a1 t106 t107 t108 t109 t110 t111 (!t106)) else (spec_PteKind.j0 k a0 a1 t106 t107 t108 t109 t110 t111 false)))) else (spec_PteKind.j0 k a0 a1 t106 t107 t108 t109 t110 t111 true))))) = some r := H
  have A8 := Aside0.mk A80
  clear A80
  have HC9 := Aside0.mk H
  clear H
  go_enter Try.func25, Try.ntmps25
  go_upto_region 7 with (first | ((with_reducible refine gate_callee (f := 92) rfl ?_); refine goesL_ (some 12) rfl rfl Try.func92 (by kernel_rfl) rfl #[.int .u64 a0, .int .i64 1] rfl (by (try simp only [List.map_toArray, List.map_cons, List.map_nil]); first | done | rfl | (simp only [List.length_drop, List.length_take]; rfl)) ?_; (with_reducible refine (spec_l2Bit.calls k a0 1 t106 _ A3.out).mono ?_); rintro e w' ⟨rfl, ⟨nd, rfl⟩⟩; refine ⟨_, rfl, ?_⟩) | ((with_reducible refine gate_callee (f := 92) rfl ?_); refine goesL_ (some 14) rfl rfl Try.func92 (by kernel_rfl) rfl #[.int .u64 a0, .int .i64 2] rfl (by (try simp only [List.map_toArray, List.map_cons, List.map_nil]); first | done | rfl | (simp only [List.length_drop, List.length_take]; rfl)) ?_; (with_reducible refine (spec_l2Bit.calls k a0 2 t107 _ A4.out).mono ?_); rintro e w' ⟨rfl, ⟨nd, rfl⟩⟩; refine ⟨_, rfl, ?_⟩) | ((with_reducible refine gate_callee (f := 92) rfl ?_); refine goesL_ (some 16) rfl rfl Try.func92 (by kernel_rfl) rfl #[.int .u64 a0, .int .i64 3] rfl (by (try simp only [List.map_toArray, List.map_cons, List.map_nil]); first | done | rfl | (simp only [List.length_drop, List.length_take]; rfl)) ?_; (with_reducible refine (spec_l2Bit.calls k a0 3 t108 _ A5.out).mono ?_); rintro e w' ⟨rfl, ⟨nd, rfl⟩⟩; refine ⟨_, rfl, ?_⟩) | ((with_reducible refine gate_callee (f := 92) rfl ?_); refine goesL_ (some 18) rfl rfl Try.func92 (by kernel_rfl) rfl #[.int .u64 a0, .int .i64 4] rfl (by (try simp only [List.map_toArray, List.map_cons, List.map_nil]); first | done | rfl | (simp only [List.length_drop, List.length_take]; rfl)) ?_; (with_reducible refine (spec_l2Bit.calls k a0 4 t109 _ A6.out).mono ?_); rintro e w' ⟨rfl, ⟨nd, rfl⟩⟩; refine ⟨_, rfl, ?_⟩) | ((with_reducible refine gate_callee (f := 92) rfl ?_); refine goesL_ (some 20) rfl rfl Try.func92 (by kernel_rfl) rfl #[.int .u64 a0, .int .i64 6] rfl (by (try simp only [List.map_toArray, List.map_cons, List.map_nil]); first | done | rfl | (simp only [List.length_drop, List.length_take]; rfl)) ?_; (with_reducible refine (spec_l2Bit.calls k a0 6 t110 _ A7.out).mono ?_); rintro e w' ⟨rfl, ⟨nd, rfl⟩⟩; refine ⟨_, rfl, ?_⟩) | ((with_reducible refine gate_callee (f := 92) rfl ?_); refine goesL_ (some 22) rfl rfl Try.func92 (by kernel_rfl) rfl #[.int .u64 a0, .int .i64 7] rfl (by (try simp only [List.map_toArray, List.map_cons, List.map_nil]); first | done | rfl | (simp only [List.length_drop, List.length_take]; rfl)) ?_; (with_reducible refine (spec_l2Bit.calls k a0 7 t111 _ A8.out).mono ?_); rintro e w' ⟨rfl, ⟨nd, rfl⟩⟩; refine ⟨_, rfl, ?_⟩))
  (try simp only [Act.put, List.setIfInBounds_toArray, List.set_cons_zero, List.set_cons_succ])
  go_cut [45] (fun v45 wc => ∃ (kq : Nat) (x45_8 : Bool), v45 = .bool x45_8 ∧ Aside0 (spec_PteKind.j0 kq a0 a1 t106 t107 t108 t109 t110 t111 x45_8 = some r) ∧ Aside0 (kq ≤ k) ∧ Drawn0 w wc)
  case first =>
    have H := HC9.out
    clear HC9
    by_cases c10 : a1 < 0
    · rw [if_pos c10] at H
      have c10b0 : decide (a1 < 0) = true := decide_eq_true c10
      clear c10
      (first | rw [c10b0] | (simp only [i64_w, i32_w]; rw [c10b0]) | skip)
      have H' := Aside0.mk H
      clear H
      go_wp2
      go_meet
      case rel => exact ⟨_, (true), (by first | rfl | (simp; done) | (simp [*]; done)), H', ⟨by first | omega | exact Nat.le_refl _⟩, by repeat (first | exact Drawn0.refl _ | apply Drawn0.step)⟩
    · rw [if_neg c10] at H
      have c10b0 : decide (a1 < 0) = false := decide_eq_false c10
      clear c10
      (first | rw [c10b0] | (simp only [i64_w, i32_w]; rw [c10b0]) | skip)
      by_cases c11 : a1 > 2
      · rw [if_pos c11] at H
        have c11b0 : decide (2 < a1) = true := decide_eq_true c11
        clear c11
        have H' := Aside0.mk H
        clear H
        go_wp2
        go_meet
        case rel => exact ⟨_, (true), (by first | rfl | (simp; done) | (simp [*]; done)), H', ⟨by first | omega | exact Nat.le_refl _⟩, by repeat (first | exact Drawn0.refl _ | apply Drawn0.step)⟩
      · rw [if_neg c11] at H
        have c11b0 : decide (2 < a1) = false := decide_eq_false c11
        clear c11
        replace H := Option.bind_eq_some_iff.mp H
        obtain ⟨t112, A120, H⟩ := H
        replace H : (if t112 = true then ((spec_l2Bits.f k a0 54 63).bind fun t113 => (if t113 > 0 then (spec_PteKind.j0 k a0 a1 t106 t107 t108 t109 t110 t111 true) else (if t107 = true then (spec_PteKind.j0 k a0 a1 t106 t107 t108 t109 t110 t111 (!t106)) else (spec_PteKind.j0 k a0 a1 t106 t107 t108 t109 t110 t111 false)))) else (spec_PteKind.j0 k a0 a1 t106 t107 t108 t109 t110 t111 true)) = some r := H
        have A12 := Aside0.mk A120
        clear A120
        by_cases c13 : t112 = true
        · subst c13
          have H1 : ((spec_l2Bits.f k a0 54 63).bind fun t113 => (if t113 > 0 then (spec_PteKind.j0 k a0 a1 t106 t107 t108 t109 t110 t111 true) else (if t107 = true then (spec_PteKind.j0 k a0 a1 t106 t107 t108 t109 t110 t111 (!t106)) else (spec_PteKind.j0 k a0 a1 t106 t107 t108 t109 t110 t111 false)))) = some r := by rw [if_pos rfl] at H; exact H
          clear H
          have H := H1
          clear H1
          replace H := Option.bind_eq_some_iff.mp H
          obtain ⟨t113, A140, H⟩ := H
          replace H : (if t113 > 0 then (spec_PteKind.j0 k a0 a1 t106 t107 t108 t109 t110 t111 true) else (if t107 = true then (spec_PteKind.j0 k a0 a1 t106 t107 t108 t109 t110 t111 (!t106)) else (spec_PteKind.j0 k a0 a1 t106 t107 t108 t109 t110 t111 false))) = some r := H
          have A14 := Aside0.mk A140
          clear A140
          by_cases c15 : t113 > 0
          · rw [if_pos c15] at H
            have c15b0 : decide (0 < t113) = true := decide_eq_true c15
            clear c15
            have H' := Aside0.mk H
            clear H
            go_wp2_with (first | (go_at_call 92; (with_reducible refine (spec_l2Bit.calls k a0 0 true _ A12.out).mono ?_); rintro e w' ⟨rfl, ⟨nd, rfl⟩⟩) | (go_at_call 87; (with_reducible refine (spec_l2Bits.calls k a0 54 63 t113 _ A14.out).mono ?_); rintro e w' ⟨rfl, ⟨nd, rfl⟩⟩))
            go_meet
            case rel => exact ⟨_, (true), (by first | rfl | (simp; done) | (simp [*]; done)), H', ⟨by first | omega | exact Nat.le_refl _⟩, by repeat (first | exact Drawn0.refl _ | apply Drawn0.step)⟩
          · rw [if_neg c15] at H
            have c15b0 : decide (0 < t113) = false := decide_eq_false c15
            clear c15
            by_cases c16 : t107 = true
            · subst c16
              have H1 : (spec_PteKind.j0 k a0 a1 t106 true t108 t109 t110 t111 (!t106)) = some r := by rw [if_pos rfl] at H; exact H
              clear H
              have H := H1
              clear H1
              have H' := Aside0.mk H
              clear H
              go_wp2_with (first | (go_at_call 92; (with_reducible refine (spec_l2Bit.calls k a0 0 true _ A12.out).mono ?_); rintro e w' ⟨rfl, ⟨nd, rfl⟩⟩) | (go_at_call 87; (with_reducible refine (spec_l2Bits.calls k a0 54 63 t113 _ A14.out).mono ?_); rintro e w' ⟨rfl, ⟨nd, rfl⟩⟩))
              go_meet
              case rel => exact ⟨_, (!t106), (by first | rfl | (simp; done) | (simp [*]; done)), H', ⟨by first | omega | exact Nat.le_refl _⟩, by repeat (first | exact Drawn0.refl _ | apply Drawn0.step)⟩
            · replace c16 := Bool.eq_false_iff.mpr c16
              subst c16
              have H1 : (spec_PteKind.j0 k a0 a1 t106 false t108 t109 t110 t111 false) = some r := by rw [if_neg (show ¬ (false = true) by decide)] at H; exact H
              clear H
              have H := H1
              clear H1
              have H' := Aside0.mk H
              clear H
              go_wp2_with (first | (go_at_call 92; (with_reducible refine (spec_l2Bit.calls k a0 0 true _ A12.out).mono ?_); rintro e w' ⟨rfl, ⟨nd, rfl⟩⟩) | (go_at_call 87; (with_reducible refine (spec_l2Bits.calls k a0 54 63 t113 _ A14.out).mono ?_); rintro e w' ⟨rfl, ⟨nd, rfl⟩⟩))
              go_meet
              case rel => exact ⟨_, (false), (by first | rfl | (simp; done) | (simp [*]; done)), H', ⟨by first | omega | exact Nat.le_refl _⟩, by repeat (first | exact Drawn0.refl _ | apply Drawn0.step)⟩
        · replace c13 := Bool.eq_false_iff.mpr c13
          subst c13
          have H1 : (spec_PteKind.j0 k a0 a1 t106 t107 t108 t109 t110 t111 true) = some r := by rw [if_neg (show ¬ (false = true) by decide)] at H; exact H
          clear H
          have H := H1
          clear H1
          have H' := Aside0.mk H
          clear H
          go_wp2_with (first | (go_at_call 92; (with_reducible refine (spec_l2Bit.calls k a0 0 false _ A12.out).mono ?_); rintro e w' ⟨rfl, ⟨nd, rfl⟩⟩))
          go_meet
          case rel => exact ⟨_, (true), (by first | rfl | (simp; done) | (simp [*]; done)), H', ⟨by first | omega | exact Nat.le_refl _⟩, by repeat (first | exact Drawn0.refl _ | apply Drawn0.step)⟩
  case rest =>
    clear HC9
    try clear c1
    try clear c2
    try clear p2
    try clear c9
    try clear c10
    try clear c10b0
    try clear c11
    try clear c11b0
    try clear c13
    try clear c15
    try clear c15b0
    try clear c16
    obtain ⟨kq, x45_8, rfl, HA, HJ8, ⟨mc8, rfl⟩⟩ := hcut
    cases kq with
    | zero => exact absurd HA.out (by simp [spec_PteKind.j0])
    | succ kj8 =>
      have H := HA.out
      clear HA
      simp only [spec_PteKind.j0] at H
      by_cases c17 : x45_8 = true
      · subst c17
        have H1 : (some 0) = some r := by rw [if_pos rfl] at H; exact H
        clear H
        have H := H1
        clear H1
        obtain rfl := Option.some.inj H
        go_wp2
        go_ret
        exact ⟨by first | rfl | (simp; done) | (simp [*]; done), by repeat (first | exact Drawn0.refl _ | apply Drawn0.step)⟩
      · replace c17 := Bool.eq_false_iff.mpr c17
        subst c17
        have H1 : (if t106 = true then (spec_PteKind.j1 kj8 a0 a1 t109 t110 t111 false) else (if t107 = true then (spec_PteKind.j1 kj8 a0 a1 t109 t110 t111 false) else (spec_PteKind.j1 kj8 a0 a1 t109 t110 t111 (!t108)))) = some r := by rw [if_neg (show ¬ (false = true) by decide)] at H; exact H
        clear H
        have H := H1
        clear H1
        have HC18 := Aside0.mk H
        clear H
        go_upto_region 9 with (fail)
        go_cut [55] (fun v55 wc => ∃ (kq : Nat) (x55_17 : Bool), v55 = .bool x55_17 ∧ Aside0 (spec_PteKind.j1 kq a0 a1 t109 t110 t111 x55_17 = some r) ∧ Aside0 (kq ≤ kj8) ∧ Drawn0 w wc)
        case first =>
          have H := HC18.out
          clear HC18
          by_cases c19 : t106 = true
          · subst c19
            have H1 : (spec_PteKind.j1 kj8 a0 a1 t109 t110 t111 false) = some r := by rw [if_pos rfl] at H; exact H
            clear H
            have H := H1
            clear H1
            have H' := Aside0.mk H
            clear H
            go_wp2
            go_meet
            case rel => exact ⟨_, (false), (by first | rfl | (simp; done) | (simp [*]; done)), H', ⟨by have := HJ8.out; first | omega | exact Nat.le_refl _⟩, by repeat (first | exact Drawn0.refl _ | apply Drawn0.step)⟩
          · replace c19 := Bool.eq_false_iff.mpr c19
            subst c19
            have H1 : (if t107 = true then (spec_PteKind.j1 kj8 a0 a1 t109 t110 t111 false) else (spec_PteKind.j1 kj8 a0 a1 t109 t110 t111 (!t108))) = some r := by rw [if_neg (show ¬ (false = true) by decide)] at H; exact H
            clear H
            have H := H1
            clear H1
            by_cases c20 : t107 = true
            · subst c20
              have H1 : (spec_PteKind.j1 kj8 a0 a1 t109 t110 t111 false) = some r := by rw [if_pos rfl] at H; exact H
              clear H
              have H := H1
              clear H1
              have H' := Aside0.mk H
              clear H
              go_wp2
              go_meet
              case rel => exact ⟨_, (false), (by first | rfl | (simp; done) | (simp [*]; done)), H', ⟨by have := HJ8.out; first | omega | exact Nat.le_refl _⟩, by repeat (first | exact Drawn0.refl _ | apply Drawn0.step)⟩
            · replace c20 := Bool.eq_false_iff.mpr c20
              subst c20
              have H1 : (spec_PteKind.j1 kj8 a0 a1 t109 t110 t111 (!t108)) = some r := by rw [if_neg (show ¬ (false = true) by decide)] at H; exact H
              clear H
              have H := H1
              clear H1
              have H' := Aside0.mk H
              clear H
              go_wp2
              go_meet
              case rel => exact ⟨_, (!t108), (by first | rfl | (simp; done) | (simp [*]; done)), H', ⟨by have := HJ8.out; first | omega | exact Nat.le_refl _⟩, by repeat (first | exact Drawn0.refl _ | apply Drawn0.step)⟩
        case rest =>
          clear HC18
          try clear c1
          try clear c2
          try clear p2
          try clear c8
          try clear c9
          try clear c10
          try clear c10b0
          try clear c11
          try clear c11b0
          try clear c13
          try clear c15
          try clear c15b0
          try clear c16
          try clear c17
          try clear c19
          try clear c20
          try clear p2
          obtain ⟨kq, x55_17, rfl, HA, HJ17, ⟨mc17, rfl⟩⟩ := hcut
          cases kq with
          | zero => exact absurd HA.out (by simp [spec_PteKind.j1])
          | succ kj17 =>
            have H := HA.out
            clear HA
            simp only [spec_PteKind.j1] at H
            by_cases c21 : x55_17 = true
            · subst c21
              have H1 : (if a1 = 0 then (some 0) else (if t109 = true then (some 0) else (if t110 = true then (some 0) else (if t111 = true then (some 0) else (some 1))))) = some r := by rw [if_pos rfl] at H; exact H
              clear H
              have H := H1
              clear H1
              by_cases c22 : a1 = 0
              · rw [if_pos c22] at H
                have c22b0 : (a1 == 0) = true := beq_iff_eq.mpr c22
                have c22b1 : (a1 != 0) = false := bne_eq_false_iff_eq.mpr c22
                clear c22
                obtain rfl := Option.some.inj H
                go_wp2
                go_ret
                exact ⟨by first | rfl | (simp; done) | (simp [*]; done), by repeat (first | exact Drawn0.refl _ | apply Drawn0.step)⟩
              · rw [if_neg c22] at H
                have c22b0 : (a1 == 0) = false := beq_eq_false_iff_ne.mpr c22
                have c22b1 : (a1 != 0) = true := bne_iff_ne.mpr c22
                by_cases c23 : t109 = true
                · subst c23
                  have H1 : (some 0) = some r := by rw [if_pos rfl] at H; exact H
                  clear H
                  have H := H1
                  clear H1
                  obtain rfl := Option.some.inj H
                  go_wp2
                  go_ret
                  exact ⟨by first | rfl | (simp; done) | (simp [*]; done), by repeat (first | exact Drawn0.refl _ | apply Drawn0.step)⟩
                · replace c23 := Bool.eq_false_iff.mpr c23
                  subst c23
                  have H1 : (if t110 = true then (some 0) else (if t111 = true then (some 0) else (some 1))) = some r := by rw [if_neg (show ¬ (false = true) by decide)] at H; exact H
                  clear H
                  have H := H1
                  clear H1
                  by_cases c24 : t110 = true
                  · subst c24
                    have H1 : (some 0) = some r := by rw [if_pos rfl] at H; exact H
                    clear H
                    have H := H1
                    clear H1
                    obtain rfl := Option.some.inj H
                    go_wp2
                    go_ret
                    exact ⟨by first | rfl | (simp; done) | (simp [*]; done), by repeat (first | exact Drawn0.refl _ | apply Drawn0.step)⟩
                  · replace c24 := Bool.eq_false_iff.mpr c24
                    subst c24
                    have H1 : (if t111 = true then (some 0) else (some 1)) = some r := by rw [if_neg (show ¬ (false = true) by decide)] at H; exact H
                    clear H
                    have H := H1
                    clear H1
                    by_cases c25 : t111 = true
                    · subst c25
                      have H1 : (some 0) = some r := by rw [if_pos rfl] at H; exact H
                      clear H
                      have H := H1
                      clear H1
                      obtain rfl := Option.some.inj H
                      go_wp2
                      go_ret
                      exact ⟨by first | rfl | (simp; done) | (simp [*]; done), by repeat (first | exact Drawn0.refl _ | apply Drawn0.step)⟩
                    · replace c25 := Bool.eq_false_iff.mpr c25
                      subst c25
                      have H1 : (some 1) = some r := by rw [if_neg (show ¬ (false = true) by decide)] at H; exact H
                      clear H
                      have H := H1
                      clear H1
                      obtain rfl := Option.some.inj H
                      go_wp2
                      go_ret
                      exact ⟨by first | rfl | (simp; done) | (simp [*]; done), by repeat (first | exact Drawn0.refl _ | apply Drawn0.step)⟩
            · replace c21 := Bool.eq_false_iff.mpr c21
              subst c21
              have H1 : ((spec_l2Ppn.f kj17 a0).bind fun t114 => ((spec_l2Pow.f kj17 (wrap64 (3 * a1))).bind fun t115 => (if t115 = 0 then (none) else (if (Int.tmod t114 t115) > 0 then (some 0) else (some 2))))) = some r := by rw [if_neg (show ¬ (false = true) by decide)] at H; exact H
              clear H
              have H := H1
              clear H1
              replace H := Option.bind_eq_some_iff.mp H
              obtain ⟨t114, A260, H⟩ := H
              replace H : ((spec_l2Pow.f kj17 (wrap64 (3 * a1))).bind fun t115 => (if t115 = 0 then (none) else (if (Int.tmod t114 t115) > 0 then (some 0) else (some 2)))) = some r := H
              have A26 := Aside0.mk A260
              clear A260
              replace H := Option.bind_eq_some_iff.mp H
              obtain ⟨t115, A270, H⟩ := H
              replace H : (if t115 = 0 then (none) else (if (Int.tmod t114 t115) > 0 then (some 0) else (some 2))) = some r := H
              have A27 := Aside0.mk A270
              clear A270
              by_cases c28 : t115 = 0
              · rw [if_pos c28] at H
                exact absurd H (by simp)
              · rw [if_neg c28] at H
                have c28b0 : (t115 == 0) = false := beq_eq_false_iff_ne.mpr c28
                have c28b1 : (t115 != 0) = true := bne_iff_ne.mpr c28
                by_cases c29 : (Int.tmod t114 t115) > 0
                · rw [if_pos c29] at H
                  have c29b0 : decide (0 < (Int.tmod t114 t115)) = true := decide_eq_true c29
                  clear c29
                  obtain rfl := Option.some.inj H
                  go_wp2_with (first | ((with_reducible refine gate_callee (f := 89) rfl ?_); refine goesL_ (some 68) rfl rfl Try.func89 (by kernel_rfl) rfl #[.int .u64 a0] rfl (by (try simp only [List.map_toArray, List.map_cons, List.map_nil]); first | done | rfl | (simp only [List.length_drop, List.length_take]; rfl)) ?_; (with_reducible refine (spec_l2Ppn.calls kj17 a0 t114 _ A26.out).mono ?_); rintro e w' ⟨rfl, ⟨nd, rfl⟩⟩; refine ⟨_, rfl, ?_⟩) | ((with_reducible refine gate_callee (f := 88) rfl ?_); refine goesL_ (some 71) rfl rfl Try.func88 (by kernel_rfl) rfl #[.int .i64 (wrap64 (3 * a1))] rfl (by (try simp only [List.map_toArray, List.map_cons, List.map_nil]); first | done | rfl | (simp only [List.length_drop, List.length_take]; rfl)) ?_; (with_reducible refine (spec_l2Pow.calls kj17 (wrap64 (3 * a1)) t115 _ A27.out).mono ?_); rintro e w' ⟨rfl, ⟨nd, rfl⟩⟩; refine ⟨_, rfl, ?_⟩))
                  go_ret
                  exact ⟨by first | rfl | (simp; done) | (simp [*]; done), by repeat (first | exact Drawn0.refl _ | apply Drawn0.step)⟩
                · rw [if_neg c29] at H
                  have c29b0 : decide (0 < (Int.tmod t114 t115)) = false := decide_eq_false c29
                  clear c29
                  obtain rfl := Option.some.inj H
                  go_wp2_with (first | ((with_reducible refine gate_callee (f := 89) rfl ?_); refine goesL_ (some 68) rfl rfl Try.func89 (by kernel_rfl) rfl #[.int .u64 a0] rfl (by (try simp only [List.map_toArray, List.map_cons, List.map_nil]); first | done | rfl | (simp only [List.length_drop, List.length_take]; rfl)) ?_; (with_reducible refine (spec_l2Ppn.calls kj17 a0 t114 _ A26.out).mono ?_); rintro e w' ⟨rfl, ⟨nd, rfl⟩⟩; refine ⟨_, rfl, ?_⟩) | ((with_reducible refine gate_callee (f := 88) rfl ?_); refine goesL_ (some 71) rfl rfl Try.func88 (by kernel_rfl) rfl #[.int .i64 (wrap64 (3 * a1))] rfl (by (try simp only [List.map_toArray, List.map_cons, List.map_nil]); first | done | rfl | (simp only [List.length_drop, List.length_take]; rfl)) ?_; (with_reducible refine (spec_l2Pow.calls kj17 (wrap64 (3 * a1)) t115 _ A27.out).mono ?_); rintro e w' ⟨rfl, ⟨nd, rfl⟩⟩; refine ⟨_, rfl, ?_⟩))
                  go_ret
                  exact ⟨by first | rfl | (simp; done) | (simp [*]; done), by repeat (first | exact Drawn0.refl _ | apply Drawn0.step)⟩

/-! ### impl_goodLevel: function 90 -/
def impl_goodLevel.f (a0 : Int) : Option (Bool) := if a0 ≥ 0 then (some (decide (a0 ≤ 2))) else (some false)
set_option maxHeartbeats 8000000 in
set_option maxRecDepth 100000 in
theorem impl_goodLevel.calls (a0 : Int) (r : Bool) (w : World) (h : impl_goodLevel.f a0 = some r) :
    Calls Try.prog 90 #[.int .i64 a0] w fun e w' => e = .returned (.bool r) ∧ Drawn0 w w' := by
  have H : (if a0 ≥ 0 then (some (decide (a0 ≤ 2))) else (some false)) = some r := h
  clear h
  by_cases c2 : a0 ≥ 0
  · rw [if_pos c2] at H
    have c2b0 : decide (0 ≤ a0) = true := decide_eq_true c2
    clear c2
    obtain rfl := Option.some.inj H
    go_enter Try.func90, Try.ntmps90
    go_wp2
    go_ret
    exact ⟨by first | rfl | (simp; done) | (simp [*]; done), by repeat (first | exact Drawn0.refl _ | apply Drawn0.step)⟩
  · rw [if_neg c2] at H
    have c2b0 : decide (0 ≤ a0) = false := decide_eq_false c2
    clear c2
    obtain rfl := Option.some.inj H
    go_enter Try.func90, Try.ntmps90
    go_wp2
    go_ret
    exact ⟨by first | rfl | (simp; done) | (simp [*]; done), by repeat (first | exact Drawn0.refl _ | apply Drawn0.step)⟩

/-! ### impl_pte_page: function 181 -/
def impl_pte_page.f (a0 : Int) : Option (Int) := some (Go.bits .and .u64 (a0 / 1024) 17592186044415)
set_option maxHeartbeats 8000000 in
set_option maxRecDepth 100000 in
theorem impl_pte_page.calls (a0 : Int) (r : Int) (w : World) (h : impl_pte_page.f a0 = some r) :
    Calls Try.prog 181 #[.int .u64 a0] w fun e w' => e = .returned (.int .u64 r) ∧ Drawn0 w w' := by
  have H : (some (Go.bits .and .u64 (a0 / 1024) 17592186044415)) = some r := h
  clear h
  obtain rfl := Option.some.inj H
  go_enter Try.func181, Try.ntmps181
  go_wp2
  go_ret
  exact ⟨by first | rfl | (simp; done) | (simp [*]; done), by repeat (first | exact Drawn0.refl _ | apply Drawn0.step)⟩

/-! ### impl_pte_bit: function 182 -/
def impl_pte_bit.f (a0 : Int) (a1 : Int) : Option (Bool) := if 0 ≤ a1 then (some ((Go.bits .and .u64 (shr .u64 a0 a1) 1) == 1)) else (none)
set_option maxHeartbeats 8000000 in
set_option maxRecDepth 100000 in
theorem impl_pte_bit.calls (a0 : Int) (a1 : Int) (r : Bool) (w : World) (h : impl_pte_bit.f a0 a1 = some r) :
    Calls Try.prog 182 #[.int .u64 a0, .int .i64 a1] w fun e w' => e = .returned (.bool r) ∧ Drawn0 w w' := by
  have H : (if 0 ≤ a1 then (some ((Go.bits .and .u64 (shr .u64 a0 a1) 1) == 1)) else (none)) = some r := h
  clear h
  by_cases c3 : 0 ≤ a1
  · rw [if_pos c3] at H
    have c3b0 := eq_true c3
    have c3b1 : decide (0 ≤ a1) = true := decide_eq_true c3
    clear c3
    obtain ⟨ji4, hji4⟩ : ∃ j_ : Int, (shr .u64 a0 a1) = j_ := ⟨_, rfl⟩
    replace H : (some ((Go.bits .and .u64 (ji4) 1) == 1)) = some r := by first | (rw [hji4] at H; exact H) | (simp only [hji4] at H ⊢; exact H)
    have hji4_ : (a0 / 2 ^ min a1.toNat 64) = ji4 := hji4
    have hji4z : a1 ≤ 64 → (a0 / 2 ^ a1.toNat) = ji4 := shr_small hji4
    obtain rfl := Option.some.inj H
    go_enter Try.func182, Try.ntmps182
    go_wp2
    go_ret
    exact ⟨by first | rfl | (simp; done) | (simp only [← hji4] <;> (first | rfl | simp)) | (simp [*]; done), by repeat (first | exact Drawn0.refl _ | apply Drawn0.step)⟩
  · rw [if_neg c3] at H
    exact absurd H (by simp)

end Go.Proofs.Ytfiddfbagbaofaa.PFnExactPteKind
