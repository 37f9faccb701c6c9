-- PRINTED BY print.sh 35421559b90ae4d0a3588c463048766b98c2df88dd9212a6774a882060cdf62d: not written by this session
import Derived.Test.YtfiddfbagbaofaaPFnExactCanonicalx0
namespace Go.Proofs.Ytfiddfbagbaofaa.PFnExactCanonical
open Go.RowKit Go.Proofs.YtfiddfbagbaofaaW.PrintWords Go.Proofs.YtfiddfbagbaofaaW.PrintLast Go.Proofs.YtfiddfbagbaofaaW.PrintMore
attribute [local go_sem] max2_int min2_int max_two min_two max_three min_three max_four min_four   -- for this text's walks alone
set_option linter.unusedVariables false
set_option linter.unusedSimpArgs false

/-! ### spec_l2Pow: function 88 -/
def spec_l2Pow.f : Nat → Int → Option (Int)
  | 0, _ => none
  | k + 1, a0 => if a0 ≤ 0 then (some 1) else ((spec_l2Pow.f k (wrap64 (a0 - 1))).bind fun t101 => (some (IntKind.u64.wrap (2 * t101))))
theorem spec_l2Pow.mono_l : ∀ k, (∀ y0, LeO (spec_l2Pow.f k y0) (spec_l2Pow.f (k + 1) y0))
  | 0 => fun _ r h => by simp [spec_l2Pow.f] at h
  | k + 1 => by
    have ih0 := spec_l2Pow.mono_l k
    · intro y0
      unfold spec_l2Pow.f
      repeat' first
      | (with_reducible exact ih0 _)
      | (with_reducible exact LeO.refl _)
      | (with_reducible exact LeO.none _)
      | (with_reducible refine LeO.ite ?_ ?_)
      | (with_reducible refine LeO.bind ?_ (fun _ => ?_))
      | exact ih0 _
      | exact LeO.none _
      | refine LeO.ite ?_ ?_
      | refine LeO.bind ?_ (fun _ => ?_)
theorem spec_l2Pow.mono : ∀ a0 k, LeO (spec_l2Pow.f k a0) (spec_l2Pow.f (k + 1) a0) := by
  intro a0 k
  have ih0 := spec_l2Pow.mono_l k
  exact ih0 a0
set_option maxHeartbeats 8000000 in
set_option maxRecDepth 100000 in
theorem spec_l2Pow.calls (k : Nat) : ∀ (a0 : Int) (r : Int) (w : World) (h : spec_l2Pow.f k a0 = some r),
    Calls Try.prog 88 #[.int .i64 a0] w fun e w' => e = .returned (.int .u64 r) ∧ Drawn0 w w' := by
  induction k using Nat.strongRecOn with
  | _ k ih =>
  intro a0 r w h
  cases k with
  | zero => exact absurd h (by simp [spec_l2Pow.f])
  | succ k =>
  simp only [spec_l2Pow.f] at h
  have H : (if a0 ≤ 0 then (some 1) else ((spec_l2Pow.f k (wrap64 (a0 - 1))).bind fun t101 => (some (IntKind.u64.wrap (2 * t101))))) = some r := h
  clear h
  by_cases c2 : a0 ≤ 0
  · rw [if_pos c2] at H
    have c2b0 : decide (a0 ≤ 0) = true := decide_eq_true c2
    clear c2
    obtain rfl := Option.some.inj H
    go_enter Try.func88, Try.ntmps88
    go_wp2
    go_ret
    exact ⟨by first | rfl | (simp; done) | (simp [*]; done), by repeat (first | exact Drawn0.refl _ | apply Drawn0.step)⟩
  · rw [if_neg c2] at H
    have c2b0 : decide (a0 ≤ 0) = false := decide_eq_false c2
    clear c2
    replace H := Option.bind_eq_some_iff.mp H
    obtain ⟨t101, A30, H⟩ := H
    replace H : (some (IntKind.u64.wrap (2 * t101))) = some r := H
    have A3 := Aside0.mk A30
    clear A30
    obtain rfl := Option.some.inj H
    go_enter Try.func88, Try.ntmps88
    go_wp2_with (first | ((with_reducible refine gate_callee (f := 88) rfl ?_); refine goesL_ (some 7) rfl rfl Try.func88 (by kernel_rfl) rfl #[.int .i64 (wrap64 (a0 - 1))] rfl (by (try simp only [List.map_toArray, List.map_cons, List.map_nil]); first | done | rfl | (simp only [List.length_drop, List.length_take]; rfl)) ?_; (with_reducible refine (ih k (by omega) (wrap64 (a0 - 1)) t101 _ A3.out).mono ?_); rintro e w' ⟨rfl, ⟨nd, rfl⟩⟩; refine ⟨_, rfl, ?_⟩))
    go_ret
    exact ⟨by first | rfl | (simp; done) | (simp [*]; done), by repeat (first | exact Drawn0.refl _ | apply Drawn0.step)⟩

/-! ### spec_l2Bits: function 87 -/
def spec_l2Bits.f (k : Nat) (a0 : Int) (a1 : Int) (a2 : Int) : Option (Int) := (spec_l2Pow.f k a1).bind fun t102 => (if t102 = 0 then (none) else ((spec_l2Pow.f k (wrap64 ((wrap64 (a2 - a1)) + 1))).bind fun t103 => (if t103 = 0 then (none) else (some (Int.tmod (IntKind.u64.wrap (Int.tdiv a0 t102)) t103)))))
theorem spec_l2Bits.mono : ∀ a0 a1 a2 k, LeO (spec_l2Bits.f k a0 a1 a2) (spec_l2Bits.f (k + 1) a0 a1 a2) := by
  intro a0 a1 a2 k
  unfold spec_l2Bits.f
  repeat' first
      | (with_reducible exact spec_l2Pow.mono _ _)
      | (with_reducible exact LeO.refl _)
      | (with_reducible exact LeO.none _)
      | (with_reducible refine LeO.ite ?_ ?_)
      | (with_reducible refine LeO.bind ?_ (fun _ => ?_))
      | exact spec_l2Pow.mono _ _
      | exact LeO.none _
      | refine LeO.ite ?_ ?_
      | refine LeO.bind ?_ (fun _ => ?_)
set_option maxHeartbeats 8000000 in
set_option maxRecDepth 100000 in
theorem spec_l2Bits.calls (k : Nat) (a0 : Int) (a1 : Int) (a2 : Int) (r : Int) (w : World) (h : spec_l2Bits.f k a0 a1 a2 = some r) :
    Calls Try.prog 87 #[.int .u64 a0, .int .i64 a1, .int .i64 a2] w fun e w' => e = .returned (.int .u64 r) ∧ Drawn0 w w' := by
  have H : ((spec_l2Pow.f k a1).bind fun t102 => (if t102 = 0 then (none) else ((spec_l2Pow.f k (wrap64 ((wrap64 (a2 - a1)) + 1))).bind fun t103 => (if t103 = 0 then (none) else (some (Int.tmod (IntKind.u64.wrap (Int.tdiv a0 t102)) t103)))))) = some r := h
  clear h
  replace H := Option.bind_eq_some_iff.mp H
  obtain ⟨t102, A40, H⟩ := H
  replace H : (if t102 = 0 then (none) else ((spec_l2Pow.f k (wrap64 ((wrap64 (a2 - a1)) + 1))).bind fun t103 => (if t103 = 0 then (none) else (some (Int.tmod (IntKind.u64.wrap (Int.tdiv a0 t102)) t103))))) = some r := H
  have A4 := Aside0.mk A40
  clear A40
  by_cases c5 : t102 = 0
  · rw [if_pos c5] at H
    exact absurd H (by simp)
  · rw [if_neg c5] at H
    have c5b0 : (t102 == 0) = false := beq_eq_false_iff_ne.mpr c5
    have c5b1 : (t102 != 0) = true := bne_iff_ne.mpr c5
    replace H := Option.bind_eq_some_iff.mp H
    obtain ⟨t103, A60, H⟩ := H
    replace H : (if t103 = 0 then (none) else (some (Int.tmod (IntKind.u64.wrap (Int.tdiv a0 t102)) t103))) = some r := H
    have A6 := Aside0.mk A60
    clear A60
    by_cases c7 : t103 = 0
    · rw [if_pos c7] at H
      exact absurd H (by simp)
    · rw [if_neg c7] at H
      have c7b0 : (t103 == 0) = false := beq_eq_false_iff_ne.mpr c7
      have c7b1 : (t103 != 0) = true := bne_iff_ne.mpr c7
      obtain rfl := Option.some.inj H
      go_enter Try.func87, Try.ntmps87
      go_wp2_with (first | (go_at_call 88; (with_reducible refine (spec_l2Pow.calls k a1 t102 _ A4.out).mono ?_); rintro e w' ⟨rfl, ⟨nd, rfl⟩⟩; (try first | exact ⟨rfl, _, World.drewN_drewN _ _ _⟩ | exact ⟨rfl, _, Eq.trans (World.drewN_drewN _ _ _) (congrArg (World.drewN _) (Nat.add_assoc _ _ _))⟩)) | (go_at_call 88; (with_reducible refine (spec_l2Pow.calls k (wrap64 ((wrap64 (a2 - a1)) + 1)) t103 _ A6.out).mono ?_); rintro e w' ⟨rfl, ⟨nd, rfl⟩⟩; (try first | exact ⟨rfl, _, World.drewN_drewN _ _ _⟩ | exact ⟨rfl, _, Eq.trans (World.drewN_drewN _ _ _) (congrArg (World.drewN _) (Nat.add_assoc _ _ _))⟩)))
      repeat (go_quiet (first | (go_at_call 88; (with_reducible refine (spec_l2Pow.calls k a1 t102 _ A4.out).mono ?_); rintro e w' ⟨rfl, ⟨nd, rfl⟩⟩; (try first | exact ⟨rfl, _, World.drewN_drewN _ _ _⟩ | exact ⟨rfl, _, Eq.trans (World.drewN_drewN _ _ _) (congrArg (World.drewN _) (Nat.add_assoc _ _ _))⟩)) | (go_at_call 88; (with_reducible refine (spec_l2Pow.calls k (wrap64 ((wrap64 (a2 - a1)) + 1)) t103 _ A6.out).mono ?_); rintro e w' ⟨rfl, ⟨nd, rfl⟩⟩; (try first | exact ⟨rfl, _, World.drewN_drewN _ _ _⟩ | exact ⟨rfl, _, Eq.trans (World.drewN_drewN _ _ _) (congrArg (World.drewN _) (Nat.add_assoc _ _ _))⟩))); try go_wp2_with (first | (go_at_call 88; (with_reducible refine (spec_l2Pow.calls k a1 t102 _ A4.out).mono ?_); rintro e w' ⟨rfl, ⟨nd, rfl⟩⟩; (try first | exact ⟨rfl, _, World.drewN_drewN _ _ _⟩ | exact ⟨rfl, _, Eq.trans (World.drewN_drewN _ _ _) (congrArg (World.drewN _) (Nat.add_assoc _ _ _))⟩)) | (go_at_call 88; (with_reducible refine (spec_l2Pow.calls k (wrap64 ((wrap64 (a2 - a1)) + 1)) t103 _ A6.out).mono ?_); rintro e w' ⟨rfl, ⟨nd, rfl⟩⟩; (try first | exact ⟨rfl, _, World.drewN_drewN _ _ _⟩ | exact ⟨rfl, _, Eq.trans (World.drewN_drewN _ _ _) (congrArg (World.drewN _) (Nat.add_assoc _ _ _))⟩))))
      go_ret
      exact ⟨by first | rfl | (simp; done) | (simp [*]; done), by repeat (first | exact Drawn0.refl _ | apply Drawn0.step)⟩

/-! ### spec_Canonical: function 21 -/
def spec_Canonical.f (k : Nat) (a0 : Int) : Option (Bool) := (spec_l2Bits.f k a0 14 63).bind fun t104 => (if t104 = 0 then (some true) else ((spec_l2Pow.f k 50).bind fun t105 => (some (t104 == (IntKind.u64.wrap (t105 - 1))))))
theorem spec_Canonical.mono : ∀ a0 k, LeO (spec_Canonical.f k a0) (spec_Canonical.f (k + 1) a0) := by
  intro a0 k
  unfold spec_Canonical.f
  repeat' first
      | (with_reducible exact spec_l2Bits.mono _ _ _ _)
      | (with_reducible exact spec_l2Pow.mono _ _)
      | (with_reducible exact LeO.refl _)
      | (with_reducible exact LeO.none _)
      | (with_reducible refine LeO.ite ?_ ?_)
      | (with_reducible refine LeO.bind ?_ (fun _ => ?_))
      | exact spec_l2Bits.mono _ _ _ _
      | exact spec_l2Pow.mono _ _
      | exact LeO.none _
      | refine LeO.ite ?_ ?_
      | refine LeO.bind ?_ (fun _ => ?_)
set_option maxHeartbeats 8000000 in
set_option maxRecDepth 100000 in
theorem spec_Canonical.calls (k : Nat) (a0 : Int) (r : Bool) (w : World) (h : spec_Canonical.f k a0 = some r) :
    Calls Try.prog 21 #[.int .u64 a0] w fun e w' => e = .returned (.bool r) ∧ Drawn0 w w' := by
  have H : ((spec_l2Bits.f k a0 14 63).bind fun t104 => (if t104 = 0 then (some true) else ((spec_l2Pow.f k 50).bind fun t105 => (some (t104 == (IntKind.u64.wrap (t105 - 1))))))) = some r := h
  clear h
  replace H := Option.bind_eq_some_iff.mp H
  obtain ⟨t104, A20, H⟩ := H
  replace H : (if t104 = 0 then (some true) else ((spec_l2Pow.f k 50).bind fun t105 => (some (t104 == (IntKind.u64.wrap (t105 - 1)))))) = some r := H
  have A2 := Aside0.mk A20
  clear A20
  by_cases c3 : t104 = 0
  · rw [if_pos c3] at H
    have c3b0 : (t104 == 0) = true := beq_iff_eq.mpr c3
    have c3b1 : (t104 != 0) = false := bne_eq_false_iff_eq.mpr c3
    clear c3
    obtain rfl := Option.some.inj H
    go_enter Try.func21, Try.ntmps21
    go_wp2_with (first | ((with_reducible refine gate_callee (f := 87) rfl ?_); refine goesL_ (some 5) rfl rfl Try.func87 (by kernel_rfl) rfl #[.int .u64 a0, .int .i64 14, .int .i64 63] rfl (by (try simp only [List.map_toArray, List.map_cons, List.map_nil]); first | done | rfl | (simp only [List.length_drop, List.length_take]; rfl)) ?_; (with_reducible refine (spec_l2Bits.calls k a0 14 63 t104 _ A2.out).mono ?_); rintro e w' ⟨rfl, ⟨nd, rfl⟩⟩; refine ⟨_, rfl, ?_⟩))
    go_ret
    exact ⟨by first | rfl | (simp; done) | (simp [*]; done), by repeat (first | exact Drawn0.refl _ | apply Drawn0.step)⟩
  · rw [if_neg c3] at H
    have c3b0 : (t104 == 0) = false := beq_eq_false_iff_ne.mpr c3
    have c3b1 : (t104 != 0) = true := bne_iff_ne.mpr c3
    replace H := Option.bind_eq_some_iff.mp H
    obtain ⟨t105, A40, H⟩ := H
    replace H : (some (t104 == (IntKind.u64.wrap (t105 - 1)))) = some r := H
    have A4 := Aside0.mk A40
    clear A40
    obtain rfl := Option.some.inj H
    go_enter Try.func21, Try.ntmps21
    go_wp2_with (first | ((with_reducible refine gate_callee (f := 87) rfl ?_); refine goesL_ (some 5) rfl rfl Try.func87 (by kernel_rfl) rfl #[.int .u64 a0, .int .i64 14, .int .i64 63] rfl (by (try simp only [List.map_toArray, List.map_cons, List.map_nil]); first | done | rfl | (simp only [List.length_drop, List.length_take]; rfl)) ?_; (with_reducible refine (spec_l2Bits.calls k a0 14 63 t104 _ A2.out).mono ?_); rintro e w' ⟨rfl, ⟨nd, rfl⟩⟩; refine ⟨_, rfl, ?_⟩) | (go_at_call 88; (with_reducible refine (spec_l2Pow.calls k 50 t105 _ A4.out).mono ?_); rintro e w' ⟨rfl, ⟨nd, rfl⟩⟩))
    go_ret
    exact ⟨by first | rfl | (simp; done) | (simp [*]; done), by repeat (first | exact Drawn0.refl _ | apply Drawn0.step)⟩

/-! ### impl_Canonical: function 22 -/
def impl_Canonical.f (a0 : Int) : Option (Bool) := if (a0 / 16384) = 0 then (some true) else (some ((a0 / 16384) == 1125899906842623))
set_option maxHeartbeats 8000000 in
set_option maxRecDepth 100000 in
theorem impl_Canonical.calls (a0 : Int) (r : Bool) (w : World) (h : impl_Canonical.f a0 = some r) :
    Calls Try.prog 22 #[.int .u64 a0] w fun e w' => e = .returned (.bool r) ∧ Drawn0 w w' := by
  have H : (if (a0 / 16384) = 0 then (some true) else (some ((a0 / 16384) == 1125899906842623))) = some r := h
  clear h
  by_cases c2 : (a0 / 16384) = 0
  · rw [if_pos c2] at H
    have c2b0 : ((a0 / 16384) == 0) = true := beq_iff_eq.mpr c2
    have c2b1 : ((a0 / 16384) != 0) = false := bne_eq_false_iff_eq.mpr c2
    clear c2
    obtain rfl := Option.some.inj H
    go_enter Try.func22, Try.ntmps22
    go_wp2
    go_ret
    exact ⟨by first | rfl | (simp; done) | (simp [*]; done), by repeat (first | exact Drawn0.refl _ | apply Drawn0.step)⟩
  · rw [if_neg c2] at H
    have c2b0 : ((a0 / 16384) == 0) = false := beq_eq_false_iff_ne.mpr c2
    have c2b1 : ((a0 / 16384) != 0) = true := bne_iff_ne.mpr c2
    obtain rfl := Option.some.inj H
    go_enter Try.func22, Try.ntmps22
    go_wp2
    go_ret
    exact ⟨by first | rfl | (simp; done) | (simp [*]; done), by repeat (first | exact Drawn0.refl _ | apply Drawn0.step)⟩

/-! ### laws_FnExactCanonical: function 4 -/
def laws_FnExactCanonical.f (k : Nat) (a0 : Int) : Option (Bool) := (spec_Canonical.f k a0).bind fun t106 => ((impl_Canonical.f a0).bind fun t107 => (if (t107 != t106) = true then (some false) else (some true)))
theorem laws_FnExactCanonical.mono : ∀ a0 k, LeO (laws_FnExactCanonical.f k a0) (laws_FnExactCanonical.f (k + 1) a0) := by
  intro a0 k
  unfold laws_FnExactCanonical.f
  repeat' first
      | (with_reducible exact spec_Canonical.mono _ _)
      | (with_reducible exact LeO.refl _)
      | (with_reducible exact LeO.none _)
      | (with_reducible refine LeO.ite ?_ ?_)
      | (with_reducible refine LeO.bind ?_ (fun _ => ?_))
      | exact spec_Canonical.mono _ _
      | exact LeO.none _
      | refine LeO.ite ?_ ?_
      | refine LeO.bind ?_ (fun _ => ?_)
set_option maxHeartbeats 8000000 in
set_option maxRecDepth 100000 in
theorem laws_FnExactCanonical.calls (k : Nat) (a0 : Int) (r : Bool) (w : World) (h : laws_FnExactCanonical.f k a0 = some r) :
    Calls Try.prog 4 #[.int .u64 a0] w fun e w' => e = .returned (.bool r) ∧ Drawn0 w w' := by
  have H : ((spec_Canonical.f k a0).bind fun t106 => ((impl_Canonical.f a0).bind fun t107 => (if (t107 != t106) = true then (some false) else (some true)))) = some r := h
  clear h
  replace H := Option.bind_eq_some_iff.mp H
  obtain ⟨t106, A20, H⟩ := H
  replace H : ((impl_Canonical.f a0).bind fun t107 => (if (t107 != t106) = true then (some false) else (some true))) = some r := H
  have A2 := Aside0.mk A20
  clear A20
  replace H := Option.bind_eq_some_iff.mp H
  obtain ⟨t107, A30, H⟩ := H
  replace H : (if (t107 != t106) = true then (some false) else (some true)) = some r := H
  have A3 := Aside0.mk A30
  clear A30
  by_cases c4 : (t107 != t106) = true
  · rw [if_pos c4] at H
    have c4b0 : (t107 != t106) = true := c4
    (try (have c4b1 : decide (t107 = t106) = false := by simpa using c4))
    (try (have c4b2 : (t107 == t106) = false := by simpa using c4))
    (try (have c4b3 : ¬ (t107 = t106) := by simpa using c4))
    clear c4
    obtain rfl := Option.some.inj H
    go_enter Try.func4, Try.ntmps4
    go_wp2_with (first | ((with_reducible refine gate_callee (f := 21) rfl ?_); refine goesL_ (some 6) rfl rfl Try.func21 (by kernel_rfl) rfl #[.int .u64 a0] rfl (by (try simp only [List.map_toArray, List.map_cons, List.map_nil]); first | done | rfl | (simp only [List.length_drop, List.length_take]; rfl)) ?_; (with_reducible refine (spec_Canonical.calls k a0 t106 _ A2.out).mono ?_); rintro e w' ⟨rfl, ⟨nd, rfl⟩⟩; refine ⟨_, rfl, ?_⟩) | ((with_reducible refine gate_callee (f := 22) rfl ?_); refine goesL_ (some 8) rfl rfl Try.func22 (by kernel_rfl) rfl #[.int .u64 a0] rfl (by (try simp only [List.map_toArray, List.map_cons, List.map_nil]); first | done | rfl | (simp only [List.length_drop, List.length_take]; rfl)) ?_; (with_reducible refine (impl_Canonical.calls a0 t107 _ A3.out).mono ?_); rintro e w' ⟨rfl, ⟨nd, rfl⟩⟩; refine ⟨_, rfl, ?_⟩))
    go_ret
    exact ⟨by first | rfl | (simp; done) | (simp [*]; done), by repeat (first | exact Drawn0.refl _ | apply Drawn0.step)⟩
  · rw [if_neg c4] at H
    have c4b0 : (t107 != t106) = false := by simpa using c4
    (try (have c4b1 : decide (t107 = t106) = true := by simpa using c4))
    (try (have c4b2 : (t107 == t106) = true := by simpa using c4))
    clear c4
    obtain rfl := Option.some.inj H
    go_enter Try.func4, Try.ntmps4
    go_wp2_with (first | ((with_reducible refine gate_callee (f := 21) rfl ?_); refine goesL_ (some 6) rfl rfl Try.func21 (by kernel_rfl) rfl #[.int .u64 a0] rfl (by (try simp only [List.map_toArray, List.map_cons, List.map_nil]); first | done | rfl | (simp only [List.length_drop, List.length_take]; rfl)) ?_; (with_reducible refine (spec_Canonical.calls k a0 t106 _ A2.out).mono ?_); rintro e w' ⟨rfl, ⟨nd, rfl⟩⟩; refine ⟨_, rfl, ?_⟩) | ((with_reducible refine gate_callee (f := 22) rfl ?_); refine goesL_ (some 8) rfl rfl Try.func22 (by kernel_rfl) rfl #[.int .u64 a0] rfl (by (try simp only [List.map_toArray, List.map_cons, List.map_nil]); first | done | rfl | (simp only [List.length_drop, List.length_take]; rfl)) ?_; (with_reducible refine (impl_Canonical.calls a0 t107 _ A3.out).mono ?_); rintro e w' ⟨rfl, ⟨nd, rfl⟩⟩; refine ⟨_, rfl, ?_⟩))
    go_ret
    exact ⟨by first | rfl | (simp; done) | (simp [*]; done), by repeat (first | exact Drawn0.refl _ | apply Drawn0.step)⟩

/-- THE ONE PURE STATEMENT of laws_FnExactCanonical: yours. -/
def laws_FnExactCanonical.Pure : Prop := ∀ (a0 : Int), (Lit.int .u64 a0).wf = true → ∃ k, laws_FnExactCanonical.f k a0 = some true
theorem laws_FnExactCanonical.walk (P : laws_FnExactCanonical.Pure) (a0 : Int) (w : World) (w0 : (Lit.int .u64 a0).wf = true) :
    Calls Try.prog 4 #[.int .u64 a0] w fun e w' => e = .returned (.bool true) ∧ Below w.heap.size w w' := by
  obtain ⟨k, h⟩ := P a0 w0
  refine (laws_FnExactCanonical.calls k a0 true w h).mono ?_
  rintro e w' ⟨rfl, hd⟩
  exact ⟨rfl, hd.below⟩

end Go.Proofs.Ytfiddfbagbaofaa.PFnExactCanonical
