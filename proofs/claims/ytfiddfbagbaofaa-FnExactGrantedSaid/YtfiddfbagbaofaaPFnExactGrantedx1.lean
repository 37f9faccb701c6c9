-- PRINTED BY print.sh 35421559b90ae4d0a3588c463048766b98c2df88dd9212a6774a882060cdf62d: not written by this session
import Derived.Test.YtfiddfbagbaofaaPFnExactGrantedx0
namespace Go.Proofs.Ytfiddfbagbaofaa.PFnExactGranted
open Go.RowKit Go.Proofs.YtfiddfbagbaofaaW.PrintWords Go.Proofs.YtfiddfbagbaofaaW.PrintLast Go.Proofs.YtfiddfbagbaofaaW.PrintMore
attribute [local go_sem] max2_int min2_int max_two min_two max_three min_three max_four min_four   -- for this text's walks alone
set_option linter.unusedVariables false
set_option linter.unusedSimpArgs false

/-! ### spec_l2Pow: function 88 -/
def spec_l2Pow.f : Nat → Int → Option (Int)
  | 0, _ => none
  | k + 1, a0 => if a0 ≤ 0 then (some 1) else ((spec_l2Pow.f k (wrap64 (a0 - 1))).bind fun t101 => (some (IntKind.u64.wrap (2 * t101))))
theorem spec_l2Pow.mono_l : ∀ k, (∀ y0, LeO (spec_l2Pow.f k y0) (spec_l2Pow.f (k + 1) y0))
  | 0 => fun _ r h => by simp [spec_l2Pow.f] at h
  | k + 1 => by
    have ih0 := spec_l2Pow.mono_l k
    · intro y0
      unfold spec_l2Pow.f
      repeat' first
      | (with_reducible exact ih0 _)
      | (with_reducible exact LeO.refl _)
      | (with_reducible exact LeO.none _)
      | (with_reducible refine LeO.ite ?_ ?_)
      | (with_reducible refine LeO.bind ?_ (fun _ => ?_))
      | exact ih0 _
      | exact LeO.none _
      | refine LeO.ite ?_ ?_
      | refine LeO.bind ?_ (fun _ => ?_)
theorem spec_l2Pow.mono : ∀ a0 k, LeO (spec_l2Pow.f k a0) (spec_l2Pow.f (k + 1) a0) := by
  intro a0 k
  have ih0 := spec_l2Pow.mono_l k
  exact ih0 a0
set_option maxHeartbeats 8000000 in
set_option maxRecDepth 100000 in
theorem spec_l2Pow.calls (k : Nat) : ∀ (a0 : Int) (r : Int) (w : World) (h : spec_l2Pow.f k a0 = some r),
    Calls Try.prog 88 #[.int .i64 a0] w fun e w' => e = .returned (.int .u64 r) ∧ Drawn0 w w' := by
  induction k using Nat.strongRecOn with
  | _ k ih =>
  intro a0 r w h
  cases k with
  | zero => exact absurd h (by simp [spec_l2Pow.f])
  | succ k =>
  simp only [spec_l2Pow.f] at h
  have H : (if a0 ≤ 0 then (some 1) else ((spec_l2Pow.f k (wrap64 (a0 - 1))).bind fun t101 => (some (IntKind.u64.wrap (2 * t101))))) = some r := h
  clear h
  by_cases c2 : a0 ≤ 0
  · rw [if_pos c2] at H
    have c2b0 : decide (a0 ≤ 0) = true := decide_eq_true c2
    clear c2
    obtain rfl := Option.some.inj H
    go_enter Try.func88, Try.ntmps88
    go_wp2
    go_ret
    exact ⟨by first | rfl | (simp; done) | (simp [*]; done), by repeat (first | exact Drawn0.refl _ | apply Drawn0.step)⟩
  · rw [if_neg c2] at H
    have c2b0 : decide (a0 ≤ 0) = false := decide_eq_false c2
    clear c2
    replace H := Option.bind_eq_some_iff.mp H
    obtain ⟨t101, A30, H⟩ := H
    replace H : (some (IntKind.u64.wrap (2 * t101))) = some r := H
    have A3 := Aside0.mk A30
    clear A30
    obtain rfl := Option.some.inj H
    go_enter Try.func88, Try.ntmps88
    go_wp2_with (first | ((with_reducible refine gate_callee (f := 88) rfl ?_); refine goesL_ (some 7) rfl rfl Try.func88 (by kernel_rfl) rfl #[.int .i64 (wrap64 (a0 - 1))] rfl (by (try simp only [List.map_toArray, List.map_cons, List.map_nil]); first | done | rfl | (simp only [List.length_drop, List.length_take]; rfl)) ?_; (with_reducible refine (ih k (by omega) (wrap64 (a0 - 1)) t101 _ A3.out).mono ?_); rintro e w' ⟨rfl, ⟨nd, rfl⟩⟩; refine ⟨_, rfl, ?_⟩))
    go_ret
    exact ⟨by first | rfl | (simp; done) | (simp [*]; done), by repeat (first | exact Drawn0.refl _ | apply Drawn0.step)⟩

/-! ### spec_l2Bits: function 87 -/
def spec_l2Bits.f (k : Nat) (a0 : Int) (a1 : Int) (a2 : Int) : Option (Int) := (spec_l2Pow.f k a1).bind fun t102 => (if t102 = 0 then (none) else ((spec_l2Pow.f k (wrap64 ((wrap64 (a2 - a1)) + 1))).bind fun t103 => (if t103 = 0 then (none) else (some (Int.tmod (IntKind.u64.wrap (Int.tdiv a0 t102)) t103)))))
theorem spec_l2Bits.mono : ∀ a0 a1 a2 k, LeO (spec_l2Bits.f k a0 a1 a2) (spec_l2Bits.f (k + 1) a0 a1 a2) := by
  intro a0 a1 a2 k
  unfold spec_l2Bits.f
  repeat' first
      | (with_reducible exact spec_l2Pow.mono _ _)
      | (with_reducible exact LeO.refl _)
      | (with_reducible exact LeO.none _)
      | (with_reducible refine LeO.ite ?_ ?_)
      | (with_reducible refine LeO.bind ?_ (fun _ => ?_))
      | exact spec_l2Pow.mono _ _
      | exact LeO.none _
      | refine LeO.ite ?_ ?_
      | refine LeO.bind ?_ (fun _ => ?_)
set_option maxHeartbeats 8000000 in
set_option maxRecDepth 100000 in
theorem spec_l2Bits.calls (k : Nat) (a0 : Int) (a1 : Int) (a2 : Int) (r : Int) (w : World) (h : spec_l2Bits.f k a0 a1 a2 = some r) :
    Calls Try.prog 87 #[.int .u64 a0, .int .i64 a1, .int .i64 a2] w fun e w' => e = .returned (.int .u64 r) ∧ Drawn0 w w' := by
  have H : ((spec_l2Pow.f k a1).bind fun t102 => (if t102 = 0 then (none) else ((spec_l2Pow.f k (wrap64 ((wrap64 (a2 - a1)) + 1))).bind fun t103 => (if t103 = 0 then (none) else (some (Int.tmod (IntKind.u64.wrap (Int.tdiv a0 t102)) t103)))))) = some r := h
  clear h
  replace H := Option.bind_eq_some_iff.mp H
  obtain ⟨t102, A40, H⟩ := H
  replace H : (if t102 = 0 then (none) else ((spec_l2Pow.f k (wrap64 ((wrap64 (a2 - a1)) + 1))).bind fun t103 => (if t103 = 0 then (none) else (some (Int.tmod (IntKind.u64.wrap (Int.tdiv a0 t102)) t103))))) = some r := H
  have A4 := Aside0.mk A40
  clear A40
  by_cases c5 : t102 = 0
  · rw [if_pos c5] at H
    exact absurd H (by simp)
  · rw [if_neg c5] at H
    have c5b0 : (t102 == 0) = false := beq_eq_false_iff_ne.mpr c5
    have c5b1 : (t102 != 0) = true := bne_iff_ne.mpr c5
    replace H := Option.bind_eq_some_iff.mp H
    obtain ⟨t103, A60, H⟩ := H
    replace H : (if t103 = 0 then (none) else (some (Int.tmod (IntKind.u64.wrap (Int.tdiv a0 t102)) t103))) = some r := H
    have A6 := Aside0.mk A60
    clear A60
    by_cases c7 : t103 = 0
    · rw [if_pos c7] at H
      exact absurd H (by simp)
    · rw [if_neg c7] at H
      have c7b0 : (t103 == 0) = false := beq_eq_false_iff_ne.mpr c7
      have c7b1 : (t103 != 0) = true := bne_iff_ne.mpr c7
      obtain rfl := Option.some.inj H
      go_enter Try.func87, Try.ntmps87
      go_wp2_with (first | (go_at_call 88; (with_reducible refine (spec_l2Pow.calls k a1 t102 _ A4.out).mono ?_); rintro e w' ⟨rfl, ⟨nd, rfl⟩⟩; (try first | exact ⟨rfl, _, World.drewN_drewN _ _ _⟩ | exact ⟨rfl, _, Eq.trans (World.drewN_drewN _ _ _) (congrArg (World.drewN _) (Nat.add_assoc _ _ _))⟩)) | (go_at_call 88; (with_reducible refine (spec_l2Pow.calls k (wrap64 ((wrap64 (a2 - a1)) + 1)) t103 _ A6.out).mono ?_); rintro e w' ⟨rfl, ⟨nd, rfl⟩⟩; (try first | exact ⟨rfl, _, World.drewN_drewN _ _ _⟩ | exact ⟨rfl, _, Eq.trans (World.drewN_drewN _ _ _) (congrArg (World.drewN _) (Nat.add_assoc _ _ _))⟩)))
      repeat (go_quiet (first | (go_at_call 88; (with_reducible refine (spec_l2Pow.calls k a1 t102 _ A4.out).mono ?_); rintro e w' ⟨rfl, ⟨nd, rfl⟩⟩; (try first | exact ⟨rfl, _, World.drewN_drewN _ _ _⟩ | exact ⟨rfl, _, Eq.trans (World.drewN_drewN _ _ _) (congrArg (World.drewN _) (Nat.add_assoc _ _ _))⟩)) | (go_at_call 88; (with_reducible refine (spec_l2Pow.calls k (wrap64 ((wrap64 (a2 - a1)) + 1)) t103 _ A6.out).mono ?_); rintro e w' ⟨rfl, ⟨nd, rfl⟩⟩; (try first | exact ⟨rfl, _, World.drewN_drewN _ _ _⟩ | exact ⟨rfl, _, Eq.trans (World.drewN_drewN _ _ _) (congrArg (World.drewN _) (Nat.add_assoc _ _ _))⟩))); try go_wp2_with (first | (go_at_call 88; (with_reducible refine (spec_l2Pow.calls k a1 t102 _ A4.out).mono ?_); rintro e w' ⟨rfl, ⟨nd, rfl⟩⟩; (try first | exact ⟨rfl, _, World.drewN_drewN _ _ _⟩ | exact ⟨rfl, _, Eq.trans (World.drewN_drewN _ _ _) (congrArg (World.drewN _) (Nat.add_assoc _ _ _))⟩)) | (go_at_call 88; (with_reducible refine (spec_l2Pow.calls k (wrap64 ((wrap64 (a2 - a1)) + 1)) t103 _ A6.out).mono ?_); rintro e w' ⟨rfl, ⟨nd, rfl⟩⟩; (try first | exact ⟨rfl, _, World.drewN_drewN _ _ _⟩ | exact ⟨rfl, _, Eq.trans (World.drewN_drewN _ _ _) (congrArg (World.drewN _) (Nat.add_assoc _ _ _))⟩))))
      go_ret
      exact ⟨by first | rfl | (simp; done) | (simp [*]; done), by repeat (first | exact Drawn0.refl _ | apply Drawn0.step)⟩

/-! ### spec_l2Bit: function 92 -/
def spec_l2Bit.f (k : Nat) (a0 : Int) (a1 : Int) : Option (Bool) := (spec_l2Bits.f k a0 a1 a1).bind fun t104 => (some (t104 == 1))
theorem spec_l2Bit.mono : ∀ a0 a1 k, LeO (spec_l2Bit.f k a0 a1) (spec_l2Bit.f (k + 1) a0 a1) := by
  intro a0 a1 k
  unfold spec_l2Bit.f
  repeat' first
      | (with_reducible exact spec_l2Bits.mono _ _ _ _)
      | (with_reducible exact LeO.refl _)
      | (with_reducible exact LeO.none _)
      | (with_reducible refine LeO.ite ?_ ?_)
      | (with_reducible refine LeO.bind ?_ (fun _ => ?_))
      | exact spec_l2Bits.mono _ _ _ _
      | exact LeO.none _
      | refine LeO.ite ?_ ?_
      | refine LeO.bind ?_ (fun _ => ?_)
set_option maxHeartbeats 8000000 in
set_option maxRecDepth 100000 in
theorem spec_l2Bit.calls (k : Nat) (a0 : Int) (a1 : Int) (r : Bool) (w : World) (h : spec_l2Bit.f k a0 a1 = some r) :
    Calls Try.prog 92 #[.int .u64 a0, .int .i64 a1] w fun e w' => e = .returned (.bool r) ∧ Drawn0 w w' := by
  have H : ((spec_l2Bits.f k a0 a1 a1).bind fun t104 => (some (t104 == 1))) = some r := h
  clear h
  replace H := Option.bind_eq_some_iff.mp H
  obtain ⟨t104, A30, H⟩ := H
  replace H : (some (t104 == 1)) = some r := H
  have A3 := Aside0.mk A30
  clear A30
  obtain rfl := Option.some.inj H
  go_enter Try.func92, Try.ntmps92
  go_wp2_with (first | ((with_reducible refine gate_callee (f := 87) rfl ?_); refine goesL_ (some 8) rfl rfl Try.func87 (by kernel_rfl) rfl #[.int .u64 a0, .int .i64 a1, .int .i64 a1] rfl (by (try simp only [List.map_toArray, List.map_cons, List.map_nil]); first | done | rfl | (simp only [List.length_drop, List.length_take]; rfl)) ?_; (with_reducible refine (spec_l2Bits.calls k a0 a1 a1 t104 _ A3.out).mono ?_); rintro e w' ⟨rfl, ⟨nd, rfl⟩⟩; refine ⟨_, rfl, ?_⟩))
  go_ret
  exact ⟨by first | rfl | (simp; done) | (simp [*]; done), by repeat (first | exact Drawn0.refl _ | apply Drawn0.step)⟩

/-! ### spec_Granted: function 27 -/
mutual
def spec_Granted.j0 : Nat → Int → Int → Bool → Bool → Bool → Bool → Bool → Bool → Bool → Bool → Bool → Option (Bool)
  | 0, _, _, _, _, _, _, _, _, _, _, _ => none
  | k + 1, x1, x2, x3, x4, x11, x12, x13, x14, x15, x16, x17 => if x1 = 1 then (if x11 = true then (spec_Granted.j1 k x1 x2 x3 x12 x14 x15 x16 true) else (if x4 = true then (spec_Granted.j1 k x1 x2 x3 x12 x14 x15 x16 x13) else (spec_Granted.j1 k x1 x2 x3 x12 x14 x15 x16 false))) else (spec_Granted.j1 k x1 x2 x3 x12 x14 x15 x16 x17)
def spec_Granted.j1 : Nat → Int → Int → Bool → Bool → Bool → Bool → Bool → Bool → Option (Bool)
  | 0, _, _, _, _, _, _, _, _ => none
  | k + 1, x1, x2, x3, x12, x14, x15, x16, x17 => if x1 = 2 then (if x12 = true then (spec_Granted.j2 k x1 x2 x3 x14 x15 x16) else (spec_Granted.j2 k x1 x2 x3 x14 x15 false)) else (spec_Granted.j2 k x1 x2 x3 x14 x15 x17)
def spec_Granted.j2 : Nat → Int → Int → Bool → Bool → Bool → Bool → Option (Bool)
  | 0, _, _, _, _, _, _ => none
  | k + 1, x1, x2, x3, x14, x15, x17 => if x2 = 0 then (if x2 = 1 then (if x14 = true then (if x1 = 0 then (if x17 = true then (some false) else (some false)) else (if x17 = true then (if x3 = true then (some x15) else (some false)) else (some false))) else (if x17 = true then (some x15) else (some false))) else (if x17 = true then (if x14 = true then (some x15) else (some false)) else (some false))) else (if x2 = 1 then (if x14 = true then (if x1 = 0 then (if x17 = true then (some false) else (some false)) else (if x17 = true then (if x3 = true then (some x15) else (some false)) else (some false))) else (if x17 = true then (some x15) else (some false))) else (if x17 = true then (some false) else (some false)))
end
def spec_Granted.f (k : Nat) (a0 : Int) (a1 : Int) (a2 : Int) (a3 : Bool) (a4 : Bool) : Option (Bool) := (spec_l2Bit.f k a0 1).bind fun t105 => ((spec_l2Bit.f k a0 2).bind fun t106 => ((spec_l2Bit.f k a0 3).bind fun t107 => ((spec_l2Bit.f k a0 4).bind fun t108 => ((spec_l2Bit.f k a0 6).bind fun t109 => ((spec_l2Bit.f k a0 7).bind fun t110 => (if a1 = 0 then (spec_Granted.j0 k a1 a2 a3 a4 t105 t106 t107 t108 t109 t110 t107) else (spec_Granted.j0 k a1 a2 a3 a4 t105 t106 t107 t108 t109 t110 false)))))))
theorem spec_Granted.mono_l : ∀ k, (∀ y0 y1 y2 y3 y4 y5 y6 y7 y8 y9 y10, LeO (spec_Granted.j0 k y0 y1 y2 y3 y4 y5 y6 y7 y8 y9 y10) (spec_Granted.j0 (k + 1) y0 y1 y2 y3 y4 y5 y6 y7 y8 y9 y10)) ∧ (∀ y0 y1 y2 y3 y4 y5 y6 y7, LeO (spec_Granted.j1 k y0 y1 y2 y3 y4 y5 y6 y7) (spec_Granted.j1 (k + 1) y0 y1 y2 y3 y4 y5 y6 y7)) ∧ (∀ y0 y1 y2 y3 y4 y5, LeO (spec_Granted.j2 k y0 y1 y2 y3 y4 y5) (spec_Granted.j2 (k + 1) y0 y1 y2 y3 y4 y5))
  | 0 => ⟨fun _ _ _ _ _ _ _ _ _ _ _ r h => by simp [spec_Granted.j0] at h, fun _ _ _ _ _ _ _ _ r h => by simp [spec_Granted.j1] at h, fun _ _ _ _ _ _ r h => by simp [spec_Granted.j2] at h⟩
  | k + 1 => by
    obtain ⟨ih0, ih1, ih2⟩ := spec_Granted.mono_l k
    refine ⟨?_, ?_, ?_⟩
    · intro y0 y1 y2 y3 y4 y5 y6 y7 y8 y9 y10
      unfold spec_Granted.j0
      repeat' first
      | (with_reducible exact ih0 _ _ _ _ _ _ _ _ _ _ _)
      | (with_reducible exact ih1 _ _ _ _ _ _ _ _)
      | (with_reducible exact ih2 _ _ _ _ _ _)
      | (with_reducible exact spec_l2Bit.mono _ _ _)
      | (with_reducible exact LeO.refl _)
      | (with_reducible exact LeO.none _)
      | (with_reducible refine LeO.ite ?_ ?_)
      | (with_reducible refine LeO.bind ?_ (fun _ => ?_))
      | exact ih0 _ _ _ _ _ _ _ _ _ _ _
      | exact ih1 _ _ _ _ _ _ _ _
      | exact ih2 _ _ _ _ _ _
      | exact spec_l2Bit.mono _ _ _
      | exact LeO.none _
      | refine LeO.ite ?_ ?_
      | refine LeO.bind ?_ (fun _ => ?_)
    · intro y0 y1 y2 y3 y4 y5 y6 y7
      unfold spec_Granted.j1
      repeat' first
      | (with_reducible exact ih0 _ _ _ _ _ _ _ _ _ _ _)
      | (with_reducible exact ih1 _ _ _ _ _ _ _ _)
      | (with_reducible exact ih2 _ _ _ _ _ _)
      | (with_reducible exact spec_l2Bit.mono _ _ _)
      | (with_reducible exact LeO.refl _)
      | (with_reducible exact LeO.none _)
      | (with_reducible refine LeO.ite ?_ ?_)
      | (with_reducible refine LeO.bind ?_ (fun _ => ?_))
      | exact ih0 _ _ _ _ _ _ _ _ _ _ _
      | exact ih1 _ _ _ _ _ _ _ _
      | exact ih2 _ _ _ _ _ _
      | exact spec_l2Bit.mono _ _ _
      | exact LeO.none _
      | refine LeO.ite ?_ ?_
      | refine LeO.bind ?_ (fun _ => ?_)
    · intro y0 y1 y2 y3 y4 y5
      unfold spec_Granted.j2
      repeat' first
      | (with_reducible exact ih0 _ _ _ _ _ _ _ _ _ _ _)
      | (with_reducible exact ih1 _ _ _ _ _ _ _ _)
      | (with_reducible exact ih2 _ _ _ _ _ _)
      | (with_reducible exact spec_l2Bit.mono _ _ _)
      | (with_reducible exact LeO.refl _)
      | (with_reducible exact LeO.none _)
      | (with_reducible refine LeO.ite ?_ ?_)
      | (with_reducible refine LeO.bind ?_ (fun _ => ?_))
      | exact ih0 _ _ _ _ _ _ _ _ _ _ _
      | exact ih1 _ _ _ _ _ _ _ _
      | exact ih2 _ _ _ _ _ _
      | exact spec_l2Bit.mono _ _ _
      | exact LeO.none _
      | refine LeO.ite ?_ ?_
      | refine LeO.bind ?_ (fun _ => ?_)
theorem spec_Granted.mono : ∀ a0 a1 a2 a3 a4 k, LeO (spec_Granted.f k a0 a1 a2 a3 a4) (spec_Granted.f (k + 1) a0 a1 a2 a3 a4) := by
  intro a0 a1 a2 a3 a4 k
  obtain ⟨ih0, ih1, ih2⟩ := spec_Granted.mono_l k
  unfold spec_Granted.f
  repeat' first
      | (with_reducible exact ih0 _ _ _ _ _ _ _ _ _ _ _)
      | (with_reducible exact ih1 _ _ _ _ _ _ _ _)
      | (with_reducible exact ih2 _ _ _ _ _ _)
      | (with_reducible exact spec_l2Bit.mono _ _ _)
      | (with_reducible exact LeO.refl _)
      | (with_reducible exact LeO.none _)
      | (with_reducible refine LeO.ite ?_ ?_)
      | (with_reducible refine LeO.bind ?_ (fun _ => ?_))
      | exact ih0 _ _ _ _ _ _ _ _ _ _ _
      | exact ih1 _ _ _ _ _ _ _ _
      | exact ih2 _ _ _ _ _ _
      | exact spec_l2Bit.mono _ _ _
      | exact LeO.none _
      | refine LeO.ite ?_ ?_
      | refine LeO.bind ?_ (fun _ => ?_)
set_option maxHeartbeats 8000000 in
set_option maxRecDepth 100000 in
theorem spec_Granted.calls (k : Nat) (a0 : Int) (a1 : Int) (a2 : Int) (a3 : Bool) (a4 : Bool) (r : Bool) (w : World) (h : spec_Granted.f k a0 a1 a2 a3 a4 = some r) :
    Calls Try.prog 27 #[.int .u64 a0, .int .i64 a1, .int .i64 a2, .bool a3, .bool a4] w fun e w' => e = .returned (.bool r) ∧ Drawn0 w w' := by
  have H : ((spec_l2Bit.f k a0 1).bind fun t105 => ((spec_l2Bit.f k a0 2).bind fun t106 => ((spec_l2Bit.f k a0 3).bind fun t107 => ((spec_l2Bit.f k a0 4).bind fun t108 => ((spec_l2Bit.f k a0 6).bind fun t109 => ((spec_l2Bit.f k a0 7).bind fun t110 => (if a1 = 0 then (spec_Granted.j0 k a1 a2 a3 a4 t105 t106 t107 t108 t109 t110 t107) else (spec_Granted.j0 k a1 a2 a3 a4 t105 t106 t107 t108 t109 t110 false)))))))) = some r := h
  clear h
  replace H := Option.bind_eq_some_iff.mp H
  obtain ⟨t105, A60, H⟩ := H
  replace H : ((spec_l2Bit.f k a0 2).bind fun t106 => ((spec_l2Bit.f k a0 3).bind fun t107 => ((spec_l2Bit.f k a0 4).bind fun t108 => ((spec_l2Bit.f k a0 6).bind fun t109 => ((spec_l2Bit.f k a0 7).bind fun t110 => (if a1 = 0 then (spec_Granted.j0 k a1 a2 a3 a4 t105 t106 t107 t108 t109 t110 t107) else (spec_Granted.j0 k a1 a2 a3 a4 t105 t106 t107 t108 t109 t110 false))))))) = some r := H
  have A6 := Aside0.mk A60
  clear A60
  replace H := Option.bind_eq_some_iff.mp H
  obtain ⟨t106, A70, H⟩ := H
  replace H : ((spec_l2Bit.f k a0 3).bind fun t107 => ((spec_l2Bit.f k a0 4).bind fun t108 => ((spec_l2Bit.f k a0 6).bind fun t109 => ((spec_l2Bit.f k a0 7).bind fun t110 => (if a1 = 0 then (spec_Granted.j0 k a1 a2 a3 a4 t105 t106 t107 t108 t109 t110 t107) else (spec_Granted.j0 k a1 a2 a3 a4 t105 t106 t107 t108 t109 t110 false)))))) = some r := H
  have A7 := Aside0.mk A70
  clear A70
  replace H := Option.bind_eq_some_iff.mp H
  obtain ⟨t107, A80, H⟩ := H
  replace H : ((spec_l2Bit.f k a0 4).bind fun t108 => ((spec_l2Bit.f k a0 6).bind fun t109 => ((spec_l2Bit.f k a0 7).bind fun t110 => (if a1 = 0 then (spec_Granted.j0 k a1 a2 a3 a4 t105 t106 t107 t108 t109 t110 t107) else (spec_Granted.j0 k a1 a2 a3 a4 t105 t106 t107 t108 t109 t110 false))))) = some r := H
  have A8 := Aside0.mk A80
  clear A80
  replace H := Option.bind_eq_some_iff.mp H
  obtain ⟨t108, A90, H⟩ := H
  replace H : ((spec_l2Bit.f k a0 6).bind fun t109 => ((spec_l2Bit.f k a0 7).bind fun t110 => (if a1 = 0 then (spec_Granted.j0 k a1 a2 a3 a4 t105 t106 t107 t108 t109 t110 t107) else (spec_Granted.j0 k a1 a2 a3 a4 t105 t106 t107 t108 t109 t110 false)))) = some r := H
  have A9 := Aside0.mk A90
  clear A90
  replace H := Option.bind_eq_some_iff.mp H
  obtain ⟨t109, A100, H⟩ := H
  replace H : ((spec_l2Bit.f k a0 7).bind fun t110 => (if a1 = 0 then (spec_Granted.j0 k a1 a2 a3 a4 t105 t106 t107 t108 t109 t110 t107) else (spec_Granted.j0 k a1 a2 a3 a4 t105 t106 t107 t108 t109 t110 false))) = some r := H
  have A10 := Aside0.mk A100
  clear A100
  replace H := Option.bind_eq_some_iff.mp H
  obtain ⟨t110, A110, H⟩ := H
  replace H : (if a1 = 0 then (spec_Granted.j0 k a1 a2 a3 a4 t105 t106 t107 t108 t109 t110 t107) else (spec_Granted.j0 k a1 a2 a3 a4 t105 t106 t107 t108 t109 t110 false)) = some r := H
  have A11 := Aside0.mk A110
  clear A110
  have HC12 := Aside0.mk H
  clear H
  go_enter Try.func27, Try.ntmps27
  go_upto_if 32 with (first | ((with_reducible refine gate_callee (f := 92) rfl ?_); refine goesL_ (some 20) rfl rfl Try.func92 (by kernel_rfl) rfl #[.int .u64 a0, .int .i64 1] rfl (by (try simp only [List.map_toArray, List.map_cons, List.map_nil]); first | done | rfl | (simp only [List.length_drop, List.length_take]; rfl)) ?_; (with_reducible refine (spec_l2Bit.calls k a0 1 t105 _ A6.out).mono ?_); rintro e w' ⟨rfl, ⟨nd, rfl⟩⟩; refine ⟨_, rfl, ?_⟩) | ((with_reducible refine gate_callee (f := 92) rfl ?_); refine goesL_ (some 22) rfl rfl Try.func92 (by kernel_rfl) rfl #[.int .u64 a0, .int .i64 2] rfl (by (try simp only [List.map_toArray, List.map_cons, List.map_nil]); first | done | rfl | (simp only [List.length_drop, List.length_take]; rfl)) ?_; (with_reducible refine (spec_l2Bit.calls k a0 2 t106 _ A7.out).mono ?_); rintro e w' ⟨rfl, ⟨nd, rfl⟩⟩; refine ⟨_, rfl, ?_⟩) | ((with_reducible refine gate_callee (f := 92) rfl ?_); refine goesL_ (some 24) rfl rfl Try.func92 (by kernel_rfl) rfl #[.int .u64 a0, .int .i64 3] rfl (by (try simp only [List.map_toArray, List.map_cons, List.map_nil]); first | done | rfl | (simp only [List.length_drop, List.length_take]; rfl)) ?_; (with_reducible refine (spec_l2Bit.calls k a0 3 t107 _ A8.out).mono ?_); rintro e w' ⟨rfl, ⟨nd, rfl⟩⟩; refine ⟨_, rfl, ?_⟩) | ((with_reducible refine gate_callee (f := 92) rfl ?_); refine goesL_ (some 26) rfl rfl Try.func92 (by kernel_rfl) rfl #[.int .u64 a0, .int .i64 4] rfl (by (try simp only [List.map_toArray, List.map_cons, List.map_nil]); first | done | rfl | (simp only [List.length_drop, List.length_take]; rfl)) ?_; (with_reducible refine (spec_l2Bit.calls k a0 4 t108 _ A9.out).mono ?_); rintro e w' ⟨rfl, ⟨nd, rfl⟩⟩; refine ⟨_, rfl, ?_⟩) | ((with_reducible refine gate_callee (f := 92) rfl ?_); refine goesL_ (some 28) rfl rfl Try.func92 (by kernel_rfl) rfl #[.int .u64 a0, .int .i64 6] rfl (by (try simp only [List.map_toArray, List.map_cons, List.map_nil]); first | done | rfl | (simp only [List.length_drop, List.length_take]; rfl)) ?_; (with_reducible refine (spec_l2Bit.calls k a0 6 t109 _ A10.out).mono ?_); rintro e w' ⟨rfl, ⟨nd, rfl⟩⟩; refine ⟨_, rfl, ?_⟩) | ((with_reducible refine gate_callee (f := 92) rfl ?_); refine goesL_ (some 30) rfl rfl Try.func92 (by kernel_rfl) rfl #[.int .u64 a0, .int .i64 7] rfl (by (try simp only [List.map_toArray, List.map_cons, List.map_nil]); first | done | rfl | (simp only [List.length_drop, List.length_take]; rfl)) ?_; (with_reducible refine (spec_l2Bit.calls k a0 7 t110 _ A11.out).mono ?_); rintro e w' ⟨rfl, ⟨nd, rfl⟩⟩; refine ⟨_, rfl, ?_⟩))
  (try simp only [Act.put, List.setIfInBounds_toArray, List.set_cons_zero, List.set_cons_succ])
  go_cut [17] (fun v17 wc => ∃ (kq : Nat) (x17_11 : Bool), v17 = .bool x17_11 ∧ Aside0 (spec_Granted.j0 kq a1 a2 a3 a4 t105 t106 t107 t108 t109 t110 x17_11 = some r) ∧ Aside0 (kq ≤ k) ∧ Drawn0 w wc)
  case first =>
    have H := HC12.out
    clear HC12
    by_cases c13 : a1 = 0
    · rw [if_pos c13] at H
      have c13b0 : (a1 == 0) = true := beq_iff_eq.mpr c13
      have c13b1 : (a1 != 0) = false := bne_eq_false_iff_eq.mpr c13
      clear c13
      (first | rw [c13b0] | (simp only [i64_w, i32_w]; rw [c13b0]) | skip)
      have H' := Aside0.mk H
      clear H
      go_wp2
      go_meet
      case rel => exact ⟨_, (t107), (by first | rfl | (simp; done) | (simp [*]; done)), H', ⟨by first | omega | exact Nat.le_refl _⟩, by repeat (first | exact Drawn0.refl _ | apply Drawn0.step)⟩
    · rw [if_neg c13] at H
      have c13b0 : (a1 == 0) = false := beq_eq_false_iff_ne.mpr c13
      have c13b1 : (a1 != 0) = true := bne_iff_ne.mpr c13
      (first | rw [c13b0] | (simp only [i64_w, i32_w]; rw [c13b0]) | skip)
      have H' := Aside0.mk H
      clear H
      go_wp2
      go_meet
      case rel => exact ⟨_, (false), (by first | rfl | (simp; done) | (simp [*]; done)), H', ⟨by first | omega | exact Nat.le_refl _⟩, by repeat (first | exact Drawn0.refl _ | apply Drawn0.step)⟩
  case rest =>
    clear HC12
    try clear c1
    try clear c2
    try clear p2
    try clear c9
    try clear c13
    try clear c13b0
    try clear c13b1
    obtain ⟨kq, x17_11, rfl, HA, HJ11, ⟨mc11, rfl⟩⟩ := hcut
    cases kq with
    | zero => exact absurd HA.out (by simp [spec_Granted.j0])
    | succ kj11 =>
      have H := HA.out
      clear HA
      simp only [spec_Granted.j0] at H
      have HC14 := Aside0.mk H
      clear H
      go_upto_if 35 with (fail)
      go_cut [17] (fun v17 wc => ∃ (kq : Nat) (x17_13 : Bool), v17 = .bool x17_13 ∧ Aside0 (spec_Granted.j1 kq a1 a2 a3 t106 t108 t109 t110 x17_13 = some r) ∧ Aside0 (kq ≤ kj11) ∧ Drawn0 w wc)
      case first =>
        have H := HC14.out
        clear HC14
        by_cases c15 : a1 = 1
        · rw [if_pos c15] at H
          have c15b0 : (a1 == 1) = true := beq_iff_eq.mpr c15
          have c15b1 : (a1 != 1) = false := bne_eq_false_iff_eq.mpr c15
          clear c15
          (first | rw [c15b0] | (simp only [i64_w, i32_w]; rw [c15b0]) | skip)
          by_cases c16 : t105 = true
          · subst c16
            have H1 : (spec_Granted.j1 kj11 a1 a2 a3 t106 t108 t109 t110 true) = some r := by rw [if_pos rfl] at H; exact H
            clear H
            have H := H1
            clear H1
            have H' := Aside0.mk H
            clear H
            go_wp2
            go_meet
            case rel => exact ⟨_, (true), (by first | rfl | (simp; done) | (simp [*]; done)), H', ⟨by have := HJ11.out; first | omega | exact Nat.le_refl _⟩, by repeat (first | exact Drawn0.refl _ | apply Drawn0.step)⟩
          · replace c16 := Bool.eq_false_iff.mpr c16
            subst c16
            have H1 : (if a4 = true then (spec_Granted.j1 kj11 a1 a2 a3 t106 t108 t109 t110 t107) else (spec_Granted.j1 kj11 a1 a2 a3 t106 t108 t109 t110 false)) = some r := by rw [if_neg (show ¬ (false = true) by decide)] at H; exact H
            clear H
            have H := H1
            clear H1
            by_cases c17 : a4 = true
            · subst c17
              have H1 : (spec_Granted.j1 kj11 a1 a2 a3 t106 t108 t109 t110 t107) = some r := by rw [if_pos rfl] at H; exact H
              clear H
              have H := H1
              clear H1
              have H' := Aside0.mk H
              clear H
              go_wp2
              go_meet
              case rel => exact ⟨_, (t107), (by first | rfl | (simp; done) | (simp [*]; done)), H', ⟨by have := HJ11.out; first | omega | exact Nat.le_refl _⟩, by repeat (first | exact Drawn0.refl _ | apply Drawn0.step)⟩
            · replace c17 := Bool.eq_false_iff.mpr c17
              subst c17
              have H1 : (spec_Granted.j1 kj11 a1 a2 a3 t106 t108 t109 t110 false) = some r := by rw [if_neg (show ¬ (false = true) by decide)] at H; exact H
              clear H
              have H := H1
              clear H1
              have H' := Aside0.mk H
              clear H
              go_wp2
              go_meet
              case rel => exact ⟨_, (false), (by first | rfl | (simp; done) | (simp [*]; done)), H', ⟨by have := HJ11.out; first | omega | exact Nat.le_refl _⟩, by repeat (first | exact Drawn0.refl _ | apply Drawn0.step)⟩
        · rw [if_neg c15] at H
          have c15b0 : (a1 == 1) = false := beq_eq_false_iff_ne.mpr c15
          have c15b1 : (a1 != 1) = true := bne_iff_ne.mpr c15
          (first | rw [c15b0] | (simp only [i64_w, i32_w]; rw [c15b0]) | skip)
          have H' := Aside0.mk H
          clear H
          go_wp2
          go_meet
          case rel => exact ⟨_, (x17_11), (by first | rfl | (simp; done) | (simp [*]; done)), H', ⟨by have := HJ11.out; first | omega | exact Nat.le_refl _⟩, by repeat (first | exact Drawn0.refl _ | apply Drawn0.step)⟩
      case rest =>
        clear HC14
        try clear c1
        try clear c2
        try clear p2
        try clear c9
        try clear c11
        try clear c13
        try clear c13b0
        try clear c13b1
        try clear c15
        try clear c15b0
        try clear c15b1
        try clear c16
        try clear c17
        try clear p2
        obtain ⟨kq, x17_13, rfl, HA, HJ13, ⟨mc13, rfl⟩⟩ := hcut
        cases kq with
        | zero => exact absurd HA.out (by simp [spec_Granted.j1])
        | succ kj13 =>
          have H := HA.out
          clear HA
          simp only [spec_Granted.j1] at H
          have HC18 := Aside0.mk H
          clear H
          go_upto_if 44 with (fail)
          go_cut [17] (fun v17 wc => ∃ (kq : Nat) (x17_17 : Bool), v17 = .bool x17_17 ∧ Aside0 (spec_Granted.j2 kq a1 a2 a3 t108 t109 x17_17 = some r) ∧ Aside0 (kq ≤ kj13) ∧ Drawn0 w wc)
          case first =>
            have H := HC18.out
            clear HC18
            by_cases c19 : a1 = 2
            · rw [if_pos c19] at H
              have c19b0 : (a1 == 2) = true := beq_iff_eq.mpr c19
              have c19b1 : (a1 != 2) = false := bne_eq_false_iff_eq.mpr c19
              clear c19
              (first | rw [c19b0] | (simp only [i64_w, i32_w]; rw [c19b0]) | skip)
              by_cases c20 : t106 = true
              · subst c20
                have H1 : (spec_Granted.j2 kj13 a1 a2 a3 t108 t109 t110) = some r := by rw [if_pos rfl] at H; exact H
                clear H
                have H := H1
                clear H1
                have H' := Aside0.mk H
                clear H
                go_wp2
                go_meet
                case rel => exact ⟨_, (t110), (by first | rfl | (simp; done) | (simp [*]; done)), H', ⟨by have := HJ11.out; have := HJ13.out; first | omega | exact Nat.le_refl _⟩, by repeat (first | exact Drawn0.refl _ | apply Drawn0.step)⟩
              · replace c20 := Bool.eq_false_iff.mpr c20
                subst c20
                have H1 : (spec_Granted.j2 kj13 a1 a2 a3 t108 t109 false) = some r := by rw [if_neg (show ¬ (false = true) by decide)] at H; exact H
                clear H
                have H := H1
                clear H1
                have H' := Aside0.mk H
                clear H
                go_wp2
                go_meet
                case rel => exact ⟨_, (false), (by first | rfl | (simp; done) | (simp [*]; done)), H', ⟨by have := HJ11.out; have := HJ13.out; first | omega | exact Nat.le_refl _⟩, by repeat (first | exact Drawn0.refl _ | apply Drawn0.step)⟩
            · rw [if_neg c19] at H
              have c19b0 : (a1 == 2) = false := beq_eq_false_iff_ne.mpr c19
              have c19b1 : (a1 != 2) = true := bne_iff_ne.mpr c19
              (first | rw [c19b0] | (simp only [i64_w, i32_w]; rw [c19b0]) | skip)
              have H' := Aside0.mk H
              clear H
              go_wp2
              go_meet
              case rel => exact ⟨_, (x17_13), (by first | rfl | (simp; done) | (simp [*]; done)), H', ⟨by have := HJ11.out; have := HJ13.out; first | omega | exact Nat.le_refl _⟩, by repeat (first | exact Drawn0.refl _ | apply Drawn0.step)⟩
          case rest =>
            clear HC18
            try clear c1
            try clear c2
            try clear p2
            try clear c9
            try clear c11
            try clear c13
            try clear c13b0
            try clear c13b1
            try clear c15
            try clear c15b0
            try clear c15b1
            try clear c16
            try clear c17
            try clear c19
            try clear c19b0
            try clear c19b1
            try clear c20
            try clear p2
            obtain ⟨kq, x17_17, rfl, HA, HJ17, ⟨mc17, rfl⟩⟩ := hcut
            cases kq with
            | zero => exact absurd HA.out (by simp [spec_Granted.j2])
            | succ kj17 =>
              have H := HA.out
              clear HA
              simp only [spec_Granted.j2] at H
              by_cases c21 : a2 = 0
              · rw [if_pos c21] at H
                have c21b0 : (a2 == 0) = true := beq_iff_eq.mpr c21
                have c21b1 : (a2 != 0) = false := bne_eq_false_iff_eq.mpr c21
                clear c21
                by_cases c22 : a2 = 1
                · rw [if_pos c22] at H
                  have c22b0 : (a2 == 1) = true := beq_iff_eq.mpr c22
                  have c22b1 : (a2 != 1) = false := bne_eq_false_iff_eq.mpr c22
                  clear c22
                  by_cases c23 : t108 = true
                  · subst c23
                    have H1 : (if a1 = 0 then (if x17_17 = true then (some false) else (some false)) else (if x17_17 = true then (if a3 = true then (some t109) else (some false)) else (some false))) = some r := by rw [if_pos rfl] at H; exact H
                    clear H
                    have H := H1
                    clear H1
                    by_cases c24 : a1 = 0
                    · rw [if_pos c24] at H
                      have c24b0 : (a1 == 0) = true := beq_iff_eq.mpr c24
                      have c24b1 : (a1 != 0) = false := bne_eq_false_iff_eq.mpr c24
                      clear c24
                      by_cases c25 : x17_17 = true
                      · subst c25
                        have H1 : (some false) = some r := by rw [if_pos rfl] at H; exact H
                        clear H
                        have H := H1
                        clear H1
                        obtain rfl := Option.some.inj H
                        go_wp2
                        go_ret
                        exact ⟨by first | rfl | (simp; done) | (simp [*]; done), by repeat (first | exact Drawn0.refl _ | apply Drawn0.step)⟩
                      · replace c25 := Bool.eq_false_iff.mpr c25
                        subst c25
                        have H1 : (some false) = some r := by rw [if_neg (show ¬ (false = true) by decide)] at H; exact H
                        clear H
                        have H := H1
                        clear H1
                        obtain rfl := Option.some.inj H
                        go_wp2
                        go_ret
                        exact ⟨by first | rfl | (simp; done) | (simp [*]; done), by repeat (first | exact Drawn0.refl _ | apply Drawn0.step)⟩
                    · rw [if_neg c24] at H
                      have c24b0 : (a1 == 0) = false := beq_eq_false_iff_ne.mpr c24
                      have c24b1 : (a1 != 0) = true := bne_iff_ne.mpr c24
                      by_cases c26 : x17_17 = true
                      · subst c26
                        have H1 : (if a3 = true then (some t109) else (some false)) = some r := by rw [if_pos rfl] at H; exact H
                        clear H
                        have H := H1
                        clear H1
                        by_cases c27 : a3 = true
                        · subst c27
                          have H1 : (some t109) = some r := by rw [if_pos rfl] at H; exact H
                          clear H
                          have H := H1
                          clear H1
                          obtain rfl := Option.some.inj H
                          go_wp2
                          go_ret
                          exact ⟨by first | rfl | (simp; done) | (simp [*]; done), by repeat (first | exact Drawn0.refl _ | apply Drawn0.step)⟩
                        · replace c27 := Bool.eq_false_iff.mpr c27
                          subst c27
                          have H1 : (some false) = some r := by rw [if_neg (show ¬ (false = true) by decide)] at H; exact H
                          clear H
                          have H := H1
                          clear H1
                          obtain rfl := Option.some.inj H
                          go_wp2
                          go_ret
                          exact ⟨by first | rfl | (simp; done) | (simp [*]; done), by repeat (first | exact Drawn0.refl _ | apply Drawn0.step)⟩
                      · replace c26 := Bool.eq_false_iff.mpr c26
                        subst c26
                        have H1 : (some false) = some r := by rw [if_neg (show ¬ (false = true) by decide)] at H; exact H
                        clear H
                        have H := H1
                        clear H1
                        obtain rfl := Option.some.inj H
                        go_wp2
                        go_ret
                        exact ⟨by first | rfl | (simp; done) | (simp [*]; done), by repeat (first | exact Drawn0.refl _ | apply Drawn0.step)⟩
                  · replace c23 := Bool.eq_false_iff.mpr c23
                    subst c23
                    have H1 : (if x17_17 = true then (some t109) else (some false)) = some r := by rw [if_neg (show ¬ (false = true) by decide)] at H; exact H
                    clear H
                    have H := H1
                    clear H1
                    by_cases c28 : x17_17 = true
                    · subst c28
                      have H1 : (some t109) = some r := by rw [if_pos rfl] at H; exact H
                      clear H
                      have H := H1
                      clear H1
                      obtain rfl := Option.some.inj H
                      go_wp2
                      go_ret
                      exact ⟨by first | rfl | (simp; done) | (simp [*]; done), by repeat (first | exact Drawn0.refl _ | apply Drawn0.step)⟩
                    · replace c28 := Bool.eq_false_iff.mpr c28
                      subst c28
                      have H1 : (some false) = some r := by rw [if_neg (show ¬ (false = true) by decide)] at H; exact H
                      clear H
                      have H := H1
                      clear H1
                      obtain rfl := Option.some.inj H
                      go_wp2
                      go_ret
                      exact ⟨by first | rfl | (simp; done) | (simp [*]; done), by repeat (first | exact Drawn0.refl _ | apply Drawn0.step)⟩
                · rw [if_neg c22] at H
                  have c22b0 : (a2 == 1) = false := beq_eq_false_iff_ne.mpr c22
                  have c22b1 : (a2 != 1) = true := bne_iff_ne.mpr c22
                  by_cases c29 : x17_17 = true
                  · subst c29
                    have H1 : (if t108 = true then (some t109) else (some false)) = some r := by rw [if_pos rfl] at H; exact H
                    clear H
                    have H := H1
                    clear H1
                    by_cases c30 : t108 = true
                    · subst c30
                      have H1 : (some t109) = some r := by rw [if_pos rfl] at H; exact H
                      clear H
                      have H := H1
                      clear H1
                      obtain rfl := Option.some.inj H
                      go_wp2
                      go_ret
                      exact ⟨by first | rfl | (simp; done) | (simp [*]; done), by repeat (first | exact Drawn0.refl _ | apply Drawn0.step)⟩
                    · replace c30 := Bool.eq_false_iff.mpr c30
                      subst c30
                      have H1 : (some false) = some r := by rw [if_neg (show ¬ (false = true) by decide)] at H; exact H
                      clear H
                      have H := H1
                      clear H1
                      obtain rfl := Option.some.inj H
                      go_wp2
                      go_ret
                      exact ⟨by first | rfl | (simp; done) | (simp [*]; done), by repeat (first | exact Drawn0.refl _ | apply Drawn0.step)⟩
                  · replace c29 := Bool.eq_false_iff.mpr c29
                    subst c29
                    have H1 : (some false) = some r := by rw [if_neg (show ¬ (false = true) by decide)] at H; exact H
                    clear H
                    have H := H1
                    clear H1
                    obtain rfl := Option.some.inj H
                    go_wp2
                    go_ret
                    exact ⟨by first | rfl | (simp; done) | (simp [*]; done), by repeat (first | exact Drawn0.refl _ | apply Drawn0.step)⟩
              · rw [if_neg c21] at H
                have c21b0 : (a2 == 0) = false := beq_eq_false_iff_ne.mpr c21
                have c21b1 : (a2 != 0) = true := bne_iff_ne.mpr c21
                by_cases c31 : a2 = 1
                · rw [if_pos c31] at H
                  have c31b0 : (a2 == 1) = true := beq_iff_eq.mpr c31
                  have c31b1 : (a2 != 1) = false := bne_eq_false_iff_eq.mpr c31
                  clear c31
                  by_cases c32 : t108 = true
                  · subst c32
                    have H1 : (if a1 = 0 then (if x17_17 = true then (some false) else (some false)) else (if x17_17 = true then (if a3 = true then (some t109) else (some false)) else (some false))) = some r := by rw [if_pos rfl] at H; exact H
                    clear H
                    have H := H1
                    clear H1
                    by_cases c33 : a1 = 0
                    · rw [if_pos c33] at H
                      have c33b0 : (a1 == 0) = true := beq_iff_eq.mpr c33
                      have c33b1 : (a1 != 0) = false := bne_eq_false_iff_eq.mpr c33
                      clear c33
                      by_cases c34 : x17_17 = true
                      · subst c34
                        have H1 : (some false) = some r := by rw [if_pos rfl] at H; exact H
                        clear H
                        have H := H1
                        clear H1
                        obtain rfl := Option.some.inj H
                        go_wp2
                        go_ret
                        exact ⟨by first | rfl | (simp; done) | (simp [*]; done), by repeat (first | exact Drawn0.refl _ | apply Drawn0.step)⟩
                      · replace c34 := Bool.eq_false_iff.mpr c34
                        subst c34
                        have H1 : (some false) = some r := by rw [if_neg (show ¬ (false = true) by decide)] at H; exact H
                        clear H
                        have H := H1
                        clear H1
                        obtain rfl := Option.some.inj H
                        go_wp2
                        go_ret
                        exact ⟨by first | rfl | (simp; done) | (simp [*]; done), by repeat (first | exact Drawn0.refl _ | apply Drawn0.step)⟩
                    · rw [if_neg c33] at H
                      have c33b0 : (a1 == 0) = false := beq_eq_false_iff_ne.mpr c33
                      have c33b1 : (a1 != 0) = true := bne_iff_ne.mpr c33
                      by_cases c35 : x17_17 = true
                      · subst c35
                        have H1 : (if a3 = true then (some t109) else (some false)) = some r := by rw [if_pos rfl] at H; exact H
                        clear H
                        have H := H1
                        clear H1
                        by_cases c36 : a3 = true
                        · subst c36
                          have H1 : (some t109) = some r := by rw [if_pos rfl] at H; exact H
                          clear H
                          have H := H1
                          clear H1
                          obtain rfl := Option.some.inj H
                          go_wp2
                          go_ret
                          exact ⟨by first | rfl | (simp; done) | (simp [*]; done), by repeat (first | exact Drawn0.refl _ | apply Drawn0.step)⟩
                        · replace c36 := Bool.eq_false_iff.mpr c36
                          subst c36
                          have H1 : (some false) = some r := by rw [if_neg (show ¬ (false = true) by decide)] at H; exact H
                          clear H
                          have H := H1
                          clear H1
                          obtain rfl := Option.some.inj H
                          go_wp2
                          go_ret
                          exact ⟨by first | rfl | (simp; done) | (simp [*]; done), by repeat (first | exact Drawn0.refl _ | apply Drawn0.step)⟩
                      · replace c35 := Bool.eq_false_iff.mpr c35
                        subst c35
                        have H1 : (some false) = some r := by rw [if_neg (show ¬ (false = true) by decide)] at H; exact H
                        clear H
                        have H := H1
                        clear H1
                        obtain rfl := Option.some.inj H
                        go_wp2
                        go_ret
                        exact ⟨by first | rfl | (simp; done) | (simp [*]; done), by repeat (first | exact Drawn0.refl _ | apply Drawn0.step)⟩
                  · replace c32 := Bool.eq_false_iff.mpr c32
                    subst c32
                    have H1 : (if x17_17 = true then (some t109) else (some false)) = some r := by rw [if_neg (show ¬ (false = true) by decide)] at H; exact H
                    clear H
                    have H := H1
                    clear H1
                    by_cases c37 : x17_17 = true
                    · subst c37
                      have H1 : (some t109) = some r := by rw [if_pos rfl] at H; exact H
                      clear H
                      have H := H1
                      clear H1
                      obtain rfl := Option.some.inj H
                      go_wp2
                      go_ret
                      exact ⟨by first | rfl | (simp; done) | (simp [*]; done), by repeat (first | exact Drawn0.refl _ | apply Drawn0.step)⟩
                    · replace c37 := Bool.eq_false_iff.mpr c37
                      subst c37
                      have H1 : (some false) = some r := by rw [if_neg (show ¬ (false = true) by decide)] at H; exact H
                      clear H
                      have H := H1
                      clear H1
                      obtain rfl := Option.some.inj H
                      go_wp2
                      go_ret
                      exact ⟨by first | rfl | (simp; done) | (simp [*]; done), by repeat (first | exact Drawn0.refl _ | apply Drawn0.step)⟩
                · rw [if_neg c31] at H
                  have c31b0 : (a2 == 1) = false := beq_eq_false_iff_ne.mpr c31
                  have c31b1 : (a2 != 1) = true := bne_iff_ne.mpr c31
                  by_cases c38 : x17_17 = true
                  · subst c38
                    have H1 : (some false) = some r := by rw [if_pos rfl] at H; exact H
                    clear H
                    have H := H1
                    clear H1
                    obtain rfl := Option.some.inj H
                    go_wp2
                    go_ret
                    exact ⟨by first | rfl | (simp; done) | (simp [*]; done), by repeat (first | exact Drawn0.refl _ | apply Drawn0.step)⟩
                  · replace c38 := Bool.eq_false_iff.mpr c38
                    subst c38
                    have H1 : (some false) = some r := by rw [if_neg (show ¬ (false = true) by decide)] at H; exact H
                    clear H
                    have H := H1
                    clear H1
                    obtain rfl := Option.some.inj H
                    go_wp2
                    go_ret
                    exact ⟨by first | rfl | (simp; done) | (simp [*]; done), by repeat (first | exact Drawn0.refl _ | apply Drawn0.step)⟩

/-! ### impl_pte_bit: function 182 -/
def impl_pte_bit.f (a0 : Int) (a1 : Int) : Option (Bool) := if 0 ≤ a1 then (some ((Go.bits .and .u64 (shr .u64 a0 a1) 1) == 1)) else (none)
set_option maxHeartbeats 8000000 in
set_option maxRecDepth 100000 in
theorem impl_pte_bit.calls (a0 : Int) (a1 : Int) (r : Bool) (w : World) (h : impl_pte_bit.f a0 a1 = some r) :
    Calls Try.prog 182 #[.int .u64 a0, .int .i64 a1] w fun e w' => e = .returned (.bool r) ∧ Drawn0 w w' := by
  have H : (if 0 ≤ a1 then (some ((Go.bits .and .u64 (shr .u64 a0 a1) 1) == 1)) else (none)) = some r := h
  clear h
  by_cases c3 : 0 ≤ a1
  · rw [if_pos c3] at H
    have c3b0 := eq_true c3
    have c3b1 : decide (0 ≤ a1) = true := decide_eq_true c3
    clear c3
    obtain ⟨ji4, hji4⟩ : ∃ j_ : Int, (shr .u64 a0 a1) = j_ := ⟨_, rfl⟩
    replace H : (some ((Go.bits .and .u64 (ji4) 1) == 1)) = some r := by first | (rw [hji4] at H; exact H) | (simp only [hji4] at H ⊢; exact H)
    have hji4_ : (a0 / 2 ^ min a1.toNat 64) = ji4 := hji4
    have hji4z : a1 ≤ 64 → (a0 / 2 ^ a1.toNat) = ji4 := shr_small hji4
    obtain rfl := Option.some.inj H
    go_enter Try.func182, Try.ntmps182
    go_wp2
    go_ret
    exact ⟨by first | rfl | (simp; done) | (simp only [← hji4] <;> (first | rfl | simp)) | (simp [*]; done), by repeat (first | exact Drawn0.refl _ | apply Drawn0.step)⟩
  · rw [if_neg c3] at H
    exact absurd H (by simp)

end Go.Proofs.Ytfiddfbagbaofaa.PFnExactGranted
