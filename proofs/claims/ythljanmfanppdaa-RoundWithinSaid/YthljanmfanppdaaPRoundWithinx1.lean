-- PRINTED BY print.sh 35421559b90ae4d0a3588c463048766b98c2df88dd9212a6774a882060cdf62d: not written by this session
import Derived.Test.YthljanmfanppdaaPRoundWithinx0
namespace Go.Proofs.Ythljanmfanppdaa.PRoundWithin
open Go.RowKit Go.Proofs.YthljanmfanppdaaW.PrintWords Go.Proofs.YthljanmfanppdaaW.PrintLast Go.Proofs.YthljanmfanppdaaW.PrintMore
attribute [local go_sem] max2_int min2_int max_two min_two max_three min_three max_four min_four   -- for this text's walks alone
set_option linter.unusedVariables false
set_option linter.unusedSimpArgs false

/-! ### round_clock: function 59 -/
def round_clock.f (a0 : Int) : Option (Int) := some (mn (mx a0 0) 1073741823)
set_option maxHeartbeats 8000000 in
set_option maxRecDepth 100000 in
theorem round_clock.calls (a0 : Int) (r : Int) (w : World) (h : round_clock.f a0 = some r) :
    Calls Try.prog 59 #[.int .i64 a0] w fun e w' => e = .returned (.int .i64 r) ∧ Below w.heap.size w w' := by
  have HB := Aside0.mk (Below.refl w.heap.size w)
  have H : (some (mn (mx a0 0) 1073741823)) = some r := h
  clear h
  obtain ⟨ji2, hji2⟩ : ∃ j_ : Int, (mx a0 0) = j_ := ⟨_, rfl⟩
  replace H : (some (mn (ji2) 1073741823)) = some r := by first | (rw [hji2] at H; exact H) | (simp only [hji2] at H ⊢; exact H)
  (try (have hji2l : 0 ≤ ji2 := by (rw [← hji2]; unfold mx; (repeat' split) <;> omega)))
  (try (have hji2m : 0 ≤ ji2 := by omega))
  have hji2_ : (if a0 < 0 then 0 else a0) = ji2 := hji2
  obtain ⟨ji3, hji3⟩ : ∃ j_ : Int, (mn (ji2) 1073741823) = j_ := ⟨_, rfl⟩
  replace H : (some ji3) = some r := by first | (rw [hji3] at H; exact H) | (simp only [hji3] at H ⊢; exact H)
  have hji3_ : (if 1073741823 < (ji2) then 1073741823 else (ji2)) = ji3 := hji3
  obtain rfl := Option.some.inj H
  go_enter Try.func59, Try.ntmps59
  go_wp2
  go_ret
  exact ⟨by first | rfl | (simp [errW_none, errW_some] <;> rfl) | (simp only [← hji2, ← hji3]; first | rfl | (simp [errW_none, errW_some] <;> rfl)) | (simp [*, errW_none, errW_some] <;> rfl), by repeat (first | (with_reducible first | exact HB.out | apply below_alloc | apply pw_below_drewN | apply below_drew1) | exact HB.out)⟩

/-! ### round_Up: function 18 -/
def round_Up.f (a0 : Int) (a1 : Int) : Option (Int) := (round_clock.f a1).bind fun t101 => ((round_clock.f a0).bind fun t102 => (if (wrap64 (t101 + 1)) = 0 then (none) else (some (wrap64 ((wrap64 (Int.tdiv (wrap64 ((wrap64 (t102 + (wrap64 (t101 + 1)))) - 1)) (wrap64 (t101 + 1)))) * (wrap64 (t101 + 1)))))))
set_option maxHeartbeats 8000000 in
set_option maxRecDepth 100000 in
theorem round_Up.calls (a0 : Int) (a1 : Int) (r : Int) (w : World) (h : round_Up.f a0 a1 = some r) :
    Calls Try.prog 18 #[.int .i64 a0, .int .i64 a1] w fun e w' => e = .returned (.int .i64 r) ∧ Below w.heap.size w w' := by
  have HB := Aside0.mk (Below.refl w.heap.size w)
  have H : ((round_clock.f a1).bind fun t101 => ((round_clock.f a0).bind fun t102 => (if (wrap64 (t101 + 1)) = 0 then (none) else (some (wrap64 ((wrap64 (Int.tdiv (wrap64 ((wrap64 (t102 + (wrap64 (t101 + 1)))) - 1)) (wrap64 (t101 + 1)))) * (wrap64 (t101 + 1)))))))) = some r := h
  clear h
  replace H := Option.bind_eq_some_iff.mp H
  obtain ⟨t101, A30, H⟩ := H
  replace H : ((round_clock.f a0).bind fun t102 => (if (wrap64 (t101 + 1)) = 0 then (none) else (some (wrap64 ((wrap64 (Int.tdiv (wrap64 ((wrap64 (t102 + (wrap64 (t101 + 1)))) - 1)) (wrap64 (t101 + 1)))) * (wrap64 (t101 + 1))))))) = some r := H
  have A3 := Aside0.mk A30
  clear A30
  replace H := Option.bind_eq_some_iff.mp H
  obtain ⟨t102, A40, H⟩ := H
  replace H : (if (wrap64 (t101 + 1)) = 0 then (none) else (some (wrap64 ((wrap64 (Int.tdiv (wrap64 ((wrap64 (t102 + (wrap64 (t101 + 1)))) - 1)) (wrap64 (t101 + 1)))) * (wrap64 (t101 + 1)))))) = some r := H
  have A4 := Aside0.mk A40
  clear A40
  by_cases c5 : (wrap64 (t101 + 1)) = 0
  · rw [if_pos c5] at H
    exact absurd H (by simp)
  · rw [if_neg c5] at H
    have c5b0 : ((wrap64 (t101 + 1)) == 0) = false := beq_eq_false_iff_ne.mpr c5
    have c5b1 : ((wrap64 (t101 + 1)) != 0) = true := bne_iff_ne.mpr c5
    obtain rfl := Option.some.inj H
    go_enter Try.func18, Try.ntmps18
    go_wp2_with (first | ((with_reducible refine gate_callee (f := 59) rfl ?_); refine goesL_ (some 7) rfl rfl Try.func59 (by kernel_rfl) rfl #[.int .i64 a1] rfl (by (try simp only [List.map_toArray, List.map_cons, List.map_nil]); first | done | rfl | (simp only [List.length_drop, List.length_take]; rfl)) ?_; (with_reducible refine (round_clock.calls a1 t101 _ A3.out).mono ?_); rintro e w6 ⟨rfl, hb⟩; refine ⟨_, rfl, ?_⟩; have n0_ := Aside0.mk (below_step (by repeat (first | (with_reducible first | exact HB.out | apply below_alloc | apply pw_below_drewN | apply below_drew1) | exact HB.out)) hb); clear HB; have HB := n0_; clear n0_; (try clear hb); (try clear hb2); (try clear hk); (try clear hi)) | ((with_reducible refine gate_callee (f := 59) rfl ?_); refine goesL_ (some 10) rfl rfl Try.func59 (by kernel_rfl) rfl #[.int .i64 a0] rfl (by (try simp only [List.map_toArray, List.map_cons, List.map_nil]); first | done | rfl | (simp only [List.length_drop, List.length_take]; rfl)) ?_; (with_reducible refine (round_clock.calls a0 t102 _ A4.out).mono ?_); rintro e w7 ⟨rfl, hb⟩; refine ⟨_, rfl, ?_⟩; have n0_ := Aside0.mk (below_step (by repeat (first | (with_reducible first | exact HB.out | apply below_alloc | apply pw_below_drewN | apply below_drew1) | exact HB.out)) hb); clear HB; have HB := n0_; clear n0_; (try clear hb); (try clear hb2); (try clear hk); (try clear hi)))
    go_ret
    exact ⟨by first | rfl | (simp [errW_none, errW_some] <;> rfl) | (simp [*, errW_none, errW_some] <;> rfl), by repeat (first | (with_reducible first | exact HB.out | apply below_alloc | apply pw_below_drewN | apply below_drew1) | exact HB.out)⟩

/-! ### knelllaw04_speaks: function 17 -/
def knelllaw04_speaks.f  : Option (Bool) := (round_Up.f 5 3).bind fun t103 => (if t103 = 8 then ((round_Up.f 8 3).bind fun t104 => (if t104 = 8 then ((round_Up.f 9 3).bind fun t105 => (some (t105 == 12))) else (some false))) else (some false))
set_option maxHeartbeats 8000000 in
set_option maxRecDepth 100000 in
theorem knelllaw04_speaks.calls  (r : Bool) (w : World) (h : knelllaw04_speaks.f  = some r) :
    Calls Try.prog 17 #[] w fun e w' => e = .returned (.bool r) ∧ Below w.heap.size w w' := by
  have HB := Aside0.mk (Below.refl w.heap.size w)
  have H : ((round_Up.f 5 3).bind fun t103 => (if t103 = 8 then ((round_Up.f 8 3).bind fun t104 => (if t104 = 8 then ((round_Up.f 9 3).bind fun t105 => (some (t105 == 12))) else (some false))) else (some false))) = some r := h
  clear h
  replace H := Option.bind_eq_some_iff.mp H
  obtain ⟨t103, A10, H⟩ := H
  replace H : (if t103 = 8 then ((round_Up.f 8 3).bind fun t104 => (if t104 = 8 then ((round_Up.f 9 3).bind fun t105 => (some (t105 == 12))) else (some false))) else (some false)) = some r := H
  have A1 := Aside0.mk A10
  clear A10
  by_cases c2 : t103 = 8
  · rw [if_pos c2] at H
    have c2b0 : (t103 == 8) = true := beq_iff_eq.mpr c2
    have c2b1 : (t103 != 8) = false := bne_eq_false_iff_eq.mpr c2
    clear c2
    replace H := Option.bind_eq_some_iff.mp H
    obtain ⟨t104, A30, H⟩ := H
    replace H : (if t104 = 8 then ((round_Up.f 9 3).bind fun t105 => (some (t105 == 12))) else (some false)) = some r := H
    have A3 := Aside0.mk A30
    clear A30
    by_cases c4 : t104 = 8
    · rw [if_pos c4] at H
      have c4b0 : (t104 == 8) = true := beq_iff_eq.mpr c4
      have c4b1 : (t104 != 8) = false := bne_eq_false_iff_eq.mpr c4
      clear c4
      replace H := Option.bind_eq_some_iff.mp H
      obtain ⟨t105, A50, H⟩ := H
      replace H : (some (t105 == 12)) = some r := H
      have A5 := Aside0.mk A50
      clear A50
      obtain rfl := Option.some.inj H
      go_enter Try.func17, Try.ntmps17
      go_wp2_with (first | ((with_reducible refine gate_callee (f := 18) rfl ?_); refine goesL_ (some 1) rfl rfl Try.func18 (by kernel_rfl) rfl #[.int .i64 5, .int .i64 3] rfl (by (try simp only [List.map_toArray, List.map_cons, List.map_nil]); first | done | rfl | (simp only [List.length_drop, List.length_take]; rfl)) ?_; (with_reducible refine (round_Up.calls 5 3 t103 _ A1.out).mono ?_); rintro e w6 ⟨rfl, hb⟩; refine ⟨_, rfl, ?_⟩; have n0_ := Aside0.mk (below_step (by repeat (first | (with_reducible first | exact HB.out | apply below_alloc | apply pw_below_drewN | apply below_drew1) | exact HB.out)) hb); clear HB; have HB := n0_; clear n0_; (try clear hb); (try clear hb2); (try clear hk); (try clear hi)) | (go_at_call 18; (with_reducible refine (round_Up.calls 8 3 t104 _ A3.out).mono ?_); rintro e w7 ⟨rfl, hb⟩; have n0_ := Aside0.mk (below_step (by repeat (first | (with_reducible first | exact HB.out | apply below_alloc | apply pw_below_drewN | apply below_drew1) | exact HB.out)) hb); clear HB; have HB := n0_; clear n0_; (try clear hb); (try clear hb2); (try clear hk); (try clear hi)) | (go_at_call 18; (with_reducible refine (round_Up.calls 9 3 t105 _ A5.out).mono ?_); rintro e w8 ⟨rfl, hb⟩; have n0_ := Aside0.mk (below_step (by repeat (first | (with_reducible first | exact HB.out | apply below_alloc | apply pw_below_drewN | apply below_drew1) | exact HB.out)) hb); clear HB; have HB := n0_; clear n0_; (try clear hb); (try clear hb2); (try clear hk); (try clear hi)))
      go_ret
      exact ⟨by first | rfl | (simp [errW_none, errW_some] <;> rfl) | (simp [*, errW_none, errW_some] <;> rfl), by repeat (first | (with_reducible first | exact HB.out | apply below_alloc | apply pw_below_drewN | apply below_drew1) | exact HB.out)⟩
    · rw [if_neg c4] at H
      have c4b0 : (t104 == 8) = false := beq_eq_false_iff_ne.mpr c4
      have c4b1 : (t104 != 8) = true := bne_iff_ne.mpr c4
      obtain rfl := Option.some.inj H
      go_enter Try.func17, Try.ntmps17
      go_wp2_with (first | ((with_reducible refine gate_callee (f := 18) rfl ?_); refine goesL_ (some 1) rfl rfl Try.func18 (by kernel_rfl) rfl #[.int .i64 5, .int .i64 3] rfl (by (try simp only [List.map_toArray, List.map_cons, List.map_nil]); first | done | rfl | (simp only [List.length_drop, List.length_take]; rfl)) ?_; (with_reducible refine (round_Up.calls 5 3 t103 _ A1.out).mono ?_); rintro e w9 ⟨rfl, hb⟩; refine ⟨_, rfl, ?_⟩; have n0_ := Aside0.mk (below_step (by repeat (first | (with_reducible first | exact HB.out | apply below_alloc | apply pw_below_drewN | apply below_drew1) | exact HB.out)) hb); clear HB; have HB := n0_; clear n0_; (try clear hb); (try clear hb2); (try clear hk); (try clear hi)) | (go_at_call 18; (with_reducible refine (round_Up.calls 8 3 t104 _ A3.out).mono ?_); rintro e w10 ⟨rfl, hb⟩; have n0_ := Aside0.mk (below_step (by repeat (first | (with_reducible first | exact HB.out | apply below_alloc | apply pw_below_drewN | apply below_drew1) | exact HB.out)) hb); clear HB; have HB := n0_; clear n0_; (try clear hb); (try clear hb2); (try clear hk); (try clear hi)))
      go_ret
      exact ⟨by first | rfl | (simp [errW_none, errW_some] <;> rfl) | (simp [*, errW_none, errW_some] <;> rfl), by repeat (first | (with_reducible first | exact HB.out | apply below_alloc | apply pw_below_drewN | apply below_drew1) | exact HB.out)⟩
  · rw [if_neg c2] at H
    have c2b0 : (t103 == 8) = false := beq_eq_false_iff_ne.mpr c2
    have c2b1 : (t103 != 8) = true := bne_iff_ne.mpr c2
    obtain rfl := Option.some.inj H
    go_enter Try.func17, Try.ntmps17
    go_wp2_with (first | ((with_reducible refine gate_callee (f := 18) rfl ?_); refine goesL_ (some 1) rfl rfl Try.func18 (by kernel_rfl) rfl #[.int .i64 5, .int .i64 3] rfl (by (try simp only [List.map_toArray, List.map_cons, List.map_nil]); first | done | rfl | (simp only [List.length_drop, List.length_take]; rfl)) ?_; (with_reducible refine (round_Up.calls 5 3 t103 _ A1.out).mono ?_); rintro e w11 ⟨rfl, hb⟩; refine ⟨_, rfl, ?_⟩; have n0_ := Aside0.mk (below_step (by repeat (first | (with_reducible first | exact HB.out | apply below_alloc | apply pw_below_drewN | apply below_drew1) | exact HB.out)) hb); clear HB; have HB := n0_; clear n0_; (try clear hb); (try clear hb2); (try clear hk); (try clear hi)))
    go_ret
    exact ⟨by first | rfl | (simp [errW_none, errW_some] <;> rfl) | (simp [*, errW_none, errW_some] <;> rfl), by repeat (first | (with_reducible first | exact HB.out | apply below_alloc | apply pw_below_drewN | apply below_drew1) | exact HB.out)⟩

/-! ### round_Batch: function 19 -/
def round_Batch.f (a0 : Int) (a1 : Int) (a2 : Int) : Option (Bool) := (round_Up.f a0 a2).bind fun t106 => ((round_Up.f a1 a2).bind fun t107 => (some (t106 == t107)))
set_option maxHeartbeats 8000000 in
set_option maxRecDepth 100000 in
theorem round_Batch.calls (a0 : Int) (a1 : Int) (a2 : Int) (r : Bool) (w : World) (h : round_Batch.f a0 a1 a2 = some r) :
    Calls Try.prog 19 #[.int .i64 a0, .int .i64 a1, .int .i64 a2] w fun e w' => e = .returned (.bool r) ∧ Below w.heap.size w w' := by
  have HB := Aside0.mk (Below.refl w.heap.size w)
  have H : ((round_Up.f a0 a2).bind fun t106 => ((round_Up.f a1 a2).bind fun t107 => (some (t106 == t107)))) = some r := h
  clear h
  replace H := Option.bind_eq_some_iff.mp H
  obtain ⟨t106, A40, H⟩ := H
  replace H : ((round_Up.f a1 a2).bind fun t107 => (some (t106 == t107))) = some r := H
  have A4 := Aside0.mk A40
  clear A40
  replace H := Option.bind_eq_some_iff.mp H
  obtain ⟨t107, A50, H⟩ := H
  replace H : (some (t106 == t107)) = some r := H
  have A5 := Aside0.mk A50
  clear A50
  obtain rfl := Option.some.inj H
  go_enter Try.func19, Try.ntmps19
  go_wp2_with (first | ((with_reducible refine gate_callee (f := 18) rfl ?_); refine goesL_ (some 9) rfl rfl Try.func18 (by kernel_rfl) rfl #[.int .i64 a0, .int .i64 a2] rfl (by (try simp only [List.map_toArray, List.map_cons, List.map_nil]); first | done | rfl | (simp only [List.length_drop, List.length_take]; rfl)) ?_; (with_reducible refine (round_Up.calls a0 a2 t106 _ A4.out).mono ?_); rintro e w6 ⟨rfl, hb⟩; refine ⟨_, rfl, ?_⟩; have n0_ := Aside0.mk (below_step (by repeat (first | (with_reducible first | exact HB.out | apply below_alloc | apply pw_below_drewN | apply below_drew1) | exact HB.out)) hb); clear HB; have HB := n0_; clear n0_; (try clear hb); (try clear hb2); (try clear hk); (try clear hi)) | ((with_reducible refine gate_callee (f := 18) rfl ?_); refine goesL_ (some 12) rfl rfl Try.func18 (by kernel_rfl) rfl #[.int .i64 a1, .int .i64 a2] rfl (by (try simp only [List.map_toArray, List.map_cons, List.map_nil]); first | done | rfl | (simp only [List.length_drop, List.length_take]; rfl)) ?_; (with_reducible refine (round_Up.calls a1 a2 t107 _ A5.out).mono ?_); rintro e w7 ⟨rfl, hb⟩; refine ⟨_, rfl, ?_⟩; have n0_ := Aside0.mk (below_step (by repeat (first | (with_reducible first | exact HB.out | apply below_alloc | apply pw_below_drewN | apply below_drew1) | exact HB.out)) hb); clear HB; have HB := n0_; clear n0_; (try clear hb); (try clear hb2); (try clear hk); (try clear hi)))
  go_ret
  exact ⟨by first | rfl | (simp [errW_none, errW_some] <;> rfl) | (simp [*, errW_none, errW_some] <;> rfl), by repeat (first | (with_reducible first | exact HB.out | apply below_alloc | apply pw_below_drewN | apply below_drew1) | exact HB.out)⟩

/-! ### knelllaw04_RoundWithin: function 3 -/
mutual
def knelllaw04_RoundWithin.j0 : Nat → Int → Int → Int → Int → Int → Bool → Option (Bool)
  | 0, _, _, _, _, _, _ => none
  | k + 1, x7, x8, x9, x10, x11, x56 => if x56 = true then (some false) else (if x10 ≤ 1073741823 then ((round_Up.f x10 x9).bind fun t111 => (if t111 = x10 then (if x7 ≤ x8 then (if x10 > x11 then (knelllaw04_RoundWithin.j1 k x7 x8 x9 true) else (if x8 ≤ x7 then (knelllaw04_RoundWithin.j1 k x7 x8 x9 (decide (x11 > x10))) else (knelllaw04_RoundWithin.j1 k x7 x8 x9 false))) else (if x8 ≤ x7 then (knelllaw04_RoundWithin.j1 k x7 x8 x9 (decide (x11 > x10))) else (knelllaw04_RoundWithin.j1 k x7 x8 x9 false))) else (knelllaw04_RoundWithin.j1 k x7 x8 x9 true))) else (if x7 ≤ x8 then (if x10 > x11 then (knelllaw04_RoundWithin.j1 k x7 x8 x9 true) else (if x8 ≤ x7 then (knelllaw04_RoundWithin.j1 k x7 x8 x9 (decide (x11 > x10))) else (knelllaw04_RoundWithin.j1 k x7 x8 x9 false))) else (if x8 ≤ x7 then (knelllaw04_RoundWithin.j1 k x7 x8 x9 (decide (x11 > x10))) else (knelllaw04_RoundWithin.j1 k x7 x8 x9 false))))
def knelllaw04_RoundWithin.j1 : Nat → Int → Int → Int → Bool → Option (Bool)
  | 0, _, _, _, _ => none
  | k + 1, x7, x8, x9, x85 => if x85 = true then (some false) else ((round_Up.f x7 0).bind fun t112 => (if t112 = x7 then ((round_Batch.f x7 x8 x9).bind fun t113 => ((round_Batch.f x8 x7 x9).bind fun t114 => (some (t113 == t114)))) else (some false)))
end
def knelllaw04_RoundWithin.f (k : Nat) (a0 : Int) (a1 : Int) (a2 : Int) : Option (Bool) := (knelllaw04_speaks.f).bind fun t108 => (if t108 = true then ((round_Up.f (wrap64 (a0 / 4)) (wrap64 (a2))).bind fun t109 => ((round_Up.f (wrap64 (a1 / 4)) (wrap64 (a2))).bind fun t110 => (if t109 < (wrap64 (a0 / 4)) then (knelllaw04_RoundWithin.j0 k (wrap64 (a0 / 4)) (wrap64 (a1 / 4)) (wrap64 (a2)) t109 t110 true) else (if t109 > (wrap64 ((wrap64 (a0 / 4)) + (wrap64 (a2)))) then (knelllaw04_RoundWithin.j0 k (wrap64 (a0 / 4)) (wrap64 (a1 / 4)) (wrap64 (a2)) t109 t110 true) else (if t110 < (wrap64 (a1 / 4)) then (knelllaw04_RoundWithin.j0 k (wrap64 (a0 / 4)) (wrap64 (a1 / 4)) (wrap64 (a2)) t109 t110 true) else (if t110 > (wrap64 ((wrap64 (a1 / 4)) + (wrap64 (a2)))) then (knelllaw04_RoundWithin.j0 k (wrap64 (a0 / 4)) (wrap64 (a1 / 4)) (wrap64 (a2)) t109 t110 true) else (if (wrap64 ((wrap64 (a2)) + 1)) = 0 then (none) else (knelllaw04_RoundWithin.j0 k (wrap64 (a0 / 4)) (wrap64 (a1 / 4)) (wrap64 (a2)) t109 t110 ((Int.tmod t109 (wrap64 ((wrap64 (a2)) + 1))) != 0))))))))) else (some false))
theorem knelllaw04_RoundWithin.mono_l : ∀ k, (∀ y0 y1 y2 y3 y4 y5, LeO (knelllaw04_RoundWithin.j0 k y0 y1 y2 y3 y4 y5) (knelllaw04_RoundWithin.j0 (k + 1) y0 y1 y2 y3 y4 y5)) ∧ (∀ y0 y1 y2 y3, LeO (knelllaw04_RoundWithin.j1 k y0 y1 y2 y3) (knelllaw04_RoundWithin.j1 (k + 1) y0 y1 y2 y3))
  | 0 => ⟨fun _ _ _ _ _ _ r h => by simp [knelllaw04_RoundWithin.j0] at h, fun _ _ _ _ r h => by simp [knelllaw04_RoundWithin.j1] at h⟩
  | k + 1 => by
    obtain ⟨ih0, ih1⟩ := knelllaw04_RoundWithin.mono_l k
    refine ⟨?_, ?_⟩
    · intro y0 y1 y2 y3 y4 y5
      unfold knelllaw04_RoundWithin.j0
      repeat' first
      | (with_reducible exact ih0 _ _ _ _ _ _)
      | (with_reducible exact ih1 _ _ _ _)
      | (with_reducible exact LeO.refl _)
      | (with_reducible exact LeO.none _)
      | (with_reducible refine LeO.ite ?_ ?_)
      | (with_reducible refine LeO.bind ?_ (fun _ => ?_))
      | exact ih0 _ _ _ _ _ _
      | exact ih1 _ _ _ _
      | exact LeO.none _
      | refine LeO.ite ?_ ?_
      | refine LeO.bind ?_ (fun _ => ?_)
    · intro y0 y1 y2 y3
      unfold knelllaw04_RoundWithin.j1
      repeat' first
      | (with_reducible exact ih0 _ _ _ _ _ _)
      | (with_reducible exact ih1 _ _ _ _)
      | (with_reducible exact LeO.refl _)
      | (with_reducible exact LeO.none _)
      | (with_reducible refine LeO.ite ?_ ?_)
      | (with_reducible refine LeO.bind ?_ (fun _ => ?_))
      | exact ih0 _ _ _ _ _ _
      | exact ih1 _ _ _ _
      | exact LeO.none _
      | refine LeO.ite ?_ ?_
      | refine LeO.bind ?_ (fun _ => ?_)
theorem knelllaw04_RoundWithin.mono : ∀ a0 a1 a2 k, LeO (knelllaw04_RoundWithin.f k a0 a1 a2) (knelllaw04_RoundWithin.f (k + 1) a0 a1 a2) := by
  intro a0 a1 a2 k
  obtain ⟨ih0, ih1⟩ := knelllaw04_RoundWithin.mono_l k
  unfold knelllaw04_RoundWithin.f
  repeat' first
      | (with_reducible exact ih0 _ _ _ _ _ _)
      | (with_reducible exact ih1 _ _ _ _)
      | (with_reducible exact LeO.refl _)
      | (with_reducible exact LeO.none _)
      | (with_reducible refine LeO.ite ?_ ?_)
      | (with_reducible refine LeO.bind ?_ (fun _ => ?_))
      | exact ih0 _ _ _ _ _ _
      | exact ih1 _ _ _ _
      | exact LeO.none _
      | refine LeO.ite ?_ ?_
      | refine LeO.bind ?_ (fun _ => ?_)
set_option maxHeartbeats 8000000 in
set_option maxRecDepth 100000 in
theorem knelllaw04_RoundWithin.calls (k : Nat) (a0 : Int) (a1 : Int) (a2 : Int) (r : Bool) (w : World) (h : knelllaw04_RoundWithin.f k a0 a1 a2 = some r) :
    Calls Try.prog 3 #[.int .u32 a0, .int .u32 a1, .int .u16 a2] w fun e w' => e = .returned (.bool r) ∧ Below w.heap.size w w' := by
  have HB := Aside0.mk (Below.refl w.heap.size w)
  have H : ((knelllaw04_speaks.f).bind fun t108 => (if t108 = true then ((round_Up.f (wrap64 (a0 / 4)) (wrap64 (a2))).bind fun t109 => ((round_Up.f (wrap64 (a1 / 4)) (wrap64 (a2))).bind fun t110 => (if t109 < (wrap64 (a0 / 4)) then (knelllaw04_RoundWithin.j0 k (wrap64 (a0 / 4)) (wrap64 (a1 / 4)) (wrap64 (a2)) t109 t110 true) else (if t109 > (wrap64 ((wrap64 (a0 / 4)) + (wrap64 (a2)))) then (knelllaw04_RoundWithin.j0 k (wrap64 (a0 / 4)) (wrap64 (a1 / 4)) (wrap64 (a2)) t109 t110 true) else (if t110 < (wrap64 (a1 / 4)) then (knelllaw04_RoundWithin.j0 k (wrap64 (a0 / 4)) (wrap64 (a1 / 4)) (wrap64 (a2)) t109 t110 true) else (if t110 > (wrap64 ((wrap64 (a1 / 4)) + (wrap64 (a2)))) then (knelllaw04_RoundWithin.j0 k (wrap64 (a0 / 4)) (wrap64 (a1 / 4)) (wrap64 (a2)) t109 t110 true) else (if (wrap64 ((wrap64 (a2)) + 1)) = 0 then (none) else (knelllaw04_RoundWithin.j0 k (wrap64 (a0 / 4)) (wrap64 (a1 / 4)) (wrap64 (a2)) t109 t110 ((Int.tmod t109 (wrap64 ((wrap64 (a2)) + 1))) != 0))))))))) else (some false))) = some r := h
  clear h
  replace H := Option.bind_eq_some_iff.mp H
  obtain ⟨t108, A40, H⟩ := H
  replace H : (if t108 = true then ((round_Up.f (wrap64 (a0 / 4)) (wrap64 (a2))).bind fun t109 => ((round_Up.f (wrap64 (a1 / 4)) (wrap64 (a2))).bind fun t110 => (if t109 < (wrap64 (a0 / 4)) then (knelllaw04_RoundWithin.j0 k (wrap64 (a0 / 4)) (wrap64 (a1 / 4)) (wrap64 (a2)) t109 t110 true) else (if t109 > (wrap64 ((wrap64 (a0 / 4)) + (wrap64 (a2)))) then (knelllaw04_RoundWithin.j0 k (wrap64 (a0 / 4)) (wrap64 (a1 / 4)) (wrap64 (a2)) t109 t110 true) else (if t110 < (wrap64 (a1 / 4)) then (knelllaw04_RoundWithin.j0 k (wrap64 (a0 / 4)) (wrap64 (a1 / 4)) (wrap64 (a2)) t109 t110 true) else (if t110 > (wrap64 ((wrap64 (a1 / 4)) + (wrap64 (a2)))) then (knelllaw04_RoundWithin.j0 k (wrap64 (a0 / 4)) (wrap64 (a1 / 4)) (wrap64 (a2)) t109 t110 true) else (if (wrap64 ((wrap64 (a2)) + 1)) = 0 then (none) else (knelllaw04_RoundWithin.j0 k (wrap64 (a0 / 4)) (wrap64 (a1 / 4)) (wrap64 (a2)) t109 t110 ((Int.tmod t109 (wrap64 ((wrap64 (a2)) + 1))) != 0))))))))) else (some false)) = some r := H
  have A4 := Aside0.mk A40
  clear A40
  by_cases c5 : t108 = true
  · subst c5
    have H1 : ((round_Up.f (wrap64 (a0 / 4)) (wrap64 (a2))).bind fun t109 => ((round_Up.f (wrap64 (a1 / 4)) (wrap64 (a2))).bind fun t110 => (if t109 < (wrap64 (a0 / 4)) then (knelllaw04_RoundWithin.j0 k (wrap64 (a0 / 4)) (wrap64 (a1 / 4)) (wrap64 (a2)) t109 t110 true) else (if t109 > (wrap64 ((wrap64 (a0 / 4)) + (wrap64 (a2)))) then (knelllaw04_RoundWithin.j0 k (wrap64 (a0 / 4)) (wrap64 (a1 / 4)) (wrap64 (a2)) t109 t110 true) else (if t110 < (wrap64 (a1 / 4)) then (knelllaw04_RoundWithin.j0 k (wrap64 (a0 / 4)) (wrap64 (a1 / 4)) (wrap64 (a2)) t109 t110 true) else (if t110 > (wrap64 ((wrap64 (a1 / 4)) + (wrap64 (a2)))) then (knelllaw04_RoundWithin.j0 k (wrap64 (a0 / 4)) (wrap64 (a1 / 4)) (wrap64 (a2)) t109 t110 true) else (if (wrap64 ((wrap64 (a2)) + 1)) = 0 then (none) else (knelllaw04_RoundWithin.j0 k (wrap64 (a0 / 4)) (wrap64 (a1 / 4)) (wrap64 (a2)) t109 t110 ((Int.tmod t109 (wrap64 ((wrap64 (a2)) + 1))) != 0))))))))) = some r := by rw [if_pos rfl] at H; exact H
    clear H
    have H := H1
    clear H1
    replace H := Option.bind_eq_some_iff.mp H
    obtain ⟨t109, A60, H⟩ := H
    replace H : ((round_Up.f (wrap64 (a1 / 4)) (wrap64 (a2))).bind fun t110 => (if t109 < (wrap64 (a0 / 4)) then (knelllaw04_RoundWithin.j0 k (wrap64 (a0 / 4)) (wrap64 (a1 / 4)) (wrap64 (a2)) t109 t110 true) else (if t109 > (wrap64 ((wrap64 (a0 / 4)) + (wrap64 (a2)))) then (knelllaw04_RoundWithin.j0 k (wrap64 (a0 / 4)) (wrap64 (a1 / 4)) (wrap64 (a2)) t109 t110 true) else (if t110 < (wrap64 (a1 / 4)) then (knelllaw04_RoundWithin.j0 k (wrap64 (a0 / 4)) (wrap64 (a1 / 4)) (wrap64 (a2)) t109 t110 true) else (if t110 > (wrap64 ((wrap64 (a1 / 4)) + (wrap64 (a2)))) then (knelllaw04_RoundWithin.j0 k (wrap64 (a0 / 4)) (wrap64 (a1 / 4)) (wrap64 (a2)) t109 t110 true) else (if (wrap64 ((wrap64 (a2)) + 1)) = 0 then (none) else (knelllaw04_RoundWithin.j0 k (wrap64 (a0 / 4)) (wrap64 (a1 / 4)) (wrap64 (a2)) t109 t110 ((Int.tmod t109 (wrap64 ((wrap64 (a2)) + 1))) != 0)))))))) = some r := H
    have A6 := Aside0.mk A60
    clear A60
    replace H := Option.bind_eq_some_iff.mp H
    obtain ⟨t110, A70, H⟩ := H
    replace H : (if t109 < (wrap64 (a0 / 4)) then (knelllaw04_RoundWithin.j0 k (wrap64 (a0 / 4)) (wrap64 (a1 / 4)) (wrap64 (a2)) t109 t110 true) else (if t109 > (wrap64 ((wrap64 (a0 / 4)) + (wrap64 (a2)))) then (knelllaw04_RoundWithin.j0 k (wrap64 (a0 / 4)) (wrap64 (a1 / 4)) (wrap64 (a2)) t109 t110 true) else (if t110 < (wrap64 (a1 / 4)) then (knelllaw04_RoundWithin.j0 k (wrap64 (a0 / 4)) (wrap64 (a1 / 4)) (wrap64 (a2)) t109 t110 true) else (if t110 > (wrap64 ((wrap64 (a1 / 4)) + (wrap64 (a2)))) then (knelllaw04_RoundWithin.j0 k (wrap64 (a0 / 4)) (wrap64 (a1 / 4)) (wrap64 (a2)) t109 t110 true) else (if (wrap64 ((wrap64 (a2)) + 1)) = 0 then (none) else (knelllaw04_RoundWithin.j0 k (wrap64 (a0 / 4)) (wrap64 (a1 / 4)) (wrap64 (a2)) t109 t110 ((Int.tmod t109 (wrap64 ((wrap64 (a2)) + 1))) != 0))))))) = some r := H
    have A7 := Aside0.mk A70
    clear A70
    have HC8 := Aside0.mk H
    clear H
    go_enter Try.func3, Try.ntmps3
    go_upto_region 5 with (first | ((with_reducible refine gate_callee (f := 17) rfl ?_); refine goesL_ (some 12) rfl rfl Try.func17 (by kernel_rfl) rfl #[] rfl (by (try simp only [List.map_toArray, List.map_cons, List.map_nil]); first | done | rfl | (simp only [List.length_drop, List.length_take]; rfl)) ?_; (with_reducible refine (knelllaw04_speaks.calls  true _ A4.out).mono ?_); rintro e w9 ⟨rfl, hb⟩; refine ⟨_, rfl, ?_⟩; have n0_ := Aside0.mk (below_step (by repeat (first | (with_reducible first | exact HB.out | apply below_alloc | apply pw_below_drewN | apply below_drew1) | exact HB.out)) hb); clear HB; have HB := n0_; clear n0_; (try clear hb); (try clear hb2); (try clear hk); (try clear hi)) | ((with_reducible refine gate_callee (f := 18) rfl ?_); refine goesL_ (some 24) rfl rfl Try.func18 (by kernel_rfl) rfl #[.int .i64 (wrap64 (a0 / 4)), .int .i64 (wrap64 (a2))] rfl (by (try simp only [List.map_toArray, List.map_cons, List.map_nil]); first | done | rfl | (simp only [List.length_drop, List.length_take]; rfl)) ?_; (with_reducible refine (round_Up.calls (wrap64 (a0 / 4)) (wrap64 (a2)) t109 _ A6.out).mono ?_); rintro e w10 ⟨rfl, hb⟩; refine ⟨_, rfl, ?_⟩; have n0_ := Aside0.mk (below_step (by repeat (first | (with_reducible first | exact HB.out | apply below_alloc | apply pw_below_drewN | apply below_drew1) | exact HB.out)) hb); clear HB; have HB := n0_; clear n0_; (try clear hb); (try clear hb2); (try clear hk); (try clear hi)) | ((with_reducible refine gate_callee (f := 18) rfl ?_); refine goesL_ (some 27) rfl rfl Try.func18 (by kernel_rfl) rfl #[.int .i64 (wrap64 (a1 / 4)), .int .i64 (wrap64 (a2))] rfl (by (try simp only [List.map_toArray, List.map_cons, List.map_nil]); first | done | rfl | (simp only [List.length_drop, List.length_take]; rfl)) ?_; (with_reducible refine (round_Up.calls (wrap64 (a1 / 4)) (wrap64 (a2)) t110 _ A7.out).mono ?_); rintro e w11 ⟨rfl, hb⟩; refine ⟨_, rfl, ?_⟩; have n0_ := Aside0.mk (below_step (by repeat (first | (with_reducible first | exact HB.out | apply below_alloc | apply pw_below_drewN | apply below_drew1) | exact HB.out)) hb); clear HB; have HB := n0_; clear n0_; (try clear hb); (try clear hb2); (try clear hk); (try clear hi)))
    (try simp only [Act.put, List.setIfInBounds_toArray, List.set_cons_zero, List.set_cons_succ])
    go_cut [56] (fun v56 wc => ∃ (kq : Nat) (x56_7 : Bool), v56 = .bool x56_7 ∧ Aside0 (knelllaw04_RoundWithin.j0 kq (wrap64 (a0 / 4)) (wrap64 (a1 / 4)) (wrap64 (a2)) t109 t110 x56_7 = some r) ∧ Aside0 (kq ≤ k) ∧ Aside0 (Below w.heap.size w wc))
    case first =>
      have H := HC8.out
      clear HC8
      by_cases c12 : t109 < (wrap64 (a0 / 4))
      · rw [if_pos c12] at H
        have c12b0 : decide (t109 < (wrap64 (a0 / 4))) = true := decide_eq_true c12
        clear c12
        (first | rw [c12b0] | (simp only [i64_w, i32_w]; rw [c12b0]) | skip)
        have H' := Aside0.mk H
        clear H
        go_wp2
        go_meet
        case rel => exact ⟨_, (true), (by first | rfl | (simp; done) | (simp [*]; done)), H', ⟨by first | omega | exact Nat.le_refl _⟩, ⟨by repeat (first | (with_reducible first | exact HB.out | apply below_alloc | apply pw_below_drewN | apply below_drew1) | exact HB.out)⟩⟩
      · rw [if_neg c12] at H
        have c12b0 : decide (t109 < (wrap64 (a0 / 4))) = false := decide_eq_false c12
        clear c12
        (first | rw [c12b0] | (simp only [i64_w, i32_w]; rw [c12b0]) | skip)
        by_cases c13 : t109 > (wrap64 ((wrap64 (a0 / 4)) + (wrap64 (a2))))
        · rw [if_pos c13] at H
          have c13b0 : decide ((wrap64 ((wrap64 (a0 / 4)) + (wrap64 (a2)))) < t109) = true := decide_eq_true c13
          clear c13
          have H' := Aside0.mk H
          clear H
          go_wp2
          go_meet
          case rel => exact ⟨_, (true), (by first | rfl | (simp; done) | (simp [*]; done)), H', ⟨by first | omega | exact Nat.le_refl _⟩, ⟨by repeat (first | (with_reducible first | exact HB.out | apply below_alloc | apply pw_below_drewN | apply below_drew1) | exact HB.out)⟩⟩
        · rw [if_neg c13] at H
          have c13b0 : decide ((wrap64 ((wrap64 (a0 / 4)) + (wrap64 (a2)))) < t109) = false := decide_eq_false c13
          clear c13
          by_cases c14 : t110 < (wrap64 (a1 / 4))
          · rw [if_pos c14] at H
            have c14b0 : decide (t110 < (wrap64 (a1 / 4))) = true := decide_eq_true c14
            clear c14
            have H' := Aside0.mk H
            clear H
            go_wp2
            go_meet
            case rel => exact ⟨_, (true), (by first | rfl | (simp; done) | (simp [*]; done)), H', ⟨by first | omega | exact Nat.le_refl _⟩, ⟨by repeat (first | (with_reducible first | exact HB.out | apply below_alloc | apply pw_below_drewN | apply below_drew1) | exact HB.out)⟩⟩
          · rw [if_neg c14] at H
            have c14b0 : decide (t110 < (wrap64 (a1 / 4))) = false := decide_eq_false c14
            clear c14
            by_cases c15 : t110 > (wrap64 ((wrap64 (a1 / 4)) + (wrap64 (a2))))
            · rw [if_pos c15] at H
              have c15b0 : decide ((wrap64 ((wrap64 (a1 / 4)) + (wrap64 (a2)))) < t110) = true := decide_eq_true c15
              clear c15
              have H' := Aside0.mk H
              clear H
              go_wp2
              go_meet
              case rel => exact ⟨_, (true), (by first | rfl | (simp; done) | (simp [*]; done)), H', ⟨by first | omega | exact Nat.le_refl _⟩, ⟨by repeat (first | (with_reducible first | exact HB.out | apply below_alloc | apply pw_below_drewN | apply below_drew1) | exact HB.out)⟩⟩
            · rw [if_neg c15] at H
              have c15b0 : decide ((wrap64 ((wrap64 (a1 / 4)) + (wrap64 (a2)))) < t110) = false := decide_eq_false c15
              clear c15
              by_cases c16 : (wrap64 ((wrap64 (a2)) + 1)) = 0
              · rw [if_pos c16] at H
                exact absurd H (by simp)
              · rw [if_neg c16] at H
                have c16b0 : ((wrap64 ((wrap64 (a2)) + 1)) == 0) = false := beq_eq_false_iff_ne.mpr c16
                have c16b1 : ((wrap64 ((wrap64 (a2)) + 1)) != 0) = true := bne_iff_ne.mpr c16
                have H' := Aside0.mk H
                clear H
                go_wp2
                go_meet
                case rel => exact ⟨_, (((Int.tmod t109 (wrap64 ((wrap64 (a2)) + 1))) != 0)), (by first | rfl | (simp; done) | (simp [*]; done)), H', ⟨by first | omega | exact Nat.le_refl _⟩, ⟨by repeat (first | (with_reducible first | exact HB.out | apply below_alloc | apply pw_below_drewN | apply below_drew1) | exact HB.out)⟩⟩
    case rest =>
      clear HC8
      try clear c1
      try clear p2
      try clear c3
      try clear c5
      try clear p6
      try clear c12
      try clear c12b0
      try clear c13
      try clear c13b0
      try clear c14
      try clear c14b0
      try clear c15
      try clear c15b0
      try clear c16
      try clear c16b0
      try clear c16b1
      obtain ⟨kq, x56_7, rfl, HA, HJ7, HB⟩ := hcut
      cases kq with
      | zero => exact absurd HA.out (by simp [knelllaw04_RoundWithin.j0])
      | succ kj7 =>
        have H := HA.out
        clear HA
        simp only [knelllaw04_RoundWithin.j0] at H
        by_cases c17 : x56_7 = true
        · subst c17
          have H1 : (some false) = some r := by rw [if_pos rfl] at H; exact H
          clear H
          have H := H1
          clear H1
          obtain rfl := Option.some.inj H
          go_wp2
          go_ret
          exact ⟨by first | rfl | (simp [errW_none, errW_some] <;> rfl) | (simp [*, errW_none, errW_some] <;> rfl), by repeat (first | (with_reducible first | exact HB.out | apply below_alloc | apply pw_below_drewN | apply below_drew1) | exact HB.out)⟩
        · replace c17 := Bool.eq_false_iff.mpr c17
          subst c17
          have H1 : (if t109 ≤ 1073741823 then ((round_Up.f t109 (wrap64 (a2))).bind fun t111 => (if t111 = t109 then (if (wrap64 (a0 / 4)) ≤ (wrap64 (a1 / 4)) then (if t109 > t110 then (knelllaw04_RoundWithin.j1 kj7 (wrap64 (a0 / 4)) (wrap64 (a1 / 4)) (wrap64 (a2)) true) else (if (wrap64 (a1 / 4)) ≤ (wrap64 (a0 / 4)) then (knelllaw04_RoundWithin.j1 kj7 (wrap64 (a0 / 4)) (wrap64 (a1 / 4)) (wrap64 (a2)) (decide (t110 > t109))) else (knelllaw04_RoundWithin.j1 kj7 (wrap64 (a0 / 4)) (wrap64 (a1 / 4)) (wrap64 (a2)) false))) else (if (wrap64 (a1 / 4)) ≤ (wrap64 (a0 / 4)) then (knelllaw04_RoundWithin.j1 kj7 (wrap64 (a0 / 4)) (wrap64 (a1 / 4)) (wrap64 (a2)) (decide (t110 > t109))) else (knelllaw04_RoundWithin.j1 kj7 (wrap64 (a0 / 4)) (wrap64 (a1 / 4)) (wrap64 (a2)) false))) else (knelllaw04_RoundWithin.j1 kj7 (wrap64 (a0 / 4)) (wrap64 (a1 / 4)) (wrap64 (a2)) true))) else (if (wrap64 (a0 / 4)) ≤ (wrap64 (a1 / 4)) then (if t109 > t110 then (knelllaw04_RoundWithin.j1 kj7 (wrap64 (a0 / 4)) (wrap64 (a1 / 4)) (wrap64 (a2)) true) else (if (wrap64 (a1 / 4)) ≤ (wrap64 (a0 / 4)) then (knelllaw04_RoundWithin.j1 kj7 (wrap64 (a0 / 4)) (wrap64 (a1 / 4)) (wrap64 (a2)) (decide (t110 > t109))) else (knelllaw04_RoundWithin.j1 kj7 (wrap64 (a0 / 4)) (wrap64 (a1 / 4)) (wrap64 (a2)) false))) else (if (wrap64 (a1 / 4)) ≤ (wrap64 (a0 / 4)) then (knelllaw04_RoundWithin.j1 kj7 (wrap64 (a0 / 4)) (wrap64 (a1 / 4)) (wrap64 (a2)) (decide (t110 > t109))) else (knelllaw04_RoundWithin.j1 kj7 (wrap64 (a0 / 4)) (wrap64 (a1 / 4)) (wrap64 (a2)) false)))) = some r := by rw [if_neg (show ¬ (false = true) by decide)] at H; exact H
          clear H
          have H := H1
          clear H1
          have HC18 := Aside0.mk H
          clear H
          go_upto_region 7 with (fail)
          go_cut [85] (fun v85 wc => ∃ (kq : Nat) (x85_17 : Bool), v85 = .bool x85_17 ∧ Aside0 (knelllaw04_RoundWithin.j1 kq (wrap64 (a0 / 4)) (wrap64 (a1 / 4)) (wrap64 (a2)) x85_17 = some r) ∧ Aside0 (kq ≤ kj7) ∧ Aside0 (Below w.heap.size w wc))
          case first =>
            have H := HC18.out
            clear HC18
            by_cases c19 : t109 ≤ 1073741823
            · rw [if_pos c19] at H
              have c19b0 : decide (t109 ≤ 1073741823) = true := decide_eq_true c19
              clear c19
              (first | rw [c19b0] | (simp only [i64_w, i32_w]; rw [c19b0]) | skip)
              replace H := Option.bind_eq_some_iff.mp H
              obtain ⟨t111, A200, H⟩ := H
              replace H : (if t111 = t109 then (if (wrap64 (a0 / 4)) ≤ (wrap64 (a1 / 4)) then (if t109 > t110 then (knelllaw04_RoundWithin.j1 kj7 (wrap64 (a0 / 4)) (wrap64 (a1 / 4)) (wrap64 (a2)) true) else (if (wrap64 (a1 / 4)) ≤ (wrap64 (a0 / 4)) then (knelllaw04_RoundWithin.j1 kj7 (wrap64 (a0 / 4)) (wrap64 (a1 / 4)) (wrap64 (a2)) (decide (t110 > t109))) else (knelllaw04_RoundWithin.j1 kj7 (wrap64 (a0 / 4)) (wrap64 (a1 / 4)) (wrap64 (a2)) false))) else (if (wrap64 (a1 / 4)) ≤ (wrap64 (a0 / 4)) then (knelllaw04_RoundWithin.j1 kj7 (wrap64 (a0 / 4)) (wrap64 (a1 / 4)) (wrap64 (a2)) (decide (t110 > t109))) else (knelllaw04_RoundWithin.j1 kj7 (wrap64 (a0 / 4)) (wrap64 (a1 / 4)) (wrap64 (a2)) false))) else (knelllaw04_RoundWithin.j1 kj7 (wrap64 (a0 / 4)) (wrap64 (a1 / 4)) (wrap64 (a2)) true)) = some r := H
              have A20 := Aside0.mk A200
              clear A200
              by_cases c21 : t111 = t109
              · rw [if_pos c21] at H
                have c21b0 : (t111 == t109) = true := beq_iff_eq.mpr c21
                have c21b1 : (t111 != t109) = false := bne_eq_false_iff_eq.mpr c21
                clear c21
                by_cases c22 : (wrap64 (a0 / 4)) ≤ (wrap64 (a1 / 4))
                · rw [if_pos c22] at H
                  have c22b0 : decide ((wrap64 (a0 / 4)) ≤ (wrap64 (a1 / 4))) = true := decide_eq_true c22
                  clear c22
                  by_cases c23 : t109 > t110
                  · rw [if_pos c23] at H
                    have c23b0 : decide (t110 < t109) = true := decide_eq_true c23
                    clear c23
                    have H' := Aside0.mk H
                    clear H
                    go_wp2_with (first | (go_at_call 18; (with_reducible refine (round_Up.calls t109 (wrap64 (a2)) t111 _ A20.out).mono ?_); rintro e w24 ⟨rfl, hb⟩; have n0_ := Aside0.mk (below_step (by repeat (first | (with_reducible first | exact HB.out | apply below_alloc | apply pw_below_drewN | apply below_drew1) | exact HB.out)) hb); clear HB; have HB := n0_; clear n0_; (try clear hb); (try clear hb2); (try clear hk); (try clear hi)))
                    go_meet
                    case rel => exact ⟨_, (true), (by first | rfl | (simp; done) | (simp [*]; done)), H', ⟨by have := HJ7.out; first | omega | exact Nat.le_refl _⟩, ⟨by repeat (first | (with_reducible first | exact HB.out | apply below_alloc | apply pw_below_drewN | apply below_drew1) | exact HB.out)⟩⟩
                  · rw [if_neg c23] at H
                    have c23b0 : decide (t110 < t109) = false := decide_eq_false c23
                    clear c23
                    by_cases c25 : (wrap64 (a1 / 4)) ≤ (wrap64 (a0 / 4))
                    · rw [if_pos c25] at H
                      have c25b0 : decide ((wrap64 (a1 / 4)) ≤ (wrap64 (a0 / 4))) = true := decide_eq_true c25
                      clear c25
                      have H' := Aside0.mk H
                      clear H
                      go_wp2_with (first | (go_at_call 18; (with_reducible refine (round_Up.calls t109 (wrap64 (a2)) t111 _ A20.out).mono ?_); rintro e w26 ⟨rfl, hb⟩; have n0_ := Aside0.mk (below_step (by repeat (first | (with_reducible first | exact HB.out | apply below_alloc | apply pw_below_drewN | apply below_drew1) | exact HB.out)) hb); clear HB; have HB := n0_; clear n0_; (try clear hb); (try clear hb2); (try clear hk); (try clear hi)))
                      go_meet
                      case rel => exact ⟨_, (decide (t110 > t109)), (by first | rfl | (simp; done) | (simp [*]; done)), H', ⟨by have := HJ7.out; first | omega | exact Nat.le_refl _⟩, ⟨by repeat (first | (with_reducible first | exact HB.out | apply below_alloc | apply pw_below_drewN | apply below_drew1) | exact HB.out)⟩⟩
                    · rw [if_neg c25] at H
                      have c25b0 : decide ((wrap64 (a1 / 4)) ≤ (wrap64 (a0 / 4))) = false := decide_eq_false c25
                      clear c25
                      have H' := Aside0.mk H
                      clear H
                      go_wp2_with (first | (go_at_call 18; (with_reducible refine (round_Up.calls t109 (wrap64 (a2)) t111 _ A20.out).mono ?_); rintro e w27 ⟨rfl, hb⟩; have n0_ := Aside0.mk (below_step (by repeat (first | (with_reducible first | exact HB.out | apply below_alloc | apply pw_below_drewN | apply below_drew1) | exact HB.out)) hb); clear HB; have HB := n0_; clear n0_; (try clear hb); (try clear hb2); (try clear hk); (try clear hi)))
                      go_meet
                      case rel => exact ⟨_, (false), (by first | rfl | (simp; done) | (simp [*]; done)), H', ⟨by have := HJ7.out; first | omega | exact Nat.le_refl _⟩, ⟨by repeat (first | (with_reducible first | exact HB.out | apply below_alloc | apply pw_below_drewN | apply below_drew1) | exact HB.out)⟩⟩
                · rw [if_neg c22] at H
                  have c22b0 : decide ((wrap64 (a0 / 4)) ≤ (wrap64 (a1 / 4))) = false := decide_eq_false c22
                  clear c22
                  by_cases c28 : (wrap64 (a1 / 4)) ≤ (wrap64 (a0 / 4))
                  · rw [if_pos c28] at H
                    have c28b0 : decide ((wrap64 (a1 / 4)) ≤ (wrap64 (a0 / 4))) = true := decide_eq_true c28
                    clear c28
                    have H' := Aside0.mk H
                    clear H
                    go_wp2_with (first | (go_at_call 18; (with_reducible refine (round_Up.calls t109 (wrap64 (a2)) t111 _ A20.out).mono ?_); rintro e w29 ⟨rfl, hb⟩; have n0_ := Aside0.mk (below_step (by repeat (first | (with_reducible first | exact HB.out | apply below_alloc | apply pw_below_drewN | apply below_drew1) | exact HB.out)) hb); clear HB; have HB := n0_; clear n0_; (try clear hb); (try clear hb2); (try clear hk); (try clear hi)))
                    go_meet
                    case rel => exact ⟨_, (decide (t110 > t109)), (by first | rfl | (simp; done) | (simp [*]; done)), H', ⟨by have := HJ7.out; first | omega | exact Nat.le_refl _⟩, ⟨by repeat (first | (with_reducible first | exact HB.out | apply below_alloc | apply pw_below_drewN | apply below_drew1) | exact HB.out)⟩⟩
                  · rw [if_neg c28] at H
                    have c28b0 : decide ((wrap64 (a1 / 4)) ≤ (wrap64 (a0 / 4))) = false := decide_eq_false c28
                    clear c28
                    have H' := Aside0.mk H
                    clear H
                    go_wp2_with (first | (go_at_call 18; (with_reducible refine (round_Up.calls t109 (wrap64 (a2)) t111 _ A20.out).mono ?_); rintro e w30 ⟨rfl, hb⟩; have n0_ := Aside0.mk (below_step (by repeat (first | (with_reducible first | exact HB.out | apply below_alloc | apply pw_below_drewN | apply below_drew1) | exact HB.out)) hb); clear HB; have HB := n0_; clear n0_; (try clear hb); (try clear hb2); (try clear hk); (try clear hi)))
                    go_meet
                    case rel => exact ⟨_, (false), (by first | rfl | (simp; done) | (simp [*]; done)), H', ⟨by have := HJ7.out; first | omega | exact Nat.le_refl _⟩, ⟨by repeat (first | (with_reducible first | exact HB.out | apply below_alloc | apply pw_below_drewN | apply below_drew1) | exact HB.out)⟩⟩
              · rw [if_neg c21] at H
                have c21b0 : (t111 == t109) = false := beq_eq_false_iff_ne.mpr c21
                have c21b1 : (t111 != t109) = true := bne_iff_ne.mpr c21
                have H' := Aside0.mk H
                clear H
                go_wp2_with (first | (go_at_call 18; (with_reducible refine (round_Up.calls t109 (wrap64 (a2)) t111 _ A20.out).mono ?_); rintro e w31 ⟨rfl, hb⟩; have n0_ := Aside0.mk (below_step (by repeat (first | (with_reducible first | exact HB.out | apply below_alloc | apply pw_below_drewN | apply below_drew1) | exact HB.out)) hb); clear HB; have HB := n0_; clear n0_; (try clear hb); (try clear hb2); (try clear hk); (try clear hi)))
                go_meet
                case rel => exact ⟨_, (true), (by first | rfl | (simp; done) | (simp [*]; done)), H', ⟨by have := HJ7.out; first | omega | exact Nat.le_refl _⟩, ⟨by repeat (first | (with_reducible first | exact HB.out | apply below_alloc | apply pw_below_drewN | apply below_drew1) | exact HB.out)⟩⟩
            · rw [if_neg c19] at H
              have c19b0 : decide (t109 ≤ 1073741823) = false := decide_eq_false c19
              clear c19
              (first | rw [c19b0] | (simp only [i64_w, i32_w]; rw [c19b0]) | skip)
              by_cases c32 : (wrap64 (a0 / 4)) ≤ (wrap64 (a1 / 4))
              · rw [if_pos c32] at H
                have c32b0 : decide ((wrap64 (a0 / 4)) ≤ (wrap64 (a1 / 4))) = true := decide_eq_true c32
                clear c32
                by_cases c33 : t109 > t110
                · rw [if_pos c33] at H
                  have c33b0 : decide (t110 < t109) = true := decide_eq_true c33
                  clear c33
                  have H' := Aside0.mk H
                  clear H
                  go_wp2
                  go_meet
                  case rel => exact ⟨_, (true), (by first | rfl | (simp; done) | (simp [*]; done)), H', ⟨by have := HJ7.out; first | omega | exact Nat.le_refl _⟩, ⟨by repeat (first | (with_reducible first | exact HB.out | apply below_alloc | apply pw_below_drewN | apply below_drew1) | exact HB.out)⟩⟩
                · rw [if_neg c33] at H
                  have c33b0 : decide (t110 < t109) = false := decide_eq_false c33
                  clear c33
                  by_cases c34 : (wrap64 (a1 / 4)) ≤ (wrap64 (a0 / 4))
                  · rw [if_pos c34] at H
                    have c34b0 : decide ((wrap64 (a1 / 4)) ≤ (wrap64 (a0 / 4))) = true := decide_eq_true c34
                    clear c34
                    have H' := Aside0.mk H
                    clear H
                    go_wp2
                    go_meet
                    case rel => exact ⟨_, (decide (t110 > t109)), (by first | rfl | (simp; done) | (simp [*]; done)), H', ⟨by have := HJ7.out; first | omega | exact Nat.le_refl _⟩, ⟨by repeat (first | (with_reducible first | exact HB.out | apply below_alloc | apply pw_below_drewN | apply below_drew1) | exact HB.out)⟩⟩
                  · rw [if_neg c34] at H
                    have c34b0 : decide ((wrap64 (a1 / 4)) ≤ (wrap64 (a0 / 4))) = false := decide_eq_false c34
                    clear c34
                    have H' := Aside0.mk H
                    clear H
                    go_wp2
                    go_meet
                    case rel => exact ⟨_, (false), (by first | rfl | (simp; done) | (simp [*]; done)), H', ⟨by have := HJ7.out; first | omega | exact Nat.le_refl _⟩, ⟨by repeat (first | (with_reducible first | exact HB.out | apply below_alloc | apply pw_below_drewN | apply below_drew1) | exact HB.out)⟩⟩
              · rw [if_neg c32] at H
                have c32b0 : decide ((wrap64 (a0 / 4)) ≤ (wrap64 (a1 / 4))) = false := decide_eq_false c32
                clear c32
                by_cases c35 : (wrap64 (a1 / 4)) ≤ (wrap64 (a0 / 4))
                · rw [if_pos c35] at H
                  have c35b0 : decide ((wrap64 (a1 / 4)) ≤ (wrap64 (a0 / 4))) = true := decide_eq_true c35
                  clear c35
                  have H' := Aside0.mk H
                  clear H
                  go_wp2
                  go_meet
                  case rel => exact ⟨_, (decide (t110 > t109)), (by first | rfl | (simp; done) | (simp [*]; done)), H', ⟨by have := HJ7.out; first | omega | exact Nat.le_refl _⟩, ⟨by repeat (first | (with_reducible first | exact HB.out | apply below_alloc | apply pw_below_drewN | apply below_drew1) | exact HB.out)⟩⟩
                · rw [if_neg c35] at H
                  have c35b0 : decide ((wrap64 (a1 / 4)) ≤ (wrap64 (a0 / 4))) = false := decide_eq_false c35
                  clear c35
                  have H' := Aside0.mk H
                  clear H
                  go_wp2
                  go_meet
                  case rel => exact ⟨_, (false), (by first | rfl | (simp; done) | (simp [*]; done)), H', ⟨by have := HJ7.out; first | omega | exact Nat.le_refl _⟩, ⟨by repeat (first | (with_reducible first | exact HB.out | apply below_alloc | apply pw_below_drewN | apply below_drew1) | exact HB.out)⟩⟩
          case rest =>
            clear HC18
            try clear c1
            try clear c2
            try clear p2
            try clear c3
            try clear c5
            try clear p6
            try clear c12
            try clear c12b0
            try clear c13
            try clear c13b0
            try clear c14
            try clear c14b0
            try clear c15
            try clear c15b0
            try clear c16
            try clear c16b0
            try clear c16b1
            try clear c17
            try clear c18
            try clear c19
            try clear c19b0
            try clear c21
            try clear c21b0
            try clear c21b1
            try clear c22
            try clear c22b0
            try clear c23
            try clear c23b0
            try clear c25
            try clear c25b0
            try clear c28
            try clear c28b0
            try clear c32
            try clear c32b0
            try clear c33
            try clear c33b0
            try clear c34
            try clear c34b0
            try clear c35
            try clear c35b0
            try clear p2
            try clear p6
            obtain ⟨kq, x85_17, rfl, HA, HJ17, HB⟩ := hcut
            cases kq with
            | zero => exact absurd HA.out (by simp [knelllaw04_RoundWithin.j1])
            | succ kj17 =>
              have H := HA.out
              clear HA
              simp only [knelllaw04_RoundWithin.j1] at H
              by_cases c36 : x85_17 = true
              · subst c36
                have H1 : (some false) = some r := by rw [if_pos rfl] at H; exact H
                clear H
                have H := H1
                clear H1
                obtain rfl := Option.some.inj H
                go_wp2
                go_ret
                exact ⟨by first | rfl | (simp [errW_none, errW_some] <;> rfl) | (simp [*, errW_none, errW_some] <;> rfl), by repeat (first | (with_reducible first | exact HB.out | apply below_alloc | apply pw_below_drewN | apply below_drew1) | exact HB.out)⟩
              · replace c36 := Bool.eq_false_iff.mpr c36
                subst c36
                have H1 : ((round_Up.f (wrap64 (a0 / 4)) 0).bind fun t112 => (if t112 = (wrap64 (a0 / 4)) then ((round_Batch.f (wrap64 (a0 / 4)) (wrap64 (a1 / 4)) (wrap64 (a2))).bind fun t113 => ((round_Batch.f (wrap64 (a1 / 4)) (wrap64 (a0 / 4)) (wrap64 (a2))).bind fun t114 => (some (t113 == t114)))) else (some false))) = some r := by rw [if_neg (show ¬ (false = true) by decide)] at H; exact H
                clear H
                have H := H1
                clear H1
                replace H := Option.bind_eq_some_iff.mp H
                obtain ⟨t112, A370, H⟩ := H
                replace H : (if t112 = (wrap64 (a0 / 4)) then ((round_Batch.f (wrap64 (a0 / 4)) (wrap64 (a1 / 4)) (wrap64 (a2))).bind fun t113 => ((round_Batch.f (wrap64 (a1 / 4)) (wrap64 (a0 / 4)) (wrap64 (a2))).bind fun t114 => (some (t113 == t114)))) else (some false)) = some r := H
                have A37 := Aside0.mk A370
                clear A370
                by_cases c38 : t112 = (wrap64 (a0 / 4))
                · rw [if_pos c38] at H
                  have c38b0 : (t112 == (wrap64 (a0 / 4))) = true := beq_iff_eq.mpr c38
                  have c38b1 : (t112 != (wrap64 (a0 / 4))) = false := bne_eq_false_iff_eq.mpr c38
                  clear c38
                  replace H := Option.bind_eq_some_iff.mp H
                  obtain ⟨t113, A390, H⟩ := H
                  replace H : ((round_Batch.f (wrap64 (a1 / 4)) (wrap64 (a0 / 4)) (wrap64 (a2))).bind fun t114 => (some (t113 == t114))) = some r := H
                  have A39 := Aside0.mk A390
                  clear A390
                  replace H := Option.bind_eq_some_iff.mp H
                  obtain ⟨t114, A400, H⟩ := H
                  replace H : (some (t113 == t114)) = some r := H
                  have A40 := Aside0.mk A400
                  clear A400
                  obtain rfl := Option.some.inj H
                  go_wp2_with (first | ((with_reducible refine gate_callee (f := 18) rfl ?_); refine goesL_ (some 87) rfl rfl Try.func18 (by kernel_rfl) rfl #[.int .i64 (wrap64 (a0 / 4)), .int .i64 0] rfl (by (try simp only [List.map_toArray, List.map_cons, List.map_nil]); first | done | rfl | (simp only [List.length_drop, List.length_take]; rfl)) ?_; (with_reducible refine (round_Up.calls (wrap64 (a0 / 4)) 0 t112 _ A37.out).mono ?_); rintro e w41 ⟨rfl, hb⟩; refine ⟨_, rfl, ?_⟩; have n0_ := Aside0.mk (below_step (by repeat (first | (with_reducible first | exact HB.out | apply below_alloc | apply pw_below_drewN | apply below_drew1) | exact HB.out)) hb); clear HB; have HB := n0_; clear n0_; (try clear hb); (try clear hb2); (try clear hk); (try clear hi)) | (go_at_call 19; (with_reducible refine (round_Batch.calls (wrap64 (a0 / 4)) (wrap64 (a1 / 4)) (wrap64 (a2)) t113 _ A39.out).mono ?_); rintro e w42 ⟨rfl, hb⟩; have n0_ := Aside0.mk (below_step (by repeat (first | (with_reducible first | exact HB.out | apply below_alloc | apply pw_below_drewN | apply below_drew1) | exact HB.out)) hb); clear HB; have HB := n0_; clear n0_; (try clear hb); (try clear hb2); (try clear hk); (try clear hi)) | (go_at_call 19; (with_reducible refine (round_Batch.calls (wrap64 (a1 / 4)) (wrap64 (a0 / 4)) (wrap64 (a2)) t114 _ A40.out).mono ?_); rintro e w43 ⟨rfl, hb⟩; have n0_ := Aside0.mk (below_step (by repeat (first | (with_reducible first | exact HB.out | apply below_alloc | apply pw_below_drewN | apply below_drew1) | exact HB.out)) hb); clear HB; have HB := n0_; clear n0_; (try clear hb); (try clear hb2); (try clear hk); (try clear hi)))
                  go_ret
                  exact ⟨by first | rfl | (simp [errW_none, errW_some] <;> rfl) | (simp [*, errW_none, errW_some] <;> rfl), by repeat (first | (with_reducible first | exact HB.out | apply below_alloc | apply pw_below_drewN | apply below_drew1) | exact HB.out)⟩
                · rw [if_neg c38] at H
                  have c38b0 : (t112 == (wrap64 (a0 / 4))) = false := beq_eq_false_iff_ne.mpr c38
                  have c38b1 : (t112 != (wrap64 (a0 / 4))) = true := bne_iff_ne.mpr c38
                  obtain rfl := Option.some.inj H
                  go_wp2_with (first | ((with_reducible refine gate_callee (f := 18) rfl ?_); refine goesL_ (some 87) rfl rfl Try.func18 (by kernel_rfl) rfl #[.int .i64 (wrap64 (a0 / 4)), .int .i64 0] rfl (by (try simp only [List.map_toArray, List.map_cons, List.map_nil]); first | done | rfl | (simp only [List.length_drop, List.length_take]; rfl)) ?_; (with_reducible refine (round_Up.calls (wrap64 (a0 / 4)) 0 t112 _ A37.out).mono ?_); rintro e w44 ⟨rfl, hb⟩; refine ⟨_, rfl, ?_⟩; have n0_ := Aside0.mk (below_step (by repeat (first | (with_reducible first | exact HB.out | apply below_alloc | apply pw_below_drewN | apply below_drew1) | exact HB.out)) hb); clear HB; have HB := n0_; clear n0_; (try clear hb); (try clear hb2); (try clear hk); (try clear hi)))
                  go_ret
                  exact ⟨by first | rfl | (simp [errW_none, errW_some] <;> rfl) | (simp [*, errW_none, errW_some] <;> rfl), by repeat (first | (with_reducible first | exact HB.out | apply below_alloc | apply pw_below_drewN | apply below_drew1) | exact HB.out)⟩
  · replace c5 := Bool.eq_false_iff.mpr c5
    subst c5
    have H1 : (some false) = some r := by rw [if_neg (show ¬ (false = true) by decide)] at H; exact H
    clear H
    have H := H1
    clear H1
    obtain rfl := Option.some.inj H
    go_enter Try.func3, Try.ntmps3
    go_wp2_with (first | ((with_reducible refine gate_callee (f := 17) rfl ?_); refine goesL_ (some 12) rfl rfl Try.func17 (by kernel_rfl) rfl #[] rfl (by (try simp only [List.map_toArray, List.map_cons, List.map_nil]); first | done | rfl | (simp only [List.length_drop, List.length_take]; rfl)) ?_; (with_reducible refine (knelllaw04_speaks.calls  false _ A4.out).mono ?_); rintro e w45 ⟨rfl, hb⟩; refine ⟨_, rfl, ?_⟩; have n0_ := Aside0.mk (below_step (by repeat (first | (with_reducible first | exact HB.out | apply below_alloc | apply pw_below_drewN | apply below_drew1) | exact HB.out)) hb); clear HB; have HB := n0_; clear n0_; (try clear hb); (try clear hb2); (try clear hk); (try clear hi)))
    go_ret
    exact ⟨by first | rfl | (simp [errW_none, errW_some] <;> rfl) | (simp [*, errW_none, errW_some] <;> rfl), by repeat (first | (with_reducible first | exact HB.out | apply below_alloc | apply pw_below_drewN | apply below_drew1) | exact HB.out)⟩

/-- THE ONE PURE STATEMENT of knelllaw04_RoundWithin: yours. -/
def knelllaw04_RoundWithin.Pure : Prop := ∀ (a0 : Int) (a1 : Int) (a2 : Int), (Lit.int .u32 a0).wf = true → (Lit.int .u32 a1).wf = true → (Lit.int .u16 a2).wf = true → ∃ k, knelllaw04_RoundWithin.f k a0 a1 a2 = some true
theorem knelllaw04_RoundWithin.walk (P : knelllaw04_RoundWithin.Pure) (a0 : Int) (a1 : Int) (a2 : Int) (w : World) (w0 : (Lit.int .u32 a0).wf = true) (w1 : (Lit.int .u32 a1).wf = true) (w2 : (Lit.int .u16 a2).wf = true) :
    Calls Try.prog 3 #[.int .u32 a0, .int .u32 a1, .int .u16 a2] w fun e w' => e = .returned (.bool true) ∧ Below w.heap.size w w' := by
  obtain ⟨k, h⟩ := P a0 a1 a2 w0 w1 w2
  refine (knelllaw04_RoundWithin.calls k a0 a1 a2 true w h).mono ?_
  rintro e w' ⟨rfl, hd⟩
  exact ⟨rfl, hd⟩

end Go.Proofs.Ythljanmfanppdaa.PRoundWithin
