/- What is proved: each Go function named here comes to what the plain function of its name comes to, whatever the memory; no conditions. Written by a program of this session (kp.py) over the kit's print. -/
import Derived.Test.YthljanmfanppdaaKBackx0
import Derived.Test.YthljanmfanppdaaKBackx1
import Derived.Test.YthljanmfanppdaaKBackx3
namespace Go.Proofs.Ythljanmfanppdaa.KBack
open Go.RowKit Go.Proofs.YthljanmfanppdaaW.PrintWords Go.Proofs.YthljanmfanppdaaW.PrintLast Go.Proofs.YthljanmfanppdaaW.PrintMore
attribute [local go_sem] max2_int min2_int max_two min_two max_three min_three max_four min_four   -- for this text's walks alone
set_option linter.unusedVariables false
set_option linter.unusedSimpArgs false

/-! ### knelllaw23_BackoffGrows: function 7 -/
mutual
def knelllaw23_BackoffGrows.j0 : Nat → Int → Int → Int → Bool → Int → Int → Int → Int → Int → Int → Int → Int → Int → Int → Int → Int → Int → Option (Bool)
  | 0, _, _, _, _, _, _, _, _, _, _, _, _, _, _, _, _, _ => none
  | k + 1, x1, x2, x3, x21, x225000, x225001, x225002, x225003, x225004, x225005, x225006, x225007, x225008, x225009, x225010, x225011, x225012 => if x21 = true then ((knelllaw23_speaks.f k).bind fun t227 => (some t227)) else ((knelllaw03_Of.f x225000 x225001 x225002 x225003 x225004 x225005 x225006 x225007 x225008 x225009 x225010 x225011 x225012).bind fun bt228 => ((backoff_Wait.f k bt228.2.2.2.2.2.2.2.2.2.1 bt228.2.2.2.2.2.2.2.2.2.2.1 (Int.tmod (wrap64 (x2)) 64)).bind fun t242 => ((backoff_Wait.f k bt228.2.2.2.2.2.2.2.2.2.1 bt228.2.2.2.2.2.2.2.2.2.2.1 (wrap64 ((Int.tmod (wrap64 (x2)) 64) + 1))).bind fun t243 => ((backoff_Jitter.f k (wrap64 (x3)) bt228.2.2.2.2.2.2.2.2.2.2.2.1).bind fun t244 => ((backoff_Due.f k bt228.1 bt228.2.1 bt228.2.2.1 bt228.2.2.2.1 bt228.2.2.2.2.1 bt228.2.2.2.2.2.1 bt228.2.2.2.2.2.2.1 bt228.2.2.2.2.2.2.2.1 bt228.2.2.2.2.2.2.2.2.1 bt228.2.2.2.2.2.2.2.2.2.1 bt228.2.2.2.2.2.2.2.2.2.2.1 bt228.2.2.2.2.2.2.2.2.2.2.2.1 bt228.2.2.2.2.2.2.2.2.2.2.2.2 (wrap64 (x1)) (Int.tmod (wrap64 (x2)) 64) (wrap64 (x3))).bind fun t245 => (if t242 > t243 then (knelllaw23_BackoffGrows.j1 k x1 t242 t244 t245 true bt228.1 bt228.2.1 bt228.2.2.1 bt228.2.2.2.1 bt228.2.2.2.2.1 bt228.2.2.2.2.2.1 bt228.2.2.2.2.2.2.1 bt228.2.2.2.2.2.2.2.1 bt228.2.2.2.2.2.2.2.2.1 bt228.2.2.2.2.2.2.2.2.2.1 bt228.2.2.2.2.2.2.2.2.2.2.1 bt228.2.2.2.2.2.2.2.2.2.2.2.1 bt228.2.2.2.2.2.2.2.2.2.2.2.2) else (if t243 > bt228.2.2.2.2.2.2.2.2.2.2.1 then (knelllaw23_BackoffGrows.j1 k x1 t242 t244 t245 true bt228.1 bt228.2.1 bt228.2.2.1 bt228.2.2.2.1 bt228.2.2.2.2.1 bt228.2.2.2.2.2.1 bt228.2.2.2.2.2.2.1 bt228.2.2.2.2.2.2.2.1 bt228.2.2.2.2.2.2.2.2.1 bt228.2.2.2.2.2.2.2.2.2.1 bt228.2.2.2.2.2.2.2.2.2.2.1 bt228.2.2.2.2.2.2.2.2.2.2.2.1 bt228.2.2.2.2.2.2.2.2.2.2.2.2) else (if t242 < (mn bt228.2.2.2.2.2.2.2.2.2.1 bt228.2.2.2.2.2.2.2.2.2.2.1) then (knelllaw23_BackoffGrows.j1 k x1 t242 t244 t245 true bt228.1 bt228.2.1 bt228.2.2.1 bt228.2.2.2.1 bt228.2.2.2.2.1 bt228.2.2.2.2.2.1 bt228.2.2.2.2.2.2.1 bt228.2.2.2.2.2.2.2.1 bt228.2.2.2.2.2.2.2.2.1 bt228.2.2.2.2.2.2.2.2.2.1 bt228.2.2.2.2.2.2.2.2.2.2.1 bt228.2.2.2.2.2.2.2.2.2.2.2.1 bt228.2.2.2.2.2.2.2.2.2.2.2.2) else (if t243 > (wrap64 (2 * t242)) then (knelllaw23_BackoffGrows.j1 k x1 t242 t244 t245 true bt228.1 bt228.2.1 bt228.2.2.1 bt228.2.2.2.1 bt228.2.2.2.2.1 bt228.2.2.2.2.2.1 bt228.2.2.2.2.2.2.1 bt228.2.2.2.2.2.2.2.1 bt228.2.2.2.2.2.2.2.2.1 bt228.2.2.2.2.2.2.2.2.2.1 bt228.2.2.2.2.2.2.2.2.2.2.1 bt228.2.2.2.2.2.2.2.2.2.2.2.1 bt228.2.2.2.2.2.2.2.2.2.2.2.2) else (if t244 < 0 then (knelllaw23_BackoffGrows.j1 k x1 t242 t244 t245 true bt228.1 bt228.2.1 bt228.2.2.1 bt228.2.2.2.1 bt228.2.2.2.2.1 bt228.2.2.2.2.2.1 bt228.2.2.2.2.2.2.1 bt228.2.2.2.2.2.2.2.1 bt228.2.2.2.2.2.2.2.2.1 bt228.2.2.2.2.2.2.2.2.2.1 bt228.2.2.2.2.2.2.2.2.2.2.1 bt228.2.2.2.2.2.2.2.2.2.2.2.1 bt228.2.2.2.2.2.2.2.2.2.2.2.2) else (knelllaw23_BackoffGrows.j1 k x1 t242 t244 t245 (decide (t244 > bt228.2.2.2.2.2.2.2.2.2.2.2.1)) bt228.1 bt228.2.1 bt228.2.2.1 bt228.2.2.2.1 bt228.2.2.2.2.1 bt228.2.2.2.2.2.1 bt228.2.2.2.2.2.2.1 bt228.2.2.2.2.2.2.2.1 bt228.2.2.2.2.2.2.2.2.1 bt228.2.2.2.2.2.2.2.2.2.1 bt228.2.2.2.2.2.2.2.2.2.2.1 bt228.2.2.2.2.2.2.2.2.2.2.2.1 bt228.2.2.2.2.2.2.2.2.2.2.2.2)))))))))))
def knelllaw23_BackoffGrows.j1 : Nat → Int → Int → Int → Int → Bool → Int → Int → Int → Int → Int → Int → Int → Int → Int → Int → Int → Int → Int → Option (Bool)
  | 0, _, _, _, _, _, _, _, _, _, _, _, _, _, _, _, _, _, _ => none
  | k + 1, x1, x11, x13, x14, x86, x242000, x242001, x242002, x242003, x242004, x242005, x242006, x242007, x242008, x242009, x242010, x242011, x242012 => if x86 = true then (some false) else (if x14 = (mn (wrap64 ((wrap64 ((wrap64 (x1)) + x11)) + x13)) 1073741823) then ((backoff_Idle.f k x242000 x242001 x242002 x242003 x242004 x242005 x242006 x242007 x242008 x242009 x242010 x242011 x242012 (wrap64 (x1))).bind fun t246 => (if t246 ≥ (wrap64 (x1)) then ((backoff_All.f k x242000 x242001 x242002 x242003 x242004 x242005 x242006 x242007 x242008 x242009 x242010 x242011 x242012).bind fun t247 => (some ((t247.length : Int) == x242012))) else (some false))) else (some false))
end
def knelllaw23_BackoffGrows.f (k : Nat) (a0_0 : Int) (a0_1 : Int) (a0_2 : Int) (a0_3 : Int) (a0_4 : Int) (a0_5 : Int) (a0_6 : Int) (a0_7 : Int) (a0_8 : Int) (a0_9 : Int) (a0_10 : Int) (a0_11 : Int) (a0_12 : Int) (a1 : Int) (a2 : Int) (a3 : Int) : Option (Bool) := (knelllaw23_speaks.f k).bind fun t225 => (if t225 = true then ((knellref03_Right.f a0_0 a0_1 a0_2 a0_3 a0_4 a0_5 a0_6 a0_7 a0_8 a0_9 a0_10 a0_11 a0_12).bind fun t226 => (knelllaw23_BackoffGrows.j0 k a1 a2 a3 (!t226) a0_0 a0_1 a0_2 a0_3 a0_4 a0_5 a0_6 a0_7 a0_8 a0_9 a0_10 a0_11 a0_12)) else (knelllaw23_BackoffGrows.j0 k a1 a2 a3 true a0_0 a0_1 a0_2 a0_3 a0_4 a0_5 a0_6 a0_7 a0_8 a0_9 a0_10 a0_11 a0_12))
theorem knelllaw23_BackoffGrows.mono_l : ∀ k, (∀ y0 y1 y2 y3 y4 y5 y6 y7 y8 y9 y10 y11 y12 y13 y14 y15 y16, LeO (knelllaw23_BackoffGrows.j0 k y0 y1 y2 y3 y4 y5 y6 y7 y8 y9 y10 y11 y12 y13 y14 y15 y16) (knelllaw23_BackoffGrows.j0 (k + 1) y0 y1 y2 y3 y4 y5 y6 y7 y8 y9 y10 y11 y12 y13 y14 y15 y16)) ∧ (∀ y0 y1 y2 y3 y4 y5 y6 y7 y8 y9 y10 y11 y12 y13 y14 y15 y16 y17, LeO (knelllaw23_BackoffGrows.j1 k y0 y1 y2 y3 y4 y5 y6 y7 y8 y9 y10 y11 y12 y13 y14 y15 y16 y17) (knelllaw23_BackoffGrows.j1 (k + 1) y0 y1 y2 y3 y4 y5 y6 y7 y8 y9 y10 y11 y12 y13 y14 y15 y16 y17))
  | 0 => ⟨fun _ _ _ _ _ _ _ _ _ _ _ _ _ _ _ _ _ r h => by simp [knelllaw23_BackoffGrows.j0] at h, fun _ _ _ _ _ _ _ _ _ _ _ _ _ _ _ _ _ _ r h => by simp [knelllaw23_BackoffGrows.j1] at h⟩
  | k + 1 => by
    obtain ⟨ih0, ih1⟩ := knelllaw23_BackoffGrows.mono_l k
    refine ⟨?_, ?_⟩
    · intro y0 y1 y2 y3 y4 y5 y6 y7 y8 y9 y10 y11 y12 y13 y14 y15 y16
      unfold knelllaw23_BackoffGrows.j0
      repeat' first
      | (with_reducible exact ih0 _ _ _ _ _ _ _ _ _ _ _ _ _ _ _ _ _)
      | (with_reducible exact ih1 _ _ _ _ _ _ _ _ _ _ _ _ _ _ _ _ _ _)
      | (with_reducible exact backoff_All.mono _ _ _ _ _ _ _ _ _ _ _ _ _ _)
      | (with_reducible exact backoff_Due.mono _ _ _ _ _ _ _ _ _ _ _ _ _ _ _ _ _)
      | (with_reducible exact backoff_Idle.mono _ _ _ _ _ _ _ _ _ _ _ _ _ _ _)
      | (with_reducible exact backoff_Jitter.mono _ _ _)
      | (with_reducible exact backoff_Wait.mono _ _ _ _)
      | (with_reducible exact knelllaw23_speaks.mono _)
      | (with_reducible exact LeO.refl _)
      | (with_reducible exact LeO.none _)
      | (with_reducible refine LeO.ite ?_ ?_)
      | (with_reducible refine LeO.bind ?_ (fun _ => ?_))
      | exact ih0 _ _ _ _ _ _ _ _ _ _ _ _ _ _ _ _ _
      | exact ih1 _ _ _ _ _ _ _ _ _ _ _ _ _ _ _ _ _ _
      | exact backoff_All.mono _ _ _ _ _ _ _ _ _ _ _ _ _ _
      | exact backoff_Due.mono _ _ _ _ _ _ _ _ _ _ _ _ _ _ _ _ _
      | exact backoff_Idle.mono _ _ _ _ _ _ _ _ _ _ _ _ _ _ _
      | exact backoff_Jitter.mono _ _ _
      | exact backoff_Wait.mono _ _ _ _
      | exact knelllaw23_speaks.mono _
      | exact LeO.none _
      | refine LeO.ite ?_ ?_
      | refine LeO.bind ?_ (fun _ => ?_)
    · intro y0 y1 y2 y3 y4 y5 y6 y7 y8 y9 y10 y11 y12 y13 y14 y15 y16 y17
      unfold knelllaw23_BackoffGrows.j1
      repeat' first
      | (with_reducible exact ih0 _ _ _ _ _ _ _ _ _ _ _ _ _ _ _ _ _)
      | (with_reducible exact ih1 _ _ _ _ _ _ _ _ _ _ _ _ _ _ _ _ _ _)
      | (with_reducible exact backoff_All.mono _ _ _ _ _ _ _ _ _ _ _ _ _ _)
      | (with_reducible exact backoff_Due.mono _ _ _ _ _ _ _ _ _ _ _ _ _ _ _ _ _)
      | (with_reducible exact backoff_Idle.mono _ _ _ _ _ _ _ _ _ _ _ _ _ _ _)
      | (with_reducible exact backoff_Jitter.mono _ _ _)
      | (with_reducible exact backoff_Wait.mono _ _ _ _)
      | (with_reducible exact knelllaw23_speaks.mono _)
      | (with_reducible exact LeO.refl _)
      | (with_reducible exact LeO.none _)
      | (with_reducible refine LeO.ite ?_ ?_)
      | (with_reducible refine LeO.bind ?_ (fun _ => ?_))
      | exact ih0 _ _ _ _ _ _ _ _ _ _ _ _ _ _ _ _ _
      | exact ih1 _ _ _ _ _ _ _ _ _ _ _ _ _ _ _ _ _ _
      | exact backoff_All.mono _ _ _ _ _ _ _ _ _ _ _ _ _ _
      | exact backoff_Due.mono _ _ _ _ _ _ _ _ _ _ _ _ _ _ _ _ _
      | exact backoff_Idle.mono _ _ _ _ _ _ _ _ _ _ _ _ _ _ _
      | exact backoff_Jitter.mono _ _ _
      | exact backoff_Wait.mono _ _ _ _
      | exact knelllaw23_speaks.mono _
      | exact LeO.none _
      | refine LeO.ite ?_ ?_
      | refine LeO.bind ?_ (fun _ => ?_)
theorem knelllaw23_BackoffGrows.mono : ∀ a0 a1 a2 a3 a4 a5 a6 a7 a8 a9 a10 a11 a12 a13 a14 a15 k, LeO (knelllaw23_BackoffGrows.f k a0 a1 a2 a3 a4 a5 a6 a7 a8 a9 a10 a11 a12 a13 a14 a15) (knelllaw23_BackoffGrows.f (k + 1) a0 a1 a2 a3 a4 a5 a6 a7 a8 a9 a10 a11 a12 a13 a14 a15) := by
  intro a0 a1 a2 a3 a4 a5 a6 a7 a8 a9 a10 a11 a12 a13 a14 a15 k
  obtain ⟨ih0, ih1⟩ := knelllaw23_BackoffGrows.mono_l k
  unfold knelllaw23_BackoffGrows.f
  repeat' first
      | (with_reducible exact ih0 _ _ _ _ _ _ _ _ _ _ _ _ _ _ _ _ _)
      | (with_reducible exact ih1 _ _ _ _ _ _ _ _ _ _ _ _ _ _ _ _ _ _)
      | (with_reducible exact backoff_All.mono _ _ _ _ _ _ _ _ _ _ _ _ _ _)
      | (with_reducible exact backoff_Due.mono _ _ _ _ _ _ _ _ _ _ _ _ _ _ _ _ _)
      | (with_reducible exact backoff_Idle.mono _ _ _ _ _ _ _ _ _ _ _ _ _ _ _)
      | (with_reducible exact backoff_Jitter.mono _ _ _)
      | (with_reducible exact backoff_Wait.mono _ _ _ _)
      | (with_reducible exact knelllaw23_speaks.mono _)
      | (with_reducible exact LeO.refl _)
      | (with_reducible exact LeO.none _)
      | (with_reducible refine LeO.ite ?_ ?_)
      | (with_reducible refine LeO.bind ?_ (fun _ => ?_))
      | exact ih0 _ _ _ _ _ _ _ _ _ _ _ _ _ _ _ _ _
      | exact ih1 _ _ _ _ _ _ _ _ _ _ _ _ _ _ _ _ _ _
      | exact backoff_All.mono _ _ _ _ _ _ _ _ _ _ _ _ _ _
      | exact backoff_Due.mono _ _ _ _ _ _ _ _ _ _ _ _ _ _ _ _ _
      | exact backoff_Idle.mono _ _ _ _ _ _ _ _ _ _ _ _ _ _ _
      | exact backoff_Jitter.mono _ _ _
      | exact backoff_Wait.mono _ _ _ _
      | exact knelllaw23_speaks.mono _
      | exact LeO.none _
      | refine LeO.ite ?_ ?_
      | refine LeO.bind ?_ (fun _ => ?_)
def knelllaw23_BackoffGrows.T4 : Bool × List (List Nat × List Nat) := (true, [([], []), ([0], [0]), ([], []), ([2], [2]), ([], []), ([1, 3, 4], [1, 3, 4]), ([], []), ([6], [6]), ([], []), ([8], [8]), ([], []), ([10], [10]), ([7, 9, 11, 5], [7, 9, 11]), ([5, 12, 0, 1, 2, 3, 4, 5], [5]), ([12, 13, 0, 1, 2, 3, 4, 5, 6, 7, 8, 9, 10, 11, 12, 13], [12])])
def knelllaw23_BackoffGrows.B4 : List Nat := [0, 1, 0, 4, 0, 31, 0, 64, 0, 256, 0, 1024, 4095, 8191, 16383]
theorem knelllaw23_BackoffGrows.tab4 : rtab .any (opsOf Try.f7 4) = knelllaw23_BackoffGrows.T4 := by kernel_rfl
theorem knelllaw23_BackoffGrows.bits4 : waitsOk knelllaw23_BackoffGrows.T4.2 knelllaw23_BackoffGrows.B4 = true := by kernel_rfl
def knelllaw23_BackoffGrows.T9 : Bool × List (List Nat × List Nat) := (true, [([], []), ([], []), ([1], [1]), ([], []), ([2, 3], [2, 3]), ([], []), ([4, 5], [4, 5]), ([6], [6]), ([0, 7], [0, 7]), ([8], [8]), ([9], [9]), ([9], [9]), ([11, 9], [9, 11]), ([10, 12, 9, 9], [9, 10, 12]), ([9], [9]), ([14, 9], [9, 14]), ([13, 15, 9], [9, 13, 15]), ([9, 16], [9, 16]), ([17, 13], [17]), ([18], [18]), ([19, 18, 18], [18, 19]), ([20, 18], [18, 20]), ([18], [18]), ([22, 18], [18, 22]), ([21, 23, 18], [18, 21, 23]), ([18, 24], [18, 24]), ([25, 20, 0, 1, 2, 3, 4, 5, 6, 7, 8, 9, 10, 11, 12, 13, 14, 15, 16, 17, 18, 19, 20, 21, 22, 23, 24, 25], [25])])
def knelllaw23_BackoffGrows.B9 : List Nat := [0, 0, 2, 0, 14, 0, 62, 126, 255, 511, 1023, 1023, 3071, 8191, 1023, 17407, 65535, 131071, 262143, 524287, 1048575, 2097151, 524287, 4718591, 16777215, 33554431, 67108863]
theorem knelllaw23_BackoffGrows.tab9 : rtab .any (opsOf Try.f7 9) = knelllaw23_BackoffGrows.T9 := by kernel_rfl
theorem knelllaw23_BackoffGrows.bits9 : waitsOk knelllaw23_BackoffGrows.T9.2 knelllaw23_BackoffGrows.B9 = true := by kernel_rfl
set_option maxHeartbeats 8000000 in
set_option maxRecDepth 100000 in
theorem knelllaw23_BackoffGrows.calls (k : Nat) (a0_0 : Int) (a0_1 : Int) (a0_2 : Int) (a0_3 : Int) (a0_4 : Int) (a0_5 : Int) (a0_6 : Int) (a0_7 : Int) (a0_8 : Int) (a0_9 : Int) (a0_10 : Int) (a0_11 : Int) (a0_12 : Int) (a1 : Int) (a2 : Int) (a3 : Int) (r : Bool) (w : World) (h : knelllaw23_BackoffGrows.f k a0_0 a0_1 a0_2 a0_3 a0_4 a0_5 a0_6 a0_7 a0_8 a0_9 a0_10 a0_11 a0_12 a1 a2 a3 = some r) :
    Calls Try.prog 7 #[.agg #[.int .i64 a0_0, .int .i64 a0_1, .int .i64 a0_2, .int .i64 a0_3, .int .i64 a0_4, .int .i64 a0_5, .int .i64 a0_6, .int .i64 a0_7, .int .i64 a0_8, .int .i64 a0_9, .int .i64 a0_10, .int .i64 a0_11, .int .i64 a0_12], .int .u16 a1, .int .u16 a2, .int .u16 a3] w fun e w' => e = .returned (.bool r) ∧ Below w.heap.size w w' := by
  have hu33 := Try.underlying33
  have hu36 := Try.underlying36
  have HB := Aside0.mk (Below.refl w.heap.size w)
  have H : ((knelllaw23_speaks.f k).bind fun t225 => (if t225 = true then ((knellref03_Right.f a0_0 a0_1 a0_2 a0_3 a0_4 a0_5 a0_6 a0_7 a0_8 a0_9 a0_10 a0_11 a0_12).bind fun t226 => (knelllaw23_BackoffGrows.j0 k a1 a2 a3 (!t226) a0_0 a0_1 a0_2 a0_3 a0_4 a0_5 a0_6 a0_7 a0_8 a0_9 a0_10 a0_11 a0_12)) else (knelllaw23_BackoffGrows.j0 k a1 a2 a3 true a0_0 a0_1 a0_2 a0_3 a0_4 a0_5 a0_6 a0_7 a0_8 a0_9 a0_10 a0_11 a0_12))) = some r := h
  clear h
  have HC5 := Aside0.mk H
  clear H
  go_enter Try.func7, Try.ntmps7
  go_upto_region 1 with (first | ((with_reducible refine gate_dst (N := 4) rfl ?_); (try (refine gate_guard (by rfl) ?_; dsimp only)); refine box_event ?hg (N := 4) ?hd (cs := #[.int .i64 a0_0, .int .i64 a0_1, .int .i64 a0_2, .int .i64 a0_3, .int .i64 a0_4, .int .i64 a0_5, .int .i64 a0_6, .int .i64 a0_7, .int .i64 a0_8, .int .i64 a0_9, .int .i64 a0_10, .int .i64 a0_11, .int .i64 a0_12]) (t := 33) ?hr ?_; (case hd => rfl); (case hg => rfl); (case hr => first | (go_simp; done) | (go_simp; rfl)); intro gb224 hg w6 hbox hb; have n0_ := Aside0.mk (below_step (by repeat (first | (with_reducible first | exact HB.out | apply below_alloc | apply pw_below_drewN | apply below_drew1) | exact HB.out)) hb); have n1_ := Aside0.mk (hbox); have n2_ := Aside0.mk ((by rw [hg]; exact (below_size (by repeat (first | (with_reducible first | exact HB.out | apply below_alloc | apply pw_below_drewN | apply below_drew1) | exact HB.out))) : w.heap.size ≤ gb224)); have n3_ := Aside0.mk ((by rw [hg]; exact (below_size (by repeat (first | (with_reducible first | exact HB.out | apply below_alloc | apply pw_below_drewN | apply below_drew1) | exact HB.out))) : w.heap.size ≤ gb224)); clear HB; have HB := n0_; have BK224 := n1_; have GW224 := n2_; have GE224 := n3_; clear n0_ n1_ n2_ n3_; clear hb hbox hg))
  (try simp only [Act.put, List.setIfInBounds_toArray, List.set_cons_zero, List.set_cons_succ])
  go_cut [21] (fun v21 wc => ∃ (kq : Nat) (x21_4 : Bool), v21 = .bool x21_4 ∧ Aside0 (knelllaw23_BackoffGrows.j0 kq a1 a2 a3 x21_4 a0_0 a0_1 a0_2 a0_3 a0_4 a0_5 a0_6 a0_7 a0_8 a0_9 a0_10 a0_11 a0_12 = some r) ∧ Aside0 (kq ≤ k) ∧ Aside0 (wc.heap[gb224]? = some (.cells #[.int .i64 a0_0, .int .i64 a0_1, .int .i64 a0_2, .int .i64 a0_3, .int .i64 a0_4, .int .i64 a0_5, .int .i64 a0_6, .int .i64 a0_7, .int .i64 a0_8, .int .i64 a0_9, .int .i64 a0_10, .int .i64 a0_11, .int .i64 a0_12] 33 (0, 0))) ∧ Aside0 (Below w.heap.size w wc))
  case first =>
    have H := HC5.out
    clear HC5
    replace H := Option.bind_eq_some_iff.mp H
    obtain ⟨t225, A70, H⟩ := H
    replace H : (if t225 = true then ((knellref03_Right.f a0_0 a0_1 a0_2 a0_3 a0_4 a0_5 a0_6 a0_7 a0_8 a0_9 a0_10 a0_11 a0_12).bind fun t226 => (knelllaw23_BackoffGrows.j0 k a1 a2 a3 (!t226) a0_0 a0_1 a0_2 a0_3 a0_4 a0_5 a0_6 a0_7 a0_8 a0_9 a0_10 a0_11 a0_12)) else (knelllaw23_BackoffGrows.j0 k a1 a2 a3 true a0_0 a0_1 a0_2 a0_3 a0_4 a0_5 a0_6 a0_7 a0_8 a0_9 a0_10 a0_11 a0_12)) = some r := H
    have A7 := Aside0.mk A70
    clear A70
    by_cases c8 : t225 = true
    · subst c8
      have H1 : ((knellref03_Right.f a0_0 a0_1 a0_2 a0_3 a0_4 a0_5 a0_6 a0_7 a0_8 a0_9 a0_10 a0_11 a0_12).bind fun t226 => (knelllaw23_BackoffGrows.j0 k a1 a2 a3 (!t226) a0_0 a0_1 a0_2 a0_3 a0_4 a0_5 a0_6 a0_7 a0_8 a0_9 a0_10 a0_11 a0_12)) = some r := by rw [if_pos rfl] at H; exact H
      clear H
      have H := H1
      clear H1
      replace H := Option.bind_eq_some_iff.mp H
      obtain ⟨t226, A90, H⟩ := H
      replace H : (knelllaw23_BackoffGrows.j0 k a1 a2 a3 (!t226) a0_0 a0_1 a0_2 a0_3 a0_4 a0_5 a0_6 a0_7 a0_8 a0_9 a0_10 a0_11 a0_12) = some r := H
      have A9 := Aside0.mk A90
      clear A90
      have H' := Aside0.mk H
      clear H
      go_wp2_with (first | ((with_reducible refine gate_callee (f := 21) rfl ?_); refine goesL_ (some 15) rfl rfl Try.func21 (by kernel_rfl) rfl #[] rfl (by (try simp only [List.map_toArray, List.map_cons, List.map_nil]); first | done | rfl | (simp only [List.length_drop, List.length_take]; rfl)) ?_; (with_reducible refine (knelllaw23_speaks.calls k  true _ A7.out).mono ?_); rintro e w10 ⟨rfl, hb⟩; refine ⟨_, rfl, ?_⟩; have n0_ := Aside0.mk (blk_below (g := gb224) (o := .cells #[.int .i64 a0_0, .int .i64 a0_1, .int .i64 a0_2, .int .i64 a0_3, .int .i64 a0_4, .int .i64 a0_5, .int .i64 a0_6, .int .i64 a0_7, .int .i64 a0_8, .int .i64 a0_9, .int .i64 a0_10, .int .i64 a0_11, .int .i64 a0_12] 33 (0, 0)) (by (with_reducible repeat (first | refine blk_drewN ?_ _ | refine blk_drew ?_ | refine blk_alloc ?_ _)); exact BK224.out) hb); have n1_ := Aside0.mk (below_step (by repeat (first | (with_reducible first | exact HB.out | apply below_alloc | apply pw_below_drewN | apply below_drew1 | refine below_set ?_ GE224.out) | exact HB.out)) hb); clear BK224; clear HB; have BK224 := n0_; have HB := n1_; clear n0_ n1_; (try clear hb); (try clear hb2); (try clear hk); (try clear hi); have hcz11_0 : w10.cell? ⟨gb224, 0, none⟩ = some (.int .i64 a0_0) := (blk_cell BK224.out 0).trans rfl; have hcz11_1 : w10.cell? ⟨gb224, 1, none⟩ = some (.int .i64 a0_1) := (blk_cell BK224.out 1).trans rfl; have hcz11_2 : w10.cell? ⟨gb224, 2, none⟩ = some (.int .i64 a0_2) := (blk_cell BK224.out 2).trans rfl; have hcz11_3 : w10.cell? ⟨gb224, 3, none⟩ = some (.int .i64 a0_3) := (blk_cell BK224.out 3).trans rfl; have hcz11_4 : w10.cell? ⟨gb224, 4, none⟩ = some (.int .i64 a0_4) := (blk_cell BK224.out 4).trans rfl; have hcz11_5 : w10.cell? ⟨gb224, 5, none⟩ = some (.int .i64 a0_5) := (blk_cell BK224.out 5).trans rfl; have hcz11_6 : w10.cell? ⟨gb224, 6, none⟩ = some (.int .i64 a0_6) := (blk_cell BK224.out 6).trans rfl; have hcz11_7 : w10.cell? ⟨gb224, 7, none⟩ = some (.int .i64 a0_7) := (blk_cell BK224.out 7).trans rfl; have hcz11_8 : w10.cell? ⟨gb224, 8, none⟩ = some (.int .i64 a0_8) := (blk_cell BK224.out 8).trans rfl; have hcz11_9 : w10.cell? ⟨gb224, 9, none⟩ = some (.int .i64 a0_9) := (blk_cell BK224.out 9).trans rfl; have hcz11_10 : w10.cell? ⟨gb224, 10, none⟩ = some (.int .i64 a0_10) := (blk_cell BK224.out 10).trans rfl; have hcz11_11 : w10.cell? ⟨gb224, 11, none⟩ = some (.int .i64 a0_11) := (blk_cell BK224.out 11).trans rfl; have hcz11_12 : w10.cell? ⟨gb224, 12, none⟩ = some (.int .i64 a0_12) := (blk_cell BK224.out 12).trans rfl; have hfz11_0 := blk_frozen BK224.out 0; have hfz11_1 := blk_frozen BK224.out 1; have hfz11_2 := blk_frozen BK224.out 2; have hfz11_3 := blk_frozen BK224.out 3; have hfz11_4 := blk_frozen BK224.out 4; have hfz11_5 := blk_frozen BK224.out 5; have hfz11_6 := blk_frozen BK224.out 6; have hfz11_7 := blk_frozen BK224.out 7; have hfz11_8 := blk_frozen BK224.out 8; have hfz11_9 := blk_frozen BK224.out 9; have hfz11_10 := blk_frozen BK224.out 10; have hfz11_11 := blk_frozen BK224.out 11; have hfz11_12 := blk_frozen BK224.out 12) | (go_at_call 22; (with_reducible refine (knellref03_Right.calls a0_0 a0_1 a0_2 a0_3 a0_4 a0_5 a0_6 a0_7 a0_8 a0_9 a0_10 a0_11 a0_12 t226 _ A9.out).mono ?_); rintro e w12 ⟨rfl, hb⟩; have n0_ := Aside0.mk (blk_below (g := gb224) (o := .cells #[.int .i64 a0_0, .int .i64 a0_1, .int .i64 a0_2, .int .i64 a0_3, .int .i64 a0_4, .int .i64 a0_5, .int .i64 a0_6, .int .i64 a0_7, .int .i64 a0_8, .int .i64 a0_9, .int .i64 a0_10, .int .i64 a0_11, .int .i64 a0_12] 33 (0, 0)) (by (with_reducible repeat (first | refine blk_drewN ?_ _ | refine blk_drew ?_ | refine blk_alloc ?_ _)); exact BK224.out) hb); have n1_ := Aside0.mk (below_step (by repeat (first | (with_reducible first | exact HB.out | apply below_alloc | apply pw_below_drewN | apply below_drew1 | refine below_set ?_ GE224.out) | exact HB.out)) hb); clear BK224; clear HB; have BK224 := n0_; have HB := n1_; clear n0_ n1_; (try clear hb); (try clear hb2); (try clear hk); (try clear hi)))
      go_meet
      case rel => exact ⟨_, (!t226), (by first | rfl | (simp; done) | (simp [*]; done)), H', ⟨by first | omega | exact Nat.le_refl _⟩, ⟨by (with_reducible repeat (first | refine blk_drewN ?_ _ | refine blk_drew ?_ | refine blk_alloc ?_ _)); exact BK224.out⟩, ⟨by repeat (first | (with_reducible first | exact HB.out | apply below_alloc | apply pw_below_drewN | apply below_drew1 | refine below_set ?_ GE224.out) | exact HB.out)⟩⟩
    · replace c8 := Bool.eq_false_iff.mpr c8
      subst c8
      have H1 : (knelllaw23_BackoffGrows.j0 k a1 a2 a3 true a0_0 a0_1 a0_2 a0_3 a0_4 a0_5 a0_6 a0_7 a0_8 a0_9 a0_10 a0_11 a0_12) = some r := by rw [if_neg (show ¬ (false = true) by decide)] at H; exact H
      clear H
      have H := H1
      clear H1
      have H' := Aside0.mk H
      clear H
      go_wp2_with (first | ((with_reducible refine gate_callee (f := 21) rfl ?_); refine goesL_ (some 15) rfl rfl Try.func21 (by kernel_rfl) rfl #[] rfl (by (try simp only [List.map_toArray, List.map_cons, List.map_nil]); first | done | rfl | (simp only [List.length_drop, List.length_take]; rfl)) ?_; (with_reducible refine (knelllaw23_speaks.calls k  false _ A7.out).mono ?_); rintro e w13 ⟨rfl, hb⟩; refine ⟨_, rfl, ?_⟩; have n0_ := Aside0.mk (blk_below (g := gb224) (o := .cells #[.int .i64 a0_0, .int .i64 a0_1, .int .i64 a0_2, .int .i64 a0_3, .int .i64 a0_4, .int .i64 a0_5, .int .i64 a0_6, .int .i64 a0_7, .int .i64 a0_8, .int .i64 a0_9, .int .i64 a0_10, .int .i64 a0_11, .int .i64 a0_12] 33 (0, 0)) (by (with_reducible repeat (first | refine blk_drewN ?_ _ | refine blk_drew ?_ | refine blk_alloc ?_ _)); exact BK224.out) hb); have n1_ := Aside0.mk (below_step (by repeat (first | (with_reducible first | exact HB.out | apply below_alloc | apply pw_below_drewN | apply below_drew1 | refine below_set ?_ GE224.out) | exact HB.out)) hb); clear BK224; clear HB; have BK224 := n0_; have HB := n1_; clear n0_ n1_; (try clear hb); (try clear hb2); (try clear hk); (try clear hi)))
      go_meet
      case rel => exact ⟨_, (true), (by first | rfl | (simp; done) | (simp [*]; done)), H', ⟨by first | omega | exact Nat.le_refl _⟩, ⟨by (with_reducible repeat (first | refine blk_drewN ?_ _ | refine blk_drew ?_ | refine blk_alloc ?_ _)); exact BK224.out⟩, ⟨by repeat (first | (with_reducible first | exact HB.out | apply below_alloc | apply pw_below_drewN | apply below_drew1 | refine below_set ?_ GE224.out) | exact HB.out)⟩⟩
  case rest =>
    clear HC5
    try clear c2
    try clear p2
    try clear c7
    try clear c8
    try clear hcz11_0
    try clear hcz11_1
    try clear hcz11_10
    try clear hcz11_11
    try clear hcz11_12
    try clear hcz11_2
    try clear hcz11_3
    try clear hcz11_4
    try clear hcz11_5
    try clear hcz11_6
    try clear hcz11_7
    try clear hcz11_8
    try clear hcz11_9
    try clear hfz11_0
    try clear hfz11_1
    try clear hfz11_10
    try clear hfz11_11
    try clear hfz11_12
    try clear hfz11_2
    try clear hfz11_3
    try clear hfz11_4
    try clear hfz11_5
    try clear hfz11_6
    try clear hfz11_7
    try clear hfz11_8
    try clear hfz11_9
    obtain ⟨kq, x21_4, rfl, HA, HJ4, BK224, HB⟩ := hcut
    cases kq with
    | zero => exact absurd HA.out (by simp [knelllaw23_BackoffGrows.j0])
    | succ kj4 =>
      have H := HA.out
      clear HA
      simp only [knelllaw23_BackoffGrows.j0] at H
      by_cases c14 : x21_4 = true
      · subst c14
        have H1 : ((knelllaw23_speaks.f kj4).bind fun t227 => (some t227)) = some r := by rw [if_pos rfl] at H; exact H
        clear H
        have H := H1
        clear H1
        replace H := Option.bind_eq_some_iff.mp H
        obtain ⟨t227, A150, H⟩ := H
        replace H : (some t227) = some r := H
        have A15 := Aside0.mk A150
        clear A150
        obtain rfl := Option.some.inj H
        go_wp2_with (first | ((with_reducible refine gate_callee (f := 21) rfl ?_); refine goesL_ (some 22) rfl rfl Try.func21 (by kernel_rfl) rfl #[] rfl (by (try simp only [List.map_toArray, List.map_cons, List.map_nil]); first | done | rfl | (simp only [List.length_drop, List.length_take]; rfl)) ?_; (with_reducible refine (knelllaw23_speaks.calls kj4  t227 _ A15.out).mono ?_); rintro e w16 ⟨rfl, hb⟩; refine ⟨_, rfl, ?_⟩; have n0_ := Aside0.mk (blk_below (g := gb224) (o := .cells #[.int .i64 a0_0, .int .i64 a0_1, .int .i64 a0_2, .int .i64 a0_3, .int .i64 a0_4, .int .i64 a0_5, .int .i64 a0_6, .int .i64 a0_7, .int .i64 a0_8, .int .i64 a0_9, .int .i64 a0_10, .int .i64 a0_11, .int .i64 a0_12] 33 (0, 0)) (by (with_reducible repeat (first | refine blk_drewN ?_ _ | refine blk_drew ?_ | refine blk_alloc ?_ _)); exact BK224.out) hb); have n1_ := Aside0.mk (below_step (by repeat (first | (with_reducible first | exact HB.out | apply below_alloc | apply pw_below_drewN | apply below_drew1 | refine below_set ?_ GE224.out) | exact HB.out)) hb); clear BK224; clear HB; have BK224 := n0_; have HB := n1_; clear n0_ n1_; (try clear hb); (try clear hb2); (try clear hk); (try clear hi)))
        go_ret
        exact ⟨by first | rfl | (simp [errW_none, errW_some] <;> rfl) | (simp [*, errW_none, errW_some] <;> rfl), by repeat (first | (with_reducible first | exact HB.out | apply below_alloc | apply pw_below_drewN | apply below_drew1 | refine below_set ?_ GE224.out) | exact HB.out)⟩
      · replace c14 := Bool.eq_false_iff.mpr c14
        subst c14
        have H1 : ((knelllaw03_Of.f a0_0 a0_1 a0_2 a0_3 a0_4 a0_5 a0_6 a0_7 a0_8 a0_9 a0_10 a0_11 a0_12).bind fun bt228 => ((backoff_Wait.f kj4 bt228.2.2.2.2.2.2.2.2.2.1 bt228.2.2.2.2.2.2.2.2.2.2.1 (Int.tmod (wrap64 (a2)) 64)).bind fun t242 => ((backoff_Wait.f kj4 bt228.2.2.2.2.2.2.2.2.2.1 bt228.2.2.2.2.2.2.2.2.2.2.1 (wrap64 ((Int.tmod (wrap64 (a2)) 64) + 1))).bind fun t243 => ((backoff_Jitter.f kj4 (wrap64 (a3)) bt228.2.2.2.2.2.2.2.2.2.2.2.1).bind fun t244 => ((backoff_Due.f kj4 bt228.1 bt228.2.1 bt228.2.2.1 bt228.2.2.2.1 bt228.2.2.2.2.1 bt228.2.2.2.2.2.1 bt228.2.2.2.2.2.2.1 bt228.2.2.2.2.2.2.2.1 bt228.2.2.2.2.2.2.2.2.1 bt228.2.2.2.2.2.2.2.2.2.1 bt228.2.2.2.2.2.2.2.2.2.2.1 bt228.2.2.2.2.2.2.2.2.2.2.2.1 bt228.2.2.2.2.2.2.2.2.2.2.2.2 (wrap64 (a1)) (Int.tmod (wrap64 (a2)) 64) (wrap64 (a3))).bind fun t245 => (if t242 > t243 then (knelllaw23_BackoffGrows.j1 kj4 a1 t242 t244 t245 true bt228.1 bt228.2.1 bt228.2.2.1 bt228.2.2.2.1 bt228.2.2.2.2.1 bt228.2.2.2.2.2.1 bt228.2.2.2.2.2.2.1 bt228.2.2.2.2.2.2.2.1 bt228.2.2.2.2.2.2.2.2.1 bt228.2.2.2.2.2.2.2.2.2.1 bt228.2.2.2.2.2.2.2.2.2.2.1 bt228.2.2.2.2.2.2.2.2.2.2.2.1 bt228.2.2.2.2.2.2.2.2.2.2.2.2) else (if t243 > bt228.2.2.2.2.2.2.2.2.2.2.1 then (knelllaw23_BackoffGrows.j1 kj4 a1 t242 t244 t245 true bt228.1 bt228.2.1 bt228.2.2.1 bt228.2.2.2.1 bt228.2.2.2.2.1 bt228.2.2.2.2.2.1 bt228.2.2.2.2.2.2.1 bt228.2.2.2.2.2.2.2.1 bt228.2.2.2.2.2.2.2.2.1 bt228.2.2.2.2.2.2.2.2.2.1 bt228.2.2.2.2.2.2.2.2.2.2.1 bt228.2.2.2.2.2.2.2.2.2.2.2.1 bt228.2.2.2.2.2.2.2.2.2.2.2.2) else (if t242 < (mn bt228.2.2.2.2.2.2.2.2.2.1 bt228.2.2.2.2.2.2.2.2.2.2.1) then (knelllaw23_BackoffGrows.j1 kj4 a1 t242 t244 t245 true bt228.1 bt228.2.1 bt228.2.2.1 bt228.2.2.2.1 bt228.2.2.2.2.1 bt228.2.2.2.2.2.1 bt228.2.2.2.2.2.2.1 bt228.2.2.2.2.2.2.2.1 bt228.2.2.2.2.2.2.2.2.1 bt228.2.2.2.2.2.2.2.2.2.1 bt228.2.2.2.2.2.2.2.2.2.2.1 bt228.2.2.2.2.2.2.2.2.2.2.2.1 bt228.2.2.2.2.2.2.2.2.2.2.2.2) else (if t243 > (wrap64 (2 * t242)) then (knelllaw23_BackoffGrows.j1 kj4 a1 t242 t244 t245 true bt228.1 bt228.2.1 bt228.2.2.1 bt228.2.2.2.1 bt228.2.2.2.2.1 bt228.2.2.2.2.2.1 bt228.2.2.2.2.2.2.1 bt228.2.2.2.2.2.2.2.1 bt228.2.2.2.2.2.2.2.2.1 bt228.2.2.2.2.2.2.2.2.2.1 bt228.2.2.2.2.2.2.2.2.2.2.1 bt228.2.2.2.2.2.2.2.2.2.2.2.1 bt228.2.2.2.2.2.2.2.2.2.2.2.2) else (if t244 < 0 then (knelllaw23_BackoffGrows.j1 kj4 a1 t242 t244 t245 true bt228.1 bt228.2.1 bt228.2.2.1 bt228.2.2.2.1 bt228.2.2.2.2.1 bt228.2.2.2.2.2.1 bt228.2.2.2.2.2.2.1 bt228.2.2.2.2.2.2.2.1 bt228.2.2.2.2.2.2.2.2.1 bt228.2.2.2.2.2.2.2.2.2.1 bt228.2.2.2.2.2.2.2.2.2.2.1 bt228.2.2.2.2.2.2.2.2.2.2.2.1 bt228.2.2.2.2.2.2.2.2.2.2.2.2) else (knelllaw23_BackoffGrows.j1 kj4 a1 t242 t244 t245 (decide (t244 > bt228.2.2.2.2.2.2.2.2.2.2.2.1)) bt228.1 bt228.2.1 bt228.2.2.1 bt228.2.2.2.1 bt228.2.2.2.2.1 bt228.2.2.2.2.2.1 bt228.2.2.2.2.2.2.1 bt228.2.2.2.2.2.2.2.1 bt228.2.2.2.2.2.2.2.2.1 bt228.2.2.2.2.2.2.2.2.2.1 bt228.2.2.2.2.2.2.2.2.2.2.1 bt228.2.2.2.2.2.2.2.2.2.2.2.1 bt228.2.2.2.2.2.2.2.2.2.2.2.2))))))))))) = some r := by rw [if_neg (show ¬ (false = true) by decide)] at H; exact H
        clear H
        have H := H1
        clear H1
        replace H := Option.bind_eq_some_iff.mp H
        obtain ⟨⟨t228, t229, t230, t231, t232, t233, t234, t235, t236, t237, t238, t239, t240⟩, A170, H⟩ := H
        replace H : ((backoff_Wait.f kj4 t237 t238 (Int.tmod (wrap64 (a2)) 64)).bind fun t242 => ((backoff_Wait.f kj4 t237 t238 (wrap64 ((Int.tmod (wrap64 (a2)) 64) + 1))).bind fun t243 => ((backoff_Jitter.f kj4 (wrap64 (a3)) t239).bind fun t244 => ((backoff_Due.f kj4 t228 t229 t230 t231 t232 t233 t234 t235 t236 t237 t238 t239 t240 (wrap64 (a1)) (Int.tmod (wrap64 (a2)) 64) (wrap64 (a3))).bind fun t245 => (if t242 > t243 then (knelllaw23_BackoffGrows.j1 kj4 a1 t242 t244 t245 true t228 t229 t230 t231 t232 t233 t234 t235 t236 t237 t238 t239 t240) else (if t243 > t238 then (knelllaw23_BackoffGrows.j1 kj4 a1 t242 t244 t245 true t228 t229 t230 t231 t232 t233 t234 t235 t236 t237 t238 t239 t240) else (if t242 < (mn t237 t238) then (knelllaw23_BackoffGrows.j1 kj4 a1 t242 t244 t245 true t228 t229 t230 t231 t232 t233 t234 t235 t236 t237 t238 t239 t240) else (if t243 > (wrap64 (2 * t242)) then (knelllaw23_BackoffGrows.j1 kj4 a1 t242 t244 t245 true t228 t229 t230 t231 t232 t233 t234 t235 t236 t237 t238 t239 t240) else (if t244 < 0 then (knelllaw23_BackoffGrows.j1 kj4 a1 t242 t244 t245 true t228 t229 t230 t231 t232 t233 t234 t235 t236 t237 t238 t239 t240) else (knelllaw23_BackoffGrows.j1 kj4 a1 t242 t244 t245 (decide (t244 > t239)) t228 t229 t230 t231 t232 t233 t234 t235 t236 t237 t238 t239 t240)))))))))) = some r := H
        have A17 := Aside0.mk A170
        clear A170
        replace H := Option.bind_eq_some_iff.mp H
        obtain ⟨t242, A180, H⟩ := H
        replace H : ((backoff_Wait.f kj4 t237 t238 (wrap64 ((Int.tmod (wrap64 (a2)) 64) + 1))).bind fun t243 => ((backoff_Jitter.f kj4 (wrap64 (a3)) t239).bind fun t244 => ((backoff_Due.f kj4 t228 t229 t230 t231 t232 t233 t234 t235 t236 t237 t238 t239 t240 (wrap64 (a1)) (Int.tmod (wrap64 (a2)) 64) (wrap64 (a3))).bind fun t245 => (if t242 > t243 then (knelllaw23_BackoffGrows.j1 kj4 a1 t242 t244 t245 true t228 t229 t230 t231 t232 t233 t234 t235 t236 t237 t238 t239 t240) else (if t243 > t238 then (knelllaw23_BackoffGrows.j1 kj4 a1 t242 t244 t245 true t228 t229 t230 t231 t232 t233 t234 t235 t236 t237 t238 t239 t240) else (if t242 < (mn t237 t238) then (knelllaw23_BackoffGrows.j1 kj4 a1 t242 t244 t245 true t228 t229 t230 t231 t232 t233 t234 t235 t236 t237 t238 t239 t240) else (if t243 > (wrap64 (2 * t242)) then (knelllaw23_BackoffGrows.j1 kj4 a1 t242 t244 t245 true t228 t229 t230 t231 t232 t233 t234 t235 t236 t237 t238 t239 t240) else (if t244 < 0 then (knelllaw23_BackoffGrows.j1 kj4 a1 t242 t244 t245 true t228 t229 t230 t231 t232 t233 t234 t235 t236 t237 t238 t239 t240) else (knelllaw23_BackoffGrows.j1 kj4 a1 t242 t244 t245 (decide (t244 > t239)) t228 t229 t230 t231 t232 t233 t234 t235 t236 t237 t238 t239 t240))))))))) = some r := H
        have A18 := Aside0.mk A180
        clear A180
        replace H := Option.bind_eq_some_iff.mp H
        obtain ⟨t243, A190, H⟩ := H
        replace H : ((backoff_Jitter.f kj4 (wrap64 (a3)) t239).bind fun t244 => ((backoff_Due.f kj4 t228 t229 t230 t231 t232 t233 t234 t235 t236 t237 t238 t239 t240 (wrap64 (a1)) (Int.tmod (wrap64 (a2)) 64) (wrap64 (a3))).bind fun t245 => (if t242 > t243 then (knelllaw23_BackoffGrows.j1 kj4 a1 t242 t244 t245 true t228 t229 t230 t231 t232 t233 t234 t235 t236 t237 t238 t239 t240) else (if t243 > t238 then (knelllaw23_BackoffGrows.j1 kj4 a1 t242 t244 t245 true t228 t229 t230 t231 t232 t233 t234 t235 t236 t237 t238 t239 t240) else (if t242 < (mn t237 t238) then (knelllaw23_BackoffGrows.j1 kj4 a1 t242 t244 t245 true t228 t229 t230 t231 t232 t233 t234 t235 t236 t237 t238 t239 t240) else (if t243 > (wrap64 (2 * t242)) then (knelllaw23_BackoffGrows.j1 kj4 a1 t242 t244 t245 true t228 t229 t230 t231 t232 t233 t234 t235 t236 t237 t238 t239 t240) else (if t244 < 0 then (knelllaw23_BackoffGrows.j1 kj4 a1 t242 t244 t245 true t228 t229 t230 t231 t232 t233 t234 t235 t236 t237 t238 t239 t240) else (knelllaw23_BackoffGrows.j1 kj4 a1 t242 t244 t245 (decide (t244 > t239)) t228 t229 t230 t231 t232 t233 t234 t235 t236 t237 t238 t239 t240)))))))) = some r := H
        have A19 := Aside0.mk A190
        clear A190
        replace H := Option.bind_eq_some_iff.mp H
        obtain ⟨t244, A200, H⟩ := H
        replace H : ((backoff_Due.f kj4 t228 t229 t230 t231 t232 t233 t234 t235 t236 t237 t238 t239 t240 (wrap64 (a1)) (Int.tmod (wrap64 (a2)) 64) (wrap64 (a3))).bind fun t245 => (if t242 > t243 then (knelllaw23_BackoffGrows.j1 kj4 a1 t242 t244 t245 true t228 t229 t230 t231 t232 t233 t234 t235 t236 t237 t238 t239 t240) else (if t243 > t238 then (knelllaw23_BackoffGrows.j1 kj4 a1 t242 t244 t245 true t228 t229 t230 t231 t232 t233 t234 t235 t236 t237 t238 t239 t240) else (if t242 < (mn t237 t238) then (knelllaw23_BackoffGrows.j1 kj4 a1 t242 t244 t245 true t228 t229 t230 t231 t232 t233 t234 t235 t236 t237 t238 t239 t240) else (if t243 > (wrap64 (2 * t242)) then (knelllaw23_BackoffGrows.j1 kj4 a1 t242 t244 t245 true t228 t229 t230 t231 t232 t233 t234 t235 t236 t237 t238 t239 t240) else (if t244 < 0 then (knelllaw23_BackoffGrows.j1 kj4 a1 t242 t244 t245 true t228 t229 t230 t231 t232 t233 t234 t235 t236 t237 t238 t239 t240) else (knelllaw23_BackoffGrows.j1 kj4 a1 t242 t244 t245 (decide (t244 > t239)) t228 t229 t230 t231 t232 t233 t234 t235 t236 t237 t238 t239 t240))))))) = some r := H
        have A20 := Aside0.mk A200
        clear A200
        replace H := Option.bind_eq_some_iff.mp H
        obtain ⟨t245, A210, H⟩ := H
        replace H : (if t242 > t243 then (knelllaw23_BackoffGrows.j1 kj4 a1 t242 t244 t245 true t228 t229 t230 t231 t232 t233 t234 t235 t236 t237 t238 t239 t240) else (if t243 > t238 then (knelllaw23_BackoffGrows.j1 kj4 a1 t242 t244 t245 true t228 t229 t230 t231 t232 t233 t234 t235 t236 t237 t238 t239 t240) else (if t242 < (mn t237 t238) then (knelllaw23_BackoffGrows.j1 kj4 a1 t242 t244 t245 true t228 t229 t230 t231 t232 t233 t234 t235 t236 t237 t238 t239 t240) else (if t243 > (wrap64 (2 * t242)) then (knelllaw23_BackoffGrows.j1 kj4 a1 t242 t244 t245 true t228 t229 t230 t231 t232 t233 t234 t235 t236 t237 t238 t239 t240) else (if t244 < 0 then (knelllaw23_BackoffGrows.j1 kj4 a1 t242 t244 t245 true t228 t229 t230 t231 t232 t233 t234 t235 t236 t237 t238 t239 t240) else (knelllaw23_BackoffGrows.j1 kj4 a1 t242 t244 t245 (decide (t244 > t239)) t228 t229 t230 t231 t232 t233 t234 t235 t236 t237 t238 t239 t240)))))) = some r := H
        have A21 := Aside0.mk A210
        clear A210
        have HC22 := Aside0.mk H
        clear H
        have hcz23_0 : wc.cell? ⟨gb224, 0, none⟩ = some (.int .i64 a0_0) := (blk_cell BK224.out 0).trans rfl
        have hcz23_1 : wc.cell? ⟨gb224, 1, none⟩ = some (.int .i64 a0_1) := (blk_cell BK224.out 1).trans rfl
        have hcz23_2 : wc.cell? ⟨gb224, 2, none⟩ = some (.int .i64 a0_2) := (blk_cell BK224.out 2).trans rfl
        have hcz23_3 : wc.cell? ⟨gb224, 3, none⟩ = some (.int .i64 a0_3) := (blk_cell BK224.out 3).trans rfl
        have hcz23_4 : wc.cell? ⟨gb224, 4, none⟩ = some (.int .i64 a0_4) := (blk_cell BK224.out 4).trans rfl
        have hcz23_5 : wc.cell? ⟨gb224, 5, none⟩ = some (.int .i64 a0_5) := (blk_cell BK224.out 5).trans rfl
        have hcz23_6 : wc.cell? ⟨gb224, 6, none⟩ = some (.int .i64 a0_6) := (blk_cell BK224.out 6).trans rfl
        have hcz23_7 : wc.cell? ⟨gb224, 7, none⟩ = some (.int .i64 a0_7) := (blk_cell BK224.out 7).trans rfl
        have hcz23_8 : wc.cell? ⟨gb224, 8, none⟩ = some (.int .i64 a0_8) := (blk_cell BK224.out 8).trans rfl
        have hcz23_9 : wc.cell? ⟨gb224, 9, none⟩ = some (.int .i64 a0_9) := (blk_cell BK224.out 9).trans rfl
        have hcz23_10 : wc.cell? ⟨gb224, 10, none⟩ = some (.int .i64 a0_10) := (blk_cell BK224.out 10).trans rfl
        have hcz23_11 : wc.cell? ⟨gb224, 11, none⟩ = some (.int .i64 a0_11) := (blk_cell BK224.out 11).trans rfl
        have hcz23_12 : wc.cell? ⟨gb224, 12, none⟩ = some (.int .i64 a0_12) := (blk_cell BK224.out 12).trans rfl
        have hfz23_0 := blk_frozen BK224.out 0
        have hfz23_1 := blk_frozen BK224.out 1
        have hfz23_2 := blk_frozen BK224.out 2
        have hfz23_3 := blk_frozen BK224.out 3
        have hfz23_4 := blk_frozen BK224.out 4
        have hfz23_5 := blk_frozen BK224.out 5
        have hfz23_6 := blk_frozen BK224.out 6
        have hfz23_7 := blk_frozen BK224.out 7
        have hfz23_8 := blk_frozen BK224.out 8
        have hfz23_9 := blk_frozen BK224.out 9
        have hfz23_10 := blk_frozen BK224.out 10
        have hfz23_11 := blk_frozen BK224.out 11
        have hfz23_12 := blk_frozen BK224.out 12
        try go_wp2_with (first | ((with_reducible refine gate_callee (f := 23) rfl ?_); refine goesL_ (some 24) rfl rfl Try.func23 (by kernel_rfl) rfl #[.agg #[.int .i64 a0_0, .int .i64 a0_1, .int .i64 a0_2, .int .i64 a0_3, .int .i64 a0_4, .int .i64 a0_5, .int .i64 a0_6, .int .i64 a0_7, .int .i64 a0_8, .int .i64 a0_9, .int .i64 a0_10, .int .i64 a0_11, .int .i64 a0_12]] rfl (by (try simp only [List.map_toArray, List.map_cons, List.map_nil]); first | done | rfl | (simp only [List.length_drop, List.length_take]; rfl)) ?_; (with_reducible refine (knelllaw03_Of.calls a0_0 a0_1 a0_2 a0_3 a0_4 a0_5 a0_6 a0_7 a0_8 a0_9 a0_10 a0_11 a0_12 t228 t229 t230 t231 t232 t233 t234 t235 t236 t237 t238 t239 t240 _ A17.out).mono ?_); rintro e w24 ⟨rfl, hb⟩; refine ⟨_, rfl, ?_⟩; have n0_ := Aside0.mk (blk_below (g := gb224) (o := .cells #[.int .i64 a0_0, .int .i64 a0_1, .int .i64 a0_2, .int .i64 a0_3, .int .i64 a0_4, .int .i64 a0_5, .int .i64 a0_6, .int .i64 a0_7, .int .i64 a0_8, .int .i64 a0_9, .int .i64 a0_10, .int .i64 a0_11, .int .i64 a0_12] 33 (0, 0)) (by (with_reducible repeat (first | refine blk_drewN ?_ _ | refine blk_drew ?_ | refine blk_alloc ?_ _)); exact BK224.out) hb); have n1_ := Aside0.mk (below_step (by repeat (first | (with_reducible first | exact HB.out | apply below_alloc | apply pw_below_drewN | apply below_drew1 | refine below_set ?_ GE224.out) | exact HB.out)) hb); clear BK224; clear HB; have BK224 := n0_; have HB := n1_; clear n0_ n1_; (try clear hb); (try clear hb2); (try clear hk); (try clear hi)) | ((with_reducible refine gate_dst (N := 9) rfl ?_); (try (refine gate_guard (by rfl) ?_; dsimp only)); refine box_event ?hg (N := 9) ?hd (cs := #[.int .i64 0, .int .i64 0, .int .i64 0, .int .i64 0, .int .i64 0, .int .i64 0, .int .i64 0, .int .i64 0, .int .i64 0, .int .i64 0, .int .i64 0, .int .i64 0, .int .i64 0]) (t := 36) ?hr ?_; (case hd => rfl); (case hg => rfl); (case hr => first | (go_simp; done) | (go_simp; rfl)); intro gb241 hg w25 hbox hb; have n0_ := Aside0.mk (blk_below (g := gb224) (o := .cells #[.int .i64 a0_0, .int .i64 a0_1, .int .i64 a0_2, .int .i64 a0_3, .int .i64 a0_4, .int .i64 a0_5, .int .i64 a0_6, .int .i64 a0_7, .int .i64 a0_8, .int .i64 a0_9, .int .i64 a0_10, .int .i64 a0_11, .int .i64 a0_12] 33 (0, 0)) (by (with_reducible repeat (first | refine blk_drewN ?_ _ | refine blk_drew ?_ | refine blk_alloc ?_ _)); exact BK224.out) hb); have n1_ := Aside0.mk (below_step (by repeat (first | (with_reducible first | exact HB.out | apply below_alloc | apply pw_below_drewN | apply below_drew1 | refine below_set ?_ GE224.out) | exact HB.out)) hb); have n2_ := Aside0.mk (hbox); have n3_ := Aside0.mk ((by rw [hg]; exact (below_size (by repeat (first | (with_reducible first | exact HB.out | apply below_alloc | apply pw_below_drewN | apply below_drew1 | refine below_set ?_ GE224.out) | exact HB.out))) : w.heap.size ≤ gb241)); have n4_ := Aside0.mk ((by rw [hg]; exact (below_size (by repeat (first | (with_reducible first | exact HB.out | apply below_alloc | apply pw_below_drewN | apply below_drew1 | refine below_set ?_ GE224.out) | exact HB.out))) : w.heap.size ≤ gb241)); have n5_ := Aside0.mk ((by rw [hg]; exact Nat.ne_of_lt (blk_lt (g := gb224) (o := .cells #[.int .i64 a0_0, .int .i64 a0_1, .int .i64 a0_2, .int .i64 a0_3, .int .i64 a0_4, .int .i64 a0_5, .int .i64 a0_6, .int .i64 a0_7, .int .i64 a0_8, .int .i64 a0_9, .int .i64 a0_10, .int .i64 a0_11, .int .i64 a0_12] 33 (0, 0)) (by (with_reducible repeat (first | refine blk_drewN ?_ _ | refine blk_drew ?_ | refine blk_alloc ?_ _)); exact BK224.out)) : gb224 ≠ gb241)); have n6_ := Aside0.mk ((by rw [hg]; exact Nat.ne_of_gt (blk_lt (g := gb224) (o := .cells #[.int .i64 a0_0, .int .i64 a0_1, .int .i64 a0_2, .int .i64 a0_3, .int .i64 a0_4, .int .i64 a0_5, .int .i64 a0_6, .int .i64 a0_7, .int .i64 a0_8, .int .i64 a0_9, .int .i64 a0_10, .int .i64 a0_11, .int .i64 a0_12] 33 (0, 0)) (by (with_reducible repeat (first | refine blk_drewN ?_ _ | refine blk_drew ?_ | refine blk_alloc ?_ _)); exact BK224.out)) : gb241 ≠ gb224)); clear BK224; clear HB; have BK224 := n0_; have HB := n1_; have BK241 := n2_; have GW241 := n3_; have GE241 := n4_; have NB224_241 := n5_; have NB241_224 := n6_; clear n0_ n1_ n2_ n3_ n4_ n5_ n6_; clear hb hbox hg; have hnb26 := NB241_224.out; have hnc26 := NB224_241.out; have hcz27_0 : w25.cell? ⟨gb241, 0, none⟩ = some (.int .i64 0) := (blk_cell BK241.out 0).trans rfl; have hcz27_1 : w25.cell? ⟨gb241, 1, none⟩ = some (.int .i64 0) := (blk_cell BK241.out 1).trans rfl; have hcz27_2 : w25.cell? ⟨gb241, 2, none⟩ = some (.int .i64 0) := (blk_cell BK241.out 2).trans rfl; have hcz27_3 : w25.cell? ⟨gb241, 3, none⟩ = some (.int .i64 0) := (blk_cell BK241.out 3).trans rfl; have hcz27_4 : w25.cell? ⟨gb241, 4, none⟩ = some (.int .i64 0) := (blk_cell BK241.out 4).trans rfl; have hcz27_5 : w25.cell? ⟨gb241, 5, none⟩ = some (.int .i64 0) := (blk_cell BK241.out 5).trans rfl; have hcz27_6 : w25.cell? ⟨gb241, 6, none⟩ = some (.int .i64 0) := (blk_cell BK241.out 6).trans rfl; have hcz27_7 : w25.cell? ⟨gb241, 7, none⟩ = some (.int .i64 0) := (blk_cell BK241.out 7).trans rfl; have hcz27_8 : w25.cell? ⟨gb241, 8, none⟩ = some (.int .i64 0) := (blk_cell BK241.out 8).trans rfl; have hcz27_9 : w25.cell? ⟨gb241, 9, none⟩ = some (.int .i64 0) := (blk_cell BK241.out 9).trans rfl; have hcz27_10 : w25.cell? ⟨gb241, 10, none⟩ = some (.int .i64 0) := (blk_cell BK241.out 10).trans rfl; have hcz27_11 : w25.cell? ⟨gb241, 11, none⟩ = some (.int .i64 0) := (blk_cell BK241.out 11).trans rfl; have hcz27_12 : w25.cell? ⟨gb241, 12, none⟩ = some (.int .i64 0) := (blk_cell BK241.out 12).trans rfl; have hfz27_0 := blk_frozen BK241.out 0; have hfz27_1 := blk_frozen BK241.out 1; have hfz27_2 := blk_frozen BK241.out 2; have hfz27_3 := blk_frozen BK241.out 3; have hfz27_4 := blk_frozen BK241.out 4; have hfz27_5 := blk_frozen BK241.out 5; have hfz27_6 := blk_frozen BK241.out 6; have hfz27_7 := blk_frozen BK241.out 7; have hfz27_8 := blk_frozen BK241.out 8; have hfz27_9 := blk_frozen BK241.out 9; have hfz27_10 := blk_frozen BK241.out 10; have hfz27_11 := blk_frozen BK241.out 11; have hfz27_12 := blk_frozen BK241.out 12))
        have n0_ : Aside0 ((((((((((((((w25.setCell ⟨gb241, 0, none⟩ (.int .i64 t228)).setCell ⟨gb241, 1, none⟩ (.int .i64 t229)).setCell ⟨gb241, 2, none⟩ (.int .i64 t230)).setCell ⟨gb241, 3, none⟩ (.int .i64 t231)).setCell ⟨gb241, 4, none⟩ (.int .i64 t232)).setCell ⟨gb241, 5, none⟩ (.int .i64 t233)).setCell ⟨gb241, 6, none⟩ (.int .i64 t234)).setCell ⟨gb241, 7, none⟩ (.int .i64 t235)).setCell ⟨gb241, 8, none⟩ (.int .i64 t236)).setCell ⟨gb241, 9, none⟩ (.int .i64 t237)).setCell ⟨gb241, 10, none⟩ (.int .i64 t238)).setCell ⟨gb241, 11, none⟩ (.int .i64 t239)).setCell ⟨gb241, 12, none⟩ (.int .i64 t240)).heap[gb224]? = some (.cells #[.int .i64 a0_0, .int .i64 a0_1, .int .i64 a0_2, .int .i64 a0_3, .int .i64 a0_4, .int .i64 a0_5, .int .i64 a0_6, .int .i64 a0_7, .int .i64 a0_8, .int .i64 a0_9, .int .i64 a0_10, .int .i64 a0_11, .int .i64 a0_12] 33 (0, 0))) := ⟨by (with_reducible repeat (first | refine blk_drewN ?_ _ | refine blk_drew ?_ | refine blk_alloc ?_ _)); refine blk_far ?_ NB224_241.out _; (with_reducible repeat (first | refine blk_drewN ?_ _ | refine blk_drew ?_ | refine blk_alloc ?_ _)); refine blk_far ?_ NB224_241.out _; (with_reducible repeat (first | refine blk_drewN ?_ _ | refine blk_drew ?_ | refine blk_alloc ?_ _)); refine blk_far ?_ NB224_241.out _; (with_reducible repeat (first | refine blk_drewN ?_ _ | refine blk_drew ?_ | refine blk_alloc ?_ _)); refine blk_far ?_ NB224_241.out _; (with_reducible repeat (first | refine blk_drewN ?_ _ | refine blk_drew ?_ | refine blk_alloc ?_ _)); refine blk_far ?_ NB224_241.out _; (with_reducible repeat (first | refine blk_drewN ?_ _ | refine blk_drew ?_ | refine blk_alloc ?_ _)); refine blk_far ?_ NB224_241.out _; (with_reducible repeat (first | refine blk_drewN ?_ _ | refine blk_drew ?_ | refine blk_alloc ?_ _)); refine blk_far ?_ NB224_241.out _; (with_reducible repeat (first | refine blk_drewN ?_ _ | refine blk_drew ?_ | refine blk_alloc ?_ _)); refine blk_far ?_ NB224_241.out _; (with_reducible repeat (first | refine blk_drewN ?_ _ | refine blk_drew ?_ | refine blk_alloc ?_ _)); refine blk_far ?_ NB224_241.out _; (with_reducible repeat (first | refine blk_drewN ?_ _ | refine blk_drew ?_ | refine blk_alloc ?_ _)); refine blk_far ?_ NB224_241.out _; (with_reducible repeat (first | refine blk_drewN ?_ _ | refine blk_drew ?_ | refine blk_alloc ?_ _)); refine blk_far ?_ NB224_241.out _; (with_reducible repeat (first | refine blk_drewN ?_ _ | refine blk_drew ?_ | refine blk_alloc ?_ _)); refine blk_far ?_ NB224_241.out _; (with_reducible repeat (first | refine blk_drewN ?_ _ | refine blk_drew ?_ | refine blk_alloc ?_ _)); refine blk_far ?_ NB224_241.out _; (with_reducible repeat (first | refine blk_drewN ?_ _ | refine blk_drew ?_ | refine blk_alloc ?_ _)); exact BK224.out⟩
        have n1_ : Aside0 ((((((((((((((w25.setCell ⟨gb241, 0, none⟩ (.int .i64 t228)).setCell ⟨gb241, 1, none⟩ (.int .i64 t229)).setCell ⟨gb241, 2, none⟩ (.int .i64 t230)).setCell ⟨gb241, 3, none⟩ (.int .i64 t231)).setCell ⟨gb241, 4, none⟩ (.int .i64 t232)).setCell ⟨gb241, 5, none⟩ (.int .i64 t233)).setCell ⟨gb241, 6, none⟩ (.int .i64 t234)).setCell ⟨gb241, 7, none⟩ (.int .i64 t235)).setCell ⟨gb241, 8, none⟩ (.int .i64 t236)).setCell ⟨gb241, 9, none⟩ (.int .i64 t237)).setCell ⟨gb241, 10, none⟩ (.int .i64 t238)).setCell ⟨gb241, 11, none⟩ (.int .i64 t239)).setCell ⟨gb241, 12, none⟩ (.int .i64 t240)).heap[gb241]? = some (.cells #[.int .i64 t228, .int .i64 t229, .int .i64 t230, .int .i64 t231, .int .i64 t232, .int .i64 t233, .int .i64 t234, .int .i64 t235, .int .i64 t236, .int .i64 t237, .int .i64 t238, .int .i64 t239, .int .i64 t240] 36 (0, 0))) := ⟨by (with_reducible repeat (first | refine blk_drewN ?_ _ | refine blk_drew ?_ | refine blk_alloc ?_ _)); refine blk_put (cs := #[.int .i64 t228, .int .i64 t229, .int .i64 t230, .int .i64 t231, .int .i64 t232, .int .i64 t233, .int .i64 t234, .int .i64 t235, .int .i64 t236, .int .i64 t237, .int .i64 t238, .int .i64 t239, .int .i64 0]) ?_ 12 _ rfl; (with_reducible repeat (first | refine blk_drewN ?_ _ | refine blk_drew ?_ | refine blk_alloc ?_ _)); refine blk_put (cs := #[.int .i64 t228, .int .i64 t229, .int .i64 t230, .int .i64 t231, .int .i64 t232, .int .i64 t233, .int .i64 t234, .int .i64 t235, .int .i64 t236, .int .i64 t237, .int .i64 t238, .int .i64 0, .int .i64 0]) ?_ 11 _ rfl; (with_reducible repeat (first | refine blk_drewN ?_ _ | refine blk_drew ?_ | refine blk_alloc ?_ _)); refine blk_put (cs := #[.int .i64 t228, .int .i64 t229, .int .i64 t230, .int .i64 t231, .int .i64 t232, .int .i64 t233, .int .i64 t234, .int .i64 t235, .int .i64 t236, .int .i64 t237, .int .i64 0, .int .i64 0, .int .i64 0]) ?_ 10 _ rfl; (with_reducible repeat (first | refine blk_drewN ?_ _ | refine blk_drew ?_ | refine blk_alloc ?_ _)); refine blk_put (cs := #[.int .i64 t228, .int .i64 t229, .int .i64 t230, .int .i64 t231, .int .i64 t232, .int .i64 t233, .int .i64 t234, .int .i64 t235, .int .i64 t236, .int .i64 0, .int .i64 0, .int .i64 0, .int .i64 0]) ?_ 9 _ rfl; (with_reducible repeat (first | refine blk_drewN ?_ _ | refine blk_drew ?_ | refine blk_alloc ?_ _)); refine blk_put (cs := #[.int .i64 t228, .int .i64 t229, .int .i64 t230, .int .i64 t231, .int .i64 t232, .int .i64 t233, .int .i64 t234, .int .i64 t235, .int .i64 0, .int .i64 0, .int .i64 0, .int .i64 0, .int .i64 0]) ?_ 8 _ rfl; (with_reducible repeat (first | refine blk_drewN ?_ _ | refine blk_drew ?_ | refine blk_alloc ?_ _)); refine blk_put (cs := #[.int .i64 t228, .int .i64 t229, .int .i64 t230, .int .i64 t231, .int .i64 t232, .int .i64 t233, .int .i64 t234, .int .i64 0, .int .i64 0, .int .i64 0, .int .i64 0, .int .i64 0, .int .i64 0]) ?_ 7 _ rfl; (with_reducible repeat (first | refine blk_drewN ?_ _ | refine blk_drew ?_ | refine blk_alloc ?_ _)); refine blk_put (cs := #[.int .i64 t228, .int .i64 t229, .int .i64 t230, .int .i64 t231, .int .i64 t232, .int .i64 t233, .int .i64 0, .int .i64 0, .int .i64 0, .int .i64 0, .int .i64 0, .int .i64 0, .int .i64 0]) ?_ 6 _ rfl; (with_reducible repeat (first | refine blk_drewN ?_ _ | refine blk_drew ?_ | refine blk_alloc ?_ _)); refine blk_put (cs := #[.int .i64 t228, .int .i64 t229, .int .i64 t230, .int .i64 t231, .int .i64 t232, .int .i64 0, .int .i64 0, .int .i64 0, .int .i64 0, .int .i64 0, .int .i64 0, .int .i64 0, .int .i64 0]) ?_ 5 _ rfl; (with_reducible repeat (first | refine blk_drewN ?_ _ | refine blk_drew ?_ | refine blk_alloc ?_ _)); refine blk_put (cs := #[.int .i64 t228, .int .i64 t229, .int .i64 t230, .int .i64 t231, .int .i64 0, .int .i64 0, .int .i64 0, .int .i64 0, .int .i64 0, .int .i64 0, .int .i64 0, .int .i64 0, .int .i64 0]) ?_ 4 _ rfl; (with_reducible repeat (first | refine blk_drewN ?_ _ | refine blk_drew ?_ | refine blk_alloc ?_ _)); refine blk_put (cs := #[.int .i64 t228, .int .i64 t229, .int .i64 t230, .int .i64 0, .int .i64 0, .int .i64 0, .int .i64 0, .int .i64 0, .int .i64 0, .int .i64 0, .int .i64 0, .int .i64 0, .int .i64 0]) ?_ 3 _ rfl; (with_reducible repeat (first | refine blk_drewN ?_ _ | refine blk_drew ?_ | refine blk_alloc ?_ _)); refine blk_put (cs := #[.int .i64 t228, .int .i64 t229, .int .i64 0, .int .i64 0, .int .i64 0, .int .i64 0, .int .i64 0, .int .i64 0, .int .i64 0, .int .i64 0, .int .i64 0, .int .i64 0, .int .i64 0]) ?_ 2 _ rfl; (with_reducible repeat (first | refine blk_drewN ?_ _ | refine blk_drew ?_ | refine blk_alloc ?_ _)); refine blk_put (cs := #[.int .i64 t228, .int .i64 0, .int .i64 0, .int .i64 0, .int .i64 0, .int .i64 0, .int .i64 0, .int .i64 0, .int .i64 0, .int .i64 0, .int .i64 0, .int .i64 0, .int .i64 0]) ?_ 1 _ rfl; (with_reducible repeat (first | refine blk_drewN ?_ _ | refine blk_drew ?_ | refine blk_alloc ?_ _)); refine blk_put (cs := #[.int .i64 0, .int .i64 0, .int .i64 0, .int .i64 0, .int .i64 0, .int .i64 0, .int .i64 0, .int .i64 0, .int .i64 0, .int .i64 0, .int .i64 0, .int .i64 0, .int .i64 0]) ?_ 0 _ rfl; (with_reducible repeat (first | refine blk_drewN ?_ _ | refine blk_drew ?_ | refine blk_alloc ?_ _)); exact BK241.out⟩
        have n2_ : Aside0 (Below w.heap.size w (((((((((((((w25.setCell ⟨gb241, 0, none⟩ (.int .i64 t228)).setCell ⟨gb241, 1, none⟩ (.int .i64 t229)).setCell ⟨gb241, 2, none⟩ (.int .i64 t230)).setCell ⟨gb241, 3, none⟩ (.int .i64 t231)).setCell ⟨gb241, 4, none⟩ (.int .i64 t232)).setCell ⟨gb241, 5, none⟩ (.int .i64 t233)).setCell ⟨gb241, 6, none⟩ (.int .i64 t234)).setCell ⟨gb241, 7, none⟩ (.int .i64 t235)).setCell ⟨gb241, 8, none⟩ (.int .i64 t236)).setCell ⟨gb241, 9, none⟩ (.int .i64 t237)).setCell ⟨gb241, 10, none⟩ (.int .i64 t238)).setCell ⟨gb241, 11, none⟩ (.int .i64 t239)).setCell ⟨gb241, 12, none⟩ (.int .i64 t240))) := ⟨by repeat (first | (with_reducible first | exact HB.out | apply below_alloc | apply pw_below_drewN | apply below_drew1 | refine below_set ?_ GE224.out | refine below_set ?_ GE241.out) | exact HB.out)⟩
        (try clear BK224)
        (try clear BK241)
        (try clear HB)
        generalize (((((((((((((w25.setCell ⟨gb241, 0, none⟩ (.int .i64 t228)).setCell ⟨gb241, 1, none⟩ (.int .i64 t229)).setCell ⟨gb241, 2, none⟩ (.int .i64 t230)).setCell ⟨gb241, 3, none⟩ (.int .i64 t231)).setCell ⟨gb241, 4, none⟩ (.int .i64 t232)).setCell ⟨gb241, 5, none⟩ (.int .i64 t233)).setCell ⟨gb241, 6, none⟩ (.int .i64 t234)).setCell ⟨gb241, 7, none⟩ (.int .i64 t235)).setCell ⟨gb241, 8, none⟩ (.int .i64 t236)).setCell ⟨gb241, 9, none⟩ (.int .i64 t237)).setCell ⟨gb241, 10, none⟩ (.int .i64 t238)).setCell ⟨gb241, 11, none⟩ (.int .i64 t239)).setCell ⟨gb241, 12, none⟩ (.int .i64 t240)) = w28 at n0_ n1_ n2_ ⊢
        have BK224 := n0_
        have BK241 := n1_
        have HB := n2_
        clear n0_ n1_ n2_
        have n0_ := Aside0.mk (blk_drew BK224.out)
        have n1_ := Aside0.mk (blk_drew BK241.out)
        have n2_ := Aside0.mk (below_drew1 HB.out)
        clear BK224
        clear BK241
        clear HB
        have BK224 := n0_
        have BK241 := n1_
        have HB := n2_
        clear n0_ n1_ n2_
        refine start_ (n := 15) (S := fun w' => w'.cell? ⟨gb241, 0, none⟩ = some (.int .i64 t228) ∧ w'.cell? ⟨gb241, 1, none⟩ = some (.int .i64 t229) ∧ w'.cell? ⟨gb241, 2, none⟩ = some (.int .i64 t230) ∧ w'.cell? ⟨gb241, 3, none⟩ = some (.int .i64 t231) ∧ w'.cell? ⟨gb241, 4, none⟩ = some (.int .i64 t232) ∧ w'.cell? ⟨gb241, 5, none⟩ = some (.int .i64 t233) ∧ w'.cell? ⟨gb241, 6, none⟩ = some (.int .i64 t234) ∧ w'.cell? ⟨gb241, 7, none⟩ = some (.int .i64 t235) ∧ w'.cell? ⟨gb241, 8, none⟩ = some (.int .i64 t236) ∧ w'.cell? ⟨gb241, 9, none⟩ = some (.int .i64 t237) ∧ w'.cell? ⟨gb241, 10, none⟩ = some (.int .i64 t238) ∧ w'.cell? ⟨gb241, 11, none⟩ = some (.int .i64 t239) ∧ w'.cell? ⟨gb241, 12, none⟩ = some (.int .i64 t240)) (ds := []) #[false, false, false, false, false, false, false, false, false, false, false, false, false, false, false] (by kernel_rfl) rfl rfl ⟨(blk_cell BK241.out 0).trans rfl, (blk_cell BK241.out 1).trans rfl, (blk_cell BK241.out 2).trans rfl, (blk_cell BK241.out 3).trans rfl, (blk_cell BK241.out 4).trans rfl, (blk_cell BK241.out 5).trans rfl, (blk_cell BK241.out 6).trans rfl, (blk_cell BK241.out 7).trans rfl, (blk_cell BK241.out 8).trans rfl, (blk_cell BK241.out 9).trans rfl, (blk_cell BK241.out 10).trans rfl, (blk_cell BK241.out 11).trans rfl, (blk_cell BK241.out 12).trans rfl⟩ (fun hHeld => ?_); refine with_tabW knelllaw23_BackoffGrows.tab4 knelllaw23_BackoffGrows.bits4 (fun HT_ HW_ => ?_)
        generalize w28.drew = w29 at BK224 BK241 HB hHeld ⊢
        refine pure_ (i := 0) (N := some 28) (v := ?_) (a' := ?_) #[true, false, false, false, false, false, false, false, false, false, false, false, false, false, false] rfl rfl (any_of HT_.out (by kernel_rfl)) (fun _ _ _ h => h) (Or.inl ⟨by rfl, ?_⟩) ?_ ?_
        rotate_left
        · intro w'
          go_simp
          with_reducible rfl
        rotate_left
        · simp only [Act.put, List.setIfInBounds_toArray, List.set_cons_zero, List.set_cons_succ, i64_w, i32_w]
          rfl
        refine pure_ (i := 2) (N := some 30) (v := ?_) (a' := ?_) #[true, false, true, false, false, false, false, false, false, false, false, false, false, false, false] rfl rfl (any_of HT_.out (by kernel_rfl)) (fun _ _ _ h => h) (Or.inl ⟨by rfl, ?_⟩) ?_ ?_
        rotate_left
        · intro w'
          go_simp
          with_reducible rfl
        rotate_left
        · simp only [Act.put, List.setIfInBounds_toArray, List.set_cons_zero, List.set_cons_succ, i64_w, i32_w]
          rfl
        refine pure_ (i := 4) (N := some 32) (v := ?_) (a' := ?_) #[true, false, true, false, true, false, false, false, false, false, false, false, false, false, false] rfl rfl (any_of HT_.out (by kernel_rfl)) (fun _ _ _ h => h) (Or.inl ⟨by rfl, ?_⟩) ?_ ?_
        rotate_left
        · intro w'
          go_simp
          with_reducible rfl
        rotate_left
        · simp only [Act.put, List.setIfInBounds_toArray, List.set_cons_zero, List.set_cons_succ, i64_w, i32_w]
          rfl
        refine pure_ (i := 6) (N := some 34) (v := ?_) (a' := ?_) #[true, false, true, false, true, false, true, false, false, false, false, false, false, false, false] rfl rfl (any_of HT_.out (by kernel_rfl)) (fun _ _ _ h => h) (Or.inl ⟨by rfl, ?_⟩) ?_ ?_
        rotate_left
        · intro w'
          go_simp
          with_reducible rfl
        rotate_left
        · simp only [Act.put, List.setIfInBounds_toArray, List.set_cons_zero, List.set_cons_succ, i64_w, i32_w]
          rfl
        refine pure_ (i := 8) (N := some 36) (v := ?_) (a' := ?_) #[true, false, true, false, true, false, true, false, true, false, false, false, false, false, false] rfl rfl (any_of HT_.out (by kernel_rfl)) (fun _ _ _ h => h) (Or.inl ⟨by rfl, ?_⟩) ?_ ?_
        rotate_left
        · intro w'
          go_simp
          with_reducible rfl
        rotate_left
        · simp only [Act.put, List.setIfInBounds_toArray, List.set_cons_zero, List.set_cons_succ, i64_w, i32_w]
          rfl
        refine pure_ (i := 10) (N := some 38) (v := ?_) (a' := ?_) #[true, false, true, false, true, false, true, false, true, false, true, false, false, false, false] rfl rfl (any_of HT_.out (by kernel_rfl)) (fun _ _ _ h => h) (Or.inl ⟨by rfl, ?_⟩) ?_ ?_
        rotate_left
        · intro w'
          go_simp
          with_reducible rfl
        rotate_left
        · simp only [Act.put, List.setIfInBounds_toArray, List.set_cons_zero, List.set_cons_succ, i64_w, i32_w]
          rfl
        refine pure_ (i := 11) (N := some 39) (v := ?_) (a' := ?_) #[true, false, true, false, true, false, true, false, true, false, true, true, false, false, false] rfl rfl (any_of HT_.out (by kernel_rfl)) (fun _ _ _ h => h) (Or.inl ⟨by rfl, ?_⟩) ?_ ?_
        rotate_left
        · intro w'
          go_simp
          with_reducible rfl
        rotate_left
        · simp only [Act.put, List.setIfInBounds_toArray, List.set_cons_zero, List.set_cons_succ, i64_w, i32_w]
          rfl
        refine take_ (i := 1) (N := some 29) (v := ?_) (a' := ?_) #[true, true, true, false, true, false, true, false, true, false, true, true, false, false, false] rfl rfl (take_ofW HT_.out HW_.out (by kernel_rfl)) (fun _ _ _ h => h) (Or.inl ⟨by rfl, ?_⟩) hHeld ?_ ?_
        rotate_left
        · rintro w' ⟨s0, s1, s2, s3, s4, s5, s6, s7, s8, s9, s10, s11, s12⟩
          go_simp
          with_reducible rfl
        rotate_left
        · simp only [Act.put, List.setIfInBounds_toArray, List.set_cons_zero, List.set_cons_succ, i64_w, i32_w]
          rfl
        refine take_ (i := 3) (N := some 31) (v := ?_) (a' := ?_) #[true, true, true, true, true, false, true, false, true, false, true, true, false, false, false] rfl rfl (take_ofW HT_.out HW_.out (by kernel_rfl)) (fun _ _ _ h => h) (Or.inl ⟨by rfl, ?_⟩) hHeld ?_ ?_
        rotate_left
        · rintro w' ⟨s0, s1, s2, s3, s4, s5, s6, s7, s8, s9, s10, s11, s12⟩
          go_simp
          with_reducible rfl
        rotate_left
        · simp only [Act.put, List.setIfInBounds_toArray, List.set_cons_zero, List.set_cons_succ, i64_w, i32_w]
          rfl
        refine take_ (i := 7) (N := some 35) (v := ?_) (a' := ?_) #[true, true, true, true, true, false, true, true, true, false, true, true, false, false, false] rfl rfl (take_ofW HT_.out HW_.out (by kernel_rfl)) (fun _ _ _ h => h) (Or.inl ⟨by rfl, ?_⟩) hHeld ?_ ?_
        rotate_left
        · rintro w' ⟨s0, s1, s2, s3, s4, s5, s6, s7, s8, s9, s10, s11, s12⟩
          go_simp
          with_reducible rfl
        rotate_left
        · simp only [Act.put, List.setIfInBounds_toArray, List.set_cons_zero, List.set_cons_succ, i64_w, i32_w]
          rfl
        refine take_ (i := 9) (N := some 37) (v := ?_) (a' := ?_) #[true, true, true, true, true, false, true, true, true, true, true, true, false, false, false] rfl rfl (take_ofW HT_.out HW_.out (by kernel_rfl)) (fun _ _ _ h => h) (Or.inl ⟨by rfl, ?_⟩) hHeld ?_ ?_
        rotate_left
        · rintro w' ⟨s0, s1, s2, s3, s4, s5, s6, s7, s8, s9, s10, s11, s12⟩
          go_simp
          with_reducible rfl
        rotate_left
        · simp only [Act.put, List.setIfInBounds_toArray, List.set_cons_zero, List.set_cons_succ, i64_w, i32_w]
          rfl
        refine one_ (i := 5) (N := some 33) #[true, true, true, true, true, true, true, true, true, true, true, true, false, false, false] rfl rfl (one_of HT_.out (by kernel_rfl)) (by decide) (fun K hK => ?_)
        refine goes_ Try.func25 (by kernel_rfl) rfl #[.int .i64 t237, .int .i64 t238, .int .i64 (Int.tmod (wrap64 (a2)) 64)] (by rfl) rfl rfl (by (try simp only [List.map_toArray, List.map_cons, List.map_nil]); first | done | rfl | (simp only [List.length_drop, List.length_take]; rfl)) ?_
        with_reducible refine (backoff_Wait.calls kj4 t237 t238 (Int.tmod (wrap64 (a2)) 64) t242 _ A18.out).mono ?_
        rintro e w30 ⟨rfl, hb⟩
        refine ⟨_, rfl, ?_⟩
        have n0_ := Aside0.mk (blk_below (g := gb224) (o := .cells #[.int .i64 a0_0, .int .i64 a0_1, .int .i64 a0_2, .int .i64 a0_3, .int .i64 a0_4, .int .i64 a0_5, .int .i64 a0_6, .int .i64 a0_7, .int .i64 a0_8, .int .i64 a0_9, .int .i64 a0_10, .int .i64 a0_11, .int .i64 a0_12] 33 (0, 0)) (by (with_reducible repeat (first | refine blk_drewN ?_ _ | refine blk_drew ?_ | refine blk_alloc ?_ _)); exact BK224.out) hb)
        have n1_ := Aside0.mk (blk_below (g := gb241) (o := .cells #[.int .i64 t228, .int .i64 t229, .int .i64 t230, .int .i64 t231, .int .i64 t232, .int .i64 t233, .int .i64 t234, .int .i64 t235, .int .i64 t236, .int .i64 t237, .int .i64 t238, .int .i64 t239, .int .i64 t240] 36 (0, 0)) (by (with_reducible repeat (first | refine blk_drewN ?_ _ | refine blk_drew ?_ | refine blk_alloc ?_ _)); exact BK241.out) hb)
        have n2_ := Aside0.mk (below_step (by repeat (first | (with_reducible first | exact HB.out | apply below_alloc | apply pw_below_drewN | apply below_drew1 | refine below_set ?_ GE224.out | refine below_set ?_ GE241.out) | exact HB.out)) hb)
        clear BK224
        clear BK241
        clear HB
        have BK224 := n0_
        have BK241 := n1_
        have HB := n2_
        clear n0_ n1_ n2_
        (try clear hb)
        (try clear hb2)
        (try clear hk)
        (try clear hi)
        refine hK.out _ _ ⟨(blk_cell BK241.out 0).trans rfl, (blk_cell BK241.out 1).trans rfl, (blk_cell BK241.out 2).trans rfl, (blk_cell BK241.out 3).trans rfl, (blk_cell BK241.out 4).trans rfl, (blk_cell BK241.out 5).trans rfl, (blk_cell BK241.out 6).trans rfl, (blk_cell BK241.out 7).trans rfl, (blk_cell BK241.out 8).trans rfl, (blk_cell BK241.out 9).trans rfl, (blk_cell BK241.out 10).trans rfl, (blk_cell BK241.out 11).trans rfl, (blk_cell BK241.out 12).trans rfl⟩ (fun hHeld => ?_)
        clear hK K
        refine norm_ (a' := ?_) ?_ ?_
        rotate_left
        · show Act.put _ (some 33) _ = _
          simp only [Act.put, List.setIfInBounds_toArray, List.set_cons_zero, List.set_cons_succ, i64_w, i32_w]
          rfl
        refine one_ (i := 12) (N := some 40) #[true, true, true, true, true, true, true, true, true, true, true, true, true, false, false] rfl rfl (one_of HT_.out (by kernel_rfl)) (by decide) (fun K hK => ?_)
        refine goes_ Try.func25 (by kernel_rfl) rfl #[.int .i64 t237, .int .i64 t238, .int .i64 (wrap64 ((Int.tmod (wrap64 (a2)) 64) + 1))] (by rfl) rfl rfl (by (try simp only [List.map_toArray, List.map_cons, List.map_nil]); first | done | rfl | (simp only [List.length_drop, List.length_take]; rfl)) ?_
        with_reducible refine (backoff_Wait.calls kj4 t237 t238 (wrap64 ((Int.tmod (wrap64 (a2)) 64) + 1)) t243 _ A19.out).mono ?_
        rintro e w31 ⟨rfl, hb⟩
        refine ⟨_, rfl, ?_⟩
        have n0_ := Aside0.mk (blk_below (g := gb224) (o := .cells #[.int .i64 a0_0, .int .i64 a0_1, .int .i64 a0_2, .int .i64 a0_3, .int .i64 a0_4, .int .i64 a0_5, .int .i64 a0_6, .int .i64 a0_7, .int .i64 a0_8, .int .i64 a0_9, .int .i64 a0_10, .int .i64 a0_11, .int .i64 a0_12] 33 (0, 0)) (by (with_reducible repeat (first | refine blk_drewN ?_ _ | refine blk_drew ?_ | refine blk_alloc ?_ _)); exact BK224.out) hb)
        have n1_ := Aside0.mk (blk_below (g := gb241) (o := .cells #[.int .i64 t228, .int .i64 t229, .int .i64 t230, .int .i64 t231, .int .i64 t232, .int .i64 t233, .int .i64 t234, .int .i64 t235, .int .i64 t236, .int .i64 t237, .int .i64 t238, .int .i64 t239, .int .i64 t240] 36 (0, 0)) (by (with_reducible repeat (first | refine blk_drewN ?_ _ | refine blk_drew ?_ | refine blk_alloc ?_ _)); exact BK241.out) hb)
        have n2_ := Aside0.mk (below_step (by repeat (first | (with_reducible first | exact HB.out | apply below_alloc | apply pw_below_drewN | apply below_drew1 | refine below_set ?_ GE224.out | refine below_set ?_ GE241.out) | exact HB.out)) hb)
        clear BK224
        clear BK241
        clear HB
        have BK224 := n0_
        have BK241 := n1_
        have HB := n2_
        clear n0_ n1_ n2_
        (try clear hb)
        (try clear hb2)
        (try clear hk)
        (try clear hi)
        refine hK.out _ _ ⟨(blk_cell BK241.out 0).trans rfl, (blk_cell BK241.out 1).trans rfl, (blk_cell BK241.out 2).trans rfl, (blk_cell BK241.out 3).trans rfl, (blk_cell BK241.out 4).trans rfl, (blk_cell BK241.out 5).trans rfl, (blk_cell BK241.out 6).trans rfl, (blk_cell BK241.out 7).trans rfl, (blk_cell BK241.out 8).trans rfl, (blk_cell BK241.out 9).trans rfl, (blk_cell BK241.out 10).trans rfl, (blk_cell BK241.out 11).trans rfl, (blk_cell BK241.out 12).trans rfl⟩ (fun hHeld => ?_)
        clear hK K
        refine norm_ (a' := ?_) ?_ ?_
        rotate_left
        · show Act.put _ (some 40) _ = _
          simp only [Act.put, List.setIfInBounds_toArray, List.set_cons_zero, List.set_cons_succ, i64_w, i32_w]
          rfl
        refine pure_ (i := 13) (N := some 11) (v := ?_) (a' := ?_) #[true, true, true, true, true, true, true, true, true, true, true, true, true, true, false] rfl rfl (any_of HT_.out (by kernel_rfl)) (fun _ _ _ h => h) (Or.inl ⟨by rfl, ?_⟩) ?_ ?_
        rotate_left
        · intro w'
          go_simp
          with_reducible rfl
        rotate_left
        · simp only [Act.put, List.setIfInBounds_toArray, List.set_cons_zero, List.set_cons_succ, i64_w, i32_w]
          rfl
        refine pure_ (i := 14) (N := some 12) (v := ?_) (a' := ?_) #[true, true, true, true, true, true, true, true, true, true, true, true, true, true, true] rfl rfl (any_of HT_.out (by kernel_rfl)) (fun _ _ _ h => h) (Or.inl ⟨by rfl, ?_⟩) ?_ ?_
        rotate_left
        · intro w'
          go_simp
          with_reducible rfl
        rotate_left
        · simp only [Act.put, List.setIfInBounds_toArray, List.set_cons_zero, List.set_cons_succ, i64_w, i32_w]
          rfl
        refine done_ (done_of HT_.out (by kernel_rfl)) ?_
        have hcz32_0 : w31.cell? ⟨gb241, 0, none⟩ = some (.int .i64 t228) := (blk_cell BK241.out 0).trans rfl
        have hcz32_1 : w31.cell? ⟨gb241, 1, none⟩ = some (.int .i64 t229) := (blk_cell BK241.out 1).trans rfl
        have hcz32_2 : w31.cell? ⟨gb241, 2, none⟩ = some (.int .i64 t230) := (blk_cell BK241.out 2).trans rfl
        have hcz32_3 : w31.cell? ⟨gb241, 3, none⟩ = some (.int .i64 t231) := (blk_cell BK241.out 3).trans rfl
        have hcz32_4 : w31.cell? ⟨gb241, 4, none⟩ = some (.int .i64 t232) := (blk_cell BK241.out 4).trans rfl
        have hcz32_5 : w31.cell? ⟨gb241, 5, none⟩ = some (.int .i64 t233) := (blk_cell BK241.out 5).trans rfl
        have hcz32_6 : w31.cell? ⟨gb241, 6, none⟩ = some (.int .i64 t234) := (blk_cell BK241.out 6).trans rfl
        have hcz32_7 : w31.cell? ⟨gb241, 7, none⟩ = some (.int .i64 t235) := (blk_cell BK241.out 7).trans rfl
        have hcz32_8 : w31.cell? ⟨gb241, 8, none⟩ = some (.int .i64 t236) := (blk_cell BK241.out 8).trans rfl
        have hcz32_9 : w31.cell? ⟨gb241, 9, none⟩ = some (.int .i64 t237) := (blk_cell BK241.out 9).trans rfl
        have hcz32_10 : w31.cell? ⟨gb241, 10, none⟩ = some (.int .i64 t238) := (blk_cell BK241.out 10).trans rfl
        have hcz32_11 : w31.cell? ⟨gb241, 11, none⟩ = some (.int .i64 t239) := (blk_cell BK241.out 11).trans rfl
        have hcz32_12 : w31.cell? ⟨gb241, 12, none⟩ = some (.int .i64 t240) := (blk_cell BK241.out 12).trans rfl
        have hfz32_0 := blk_frozen BK241.out 0
        have hfz32_1 := blk_frozen BK241.out 1
        have hfz32_2 := blk_frozen BK241.out 2
        have hfz32_3 := blk_frozen BK241.out 3
        have hfz32_4 := blk_frozen BK241.out 4
        have hfz32_5 := blk_frozen BK241.out 5
        have hfz32_6 := blk_frozen BK241.out 6
        have hfz32_7 := blk_frozen BK241.out 7
        have hfz32_8 := blk_frozen BK241.out 8
        have hfz32_9 := blk_frozen BK241.out 9
        have hfz32_10 := blk_frozen BK241.out 10
        have hfz32_11 := blk_frozen BK241.out 11
        have hfz32_12 := blk_frozen BK241.out 12
        go_upto_region 7 with (first | ((with_reducible refine gate_callee (f := 27) rfl ?_); refine goesL_ (some 45) rfl rfl Try.func27 (by kernel_rfl) rfl #[.int .i64 (wrap64 (a3)), .int .i64 t239] rfl (by (try simp only [List.map_toArray, List.map_cons, List.map_nil]); first | done | rfl | (simp only [List.length_drop, List.length_take]; rfl)) ?_; (with_reducible refine (backoff_Jitter.calls kj4 (wrap64 (a3)) t239 t244 _ A20.out).mono ?_); rintro e w33 ⟨rfl, hb⟩; refine ⟨_, rfl, ?_⟩; have n0_ := Aside0.mk (blk_below (g := gb224) (o := .cells #[.int .i64 a0_0, .int .i64 a0_1, .int .i64 a0_2, .int .i64 a0_3, .int .i64 a0_4, .int .i64 a0_5, .int .i64 a0_6, .int .i64 a0_7, .int .i64 a0_8, .int .i64 a0_9, .int .i64 a0_10, .int .i64 a0_11, .int .i64 a0_12] 33 (0, 0)) (by (with_reducible repeat (first | refine blk_drewN ?_ _ | refine blk_drew ?_ | refine blk_alloc ?_ _)); exact BK224.out) hb); have n1_ := Aside0.mk (blk_below (g := gb241) (o := .cells #[.int .i64 t228, .int .i64 t229, .int .i64 t230, .int .i64 t231, .int .i64 t232, .int .i64 t233, .int .i64 t234, .int .i64 t235, .int .i64 t236, .int .i64 t237, .int .i64 t238, .int .i64 t239, .int .i64 t240] 36 (0, 0)) (by (with_reducible repeat (first | refine blk_drewN ?_ _ | refine blk_drew ?_ | refine blk_alloc ?_ _)); exact BK241.out) hb); have n2_ := Aside0.mk (below_step (by repeat (first | (with_reducible first | exact HB.out | apply below_alloc | apply pw_below_drewN | apply below_drew1 | refine below_set ?_ GE224.out | refine below_set ?_ GE241.out) | exact HB.out)) hb); clear BK224; clear BK241; clear HB; have BK224 := n0_; have BK241 := n1_; have HB := n2_; clear n0_ n1_ n2_; (try clear hb); (try clear hb2); (try clear hk); (try clear hi); have hcz34_0 : w33.cell? ⟨gb241, 0, none⟩ = some (.int .i64 t228) := (blk_cell BK241.out 0).trans rfl; have hcz34_1 : w33.cell? ⟨gb241, 1, none⟩ = some (.int .i64 t229) := (blk_cell BK241.out 1).trans rfl; have hcz34_2 : w33.cell? ⟨gb241, 2, none⟩ = some (.int .i64 t230) := (blk_cell BK241.out 2).trans rfl; have hcz34_3 : w33.cell? ⟨gb241, 3, none⟩ = some (.int .i64 t231) := (blk_cell BK241.out 3).trans rfl; have hcz34_4 : w33.cell? ⟨gb241, 4, none⟩ = some (.int .i64 t232) := (blk_cell BK241.out 4).trans rfl; have hcz34_5 : w33.cell? ⟨gb241, 5, none⟩ = some (.int .i64 t233) := (blk_cell BK241.out 5).trans rfl; have hcz34_6 : w33.cell? ⟨gb241, 6, none⟩ = some (.int .i64 t234) := (blk_cell BK241.out 6).trans rfl; have hcz34_7 : w33.cell? ⟨gb241, 7, none⟩ = some (.int .i64 t235) := (blk_cell BK241.out 7).trans rfl; have hcz34_8 : w33.cell? ⟨gb241, 8, none⟩ = some (.int .i64 t236) := (blk_cell BK241.out 8).trans rfl; have hcz34_9 : w33.cell? ⟨gb241, 9, none⟩ = some (.int .i64 t237) := (blk_cell BK241.out 9).trans rfl; have hcz34_10 : w33.cell? ⟨gb241, 10, none⟩ = some (.int .i64 t238) := (blk_cell BK241.out 10).trans rfl; have hcz34_11 : w33.cell? ⟨gb241, 11, none⟩ = some (.int .i64 t239) := (blk_cell BK241.out 11).trans rfl; have hcz34_12 : w33.cell? ⟨gb241, 12, none⟩ = some (.int .i64 t240) := (blk_cell BK241.out 12).trans rfl; have hfz34_0 := blk_frozen BK241.out 0; have hfz34_1 := blk_frozen BK241.out 1; have hfz34_2 := blk_frozen BK241.out 2; have hfz34_3 := blk_frozen BK241.out 3; have hfz34_4 := blk_frozen BK241.out 4; have hfz34_5 := blk_frozen BK241.out 5; have hfz34_6 := blk_frozen BK241.out 6; have hfz34_7 := blk_frozen BK241.out 7; have hfz34_8 := blk_frozen BK241.out 8; have hfz34_9 := blk_frozen BK241.out 9; have hfz34_10 := blk_frozen BK241.out 10; have hfz34_11 := blk_frozen BK241.out 11; have hfz34_12 := blk_frozen BK241.out 12) | ((with_reducible refine gate_callee (f := 29) rfl ?_); refine goesL_ (some 52) rfl rfl Try.func29 (by kernel_rfl) rfl #[.agg #[.int .i64 t228, .int .i64 t229, .int .i64 t230, .int .i64 t231, .int .i64 t232, .int .i64 t233, .int .i64 t234, .int .i64 t235, .int .i64 t236, .int .i64 t237, .int .i64 t238, .int .i64 t239, .int .i64 t240], .int .i64 (wrap64 (a1)), .int .i64 (Int.tmod (wrap64 (a2)) 64), .int .i64 (wrap64 (a3))] rfl (by (try simp only [List.map_toArray, List.map_cons, List.map_nil]); first | done | rfl | (simp only [List.length_drop, List.length_take]; rfl)) ?_; (with_reducible refine (backoff_Due.calls kj4 t228 t229 t230 t231 t232 t233 t234 t235 t236 t237 t238 t239 t240 (wrap64 (a1)) (Int.tmod (wrap64 (a2)) 64) (wrap64 (a3)) t245 _ A21.out).mono ?_); rintro e w35 ⟨rfl, hb⟩; refine ⟨_, rfl, ?_⟩; have n0_ := Aside0.mk (blk_below (g := gb224) (o := .cells #[.int .i64 a0_0, .int .i64 a0_1, .int .i64 a0_2, .int .i64 a0_3, .int .i64 a0_4, .int .i64 a0_5, .int .i64 a0_6, .int .i64 a0_7, .int .i64 a0_8, .int .i64 a0_9, .int .i64 a0_10, .int .i64 a0_11, .int .i64 a0_12] 33 (0, 0)) (by (with_reducible repeat (first | refine blk_drewN ?_ _ | refine blk_drew ?_ | refine blk_alloc ?_ _)); exact BK224.out) hb); have n1_ := Aside0.mk (blk_below (g := gb241) (o := .cells #[.int .i64 t228, .int .i64 t229, .int .i64 t230, .int .i64 t231, .int .i64 t232, .int .i64 t233, .int .i64 t234, .int .i64 t235, .int .i64 t236, .int .i64 t237, .int .i64 t238, .int .i64 t239, .int .i64 t240] 36 (0, 0)) (by (with_reducible repeat (first | refine blk_drewN ?_ _ | refine blk_drew ?_ | refine blk_alloc ?_ _)); exact BK241.out) hb); have n2_ := Aside0.mk (below_step (by repeat (first | (with_reducible first | exact HB.out | apply below_alloc | apply pw_below_drewN | apply below_drew1 | refine below_set ?_ GE224.out | refine below_set ?_ GE241.out) | exact HB.out)) hb); clear BK224; clear BK241; clear HB; have BK224 := n0_; have BK241 := n1_; have HB := n2_; clear n0_ n1_ n2_; (try clear hb); (try clear hb2); (try clear hk); (try clear hi)))
        (try simp only [Act.put, List.setIfInBounds_toArray, List.set_cons_zero, List.set_cons_succ])
        go_cut [86] (fun v86 wc => ∃ (kq : Nat) (x86_21 : Bool), v86 = .bool x86_21 ∧ Aside0 (knelllaw23_BackoffGrows.j1 kq a1 t242 t244 t245 x86_21 t228 t229 t230 t231 t232 t233 t234 t235 t236 t237 t238 t239 t240 = some r) ∧ Aside0 (kq ≤ kj4) ∧ Aside0 (wc.heap[gb224]? = some (.cells #[.int .i64 a0_0, .int .i64 a0_1, .int .i64 a0_2, .int .i64 a0_3, .int .i64 a0_4, .int .i64 a0_5, .int .i64 a0_6, .int .i64 a0_7, .int .i64 a0_8, .int .i64 a0_9, .int .i64 a0_10, .int .i64 a0_11, .int .i64 a0_12] 33 (0, 0))) ∧ Aside0 (wc.heap[gb241]? = some (.cells #[.int .i64 t228, .int .i64 t229, .int .i64 t230, .int .i64 t231, .int .i64 t232, .int .i64 t233, .int .i64 t234, .int .i64 t235, .int .i64 t236, .int .i64 t237, .int .i64 t238, .int .i64 t239, .int .i64 t240] 36 (0, 0))) ∧ Aside0 (Below w.heap.size w wc))
        case first =>
          have H := HC22.out
          clear HC22
          by_cases c36 : t242 > t243
          · rw [if_pos c36] at H
            have c36b0 : decide (t243 < t242) = true := decide_eq_true c36
            clear c36
            (first | rw [c36b0] | (simp only [i64_w, i32_w]; rw [c36b0]) | skip)
            have H' := Aside0.mk H
            clear H
            go_wp2
            go_meet
            case rel => exact ⟨_, (true), (by first | rfl | (simp; done) | (simp [*]; done)), H', ⟨by have := HJ4.out; first | omega | exact Nat.le_refl _⟩, ⟨by (with_reducible repeat (first | refine blk_drewN ?_ _ | refine blk_drew ?_ | refine blk_alloc ?_ _)); exact BK224.out⟩, ⟨by (with_reducible repeat (first | refine blk_drewN ?_ _ | refine blk_drew ?_ | refine blk_alloc ?_ _)); exact BK241.out⟩, ⟨by repeat (first | (with_reducible first | exact HB.out | apply below_alloc | apply pw_below_drewN | apply below_drew1 | refine below_set ?_ GE224.out | refine below_set ?_ GE241.out) | exact HB.out)⟩⟩
          · rw [if_neg c36] at H
            have c36b0 : decide (t243 < t242) = false := decide_eq_false c36
            clear c36
            (first | rw [c36b0] | (simp only [i64_w, i32_w]; rw [c36b0]) | skip)
            by_cases c37 : t243 > t238
            · rw [if_pos c37] at H
              have c37b0 : decide (t238 < t243) = true := decide_eq_true c37
              clear c37
              have H' := Aside0.mk H
              clear H
              have hnb38 := NB241_224.out
              have hnc38 := NB224_241.out
              have hcz39_0 : w35.cell? ⟨gb241, 0, none⟩ = some (.int .i64 t228) := (blk_cell BK241.out 0).trans rfl
              have hcz39_1 : w35.cell? ⟨gb241, 1, none⟩ = some (.int .i64 t229) := (blk_cell BK241.out 1).trans rfl
              have hcz39_2 : w35.cell? ⟨gb241, 2, none⟩ = some (.int .i64 t230) := (blk_cell BK241.out 2).trans rfl
              have hcz39_3 : w35.cell? ⟨gb241, 3, none⟩ = some (.int .i64 t231) := (blk_cell BK241.out 3).trans rfl
              have hcz39_4 : w35.cell? ⟨gb241, 4, none⟩ = some (.int .i64 t232) := (blk_cell BK241.out 4).trans rfl
              have hcz39_5 : w35.cell? ⟨gb241, 5, none⟩ = some (.int .i64 t233) := (blk_cell BK241.out 5).trans rfl
              have hcz39_6 : w35.cell? ⟨gb241, 6, none⟩ = some (.int .i64 t234) := (blk_cell BK241.out 6).trans rfl
              have hcz39_7 : w35.cell? ⟨gb241, 7, none⟩ = some (.int .i64 t235) := (blk_cell BK241.out 7).trans rfl
              have hcz39_8 : w35.cell? ⟨gb241, 8, none⟩ = some (.int .i64 t236) := (blk_cell BK241.out 8).trans rfl
              have hcz39_9 : w35.cell? ⟨gb241, 9, none⟩ = some (.int .i64 t237) := (blk_cell BK241.out 9).trans rfl
              have hcz39_10 : w35.cell? ⟨gb241, 10, none⟩ = some (.int .i64 t238) := (blk_cell BK241.out 10).trans rfl
              have hcz39_11 : w35.cell? ⟨gb241, 11, none⟩ = some (.int .i64 t239) := (blk_cell BK241.out 11).trans rfl
              have hcz39_12 : w35.cell? ⟨gb241, 12, none⟩ = some (.int .i64 t240) := (blk_cell BK241.out 12).trans rfl
              have hfz39_0 := blk_frozen BK241.out 0
              have hfz39_1 := blk_frozen BK241.out 1
              have hfz39_2 := blk_frozen BK241.out 2
              have hfz39_3 := blk_frozen BK241.out 3
              have hfz39_4 := blk_frozen BK241.out 4
              have hfz39_5 := blk_frozen BK241.out 5
              have hfz39_6 := blk_frozen BK241.out 6
              have hfz39_7 := blk_frozen BK241.out 7
              have hfz39_8 := blk_frozen BK241.out 8
              have hfz39_9 := blk_frozen BK241.out 9
              have hfz39_10 := blk_frozen BK241.out 10
              have hfz39_11 := blk_frozen BK241.out 11
              have hfz39_12 := blk_frozen BK241.out 12
              go_wp2
              go_meet
              case rel => exact ⟨_, (true), (by first | rfl | (simp; done) | (simp [*]; done)), H', ⟨by have := HJ4.out; first | omega | exact Nat.le_refl _⟩, ⟨by (with_reducible repeat (first | refine blk_drewN ?_ _ | refine blk_drew ?_ | refine blk_alloc ?_ _)); exact BK224.out⟩, ⟨by (with_reducible repeat (first | refine blk_drewN ?_ _ | refine blk_drew ?_ | refine blk_alloc ?_ _)); exact BK241.out⟩, ⟨by repeat (first | (with_reducible first | exact HB.out | apply below_alloc | apply pw_below_drewN | apply below_drew1 | refine below_set ?_ GE224.out | refine below_set ?_ GE241.out) | exact HB.out)⟩⟩
            · rw [if_neg c37] at H
              have c37b0 : decide (t238 < t243) = false := decide_eq_false c37
              clear c37
              obtain ⟨ji40, hji40⟩ : ∃ j_ : Int, (mn t237 t238) = j_ := ⟨_, rfl⟩
              replace H : (if t242 < (ji40) then (knelllaw23_BackoffGrows.j1 kj4 a1 t242 t244 t245 true t228 t229 t230 t231 t232 t233 t234 t235 t236 t237 t238 t239 t240) else (if t243 > (wrap64 (2 * t242)) then (knelllaw23_BackoffGrows.j1 kj4 a1 t242 t244 t245 true t228 t229 t230 t231 t232 t233 t234 t235 t236 t237 t238 t239 t240) else (if t244 < 0 then (knelllaw23_BackoffGrows.j1 kj4 a1 t242 t244 t245 true t228 t229 t230 t231 t232 t233 t234 t235 t236 t237 t238 t239 t240) else (knelllaw23_BackoffGrows.j1 kj4 a1 t242 t244 t245 (decide (t244 > t239)) t228 t229 t230 t231 t232 t233 t234 t235 t236 t237 t238 t239 t240)))) = some r := by first | (rw [hji40] at H; exact H) | (simp only [hji40] at H ⊢; exact H)
              have hji40_ : (if t238 < t237 then t238 else t237) = ji40 := hji40
              by_cases c41 : t242 < (ji40)
              · rw [if_pos c41] at H
                have c41b0 : decide (t242 < (ji40)) = true := decide_eq_true c41
                clear c41
                have H' := Aside0.mk H
                clear H
                have hnb42 := NB241_224.out
                have hnc42 := NB224_241.out
                have hcz43_0 : w35.cell? ⟨gb241, 0, none⟩ = some (.int .i64 t228) := (blk_cell BK241.out 0).trans rfl
                have hcz43_1 : w35.cell? ⟨gb241, 1, none⟩ = some (.int .i64 t229) := (blk_cell BK241.out 1).trans rfl
                have hcz43_2 : w35.cell? ⟨gb241, 2, none⟩ = some (.int .i64 t230) := (blk_cell BK241.out 2).trans rfl
                have hcz43_3 : w35.cell? ⟨gb241, 3, none⟩ = some (.int .i64 t231) := (blk_cell BK241.out 3).trans rfl
                have hcz43_4 : w35.cell? ⟨gb241, 4, none⟩ = some (.int .i64 t232) := (blk_cell BK241.out 4).trans rfl
                have hcz43_5 : w35.cell? ⟨gb241, 5, none⟩ = some (.int .i64 t233) := (blk_cell BK241.out 5).trans rfl
                have hcz43_6 : w35.cell? ⟨gb241, 6, none⟩ = some (.int .i64 t234) := (blk_cell BK241.out 6).trans rfl
                have hcz43_7 : w35.cell? ⟨gb241, 7, none⟩ = some (.int .i64 t235) := (blk_cell BK241.out 7).trans rfl
                have hcz43_8 : w35.cell? ⟨gb241, 8, none⟩ = some (.int .i64 t236) := (blk_cell BK241.out 8).trans rfl
                have hcz43_9 : w35.cell? ⟨gb241, 9, none⟩ = some (.int .i64 t237) := (blk_cell BK241.out 9).trans rfl
                have hcz43_10 : w35.cell? ⟨gb241, 10, none⟩ = some (.int .i64 t238) := (blk_cell BK241.out 10).trans rfl
                have hcz43_11 : w35.cell? ⟨gb241, 11, none⟩ = some (.int .i64 t239) := (blk_cell BK241.out 11).trans rfl
                have hcz43_12 : w35.cell? ⟨gb241, 12, none⟩ = some (.int .i64 t240) := (blk_cell BK241.out 12).trans rfl
                have hfz43_0 := blk_frozen BK241.out 0
                have hfz43_1 := blk_frozen BK241.out 1
                have hfz43_2 := blk_frozen BK241.out 2
                have hfz43_3 := blk_frozen BK241.out 3
                have hfz43_4 := blk_frozen BK241.out 4
                have hfz43_5 := blk_frozen BK241.out 5
                have hfz43_6 := blk_frozen BK241.out 6
                have hfz43_7 := blk_frozen BK241.out 7
                have hfz43_8 := blk_frozen BK241.out 8
                have hfz43_9 := blk_frozen BK241.out 9
                have hfz43_10 := blk_frozen BK241.out 10
                have hfz43_11 := blk_frozen BK241.out 11
                have hfz43_12 := blk_frozen BK241.out 12
                go_wp2
                go_meet
                case rel => exact ⟨_, (true), (by first | rfl | (simp; done) | (simp [*]; done)), H', ⟨by have := HJ4.out; first | omega | exact Nat.le_refl _⟩, ⟨by (with_reducible repeat (first | refine blk_drewN ?_ _ | refine blk_drew ?_ | refine blk_alloc ?_ _)); exact BK224.out⟩, ⟨by (with_reducible repeat (first | refine blk_drewN ?_ _ | refine blk_drew ?_ | refine blk_alloc ?_ _)); exact BK241.out⟩, ⟨by repeat (first | (with_reducible first | exact HB.out | apply below_alloc | apply pw_below_drewN | apply below_drew1 | refine below_set ?_ GE224.out | refine below_set ?_ GE241.out) | exact HB.out)⟩⟩
              · rw [if_neg c41] at H
                have c41b0 : decide (t242 < (ji40)) = false := decide_eq_false c41
                clear c41
                by_cases c44 : t243 > (wrap64 (2 * t242))
                · rw [if_pos c44] at H
                  have c44b0 : decide ((wrap64 (2 * t242)) < t243) = true := decide_eq_true c44
                  clear c44
                  have H' := Aside0.mk H
                  clear H
                  have hnb45 := NB241_224.out
                  have hnc45 := NB224_241.out
                  have hcz46_0 : w35.cell? ⟨gb241, 0, none⟩ = some (.int .i64 t228) := (blk_cell BK241.out 0).trans rfl
                  have hcz46_1 : w35.cell? ⟨gb241, 1, none⟩ = some (.int .i64 t229) := (blk_cell BK241.out 1).trans rfl
                  have hcz46_2 : w35.cell? ⟨gb241, 2, none⟩ = some (.int .i64 t230) := (blk_cell BK241.out 2).trans rfl
                  have hcz46_3 : w35.cell? ⟨gb241, 3, none⟩ = some (.int .i64 t231) := (blk_cell BK241.out 3).trans rfl
                  have hcz46_4 : w35.cell? ⟨gb241, 4, none⟩ = some (.int .i64 t232) := (blk_cell BK241.out 4).trans rfl
                  have hcz46_5 : w35.cell? ⟨gb241, 5, none⟩ = some (.int .i64 t233) := (blk_cell BK241.out 5).trans rfl
                  have hcz46_6 : w35.cell? ⟨gb241, 6, none⟩ = some (.int .i64 t234) := (blk_cell BK241.out 6).trans rfl
                  have hcz46_7 : w35.cell? ⟨gb241, 7, none⟩ = some (.int .i64 t235) := (blk_cell BK241.out 7).trans rfl
                  have hcz46_8 : w35.cell? ⟨gb241, 8, none⟩ = some (.int .i64 t236) := (blk_cell BK241.out 8).trans rfl
                  have hcz46_9 : w35.cell? ⟨gb241, 9, none⟩ = some (.int .i64 t237) := (blk_cell BK241.out 9).trans rfl
                  have hcz46_10 : w35.cell? ⟨gb241, 10, none⟩ = some (.int .i64 t238) := (blk_cell BK241.out 10).trans rfl
                  have hcz46_11 : w35.cell? ⟨gb241, 11, none⟩ = some (.int .i64 t239) := (blk_cell BK241.out 11).trans rfl
                  have hcz46_12 : w35.cell? ⟨gb241, 12, none⟩ = some (.int .i64 t240) := (blk_cell BK241.out 12).trans rfl
                  have hfz46_0 := blk_frozen BK241.out 0
                  have hfz46_1 := blk_frozen BK241.out 1
                  have hfz46_2 := blk_frozen BK241.out 2
                  have hfz46_3 := blk_frozen BK241.out 3
                  have hfz46_4 := blk_frozen BK241.out 4
                  have hfz46_5 := blk_frozen BK241.out 5
                  have hfz46_6 := blk_frozen BK241.out 6
                  have hfz46_7 := blk_frozen BK241.out 7
                  have hfz46_8 := blk_frozen BK241.out 8
                  have hfz46_9 := blk_frozen BK241.out 9
                  have hfz46_10 := blk_frozen BK241.out 10
                  have hfz46_11 := blk_frozen BK241.out 11
                  have hfz46_12 := blk_frozen BK241.out 12
                  go_wp2
                  go_meet
                  case rel => exact ⟨_, (true), (by first | rfl | (simp; done) | (simp [*]; done)), H', ⟨by have := HJ4.out; first | omega | exact Nat.le_refl _⟩, ⟨by (with_reducible repeat (first | refine blk_drewN ?_ _ | refine blk_drew ?_ | refine blk_alloc ?_ _)); exact BK224.out⟩, ⟨by (with_reducible repeat (first | refine blk_drewN ?_ _ | refine blk_drew ?_ | refine blk_alloc ?_ _)); exact BK241.out⟩, ⟨by repeat (first | (with_reducible first | exact HB.out | apply below_alloc | apply pw_below_drewN | apply below_drew1 | refine below_set ?_ GE224.out | refine below_set ?_ GE241.out) | exact HB.out)⟩⟩
                · rw [if_neg c44] at H
                  have c44b0 : decide ((wrap64 (2 * t242)) < t243) = false := decide_eq_false c44
                  clear c44
                  by_cases c47 : t244 < 0
                  · rw [if_pos c47] at H
                    have c47b0 : decide (t244 < 0) = true := decide_eq_true c47
                    clear c47
                    have H' := Aside0.mk H
                    clear H
                    have hnb48 := NB241_224.out
                    have hnc48 := NB224_241.out
                    have hcz49_0 : w35.cell? ⟨gb241, 0, none⟩ = some (.int .i64 t228) := (blk_cell BK241.out 0).trans rfl
                    have hcz49_1 : w35.cell? ⟨gb241, 1, none⟩ = some (.int .i64 t229) := (blk_cell BK241.out 1).trans rfl
                    have hcz49_2 : w35.cell? ⟨gb241, 2, none⟩ = some (.int .i64 t230) := (blk_cell BK241.out 2).trans rfl
                    have hcz49_3 : w35.cell? ⟨gb241, 3, none⟩ = some (.int .i64 t231) := (blk_cell BK241.out 3).trans rfl
                    have hcz49_4 : w35.cell? ⟨gb241, 4, none⟩ = some (.int .i64 t232) := (blk_cell BK241.out 4).trans rfl
                    have hcz49_5 : w35.cell? ⟨gb241, 5, none⟩ = some (.int .i64 t233) := (blk_cell BK241.out 5).trans rfl
                    have hcz49_6 : w35.cell? ⟨gb241, 6, none⟩ = some (.int .i64 t234) := (blk_cell BK241.out 6).trans rfl
                    have hcz49_7 : w35.cell? ⟨gb241, 7, none⟩ = some (.int .i64 t235) := (blk_cell BK241.out 7).trans rfl
                    have hcz49_8 : w35.cell? ⟨gb241, 8, none⟩ = some (.int .i64 t236) := (blk_cell BK241.out 8).trans rfl
                    have hcz49_9 : w35.cell? ⟨gb241, 9, none⟩ = some (.int .i64 t237) := (blk_cell BK241.out 9).trans rfl
                    have hcz49_10 : w35.cell? ⟨gb241, 10, none⟩ = some (.int .i64 t238) := (blk_cell BK241.out 10).trans rfl
                    have hcz49_11 : w35.cell? ⟨gb241, 11, none⟩ = some (.int .i64 t239) := (blk_cell BK241.out 11).trans rfl
                    have hcz49_12 : w35.cell? ⟨gb241, 12, none⟩ = some (.int .i64 t240) := (blk_cell BK241.out 12).trans rfl
                    have hfz49_0 := blk_frozen BK241.out 0
                    have hfz49_1 := blk_frozen BK241.out 1
                    have hfz49_2 := blk_frozen BK241.out 2
                    have hfz49_3 := blk_frozen BK241.out 3
                    have hfz49_4 := blk_frozen BK241.out 4
                    have hfz49_5 := blk_frozen BK241.out 5
                    have hfz49_6 := blk_frozen BK241.out 6
                    have hfz49_7 := blk_frozen BK241.out 7
                    have hfz49_8 := blk_frozen BK241.out 8
                    have hfz49_9 := blk_frozen BK241.out 9
                    have hfz49_10 := blk_frozen BK241.out 10
                    have hfz49_11 := blk_frozen BK241.out 11
                    have hfz49_12 := blk_frozen BK241.out 12
                    go_wp2
                    go_meet
                    case rel => exact ⟨_, (true), (by first | rfl | (simp; done) | (simp [*]; done)), H', ⟨by have := HJ4.out; first | omega | exact Nat.le_refl _⟩, ⟨by (with_reducible repeat (first | refine blk_drewN ?_ _ | refine blk_drew ?_ | refine blk_alloc ?_ _)); exact BK224.out⟩, ⟨by (with_reducible repeat (first | refine blk_drewN ?_ _ | refine blk_drew ?_ | refine blk_alloc ?_ _)); exact BK241.out⟩, ⟨by repeat (first | (with_reducible first | exact HB.out | apply below_alloc | apply pw_below_drewN | apply below_drew1 | refine below_set ?_ GE224.out | refine below_set ?_ GE241.out) | exact HB.out)⟩⟩
                  · rw [if_neg c47] at H
                    have c47b0 : decide (t244 < 0) = false := decide_eq_false c47
                    clear c47
                    have H' := Aside0.mk H
                    clear H
                    have hnb50 := NB241_224.out
                    have hnc50 := NB224_241.out
                    have hcz51_0 : w35.cell? ⟨gb241, 0, none⟩ = some (.int .i64 t228) := (blk_cell BK241.out 0).trans rfl
                    have hcz51_1 : w35.cell? ⟨gb241, 1, none⟩ = some (.int .i64 t229) := (blk_cell BK241.out 1).trans rfl
                    have hcz51_2 : w35.cell? ⟨gb241, 2, none⟩ = some (.int .i64 t230) := (blk_cell BK241.out 2).trans rfl
                    have hcz51_3 : w35.cell? ⟨gb241, 3, none⟩ = some (.int .i64 t231) := (blk_cell BK241.out 3).trans rfl
                    have hcz51_4 : w35.cell? ⟨gb241, 4, none⟩ = some (.int .i64 t232) := (blk_cell BK241.out 4).trans rfl
                    have hcz51_5 : w35.cell? ⟨gb241, 5, none⟩ = some (.int .i64 t233) := (blk_cell BK241.out 5).trans rfl
                    have hcz51_6 : w35.cell? ⟨gb241, 6, none⟩ = some (.int .i64 t234) := (blk_cell BK241.out 6).trans rfl
                    have hcz51_7 : w35.cell? ⟨gb241, 7, none⟩ = some (.int .i64 t235) := (blk_cell BK241.out 7).trans rfl
                    have hcz51_8 : w35.cell? ⟨gb241, 8, none⟩ = some (.int .i64 t236) := (blk_cell BK241.out 8).trans rfl
                    have hcz51_9 : w35.cell? ⟨gb241, 9, none⟩ = some (.int .i64 t237) := (blk_cell BK241.out 9).trans rfl
                    have hcz51_10 : w35.cell? ⟨gb241, 10, none⟩ = some (.int .i64 t238) := (blk_cell BK241.out 10).trans rfl
                    have hcz51_11 : w35.cell? ⟨gb241, 11, none⟩ = some (.int .i64 t239) := (blk_cell BK241.out 11).trans rfl
                    have hcz51_12 : w35.cell? ⟨gb241, 12, none⟩ = some (.int .i64 t240) := (blk_cell BK241.out 12).trans rfl
                    have hfz51_0 := blk_frozen BK241.out 0
                    have hfz51_1 := blk_frozen BK241.out 1
                    have hfz51_2 := blk_frozen BK241.out 2
                    have hfz51_3 := blk_frozen BK241.out 3
                    have hfz51_4 := blk_frozen BK241.out 4
                    have hfz51_5 := blk_frozen BK241.out 5
                    have hfz51_6 := blk_frozen BK241.out 6
                    have hfz51_7 := blk_frozen BK241.out 7
                    have hfz51_8 := blk_frozen BK241.out 8
                    have hfz51_9 := blk_frozen BK241.out 9
                    have hfz51_10 := blk_frozen BK241.out 10
                    have hfz51_11 := blk_frozen BK241.out 11
                    have hfz51_12 := blk_frozen BK241.out 12
                    go_wp2
                    go_meet
                    case rel => exact ⟨_, (decide (t244 > t239)), (by first | rfl | (simp; done) | (simp [*]; done)), H', ⟨by have := HJ4.out; first | omega | exact Nat.le_refl _⟩, ⟨by (with_reducible repeat (first | refine blk_drewN ?_ _ | refine blk_drew ?_ | refine blk_alloc ?_ _)); exact BK224.out⟩, ⟨by (with_reducible repeat (first | refine blk_drewN ?_ _ | refine blk_drew ?_ | refine blk_alloc ?_ _)); exact BK241.out⟩, ⟨by repeat (first | (with_reducible first | exact HB.out | apply below_alloc | apply pw_below_drewN | apply below_drew1 | refine below_set ?_ GE224.out | refine below_set ?_ GE241.out) | exact HB.out)⟩⟩
        case rest =>
          clear HC22
          try clear c1
          try clear c2
          try clear p2
          try clear c3
          try clear c4
          try clear c5
          try clear p6
          try clear c7
          try clear c8
          try clear c14
          try clear c21
          try clear c23
          try clear c25
          try clear c26
          try clear c27
          try clear c29
          try clear c36
          try clear c36b0
          try clear c37
          try clear c37b0
          try clear c38
          try clear c41
          try clear c41b0
          try clear c42
          try clear c44
          try clear c44b0
          try clear c45
          try clear c47
          try clear c47b0
          try clear c48
          try clear c50
          try clear hcz11_0
          try clear hcz11_1
          try clear hcz11_10
          try clear hcz11_11
          try clear hcz11_12
          try clear hcz11_2
          try clear hcz11_3
          try clear hcz11_4
          try clear hcz11_5
          try clear hcz11_6
          try clear hcz11_7
          try clear hcz11_8
          try clear hcz11_9
          try clear hcz23_0
          try clear hcz23_1
          try clear hcz23_10
          try clear hcz23_11
          try clear hcz23_12
          try clear hcz23_2
          try clear hcz23_3
          try clear hcz23_4
          try clear hcz23_5
          try clear hcz23_6
          try clear hcz23_7
          try clear hcz23_8
          try clear hcz23_9
          try clear hcz27_0
          try clear hcz27_1
          try clear hcz27_10
          try clear hcz27_11
          try clear hcz27_12
          try clear hcz27_2
          try clear hcz27_3
          try clear hcz27_4
          try clear hcz27_5
          try clear hcz27_6
          try clear hcz27_7
          try clear hcz27_8
          try clear hcz27_9
          try clear hcz32_0
          try clear hcz32_1
          try clear hcz32_10
          try clear hcz32_11
          try clear hcz32_12
          try clear hcz32_2
          try clear hcz32_3
          try clear hcz32_4
          try clear hcz32_5
          try clear hcz32_6
          try clear hcz32_7
          try clear hcz32_8
          try clear hcz32_9
          try clear hcz34_0
          try clear hcz34_1
          try clear hcz34_10
          try clear hcz34_11
          try clear hcz34_12
          try clear hcz34_2
          try clear hcz34_3
          try clear hcz34_4
          try clear hcz34_5
          try clear hcz34_6
          try clear hcz34_7
          try clear hcz34_8
          try clear hcz34_9
          try clear hcz39_0
          try clear hcz39_1
          try clear hcz39_10
          try clear hcz39_11
          try clear hcz39_12
          try clear hcz39_2
          try clear hcz39_3
          try clear hcz39_4
          try clear hcz39_5
          try clear hcz39_6
          try clear hcz39_7
          try clear hcz39_8
          try clear hcz39_9
          try clear hcz43_0
          try clear hcz43_1
          try clear hcz43_10
          try clear hcz43_11
          try clear hcz43_12
          try clear hcz43_2
          try clear hcz43_3
          try clear hcz43_4
          try clear hcz43_5
          try clear hcz43_6
          try clear hcz43_7
          try clear hcz43_8
          try clear hcz43_9
          try clear hcz46_0
          try clear hcz46_1
          try clear hcz46_10
          try clear hcz46_11
          try clear hcz46_12
          try clear hcz46_2
          try clear hcz46_3
          try clear hcz46_4
          try clear hcz46_5
          try clear hcz46_6
          try clear hcz46_7
          try clear hcz46_8
          try clear hcz46_9
          try clear hcz49_0
          try clear hcz49_1
          try clear hcz49_10
          try clear hcz49_11
          try clear hcz49_12
          try clear hcz49_2
          try clear hcz49_3
          try clear hcz49_4
          try clear hcz49_5
          try clear hcz49_6
          try clear hcz49_7
          try clear hcz49_8
          try clear hcz49_9
          try clear hcz51_0
          try clear hcz51_1
          try clear hcz51_10
          try clear hcz51_11
          try clear hcz51_12
          try clear hcz51_2
          try clear hcz51_3
          try clear hcz51_4
          try clear hcz51_5
          try clear hcz51_6
          try clear hcz51_7
          try clear hcz51_8
          try clear hcz51_9
          try clear hfz11_0
          try clear hfz11_1
          try clear hfz11_10
          try clear hfz11_11
          try clear hfz11_12
          try clear hfz11_2
          try clear hfz11_3
          try clear hfz11_4
          try clear hfz11_5
          try clear hfz11_6
          try clear hfz11_7
          try clear hfz11_8
          try clear hfz11_9
          try clear hfz23_0
          try clear hfz23_1
          try clear hfz23_10
          try clear hfz23_11
          try clear hfz23_12
          try clear hfz23_2
          try clear hfz23_3
          try clear hfz23_4
          try clear hfz23_5
          try clear hfz23_6
          try clear hfz23_7
          try clear hfz23_8
          try clear hfz23_9
          try clear hfz27_0
          try clear hfz27_1
          try clear hfz27_10
          try clear hfz27_11
          try clear hfz27_12
          try clear hfz27_2
          try clear hfz27_3
          try clear hfz27_4
          try clear hfz27_5
          try clear hfz27_6
          try clear hfz27_7
          try clear hfz27_8
          try clear hfz27_9
          try clear hfz32_0
          try clear hfz32_1
          try clear hfz32_10
          try clear hfz32_11
          try clear hfz32_12
          try clear hfz32_2
          try clear hfz32_3
          try clear hfz32_4
          try clear hfz32_5
          try clear hfz32_6
          try clear hfz32_7
          try clear hfz32_8
          try clear hfz32_9
          try clear hfz34_0
          try clear hfz34_1
          try clear hfz34_10
          try clear hfz34_11
          try clear hfz34_12
          try clear hfz34_2
          try clear hfz34_3
          try clear hfz34_4
          try clear hfz34_5
          try clear hfz34_6
          try clear hfz34_7
          try clear hfz34_8
          try clear hfz34_9
          try clear hfz39_0
          try clear hfz39_1
          try clear hfz39_10
          try clear hfz39_11
          try clear hfz39_12
          try clear hfz39_2
          try clear hfz39_3
          try clear hfz39_4
          try clear hfz39_5
          try clear hfz39_6
          try clear hfz39_7
          try clear hfz39_8
          try clear hfz39_9
          try clear hfz43_0
          try clear hfz43_1
          try clear hfz43_10
          try clear hfz43_11
          try clear hfz43_12
          try clear hfz43_2
          try clear hfz43_3
          try clear hfz43_4
          try clear hfz43_5
          try clear hfz43_6
          try clear hfz43_7
          try clear hfz43_8
          try clear hfz43_9
          try clear hfz46_0
          try clear hfz46_1
          try clear hfz46_10
          try clear hfz46_11
          try clear hfz46_12
          try clear hfz46_2
          try clear hfz46_3
          try clear hfz46_4
          try clear hfz46_5
          try clear hfz46_6
          try clear hfz46_7
          try clear hfz46_8
          try clear hfz46_9
          try clear hfz49_0
          try clear hfz49_1
          try clear hfz49_10
          try clear hfz49_11
          try clear hfz49_12
          try clear hfz49_2
          try clear hfz49_3
          try clear hfz49_4
          try clear hfz49_5
          try clear hfz49_6
          try clear hfz49_7
          try clear hfz49_8
          try clear hfz49_9
          try clear hfz51_0
          try clear hfz51_1
          try clear hfz51_10
          try clear hfz51_11
          try clear hfz51_12
          try clear hfz51_2
          try clear hfz51_3
          try clear hfz51_4
          try clear hfz51_5
          try clear hfz51_6
          try clear hfz51_7
          try clear hfz51_8
          try clear hfz51_9
          try clear p2
          obtain ⟨kq, x86_21, rfl, HA, HJ21, BK224, BK241, HB⟩ := hcut
          cases kq with
          | zero => exact absurd HA.out (by simp [knelllaw23_BackoffGrows.j1])
          | succ kj21 =>
            have H := HA.out
            clear HA
            simp only [knelllaw23_BackoffGrows.j1] at H
            by_cases c52 : x86_21 = true
            · subst c52
              have H1 : (some false) = some r := by rw [if_pos rfl] at H; exact H
              clear H
              have H := H1
              clear H1
              obtain rfl := Option.some.inj H
              go_wp2
              go_ret
              exact ⟨by first | rfl | (simp [errW_none, errW_some] <;> rfl) | (simp [*, errW_none, errW_some] <;> rfl), by repeat (first | (with_reducible first | exact HB.out | apply below_alloc | apply pw_below_drewN | apply below_drew1 | refine below_set ?_ GE224.out | refine below_set ?_ GE241.out) | exact HB.out)⟩
            · replace c52 := Bool.eq_false_iff.mpr c52
              subst c52
              have H1 : (if t245 = (mn (wrap64 ((wrap64 ((wrap64 (a1)) + t242)) + t244)) 1073741823) then ((backoff_Idle.f kj21 t228 t229 t230 t231 t232 t233 t234 t235 t236 t237 t238 t239 t240 (wrap64 (a1))).bind fun t246 => (if t246 ≥ (wrap64 (a1)) then ((backoff_All.f kj21 t228 t229 t230 t231 t232 t233 t234 t235 t236 t237 t238 t239 t240).bind fun t247 => (some ((t247.length : Int) == t240))) else (some false))) else (some false)) = some r := by rw [if_neg (show ¬ (false = true) by decide)] at H; exact H
              clear H
              have H := H1
              clear H1
              obtain ⟨ji53, hji53⟩ : ∃ j_ : Int, (mn (wrap64 ((wrap64 ((wrap64 (a1)) + t242)) + t244)) 1073741823) = j_ := ⟨_, rfl⟩
              replace H : (if t245 = (ji53) then ((backoff_Idle.f kj21 t228 t229 t230 t231 t232 t233 t234 t235 t236 t237 t238 t239 t240 (wrap64 (a1))).bind fun t246 => (if t246 ≥ (wrap64 (a1)) then ((backoff_All.f kj21 t228 t229 t230 t231 t232 t233 t234 t235 t236 t237 t238 t239 t240).bind fun t247 => (some ((t247.length : Int) == t240))) else (some false))) else (some false)) = some r := by first | (rw [hji53] at H; exact H) | (simp only [hji53] at H ⊢; exact H)
              have hji53_ : (if 1073741823 < (wrap64 ((wrap64 ((wrap64 (a1)) + t242)) + t244)) then 1073741823 else (wrap64 ((wrap64 ((wrap64 (a1)) + t242)) + t244))) = ji53 := hji53
              by_cases c54 : t245 = (ji53)
              · rw [if_pos c54] at H
                have c54b0 : (t245 == (ji53)) = true := beq_iff_eq.mpr c54
                have c54b1 : (t245 != (ji53)) = false := bne_eq_false_iff_eq.mpr c54
                clear c54
                replace H := Option.bind_eq_some_iff.mp H
                obtain ⟨t246, A550, H⟩ := H
                replace H : (if t246 ≥ (wrap64 (a1)) then ((backoff_All.f kj21 t228 t229 t230 t231 t232 t233 t234 t235 t236 t237 t238 t239 t240).bind fun t247 => (some ((t247.length : Int) == t240))) else (some false)) = some r := H
                have A55 := Aside0.mk A550
                clear A550
                by_cases c56 : t246 ≥ (wrap64 (a1))
                · rw [if_pos c56] at H
                  have c56b0 : decide ((wrap64 (a1)) ≤ t246) = true := decide_eq_true c56
                  clear c56
                  replace H := Option.bind_eq_some_iff.mp H
                  obtain ⟨t247, A570, H⟩ := H
                  replace H : (some ((t247.length : Int) == t240)) = some r := H
                  have A57 := Aside0.mk A570
                  clear A570
                  obtain rfl := Option.some.inj H
                  try go_wp2
                  have n0_ := Aside0.mk (blk_drew BK224.out)
                  have n1_ := Aside0.mk (blk_drew BK241.out)
                  have n2_ := Aside0.mk (below_drew1 HB.out)
                  clear BK224
                  clear BK241
                  clear HB
                  have BK224 := n0_
                  have BK241 := n1_
                  have HB := n2_
                  clear n0_ n1_ n2_
                  refine start_ (n := 27) (S := fun w' => w'.cell? ⟨gb241, 0, none⟩ = some (.int .i64 t228) ∧ w'.cell? ⟨gb241, 1, none⟩ = some (.int .i64 t229) ∧ w'.cell? ⟨gb241, 2, none⟩ = some (.int .i64 t230) ∧ w'.cell? ⟨gb241, 3, none⟩ = some (.int .i64 t231) ∧ w'.cell? ⟨gb241, 4, none⟩ = some (.int .i64 t232) ∧ w'.cell? ⟨gb241, 5, none⟩ = some (.int .i64 t233) ∧ w'.cell? ⟨gb241, 6, none⟩ = some (.int .i64 t234) ∧ w'.cell? ⟨gb241, 7, none⟩ = some (.int .i64 t235) ∧ w'.cell? ⟨gb241, 8, none⟩ = some (.int .i64 t236) ∧ w'.cell? ⟨gb241, 9, none⟩ = some (.int .i64 t237) ∧ w'.cell? ⟨gb241, 10, none⟩ = some (.int .i64 t238) ∧ w'.cell? ⟨gb241, 11, none⟩ = some (.int .i64 t239) ∧ w'.cell? ⟨gb241, 12, none⟩ = some (.int .i64 t240)) (ds := []) #[false, false, false, false, false, false, false, false, false, false, false, false, false, false, false, false, false, false, false, false, false, false, false, false, false, false, false] (by kernel_rfl) rfl rfl ⟨(blk_cell BK241.out 0).trans rfl, (blk_cell BK241.out 1).trans rfl, (blk_cell BK241.out 2).trans rfl, (blk_cell BK241.out 3).trans rfl, (blk_cell BK241.out 4).trans rfl, (blk_cell BK241.out 5).trans rfl, (blk_cell BK241.out 6).trans rfl, (blk_cell BK241.out 7).trans rfl, (blk_cell BK241.out 8).trans rfl, (blk_cell BK241.out 9).trans rfl, (blk_cell BK241.out 10).trans rfl, (blk_cell BK241.out 11).trans rfl, (blk_cell BK241.out 12).trans rfl⟩ (fun hHeld => ?_); refine with_tabW knelllaw23_BackoffGrows.tab9 knelllaw23_BackoffGrows.bits9 (fun HT_ HW_ => ?_)
                  generalize wc.drew = w58 at BK224 BK241 HB hHeld ⊢
                  refine pure_ (i := 0) (N := some 87) (v := ?_) (a' := ?_) #[true, false, false, false, false, false, false, false, false, false, false, false, false, false, false, false, false, false, false, false, false, false, false, false, false, false, false] rfl rfl (any_of HT_.out (by kernel_rfl)) (fun _ _ _ h => h) (Or.inl ⟨by rfl, ?_⟩) ?_ ?_
                  rotate_left
                  · intro w'
                    go_simp
                    with_reducible rfl
                  rotate_left
                  · simp only [Act.put, List.setIfInBounds_toArray, List.set_cons_zero, List.set_cons_succ, i64_w, i32_w]
                    rfl
                  refine pure_ (i := 1) (N := some 88) (v := ?_) (a' := ?_) #[true, true, false, false, false, false, false, false, false, false, false, false, false, false, false, false, false, false, false, false, false, false, false, false, false, false, false] rfl rfl (any_of HT_.out (by kernel_rfl)) (fun _ _ _ h => h) (Or.inl ⟨by rfl, ?_⟩) ?_ ?_
                  rotate_left
                  · intro w'
                    go_simp
                    with_reducible rfl
                  rotate_left
                  · simp only [Act.put, List.setIfInBounds_toArray, List.set_cons_zero, List.set_cons_succ, i64_w, i32_w]
                    rfl
                  refine pure_ (i := 2) (N := some 89) (v := ?_) (a' := ?_) #[true, true, true, false, false, false, false, false, false, false, false, false, false, false, false, false, false, false, false, false, false, false, false, false, false, false, false] rfl rfl (any_of HT_.out (by kernel_rfl)) (fun _ _ _ h => h) (Or.inl ⟨by rfl, ?_⟩) ?_ ?_
                  rotate_left
                  · intro w'
                    go_simp
                    with_reducible rfl
                  rotate_left
                  · simp only [Act.put, List.setIfInBounds_toArray, List.set_cons_zero, List.set_cons_succ, i64_w, i32_w]
                    rfl
                  refine pure_ (i := 3) (N := some 90) (v := ?_) (a' := ?_) #[true, true, true, true, false, false, false, false, false, false, false, false, false, false, false, false, false, false, false, false, false, false, false, false, false, false, false] rfl rfl (any_of HT_.out (by kernel_rfl)) (fun _ _ _ h => h) (Or.inl ⟨by rfl, ?_⟩) ?_ ?_
                  rotate_left
                  · intro w'
                    go_simp
                    with_reducible rfl
                  rotate_left
                  · simp only [Act.put, List.setIfInBounds_toArray, List.set_cons_zero, List.set_cons_succ, i64_w, i32_w]
                    rfl
                  refine pure_ (i := 4) (N := some 91) (v := ?_) (a' := ?_) #[true, true, true, true, true, false, false, false, false, false, false, false, false, false, false, false, false, false, false, false, false, false, false, false, false, false, false] rfl rfl (any_of HT_.out (by kernel_rfl)) (fun _ _ _ h => h) (Or.inl ⟨by rfl, ?_⟩) ?_ ?_
                  rotate_left
                  · intro w'
                    go_simp
                    with_reducible rfl
                  rotate_left
                  · simp only [Act.put, List.setIfInBounds_toArray, List.set_cons_zero, List.set_cons_succ, i64_w, i32_w]
                    rfl
                  refine pure_ (i := 5) (N := some 92) (v := ?_) (a' := ?_) #[true, true, true, true, true, true, false, false, false, false, false, false, false, false, false, false, false, false, false, false, false, false, false, false, false, false, false] rfl rfl (any_of HT_.out (by kernel_rfl)) (fun _ _ _ h => h) (Or.inl ⟨by rfl, ?_⟩) ?_ ?_
                  rotate_left
                  · intro w'
                    go_simp
                    with_reducible rfl
                  rotate_left
                  · simp only [Act.put, List.setIfInBounds_toArray, List.set_cons_zero, List.set_cons_succ, i64_w, i32_w]
                    rfl
                  refine pure_ (i := 6) (N := some 93) (v := ?_) (a' := ?_) #[true, true, true, true, true, true, true, false, false, false, false, false, false, false, false, false, false, false, false, false, false, false, false, false, false, false, false] rfl rfl (any_of HT_.out (by kernel_rfl)) (fun _ _ _ h => h) (Or.inl ⟨by rfl, ?_⟩) ?_ ?_
                  rotate_left
                  · intro w'
                    go_simp
                    with_reducible rfl
                  rotate_left
                  · simp only [Act.put, List.setIfInBounds_toArray, List.set_cons_zero, List.set_cons_succ, i64_w, i32_w]
                    rfl
                  refine pure_ (i := 7) (N := some 94) (v := ?_) (a' := ?_) #[true, true, true, true, true, true, true, true, false, false, false, false, false, false, false, false, false, false, false, false, false, false, false, false, false, false, false] rfl rfl (any_of HT_.out (by kernel_rfl)) (fun _ _ _ h => h) (Or.inl ⟨by rfl, ?_⟩) ?_ ?_
                  rotate_left
                  · intro w'
                    go_simp
                    with_reducible rfl
                  rotate_left
                  · simp only [Act.put, List.setIfInBounds_toArray, List.set_cons_zero, List.set_cons_succ, i64_w, i32_w]
                    rfl
                  refine pure_ (i := 8) (N := some 95) (v := ?_) (a' := ?_) #[true, true, true, true, true, true, true, true, true, false, false, false, false, false, false, false, false, false, false, false, false, false, false, false, false, false, false] rfl rfl (any_of HT_.out (by kernel_rfl)) (fun _ _ _ h => h) (Or.inl ⟨by rfl, ?_⟩) ?_ ?_
                  rotate_left
                  · intro w'
                    go_simp
                    with_reducible rfl
                  rotate_left
                  · simp only [Act.put, List.setIfInBounds_toArray, List.set_cons_zero, List.set_cons_succ, i64_w, i32_w]
                    rfl
                  refine pure_ (i := 9) (N := some 96) (v := ?_) (a' := ?_) #[true, true, true, true, true, true, true, true, true, true, false, false, false, false, false, false, false, false, false, false, false, false, false, false, false, false, false] rfl rfl (any_of HT_.out (by kernel_rfl)) (fun _ _ _ h => h) (Or.inl ⟨by rfl, ?_⟩) ?_ ?_
                  rotate_left
                  · intro w'
                    go_simp
                    with_reducible rfl
                  rotate_left
                  · simp only [Act.put, List.setIfInBounds_toArray, List.set_cons_zero, List.set_cons_succ, i64_w, i32_w]
                    rfl
                  refine pure_ (i := 11) (N := some 98) (v := ?_) (a' := ?_) #[true, true, true, true, true, true, true, true, true, true, false, true, false, false, false, false, false, false, false, false, false, false, false, false, false, false, false] rfl rfl (any_of HT_.out (by kernel_rfl)) (fun _ _ _ h => h) (Or.inl ⟨by rfl, ?_⟩) ?_ ?_
                  rotate_left
                  · intro w'
                    go_simp
                    with_reducible rfl
                  rotate_left
                  · simp only [Act.put, List.setIfInBounds_toArray, List.set_cons_zero, List.set_cons_succ, i64_w, i32_w]
                    rfl
                  refine pure_ (i := 12) (N := some 99) (v := ?_) (a' := ?_) #[true, true, true, true, true, true, true, true, true, true, false, true, true, false, false, false, false, false, false, false, false, false, false, false, false, false, false] rfl rfl (any_of HT_.out (by kernel_rfl)) (fun _ _ _ h => h) (Or.inl ⟨by rfl, ?_⟩) ?_ ?_
                  rotate_left
                  · intro w'
                    go_simp
                    with_reducible rfl
                  rotate_left
                  · simp only [Act.put, List.setIfInBounds_toArray, List.set_cons_zero, List.set_cons_succ, i64_w, i32_w]
                    rfl
                  refine pure_ (i := 14) (N := some 101) (v := ?_) (a' := ?_) #[true, true, true, true, true, true, true, true, true, true, false, true, true, false, true, false, false, false, false, false, false, false, false, false, false, false, false] rfl rfl (any_of HT_.out (by kernel_rfl)) (fun _ _ _ h => h) (Or.inl ⟨by rfl, ?_⟩) ?_ ?_
                  rotate_left
                  · intro w'
                    go_simp
                    with_reducible rfl
                  rotate_left
                  · simp only [Act.put, List.setIfInBounds_toArray, List.set_cons_zero, List.set_cons_succ, i64_w, i32_w]
                    rfl
                  refine pure_ (i := 15) (N := some 102) (v := ?_) (a' := ?_) #[true, true, true, true, true, true, true, true, true, true, false, true, true, false, true, true, false, false, false, false, false, false, false, false, false, false, false] rfl rfl (any_of HT_.out (by kernel_rfl)) (fun _ _ _ h => h) (Or.inl ⟨by rfl, ?_⟩) ?_ ?_
                  rotate_left
                  · intro w'
                    go_simp
                    with_reducible rfl
                  rotate_left
                  · simp only [Act.put, List.setIfInBounds_toArray, List.set_cons_zero, List.set_cons_succ, i64_w, i32_w]
                    rfl
                  refine take_ (i := 10) (N := some 97) (v := ?_) (a' := ?_) #[true, true, true, true, true, true, true, true, true, true, true, true, true, false, true, true, false, false, false, false, false, false, false, false, false, false, false] rfl rfl (take_ofW HT_.out HW_.out (by kernel_rfl)) (fun _ _ _ h => h) (Or.inl ⟨by rfl, ?_⟩) hHeld ?_ ?_
                  rotate_left
                  · rintro w' ⟨s0, s1, s2, s3, s4, s5, s6, s7, s8, s9, s10, s11, s12⟩
                    go_simp
                    with_reducible rfl
                  rotate_left
                  · simp only [Act.put, List.setIfInBounds_toArray, List.set_cons_zero, List.set_cons_succ, i64_w, i32_w]
                    rfl
                  refine one_ (i := 13) (N := some 100) #[true, true, true, true, true, true, true, true, true, true, true, true, true, true, true, true, false, false, false, false, false, false, false, false, false, false, false] rfl rfl (one_of HT_.out (by kernel_rfl)) (by decide) (fun K hK => ?_)
                  refine goes_ Try.func31 (by kernel_rfl) rfl #[.agg #[.int .i64 t228, .int .i64 t229, .int .i64 t230, .int .i64 t231, .int .i64 t232, .int .i64 t233, .int .i64 t234, .int .i64 t235, .int .i64 t236, .int .i64 t237, .int .i64 t238, .int .i64 t239, .int .i64 t240], .int .i64 (wrap64 (a1))] (by rfl) rfl rfl (by (try simp only [List.map_toArray, List.map_cons, List.map_nil]); first | done | rfl | (simp only [List.length_drop, List.length_take]; rfl)) ?_
                  with_reducible refine (backoff_Idle.calls kj21 t228 t229 t230 t231 t232 t233 t234 t235 t236 t237 t238 t239 t240 (wrap64 (a1)) t246 _ A55.out).mono ?_
                  rintro e w59 ⟨rfl, hb⟩
                  refine ⟨_, rfl, ?_⟩
                  have n0_ := Aside0.mk (blk_below (g := gb224) (o := .cells #[.int .i64 a0_0, .int .i64 a0_1, .int .i64 a0_2, .int .i64 a0_3, .int .i64 a0_4, .int .i64 a0_5, .int .i64 a0_6, .int .i64 a0_7, .int .i64 a0_8, .int .i64 a0_9, .int .i64 a0_10, .int .i64 a0_11, .int .i64 a0_12] 33 (0, 0)) (by (with_reducible repeat (first | refine blk_drewN ?_ _ | refine blk_drew ?_ | refine blk_alloc ?_ _)); exact BK224.out) hb)
                  have n1_ := Aside0.mk (blk_below (g := gb241) (o := .cells #[.int .i64 t228, .int .i64 t229, .int .i64 t230, .int .i64 t231, .int .i64 t232, .int .i64 t233, .int .i64 t234, .int .i64 t235, .int .i64 t236, .int .i64 t237, .int .i64 t238, .int .i64 t239, .int .i64 t240] 36 (0, 0)) (by (with_reducible repeat (first | refine blk_drewN ?_ _ | refine blk_drew ?_ | refine blk_alloc ?_ _)); exact BK241.out) hb)
                  have n2_ := Aside0.mk (below_step (by repeat (first | (with_reducible first | exact HB.out | apply below_alloc | apply pw_below_drewN | apply below_drew1 | refine below_set ?_ GE224.out | refine below_set ?_ GE241.out) | exact HB.out)) hb)
                  clear BK224
                  clear BK241
                  clear HB
                  have BK224 := n0_
                  have BK241 := n1_
                  have HB := n2_
                  clear n0_ n1_ n2_
                  (try clear hb)
                  (try clear hb2)
                  (try clear hk)
                  (try clear hi)
                  refine hK.out _ _ ⟨(blk_cell BK241.out 0).trans rfl, (blk_cell BK241.out 1).trans rfl, (blk_cell BK241.out 2).trans rfl, (blk_cell BK241.out 3).trans rfl, (blk_cell BK241.out 4).trans rfl, (blk_cell BK241.out 5).trans rfl, (blk_cell BK241.out 6).trans rfl, (blk_cell BK241.out 7).trans rfl, (blk_cell BK241.out 8).trans rfl, (blk_cell BK241.out 9).trans rfl, (blk_cell BK241.out 10).trans rfl, (blk_cell BK241.out 11).trans rfl, (blk_cell BK241.out 12).trans rfl⟩ (fun hHeld => ?_)
                  clear hK K
                  refine norm_ (a' := ?_) ?_ ?_
                  rotate_left
                  · show Act.put _ (some 100) _ = _
                    simp only [Act.put, List.setIfInBounds_toArray, List.set_cons_zero, List.set_cons_succ, i64_w, i32_w]
                    rfl
                  refine pure_ (i := 16) (N := some 103) (v := ?_) (a' := ?_) #[true, true, true, true, true, true, true, true, true, true, true, true, true, true, true, true, true, false, false, false, false, false, false, false, false, false, false] rfl rfl (any_of HT_.out (by kernel_rfl)) (fun _ _ _ h => h) (Or.inl ⟨by rfl, ?_⟩) ?_ ?_
                  rotate_left
                  · intro w'
                    go_simp
                    with_reducible rfl
                  rotate_left
                  · simp only [Act.put, List.setIfInBounds_toArray, List.set_cons_zero, List.set_cons_succ, i64_w, i32_w]
                    rfl
                  refine pure_ (i := 17) (N := some 104) (v := ?_) (a' := ?_) #[true, true, true, true, true, true, true, true, true, true, true, true, true, true, true, true, true, true, false, false, false, false, false, false, false, false, false] rfl rfl (any_of HT_.out (by kernel_rfl)) (fun _ _ _ h => h) (Or.inl ⟨by rfl, ?_⟩) ?_ ?_
                  rotate_left
                  · intro w'
                    go_simp
                    with_reducible rfl
                  rotate_left
                  · simp only [Act.put, List.setIfInBounds_toArray, List.set_cons_zero, List.set_cons_succ, i64_w, i32_w]
                    rfl
                  refine pure_ (i := 18) (N := some 105) (v := ?_) (a' := ?_) #[true, true, true, true, true, true, true, true, true, true, true, true, true, true, true, true, true, true, true, false, false, false, false, false, false, false, false] rfl rfl (any_of HT_.out (by kernel_rfl)) (fun _ _ _ h => h) (Or.inl ⟨by rfl, ?_⟩) ?_ ?_
                  rotate_left
                  · intro w'
                    go_simp
                    with_reducible rfl
                  rotate_left
                  · simp only [Act.put, List.setIfInBounds_toArray, List.set_cons_zero, List.set_cons_succ, i64_w, i32_w]
                    rfl
                  refine pure_ (i := 22) (N := some 109) (v := ?_) (a' := ?_) #[true, true, true, true, true, true, true, true, true, true, true, true, true, true, true, true, true, true, true, false, false, false, true, false, false, false, false] rfl rfl (any_of HT_.out (by kernel_rfl)) (fun _ _ _ h => h) (Or.inl ⟨by rfl, ?_⟩) ?_ ?_
                  rotate_left
                  · intro w'
                    go_simp
                    with_reducible rfl
                  rotate_left
                  · simp only [Act.put, List.setIfInBounds_toArray, List.set_cons_zero, List.set_cons_succ, i64_w, i32_w]
                    rfl
                  refine take_ (i := 19) (N := some 106) (v := ?_) (a' := ?_) #[true, true, true, true, true, true, true, true, true, true, true, true, true, true, true, true, true, true, true, true, false, false, true, false, false, false, false] rfl rfl (take_ofW HT_.out HW_.out (by kernel_rfl)) (fun _ _ _ h => h) (Or.inl ⟨by rfl, ?_⟩) hHeld ?_ ?_
                  rotate_left
                  · rintro w' ⟨s0, s1, s2, s3, s4, s5, s6, s7, s8, s9, s10, s11, s12⟩
                    go_simp
                    with_reducible rfl
                  rotate_left
                  · simp only [Act.put, List.setIfInBounds_toArray, List.set_cons_zero, List.set_cons_succ, i64_w, i32_w]
                    rfl
                  refine take_ (i := 23) (N := some 110) (v := ?_) (a' := ?_) #[true, true, true, true, true, true, true, true, true, true, true, true, true, true, true, true, true, true, true, true, false, false, true, true, false, false, false] rfl rfl (take_ofW HT_.out HW_.out (by kernel_rfl)) (fun _ _ _ h => h) (Or.inl ⟨by rfl, ?_⟩) hHeld ?_ ?_
                  rotate_left
                  · rintro w' ⟨s0, s1, s2, s3, s4, s5, s6, s7, s8, s9, s10, s11, s12⟩
                    go_simp
                    with_reducible rfl
                  rotate_left
                  · simp only [Act.put, List.setIfInBounds_toArray, List.set_cons_zero, List.set_cons_succ, i64_w, i32_w]
                    rfl
                  refine one_ (i := 20) (N := some 107) #[true, true, true, true, true, true, true, true, true, true, true, true, true, true, true, true, true, true, true, true, true, false, true, true, false, false, false] rfl rfl (one_of HT_.out (by kernel_rfl)) (by decide) (fun K hK => ?_)
                  refine goes_ Try.func24 (by kernel_rfl) rfl #[.agg #[.int .i64 t228, .int .i64 t229, .int .i64 t230, .int .i64 t231, .int .i64 t232, .int .i64 t233, .int .i64 t234, .int .i64 t235, .int .i64 t236, .int .i64 t237, .int .i64 t238, .int .i64 t239, .int .i64 t240]] (by rfl) rfl rfl (by (try simp only [List.map_toArray, List.map_cons, List.map_nil]); first | done | rfl | (simp only [List.length_drop, List.length_take]; rfl)) ?_
                  with_reducible refine (backoff_All.calls kj21 t228 t229 t230 t231 t232 t233 t234 t235 t236 t237 t238 t239 t240 t247 _ A57.out).mono ?_
                  rintro e w60 ⟨v248, rfl, ho0, hb⟩
                  refine ⟨_, rfl, ?_⟩
                  have n0_ := Aside0.mk (Kd.R_lower ho0 (below_size (by repeat (first | (with_reducible first | exact HB.out | apply below_alloc | apply pw_below_drewN | apply below_drew1 | refine below_set ?_ GE224.out | refine below_set ?_ GE241.out) | exact HB.out))))
                  have n1_ := Aside0.mk (blk_below (g := gb224) (o := .cells #[.int .i64 a0_0, .int .i64 a0_1, .int .i64 a0_2, .int .i64 a0_3, .int .i64 a0_4, .int .i64 a0_5, .int .i64 a0_6, .int .i64 a0_7, .int .i64 a0_8, .int .i64 a0_9, .int .i64 a0_10, .int .i64 a0_11, .int .i64 a0_12] 33 (0, 0)) (by (with_reducible repeat (first | refine blk_drewN ?_ _ | refine blk_drew ?_ | refine blk_alloc ?_ _)); exact BK224.out) hb)
                  have n2_ := Aside0.mk (blk_below (g := gb241) (o := .cells #[.int .i64 t228, .int .i64 t229, .int .i64 t230, .int .i64 t231, .int .i64 t232, .int .i64 t233, .int .i64 t234, .int .i64 t235, .int .i64 t236, .int .i64 t237, .int .i64 t238, .int .i64 t239, .int .i64 t240] 36 (0, 0)) (by (with_reducible repeat (first | refine blk_drewN ?_ _ | refine blk_drew ?_ | refine blk_alloc ?_ _)); exact BK241.out) hb)
                  have n3_ := Aside0.mk (below_step (by repeat (first | (with_reducible first | exact HB.out | apply below_alloc | apply pw_below_drewN | apply below_drew1 | refine below_set ?_ GE224.out | refine below_set ?_ GE241.out) | exact HB.out)) hb)
                  clear BK224
                  clear BK241
                  clear HB
                  have HO249 := n0_
                  have BK224 := n1_
                  have BK241 := n2_
                  have HB := n3_
                  clear n0_ n1_ n2_ n3_
                  (try clear hb)
                  (try clear hb2)
                  (try clear hk)
                  (try clear hi)
                  (try clear ho0)
                  obtain ⟨Ao61, co61, eo61⟩ := Kd.R_slice HO249.out
                  (first | subst eo61 | (injection eo61 with f1_ f2_ f3_; have f4_ := f1_.symm; have f5_ := f3_.symm; clear f1_ f2_ f3_; subst f4_; subst f5_))
                  refine hK.out _ _ ⟨(blk_cell BK241.out 0).trans rfl, (blk_cell BK241.out 1).trans rfl, (blk_cell BK241.out 2).trans rfl, (blk_cell BK241.out 3).trans rfl, (blk_cell BK241.out 4).trans rfl, (blk_cell BK241.out 5).trans rfl, (blk_cell BK241.out 6).trans rfl, (blk_cell BK241.out 7).trans rfl, (blk_cell BK241.out 8).trans rfl, (blk_cell BK241.out 9).trans rfl, (blk_cell BK241.out 10).trans rfl, (blk_cell BK241.out 11).trans rfl, (blk_cell BK241.out 12).trans rfl⟩ (fun hHeld => ?_)
                  clear hK K
                  refine norm_ (a' := ?_) ?_ ?_
                  rotate_left
                  · show Act.put _ (some 107) _ = _
                    simp only [Act.put, List.setIfInBounds_toArray, List.set_cons_zero, List.set_cons_succ, i64_w, i32_w]
                    rfl
                  refine pure_ (i := 21) (N := some 108) (v := ?_) (a' := ?_) #[true, true, true, true, true, true, true, true, true, true, true, true, true, true, true, true, true, true, true, true, true, true, true, true, false, false, false] rfl rfl (any_of HT_.out (by kernel_rfl)) (fun _ _ _ h => h) (Or.inl ⟨by rfl, ?_⟩) ?_ ?_
                  rotate_left
                  · intro w'
                    go_simp
                    with_reducible rfl
                  rotate_left
                  · simp only [Act.put, List.setIfInBounds_toArray, List.set_cons_zero, List.set_cons_succ, i64_w, i32_w]
                    rfl
                  refine pure_ (i := 24) (N := some 111) (v := ?_) (a' := ?_) #[true, true, true, true, true, true, true, true, true, true, true, true, true, true, true, true, true, true, true, true, true, true, true, true, true, false, false] rfl rfl (any_of HT_.out (by kernel_rfl)) (fun _ _ _ h => h) (Or.inl ⟨by rfl, ?_⟩) ?_ ?_
                  rotate_left
                  · intro w'
                    go_simp
                    with_reducible rfl
                  rotate_left
                  · simp only [Act.put, List.setIfInBounds_toArray, List.set_cons_zero, List.set_cons_succ, i64_w, i32_w]
                    rfl
                  refine pure_ (i := 25) (N := some 112) (v := ?_) (a' := ?_) #[true, true, true, true, true, true, true, true, true, true, true, true, true, true, true, true, true, true, true, true, true, true, true, true, true, true, false] rfl rfl (any_of HT_.out (by kernel_rfl)) (fun _ _ _ h => h) (Or.inl ⟨by rfl, ?_⟩) ?_ ?_
                  rotate_left
                  · intro w'
                    go_simp
                    with_reducible rfl
                  rotate_left
                  · simp only [Act.put, List.setIfInBounds_toArray, List.set_cons_zero, List.set_cons_succ, i64_w, i32_w]
                    rfl
                  refine pure_ (i := 26) (N := some 8) (v := ?_) (a' := ?_) #[true, true, true, true, true, true, true, true, true, true, true, true, true, true, true, true, true, true, true, true, true, true, true, true, true, true, true] rfl rfl (any_of HT_.out (by kernel_rfl)) (fun _ _ _ h => h) (Or.inl ⟨by rfl, ?_⟩) ?_ ?_
                  rotate_left
                  · intro w'
                    go_simp
                    with_reducible rfl
                  rotate_left
                  · simp only [Act.put, List.setIfInBounds_toArray, List.set_cons_zero, List.set_cons_succ, i64_w, i32_w]
                    rfl
                  refine done_ (done_of HT_.out (by kernel_rfl)) ?_
                  try go_wp2
                  go_ret
                  exact ⟨by first | rfl | (simp [errW_none, errW_some] <;> rfl) | (simp only [← hji53]; first | rfl | (simp [errW_none, errW_some] <;> rfl)) | (simp [*, errW_none, errW_some] <;> rfl), by repeat (first | (with_reducible first | exact HB.out | apply below_alloc | apply pw_below_drewN | apply below_drew1 | refine below_set ?_ GE224.out | refine below_set ?_ GE241.out) | exact HB.out)⟩
                · rw [if_neg c56] at H
                  have c56b0 : decide ((wrap64 (a1)) ≤ t246) = false := decide_eq_false c56
                  clear c56
                  obtain rfl := Option.some.inj H
                  try go_wp2
                  have n0_ := Aside0.mk (blk_drew BK224.out)
                  have n1_ := Aside0.mk (blk_drew BK241.out)
                  have n2_ := Aside0.mk (below_drew1 HB.out)
                  clear BK224
                  clear BK241
                  clear HB
                  have BK224 := n0_
                  have BK241 := n1_
                  have HB := n2_
                  clear n0_ n1_ n2_
                  refine start_ (n := 27) (S := fun w' => w'.cell? ⟨gb241, 0, none⟩ = some (.int .i64 t228) ∧ w'.cell? ⟨gb241, 1, none⟩ = some (.int .i64 t229) ∧ w'.cell? ⟨gb241, 2, none⟩ = some (.int .i64 t230) ∧ w'.cell? ⟨gb241, 3, none⟩ = some (.int .i64 t231) ∧ w'.cell? ⟨gb241, 4, none⟩ = some (.int .i64 t232) ∧ w'.cell? ⟨gb241, 5, none⟩ = some (.int .i64 t233) ∧ w'.cell? ⟨gb241, 6, none⟩ = some (.int .i64 t234) ∧ w'.cell? ⟨gb241, 7, none⟩ = some (.int .i64 t235) ∧ w'.cell? ⟨gb241, 8, none⟩ = some (.int .i64 t236) ∧ w'.cell? ⟨gb241, 9, none⟩ = some (.int .i64 t237) ∧ w'.cell? ⟨gb241, 10, none⟩ = some (.int .i64 t238) ∧ w'.cell? ⟨gb241, 11, none⟩ = some (.int .i64 t239) ∧ w'.cell? ⟨gb241, 12, none⟩ = some (.int .i64 t240)) (ds := []) #[false, false, false, false, false, false, false, false, false, false, false, false, false, false, false, false, false, false, false, false, false, false, false, false, false, false, false] (by kernel_rfl) rfl rfl ⟨(blk_cell BK241.out 0).trans rfl, (blk_cell BK241.out 1).trans rfl, (blk_cell BK241.out 2).trans rfl, (blk_cell BK241.out 3).trans rfl, (blk_cell BK241.out 4).trans rfl, (blk_cell BK241.out 5).trans rfl, (blk_cell BK241.out 6).trans rfl, (blk_cell BK241.out 7).trans rfl, (blk_cell BK241.out 8).trans rfl, (blk_cell BK241.out 9).trans rfl, (blk_cell BK241.out 10).trans rfl, (blk_cell BK241.out 11).trans rfl, (blk_cell BK241.out 12).trans rfl⟩ (fun hHeld => ?_); refine with_tabW knelllaw23_BackoffGrows.tab9 knelllaw23_BackoffGrows.bits9 (fun HT_ HW_ => ?_)
                  generalize wc.drew = w62 at BK224 BK241 HB hHeld ⊢
                  refine pure_ (i := 0) (N := some 87) (v := ?_) (a' := ?_) #[true, false, false, false, false, false, false, false, false, false, false, false, false, false, false, false, false, false, false, false, false, false, false, false, false, false, false] rfl rfl (any_of HT_.out (by kernel_rfl)) (fun _ _ _ h => h) (Or.inl ⟨by rfl, ?_⟩) ?_ ?_
                  rotate_left
                  · intro w'
                    go_simp
                    with_reducible rfl
                  rotate_left
                  · simp only [Act.put, List.setIfInBounds_toArray, List.set_cons_zero, List.set_cons_succ, i64_w, i32_w]
                    rfl
                  refine pure_ (i := 1) (N := some 88) (v := ?_) (a' := ?_) #[true, true, false, false, false, false, false, false, false, false, false, false, false, false, false, false, false, false, false, false, false, false, false, false, false, false, false] rfl rfl (any_of HT_.out (by kernel_rfl)) (fun _ _ _ h => h) (Or.inl ⟨by rfl, ?_⟩) ?_ ?_
                  rotate_left
                  · intro w'
                    go_simp
                    with_reducible rfl
                  rotate_left
                  · simp only [Act.put, List.setIfInBounds_toArray, List.set_cons_zero, List.set_cons_succ, i64_w, i32_w]
                    rfl
                  refine pure_ (i := 2) (N := some 89) (v := ?_) (a' := ?_) #[true, true, true, false, false, false, false, false, false, false, false, false, false, false, false, false, false, false, false, false, false, false, false, false, false, false, false] rfl rfl (any_of HT_.out (by kernel_rfl)) (fun _ _ _ h => h) (Or.inl ⟨by rfl, ?_⟩) ?_ ?_
                  rotate_left
                  · intro w'
                    go_simp
                    with_reducible rfl
                  rotate_left
                  · simp only [Act.put, List.setIfInBounds_toArray, List.set_cons_zero, List.set_cons_succ, i64_w, i32_w]
                    rfl
                  refine pure_ (i := 3) (N := some 90) (v := ?_) (a' := ?_) #[true, true, true, true, false, false, false, false, false, false, false, false, false, false, false, false, false, false, false, false, false, false, false, false, false, false, false] rfl rfl (any_of HT_.out (by kernel_rfl)) (fun _ _ _ h => h) (Or.inl ⟨by rfl, ?_⟩) ?_ ?_
                  rotate_left
                  · intro w'
                    go_simp
                    with_reducible rfl
                  rotate_left
                  · simp only [Act.put, List.setIfInBounds_toArray, List.set_cons_zero, List.set_cons_succ, i64_w, i32_w]
                    rfl
                  refine pure_ (i := 4) (N := some 91) (v := ?_) (a' := ?_) #[true, true, true, true, true, false, false, false, false, false, false, false, false, false, false, false, false, false, false, false, false, false, false, false, false, false, false] rfl rfl (any_of HT_.out (by kernel_rfl)) (fun _ _ _ h => h) (Or.inl ⟨by rfl, ?_⟩) ?_ ?_
                  rotate_left
                  · intro w'
                    go_simp
                    with_reducible rfl
                  rotate_left
                  · simp only [Act.put, List.setIfInBounds_toArray, List.set_cons_zero, List.set_cons_succ, i64_w, i32_w]
                    rfl
                  refine pure_ (i := 5) (N := some 92) (v := ?_) (a' := ?_) #[true, true, true, true, true, true, false, false, false, false, false, false, false, false, false, false, false, false, false, false, false, false, false, false, false, false, false] rfl rfl (any_of HT_.out (by kernel_rfl)) (fun _ _ _ h => h) (Or.inl ⟨by rfl, ?_⟩) ?_ ?_
                  rotate_left
                  · intro w'
                    go_simp
                    with_reducible rfl
                  rotate_left
                  · simp only [Act.put, List.setIfInBounds_toArray, List.set_cons_zero, List.set_cons_succ, i64_w, i32_w]
                    rfl
                  refine pure_ (i := 6) (N := some 93) (v := ?_) (a' := ?_) #[true, true, true, true, true, true, true, false, false, false, false, false, false, false, false, false, false, false, false, false, false, false, false, false, false, false, false] rfl rfl (any_of HT_.out (by kernel_rfl)) (fun _ _ _ h => h) (Or.inl ⟨by rfl, ?_⟩) ?_ ?_
                  rotate_left
                  · intro w'
                    go_simp
                    with_reducible rfl
                  rotate_left
                  · simp only [Act.put, List.setIfInBounds_toArray, List.set_cons_zero, List.set_cons_succ, i64_w, i32_w]
                    rfl
                  refine pure_ (i := 7) (N := some 94) (v := ?_) (a' := ?_) #[true, true, true, true, true, true, true, true, false, false, false, false, false, false, false, false, false, false, false, false, false, false, false, false, false, false, false] rfl rfl (any_of HT_.out (by kernel_rfl)) (fun _ _ _ h => h) (Or.inl ⟨by rfl, ?_⟩) ?_ ?_
                  rotate_left
                  · intro w'
                    go_simp
                    with_reducible rfl
                  rotate_left
                  · simp only [Act.put, List.setIfInBounds_toArray, List.set_cons_zero, List.set_cons_succ, i64_w, i32_w]
                    rfl
                  refine pure_ (i := 8) (N := some 95) (v := ?_) (a' := ?_) #[true, true, true, true, true, true, true, true, true, false, false, false, false, false, false, false, false, false, false, false, false, false, false, false, false, false, false] rfl rfl (any_of HT_.out (by kernel_rfl)) (fun _ _ _ h => h) (Or.inl ⟨by rfl, ?_⟩) ?_ ?_
                  rotate_left
                  · intro w'
                    go_simp
                    with_reducible rfl
                  rotate_left
                  · simp only [Act.put, List.setIfInBounds_toArray, List.set_cons_zero, List.set_cons_succ, i64_w, i32_w]
                    rfl
                  refine pure_ (i := 9) (N := some 96) (v := ?_) (a' := ?_) #[true, true, true, true, true, true, true, true, true, true, false, false, false, false, false, false, false, false, false, false, false, false, false, false, false, false, false] rfl rfl (any_of HT_.out (by kernel_rfl)) (fun _ _ _ h => h) (Or.inl ⟨by rfl, ?_⟩) ?_ ?_
                  rotate_left
                  · intro w'
                    go_simp
                    with_reducible rfl
                  rotate_left
                  · simp only [Act.put, List.setIfInBounds_toArray, List.set_cons_zero, List.set_cons_succ, i64_w, i32_w]
                    rfl
                  refine pure_ (i := 11) (N := some 98) (v := ?_) (a' := ?_) #[true, true, true, true, true, true, true, true, true, true, false, true, false, false, false, false, false, false, false, false, false, false, false, false, false, false, false] rfl rfl (any_of HT_.out (by kernel_rfl)) (fun _ _ _ h => h) (Or.inl ⟨by rfl, ?_⟩) ?_ ?_
                  rotate_left
                  · intro w'
                    go_simp
                    with_reducible rfl
                  rotate_left
                  · simp only [Act.put, List.setIfInBounds_toArray, List.set_cons_zero, List.set_cons_succ, i64_w, i32_w]
                    rfl
                  refine pure_ (i := 12) (N := some 99) (v := ?_) (a' := ?_) #[true, true, true, true, true, true, true, true, true, true, false, true, true, false, false, false, false, false, false, false, false, false, false, false, false, false, false] rfl rfl (any_of HT_.out (by kernel_rfl)) (fun _ _ _ h => h) (Or.inl ⟨by rfl, ?_⟩) ?_ ?_
                  rotate_left
                  · intro w'
                    go_simp
                    with_reducible rfl
                  rotate_left
                  · simp only [Act.put, List.setIfInBounds_toArray, List.set_cons_zero, List.set_cons_succ, i64_w, i32_w]
                    rfl
                  refine pure_ (i := 14) (N := some 101) (v := ?_) (a' := ?_) #[true, true, true, true, true, true, true, true, true, true, false, true, true, false, true, false, false, false, false, false, false, false, false, false, false, false, false] rfl rfl (any_of HT_.out (by kernel_rfl)) (fun _ _ _ h => h) (Or.inl ⟨by rfl, ?_⟩) ?_ ?_
                  rotate_left
                  · intro w'
                    go_simp
                    with_reducible rfl
                  rotate_left
                  · simp only [Act.put, List.setIfInBounds_toArray, List.set_cons_zero, List.set_cons_succ, i64_w, i32_w]
                    rfl
                  refine pure_ (i := 15) (N := some 102) (v := ?_) (a' := ?_) #[true, true, true, true, true, true, true, true, true, true, false, true, true, false, true, true, false, false, false, false, false, false, false, false, false, false, false] rfl rfl (any_of HT_.out (by kernel_rfl)) (fun _ _ _ h => h) (Or.inl ⟨by rfl, ?_⟩) ?_ ?_
                  rotate_left
                  · intro w'
                    go_simp
                    with_reducible rfl
                  rotate_left
                  · simp only [Act.put, List.setIfInBounds_toArray, List.set_cons_zero, List.set_cons_succ, i64_w, i32_w]
                    rfl
                  refine take_ (i := 10) (N := some 97) (v := ?_) (a' := ?_) #[true, true, true, true, true, true, true, true, true, true, true, true, true, false, true, true, false, false, false, false, false, false, false, false, false, false, false] rfl rfl (take_ofW HT_.out HW_.out (by kernel_rfl)) (fun _ _ _ h => h) (Or.inl ⟨by rfl, ?_⟩) hHeld ?_ ?_
                  rotate_left
                  · rintro w' ⟨s0, s1, s2, s3, s4, s5, s6, s7, s8, s9, s10, s11, s12⟩
                    go_simp
                    with_reducible rfl
                  rotate_left
                  · simp only [Act.put, List.setIfInBounds_toArray, List.set_cons_zero, List.set_cons_succ, i64_w, i32_w]
                    rfl
                  refine one_ (i := 13) (N := some 100) #[true, true, true, true, true, true, true, true, true, true, true, true, true, true, true, true, false, false, false, false, false, false, false, false, false, false, false] rfl rfl (one_of HT_.out (by kernel_rfl)) (by decide) (fun K hK => ?_)
                  refine goes_ Try.func31 (by kernel_rfl) rfl #[.agg #[.int .i64 t228, .int .i64 t229, .int .i64 t230, .int .i64 t231, .int .i64 t232, .int .i64 t233, .int .i64 t234, .int .i64 t235, .int .i64 t236, .int .i64 t237, .int .i64 t238, .int .i64 t239, .int .i64 t240], .int .i64 (wrap64 (a1))] (by rfl) rfl rfl (by (try simp only [List.map_toArray, List.map_cons, List.map_nil]); first | done | rfl | (simp only [List.length_drop, List.length_take]; rfl)) ?_
                  with_reducible refine (backoff_Idle.calls kj21 t228 t229 t230 t231 t232 t233 t234 t235 t236 t237 t238 t239 t240 (wrap64 (a1)) t246 _ A55.out).mono ?_
                  rintro e w63 ⟨rfl, hb⟩
                  refine ⟨_, rfl, ?_⟩
                  have n0_ := Aside0.mk (blk_below (g := gb224) (o := .cells #[.int .i64 a0_0, .int .i64 a0_1, .int .i64 a0_2, .int .i64 a0_3, .int .i64 a0_4, .int .i64 a0_5, .int .i64 a0_6, .int .i64 a0_7, .int .i64 a0_8, .int .i64 a0_9, .int .i64 a0_10, .int .i64 a0_11, .int .i64 a0_12] 33 (0, 0)) (by (with_reducible repeat (first | refine blk_drewN ?_ _ | refine blk_drew ?_ | refine blk_alloc ?_ _)); exact BK224.out) hb)
                  have n1_ := Aside0.mk (blk_below (g := gb241) (o := .cells #[.int .i64 t228, .int .i64 t229, .int .i64 t230, .int .i64 t231, .int .i64 t232, .int .i64 t233, .int .i64 t234, .int .i64 t235, .int .i64 t236, .int .i64 t237, .int .i64 t238, .int .i64 t239, .int .i64 t240] 36 (0, 0)) (by (with_reducible repeat (first | refine blk_drewN ?_ _ | refine blk_drew ?_ | refine blk_alloc ?_ _)); exact BK241.out) hb)
                  have n2_ := Aside0.mk (below_step (by repeat (first | (with_reducible first | exact HB.out | apply below_alloc | apply pw_below_drewN | apply below_drew1 | refine below_set ?_ GE224.out | refine below_set ?_ GE241.out) | exact HB.out)) hb)
                  clear BK224
                  clear BK241
                  clear HB
                  have BK224 := n0_
                  have BK241 := n1_
                  have HB := n2_
                  clear n0_ n1_ n2_
                  (try clear hb)
                  (try clear hb2)
                  (try clear hk)
                  (try clear hi)
                  refine hK.out _ _ ⟨(blk_cell BK241.out 0).trans rfl, (blk_cell BK241.out 1).trans rfl, (blk_cell BK241.out 2).trans rfl, (blk_cell BK241.out 3).trans rfl, (blk_cell BK241.out 4).trans rfl, (blk_cell BK241.out 5).trans rfl, (blk_cell BK241.out 6).trans rfl, (blk_cell BK241.out 7).trans rfl, (blk_cell BK241.out 8).trans rfl, (blk_cell BK241.out 9).trans rfl, (blk_cell BK241.out 10).trans rfl, (blk_cell BK241.out 11).trans rfl, (blk_cell BK241.out 12).trans rfl⟩ (fun hHeld => ?_)
                  clear hK K
                  refine norm_ (a' := ?_) ?_ ?_
                  rotate_left
                  · show Act.put _ (some 100) _ = _
                    simp only [Act.put, List.setIfInBounds_toArray, List.set_cons_zero, List.set_cons_succ, i64_w, i32_w]
                    rfl
                  refine pure_ (i := 16) (N := some 103) (v := ?_) (a' := ?_) #[true, true, true, true, true, true, true, true, true, true, true, true, true, true, true, true, true, false, false, false, false, false, false, false, false, false, false] rfl rfl (any_of HT_.out (by kernel_rfl)) (fun _ _ _ h => h) (Or.inl ⟨by rfl, ?_⟩) ?_ ?_
                  rotate_left
                  · intro w'
                    go_simp
                    with_reducible rfl
                  rotate_left
                  · simp only [Act.put, List.setIfInBounds_toArray, List.set_cons_zero, List.set_cons_succ, i64_w, i32_w]
                    rfl
                  refine pure_ (i := 17) (N := some 104) (v := ?_) (a' := ?_) #[true, true, true, true, true, true, true, true, true, true, true, true, true, true, true, true, true, true, false, false, false, false, false, false, false, false, false] rfl rfl (any_of HT_.out (by kernel_rfl)) (fun _ _ _ h => h) (Or.inl ⟨by rfl, ?_⟩) ?_ ?_
                  rotate_left
                  · intro w'
                    go_simp
                    with_reducible rfl
                  rotate_left
                  · simp only [Act.put, List.setIfInBounds_toArray, List.set_cons_zero, List.set_cons_succ, i64_w, i32_w]
                    rfl
                  refine pure_ (i := 18) (N := some 105) (v := ?_) (a' := ?_) #[true, true, true, true, true, true, true, true, true, true, true, true, true, true, true, true, true, true, true, false, false, false, false, false, false, false, false] rfl rfl (any_of HT_.out (by kernel_rfl)) (fun _ _ _ h => h) (Or.inl ⟨by rfl, ?_⟩) ?_ ?_
                  rotate_left
                  · intro w'
                    go_simp
                    with_reducible rfl
                  rotate_left
                  · simp only [Act.put, List.setIfInBounds_toArray, List.set_cons_zero, List.set_cons_succ, i64_w, i32_w]
                    rfl
                  refine pure_ (i := 19) (N := some 106) (v := undef) (a' := ?_) #[true, true, true, true, true, true, true, true, true, true, true, true, true, true, true, true, true, true, true, true, false, false, false, false, false, false, false] rfl rfl (any_of HT_.out (by kernel_rfl)) (fun _ _ _ h => h) (Or.inr ⟨by rfl, rfl⟩) ?_ ?_
                  rotate_left
                  · simp only [Act.put, List.setIfInBounds_toArray, List.set_cons_zero, List.set_cons_succ, i64_w, i32_w]
                    rfl
                  refine pure_ (i := 20) (N := some 107) (v := undef) (a' := ?_) #[true, true, true, true, true, true, true, true, true, true, true, true, true, true, true, true, true, true, true, true, true, false, false, false, false, false, false] rfl rfl (any_of HT_.out (by kernel_rfl)) (fun _ _ _ h => h) (Or.inr ⟨by rfl, rfl⟩) ?_ ?_
                  rotate_left
                  · simp only [Act.put, List.setIfInBounds_toArray, List.set_cons_zero, List.set_cons_succ, i64_w, i32_w]
                    rfl
                  refine pure_ (i := 21) (N := some 108) (v := undef) (a' := ?_) #[true, true, true, true, true, true, true, true, true, true, true, true, true, true, true, true, true, true, true, true, true, true, false, false, false, false, false] rfl rfl (any_of HT_.out (by kernel_rfl)) (fun _ _ _ h => h) (Or.inr ⟨by rfl, rfl⟩) ?_ ?_
                  rotate_left
                  · simp only [Act.put, List.setIfInBounds_toArray, List.set_cons_zero, List.set_cons_succ, i64_w, i32_w]
                    rfl
                  refine pure_ (i := 22) (N := some 109) (v := undef) (a' := ?_) #[true, true, true, true, true, true, true, true, true, true, true, true, true, true, true, true, true, true, true, true, true, true, true, false, false, false, false] rfl rfl (any_of HT_.out (by kernel_rfl)) (fun _ _ _ h => h) (Or.inr ⟨by rfl, rfl⟩) ?_ ?_
                  rotate_left
                  · simp only [Act.put, List.setIfInBounds_toArray, List.set_cons_zero, List.set_cons_succ, i64_w, i32_w]
                    rfl
                  refine pure_ (i := 23) (N := some 110) (v := undef) (a' := ?_) #[true, true, true, true, true, true, true, true, true, true, true, true, true, true, true, true, true, true, true, true, true, true, true, true, false, false, false] rfl rfl (any_of HT_.out (by kernel_rfl)) (fun _ _ _ h => h) (Or.inr ⟨by rfl, rfl⟩) ?_ ?_
                  rotate_left
                  · simp only [Act.put, List.setIfInBounds_toArray, List.set_cons_zero, List.set_cons_succ, i64_w, i32_w]
                    rfl
                  refine pure_ (i := 24) (N := some 111) (v := undef) (a' := ?_) #[true, true, true, true, true, true, true, true, true, true, true, true, true, true, true, true, true, true, true, true, true, true, true, true, true, false, false] rfl rfl (any_of HT_.out (by kernel_rfl)) (fun _ _ _ h => h) (Or.inr ⟨by rfl, rfl⟩) ?_ ?_
                  rotate_left
                  · simp only [Act.put, List.setIfInBounds_toArray, List.set_cons_zero, List.set_cons_succ, i64_w, i32_w]
                    rfl
                  refine pure_ (i := 25) (N := some 112) (v := ?_) (a' := ?_) #[true, true, true, true, true, true, true, true, true, true, true, true, true, true, true, true, true, true, true, true, true, true, true, true, true, true, false] rfl rfl (any_of HT_.out (by kernel_rfl)) (fun _ _ _ h => h) (Or.inl ⟨by rfl, ?_⟩) ?_ ?_
                  rotate_left
                  · intro w'
                    go_simp
                    with_reducible rfl
                  rotate_left
                  · simp only [Act.put, List.setIfInBounds_toArray, List.set_cons_zero, List.set_cons_succ, i64_w, i32_w]
                    rfl
                  refine pure_ (i := 26) (N := some 8) (v := ?_) (a' := ?_) #[true, true, true, true, true, true, true, true, true, true, true, true, true, true, true, true, true, true, true, true, true, true, true, true, true, true, true] rfl rfl (any_of HT_.out (by kernel_rfl)) (fun _ _ _ h => h) (Or.inl ⟨by rfl, ?_⟩) ?_ ?_
                  rotate_left
                  · intro w'
                    go_simp
                    with_reducible rfl
                  rotate_left
                  · simp only [Act.put, List.setIfInBounds_toArray, List.set_cons_zero, List.set_cons_succ, i64_w, i32_w]
                    rfl
                  refine done_ (done_of HT_.out (by kernel_rfl)) ?_
                  try go_wp2
                  go_ret
                  exact ⟨by first | rfl | (simp [errW_none, errW_some] <;> rfl) | (simp only [← hji53]; first | rfl | (simp [errW_none, errW_some] <;> rfl)) | (simp [*, errW_none, errW_some] <;> rfl), by repeat (first | (with_reducible first | exact HB.out | apply below_alloc | apply pw_below_drewN | apply below_drew1 | refine below_set ?_ GE224.out | refine below_set ?_ GE241.out) | exact HB.out)⟩
              · rw [if_neg c54] at H
                have c54b0 : (t245 == (ji53)) = false := beq_eq_false_iff_ne.mpr c54
                have c54b1 : (t245 != (ji53)) = true := bne_iff_ne.mpr c54
                obtain rfl := Option.some.inj H
                try go_wp2
                have n0_ := Aside0.mk (blk_drew BK224.out)
                have n1_ := Aside0.mk (blk_drew BK241.out)
                have n2_ := Aside0.mk (below_drew1 HB.out)
                clear BK224
                clear BK241
                clear HB
                have BK224 := n0_
                have BK241 := n1_
                have HB := n2_
                clear n0_ n1_ n2_
                refine start_ (n := 27) (S := fun w' => True) (ds := []) #[false, false, false, false, false, false, false, false, false, false, false, false, false, false, false, false, false, false, false, false, false, false, false, false, false, false, false] (by kernel_rfl) rfl rfl trivial (fun hHeld => ?_); refine with_tabW knelllaw23_BackoffGrows.tab9 knelllaw23_BackoffGrows.bits9 (fun HT_ HW_ => ?_)
                generalize wc.drew = w64 at BK224 BK241 HB hHeld ⊢
                refine pure_ (i := 0) (N := some 87) (v := ?_) (a' := ?_) #[true, false, false, false, false, false, false, false, false, false, false, false, false, false, false, false, false, false, false, false, false, false, false, false, false, false, false] rfl rfl (any_of HT_.out (by kernel_rfl)) (fun _ _ _ h => h) (Or.inl ⟨by rfl, ?_⟩) ?_ ?_
                rotate_left
                · intro w'
                  go_simp
                  with_reducible rfl
                rotate_left
                · simp only [Act.put, List.setIfInBounds_toArray, List.set_cons_zero, List.set_cons_succ, i64_w, i32_w]
                  rfl
                refine pure_ (i := 1) (N := some 88) (v := ?_) (a' := ?_) #[true, true, false, false, false, false, false, false, false, false, false, false, false, false, false, false, false, false, false, false, false, false, false, false, false, false, false] rfl rfl (any_of HT_.out (by kernel_rfl)) (fun _ _ _ h => h) (Or.inl ⟨by rfl, ?_⟩) ?_ ?_
                rotate_left
                · intro w'
                  go_simp
                  with_reducible rfl
                rotate_left
                · simp only [Act.put, List.setIfInBounds_toArray, List.set_cons_zero, List.set_cons_succ, i64_w, i32_w]
                  rfl
                refine pure_ (i := 2) (N := some 89) (v := ?_) (a' := ?_) #[true, true, true, false, false, false, false, false, false, false, false, false, false, false, false, false, false, false, false, false, false, false, false, false, false, false, false] rfl rfl (any_of HT_.out (by kernel_rfl)) (fun _ _ _ h => h) (Or.inl ⟨by rfl, ?_⟩) ?_ ?_
                rotate_left
                · intro w'
                  go_simp
                  with_reducible rfl
                rotate_left
                · simp only [Act.put, List.setIfInBounds_toArray, List.set_cons_zero, List.set_cons_succ, i64_w, i32_w]
                  rfl
                refine pure_ (i := 3) (N := some 90) (v := ?_) (a' := ?_) #[true, true, true, true, false, false, false, false, false, false, false, false, false, false, false, false, false, false, false, false, false, false, false, false, false, false, false] rfl rfl (any_of HT_.out (by kernel_rfl)) (fun _ _ _ h => h) (Or.inl ⟨by rfl, ?_⟩) ?_ ?_
                rotate_left
                · intro w'
                  go_simp
                  with_reducible rfl
                rotate_left
                · simp only [Act.put, List.setIfInBounds_toArray, List.set_cons_zero, List.set_cons_succ, i64_w, i32_w]
                  rfl
                refine pure_ (i := 4) (N := some 91) (v := ?_) (a' := ?_) #[true, true, true, true, true, false, false, false, false, false, false, false, false, false, false, false, false, false, false, false, false, false, false, false, false, false, false] rfl rfl (any_of HT_.out (by kernel_rfl)) (fun _ _ _ h => h) (Or.inl ⟨by rfl, ?_⟩) ?_ ?_
                rotate_left
                · intro w'
                  go_simp
                  with_reducible rfl
                rotate_left
                · simp only [Act.put, List.setIfInBounds_toArray, List.set_cons_zero, List.set_cons_succ, i64_w, i32_w]
                  rfl
                refine pure_ (i := 5) (N := some 92) (v := ?_) (a' := ?_) #[true, true, true, true, true, true, false, false, false, false, false, false, false, false, false, false, false, false, false, false, false, false, false, false, false, false, false] rfl rfl (any_of HT_.out (by kernel_rfl)) (fun _ _ _ h => h) (Or.inl ⟨by rfl, ?_⟩) ?_ ?_
                rotate_left
                · intro w'
                  go_simp
                  with_reducible rfl
                rotate_left
                · simp only [Act.put, List.setIfInBounds_toArray, List.set_cons_zero, List.set_cons_succ, i64_w, i32_w]
                  rfl
                refine pure_ (i := 6) (N := some 93) (v := ?_) (a' := ?_) #[true, true, true, true, true, true, true, false, false, false, false, false, false, false, false, false, false, false, false, false, false, false, false, false, false, false, false] rfl rfl (any_of HT_.out (by kernel_rfl)) (fun _ _ _ h => h) (Or.inl ⟨by rfl, ?_⟩) ?_ ?_
                rotate_left
                · intro w'
                  go_simp
                  with_reducible rfl
                rotate_left
                · simp only [Act.put, List.setIfInBounds_toArray, List.set_cons_zero, List.set_cons_succ, i64_w, i32_w]
                  rfl
                refine pure_ (i := 7) (N := some 94) (v := ?_) (a' := ?_) #[true, true, true, true, true, true, true, true, false, false, false, false, false, false, false, false, false, false, false, false, false, false, false, false, false, false, false] rfl rfl (any_of HT_.out (by kernel_rfl)) (fun _ _ _ h => h) (Or.inl ⟨by rfl, ?_⟩) ?_ ?_
                rotate_left
                · intro w'
                  go_simp
                  with_reducible rfl
                rotate_left
                · simp only [Act.put, List.setIfInBounds_toArray, List.set_cons_zero, List.set_cons_succ, i64_w, i32_w]
                  rfl
                refine pure_ (i := 8) (N := some 95) (v := ?_) (a' := ?_) #[true, true, true, true, true, true, true, true, true, false, false, false, false, false, false, false, false, false, false, false, false, false, false, false, false, false, false] rfl rfl (any_of HT_.out (by kernel_rfl)) (fun _ _ _ h => h) (Or.inl ⟨by rfl, ?_⟩) ?_ ?_
                rotate_left
                · intro w'
                  go_simp
                  with_reducible rfl
                rotate_left
                · simp only [Act.put, List.setIfInBounds_toArray, List.set_cons_zero, List.set_cons_succ, i64_w, i32_w]
                  rfl
                refine pure_ (i := 9) (N := some 96) (v := ?_) (a' := ?_) #[true, true, true, true, true, true, true, true, true, true, false, false, false, false, false, false, false, false, false, false, false, false, false, false, false, false, false] rfl rfl (any_of HT_.out (by kernel_rfl)) (fun _ _ _ h => h) (Or.inl ⟨by rfl, ?_⟩) ?_ ?_
                rotate_left
                · intro w'
                  go_simp
                  with_reducible rfl
                rotate_left
                · simp only [Act.put, List.setIfInBounds_toArray, List.set_cons_zero, List.set_cons_succ, i64_w, i32_w]
                  rfl
                refine pure_ (i := 10) (N := some 97) (v := undef) (a' := ?_) #[true, true, true, true, true, true, true, true, true, true, true, false, false, false, false, false, false, false, false, false, false, false, false, false, false, false, false] rfl rfl (any_of HT_.out (by kernel_rfl)) (fun _ _ _ h => h) (Or.inr ⟨by rfl, rfl⟩) ?_ ?_
                rotate_left
                · simp only [Act.put, List.setIfInBounds_toArray, List.set_cons_zero, List.set_cons_succ, i64_w, i32_w]
                  rfl
                refine pure_ (i := 11) (N := some 98) (v := undef) (a' := ?_) #[true, true, true, true, true, true, true, true, true, true, true, true, false, false, false, false, false, false, false, false, false, false, false, false, false, false, false] rfl rfl (any_of HT_.out (by kernel_rfl)) (fun _ _ _ h => h) (Or.inr ⟨by rfl, rfl⟩) ?_ ?_
                rotate_left
                · simp only [Act.put, List.setIfInBounds_toArray, List.set_cons_zero, List.set_cons_succ, i64_w, i32_w]
                  rfl
                refine pure_ (i := 12) (N := some 99) (v := undef) (a' := ?_) #[true, true, true, true, true, true, true, true, true, true, true, true, true, false, false, false, false, false, false, false, false, false, false, false, false, false, false] rfl rfl (any_of HT_.out (by kernel_rfl)) (fun _ _ _ h => h) (Or.inr ⟨by rfl, rfl⟩) ?_ ?_
                rotate_left
                · simp only [Act.put, List.setIfInBounds_toArray, List.set_cons_zero, List.set_cons_succ, i64_w, i32_w]
                  rfl
                refine pure_ (i := 13) (N := some 100) (v := undef) (a' := ?_) #[true, true, true, true, true, true, true, true, true, true, true, true, true, true, false, false, false, false, false, false, false, false, false, false, false, false, false] rfl rfl (any_of HT_.out (by kernel_rfl)) (fun _ _ _ h => h) (Or.inr ⟨by rfl, rfl⟩) ?_ ?_
                rotate_left
                · simp only [Act.put, List.setIfInBounds_toArray, List.set_cons_zero, List.set_cons_succ, i64_w, i32_w]
                  rfl
                refine pure_ (i := 14) (N := some 101) (v := undef) (a' := ?_) #[true, true, true, true, true, true, true, true, true, true, true, true, true, true, true, false, false, false, false, false, false, false, false, false, false, false, false] rfl rfl (any_of HT_.out (by kernel_rfl)) (fun _ _ _ h => h) (Or.inr ⟨by rfl, rfl⟩) ?_ ?_
                rotate_left
                · simp only [Act.put, List.setIfInBounds_toArray, List.set_cons_zero, List.set_cons_succ, i64_w, i32_w]
                  rfl
                refine pure_ (i := 15) (N := some 102) (v := undef) (a' := ?_) #[true, true, true, true, true, true, true, true, true, true, true, true, true, true, true, true, false, false, false, false, false, false, false, false, false, false, false] rfl rfl (any_of HT_.out (by kernel_rfl)) (fun _ _ _ h => h) (Or.inr ⟨by rfl, rfl⟩) ?_ ?_
                rotate_left
                · simp only [Act.put, List.setIfInBounds_toArray, List.set_cons_zero, List.set_cons_succ, i64_w, i32_w]
                  rfl
                refine pure_ (i := 16) (N := some 103) (v := undef) (a' := ?_) #[true, true, true, true, true, true, true, true, true, true, true, true, true, true, true, true, true, false, false, false, false, false, false, false, false, false, false] rfl rfl (any_of HT_.out (by kernel_rfl)) (fun _ _ _ h => h) (Or.inr ⟨by rfl, rfl⟩) ?_ ?_
                rotate_left
                · simp only [Act.put, List.setIfInBounds_toArray, List.set_cons_zero, List.set_cons_succ, i64_w, i32_w]
                  rfl
                refine pure_ (i := 17) (N := some 104) (v := ?_) (a' := ?_) #[true, true, true, true, true, true, true, true, true, true, true, true, true, true, true, true, true, true, false, false, false, false, false, false, false, false, false] rfl rfl (any_of HT_.out (by kernel_rfl)) (fun _ _ _ h => h) (Or.inl ⟨by rfl, ?_⟩) ?_ ?_
                rotate_left
                · intro w'
                  go_simp
                  with_reducible rfl
                rotate_left
                · simp only [Act.put, List.setIfInBounds_toArray, List.set_cons_zero, List.set_cons_succ, i64_w, i32_w]
                  rfl
                refine pure_ (i := 18) (N := some 105) (v := ?_) (a' := ?_) #[true, true, true, true, true, true, true, true, true, true, true, true, true, true, true, true, true, true, true, false, false, false, false, false, false, false, false] rfl rfl (any_of HT_.out (by kernel_rfl)) (fun _ _ _ h => h) (Or.inl ⟨by rfl, ?_⟩) ?_ ?_
                rotate_left
                · intro w'
                  go_simp
                  with_reducible rfl
                rotate_left
                · simp only [Act.put, List.setIfInBounds_toArray, List.set_cons_zero, List.set_cons_succ, i64_w, i32_w]
                  rfl
                refine pure_ (i := 19) (N := some 106) (v := undef) (a' := ?_) #[true, true, true, true, true, true, true, true, true, true, true, true, true, true, true, true, true, true, true, true, false, false, false, false, false, false, false] rfl rfl (any_of HT_.out (by kernel_rfl)) (fun _ _ _ h => h) (Or.inr ⟨by rfl, rfl⟩) ?_ ?_
                rotate_left
                · simp only [Act.put, List.setIfInBounds_toArray, List.set_cons_zero, List.set_cons_succ, i64_w, i32_w]
                  rfl
                refine pure_ (i := 20) (N := some 107) (v := undef) (a' := ?_) #[true, true, true, true, true, true, true, true, true, true, true, true, true, true, true, true, true, true, true, true, true, false, false, false, false, false, false] rfl rfl (any_of HT_.out (by kernel_rfl)) (fun _ _ _ h => h) (Or.inr ⟨by rfl, rfl⟩) ?_ ?_
                rotate_left
                · simp only [Act.put, List.setIfInBounds_toArray, List.set_cons_zero, List.set_cons_succ, i64_w, i32_w]
                  rfl
                refine pure_ (i := 21) (N := some 108) (v := undef) (a' := ?_) #[true, true, true, true, true, true, true, true, true, true, true, true, true, true, true, true, true, true, true, true, true, true, false, false, false, false, false] rfl rfl (any_of HT_.out (by kernel_rfl)) (fun _ _ _ h => h) (Or.inr ⟨by rfl, rfl⟩) ?_ ?_
                rotate_left
                · simp only [Act.put, List.setIfInBounds_toArray, List.set_cons_zero, List.set_cons_succ, i64_w, i32_w]
                  rfl
                refine pure_ (i := 22) (N := some 109) (v := undef) (a' := ?_) #[true, true, true, true, true, true, true, true, true, true, true, true, true, true, true, true, true, true, true, true, true, true, true, false, false, false, false] rfl rfl (any_of HT_.out (by kernel_rfl)) (fun _ _ _ h => h) (Or.inr ⟨by rfl, rfl⟩) ?_ ?_
                rotate_left
                · simp only [Act.put, List.setIfInBounds_toArray, List.set_cons_zero, List.set_cons_succ, i64_w, i32_w]
                  rfl
                refine pure_ (i := 23) (N := some 110) (v := undef) (a' := ?_) #[true, true, true, true, true, true, true, true, true, true, true, true, true, true, true, true, true, true, true, true, true, true, true, true, false, false, false] rfl rfl (any_of HT_.out (by kernel_rfl)) (fun _ _ _ h => h) (Or.inr ⟨by rfl, rfl⟩) ?_ ?_
                rotate_left
                · simp only [Act.put, List.setIfInBounds_toArray, List.set_cons_zero, List.set_cons_succ, i64_w, i32_w]
                  rfl
                refine pure_ (i := 24) (N := some 111) (v := undef) (a' := ?_) #[true, true, true, true, true, true, true, true, true, true, true, true, true, true, true, true, true, true, true, true, true, true, true, true, true, false, false] rfl rfl (any_of HT_.out (by kernel_rfl)) (fun _ _ _ h => h) (Or.inr ⟨by rfl, rfl⟩) ?_ ?_
                rotate_left
                · simp only [Act.put, List.setIfInBounds_toArray, List.set_cons_zero, List.set_cons_succ, i64_w, i32_w]
                  rfl
                refine pure_ (i := 25) (N := some 112) (v := ?_) (a' := ?_) #[true, true, true, true, true, true, true, true, true, true, true, true, true, true, true, true, true, true, true, true, true, true, true, true, true, true, false] rfl rfl (any_of HT_.out (by kernel_rfl)) (fun _ _ _ h => h) (Or.inl ⟨by rfl, ?_⟩) ?_ ?_
                rotate_left
                · intro w'
                  go_simp
                  with_reducible rfl
                rotate_left
                · simp only [Act.put, List.setIfInBounds_toArray, List.set_cons_zero, List.set_cons_succ, i64_w, i32_w]
                  rfl
                refine pure_ (i := 26) (N := some 8) (v := ?_) (a' := ?_) #[true, true, true, true, true, true, true, true, true, true, true, true, true, true, true, true, true, true, true, true, true, true, true, true, true, true, true] rfl rfl (any_of HT_.out (by kernel_rfl)) (fun _ _ _ h => h) (Or.inl ⟨by rfl, ?_⟩) ?_ ?_
                rotate_left
                · intro w'
                  go_simp
                  with_reducible rfl
                rotate_left
                · simp only [Act.put, List.setIfInBounds_toArray, List.set_cons_zero, List.set_cons_succ, i64_w, i32_w]
                  rfl
                refine done_ (done_of HT_.out (by kernel_rfl)) ?_
                try go_wp2
                go_ret
                exact ⟨by first | rfl | (simp [errW_none, errW_some] <;> rfl) | (simp only [← hji53]; first | rfl | (simp [errW_none, errW_some] <;> rfl)) | (simp [*, errW_none, errW_some] <;> rfl), by repeat (first | (with_reducible first | exact HB.out | apply below_alloc | apply pw_below_drewN | apply below_drew1 | refine below_set ?_ GE224.out | refine below_set ?_ GE241.out) | exact HB.out)⟩

end Go.Proofs.Ythljanmfanppdaa.KBack
