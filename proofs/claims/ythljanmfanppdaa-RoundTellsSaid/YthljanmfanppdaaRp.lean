/- What is proved: the laws RoundTells and RoundBatches as plain functions come to true; at most 40 numbers count. Plain Lean. -/
import Derived.Test.YthljanmfanppdaaKRdx0
import Derived.Test.YthljanmfanppdaaKRdx1
import Derived.Test.YthljanmfanppdaaKRdx2
import Derived.Test.YthljanmfanppdaaKRdx3
import Derived.Test.YthljanmfanppdaaEvk
namespace Go.Proofs.Ythljanmfanppdaa.Rp
open Go.RowKit Go.Proofs.Ythljanmfanppdaa.KRd Go.Proofs.YthljanmfanppdaaW.PrintWords Go.Proofs.YthljanmfanppdaaW.PrintLast Go.Proofs.YthljanmfanppdaaW.PrintMore Go.Proofs.Ythljanmfanppdaa.Evk Go.Proofs.Ythljanmfanppdaa.Rb
set_option linter.unusedVariables false
set_option linter.unusedSimpArgs false
theorem rd_at (l : List Int) (j : Nat) (h : j < l.length) : Go.Proofs.YthljanmfanppdaaW.PrintWords.rd l (j : Int) = l[j] := by
  show l.getD j 0 = l[j]
  simp [List.getD, h]
/-- A number as a time. -/
def cl (t : Int) : Int := if t < 0 then 0 else if 1073741823 < t then 1073741823 else t
theorem cl_bd (t : Int) : 0 ≤ cl t ∧ cl t ≤ 1073741823 := by
  unfold cl
  repeat' split
  all_goals omega
theorem clock_is (t : Int) : round_clock.f t = some (cl t) := by
  unfold round_clock.f mn mx cl
  congr 1
  repeat' split
  all_goals omega
theorem clock_ref (t : Int) : knellref04_Clock.f t = some (cl t) := by
  unfold knellref04_Clock.f cl
  repeat' split
  all_goals first | rfl | omega
theorem speaks_is : knelllaw04_speaks.f = some true := by decide +kernel
theorem up_alg (c st : Int) (h0 : 0 ≤ c) (h1 : 1 ≤ st) : (c + st - 1) / st * st = if c % st = 0 then c else c + st - c % st := by
  have hd := Int.emod_add_mul_ediv c st
  have hr0 := Int.emod_nonneg c (show st ≠ 0 by omega)
  have hr1 := Int.emod_lt_of_pos c (show 0 < st by omega)
  generalize hq : c / st = q at hd
  generalize hr : c % st = r at hd hr0 hr1 ⊢
  have e : c + st - 1 = (r + st - 1) + st * q := by omega
  rw [e, Int.add_mul_ediv_left _ _ (show st ≠ 0 by omega)]
  split
  · rename_i hz
    rw [hz, show (0 + st - 1) / st = 0 from Int.ediv_eq_zero_of_lt (by omega) (by omega), Int.zero_add, Int.mul_comm]
    omega
  · rename_i hz
    have e2 : (r + st - 1) / st = 1 := by
      rw [show r + st - 1 = (r - 1) + st * 1 by omega, Int.add_mul_ediv_left _ _ (show st ≠ 0 by omega), Int.ediv_eq_zero_of_lt (by omega) (by omega)]
      rfl
    rw [e2, Int.add_mul, Int.one_mul, Int.mul_comm q st]
    omega
/-- When a deadline is due, in plain words. -/
def upS (d s : Int) : Int := if cl d % (cl s + 1) = 0 then cl d else cl d + (cl s + 1) - cl d % (cl s + 1)
theorem upS_bd (d s : Int) : 0 ≤ upS d s ∧ upS d s ≤ 2147483648 := by
  have a := cl_bd d
  have b := cl_bd s
  have hr0 := Int.emod_nonneg (cl d) (show cl s + 1 ≠ 0 by omega)
  have hr1 := Int.emod_lt_of_pos (cl d) (show 0 < cl s + 1 by omega)
  unfold upS
  split <;> omega
theorem up_is (d s : Int) : round_Up.f d s = some (upS d s) := by
  have a := cl_bd d
  have b := cl_bd s
  have hu := upS_bd d s
  unfold round_Up.f
  rw [clock_is, clock_is]
  simp only [Option.bind_some]
  rw [w64 (x := cl s + 1) (by omega) (by omega), if_neg (by omega), w64 (x := cl d + (cl s + 1)) (by omega) (by omega), w64 (x := cl d + (cl s + 1) - 1) (by omega) (by omega)]
  rw [Int.tdiv_eq_ediv_of_nonneg (by omega)]
  have hq0 : 0 ≤ (cl d + (cl s + 1) - 1) / (cl s + 1) := Int.ediv_nonneg (by omega) (by omega)
  have hq1 : (cl d + (cl s + 1) - 1) / (cl s + 1) ≤ cl d + (cl s + 1) - 1 := Int.ediv_le_self _ (by omega)
  rw [w64 (x := (cl d + (cl s + 1) - 1) / (cl s + 1)) (by omega) (by omega), up_alg _ _ a.1 (by omega)]
  show some (wrap64 (upS d s)) = _
  rw [w64 (by omega) (by omega)]
theorem up_ref (d s : Int) : knellref04_Up.f d s = some (upS d s) := by
  have a := cl_bd d
  have b := cl_bd s
  have hr0 := Int.emod_nonneg (cl d) (show cl s + 1 ≠ 0 by omega)
  have hr1 := Int.emod_lt_of_pos (cl d) (show 0 < cl s + 1 by omega)
  unfold knellref04_Up.f
  rw [clock_ref, clock_ref]
  simp only [Option.bind_some]
  rw [w64 (x := cl s + 1) (by omega) (by omega), if_neg (by omega), Int.tmod_eq_emod_of_nonneg a.1]
  unfold upS
  split
  · rfl
  · rw [w64 (x := cl d + (cl s + 1)) (by omega) (by omega), w64 (by omega) (by omega)]
theorem upI_is (d s : Int) : upI d s = upS d s := by
  have h : KUp.round_Up.f d s = some (upS d s) := up_is d s
  unfold upI
  rw [h]
  rfl
/-- Sums. -/
def add (s t : Int) : Int := cl (s + cl t)
theorem plus_loop (l : List Int) (hl : l.length ≤ 1000) : ∀ (d i : Nat) (s : Int), i + d = l.length → 0 ≤ s → s ≤ 1073741823 → Evs (fun k => round_Plus.l0 k s l (l.length : Int) i) ((l.drop i).foldl add s)
  | 0, i, s, hi, h0, h1 => by
    rw [List.drop_of_length_le (show l.length ≤ i by omega)]
    exact Evs.succ (h := fun _ => some s) (fun k => by simp only [round_Plus.l0]; rw [if_neg (by omega)]) (Evs.now fun _ => rfl)
  | d + 1, i, s, hi, h0, h1 => by
    have hc := cl_bd l[i]
    refine Evs.succ (h := fun k => round_Plus.l0 k (add s l[i]) l (l.length : Int) ((i + 1 : Nat) : Int)) (fun k => ?_) ?_
    · simp only [round_Plus.l0]
      rw [if_pos (by omega), if_pos (by omega), if_pos (by omega), rd_at l i (by omega), clock_is, Option.bind_some, w64 (by omega) (by omega), clock_is, Option.bind_some, w64 (by omega) (by omega)]
      rfl
    · have := plus_loop l hl d (i + 1) (add s l[i]) (by omega) (cl_bd _).1 (cl_bd _).2
      rw [List.drop_eq_getElem_cons (show i < l.length by omega)]
      exact this
theorem plus_ref (l : List Int) (hl : l.length ≤ 1000) : ∀ (d i : Nat) (s : Int), i + d = l.length → 0 ≤ s → s ≤ 1073741823 → Evs (fun k => knellref04_Plus.l0 k l s i) ((l.drop i).foldl add s)
  | 0, i, s, hi, h0, h1 => by
    rw [List.drop_of_length_le (show l.length ≤ i by omega)]
    exact Evs.succ (h := fun _ => some s) (fun k => by simp only [knellref04_Plus.l0]; rw [if_neg (by omega)]) (Evs.now fun _ => rfl)
  | d + 1, i, s, hi, h0, h1 => by
    have hc := cl_bd l[i]
    refine Evs.succ (h := fun k => knellref04_Plus.l0 k l (add s l[i]) ((i + 1 : Nat) : Int)) (fun k => ?_) ?_
    · simp only [knellref04_Plus.l0]
      rw [if_pos (by omega), if_pos (by omega), rd_at l i (by omega), clock_ref, Option.bind_some, w64 (x := s + cl l[i]) (by omega) (by omega), w64 (by omega) (by omega)]
      split
      · rename_i h
        rw [show add s l[i] = 1073741823 by unfold add; rw [cl, if_neg (by omega), if_pos (by omega)]]
        rfl
      · rename_i h
        rw [show add s l[i] = s + cl l[i] by unfold add; rw [cl, if_neg (by omega), if_neg (by omega)]]
        rfl
    · have := plus_ref l hl d (i + 1) (add s l[i]) (by omega) (cl_bd _).1 (cl_bd _).2
      rw [List.drop_eq_getElem_cons (show i < l.length by omega)]
      exact this
/-- The same numbers. -/
theorem same_loop (l : List Int) (hl : l.length ≤ 1000) : ∀ (d i : Nat), i + d = l.length → Evs (fun k => knellref04_Same.l0 k l l i) true
  | 0, i, hi => Evs.succ (h := fun _ => some true) (fun k => by simp only [knellref04_Same.l0]; rw [if_neg (by omega)]) (Evs.now fun _ => rfl)
  | d + 1, i, hi => by
    refine Evs.succ (h := fun k => knellref04_Same.l0 k l l ((i + 1 : Nat) : Int)) (fun k => ?_) (same_loop l hl d (i + 1) (by omega))
    simp only [knellref04_Same.l0]
    rw [if_pos (by omega), if_pos (by omega), if_pos (by omega), if_pos trivial, w64 (by omega) (by omega)]
    rfl
/-- Rising numbers with one more, as the reference does it. -/
def wi (n : Int) : Bool → List Int → List Int
  | put, [] => if put then [] else [n]
  | put, y :: ys => if put = false ∧ y ≥ n then n :: ((if y = n then [] else [y]) ++ wi n true ys) else (if y = n then [] else [y]) ++ wi n put ys
theorem wi_true (n : Int) : ∀ {l : List Int}, (∀ y ∈ l, n < y) → wi n true l = l
  | [], _ => rfl
  | y :: ys, h => by
    have h1 := h y (List.mem_cons_self ..)
    rw [wi, if_neg (by simp), if_neg (by omega), wi_true n (fun z hz => h z (List.mem_cons_of_mem _ hz))]
    rfl
theorem wi_false (n : Int) : ∀ {l : List Int}, l.Pairwise (· < ·) → wi n false l = insU n l
  | [], _ => rfl
  | y :: ys, h => by
    obtain ⟨h1, h2⟩ := List.pairwise_cons.1 h
    rw [wi, insU]
    by_cases hy : y ≥ n
    · rw [if_pos ⟨rfl, hy⟩]
      by_cases e : y = n
      · subst e
        rw [if_pos rfl, if_neg (by omega), if_pos rfl, wi_true y h1]
        rfl
      · rw [if_neg e, if_pos (by omega), wi_true n (fun z hz => by have := h1 z hz; omega)]
        rfl
    · rw [if_neg (fun q => hy q.2), if_neg (by omega), if_neg (by omega), if_neg (by omega), wi_false n h2]
      rfl
theorem with_loop (n : Int) (l : List Int) (hl : l.length ≤ 1000) : ∀ (d i : Nat) (put : Bool) (out : List Int), i + d = l.length → out.length ≤ 2 * i → Evs (fun k => knellref04_With.l0 k l n out put i) (out ++ wi n put (l.drop i))
  | 0, i, put, out, hi, ho => by
    rw [List.drop_of_length_le (show l.length ≤ i by omega)]
    refine Evs.succ (h := fun _ => some (out ++ wi n put [])) (fun k => ?_) (Evs.now fun _ => rfl)
    simp only [knellref04_With.l0]
    rw [if_neg (by omega)]
    cases put with
    | true => rw [if_pos rfl]; simp [wi]
    | false => rw [if_neg (by decide), if_pos (by omega)]; simp [wi]
  | d + 1, i, put, out, hi, ho => by
    have hil : i < l.length := by omega
    rw [List.drop_eq_getElem_cons hil]
    have e1 : wrap64 ((i : Int) + 1) = ((i + 1 : Nat) : Int) := by rw [w64 (by omega) (by omega)]; rfl
    have step : ∀ (put' : Bool) (out' : List Int), out'.length ≤ 2 * i + 2 → Evs (fun k => knellref04_With.l0 k l n out' put' (wrap64 ((i : Int) + 1))) (out' ++ wi n put' (l.drop (i + 1))) := fun put' out' h => by
      rw [e1]
      exact with_loop n l hl d (i + 1) put' out' (by omega) (by omega)
    -- the round's second part
    have j1 : ∀ b : Bool, (b = true ↔ put = false ∧ l[i] ≥ n) → Evs (fun k => knellref04_With.j1 k l n out put i b) (out ++ wi n put (l[i] :: l.drop (i + 1))) := fun b hb => by
      rw [wi]
      cases b with
      | true =>
        rw [if_pos (hb.1 rfl)]
        by_cases e : l[i] = n
        · refine Evs.succ (h := fun k => knellref04_With.l0 k l n (out ++ [n]) true (wrap64 ((i : Int) + 1))) (fun k => ?_) ?_
          · simp only [knellref04_With.j1]
            rw [if_pos trivial, if_pos (by omega), Option.bind_some, if_pos (by omega), if_pos (by omega), rd_at l i hil, if_pos e]
          · rw [if_pos e]
            have := step true (out ++ [n]) (by simp; omega)
            simpa using this
        · refine Evs.succ (h := fun k => knellref04_With.l0 k l n (out ++ [n] ++ [l[i]]) true (wrap64 ((i : Int) + 1))) (fun k => ?_) ?_
          · simp only [knellref04_With.j1]
            rw [if_pos trivial, if_pos (by omega), Option.bind_some, if_pos (by omega), if_pos (by omega), rd_at l i hil, if_neg e, if_pos (by simp; omega)]
          · rw [if_neg e]
            have := step true (out ++ [n] ++ [l[i]]) (by simp; omega)
            simpa using this
      | false =>
        have hn : ¬ (put = false ∧ l[i] ≥ n) := fun q => by cases hb.2 q
        rw [if_neg hn]
        by_cases e : l[i] = n
        · refine Evs.succ (h := fun k => knellref04_With.l0 k l n out put (wrap64 ((i : Int) + 1))) (fun k => ?_) ?_
          · simp only [knellref04_With.j1]
            rw [if_neg (by decide), if_pos (by omega), if_pos (by omega), rd_at l i hil, if_pos e]
          · rw [if_pos e]
            exact step put out (by omega)
        · refine Evs.succ (h := fun k => knellref04_With.l0 k l n (out ++ [l[i]]) put (wrap64 ((i : Int) + 1))) (fun k => ?_) ?_
          · simp only [knellref04_With.j1]
            rw [if_neg (by decide), if_pos (by omega), if_pos (by omega), rd_at l i hil, if_neg e, if_pos (by omega)]
          · rw [if_neg e]
            have := step put (out ++ [l[i]]) (by simp; omega)
            simpa using this
    cases put with
    | true =>
      refine Evs.succ (h := fun k => knellref04_With.j1 k l n out true i false) (fun k => ?_) (j1 false (by simp))
      simp only [knellref04_With.l0]
      rw [if_pos (by omega), if_pos trivial]
    | false =>
      refine Evs.succ (h := fun k => knellref04_With.j1 k l n out false i (decide (l[i] ≥ n))) (fun k => ?_) (j1 (decide (l[i] ≥ n)) (by simp))
      simp only [knellref04_With.l0]
      rw [if_pos (by omega), if_neg (by decide), if_pos (by omega), rd_at l i hil]
theorem with_is (n : Int) (l : List Int) (hl : l.length ≤ 1000) (hs : l.Pairwise (· < ·)) : Evs (fun k => knellref04_With.f k l n) (insU n l) := by
  have := with_loop n l hl l.length 0 false [] (by omega) (by simp)
  rw [List.drop_zero, List.nil_append, wi_false n hs] at this
  exact this
theorem insU_len (n : Int) : ∀ l : List Int, (insU n l).length ≤ l.length + 1
  | [] => by simp [insU]
  | y :: ys => by
    have := insU_len n ys
    unfold insU
    split
    · simp
    · split <;> simp <;> omega
theorem bats_loop (s : Int) (l : List Int) (hl : l.length ≤ 500) : ∀ (d i : Nat) (out : List Int), i + d = l.length → out.length ≤ i → out.Pairwise (· < ·) → Evs (fun k => knellref04_Batches.l0 k l s out i) (((l.drop i).map (upI · s)).foldl (fun acc x => insU x acc) out)
  | 0, i, out, hi, ho, hs => by
    rw [List.drop_of_length_le (show l.length ≤ i by omega)]
    exact Evs.succ (h := fun _ => some out) (fun k => by simp only [knellref04_Batches.l0]; rw [if_neg (by omega)]) (Evs.now fun _ => rfl)
  | d + 1, i, out, hi, ho, hs => by
    have hil : i < l.length := by omega
    rw [List.drop_eq_getElem_cons hil, List.map_cons, List.foldl_cons]
    refine Evs.succ (h := fun k => (knellref04_With.f k out (upS l[i] s)).bind fun x => knellref04_Batches.l0 k l s x ((i + 1 : Nat) : Int)) (fun k => ?_) (Evs.bind (with_is _ out (by omega) hs) ?_)
    · simp only [knellref04_Batches.l0]
      rw [if_pos (by omega), if_pos (by omega), rd_at l i hil, up_ref, Option.bind_some, w64 (by omega) (by omega)]
      rfl
    · rw [upI_is]
      have := insU_len (upS l[i] s) out
      exact bats_loop s l hl d (i + 1) _ (by omega) (by omega) (sort_insU hs)
theorem bats_ref (l : List Int) (s : Int) (hl : l.length ≤ 500) : Evs (fun k => knellref04_Batches.f k l s) (bat l s) := bats_loop s l hl l.length 0 [] (by omega) (by simp) List.Pairwise.nil
theorem bat_len (l : List Int) (s : Int) : (bat l s).length ≤ l.length := by
  have h : ∀ (m acc : List Int), (m.foldl (fun acc x => insU x acc) acc).length ≤ acc.length + m.length := by
    intro m
    induction m with
    | nil => intro acc; simp
    | cons x m ih =>
      intro acc
      have h1 := ih (insU x acc)
      have h2 := insU_len x acc
      simp only [List.foldl_cons, List.length_cons]
      omega
  have := h (ups l s) []
  simp [ups] at this
  exact this
theorem RoundTells (a b s : Int) (l : List Int) : ∃ k, knelllaw04_RoundTells.f k a b s l = some true := by
  apply Evs.get
  unfold knelllaw04_RoundTells.f
  rw [speaks_is]
  simp only [Option.bind_some, if_true]
  by_cases hl : (l.length : Int) > 40
  · rw [decide_eq_true hl]
    exact Evs.succ (h := fun _ => some true) (fun k => by simp only [knelllaw04_RoundTells.j0]; rw [if_pos trivial, speaks_is]; rfl) (Evs.now fun _ => rfl)
  · rw [decide_eq_false hl]
    refine Evs.succ (h := fun k => knelllaw04_RoundTells.j1 k s l false) (fun k => ?_) ?_
    · simp only [knelllaw04_RoundTells.j0]
      rw [if_neg (by decide), up_is, up_ref]
      simp only [Option.bind_some]
      unfold round_Batch.f
      rw [if_pos trivial, up_is, up_is, up_ref]
      simp
    · refine Evs.succ (h := fun k => (round_Plus.f k l).bind fun x => (knellref04_Plus.f k l).bind fun y => if x = y then ((round_Batches.f l s).bind fun t => ((knellref04_Batches.f k l s).bind fun u => ((knellref04_Same.f k t u).bind fun v => some v))) else some false) (fun k => by simp only [knelllaw04_RoundTells.j1]; rw [if_neg (by decide)]) ?_
      refine Evs.bind (plus_loop l (by omega) l.length 0 0 (by omega) (by omega) (by omega)) (Evs.bind (plus_ref l (by omega) l.length 0 0 (by omega) (by omega) (by omega)) ?_)
      refine Evs.congr (h := fun k => (knellref04_Batches.f k l s).bind fun u => (knellref04_Same.f k (bat l s) u).bind fun v => some v) (fun k => ?_) ?_
      · rw [if_pos rfl]
        unfold round_Batches.f
        rw [if_pos (by omega), Option.bind_some]
      · refine Evs.bind (bats_ref l s (by omega)) (Evs.bind (a := true) ?_ (Evs.now fun _ => rfl))
        have hbl := bat_len l s
        refine Evs.congr (h := fun k => knellref04_Same.l0 k (bat l s) (bat l s) 0) (fun k => ?_) (same_loop (bat l s) (by omega) (bat l s).length 0 (by omega))
        unfold knellref04_Same.f
        rw [if_pos rfl]
/-- The first loop's inner one: is a time one of the deadlines'? -/
theorem l1_loop (l b b2 : List Int) (a1 : Int) (hl : l.length ≤ 40) (i t n1 n2 : Int) (r : Bool) (hend : Evs (fun k => knelllaw04_RoundBatches.l1 k l a1 b i t true b2 n1 n2 l (l.length : Int) (l.length : Int)) r) :
    ∀ (d j : Nat) (q : Bool), j + d = l.length → (q = true ∨ ∃ x ∈ l.drop j, upS x (wrap64 a1) = t) → Evs (fun k => knelllaw04_RoundBatches.l1 k l a1 b i t q b2 n1 n2 l (l.length : Int) j) r
  | 0, j, q, hj, hq => by
    obtain rfl : j = l.length := by omega
    rw [List.drop_length] at hq
    rcases hq with rfl | ⟨x, hx, _⟩
    · exact hend
    · cases hx
  | d + 1, j, q, hj, hq => by
    have hjl : j < l.length := by omega
    have e1 : wrap64 ((j : Int) + 1) = ((j + 1 : Nat) : Int) := by rw [w64 (by omega) (by omega)]; rfl
    rw [List.drop_eq_getElem_cons hjl] at hq
    cases q with
    | true =>
      refine Evs.succ (h := fun k => knelllaw04_RoundBatches.l1 k l a1 b i t true b2 n1 n2 l (l.length : Int) ((j + 1 : Nat) : Int)) (fun k => ?_) (l1_loop l b b2 a1 hl i t n1 n2 r hend d (j + 1) true (by omega) (.inl rfl))
      simp only [knelllaw04_RoundBatches.l1]
      rw [if_pos (by omega), if_pos (by omega), if_pos (by omega), if_pos trivial, e1]
    | false =>
      refine Evs.succ (h := fun k => knelllaw04_RoundBatches.l1 k l a1 b i t (upS l[j] (wrap64 a1) == t) b2 n1 n2 l (l.length : Int) ((j + 1 : Nat) : Int)) (fun k => ?_) (l1_loop l b b2 a1 hl i t n1 n2 r hend d (j + 1) _ (by omega) ?_)
      · simp only [knelllaw04_RoundBatches.l1]
        rw [if_pos (by omega), if_pos (by omega), if_pos (by omega), if_neg (by decide), rd_at l j hjl, up_is, Option.bind_some, e1]
      · rcases hq with hq | ⟨x, hx, e⟩
        · cases hq
        · rcases List.mem_cons.1 hx with rfl | hx
          · exact .inl (by simpa using e)
          · exact .inr ⟨x, hx, e⟩
/-- The second loop's inner one: is a deadline's time among the times? -/
theorem l3_loop (l b : List Int) (a1 : Int) (hb : b.length ≤ 40) (x n1 n2 : Int) (r : Bool) (hend : Evs (fun k => knelllaw04_RoundBatches.l3 k a1 b x true l n1 n2 b (b.length : Int) (b.length : Int)) r) :
    ∀ (d j : Nat) (q : Bool), j + d = b.length → (q = true ∨ upS x (wrap64 a1) ∈ b.drop j) → Evs (fun k => knelllaw04_RoundBatches.l3 k a1 b x q l n1 n2 b (b.length : Int) j) r
  | 0, j, q, hj, hq => by
    obtain rfl : j = b.length := by omega
    rw [List.drop_length] at hq
    rcases hq with rfl | hx
    · exact hend
    · cases hx
  | d + 1, j, q, hj, hq => by
    have hjl : j < b.length := by omega
    have e1 : wrap64 ((j : Int) + 1) = ((j + 1 : Nat) : Int) := by rw [w64 (by omega) (by omega)]; rfl
    rw [List.drop_eq_getElem_cons hjl] at hq
    cases q with
    | true =>
      refine Evs.succ (h := fun k => knelllaw04_RoundBatches.l3 k a1 b x true l n1 n2 b (b.length : Int) ((j + 1 : Nat) : Int)) (fun k => ?_) (l3_loop l b a1 hb x n1 n2 r hend d (j + 1) true (by omega) (.inl rfl))
      simp only [knelllaw04_RoundBatches.l3]
      rw [if_pos (by omega), if_pos (by omega), if_pos (by omega), if_pos trivial, e1]
    | false =>
      refine Evs.succ (h := fun k => knelllaw04_RoundBatches.l3 k a1 b x (b[j] == upS x (wrap64 a1)) l n1 n2 b (b.length : Int) ((j + 1 : Nat) : Int)) (fun k => ?_) (l3_loop l b a1 hb x n1 n2 r hend d (j + 1) _ (by omega) ?_)
      · simp only [knelllaw04_RoundBatches.l3]
        rw [if_pos (by omega), if_pos (by omega), if_pos (by omega), if_neg (by decide), rd_at b j hjl, up_is, Option.bind_some, e1]
      · rcases hq with hq | hx
        · cases hq
        · rcases List.mem_cons.1 hx with e | hx
          · exact .inl (by simpa using e.symm)
          · exact .inr hx
theorem l2_loop (l b : List Int) (a1 : Int) (hl : l.length ≤ 40) (hb : b.length ≤ 40) (hm : ∀ x ∈ l, upS x (wrap64 a1) ∈ b) : ∀ (d i : Nat), i + d = l.length → Evs (fun k => knelllaw04_RoundBatches.l2 k a1 b l (l.length : Int) i) true
  | 0, i, hi => Evs.succ (h := fun _ => some true) (fun k => by simp only [knelllaw04_RoundBatches.l2]; rw [if_neg (by omega)]) (Evs.now fun _ => rfl)
  | d + 1, i, hi => by
    have hil : i < l.length := by omega
    have e1 : wrap64 ((i : Int) + 1) = ((i + 1 : Nat) : Int) := by rw [w64 (by omega) (by omega)]; rfl
    refine Evs.succ (h := fun k => knelllaw04_RoundBatches.l3 k a1 b l[i] false l (l.length : Int) i b (b.length : Int) ((0 : Nat) : Int)) (fun k => ?_) (l3_loop l b a1 hb _ _ _ true ?_ b.length 0 false (by omega) (.inr ?_))
    · simp only [knelllaw04_RoundBatches.l2]
      rw [if_pos (by omega), if_pos (by omega), if_pos (by omega), rd_at l i hil]
      rfl
    · refine Evs.succ (h := fun k => knelllaw04_RoundBatches.l2 k a1 b l (l.length : Int) ((i + 1 : Nat) : Int)) (fun k => ?_) (l2_loop l b a1 hl hb hm d (i + 1) (by omega))
      simp only [knelllaw04_RoundBatches.l3]
      rw [if_neg (by omega), if_pos trivial, e1]
    · rw [List.drop_zero]
      exact hm _ (List.getElem_mem hil)
theorem l0_loop (l b : List Int) (a1 : Int) (hl : l.length ≤ 40) (hb : b.length ≤ 40) (hs : b.Pairwise (· < ·)) (hm : ∀ t, t ∈ b ↔ ∃ x ∈ l, upS x (wrap64 a1) = t) : ∀ (d i : Nat), i + d = b.length → Evs (fun k => knelllaw04_RoundBatches.l0 k l a1 b b (b.length : Int) i) true
  | 0, i, hi => Evs.succ (h := fun k => knelllaw04_RoundBatches.l2 k a1 b l (l.length : Int) ((0 : Nat) : Int)) (fun k => by simp only [knelllaw04_RoundBatches.l0]; rw [if_neg (by omega)]; rfl) (l2_loop l b a1 hl hb (fun x hx => (hm _).2 ⟨x, hx, rfl⟩) l.length 0 (by omega))
  | d + 1, i, hi => by
    have hil : i < b.length := by omega
    have e1 : wrap64 ((i : Int) + 1) = ((i + 1 : Nat) : Int) := by rw [w64 (by omega) (by omega)]; rfl
    refine Evs.succ (h := fun k => knelllaw04_RoundBatches.l1 k l a1 b i b[i] false b (b.length : Int) i l (l.length : Int) ((0 : Nat) : Int)) (fun k => ?_) (l1_loop l b b a1 hl _ _ _ _ true ?_ l.length 0 false (by omega) (.inr ?_))
    · simp only [knelllaw04_RoundBatches.l0]
      rw [if_pos (by omega), if_pos (by omega), if_pos (by omega), rd_at b i hil]
      rfl
    · have nx := l0_loop l b a1 hl hb hs hm d (i + 1) (by omega)
      refine Evs.succ (h := fun k => knelllaw04_RoundBatches.l0 k l a1 b b (b.length : Int) ((i + 1 : Nat) : Int)) (fun k => ?_) nx
      simp only [knelllaw04_RoundBatches.l1]
      rw [if_neg (by omega), if_pos trivial]
      by_cases h0 : (i : Int) > 0
      · have e2 : wrap64 ((i : Int) - 1) = ((i - 1 : Nat) : Int) := by rw [w64 (by omega) (by omega)]; omega
        have hlt : b[i - 1] < b[i] := List.pairwise_iff_getElem.1 hs (i - 1) i (by omega) hil (by omega)
        rw [if_pos h0, e2, if_pos (by omega), if_pos (by omega), rd_at b (i - 1) (by omega), if_neg (by omega), e1]
      · rw [if_neg h0, e1]
    · rw [List.drop_zero]
      exact (hm _).1 (List.getElem_mem hil)
theorem RoundBatches (l : List Int) (a1 : Int) : ∃ k, knelllaw04_RoundBatches.f k l a1 = some true := by
  apply Evs.get
  unfold knelllaw04_RoundBatches.f
  rw [speaks_is]
  simp only [Option.bind_some, if_true]
  by_cases hl : (l.length : Int) > 40
  · rw [decide_eq_true hl]
    exact Evs.succ (h := fun _ => some true) (fun k => by simp only [knelllaw04_RoundBatches.j0]; rw [if_pos trivial, speaks_is]; rfl) (Evs.now fun _ => rfl)
  · rw [decide_eq_false hl]
    have hbl := bat_len l (wrap64 a1)
    refine Evs.succ (h := fun k => knelllaw04_RoundBatches.l0 k l a1 (bat l (wrap64 a1)) (bat l (wrap64 a1)) ((bat l (wrap64 a1)).length : Int) ((0 : Nat) : Int)) (fun k => ?_) (l0_loop l _ a1 (by omega) (by omega) (bat_sorted _ _) (fun t => ?_) (bat l (wrap64 a1)).length 0 (by omega))
    · simp only [knelllaw04_RoundBatches.j0]
      unfold round_Batches.f
      rw [if_neg (by decide), if_pos (by omega), Option.bind_some]
      rfl
    · rw [mem_bat, ups, List.mem_map]
      simp only [upI_is]
end Go.Proofs.Ythljanmfanppdaa.Rp
