/- What is proved: (*Bench).Hear at any event; judge.Judge tells what judgeF says. -/
import Derived.Test.YthniclbmpeklmaaJuF
namespace Go.Proofs.Ythniclbmpeklmaa.Ju
open Go.RowKit Go.Maps Go.Proofs.YthniclbmpeklmaaW.PrintWords Go.Proofs.YthniclbmpeklmaaW.PrintLast Go.Proofs.YthniclbmpeklmaaW.PrintMore Go.Proofs.Ythniclbmpeklmaa.Mp Go.Proofs.Ythniclbmpeklmaa.Au
set_option linter.unusedVariables false
set_option linter.unusedSimpArgs false

theorem hear_any {w : World} {B b n mb m1 m2 m3 : Nat} {s : Be} {pf : Int → Option Nat} (e : Ev) (hw : (Lit.int .i64 e.hn).wf = true ∧ (Lit.int .i64 e.hg).wf = true ∧ (Lit.int .i64 e.nn).wf = true ∧ (Lit.int .i64 e.ng).wf = true) (hwk : (Lit.int .i64 e.wk).wf = true) (hn : n + 4 ≤ 1000000) (hwl : ∀ x, (Lit.int .i64 ((s.m.lst x).getD 0)).wf = true) (h : BeIs w B b n s mb m1 m2 m3 pf) (hB : B ≤ w.heap.size) :
    Calls Try.prog 29 #[pA b, .agg (evA e)] w (BePost w B b n mb m1 m2 m3 (hearF s e)) := by
  cases hr : rightJ e with
  | false => exact hear_wrong e hw hwk hn hwl h hB hr
  | true =>
    by_cases hnw : s.nw ≤ e.wk
    · exact hear_worker e hw hwk hn hwl h hB hr hnw
    have hk : e.k = 1 ∨ e.k = 2 ∨ e.k = 3 ∨ e.k = 4 ∨ e.k = 5 := by
      have h := hr
      unfold rightJ Ev.evRight Ev.kindB at h
      simp at h
      omega
    cases hs : s.wks e.wk with
    | none =>
      rcases hk with hk | hk | hk | hk | hk
      · exact hear_tick e hw hwk hn hwl h hB hr hnw hk hs
      · exact hear_invoke e hw hwk hn hwl h hB hr hnw hk hs
      · exact hear_other_i e hw hwk hn hwl h hB hr hnw (.inl hk) hs
      · exact hear_fire_i e hw hwk hn hwl h hB hr hnw hk hs
      · exact hear_other_i e hw hwk hn hwl h hB hr hnw (.inr hk) hs
    | some k =>
      rcases hk with hk | hk | hk | hk | hk
      · exact hear_tick_b e hw hwk hn hwl h hB hr hnw hk hs
      · exact hear_invoke_b e hw hwk hn hwl h hB hr hnw hk hs
      · by_cases ho : k.op = e.op
        · exact hear_point e hw hwk hn hwl h hB hr hnw hk ho hs
        · exact hear_other_op e hw hwk hn hwl h hB hr hnw (.inl hk) ho hs
      · by_cases ho : k.op = 5
        · by_cases ht : e.t < k.beg
          · exact hear_fire_early e hw hwk hn hwl h hB hr hnw hk ho ht hs
          · exact hear_fire e hw hwk hn hwl h hB hr hnw hk ho ht hs
        · exact hear_fire_op e hw hwk hn hwl h hB hr hnw hk ho hs
      · by_cases ho : k.op = e.op
        · by_cases h4 : e.op ≤ 4
          · cases ha : answersB k e with
            | false => exact hear_back_no e hw hwk hn hwl h hB hr hnw hk ho h4 ha hs
            | true => exact hear_back e hw hwk hn hwl h hB hr hnw hk ho h4 ha hs
          · exact hear_back_5 e hw hwk hn hwl h hB hr hnw hk ho h4 hs
        · exact hear_other_op e hw hwk hn hwl h hB hr hnw (.inr hk) ho hs
/-- An event's numbers fit. -/
def wfJ (e : Ev) : Prop := ((Lit.int .i64 e.hn).wf = true ∧ (Lit.int .i64 e.hg).wf = true ∧ (Lit.int .i64 e.nn).wf = true ∧ (Lit.int .i64 e.ng).wf = true) ∧ (Lit.int .i64 e.wk).wf = true
def LstOk (m : Md) : Prop := ∀ x, (Lit.int .i64 ((m.lst x).getD 0)).wf = true
theorem lst_arm {m : Md} (h : LstOk m) {x : Ha} {d : Int} (hx : (Lit.int .i64 x.2).wf = true) : LstOk (m.arm x d) := fun y => by
  show (Lit.int .i64 ((updL m.lst x.1 x.2 y).getD 0)).wf = true
  unfold updL
  by_cases q : y = x.1
  · rw [if_pos q]; exact hx
  · rw [if_neg q]; exact h y
theorem lst_end {m : Md} (h : LstOk m) (x : Ha) (s : Int) : LstOk (m.end_ x s) := h
theorem lst_point {m : Md} {e : Ev} (h : LstOk m) (hw : wfJ e) : LstOk (pointF m e).1 := by
  unfold pointF
  split
  · split
    · exact lst_end h _ _
    · exact h
  · split
    · split <;> exact h
    · split
      · exact h
      · split
        · split
          · exact lst_arm h hw.1.2.2.2
          · exact h
        · split
          · split <;> exact h
          · split
            · exact lst_arm (lst_end h _ _) hw.1.2.2.2
            · exact h
theorem lst_do {m : Md} {e : Ev} (h : LstOk m) (hw : wfJ e) : LstOk (doF m e).1 := by
  have hp := lst_point h hw
  unfold doF
  generalize pointF m e = q at hp ⊢
  split
  · exact h
  · split
    · split <;> exact h
    · split
      · split
        · exact lst_end h _ _
        · exact h
      · split
        · exact hp
        · exact h
theorem lst_pb {s : Be} {k : Wk} {e : Ev} (h : LstOk s.m) (h1 : LstOk (doF s.m e).1) : LstOk (pointB s k e).1.m := by
  unfold pointB
  generalize doF s.m e = q at h1 ⊢
  split
  · split <;> exact h1
  · exact h
theorem lst_hear {s : Be} {e : Ev} (h : LstOk s.m) (hw : wfJ e) : LstOk (hearF s e).1.m := by
  have h1 := lst_do h hw
  have h2 := fun k => lst_pb (k := k) h h1
  unfold hearF
  generalize doF s.m e = q at h1 ⊢
  split
  · exact h
  · split
    · exact h1
    · split
      · split <;> exact h
      · split
        · exact h
        · split
          · split
            · exact h
            · exact h1
          · split
            · exact h
            · split
              · exact h2 _
              · split <;> exact h
theorem lst_bench {s : Be} {l : List Ev} (h : LstOk s.m) (hw : ∀ e ∈ l, wfJ e) : LstOk (benchF s l).m := by
  induction l generalizing s with
  | nil => exact h
  | cons e l ih => exact ih (lst_hear h (hw e (by simp))) (fun x hx => hw x (by simp [hx]))
/-- An event of a row in memory. -/
def EvIn (w : World) (A : Option Addr) (i : Nat) (e : Ev) : Prop := ∃ ad, A = some ad ∧ w.cell? (ad.add (i * 12)) = some (.int .i64 e.k) ∧ w.cell? ⟨(ad.add (i * 12)).block, (ad.add (i * 12)).off + 1, none⟩ = some (.int .i64 e.wk) ∧ w.cell? ⟨(ad.add (i * 12)).block, (ad.add (i * 12)).off + 2, none⟩ = some (.int .i64 e.op) ∧ w.cell? ⟨(ad.add (i * 12)).block, (ad.add (i * 12)).off + 3, none⟩ = some (.int .i64 e.hn) ∧ w.cell? ⟨(ad.add (i * 12)).block, (ad.add (i * 12)).off + 4, none⟩ = some (.int .i64 e.hg) ∧ w.cell? ⟨(ad.add (i * 12)).block, (ad.add (i * 12)).off + 5, none⟩ = some (.int .i64 e.nn) ∧ w.cell? ⟨(ad.add (i * 12)).block, (ad.add (i * 12)).off + 6, none⟩ = some (.int .i64 e.ng) ∧ w.cell? ⟨(ad.add (i * 12)).block, (ad.add (i * 12)).off + 7, none⟩ = some (.int .i64 e.t) ∧ w.cell? ⟨(ad.add (i * 12)).block, (ad.add (i * 12)).off + 8, none⟩ = some (.int .i64 e.a) ∧ w.cell? ⟨(ad.add (i * 12)).block, (ad.add (i * 12)).off + 9, none⟩ = some (.int .i64 e.u) ∧ w.cell? ⟨(ad.add (i * 12)).block, (ad.add (i * 12)).off + 10, none⟩ = some (.bool e.y) ∧ w.cell? ⟨(ad.add (i * 12)).block, (ad.add (i * 12)).off + 11, none⟩ = some (.int .i64 e.er)
theorem EvIn.below {w w1 : World} {A : Option Addr} {i : Nat} {e : Ev} (h : EvIn w A i e) (hb : Below w.heap.size w w1) : EvIn w1 A i e := by
  obtain ⟨ad, h0, h1, h2, h3, h4, h5, h6, h7, h8, h9, h10, h11, h12⟩ := h
  exact ⟨ad, h0, (pw_cell_below hb h1), (pw_cell_below hb h2), (pw_cell_below hb h3), (pw_cell_below hb h4), (pw_cell_below hb h5), (pw_cell_below hb h6), (pw_cell_below hb h7), (pw_cell_below hb h8), (pw_cell_below hb h9), (pw_cell_below hb h10), (pw_cell_below hb h11), (pw_cell_below hb h12)⟩
/-- A judge's loop. -/
structure Lj (w W : World) (b mb m1 m2 m3 k : Nat) (s : Be) : Prop where
  be : ∃ pf, BeIs W w.heap.size b (4 * k) s mb m1 m2 m3 pf
  bel : Below w.heap.size w W
theorem Lj.alloc {w W : World} {b mb m1 m2 m3 k : Nat} {s : Be} (h : Lj w W b mb m1 m2 m3 k s) (o : Obj) : Lj w (W.alloc o) b mb m1 m2 m3 k s := by
  obtain ⟨⟨pf, h1⟩, h2⟩ := h
  exact ⟨⟨pf, h1.alloc o⟩, below_alloc h2 o⟩
theorem judge_no (A1 : Option Addr) (n1 c1 : Nat) (nw : Int) (hb : nw < 1 ∨ 64 < nw) (l : List Ev) (w : World) : Calls Try.prog 37 #[.slice A1 n1 c1, .int .i64 nw] w fun r w' => r = .returned (.tuple #[.int .i64 (judgeF l nw).1, .int .i64 (judgeF l nw).2]) ∧ Below w.heap.size w w' := by
  have HJ := Aside0.mk (show judgeF l nw = (-1, 1) by unfold judgeF; rw [if_pos hb])
  have CN := Aside0.mk (judge_new_no nw hb w)
  clear hb
  go_enter Try.func37, Try.ntmps37
  go_wp2_with (go_at_call 26; (with_reducible refine CN.out.mono ?_); rintro r w2 ⟨rfl, rfl⟩)
  go_ret2
  exact ⟨by rw [HJ.out]; rfl, Below.refl _ _⟩

set_option maxHeartbeats 4000000 in
set_option maxRecDepth 100000 in
theorem judge_yes (A1 : Option Addr) (c1 : Nat) (nw : Int) (hnw : ¬ (nw < 1 ∨ 64 < nw)) (l : List Ev) (hn : l.length ≤ 200000) (w : World) (hin : ∀ (i : Nat) e, l[i]? = some e → EvIn w A1 i e) (hwf : ∀ e ∈ l, wfJ e) :
    Calls Try.prog 37 #[.slice A1 l.length c1, .int .i64 nw] w fun r w' => r = .returned (.tuple #[.int .i64 (judgeF l nw).1, .int .i64 (judgeF l nw).2]) ∧ Below w.heap.size w w' := by
  have hu2 := Try.underlying54
  have HIN := Aside0.mk hin
  have HWF := Aside0.mk hwf
  have HN := Aside0.mk hn
  have HNW := Aside0.mk hnw
  have CN := Aside0.mk (judge_new nw hnw w)
  clear hin hwf hn hnw
  go_enter Try.func37, Try.ntmps37
  go_wp2_with (go_at_call 26; (with_reducible refine CN.out.mono ?_); rintro r w2 ⟨b, mb, m1, m2, m3, rfl, hbe, hb⟩; have HJ0 := Aside0.mk (show Lj w w2 b mb m1 m2 m3 0 (be0 nw) from ⟨⟨_, hbe⟩, hb⟩); clear hbe hb)
  go_loopw [21] (fun i wr => ∃ k : Nat, k ≤ l.length ∧ i = .int .i64 k ∧ Aside0 (Lj w wr b mb m1 m2 m3 k (benchF (be0 nw) (l.take k)) ∧ goF (be0 nw) (l.take k) = none)) (fun i _ => l.length - (intOf i).toNat)
  case atStart => exact ⟨0, by omega, rfl, ⟨HJ0.out, rfl⟩⟩
  case round =>
    clear HJ0
    obtain ⟨k, hk, rfl, HI⟩ := hrel
    rcases Nat.lt_or_ge k l.length with hlt | hge
    · have p0 : (0 : Int) ≤ (k : Int) := by omega
      have q0 : (k : Int) < (l.length : Int) := by omega
      obtain ⟨e, he⟩ : ∃ e, l[k]? = some e := ⟨_, List.getElem?_eq_getElem hlt⟩
      have HE := Aside0.mk he
      have HW := Aside0.mk (HWF.out e (get_mem he))
      obtain ⟨ad, rfl, c0, c1', c2, c3, c4, c5, c6, c7, c8, c9, c10, c11⟩ := (HIN.out k e he).below HI.out.1.bel
      have hnn : wrap64 ((k : Int) + 1) = ((k + 1 : Nat) : Int) := by have := HN.out; unfold wrap64; omega
      have HCC : Aside0 (∀ W, Lj w W b mb m1 m2 m3 k (benchF (be0 nw) (l.take k)) → Calls Try.prog 29 #[pA b, .agg (evA e)] W fun r W' => r = .returned (.int .i64 (hearF (benchF (be0 nw) (l.take k)) e).2) ∧ Lj w W' b mb m1 m2 m3 (k + 1) (hearF (benchF (be0 nw) (l.take k)) e).1) := ⟨fun W hW => by
        obtain ⟨⟨pf, hbe⟩, hbl⟩ := hW
        refine (hear_any e HW.out.1 HW.out.2 (by have := HN.out; omega) (lst_bench (l := l.take k) (s := be0 nw) (fun x => by rfl) (fun x hx => HWF.out x (List.mem_of_mem_take hx))) hbe hbl.size).mono ?_
        rintro r W' ⟨h1, ⟨pf2, h2⟩, h3⟩
        exact ⟨h1, ⟨⟨pf2, by rw [show 4 * (k + 1) = 4 * k + 4 by omega]; exact h2⟩, hbl.trans h3⟩⟩⟩
      have HX := Aside0.mk (HI.out.1.alloc (.cells (evA e) 54))
      obtain ⟨c, hcc⟩ : ∃ c, (hearF (benchF (be0 nw) (l.take k)) e).2 = c := ⟨_, rfl⟩
      have HS1 := Aside0.mk (show goF (be0 nw) (l.take (k + 1)) = if c = 0 then none else some (k, c) by obtain ⟨h1, h2⟩ := List.getElem?_eq_some_iff.1 HE.out; rw [List.take_succ_eq_append_getElem h1, h2, goF_snoc _ _ _ HI.out.2, hcc, List.length_take, Nat.min_eq_left (by omega)])
      have HS2 := Aside0.mk (show benchF (be0 nw) (l.take (k + 1)) = (hearF (benchF (be0 nw) (l.take k)) e).1 by obtain ⟨h1, h2⟩ := List.getElem?_eq_some_iff.1 HE.out; rw [List.take_succ_eq_append_getElem h1, h2, benchF_snoc])
      rw [hcc] at HCC
      clear hcc
      replace q0 := eq_true q0
      replace p0 := eq_true p0
      clear he
      by_cases h0 : c = 0
      · subst h0
        go_wp2_with (go_at_call 29; (with_reducible refine (HCC.out _ HX.out).mono ?_); rintro r w2 ⟨rfl, hj⟩; have HJ2 := Aside0.mk hj; clear hj)
        go_roundw
        case rel => exact ⟨k + 1, by omega, by first | rw [hnn] | simp, ⟨by rw [HS2.out]; exact HJ2.out, by rw [HS1.out]; rfl⟩⟩
        case measure => first | (rw [hnn]; simp [intOf]; omega) | (simp [intOf]; omega)
      · have g0 : (c != 0) = true := bne_iff_ne.2 (h0)
        have HR := Aside0.mk (show judgeF l nw = ((k : Int), c) by unfold judgeF; rw [if_neg HNW.out]; have := goF_app (l' := l.drop (k + 1)) (HS1.out.trans (if_neg h0)); rw [List.take_append_drop] at this; rw [this]; rfl)
        clear h0
        go_wp2_with (go_at_call 29; (with_reducible refine (HCC.out _ HX.out).mono ?_); rintro r w2 ⟨rfl, hj⟩; have HJ2 := Aside0.mk hj; clear hj)
        go_ret2
        exact ⟨by rw [HR.out]; rfl, HJ2.out.bel⟩
    · have q0 : ((k : Int) < (l.length : Int)) = False := eq_false (by omega)
      have HR := Aside0.mk (show judgeF l nw = (-1, 0) by unfold judgeF; rw [if_neg HNW.out]; have := HI.out.2; rw [List.take_of_length_le (by omega)] at this; rw [this]; rfl)
      clear hk hge
      go_wp2
      go_ret2
      exact ⟨by rw [HR.out]; rfl, HI.out.1.bel⟩
theorem judge_any (A1 : Option Addr) (c1 : Nat) (nw : Int) (l : List Ev) (hn : l.length ≤ 200000) (w : World) (hin : ∀ (i : Nat) e, l[i]? = some e → EvIn w A1 i e) (hwf : ∀ e ∈ l, wfJ e) :
    Calls Try.prog 37 #[.slice A1 l.length c1, .int .i64 nw] w fun r w' => r = .returned (.tuple #[.int .i64 (judgeF l nw).1, .int .i64 (judgeF l nw).2]) ∧ Below w.heap.size w w' := by
  by_cases hb : nw < 1 ∨ 64 < nw
  · exact judge_no A1 l.length c1 nw hb l w
  · exact judge_yes A1 c1 nw hb l hn w hin hwf

end Go.Proofs.Ythniclbmpeklmaa.Ju
