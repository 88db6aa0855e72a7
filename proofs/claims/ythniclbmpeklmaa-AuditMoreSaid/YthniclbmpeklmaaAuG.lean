/- What is proved: what audit.Slept returns. -/
import Derived.Test.YthniclbmpeklmaaAuE
namespace Go.Proofs.Ythniclbmpeklmaa.Au
open Go.RowKit Go.Maps Go.Proofs.YthniclbmpeklmaaW.PrintWords Go.Proofs.YthniclbmpeklmaaW.PrintLast Go.Proofs.YthniclbmpeklmaaW.PrintMore Go.Proofs.Ythniclbmpeklmaa.Mp
set_option linter.unusedVariables false
set_option linter.unusedSimpArgs false

set_option maxHeartbeats 4000000 in
set_option maxRecDepth 100000 in
theorem slept1_made {cb tb : Nat} (q : Cl) (t : Int) (x : Life) (w : World) (hcb : w.heap[cb]? = some (.cells (clA q) 103 (0, 0))) (htb : w.heap[tb]? = some (.cells #[.int .i64 t] 3 (0, 0))) (h1 : ¬ x.made < q.beg) :
    Calls Try.prog 60 #[.agg (lfA x), .pointer (some ⟨cb, 0, none⟩), .pointer (some ⟨tb, 0, none⟩)] w fun r w' => r = .returned (.bool false) ∧ Below w.heap.size w w' := by
  have hu99 := Try.underlying99
  have hu103 := Try.underlying103
  have hu54 := Try.underlying54
  have g1 : decide (x.made < q.beg) = false := decide_eq_false h1
  have hlc := blk_lt hcb
  have hlb := blk_lt htb
  have hcc := fun i => blk_cell hcb i
  have hct := fun i => blk_cell htb i
  clear hcb htb h1
  go_enter Try.func60, Try.ntmps60
  go_wp2
  go_ret
  exact ⟨rfl, by repeat (first | exact Below.refl _ _ | apply below_alloc | apply pw_below_drewN)⟩

set_option maxHeartbeats 4000000 in
set_option maxRecDepth 100000 in
theorem slept1_til {cb tb : Nat} (q : Cl) (t : Int) (x : Life) (w : World) (hcb : w.heap[cb]? = some (.cells (clA q) 103 (0, 0))) (htb : w.heap[tb]? = some (.cells #[.int .i64 t] 3 (0, 0))) (h1 : x.made < q.beg) (h2 : ¬ x.til > q.en) :
    Calls Try.prog 60 #[.agg (lfA x), .pointer (some ⟨cb, 0, none⟩), .pointer (some ⟨tb, 0, none⟩)] w fun r w' => r = .returned (.bool false) ∧ Below w.heap.size w w' := by
  have hu99 := Try.underlying99
  have hu103 := Try.underlying103
  have hu54 := Try.underlying54
  have g1 : decide (x.made < q.beg) = true := decide_eq_true h1
  have g2 : decide (x.til > q.en) = false := decide_eq_false h2
  have hlc := blk_lt hcb
  have hlb := blk_lt htb
  have hcc := fun i => blk_cell hcb i
  have hct := fun i => blk_cell htb i
  clear hcb htb h1 h2
  go_enter Try.func60, Try.ntmps60
  go_wp2
  go_ret
  exact ⟨rfl, by repeat (first | exact Below.refl _ _ | apply below_alloc | apply pw_below_drewN)⟩

set_option maxHeartbeats 4000000 in
set_option maxRecDepth 100000 in
theorem slept1_neg {cb tb : Nat} (q : Cl) (t : Int) (x : Life) (w : World) (hcb : w.heap[cb]? = some (.cells (clA q) 103 (0, 0))) (htb : w.heap[tb]? = some (.cells #[.int .i64 t] 3 (0, 0))) (h1 : x.made < q.beg) (h2 : x.til > q.en) (h3 : t < 0) :
    Calls Try.prog 60 #[.agg (lfA x), .pointer (some ⟨cb, 0, none⟩), .pointer (some ⟨tb, 0, none⟩)] w fun r w' => r = .returned (.bool true) ∧ Below w.heap.size w w' := by
  have hu99 := Try.underlying99
  have hu103 := Try.underlying103
  have hu54 := Try.underlying54
  have g1 : decide (x.made < q.beg) = true := decide_eq_true h1
  have g2 : decide (x.til > q.en) = true := decide_eq_true h2
  have g3 : decide (t < 0) = true := decide_eq_true h3
  have hlc := blk_lt hcb
  have hlb := blk_lt htb
  have hcc := fun i => blk_cell hcb i
  have hct := fun i => blk_cell htb i
  clear hcb htb h1 h2 h3
  go_enter Try.func60, Try.ntmps60
  go_wp2
  go_ret
  exact ⟨rfl, by repeat (first | exact Below.refl _ _ | apply below_alloc | apply pw_below_drewN)⟩

set_option maxHeartbeats 4000000 in
set_option maxRecDepth 100000 in
theorem slept1_late {cb tb : Nat} (q : Cl) (t : Int) (x : Life) (w : World) (hcb : w.heap[cb]? = some (.cells (clA q) 103 (0, 0))) (htb : w.heap[tb]? = some (.cells #[.int .i64 t] 3 (0, 0))) (h1 : x.made < q.beg) (h2 : x.til > q.en) (h3 : ¬ t < 0) (h4 : t > x.dl) :
    Calls Try.prog 60 #[.agg (lfA x), .pointer (some ⟨cb, 0, none⟩), .pointer (some ⟨tb, 0, none⟩)] w fun r w' => r = .returned (.bool true) ∧ Below w.heap.size w w' := by
  have hu99 := Try.underlying99
  have hu103 := Try.underlying103
  have hu54 := Try.underlying54
  have g1 : decide (x.made < q.beg) = true := decide_eq_true h1
  have g2 : decide (x.til > q.en) = true := decide_eq_true h2
  have g3 : decide (t < 0) = false := decide_eq_false h3
  have g4 : decide (t > x.dl) = true := decide_eq_true h4
  have hlc := blk_lt hcb
  have hlb := blk_lt htb
  have hcc := fun i => blk_cell hcb i
  have hct := fun i => blk_cell htb i
  clear hcb htb h1 h2 h3 h4
  go_enter Try.func60, Try.ntmps60
  go_wp2
  go_ret
  exact ⟨rfl, by repeat (first | exact Below.refl _ _ | apply below_alloc | apply pw_below_drewN)⟩

set_option maxHeartbeats 4000000 in
set_option maxRecDepth 100000 in
theorem slept1_fine {cb tb : Nat} (q : Cl) (t : Int) (x : Life) (w : World) (hcb : w.heap[cb]? = some (.cells (clA q) 103 (0, 0))) (htb : w.heap[tb]? = some (.cells #[.int .i64 t] 3 (0, 0))) (h1 : x.made < q.beg) (h2 : x.til > q.en) (h3 : ¬ t < 0) (h4 : ¬ t > x.dl) :
    Calls Try.prog 60 #[.agg (lfA x), .pointer (some ⟨cb, 0, none⟩), .pointer (some ⟨tb, 0, none⟩)] w fun r w' => r = .returned (.bool false) ∧ Below w.heap.size w w' := by
  have hu99 := Try.underlying99
  have hu103 := Try.underlying103
  have hu54 := Try.underlying54
  have g1 : decide (x.made < q.beg) = true := decide_eq_true h1
  have g2 : decide (x.til > q.en) = true := decide_eq_true h2
  have g3 : decide (t < 0) = false := decide_eq_false h3
  have g4 : decide (t > x.dl) = false := decide_eq_false h4
  have hlc := blk_lt hcb
  have hlb := blk_lt htb
  have hcc := fun i => blk_cell hcb i
  have hct := fun i => blk_cell htb i
  clear hcb htb h1 h2 h3 h4
  go_enter Try.func60, Try.ntmps60
  go_wp2
  go_ret
  exact ⟨rfl, by repeat (first | exact Below.refl _ _ | apply below_alloc | apply pw_below_drewN)⟩

theorem slept1_any {cb tb : Nat} (q : Cl) (t : Int) (x : Life) (w : World) (hcb : w.heap[cb]? = some (.cells (clA q) 103 (0, 0))) (htb : w.heap[tb]? = some (.cells #[.int .i64 t] 3 (0, 0))) :
    Calls Try.prog 60 #[.agg (lfA x), .pointer (some ⟨cb, 0, none⟩), .pointer (some ⟨tb, 0, none⟩)] w fun r w' => r = .returned (.bool (sleptL q t x)) ∧ Below w.heap.size w w' := by
  unfold sleptL
  by_cases h1 : x.made < q.beg
  · by_cases h2 : x.til > q.en
    · by_cases h3 : t < 0
      · rw [decide_eq_true h1, decide_eq_true h2, decide_eq_true h3]; exact slept1_neg q t x w hcb htb h1 h2 h3
      · by_cases h4 : t > x.dl
        · rw [decide_eq_true h1, decide_eq_true h2, decide_eq_false h3, decide_eq_true h4]; exact slept1_late q t x w hcb htb h1 h2 h3 h4
        · rw [decide_eq_true h1, decide_eq_true h2, decide_eq_false h3, decide_eq_false h4]; exact slept1_fine q t x w hcb htb h1 h2 h3 h4
    · rw [decide_eq_true h1, decide_eq_false h2]; exact slept1_til q t x w hcb htb h1 h2
  · rw [decide_eq_false h1]; exact slept1_made q t x w hcb htb h1

set_option maxHeartbeats 4000000 in
set_option maxRecDepth 100000 in
theorem some_slept {B : Nat} {v : Value} {l : List Life} (cap : Array Value) (p : Life → Bool) (J : World → Prop) (w : World) (hr : RowIs w B 99 6 lfA v l) (hl : l.length ≤ 1000000) (h0 : J w) (hJ : ∀ W W', J W → Below W.heap.size W W' → J W')
    (hcall : ∀ x W, x ∈ l → J W → Calls Try.prog 60 (#[.agg (lfA x)] ++ cap) W fun r W' => r = .returned (.bool (p x)) ∧ Below W.heap.size W W') :
    Calls Try.prog 59 #[v, .func (.func 60) #[] cap] w fun r w' => r = .returned (.bool (l.any p)) ∧ Below w.heap.size w w' := by
  have hu54 := Try.underlying54
  have hu34 := Try.underlying34
  have huT := Try.underlying99
  obtain ⟨A0, c0, rfl, hc0⟩ := hr.form
  have HR := Aside0.mk hr
  have HL := Aside0.mk hl
  have HJ := Aside0.mk hJ
  have HC := Aside0.mk hcall
  have H0 := Aside0.mk h0
  clear hr hl hJ hcall h0 hc0
  go_enter Try.func59, Try.ntmps59
  go_wp2
  go_loopw [9] (fun i wr => ∃ k : Nat, k ≤ l.length ∧ i = .int .i64 k ∧ Aside0 (J wr ∧ Below w.heap.size w wr ∧ (l.take k).any p = false)) (fun i _ => l.length - (intOf i).toNat)
  case atStart => exact ⟨0, by omega, rfl, ⟨H0.out, Below.refl _ _, rfl⟩⟩
  case round =>
    clear H0
    obtain ⟨k, hk, rfl, HI⟩ := hrel
    rcases Nat.lt_or_ge k l.length with hlt | hge
    · have p0 : (0 : Int) ≤ (k : Int) := by omega
      have q0 : (k : Int) < (l.length : Int) := by omega
      obtain ⟨x, hx⟩ : ∃ x, l[k]? = some x := ⟨_, List.getElem?_eq_getElem hlt⟩
      obtain ⟨g, cp, hv, hcp, hgl, hcell⟩ := (HR.out.below HI.out.2.1).at_ (fun _ => rfl) hx
      injection hv with hv1 hv2 hv3
      subst hv1
      have HM := Aside0.mk (get_mem hx)
      have HT := Aside0.mk (show (l.take (k + 1)).any p = ((l.take k).any p || p x) by
        obtain ⟨h1, h2⟩ := List.getElem?_eq_some_iff.1 hx
        rw [List.take_succ_eq_append_getElem h1, List.any_append, h2]; simp)
      have hnn : wrap64 ((k : Int) + 1) = ((k + 1 : Nat) : Int) := by have := HL.out; unfold wrap64; omega
      have c0 := hcell 0 (by decide)
      have c1 := hcell 1 (by decide)
      have c2 := hcell 2 (by decide)
      have c3 := hcell 3 (by decide)
      have c4 := hcell 4 (by decide)
      have c5 := hcell 5 (by decide)
      rw [Nat.add_zero] at c0
      replace q0 := eq_true q0
      replace p0 := eq_true p0
      clear hcell hx hv2 hv3
      have HCC : Aside0 (∀ W, J W → Calls Try.prog 60 (#[.agg (lfA x)] ++ cap) W fun r W' => r = .returned (.bool (p x)) ∧ Below W.heap.size W W') := ⟨fun W hW => HC.out x W HM.out hW⟩
      have HJ1 : Aside0 (J (wr.alloc (.cells (lfA x) 99))) := ⟨HJ.out _ _ HI.out.1 (below_alloc (Below.refl _ _) _)⟩
      cases hp : p x with
      | true =>
        rw [hp] at HCC
        have HE := Aside0.mk (show l.any p = true by rw [List.any_eq_true]; exact ⟨x, HM.out, hp⟩)
        clear hp
        go_wp2_with (go_at_call 60; (with_reducible refine (HCC.out _ HJ1.out).mono ?_); rintro r w2 ⟨rfl, hb⟩; have HB2 := Aside0.mk (below_step (below_alloc HI.out.2.1 _) hb); clear hb)
        go_ret
        exact ⟨by rw [HE.out]; rfl, HB2.out⟩
      | false =>
        rw [hp] at HCC
        rw [hp] at HT
        clear hp
        go_wp2_with (go_at_call 60; (with_reducible refine (HCC.out _ HJ1.out).mono ?_); rintro r w2 ⟨rfl, hb⟩; have HB2 := Aside0.mk (below_step (below_alloc HI.out.2.1 _) hb); have HJ2 := Aside0.mk (HJ.out _ _ HJ1.out hb); clear hb)
        go_roundw
        case rel => exact ⟨k + 1, by omega, by first | rw [hnn] | simp, ⟨HJ2.out, HB2.out, by rw [HT.out, HI.out.2.2]; rfl⟩⟩
        case measure => first | (rw [hnn]; simp [intOf]; omega) | (simp [intOf]; omega)
    · have q0 : ((k : Int) < (l.length : Int)) = False := eq_false (by omega)
      have HE := Aside0.mk (show l.any p = false by rw [← HI.out.2.2, List.take_of_length_le (by omega)])
      clear hk hge
      go_wp2
      go_ret
      exact ⟨by rw [HE.out]; rfl, HI.out.2.1⟩

set_option maxHeartbeats 4000000 in
set_option maxRecDepth 100000 in
theorem slept2_any {B b n m1 m2 sb : Nat} {s : Story} {vl vv vc : Value} (q : Cl) (t : Int) (w : World) (hB : StIs w B b n s vl vv vc m1 m2) (hsb : w.heap[sb]? = some (.cells #[.pointer (some ⟨b, 0, none⟩)] 87 (0, 0))) (hl : s.lives.length ≤ 1000000) :
    Calls Try.prog 58 #[.agg (clA q), .int .i64 t, .pointer (some ⟨sb, 0, none⟩)] w fun r w' => r = .returned (.bool (s.lives.any (sleptL q t))) ∧ Below w.heap.size w w' := by
  have hu97 := Try.underlying97
  have hmf : ∀ (fn : Fn) (first cap : Array Value) (w : World), (Instr.makeFunc fn first cap).run Try.prog w = .ok (.func fn first cap) w := fun _ _ _ _ => rfl
  have HJ := Aside0.mk (show StIs ((w.alloc (.cells (clA q) 103)).alloc (.cells #[.int .i64 t] 3)) B b n s vl vv vc m1 m2 ∧ ((w.alloc (.cells (clA q) 103)).alloc (.cells #[.int .i64 t] 3)).heap[w.heap.size]? = some (.cells (clA q) 103 (0, 0)) ∧ ((w.alloc (.cells (clA q) 103)).alloc (.cells #[.int .i64 t] 3)).heap[w.heap.size + 1]? = some (.cells #[.int .i64 t] 3 (0, 0)) from ⟨(hB.alloc _).alloc _, blk_alloc (blk_new _ _) _, two_alloc _ _ _⟩)
  have CS : Aside0 (∀ W, (StIs W B b n s vl vv vc m1 m2 ∧ W.heap[w.heap.size]? = some (.cells (clA q) 103 (0, 0)) ∧ W.heap[w.heap.size + 1]? = some (.cells #[.int .i64 t] 3 (0, 0))) → Calls Try.prog 59 #[vv, .func (.func 60) #[] #[.pointer (some ⟨w.heap.size, 0, none⟩), .pointer (some ⟨w.heap.size + 1, 0, none⟩)]] W fun r w' => r = .returned (.bool (s.lives.any (sleptL q t))) ∧ Below W.heap.size W w') :=
    ⟨fun W hJ => some_slept _ (sleptL q t) (fun W => W.heap[w.heap.size]? = some (.cells (clA q) 103 (0, 0)) ∧ W.heap[w.heap.size + 1]? = some (.cells #[.int .i64 t] 3 (0, 0))) W hJ.1.rv hl hJ.2 (fun _ _ h hb => ⟨blk_below h.1 hb, blk_below h.2 hb⟩) (fun x W' _ h => slept1_any q t x W' h.1 h.2)⟩
  have HBL := Aside0.mk (below_alloc (below_alloc (Below.refl w.heap.size w) (.cells (clA q) 103)) (.cells #[.int .i64 t] 3))
  have hlt := hB.lt
  have hls := blk_lt hsb
  have hc := fun i => hB.cell i
  have hcs := fun i => blk_cell hsb i
  clear hB hsb hl
  go_enter Try.func58, Try.ntmps58
  go_wp2_with (go_at_call 59; (with_reducible refine (CS.out _ HJ.out).mono ?_); rintro r w2 ⟨rfl, hb⟩; have HB2 := Aside0.mk (below_step HBL.out hb); clear hb)
  go_ret
  exact ⟨rfl, HB2.out⟩

/-- What a call of Slept's closures stands on. -/
structure Jk (W : World) (B b n m1 m2 sb ib fb eb i : Nat) (s : Story) (vl vv vc : Value) (e : Ev) : Prop where
  st : StIs W B b n s vl vv vc m1 m2
  sb_ : W.heap[sb]? = some (.cells #[.pointer (some ⟨b, 0, none⟩)] 87 (0, 0))
  ib_ : W.heap[ib]? = some (.cells #[.int .i64 (i : Int)] 3 (0, 0))
  fb_ : W.heap[fb]? = some (.cells #[.func (.func 58) #[] #[.pointer (some ⟨sb, 0, none⟩)]] 109 (0, 0))
  eb_ : W.heap[eb]? = some (.cells (evA e) 54 (0, 0))
theorem Jk.below {W W' : World} {B b n m1 m2 sb ib fb eb i : Nat} {s : Story} {vl vv vc : Value} {e : Ev} (h : Jk W B b n m1 m2 sb ib fb eb i s vl vv vc e) (hb : Below W.heap.size W W') : Jk W' B b n m1 m2 sb ib fb eb i s vl vv vc e := ⟨h.st.below hb, blk_below h.sb_ hb, blk_below h.ib_ hb, blk_below h.fb_ hb, blk_below h.eb_ hb⟩

set_option maxHeartbeats 4000000 in
set_option maxRecDepth 100000 in
theorem ret1_other {B b n m1 m2 sb ib fb eb i : Nat} {s : Story} {vl vv vc : Value} {e : Ev} (q : Cl) (w : World) (hJ : Jk w B b n m1 m2 sb ib fb eb i s vl vv vc e) (hl : s.lives.length ≤ 1000000) (h1 : ¬ q.en = (i : Int)) :
    Calls Try.prog 87 #[.agg (clA q), .pointer (some ⟨ib, 0, none⟩), .pointer (some ⟨fb, 0, none⟩), .pointer (some ⟨eb, 0, none⟩)] w fun r w' => r = .returned (.bool false) ∧ Below w.heap.size w w' := by
  have hu103 := Try.underlying103
  have hu54 := Try.underlying54
  have g1 : (q.en == (i : Int)) = false := beq_eq_false_iff_ne.2 h1
  have hli := blk_lt hJ.ib_
  have hlf := blk_lt hJ.fb_
  have hle := blk_lt hJ.eb_
  have hci := fun i => blk_cell hJ.ib_ i
  have hcf := fun i => blk_cell hJ.fb_ i
  have hce := fun i => blk_cell hJ.eb_ i
  clear hJ hl h1
  go_enter Try.func87, Try.ntmps87
  go_wp2
  go_ret
  exact ⟨rfl, by repeat (first | exact Below.refl _ _ | apply below_alloc | apply pw_below_drewN)⟩

set_option maxHeartbeats 4000000 in
set_option maxRecDepth 100000 in
theorem ret1_op {B b n m1 m2 sb ib fb eb i : Nat} {s : Story} {vl vv vc : Value} {e : Ev} (q : Cl) (w : World) (hJ : Jk w B b n m1 m2 sb ib fb eb i s vl vv vc e) (hl : s.lives.length ≤ 1000000) (h1 : q.en = (i : Int)) (h2 : ¬ q.e.op = 6) :
    Calls Try.prog 87 #[.agg (clA q), .pointer (some ⟨ib, 0, none⟩), .pointer (some ⟨fb, 0, none⟩), .pointer (some ⟨eb, 0, none⟩)] w fun r w' => r = .returned (.bool false) ∧ Below w.heap.size w w' := by
  have hu103 := Try.underlying103
  have hu54 := Try.underlying54
  have g1 : (q.en == (i : Int)) = true := beq_iff_eq.2 h1
  have g2 : (q.e.op == 6) = false := beq_eq_false_iff_ne.2 h2
  have hli := blk_lt hJ.ib_
  have hlf := blk_lt hJ.fb_
  have hle := blk_lt hJ.eb_
  have hci := fun i => blk_cell hJ.ib_ i
  have hcf := fun i => blk_cell hJ.fb_ i
  have hce := fun i => blk_cell hJ.eb_ i
  clear hJ hl h1 h2
  go_enter Try.func87, Try.ntmps87
  go_wp2
  go_ret
  exact ⟨rfl, by repeat (first | exact Below.refl _ _ | apply below_alloc | apply pw_below_drewN)⟩

set_option maxHeartbeats 4000000 in
set_option maxRecDepth 100000 in
theorem ret1_so {B b n m1 m2 sb ib fb eb i : Nat} {s : Story} {vl vv vc : Value} {e : Ev} (q : Cl) (w : World) (hJ : Jk w B b n m1 m2 sb ib fb eb i s vl vv vc e) (hl : s.lives.length ≤ 1000000) (h1 : q.en = (i : Int)) (h2 : q.e.op = 6) :
    Calls Try.prog 87 #[.agg (clA q), .pointer (some ⟨ib, 0, none⟩), .pointer (some ⟨fb, 0, none⟩), .pointer (some ⟨eb, 0, none⟩)] w fun r w' => r = .returned (.bool (s.lives.any (sleptL q e.t))) ∧ Below w.heap.size w w' := by
  have hu103 := Try.underlying103
  have hu54 := Try.underlying54
  have g1 : (q.en == (i : Int)) = true := beq_iff_eq.2 h1
  have g2 : (q.e.op == 6) = true := beq_iff_eq.2 h2
  have hli := blk_lt hJ.ib_
  have hlf := blk_lt hJ.fb_
  have hle := blk_lt hJ.eb_
  have hci := fun i => blk_cell hJ.ib_ i
  have hcf := fun i => blk_cell hJ.fb_ i
  have hce := fun i => blk_cell hJ.eb_ i
  have CQ := Aside0.mk (fun W hb => slept2_any q e.t W (hJ.below hb).st (hJ.below hb).sb_ hl)
  clear hJ hl h1 h2
  go_enter Try.func87, Try.ntmps87
  go_wp2_with (go_at_call 58; (with_reducible refine (CQ.out _ (below_alloc (Below.refl _ _) _)).mono ?_); rintro r w2 ⟨rfl, hb⟩; have HB2 := Aside0.mk (below_step (below_alloc (Below.refl w.heap.size w) (.cells (clA q) 103)) hb); clear hb)
  go_ret
  exact ⟨rfl, HB2.out⟩

theorem ret1_any {B b n m1 m2 sb ib fb eb i : Nat} {s : Story} {vl vv vc : Value} {e : Ev} (q : Cl) (w : World) (hJ : Jk w B b n m1 m2 sb ib fb eb i s vl vv vc e) (hl : s.lives.length ≤ 1000000) :
    Calls Try.prog 87 #[.agg (clA q), .pointer (some ⟨ib, 0, none⟩), .pointer (some ⟨fb, 0, none⟩), .pointer (some ⟨eb, 0, none⟩)] w fun r w' => r = .returned (.bool (sleptC1 s i e q)) ∧ Below w.heap.size w w' := by
  unfold sleptC1
  by_cases h1 : q.en = (i : Int)
  · by_cases h2 : q.e.op = 6
    · rw [beq_iff_eq.2 h1, beq_iff_eq.2 h2, Bool.true_and, Bool.true_and]; exact ret1_so q w hJ hl h1 h2
    · rw [beq_iff_eq.2 h1, beq_eq_false_iff_ne.2 h2]; exact ret1_op q w hJ hl h1 h2
  · rw [beq_eq_false_iff_ne.2 h1]; exact ret1_other q w hJ hl h1

set_option maxHeartbeats 4000000 in
set_option maxRecDepth 100000 in
theorem some_ret1 {B : Nat} {v : Value} {l : List Cl} (cap : Array Value) (p : Cl → Bool) (J : World → Prop) (w : World) (hr : RowIs w B 103 15 clA v l) (hl : l.length ≤ 1000000) (h0 : J w) (hJ : ∀ W W', J W → Below W.heap.size W W' → J W')
    (hcall : ∀ x W, x ∈ l → J W → Calls Try.prog 87 (#[.agg (clA x)] ++ cap) W fun r W' => r = .returned (.bool (p x)) ∧ Below W.heap.size W W') :
    Calls Try.prog 54 #[v, .func (.func 87) #[] cap] w fun r w' => r = .returned (.bool (l.any p)) ∧ Below w.heap.size w w' := by
  have hu54 := Try.underlying54
  have hu34 := Try.underlying34
  have huT := Try.underlying103
  obtain ⟨A0, c0, rfl, hc0⟩ := hr.form
  have HR := Aside0.mk hr
  have HL := Aside0.mk hl
  have HJ := Aside0.mk hJ
  have HC := Aside0.mk hcall
  have H0 := Aside0.mk h0
  clear hr hl hJ hcall h0 hc0
  go_enter Try.func54, Try.ntmps54
  go_wp2
  go_loopw [9] (fun i wr => ∃ k : Nat, k ≤ l.length ∧ i = .int .i64 k ∧ Aside0 (J wr ∧ Below w.heap.size w wr ∧ (l.take k).any p = false)) (fun i _ => l.length - (intOf i).toNat)
  case atStart => exact ⟨0, by omega, rfl, ⟨H0.out, Below.refl _ _, rfl⟩⟩
  case round =>
    clear H0
    obtain ⟨k, hk, rfl, HI⟩ := hrel
    rcases Nat.lt_or_ge k l.length with hlt | hge
    · have p0 : (0 : Int) ≤ (k : Int) := by omega
      have q0 : (k : Int) < (l.length : Int) := by omega
      obtain ⟨x, hx⟩ : ∃ x, l[k]? = some x := ⟨_, List.getElem?_eq_getElem hlt⟩
      obtain ⟨g, cp, hv, hcp, hgl, hcell⟩ := (HR.out.below HI.out.2.1).at_ (fun _ => rfl) hx
      injection hv with hv1 hv2 hv3
      subst hv1
      have HM := Aside0.mk (get_mem hx)
      have HT := Aside0.mk (show (l.take (k + 1)).any p = ((l.take k).any p || p x) by
        obtain ⟨h1, h2⟩ := List.getElem?_eq_some_iff.1 hx
        rw [List.take_succ_eq_append_getElem h1, List.any_append, h2]; simp)
      have hnn : wrap64 ((k : Int) + 1) = ((k + 1 : Nat) : Int) := by have := HL.out; unfold wrap64; omega
      have c0 := hcell 0 (by decide)
      have c1 := hcell 1 (by decide)
      have c2 := hcell 2 (by decide)
      have c3 := hcell 3 (by decide)
      have c4 := hcell 4 (by decide)
      have c5 := hcell 5 (by decide)
      have c6 := hcell 6 (by decide)
      have c7 := hcell 7 (by decide)
      have c8 := hcell 8 (by decide)
      have c9 := hcell 9 (by decide)
      have c10 := hcell 10 (by decide)
      have c11 := hcell 11 (by decide)
      have c12 := hcell 12 (by decide)
      have c13 := hcell 13 (by decide)
      have c14 := hcell 14 (by decide)
      rw [Nat.add_zero] at c0
      replace q0 := eq_true q0
      replace p0 := eq_true p0
      clear hcell hx hv2 hv3
      have HCC : Aside0 (∀ W, J W → Calls Try.prog 87 (#[.agg (clA x)] ++ cap) W fun r W' => r = .returned (.bool (p x)) ∧ Below W.heap.size W W') := ⟨fun W hW => HC.out x W HM.out hW⟩
      have HJ1 : Aside0 (J (wr.alloc (.cells (clA x) 103))) := ⟨HJ.out _ _ HI.out.1 (below_alloc (Below.refl _ _) _)⟩
      cases hp : p x with
      | true =>
        rw [hp] at HCC
        have HE := Aside0.mk (show l.any p = true by rw [List.any_eq_true]; exact ⟨x, HM.out, hp⟩)
        clear hp
        go_wp2_with (go_at_call 87; (with_reducible refine (HCC.out _ HJ1.out).mono ?_); rintro r w2 ⟨rfl, hb⟩; have HB2 := Aside0.mk (below_step (below_alloc HI.out.2.1 _) hb); clear hb)
        go_ret
        exact ⟨by rw [HE.out]; rfl, HB2.out⟩
      | false =>
        rw [hp] at HCC
        rw [hp] at HT
        clear hp
        go_wp2_with (go_at_call 87; (with_reducible refine (HCC.out _ HJ1.out).mono ?_); rintro r w2 ⟨rfl, hb⟩; have HB2 := Aside0.mk (below_step (below_alloc HI.out.2.1 _) hb); have HJ2 := Aside0.mk (HJ.out _ _ HJ1.out hb); clear hb)
        go_roundw
        case rel => exact ⟨k + 1, by omega, by first | rw [hnn] | simp, ⟨HJ2.out, HB2.out, by rw [HT.out, HI.out.2.2]; rfl⟩⟩
        case measure => first | (rw [hnn]; simp [intOf]; omega) | (simp [intOf]; omega)
    · have q0 : ((k : Int) < (l.length : Int)) = False := eq_false (by omega)
      have HE := Aside0.mk (show l.any p = false by rw [← HI.out.2.2, List.take_of_length_le (by omega)])
      clear hk hge
      go_wp2
      go_ret
      exact ⟨by rw [HE.out]; rfl, HI.out.2.1⟩

/-- A story, the blocks of its pointers and of the closure. -/
structure J5 (w W : World) (b n m1 m2 sb rb fb : Nat) (s : Story) (vl vv vc : Value) : Prop where
  st : StIs W w.heap.size b n s vl vv vc m1 m2
  sb_ : W.heap[sb]? = some (.cells #[.pointer (some ⟨b, 0, none⟩)] 87 (0, 0))
  rb_ : W.heap[rb]? = some (.cells #[.pointer (some ⟨b, 0, none⟩)] 87 (0, 0))
  fb_ : W.heap[fb]? = some (.cells #[.func (.func 58) #[] #[.pointer (some ⟨sb, 0, none⟩)]] 109 (0, 0))
  below : Below w.heap.size w W
theorem J5.step {w W W' : World} {b n m1 m2 sb rb fb : Nat} {s : Story} {vl vv vc : Value} (h : J5 w W b n m1 m2 sb rb fb s vl vv vc) (hb : Below W.heap.size W W') : J5 w W' b n m1 m2 sb rb fb s vl vv vc := ⟨h.st.below hb, blk_below h.sb_ hb, blk_below h.rb_ hb, blk_below h.fb_ hb, below_step h.below hb⟩

set_option maxHeartbeats 4000000 in
set_option maxRecDepth 100000 in
theorem ret_any {w0 : World} {b n m1 m2 sb rb fb : Nat} {s : Story} {vl vv vc : Value} (i : Nat) (e : Ev) (w : World) (hJ : J5 w0 w b n m1 m2 sb rb fb s vl vv vc) (hl : s.lives.length ≤ 1000000) (hl2 : s.calls.length ≤ 1000000) :
    Calls Try.prog 86 #[.int .i64 (i : Int), .agg (evA e), .pointer (some ⟨rb, 0, none⟩), .pointer (some ⟨fb, 0, none⟩)] w fun r w' => r = .returned (.bool (sleptC s i e)) ∧ Below w.heap.size w w' := by
  have hu97 := Try.underlying97
  have hmf : ∀ (fn : Fn) (first cap : Array Value) (w : World), (Instr.makeFunc fn first cap).run Try.prog w = .ok (.func fn first cap) w := fun _ _ _ _ => rfl
  have HJ := Aside0.mk (show Jk ((w.alloc (.cells #[.int .i64 (i : Int)] 3)).alloc (.cells (evA e) 54)) w0.heap.size b n m1 m2 sb w.heap.size fb (w.heap.size + 1) i s vl vv vc e from ⟨(hJ.st.alloc _).alloc _, blk_alloc (blk_alloc hJ.sb_ _) _, blk_alloc (blk_new _ _) _, blk_alloc (blk_alloc hJ.fb_ _) _, two_alloc _ _ _⟩)
  have CS : Aside0 (∀ W, Jk W w0.heap.size b n m1 m2 sb w.heap.size fb (w.heap.size + 1) i s vl vv vc e → Calls Try.prog 54 #[vc, .func (.func 87) #[] #[.pointer (some ⟨w.heap.size, 0, none⟩), .pointer (some ⟨fb, 0, none⟩), .pointer (some ⟨w.heap.size + 1, 0, none⟩)]] W fun r w' => r = .returned (.bool (sleptC s i e)) ∧ Below W.heap.size W w') :=
    ⟨fun W h => some_ret1 _ (sleptC1 s i e) (fun W => Jk W w0.heap.size b n m1 m2 sb w.heap.size fb (w.heap.size + 1) i s vl vv vc e) W h.st.rc hl2 h (fun _ _ h hb => h.below hb) (fun q W' _ h => ret1_any q W' h hl)⟩
  have HBL := Aside0.mk (below_alloc (below_alloc (Below.refl w.heap.size w) (.cells #[.int .i64 (i : Int)] 3)) (.cells (evA e) 54))
  have hlt := hJ.st.lt
  have hlr := blk_lt hJ.rb_
  have hlf := blk_lt hJ.fb_
  have hc := fun i => hJ.st.cell i
  have hcr := fun i => blk_cell hJ.rb_ i
  clear hJ hl hl2
  go_enter Try.func86, Try.ntmps86
  go_wp2_with (go_at_call 54; (with_reducible refine (CS.out _ HJ.out).mono ?_); rintro r w2 ⟨rfl, hb⟩; have HB2 := Aside0.mk (below_step HBL.out hb); clear hb)
  go_ret
  exact ⟨rfl, HB2.out⟩
def sleptF (g : Nat → Ev) (n : Nat) (i : Nat) : Bool := (g i).k == 5 && sleptC (storyN g n) i (g i)
theorem slept_eq (g : Nat → Ev) (n : Nat) (hn : (n : Int) < noEnd) : firstN (sleptF g n) n = firstN (sleptP g) n := firstN_congr fun i hi => by
  unfold sleptF
  by_cases hk : (g i).k = 5
  · rw [beq_iff_eq.2 hk, Bool.true_and, slept_is (inv_all g n hn) hn hi hk]
  · unfold sleptP; rw [beq_eq_false_iff_ne.2 hk]; rfl
theorem slept_clo {l : List Ev} (hn : l.length ≤ 1000000) {w W : World} {b m1 m2 sb rb fb : Nat} {vl vv vc : Value} (i : Nat) (e : Ev) (he : (storyN (gOf l) l.length).l[i]? = some e) (hk : e.k = 5) (h : J5 w W b l.length m1 m2 sb rb fb (storyN (gOf l) l.length) vl vv vc) :
    Calls Try.prog 86 (#[.int .i64 (i : Int), .agg (evA e)] ++ #[.pointer (some ⟨rb, 0, none⟩), .pointer (some ⟨fb, 0, none⟩)]) W fun r W' => r = .returned (.bool (sleptF (gOf l) l.length i)) ∧ J5 w W' b l.length m1 m2 sb rb fb (storyN (gOf l) l.length) vl vv vc := by
  have INV := inv_all (gOf l) l.length (by unfold noEnd; omega)
  obtain ⟨hi, heq⟩ := get_l hn he
  have hp : sleptF (gOf l) l.length i = sleptC (storyN (gOf l) l.length) i e := by unfold sleptF; rw [← heq, beq_iff_eq.2 hk, Bool.true_and]
  have ha : (#[.int .i64 (i : Int), .agg (evA e)] ++ #[.pointer (some ⟨rb, 0, none⟩), .pointer (some ⟨fb, 0, none⟩)] : Array Value) = #[.int .i64 (i : Int), .agg (evA e), .pointer (some ⟨rb, 0, none⟩), .pointer (some ⟨fb, 0, none⟩)] := by simp
  have hcl := ret_any i e W h (lives_len _ _ _ hn (Nat.le_refl _)) (calls_len _ _ _ hn (Nat.le_refl _))
  rw [ha, hp]
  generalize storyN (gOf l) l.length = s at hcl h ⊢
  refine hcl.mono ?_
  rintro r W' ⟨hr, hb⟩
  exact ⟨hr, h.step hb⟩
theorem slept_first {l : List Ev} (hn : l.length ≤ 1000000) {w W : World} {b m1 m2 sb rb fb : Nat} {vl vv vc : Value} (hJ : J5 w W b l.length m1 m2 sb rb fb (storyN (gOf l) l.length) vl vv vc) :
    Calls Try.prog 48 #[.pointer (some ⟨b, 0, none⟩), .int .i64 5, .func (.func 86) #[] #[.pointer (some ⟨rb, 0, none⟩), .pointer (some ⟨fb, 0, none⟩)]] W (FirstPost (sleptF (gOf l) l.length) l.length (fun _ W' => J5 w W' b l.length m1 m2 sb rb fb (storyN (gOf l) l.length) vl vv vc)) := by
  have INV := inv_all (gOf l) l.length (by unfold noEnd; omega)
  have h := first_returns #[.pointer (some ⟨rb, 0, none⟩), .pointer (some ⟨fb, 0, none⟩)] 5 (sleptF (gOf l) l.length) (fun _ W' => J5 w W' b l.length m1 m2 sb rb fb (storyN (gOf l) l.length) vl vv vc) (by rw [INV.len]; exact hn) (fun _ _ h => h.st) (fun _ _ _ h hb => h.step hb)
      (fun i e W he hk h => ⟨h, by unfold sleptF; rw [← (get_l hn he).2, beq_eq_false_iff_ne.2 hk]; rfl⟩)
      (fun i e W he hk h => slept_clo hn i e he hk h) W hJ
  rw [INV.len] at h
  exact h

set_option maxHeartbeats 4000000 in
set_option maxRecDepth 100000 in
theorem returns_slept {l : List Ev} (hn : l.length ≤ 1000000) {w W : World} {b m1 m2 sb : Nat} {vl vv vc : Value} (hS : Js w W b l.length m1 m2 sb (storyN (gOf l) l.length) vl vv vc) :
    Calls Try.prog 57 #[.pointer (some ⟨b, 0, none⟩), .func (.func 58) #[] #[.pointer (some ⟨sb, 0, none⟩)]] W fun r w' => r = .returned (.int .i64 (oI (firstN (sleptF (gOf l) l.length) l.length))) ∧ Below w.heap.size w w' := by
  have hmf : ∀ (fn : Fn) (first cap : Array Value) (w : World), (Instr.makeFunc fn first cap).run Try.prog w = .ok (.func fn first cap) w := fun _ _ _ _ => rfl
  have HJ := Aside0.mk (show J5 w ((W.alloc (.cells #[.pointer (some ⟨b, 0, none⟩)] 87)).alloc (.cells #[.func (.func 58) #[] #[.pointer (some ⟨sb, 0, none⟩)]] 109)) b l.length m1 m2 sb W.heap.size (W.heap.size + 1) (storyN (gOf l) l.length) vl vv vc from ⟨(hS.st.alloc _).alloc _, blk_alloc (blk_alloc hS.sb_ _) _, blk_alloc (blk_new _ _) _, two_alloc _ _ _, below_alloc (below_alloc hS.below _) _⟩)
  have CF : Aside0 (∀ W1 rb fb, J5 w W1 b l.length m1 m2 sb rb fb (storyN (gOf l) l.length) vl vv vc → Calls Try.prog 48 #[.pointer (some ⟨b, 0, none⟩), .int .i64 5, .func (.func 86) #[] #[.pointer (some ⟨rb, 0, none⟩), .pointer (some ⟨fb, 0, none⟩)]] W1 (FirstPost (sleptF (gOf l) l.length) l.length (fun _ W' => J5 w W' b l.length m1 m2 sb rb fb (storyN (gOf l) l.length) vl vv vc))) := ⟨fun W1 rb fb h => slept_first hn h⟩
  clear hS
  go_enter Try.func57, Try.ntmps57
  go_wp2_with (go_at_call 48; (with_reducible refine (CF.out _ _ _ HJ.out).mono ?_); rintro r w3 ⟨rfl, k3, hJ3⟩; have HB3 := Aside0.mk hJ3.below; clear hJ3)
  go_ret
  exact ⟨rfl, HB3.out⟩
set_option maxHeartbeats 4000000 in
set_option maxRecDepth 100000 in
theorem slept_top (A1 : Option Addr) (c1 : Nat) (l : List Ev) (hn : l.length ≤ 1000000) (w : World) (hin : ∀ (i : Nat) e, l[i]? = some e → EvAt w A1 i e) (hwf : ∀ e ∈ l, wfE e) :
    Calls Try.prog 23 #[.slice A1 l.length c1] w fun r w' => r = .returned (.int .i64 (sleptI (gOf l) l.length)) ∧ Below w.heap.size w w' := by
  have hmf : ∀ (fn : Fn) (first cap : Array Value) (w : World), (Instr.makeFunc fn first cap).run Try.prog w = .ok (.func fn first cap) w := fun _ _ _ _ => rfl
  have CR := Aside0.mk (read_any A1 c1 l hn w hin hwf)
  have CF : Aside0 (∀ W b m1 m2 sb vl vv vc, Js w W b l.length m1 m2 sb (storyN (gOf l) l.length) vl vv vc → Calls Try.prog 57 #[.pointer (some ⟨b, 0, none⟩), .func (.func 58) #[] #[.pointer (some ⟨sb, 0, none⟩)]] W fun r w' => r = .returned (.int .i64 (oI (firstN (sleptF (gOf l) l.length) l.length))) ∧ Below w.heap.size w w') := ⟨fun W b m1 m2 sb vl vv vc h => returns_slept hn h⟩
  have HE := Aside0.mk (show oI (firstN (sleptF (gOf l) l.length) l.length) = sleptI (gOf l) l.length by unfold sleptI; rw [slept_eq (gOf l) l.length (by unfold noEnd; omega)])
  clear hin hwf
  go_enter Try.func23, Try.ntmps23
  go_wp2_with (first
    | (go_at_call 47; (with_reducible refine CR.out.mono ?_); rintro r w2 ⟨b, m1, m2, vl, vv, vc, rfl, hS, hb⟩; have HJ := Aside0.mk (show Js w (w2.alloc (.cells #[.pointer (some ⟨b, 0, none⟩)] 87)) b l.length m1 m2 w2.heap.size _ vl vv vc from ⟨hS.alloc _, blk_new _ _, below_alloc hb _⟩); clear hS hb)
    | (go_at_call 57; (with_reducible refine (CF.out _ b m1 m2 w2.heap.size vl vv vc HJ.out).mono ?_); rintro r w3 ⟨rfl, hb3⟩; have HB3 := Aside0.mk hb3; clear hb3))
  go_ret
  exact ⟨by rw [← HE.out]; rfl, HB3.out⟩

end Go.Proofs.Ythniclbmpeklmaa.Au
