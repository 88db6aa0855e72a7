/- What is proved: audit.Early and audit.Wrong come to the first places that the story tells; events' numbers fit into 64 bits. -/
import Derived.Test.YthniclbmpeklmaaAuC
import Derived.Test.YthniclbmpeklmaaAuF
namespace Go.Proofs.Ythniclbmpeklmaa.Au
open Go.RowKit Go.Maps Go.Proofs.YthniclbmpeklmaaW.PrintWords Go.Proofs.YthniclbmpeklmaaW.PrintLast Go.Proofs.YthniclbmpeklmaaW.PrintMore Go.Proofs.Ythniclbmpeklmaa.Mp
set_option linter.unusedVariables false
set_option linter.unusedSimpArgs false
/-- What the closures of Wrong see. -/
structure Jw (W : World) (B b n m1 m2 sb ib eb i : Nat) (s : Story) (vl vv vc : Value) (e : Ev) : Prop where
  st : StIs W B b n s vl vv vc m1 m2
  sb_ : W.heap[sb]? = some (.cells #[.pointer (some ⟨b, 0, none⟩)] 87 (0, 0))
  ib_ : W.heap[ib]? = some (.cells #[.int .i64 (i : Int)] 3 (0, 0))
  eb_ : W.heap[eb]? = some (.cells (evA e) 54 (0, 0))
theorem Jw.below {W W' : World} {B b n m1 m2 sb ib eb i : Nat} {s : Story} {vl vv vc : Value} {e : Ev} (h : Jw W B b n m1 m2 sb ib eb i s vl vv vc e) (hb : Below W.heap.size W W') : Jw W' B b n m1 m2 sb ib eb i s vl vv vc e :=
  ⟨h.st.below hb, blk_below h.sb_ hb, blk_below h.ib_ hb, blk_below h.eb_ hb⟩
set_option maxHeartbeats 4000000 in
set_option maxRecDepth 100000 in
theorem wrong_any {B b n m1 m2 sb : Nat} {s : Story} {vl vv vc : Value} (i : Nat) (e : Ev) (w : World) (hB : StIs w B b n s vl vv vc m1 m2) (hsb : w.heap[sb]? = some (.cells #[.pointer (some ⟨b, 0, none⟩)] 87 (0, 0))) (hi : i < s.l.length) (hl : s.calls.length ≤ 1000000) :
    Calls Try.prog 53 #[.int .i64 (i : Int), .agg (evA e), .pointer (some ⟨sb, 0, none⟩)] w fun r w' => r = .returned (.bool (wrongC s i e)) ∧ Below w.heap.size w w' := by
  have hu97 := Try.underlying97
  have hmf : ∀ (fn : Fn) (first cap : Array Value) (w : World), (Instr.makeFunc fn first cap).run Try.prog w = .ok (.func fn first cap) w := fun _ _ _ _ => rfl
  have HJ := Aside0.mk (show Jw ((w.alloc (.cells #[.int .i64 (i : Int)] 3)).alloc (.cells (evA e) 54)) B b n m1 m2 sb w.heap.size (w.heap.size + 1) i s vl vv vc e from ⟨(hB.alloc _).alloc _, blk_alloc (blk_alloc hsb _) _, blk_alloc (blk_new _ _) _, two_alloc _ _ _⟩)
  have CS : Aside0 (∀ W, Jw W B b n m1 m2 sb w.heap.size (w.heap.size + 1) i s vl vv vc e → Calls Try.prog 54 #[vc, .func (.func 55) #[] #[.pointer (some ⟨w.heap.size, 0, none⟩), .pointer (some ⟨w.heap.size + 1, 0, none⟩), .pointer (some ⟨sb, 0, none⟩)]] W fun r w' => r = .returned (.bool (wrongC s i e)) ∧ Below W.heap.size W w') :=
    ⟨fun W hJ => some_wrong _ (wrongC1 s i e) (fun W => Jw W B b n m1 m2 sb w.heap.size (w.heap.size + 1) i s vl vv vc e) W hJ.st.rc hl hJ (fun _ _ h hb => h.below hb) (fun q W' _ h => wrong1_any i e q W' h.st h.sb_ h.ib_ h.eb_ hi)⟩
  have HBL := Aside0.mk (below_alloc (below_alloc (Below.refl w.heap.size w) (.cells #[.int .i64 (i : Int)] 3)) (.cells (evA e) 54))
  have hlt := hB.lt
  have hls := blk_lt hsb
  have hc := fun i => hB.cell i
  have hcs := fun i => blk_cell hsb i
  clear hB hsb hi hl
  go_enter Try.func53, Try.ntmps53
  go_wp2_with (go_at_call 54; (with_reducible refine (CS.out _ HJ.out).mono ?_); rintro r w2 ⟨rfl, hb⟩; have HB2 := Aside0.mk (below_step HBL.out hb); clear hb)
  go_ret
  exact ⟨rfl, HB2.out⟩
/-- What Early and Wrong ask of a place. -/
def earlyF (g : Nat → Ev) (n : Nat) (i : Nat) : Bool := (g i).k == 4 && earlyC (storyN g n) i (g i)
def wrongF (g : Nat → Ev) (n : Nat) (i : Nat) : Bool := (g i).k == 4 && wrongC (storyN g n) i (g i)
theorem early_eq (g : Nat → Ev) (n : Nat) (hn : (n : Int) < noEnd) : firstN (earlyF g n) n = firstN (earlyP g) n := firstN_congr fun i hi => by
  unfold earlyF
  by_cases hk : (g i).k = 4
  · rw [beq_iff_eq.2 hk, Bool.true_and, early_is (inv_all g n hn) hi hk]
  · unfold earlyP; rw [beq_eq_false_iff_ne.2 hk]; rfl
theorem wrong_eq (g : Nat → Ev) (n : Nat) (hn : (n : Int) < noEnd) : firstN (wrongF g n) n = firstN (wrongP g) n := firstN_congr fun i hi => by
  unfold wrongF
  by_cases hk : (g i).k = 4
  · rw [beq_iff_eq.2 hk, Bool.true_and, wrong_is (inv_all g n hn) hi hk]
  · unfold wrongP; rw [beq_eq_false_iff_ne.2 hk]; rfl
/-- A story and the block of its pointer. -/
structure Js (w W : World) (b n m1 m2 sb : Nat) (s : Story) (vl vv vc : Value) : Prop where
  st : StIs W w.heap.size b n s vl vv vc m1 m2
  sb_ : W.heap[sb]? = some (.cells #[.pointer (some ⟨b, 0, none⟩)] 87 (0, 0))
  below : Below w.heap.size w W
theorem Js.step {w W W' : World} {b n m1 m2 sb : Nat} {s : Story} {vl vv vc : Value} (h : Js w W b n m1 m2 sb s vl vv vc) (hb : Below W.heap.size W W') : Js w W' b n m1 m2 sb s vl vv vc := ⟨h.st.below hb, blk_below h.sb_ hb, below_step h.below hb⟩
theorem wf_g {l : List Ev} (hwf : ∀ e ∈ l, wfE e) {i : Nat} (hi : i < l.length) : wfE (gOf l i) := by
  rw [g_at (List.getElem?_eq_getElem hi)]
  unfold clE
  split
  · exact hwf _ (List.getElem_mem hi)
  · exact ⟨by decide, by decide, by decide, by decide, by decide⟩
theorem get_l {l : List Ev} (hn : l.length ≤ 1000000) {i : Nat} {e : Ev} (h : (storyN (gOf l) l.length).l[i]? = some e) : i < l.length ∧ e = gOf l i := by
  have INV := inv_all (gOf l) l.length (by unfold noEnd; omega)
  have hi : i < l.length := by have := (List.getElem?_eq_some_iff.1 h).1; rw [INV.len] at this; exact this
  exact ⟨hi, Option.some.inj (h.symm.trans (INV.l i hi))⟩
theorem early_clo {l : List Ev} (hn : l.length ≤ 1000000) (hwf : ∀ e ∈ l, wfE e) {w W : World} {b m1 m2 sb : Nat} {vl vv vc : Value} (i : Nat) (e : Ev) (he : (storyN (gOf l) l.length).l[i]? = some e) (hk : e.k = 4) (h : Js w W b l.length m1 m2 sb (storyN (gOf l) l.length) vl vv vc) :
    Calls Try.prog 51 (#[.int .i64 (i : Int), .agg (evA e)] ++ #[.pointer (some ⟨sb, 0, none⟩)]) W fun r W' => r = .returned (.bool (earlyF (gOf l) l.length i)) ∧ Js w W' b l.length m1 m2 sb (storyN (gOf l) l.length) vl vv vc := by
  have INV := inv_all (gOf l) l.length (by unfold noEnd; omega)
  obtain ⟨hi, heq⟩ := get_l hn he
  have hwe : wfE e := by rw [heq]; exact wf_g hwf hi
  have hp : earlyF (gOf l) l.length i = earlyC (storyN (gOf l) l.length) i e := by unfold earlyF; rw [← heq, beq_iff_eq.2 hk, Bool.true_and]
  have ha : (#[.int .i64 (i : Int), .agg (evA e)] ++ #[.pointer (some ⟨sb, 0, none⟩)] : Array Value) = #[.int .i64 (i : Int), .agg (evA e), .pointer (some ⟨sb, 0, none⟩)] := by simp
  have hat1 : ∀ h j, (storyN (gOf l) l.length).at_ h = some j → ∃ x, (storyN (gOf l) l.length).lives[j]? = some x := fun h j q => by obtain ⟨x, hx, _⟩ := INV.v.at1 h j q; exact ⟨x, hx⟩
  have hcl := early_any i e W h.st h.sb_ (keyH _ _ hwe.2.1 hwe.2.2.1) (by omega) hat1
  rw [ha, hp]
  generalize storyN (gOf l) l.length = s at hcl h ⊢
  refine hcl.mono ?_
  rintro r W' ⟨hr, hb⟩
  exact ⟨hr, h.step hb⟩
theorem early_first {l : List Ev} (hn : l.length ≤ 1000000) (hwf : ∀ e ∈ l, wfE e) {w W : World} {b m1 m2 sb : Nat} {vl vv vc : Value} (hJ : Js w W b l.length m1 m2 sb (storyN (gOf l) l.length) vl vv vc) :
    Calls Try.prog 48 #[.pointer (some ⟨b, 0, none⟩), .int .i64 4, .func (.func 51) #[] #[.pointer (some ⟨sb, 0, none⟩)]] W (FirstPost (earlyF (gOf l) l.length) l.length (fun _ W' => Js w W' b l.length m1 m2 sb (storyN (gOf l) l.length) vl vv vc)) := by
  have INV := inv_all (gOf l) l.length (by unfold noEnd; omega)
  have h := first_early #[.pointer (some ⟨sb, 0, none⟩)] 4 (earlyF (gOf l) l.length) (fun _ W' => Js w W' b l.length m1 m2 sb (storyN (gOf l) l.length) vl vv vc) (by rw [INV.len]; exact hn) (fun _ _ h => h.st) (fun _ _ _ h hb => h.step hb)
      (fun i e W he hk h => ⟨h, by unfold earlyF; rw [← (get_l hn he).2, beq_eq_false_iff_ne.2 hk]; rfl⟩)
      (fun i e W he hk h => early_clo hn hwf i e he hk h) W hJ
  rw [INV.len] at h
  exact h
set_option maxHeartbeats 4000000 in
set_option maxRecDepth 100000 in
theorem early_top (A1 : Option Addr) (c1 : Nat) (l : List Ev) (hn : l.length ≤ 1000000) (w : World) (hin : ∀ (i : Nat) e, l[i]? = some e → EvAt w A1 i e) (hwf : ∀ e ∈ l, wfE e) :
    Calls Try.prog 19 #[.slice A1 l.length c1] w fun r w' => r = .returned (.int .i64 (earlyI (gOf l) l.length)) ∧ Below w.heap.size w w' := by
  have hmf : ∀ (fn : Fn) (first cap : Array Value) (w : World), (Instr.makeFunc fn first cap).run Try.prog w = .ok (.func fn first cap) w := fun _ _ _ _ => rfl
  have CR := Aside0.mk (read_any A1 c1 l hn w hin hwf)
  have CF : Aside0 (∀ W b m1 m2 sb vl vv vc, Js w W b l.length m1 m2 sb (storyN (gOf l) l.length) vl vv vc → Calls Try.prog 48 #[.pointer (some ⟨b, 0, none⟩), .int .i64 4, .func (.func 51) #[] #[.pointer (some ⟨sb, 0, none⟩)]] W (FirstPost (earlyF (gOf l) l.length) l.length (fun _ W' => Js w W' b l.length m1 m2 sb (storyN (gOf l) l.length) vl vv vc))) := ⟨fun W b m1 m2 sb vl vv vc hJ => early_first hn hwf hJ⟩
  have HE := Aside0.mk (show oI (firstN (earlyF (gOf l) l.length) l.length) = earlyI (gOf l) l.length by unfold earlyI; rw [early_eq (gOf l) l.length (by unfold noEnd; omega)])
  clear hin hwf
  go_enter Try.func19, Try.ntmps19
  go_wp2_with (first
    | (go_at_call 47; (with_reducible refine CR.out.mono ?_); rintro r w2 ⟨b, m1, m2, vl, vv, vc, rfl, hS, hb⟩; have HJ := Aside0.mk (show Js w (w2.alloc (.cells #[.pointer (some ⟨b, 0, none⟩)] 87)) b l.length m1 m2 w2.heap.size _ vl vv vc from ⟨hS.alloc _, blk_new _ _, below_alloc hb _⟩); clear hS hb)
    | (go_at_call 48; (with_reducible refine (CF.out _ b m1 m2 w2.heap.size vl vv vc HJ.out).mono ?_); rintro r w3 ⟨rfl, k3, hJ3⟩; have HB3 := Aside0.mk hJ3.below; clear hJ3))
  go_ret
  exact ⟨by rw [← HE.out]; rfl, HB3.out⟩
theorem wrong_clo {l : List Ev} (hn : l.length ≤ 1000000) (hwf : ∀ e ∈ l, wfE e) {w W : World} {b m1 m2 sb : Nat} {vl vv vc : Value} (i : Nat) (e : Ev) (he : (storyN (gOf l) l.length).l[i]? = some e) (hk : e.k = 4) (h : Js w W b l.length m1 m2 sb (storyN (gOf l) l.length) vl vv vc) :
    Calls Try.prog 53 (#[.int .i64 (i : Int), .agg (evA e)] ++ #[.pointer (some ⟨sb, 0, none⟩)]) W fun r W' => r = .returned (.bool (wrongF (gOf l) l.length i)) ∧ Js w W' b l.length m1 m2 sb (storyN (gOf l) l.length) vl vv vc := by
  have INV := inv_all (gOf l) l.length (by unfold noEnd; omega)
  obtain ⟨hi, heq⟩ := get_l hn he
  have hwe : wfE e := by rw [heq]; exact wf_g hwf hi
  have hp : wrongF (gOf l) l.length i = wrongC (storyN (gOf l) l.length) i e := by unfold wrongF; rw [← heq, beq_iff_eq.2 hk, Bool.true_and]
  have ha : (#[.int .i64 (i : Int), .agg (evA e)] ++ #[.pointer (some ⟨sb, 0, none⟩)] : Array Value) = #[.int .i64 (i : Int), .agg (evA e), .pointer (some ⟨sb, 0, none⟩)] := by simp
  have hat1 : ∀ h j, (storyN (gOf l) l.length).at_ h = some j → ∃ x, (storyN (gOf l) l.length).lives[j]? = some x := fun h j q => by obtain ⟨x, hx, _⟩ := INV.v.at1 h j q; exact ⟨x, hx⟩
  have hcl := wrong_any i e W h.st h.sb_ (by rw [INV.len]; exact hi) (calls_len _ _ _ hn (Nat.le_refl _))
  rw [ha, hp]
  generalize storyN (gOf l) l.length = s at hcl h ⊢
  refine hcl.mono ?_
  rintro r W' ⟨hr, hb⟩
  exact ⟨hr, h.step hb⟩
theorem wrong_first {l : List Ev} (hn : l.length ≤ 1000000) (hwf : ∀ e ∈ l, wfE e) {w W : World} {b m1 m2 sb : Nat} {vl vv vc : Value} (hJ : Js w W b l.length m1 m2 sb (storyN (gOf l) l.length) vl vv vc) :
    Calls Try.prog 48 #[.pointer (some ⟨b, 0, none⟩), .int .i64 4, .func (.func 53) #[] #[.pointer (some ⟨sb, 0, none⟩)]] W (FirstPost (wrongF (gOf l) l.length) l.length (fun _ W' => Js w W' b l.length m1 m2 sb (storyN (gOf l) l.length) vl vv vc)) := by
  have INV := inv_all (gOf l) l.length (by unfold noEnd; omega)
  have h := first_wrong #[.pointer (some ⟨sb, 0, none⟩)] 4 (wrongF (gOf l) l.length) (fun _ W' => Js w W' b l.length m1 m2 sb (storyN (gOf l) l.length) vl vv vc) (by rw [INV.len]; exact hn) (fun _ _ h => h.st) (fun _ _ _ h hb => h.step hb)
      (fun i e W he hk h => ⟨h, by unfold wrongF; rw [← (get_l hn he).2, beq_eq_false_iff_ne.2 hk]; rfl⟩)
      (fun i e W he hk h => wrong_clo hn hwf i e he hk h) W hJ
  rw [INV.len] at h
  exact h
set_option maxHeartbeats 4000000 in
set_option maxRecDepth 100000 in
theorem wrong_top (A1 : Option Addr) (c1 : Nat) (l : List Ev) (hn : l.length ≤ 1000000) (w : World) (hin : ∀ (i : Nat) e, l[i]? = some e → EvAt w A1 i e) (hwf : ∀ e ∈ l, wfE e) :
    Calls Try.prog 21 #[.slice A1 l.length c1] w fun r w' => r = .returned (.int .i64 (wrongI (gOf l) l.length)) ∧ Below w.heap.size w w' := by
  have hmf : ∀ (fn : Fn) (first cap : Array Value) (w : World), (Instr.makeFunc fn first cap).run Try.prog w = .ok (.func fn first cap) w := fun _ _ _ _ => rfl
  have CR := Aside0.mk (read_any A1 c1 l hn w hin hwf)
  have CF : Aside0 (∀ W b m1 m2 sb vl vv vc, Js w W b l.length m1 m2 sb (storyN (gOf l) l.length) vl vv vc → Calls Try.prog 48 #[.pointer (some ⟨b, 0, none⟩), .int .i64 4, .func (.func 53) #[] #[.pointer (some ⟨sb, 0, none⟩)]] W (FirstPost (wrongF (gOf l) l.length) l.length (fun _ W' => Js w W' b l.length m1 m2 sb (storyN (gOf l) l.length) vl vv vc))) := ⟨fun W b m1 m2 sb vl vv vc hJ => wrong_first hn hwf hJ⟩
  have HE := Aside0.mk (show oI (firstN (wrongF (gOf l) l.length) l.length) = wrongI (gOf l) l.length by unfold wrongI; rw [wrong_eq (gOf l) l.length (by unfold noEnd; omega)])
  clear hin hwf
  go_enter Try.func21, Try.ntmps21
  go_wp2_with (first
    | (go_at_call 47; (with_reducible refine CR.out.mono ?_); rintro r w2 ⟨b, m1, m2, vl, vv, vc, rfl, hS, hb⟩; have HJ := Aside0.mk (show Js w (w2.alloc (.cells #[.pointer (some ⟨b, 0, none⟩)] 87)) b l.length m1 m2 w2.heap.size _ vl vv vc from ⟨hS.alloc _, blk_new _ _, below_alloc hb _⟩); clear hS hb)
    | (go_at_call 48; (with_reducible refine (CF.out _ b m1 m2 w2.heap.size vl vv vc HJ.out).mono ?_); rintro r w3 ⟨rfl, k3, hJ3⟩; have HB3 := Aside0.mk hJ3.below; clear hJ3))
  go_ret
  exact ⟨by rw [← HE.out]; rfl, HB3.out⟩
end Go.Proofs.Ythniclbmpeklmaa.Au
