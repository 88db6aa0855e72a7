/- What is proved: a book of connections in memory (its configuration, its clock, a map from connections to states): what State, Clock and set do with it; connections' numbers fit into 64 bits. -/
import Derived.Test.YthljanmfanppdaaProg
import Derived.Test.YthljanmfanppdaaMq
import Derived.Test.YthljanmfanppdaaWKept
import Derived.Test.YthljanmfanppdaaWMore
import Derived.WalkKit
import Derived.KernelRfl
import Derived.StillTailTactics
import Derived.Deep.QuietTactic
import Derived.BigQuiet
namespace Go.Proofs.Ythljanmfanppdaa.Bk
open Go.RowKit Go.Maps Go.Proofs.YthljanmfanppdaaW.PrintWords Go.Proofs.YthljanmfanppdaaW.PrintLast Go.Proofs.YthljanmfanppdaaW.PrintMore Go.Proofs.Ythljanmfanppdaa.Mp
set_option linter.unusedVariables false
set_option linter.unusedSimpArgs false
/-- A configuration's numbers. -/
structure Cf where
  c0 : Int
  c1 : Int
  c2 : Int
  c3 : Int
  c4 : Int
  c5 : Int
  c6 : Int
  c7 : Int
  c8 : Int
  c9 : Int
  c10 : Int
  c11 : Int
  c12 : Int
abbrev Cf.cells (c : Cf) : Array Value := #[.int .i64 c.c0, .int .i64 c.c1, .int .i64 c.c2, .int .i64 c.c3, .int .i64 c.c4, .int .i64 c.c5, .int .i64 c.c6, .int .i64 c.c7, .int .i64 c.c8, .int .i64 c.c9, .int .i64 c.c10, .int .i64 c.c11, .int .i64 c.c12]
/-- A book's cells. -/
abbrev bkA (c : Cf) (clock : Int) (m : Nat) : Array Value := #[.int .i64 c.c0, .int .i64 c.c1, .int .i64 c.c2, .int .i64 c.c3, .int .i64 c.c4, .int .i64 c.c5, .int .i64 c.c6, .int .i64 c.c7, .int .i64 c.c8, .int .i64 c.c9, .int .i64 c.c10, .int .i64 c.c11, .int .i64 c.c12, .int .i64 clock, .map (some m)]
/-- A state: what it is, how many retries it had, a time. -/
abbrev St := Int × Int × Int
abbrev stV (t : St) : Value := .agg #[.int .i64 t.1, .int .i64 t.2.1, .int .i64 t.2.2]
abbrev stA (t : St) : Array Value := #[.int .i64 t.1, .int .i64 t.2.1, .int .i64 t.2.2]
abbrev SM := Int → Option St
def SM.at_ (F : SM) (x : Int) : St := (F x).getD (0, 0, 0)
abbrev fV (F : SM) : Int → Option Value := fun x => (F x).map stV
/-- A book in memory. -/
structure BookIs (w : World) (g m s : Nat) (c : Cf) (clock : Int) (F : SM) : Prop where
  blk : w.heap[g]? = some (.cells (bkA c clock m) 107 (0, 0))
  map : MapIs (Value.int .i64) Try.prog 3 w m s (fV F)
theorem law3 : Keyed Try.prog 3 := int_keyed Try.underlying3
theorem zeroSt (w : World) : (zeroValue 56).run Try.prog w = .ok (stV (0, 0, 0)) w := by kernel_rfl
theorem int_inj (x y : Int) (h : Value.int .i64 x = Value.int .i64 y) : x = y := by injection h
section
variable {w w1 : World} {g m s : Nat} {c : Cf} {clock : Int} {F : SM}
theorem BookIs.glt (h : BookIs w g m s c clock F) : g < w.heap.size := blk_lt h.blk
theorem BookIs.mlt (h : BookIs w g m s c clock F) : m < w.heap.size := h.map.lt
theorem BookIs.ne (h : BookIs w g m s c clock F) : g ≠ m := by
  rintro rfl
  obtain ⟨D, ⟨es, cl, hb, _⟩, _⟩ := h.map
  have := h.blk
  rw [hb] at this
  cases this
theorem BookIs.move (h : BookIs w g m s c clock F) (hg : w1.heap[g]? = w.heap[g]?) (hm : w1.heap[m]? = w.heap[m]?) : BookIs w1 g m s c clock F := ⟨hg.trans h.blk, h.map.move hm⟩
theorem BookIs.below (h : BookIs w g m s c clock F) (hb : Below w.heap.size w w1) : BookIs w1 g m s c clock F := h.move (hb.block g h.glt) (hb.block m h.mlt)
theorem BookIs.alloc (h : BookIs w g m s c clock F) (o : Obj) : BookIs (w.alloc o) g m s c clock F := h.below (below_alloc (Below.refl _ _) o)
theorem BookIs.drew (h : BookIs w g m s c clock F) : BookIs w.drew g m s c clock F := h.move rfl rfl
theorem BookIs.drewN (h : BookIs w g m s c clock F) (n : Nat) : BookIs (w.drewN n) g m s c clock F := h.move rfl rfl
theorem BookIs.cell (h : BookIs w g m s c clock F) (i : Nat) : w.cell? ⟨g, i, none⟩ = (bkA c clock m)[i]? := blk_cell h.blk i
end
theorem look_is (F : SM) (x : Int) : ((fV F) x).getD (stV (0, 0, 0)) = stV (F.at_ x) := by
  unfold SM.at_ fV
  cases F x <;> rfl
set_option maxHeartbeats 1000000 in
theorem state_any {g m s : Nat} {c : Cf} {clock : Int} {F : SM} (x : Int) (hx : (Lit.int .i64 x).wf = true) (w : World) (hB : BookIs w g m s c clock F) :
    Calls Try.prog 37 #[.pointer (some ⟨g, 0, none⟩), .int .i64 x] w fun e w' => e = .returned (stV (F.at_ x)) ∧ Below w.heap.size w w' := by
  have hu := Try.underlying107
  have hu2 := Try.underlying56
  have HL := Aside0.mk (look_is F x)
  obtain ⟨a, b, d, hS⟩ : ∃ a b d, F.at_ x = (a, b, d) := ⟨_, _, _, rfl⟩
  rw [hS] at HL ⊢
  clear hS
  have HX := Aside0.mk (keyOf_int_mk Try.underlying3 hx)
  have HB := Aside0.mk (hB.alloc (.cells (stA (0, 0, 0)) 56))
  have hlt := hB.glt
  have hc := fun i => hB.cell i
  clear hB hx
  go_enter Try.func37, Try.ntmps37
  go_wp2_with (at_lookup; refine wpl_look_v rfl _ _ 105 rfl HB.out.map law3 Try.underlying105 (zeroSt _) (y := x) HX.out rfl rfl HL.out ?_)
  exact bodyPost_ret (v := .agg #[.int .i64 a, .int .i64 b, .int .i64 d]) (by simp [results, Try.results37, go_sem]) rfl ⟨rfl, by repeat (first | exact Below.refl _ _ | apply below_alloc | refine below_set ?_ (Nat.le_refl _))⟩
theorem clock_any {g m s : Nat} {c : Cf} {clock : Int} {F : SM} (w : World) (hB : BookIs w g m s c clock F) :
    Calls Try.prog 42 #[.pointer (some ⟨g, 0, none⟩)] w fun e w' => e = .returned (.int .i64 clock) ∧ w = w' := by
  have hc := fun i => hB.cell i
  have hlt := hB.glt
  clear hB
  have hu := Try.underlying107
  go_enter Try.func42, Try.ntmps42
  go_wp2
  go_ret
  exact ⟨rfl, rfl⟩
/-- A region that draws: all but its last operations only read; the world behind the draw under a name of its own. -/
theorem still_tail_at {P : Program} {id : Nat} {Q : Exit → Act → World → Prop} {a : Act} {w : World} {l : List Oper} (n : Nat) (hm : P.follows .mixedOrders = true) (hB : Region.lexTailB .any l.toArray n = true)
    (h : ∀ w2, w2 = w.drew → wpStill P l.toArray w2 (fun a' => wpList P l.toArray Q (l.drop n) a' w2) (l.take n) a) : (Code.region id l.toArray true).wp P Q a w :=
  wp_region_still_tail n hm hB (h _ rfl)
/-- Connection x's state is another one (none, if it is closed). -/
def SM.put (F : SM) (x : Int) (t : St) : SM := fun l => if l = x then (if t.1 = 0 then none else some t) else F l
/-- What set leaves: the map's block alone has changed. -/
def SetPost (g m s : Nat) (c : Cf) (clock : Int) (F : SM) (w : World) (code : Int) (e : Ending) (w' : World) : Prop := e = .returned (.int .i64 code) ∧ ∃ s', s' ≤ s + 1 ∧ BookIs w' g m s' c clock F ∧ w.grownBy w' (some m)
theorem put_del (F : SM) (x : Int) {t : St} (h : t.1 = 0) : (fun l => if l = x then none else if l = x then some (stV t) else fV F l) = fV (F.put x t) := by
  funext l
  unfold fV SM.put
  by_cases e : l = x <;> simp [e, h]
theorem put_add (F : SM) (x : Int) {t : St} (h : ¬ t.1 = 0) : (fun l => if l = x then some (stV t) else fV F l) = fV (F.put x t) := by
  funext l
  unfold fV SM.put
  by_cases e : l = x <;> simp [e, h]
theorem grown_drew {w w1 : World} {r : Option Nat} (h : w.grownBy w1 r) : w.grownBy w1.drew r := ⟨h.os, h.tape, h.output, h.size, h.block⟩
set_option maxHeartbeats 4000000 in
set_option maxRecDepth 100000 in
theorem set_any {g m s : Nat} {c : Cf} {clock : Int} {F : SM} (x : Int) (hx : (Lit.int .i64 x).wf = true) (t : St) (hs : s < 1000000) (w : World) (hB : BookIs w g m s c clock F) :
    Calls Try.prog 66 #[.pointer (some ⟨g, 0, none⟩), .int .i64 x, stV t] w (SetPost g m s c clock (F.put x t) w 0) := by
  have hu := Try.underlying107
  have hu2 := Try.underlying56
  obtain ⟨a, b, d⟩ := t
  have HX := Aside0.mk (keyOf_int_mk Try.underlying3 hx)
  have HB := Aside0.mk (hB.alloc (.cells (stA (a, b, d)) 56))
  have hlt := hB.glt
  have hml := Aside0.mk hB.mlt
  have hc := fun i => hB.cell i
  clear hB hx
  go_enter Try.func66, Try.ntmps66
  go_wp2
  refine still_tail_at 6 (by kernel_rfl) (by kernel_rfl) fun w2 hw2 => ?_
  have HB2 := Aside0.mk (show BookIs w2 g m s c clock F by rw [hw2]; exact HB.out.drew)
  have ho : w2.heap[w.heap.size]? = some (.cells (stA (a, b, d)) 56 (0, 0)) := by rw [hw2]; exact heap_alloc_new w (.cells (stA (a, b, d)) 56)
  have HG := Aside0.mk (show w.grownBy w2 (some m) by rw [hw2]; exact grown_drew (World.grownBy_alloc w _ _))
  have hz := Aside0.mk (show w2.heap.size = w.heap.size + 1 by rw [hw2]; simp)
  clear hw2 hc
  have hc := fun i => HB2.out.cell i
  have hd : ∀ i, w2.cell? ⟨w.heap.size, i, none⟩ = (stA (a, b, d))[i]? := fun i => blk_cell ho i
  have HO := Aside0.mk ho
  clear ho
  simp only [List.take_succ_cons, List.take_zero, List.drop_succ_cons, List.drop_zero]
  repeat still_step
  refine wpStill_nil ?_
  refine wpl_store int_inj rfl _ _ _ 105 rfl HB2.out.map law3 Try.underlying105 (by unfold maxLen; omega) (y := x) HX.out (val := stV (a, b, d)) rfl rfl rfl ?_
  intro w3 hm3 hg3
  have HB3 := Aside0.mk (hm3)
  have HG3 := Aside0.mk (HG.out.trans hg3)
  have hne := Aside0.mk (HB2.out.ne)
  have HK3 := Aside0.mk ((hg3.block g HB2.out.glt (by have := hne.out; intro e; injection e; contradiction)).trans HB2.out.blk)
  have HO3 := Aside0.mk ((hg3.block w.heap.size (by have := hz.out; omega) (by have := hml.out; intro e; injection e; omega)).trans HO.out)
  clear hc hd hm3 hg3
  have hc : ∀ i, w3.cell? ⟨g, i, none⟩ = (bkA c clock m)[i]? := fun i => blk_cell HK3.out i
  have hd : ∀ i, w3.cell? ⟨w.heap.size, i, none⟩ = (stA (a, b, d))[i]? := fun i => blk_cell HO3.out i
  by_cases ha : a = 0
  · have ha' : (a == 0) = true := beq_iff_eq.2 ha
    have HA := Aside0.mk ha
    clear ha
    go_wp2_with (at_delete; refine wpl_drop int_inj rfl _ _ 105 rfl HB3.out law3 Try.underlying105 (y := x) HX.out rfl rfl ?_; intro w4 hm4 hg4; have HM4 := Aside0.mk hm4; clear hm4; have HK4 := Aside0.mk ((hg4.block g (blk_lt HK3.out) (by have := hne.out; intro e; injection e; contradiction)).trans HK3.out); have HG4 := Aside0.mk (HG3.out.trans hg4); clear hg4)
    go_ret
    have hm4 := HM4.out
    rw [put_del F x (t := (a, b, d)) HA.out] at hm4
    exact ⟨rfl, _, by repeat' split
                      all_goals omega, ⟨HK4.out, hm4⟩, HG4.out⟩
  · have ha' : (a == 0) = false := beq_eq_false_iff_ne.2 ha
    have HA := Aside0.mk ha
    clear ha
    go_wp2
    go_ret
    have hm3 := HB3.out
    rw [put_add F x (t := (a, b, d)) HA.out] at hm3
    exact ⟨rfl, _, by split <;> omega, ⟨HK3.out, hm3⟩, HG3.out⟩
end Go.Proofs.Ythljanmfanppdaa.Bk
