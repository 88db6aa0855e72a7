/- What is proved: a part of the way to the statement LinkWordsCardSaid: Mp, Mq, Bk, Bl, Bm, Bn, Bo, KLkx0, KLkx1; no conditions. Put together by a program of this session (claimv.py). -/
import Derived.Maps.OwnSet
import Derived.DeepKeys4
import Derived.Maps.OwnOps
import Derived.Test.YthljanmfanppdaaDoorProg
import Derived.WalkKit
import Derived.KernelRfl
import Derived.StillTailTactics
import Derived.Deep.QuietTactic
import Derived.BigQuiet
import Derived.Deep.RegionHeld3
import Derived.IntWalk
import Derived.Below
import Derived.Deep.Draws
import Derived.Deep.AppendLies
import Derived.Maps.AppendAt
import Derived.OwnWalk
import Derived.Laws.BytesArg
import Derived.Laws.MakeOwn
import Derived.Laws.OwnMore
import Derived.Deep.OwnRows
import Derived.Tactics
import Derived.Lib.ConvBytes
import Derived.Laws.Slices
import Derived.RowKit3
import Derived.Deep.LoopGhost
import Derived.WideLaws
import Derived.Deep.DeepCutAuto
import Derived.Deep.CutBlock
import Derived.Laws.Rows
import Derived.Lib.AppendStr
import Derived.ArgAppend
import Derived.Laws.IdiomCopy
import Derived.OrdersHeld
import Derived.Laws.BitsLemmas
import Derived.RowKit
import Derived.Test.YthljanmfanppdaaDoorMlw1
section
namespace Go.Proofs.YthljanmfanppdaaDoor
abbrev tt : Bool := true
abbrev ff : Bool := false
theorem sQ0 {α : Type} {l : List α} {i : Nat} {a : α} : l.toArray.setIfInBounds i a = (l.set i a).toArray := by rw [List.setIfInBounds_toArray]
theorem sQ1 {α : Type} {a b : α} {l : List α} : (a :: l).set 0 b = b :: l := rfl
theorem sQ2 {α : Type} {a b : α} {l : List α} {n : Nat} : (a :: l).set (n + 1) b = a :: l.set n b := rfl
end Go.Proofs.YthljanmfanppdaaDoor
namespace Go.Proofs.YthljanmfanppdaaDoor.Mp
open Go.RowKit Go.Maps
set_option linter.unusedSectionVars false
def tokR (v : Value) : Option (DataW Value × List MemPlace) := some (.held v, [])
def MapIs {κ : Type} (c : κ → Value) (P : Program) (k : TypeId) (w : World) (b s : Nat) (f : κ → Option Value) : Prop :=
 ∃ D : DataW Value, w.ownsMap P k tokR b s D ∧ Maps.size D = s ∧ ∀ x l, keyOf P k (c x) = some l → (f x = none ∧ has D l = false) ∨ ∃ v, f x = some v ∧ has D l = true ∧ ∀ z, D.atKey l z = .held v
section
variable {κ : Type} [DecidableEq κ] {c : κ → Value} {P : Program} {k t e : TypeId} {w : World} {b s : Nat} {f : κ → Option Value}
theorem owns_exact {H : Type} {R : Value → Option (DataW H × List MemPlace)} {n : Nat} {D : DataW H} (h : w.ownsMap P k R b n D) : w.ownsMap P k R b (Maps.size D) D := by
 obtain ⟨es, clock, hb, F, _, rfl⟩ := h
 exact ⟨es, clock, hb, F, by simp [Maps.size, length_sorted], rfl⟩
omit [DecidableEq κ] in
theorem MapIs.made (w : World) (P : Program) (k : TypeId) : MapIs c P k (w.alloc (.map #[] 0)) w.heap.size 0 (fun _ => none) :=
 ⟨.map [], World.ownsMap_made w P k tokR, rfl, fun _ _ _ => .inl ⟨rfl, rfl⟩⟩
theorem MapIs.lt (h : MapIs c P k w b s f) : b < w.heap.size := by obtain ⟨D, h, _⟩ := h; exact h.lt
theorem MapIs.move {w' : World} (h : MapIs c P k w b s f) (hb : w'.heap[b]? = w.heap[b]?) : MapIs c P k w' b s f := by
 obtain ⟨D, ⟨es, clock, h1, h2⟩, h3⟩ := h
 exact ⟨D, ⟨es, clock, hb.trans h1, h2⟩, h3⟩
theorem MapIs.look (h : MapIs c P k w b s f) (K : Keyed P k) (ht : P.underlying t = some (.map k e)) {z : Value} (hz : (zeroValue e).run P w = .ok z w) {x : κ} {kl : Lit} (hkey : keyOf P k (c x) = some kl) :
  (Instr.lookup t (.map (some b)) (c x) false).run P w = .ok ((f x).getD z) w := by
 obtain ⟨D, ho, _, hf⟩ := h
 obtain ⟨v, ps, hrun, hv⟩ := ho.lookup K ht hz (zd := .held z) (zp := []) rfl hkey
 rw [hrun]
 have hv' := congrArg Prod.fst (Option.some.inj hv)
 rcases hf x kl hkey with ⟨h1, h2⟩ | ⟨y, h1, h2, h3⟩
 ·rw [h1]
  rw [atKey_of_not_has h2] at hv'
  injection hv' with hv'
  rw [hv']; rfl
 ·rw [h1]
  rw [h3] at hv'
  injection hv' with hv'
  rw [hv']; rfl
theorem MapIs.store (hc : ∀ x y, c x = c y → x = y) (h : MapIs c P k w b s f) (K : Keyed P k) (ht : P.underlying t = some (.map k e)) (hn : s < maxLen) {x : κ} {kl : Lit} (hkey : keyOf P k (c x) = some kl) (val : Value) :
  ∃ w', (Instr.mapUpdate t (.map (some b)) (c x) val).run P w = .ok () w' ∧ MapIs c P k w' b (if (f x).isSome then s else s + 1) (fun l => if l = x then some val else f l) ∧ w.mapTurned w' b := by
 obtain ⟨D, ho, hs, hf⟩ := h
 have hT := ho.tidy K
 obtain ⟨w', hrun, ho', hm⟩ := ho.store K ht hn hkey (show tokR val = some (.held val, []) from rfl)
 have hkl := K.key hkey
 have hsz : Maps.size (D.put kl (.held val)) = (if (f x).isSome then s else s + 1) := by
  rw [size_put hT, hs]
  rcases hf x kl hkey with ⟨h1, h2⟩ | ⟨y, h1, h2, h3⟩
  ·rw [h1, h2]; rfl
  ·rw [h1, h2]; rfl
 refine ⟨w', hrun, ⟨D.put kl (.held val), hsz ▸ owns_exact ho', hsz, fun l m hm' => ?_⟩, hm⟩
 by_cases hl : l = x
 ·subst hl
  obtain rfl : kl = m := Option.some.inj (hkey.symm.trans hm')
  exact .inr ⟨val, if_pos rfl, has_put_same hT.isMap hkl _, fun z => atKey_put_same hT.isMap hkl _ _⟩
 ·have hne : m ≠ kl := fun e => hl (hc _ _ (K.inj hm' (e ▸ hkey)))
  rcases hf l m hm' with ⟨h1, h2⟩ | ⟨y, h1, h2, h3⟩
  ·exact .inl ⟨(if_neg hl).trans h1, by rw [has_put_other hne]; exact h2⟩
  ·exact .inr ⟨y, (if_neg hl).trans h1, by rw [has_put_other hne]; exact h2, fun z => by rw [atKey_put_other hne]; exact h3 z⟩
theorem MapIs.drop (hc : ∀ x y, c x = c y → x = y) (h : MapIs c P k w b s f) (K : Keyed P k) (ht : P.underlying t = some (.map k e)) {x : κ} {kl : Lit} (hkey : keyOf P k (c x) = some kl) (ty : TypeId) :
  ∃ w', (Builtin.delete_ #[t, k] ty #[.map (some b), c x]).run P w = .ok (.tuple #[]) w' ∧ MapIs c P k w' b (if (f x).isSome then s - 1 else s) (fun l => if l = x then none else f l) ∧ w.mapTurned w' b := by
 obtain ⟨D, ho, hs, hf⟩ := h
 have hT := ho.tidy K
 obtain ⟨w', hrun, ho', hm⟩ := ho.drop K ht hkey ty
 have hsz : Maps.size (D.del kl) = (if (f x).isSome then s - 1 else s) := by
  have h0 := size_del (k := kl) hT
  rcases hf x kl hkey with ⟨h1, h2⟩ | ⟨y, h1, h2, h3⟩
  ·rw [h1]; rw [h2, hs] at h0; simpa using h0
  ·rw [h1]; rw [h2, hs] at h0; simp at h0; simp; omega
 refine ⟨w', hrun, ⟨D.del kl, hsz ▸ owns_exact ho', hsz, fun l m hm' => ?_⟩, hm⟩
 by_cases hl : l = x
 ·subst hl
  obtain rfl : kl = m := Option.some.inj (hkey.symm.trans hm')
  exact .inl ⟨if_pos rfl, has_del_same⟩
 ·have hne : m ≠ kl := fun e => hl (hc _ _ (K.inj hm' (e ▸ hkey)))
  rcases hf l m hm' with ⟨h1, h2⟩ | ⟨y, h1, h2, h3⟩
  ·exact .inl ⟨(if_neg hl).trans h1, by rw [has_del_other hne]; exact h2⟩
  ·exact .inr ⟨y, (if_neg hl).trans h1, by rw [has_del_other hne]; exact h2, fun z => by rw [atKey_del_other hne]; exact h3 z⟩
end
end Go.Proofs.YthljanmfanppdaaDoor.Mp
end
section
namespace Go.Proofs.YthljanmfanppdaaDoor.Mp
open Go.RowKit Go.Maps
set_option linter.unusedSectionVars false
section
variable {κ : Type} [DecidableEq κ] {c : κ → Value} {P : Program} {k t e : TypeId} {w : World} {b s : Nat} {f : κ → Option Value}
variable {ops : Array Oper} {rest : List Oper} {o : Oper} {a : Act} {Q : Exit → Act → World → Prop}
theorem wpl_look (hg : o.guard = none) (m x : Operand) (t : TypeId) (hop : o.op = Op.lookup t m x false) (h : MapIs c P k w b s f) (K : Keyed P k) (ht : P.underlying t = some (.map k e)) {z : Value} (hz : (zeroValue e).run P w = .ok z w) {y : κ} {kl : Lit} (hkey : keyOf P k (c y) = some kl)
  (hm : a.eval m = .map (some b)) (hx : a.eval x = c y) (hK : wpList P ops Q rest (a.put o.dst ((f y).getD z)) w) : wpList P ops Q (o :: rest) a w := by
 refine wpList_plain hg fun K' hK' => ?_
 have hrun := h.look K ht hz hkey
 unfold Oper.wp
 simp [execOp, hop, hm, hx, hrun, Result.andThen]
 exact hK' _ _ hK
theorem wpl_look_v (hg : o.guard = none) (m x : Operand) (t : TypeId) (hop : o.op = Op.lookup t m x false) (h : MapIs c P k w b s f) (K : Keyed P k) (ht : P.underlying t = some (.map k e)) {z : Value} (hz : (zeroValue e).run P w = .ok z w) {y : κ} {kl : Lit} (hkey : keyOf P k (c y) = some kl)
  (hm : a.eval m = .map (some b)) (hx : a.eval x = c y) {v : Value} (hv : (f y).getD z = v) (hK : wpList P ops Q rest (a.put o.dst v) w) : wpList P ops Q (o :: rest) a w := by
 subst hv
 exact wpl_look hg m x t hop h K ht hz hkey hm hx hK
theorem wpl_store (hc : ∀ x y, c x = c y → x = y) (hg : o.guard = none) (m x v : Operand) (t : TypeId) (hop : o.op = Op.mapUpdate t m x v) (h : MapIs c P k w b s f) (K : Keyed P k) (ht : P.underlying t = some (.map k e)) (hn : s < maxLen) {y : κ} {kl : Lit} (hkey : keyOf P k (c y) = some kl) {val : Value}
  (hm : a.eval m = .map (some b)) (hx : a.eval x = c y) (hv : a.eval v = val) (hK : ∀ w', MapIs c P k w' b (if (f y).isSome then s else s + 1) (fun l => if l = y then some val else f l) → w.grownBy w' (some b) → wpList P ops Q rest (a.put o.dst undef) w') : wpList P ops Q (o :: rest) a w := by
 refine wpList_plain hg fun K' hK' => ?_
 obtain ⟨w', hrun, h1, h2⟩ := h.store hc K ht hn hkey val
 unfold Oper.wp
 simp [execOp, hop, hm, hx, hv, hrun, Result.andThen]
 exact hK' _ _ (hK w' h1 h2.grown)
theorem wpl_drop (hc : ∀ x y, c x = c y → x = y) (hg : o.guard = none) (m x : Operand) (t : TypeId) (hop : o.op = Op.call { callee := Callee.builtin Builtin.delete, args := #[m, x], argTypes := #[t, k] }) (h : MapIs c P k w b s f) (K : Keyed P k) (ht : P.underlying t = some (.map k e)) {y : κ} {kl : Lit} (hkey : keyOf P k (c y) = some kl)
  (hm : a.eval m = .map (some b)) (hx : a.eval x = c y) (hK : ∀ w', MapIs c P k w' b (if (f y).isSome then s - 1 else s) (fun l => if l = y then none else f l) → w.grownBy w' (some b) → wpList P ops Q rest (a.put o.dst (.tuple #[])) w') : wpList P ops Q (o :: rest) a w := by
 refine wpList_plain hg fun K' hK' => ?_
 obtain ⟨w', hrun, h1, h2⟩ := h.drop hc K ht hkey o.type
 unfold Oper.wp
 simp [execOp, hop, resolve, invoke, builtin, hm, hx, hrun, Result.andThen]
 exact hK' _ _ (hK w' h1 h2.grown)
end
end Go.Proofs.YthljanmfanppdaaDoor.Mp
end
section
namespace Go.Proofs.YthljanmfanppdaaDoor.Bk
open Go.RowKit Go.Maps Go.Proofs.YthljanmfanppdaaDoorW.PrintWords Go.Proofs.YthljanmfanppdaaDoorW.PrintLast Go.Proofs.YthljanmfanppdaaDoorW.PrintMore Go.Proofs.YthljanmfanppdaaDoor.Mp
set_option linter.unusedVariables false
set_option linter.unusedSimpArgs false
structure Cf where
 c0 : Int
 c1 : Int
 c2 : Int
 c3 : Int
 c4 : Int
 c5 : Int
 c6 : Int
 c7 : Int
 c8 : Int
 c9 : Int
 c10 : Int
 c11 : Int
 c12 : Int
abbrev Cf.cells (c : Cf) : Array Value := #[.int .i64 c.c0, .int .i64 c.c1, .int .i64 c.c2, .int .i64 c.c3, .int .i64 c.c4, .int .i64 c.c5, .int .i64 c.c6, .int .i64 c.c7, .int .i64 c.c8, .int .i64 c.c9, .int .i64 c.c10, .int .i64 c.c11, .int .i64 c.c12]
abbrev bkA (c : Cf) (clock : Int) (m : Nat) : Array Value := #[.int .i64 c.c0, .int .i64 c.c1, .int .i64 c.c2, .int .i64 c.c3, .int .i64 c.c4, .int .i64 c.c5, .int .i64 c.c6, .int .i64 c.c7, .int .i64 c.c8, .int .i64 c.c9, .int .i64 c.c10, .int .i64 c.c11, .int .i64 c.c12, .int .i64 clock, .map (some m)]
abbrev St := Int × Int × Int
abbrev stV (t : St) : Value := .agg #[.int .i64 t.1, .int .i64 t.2.1, .int .i64 t.2.2]
abbrev stA (t : St) : Array Value := #[.int .i64 t.1, .int .i64 t.2.1, .int .i64 t.2.2]
abbrev SM := Int → Option St
def SM.at_ (F : SM) (x : Int) : St := (F x).getD (0, 0, 0)
abbrev fV (F : SM) : Int → Option Value := fun x => (F x).map stV
structure BookIs (w : World) (g m s : Nat) (c : Cf) (clock : Int) (F : SM) : Prop where
 blk : w.heap[g]? = some (.cells (bkA c clock m) 56 (0, 0))
 map : MapIs (Value.int .i64) Tryd.prog 3 w m s (fV F)
theorem law3 : Keyed Tryd.prog 3 := int_keyed Tryd.underlying3
theorem zeroSt (w : World) : (zeroValue 40).run Tryd.prog w = .ok (stV (0, 0, 0)) w := by kernel_rfl
theorem int_inj (x y : Int) (h : Value.int .i64 x = Value.int .i64 y) : x = y := by injection h
section
variable {w w1 : World} {g m s : Nat} {c : Cf} {clock : Int} {F : SM}
theorem BookIs.glt (h : BookIs w g m s c clock F) : g < w.heap.size := blk_lt h.blk
theorem BookIs.mlt (h : BookIs w g m s c clock F) : m < w.heap.size := h.map.lt
theorem BookIs.ne (h : BookIs w g m s c clock F) : g ≠ m := by
 rintro rfl
 obtain ⟨D, ⟨es, cl, hb, _⟩, _⟩ := h.map
 have := h.blk
 rw [hb] at this
 cases this
theorem BookIs.move (h : BookIs w g m s c clock F) (hg : w1.heap[g]? = w.heap[g]?) (hm : w1.heap[m]? = w.heap[m]?) : BookIs w1 g m s c clock F := ⟨hg.trans h.blk, h.map.move hm⟩
theorem BookIs.below (h : BookIs w g m s c clock F) (hb : Below w.heap.size w w1) : BookIs w1 g m s c clock F := h.move (hb.block g h.glt) (hb.block m h.mlt)
theorem BookIs.alloc (h : BookIs w g m s c clock F) (o : Obj) : BookIs (w.alloc o) g m s c clock F := h.below (below_alloc (Below.refl _ _) o)
theorem BookIs.drew (h : BookIs w g m s c clock F) : BookIs w.drew g m s c clock F := h.move rfl rfl
theorem BookIs.drewN (h : BookIs w g m s c clock F) (n : Nat) : BookIs (w.drewN n) g m s c clock F := h.move rfl rfl
theorem BookIs.cell (h : BookIs w g m s c clock F) (i : Nat) : w.cell? ⟨g, i, none⟩ = (bkA c clock m)[i]? := blk_cell h.blk i
end
theorem look_is (F : SM) (x : Int) : ((fV F) x).getD (stV (0, 0, 0)) = stV (F.at_ x) := by
 unfold SM.at_ fV
 cases F x <;> rfl
set_option maxHeartbeats 1000000 in
theorem state_any {g m s : Nat} {c : Cf} {clock : Int} {F : SM} (x : Int) (hx : (Lit.int .i64 x).wf = true) (w : World) (hB : BookIs w g m s c clock F) :
  Calls Tryd.prog 10 #[.pointer (some ⟨g, 0, none⟩), .int .i64 x] w fun e w' => e = .returned (stV (F.at_ x)) ∧ Below w.heap.size w w' := by
 have hu := Tryd.underlying56
 have hu2 := Tryd.underlying40
 have HL := Aside0.mk (look_is F x)
 obtain ⟨a, b, d, hS⟩ : ∃ a b d, F.at_ x = (a, b, d) := ⟨_, _, _, rfl⟩
 rw [hS] at HL ⊢
 clear hS
 have HX := Aside0.mk (keyOf_int_mk Tryd.underlying3 hx)
 have HB := Aside0.mk (hB.alloc (.cells (stA (0, 0, 0)) 40))
 have hlt := hB.glt
 have hc := fun i => hB.cell i
 clear hB hx
 go_enter Tryd.func10, Tryd.ntmps10
 go_wp2_with (at_lookup; refine wpl_look_v rfl _ _ 54 rfl HB.out.map law3 Tryd.underlying54 (zeroSt _) (y := x) HX.out rfl rfl HL.out ?_)
 exact bodyPost_ret (v := .agg #[.int .i64 a, .int .i64 b, .int .i64 d]) (by simp [results, Tryd.results10, go_sem]) rfl ⟨rfl, by repeat (first | exact Below.refl _ _ | apply below_alloc | refine below_set ?_ (Nat.le_refl _))⟩
theorem still_tail_at {P : Program} {id : Nat} {Q : Exit → Act → World → Prop} {a : Act} {w : World} {l : List Oper} (n : Nat) (hm : P.follows .mixedOrders = true) (hB : Region.lexTailB .any l.toArray n = true)
  (h : ∀ w2, w2 = w.drew → wpStill P l.toArray w2 (fun a' => wpList P l.toArray Q (l.drop n) a' w2) (l.take n) a) : (Code.region id l.toArray true).wp P Q a w :=
 wp_region_still_tail n hm hB (h _ rfl)
def SM.put (F : SM) (x : Int) (t : St) : SM := fun l => if l = x then (if t.1 = 0 then none else some t) else F l
def SetPost (g m s : Nat) (c : Cf) (clock : Int) (F : SM) (w : World) (code : Int) (e : Ending) (w' : World) : Prop := e = .returned (.int .i64 code) ∧ ∃ s', s' ≤ s + 1 ∧ BookIs w' g m s' c clock F ∧ w.grownBy w' (some m)
theorem put_del (F : SM) (x : Int) {t : St} (h : t.1 = 0) : (fun l => if l = x then none else if l = x then some (stV t) else fV F l) = fV (F.put x t) := by
 funext l
 unfold fV SM.put
 by_cases e : l = x <;> simp [e, h]
theorem put_add (F : SM) (x : Int) {t : St} (h : ¬ t.1 = 0) : (fun l => if l = x then some (stV t) else fV F l) = fV (F.put x t) := by
 funext l
 unfold fV SM.put
 by_cases e : l = x <;> simp [e, h]
theorem grown_drew {w w1 : World} {r : Option Nat} (h : w.grownBy w1 r) : w.grownBy w1.drew r := ⟨h.os, h.tape, h.output, h.size, h.block⟩
set_option maxHeartbeats 4000000 in
set_option maxRecDepth 100000 in
theorem set_any {g m s : Nat} {c : Cf} {clock : Int} {F : SM} (x : Int) (hx : (Lit.int .i64 x).wf = true) (t : St) (hs : s < 1000000) (w : World) (hB : BookIs w g m s c clock F) :
  Calls Tryd.prog 19 #[.pointer (some ⟨g, 0, none⟩), .int .i64 x, stV t] w (SetPost g m s c clock (F.put x t) w 0) := by
 have hu := Tryd.underlying56
 have hu2 := Tryd.underlying40
 obtain ⟨a, b, d⟩ := t
 have HX := Aside0.mk (keyOf_int_mk Tryd.underlying3 hx)
 have HB := Aside0.mk (hB.alloc (.cells (stA (a, b, d)) 40))
 have hlt := hB.glt
 have hml := Aside0.mk hB.mlt
 have hc := fun i => hB.cell i
 clear hB hx
 go_enter Tryd.func19, Tryd.ntmps19
 go_wp2
 refine still_tail_at 6 (by kernel_rfl) (by kernel_rfl) fun w2 hw2 => ?_
 have HB2 := Aside0.mk (show BookIs w2 g m s c clock F by rw [hw2]; exact HB.out.drew)
 have ho : w2.heap[w.heap.size]? = some (.cells (stA (a, b, d)) 40 (0, 0)) := by rw [hw2]; exact heap_alloc_new w (.cells (stA (a, b, d)) 40)
 have HG := Aside0.mk (show w.grownBy w2 (some m) by rw [hw2]; exact grown_drew (World.grownBy_alloc w _ _))
 have hz := Aside0.mk (show w2.heap.size = w.heap.size + 1 by rw [hw2]; simp)
 clear hw2 hc
 have hc := fun i => HB2.out.cell i
 have hd : ∀ i, w2.cell? ⟨w.heap.size, i, none⟩ = (stA (a, b, d))[i]? := fun i => blk_cell ho i
 have HO := Aside0.mk ho
 clear ho
 simp only [List.take_succ_cons, List.take_zero, List.drop_succ_cons, List.drop_zero]
 repeat still_step
 refine wpStill_nil ?_
 refine wpl_store int_inj rfl _ _ _ 54 rfl HB2.out.map law3 Tryd.underlying54 (by unfold maxLen; omega) (y := x) HX.out (val := stV (a, b, d)) rfl rfl rfl ?_
 intro w3 hm3 hg3
 have HB3 := Aside0.mk (hm3)
 have HG3 := Aside0.mk (HG.out.trans hg3)
 have hne := Aside0.mk (HB2.out.ne)
 have HK3 := Aside0.mk ((hg3.block g HB2.out.glt (by have := hne.out; intro e; injection e; contradiction)).trans HB2.out.blk)
 have HO3 := Aside0.mk ((hg3.block w.heap.size (by have := hz.out; omega) (by have := hml.out; intro e; injection e; omega)).trans HO.out)
 clear hc hd hm3 hg3
 have hc : ∀ i, w3.cell? ⟨g, i, none⟩ = (bkA c clock m)[i]? := fun i => blk_cell HK3.out i
 have hd : ∀ i, w3.cell? ⟨w.heap.size, i, none⟩ = (stA (a, b, d))[i]? := fun i => blk_cell HO3.out i
 by_cases ha : a = 0
 ·have ha' : (a == 0) = true := beq_iff_eq.2 ha
  have HA := Aside0.mk ha
  clear ha
  go_wp2_with (at_delete; refine wpl_drop int_inj rfl _ _ 54 rfl HB3.out law3 Tryd.underlying54 (y := x) HX.out rfl rfl ?_; intro w4 hm4 hg4; have HM4 := Aside0.mk hm4; clear hm4; have HK4 := Aside0.mk ((hg4.block g (blk_lt HK3.out) (by have := hne.out; intro e; injection e; contradiction)).trans HK3.out); have HG4 := Aside0.mk (HG3.out.trans hg4); clear hg4)
  go_ret
  have hm4 := HM4.out
  rw [put_del F x (t := (a, b, d)) HA.out] at hm4
  exact ⟨rfl, _, by ((repeat' split) <;> omega), ⟨HK4.out, hm4⟩, HG4.out⟩
 ·have ha' : (a == 0) = false := beq_eq_false_iff_ne.2 ha
  have HA := Aside0.mk ha
  clear ha
  go_wp2
  go_ret
  have hm3 := HB3.out
  rw [put_add F x (t := (a, b, d)) HA.out] at hm3
  exact ⟨rfl, _, by split <;> omega, ⟨HK3.out, hm3⟩, HG3.out⟩
end Go.Proofs.YthljanmfanppdaaDoor.Bk
end
section
set_option maxHeartbeats 4000000
set_option maxRecDepth 100000
namespace Go.Proofs.YthljanmfanppdaaDoor.Bk
open Go.RowKit Go.Maps Go.Proofs.YthljanmfanppdaaDoorW.PrintWords Go.Proofs.YthljanmfanppdaaDoorW.PrintLast Go.Proofs.YthljanmfanppdaaDoorW.PrintMore Go.Proofs.YthljanmfanppdaaDoor.Mp
set_option linter.unusedVariables false
set_option linter.unusedSimpArgs false
def NewPost (c : Cf) (code : Int) (w : World) (e : Ending) (w' : World) : Prop :=
  (code ≠ 0 ∧ e = .returned (.tuple #[.pointer none, .int .i64 code]) ∧ Below w.heap.size w w') ∨
  (code = 0 ∧ ∃ g m, e = .returned (.tuple #[.pointer (some ⟨g, 0, none⟩), .int .i64 0]) ∧ w.heap.size ≤ g ∧ w.heap.size ≤ m ∧ BookIs w' g m 0 c 0 (fun _ => none) ∧ Below w.heap.size w w')
theorem new_any (c : Cf) (n code : Int)
    (CK : Aside0 (∀ W, Calls Tryd.prog 16 #[.agg c.cells] W fun e w' => e = .returned (.tuple #[.int .i64 n, .int .i64 code]) ∧ Below W.heap.size W w')) (w : World) :
    Calls Tryd.prog 8 #[.agg c.cells] w (NewPost c code w) := by
  have hu := Tryd.underlying56
  have hmm := @run_makeMap Tryd.prog
  have HB := Aside0.mk (below_alloc (Below.refl w.heap.size w) (.cells c.cells 36))
  have HO := Aside0.mk (heap_alloc_new w (.cells c.cells 36))
  by_cases h0 : code = 0
  · subst h0
    go_enter Tryd.func8, Tryd.ntmps8
    go_wp2_with (go_at_call 16; (with_reducible refine (CK.out _).mono ?_); rintro e w1 ⟨rfl, hb⟩; have n0 := Aside0.mk (below_step HB.out hb); have n1 := Aside0.mk ((hb.block _ (by simp)).trans HO.out); clear HB HO hb; have HB := n0; have HO := n1; clear n0 n1; have hc := fun i => blk_cell HO.out i)
    go_ret2
    refine .inr ⟨rfl, w1.heap.size + 1, w1.heap.size, rfl, by have := HB.out.size; omega, by have := HB.out.size; omega, ⟨by simpa using heap_alloc_new (w1.alloc (.map #[] 0)) (.cells (bkA c 0 w1.heap.size) 56), ?_⟩, by repeat (first | exact HB.out | apply below_alloc)⟩
    exact (MapIs.made (c := Value.int .i64) w1 Tryd.prog 3).move (by rw [Below.heap_alloc _ _ _ (by simp)])
  · have h1 : (code == 0) = false := beq_eq_false_iff_ne.2 h0
    have h2 : (code != 0) = true := bne_iff_ne.2 h0
    have H0 := Aside0.mk h0
    clear h0
    go_enter Tryd.func8, Tryd.ntmps8
    go_wp2_with (go_at_call 16; (with_reducible refine (CK.out _).mono ?_); rintro e w1 ⟨rfl, hb⟩; have n0 := Aside0.mk (below_step HB.out hb); have n1 := Aside0.mk ((hb.block _ (by simp)).trans HO.out); clear HB HO hb; have HB := n0; have HO := n1; clear n0 n1; have hc := fun i => blk_cell HO.out i)
    go_ret2
    exact .inl ⟨H0.out, rfl, HB.out⟩
abbrev evA (k wk op cn t dr er : Int) : Array Value := #[.int .i64 k, .int .i64 wk, .int .i64 op, .int .i64 cn, .int .i64 t, .int .i64 dr, .int .i64 er]
structure Held (w W : World) (g m s : Nat) (c : Cf) (clock : Int) (F : SM) (ev : Array Value) (tb : Nat) (ts : Array Value) : Prop where
  below : Below w.heap.size w W
  book : BookIs W g m s c clock F
  ev_ : W.heap[w.heap.size]? = some (.cells ev 29 (0, 0))
  st_ : W.heap[tb]? = some (.cells ts 40 (0, 0))
section
variable {w W W1 : World} {g m s tb : Nat} {c : Cf} {clock : Int} {F : SM} {ev ts : Array Value}
theorem Held.step (h : Held w W g m s c clock F ev tb ts) (hb : Below W.heap.size W W1) : Held w W1 g m s c clock F ev tb ts :=
  ⟨below_step h.below hb, h.book.below hb, (hb.block _ (blk_lt h.ev_)).trans h.ev_, (hb.block _ (blk_lt h.st_)).trans h.st_⟩
theorem Held.drew (h : Held w W g m s c clock F ev tb ts) : Held w W.drew g m s c clock F ev tb ts := ⟨Below.drew h.below, h.book.drew, h.ev_, h.st_⟩
theorem Held.drewN (h : Held w W g m s c clock F ev tb ts) (n : Nat) : Held w (W.drewN n) g m s c clock F ev tb ts := ⟨pw_below_drewN h.below n, h.book.move rfl rfl, h.ev_, h.st_⟩
theorem Held.cells (h : Held w W g m s c clock F ev tb ts) : (∀ i, W.cell? ⟨g, i, none⟩ = (bkA c clock m)[i]?) ∧ (∀ i, W.cell? ⟨w.heap.size, i, none⟩ = ev[i]?) ∧ (∀ i, W.cell? ⟨tb, i, none⟩ = ts[i]?) :=
  ⟨fun i => h.book.cell i, fun i => blk_cell h.ev_ i, fun i => blk_cell h.st_ i⟩
end
def actF (F : SM) (clock idle op cn t : Int) : Int × SM :=
  if t > clock then (6, F)
  else if op = 7 ∧ (F.at_ cn).1 = 1 ∧ idle ≤ t then (0, F.put cn (0, 0, 0))
  else if op = 8 ∧ (F.at_ cn).1 = 2 ∧ (F.at_ cn).2.2 ≤ t then (0, F.put cn (3, (F.at_ cn).2.1, t))
  else (6, F)
theorem SetPost.stay {g m s : Nat} {c : Cf} {clock code : Int} {F : SM} {w W : World} (h : BookIs W g m s c clock F) (hb : Below w.heap.size w W) : SetPost g m s c clock F w code (.returned (.int .i64 code)) W :=
  ⟨rfl, s, by omega, h, grown_of_below hb _⟩
theorem SetPost.after {g m s : Nat} {c : Cf} {clock code : Int} {F' : SM} {w W W1 : World} {e : Ending} (h : SetPost g m s c clock F' W code e W1) (hb : Below w.heap.size w W) : SetPost g m s c clock F' w code e W1 := by
  obtain ⟨h1, s', h2, h3, h4⟩ := h
  exact ⟨h1, s', h2, h3, (grown_of_below hb _).trans h4⟩
theorem act_late {g m s : Nat} {c : Cf} {clock : Int} {F : SM} (k wk op cn t dr er : Int) (hx : (Lit.int .i64 cn).wf = true) (ht : t > clock) (w : World) (hB : BookIs w g m s c clock F) :
    Calls Tryd.prog 17 #[.pointer (some ⟨g, 0, none⟩), .agg (evA k wk op cn t dr er)] w (SetPost g m s c clock F w 6) := by
  have hu := Tryd.underlying56
  have hu2 := Tryd.underlying40
  have hu3 := Tryd.underlying29
  have hu4 := Tryd.underlying36
  have CS := Aside0.mk (fun W h => state_any (F := F) (g := g) (m := m) (s := s) (c := c) (clock := clock) cn hx W h)
  obtain ⟨a, b, d, hS⟩ : ∃ a b d, F.at_ cn = (a, b, d) := ⟨_, _, _, rfl⟩
  rw [hS] at CS
  clear hS
  have g1 : decide (t > clock) = true := decide_eq_true ht
  have hlt := hB.glt
  have hc := fun i => hB.cell i
  have HB := Aside0.mk hB
  clear hB hx
  go_enter Tryd.func17, Tryd.ntmps17
  go_wp2_with (go_at_call 10; (with_reducible refine (CS.out _ (HB.out.alloc _)).mono ?_); rintro e w1 ⟨rfl, hb⟩; have n1 := Aside0.mk (show Below w.heap.size w w1 from below_step (below_alloc (Below.refl _ _) _) hb); have n2 := Aside0.mk ((HB.out.alloc _).below hb); have n3 := Aside0.mk ((hb.block w.heap.size (by simp)).trans (heap_alloc_new w (.cells (evA k wk op cn t dr er) 29))); have hl1 : g < w1.heap.size := n2.out.glt; have hl2 : w.heap.size < w1.heap.size := blk_lt n3.out; clear hb hc; have hc := fun i => n2.out.cell i; have he := fun i => blk_cell n3.out i)
  go_quiet (fail)
  go_wp2
  go_ret
  exact SetPost.stay (by repeat (first | exact n2.out | apply BookIs.alloc | apply BookIs.drewN)) (by repeat (first | exact n1.out | apply below_alloc | apply pw_below_drewN))
theorem act_seven {g m s : Nat} {c : Cf} {clock : Int} {F : SM} (k wk op cn t dr er : Int) (hx : (Lit.int .i64 cn).wf = true) (ht : ¬ t > clock) (h7 : op = 7) (ha : ¬ (F.at_ cn).1 = 1) (w : World) (hB : BookIs w g m s c clock F) :
    Calls Tryd.prog 17 #[.pointer (some ⟨g, 0, none⟩), .agg (evA k wk op cn t dr er)] w (SetPost g m s c clock F w 6) := by
  have hu := Tryd.underlying56
  have hu2 := Tryd.underlying40
  have hu3 := Tryd.underlying29
  have hu4 := Tryd.underlying36
  have CS := Aside0.mk (fun W h => state_any (F := F) (g := g) (m := m) (s := s) (c := c) (clock := clock) cn hx W h)
  obtain ⟨a, b, d, hS⟩ : ∃ a b d, F.at_ cn = (a, b, d) := ⟨_, _, _, rfl⟩
  rw [hS] at CS ha
  clear hS
  subst h7
  have g1 : decide (t > clock) = false := decide_eq_false ht
  have g2 : (a == 1) = false := beq_eq_false_iff_ne.2 ha
  clear ha ht
  have hlt := hB.glt
  have hc := fun i => hB.cell i
  have HB := Aside0.mk hB
  clear hB hx
  go_enter Tryd.func17, Tryd.ntmps17
  go_wp2_with (go_at_call 10; (with_reducible refine (CS.out _ (HB.out.alloc _)).mono ?_); rintro e w1 ⟨rfl, hb⟩; have n1 := Aside0.mk (show Below w.heap.size w w1 from below_step (below_alloc (Below.refl _ _) _) hb); have n2 := Aside0.mk ((HB.out.alloc _).below hb); have n3 := Aside0.mk ((hb.block w.heap.size (by simp)).trans (heap_alloc_new w (.cells (evA k wk 7 cn t dr er) 29))); have hl1 : g < w1.heap.size := n2.out.glt; have hl2 : w.heap.size < w1.heap.size := blk_lt n3.out; clear hb hc; have hc := fun i => n2.out.cell i; have he := fun i => blk_cell n3.out i)
  go_quiet (fail)
  go_wp2
  go_quiet (fail)
  go_wp2
  go_ret
  exact SetPost.stay (by repeat (first | exact n2.out | apply BookIs.alloc | apply BookIs.drewN)) (by repeat (first | exact n1.out | apply below_alloc | apply pw_below_drewN))
theorem act_eight {g m s : Nat} {c : Cf} {clock : Int} {F : SM} (k wk op cn t dr er : Int) (hx : (Lit.int .i64 cn).wf = true) (hs : s < 1000000) (ht : ¬ t > clock) (h8 : op = 8) (ha : (F.at_ cn).1 = 2) (hd : (F.at_ cn).2.2 ≤ t) (w : World) (hB : BookIs w g m s c clock F) :
    Calls Tryd.prog 17 #[.pointer (some ⟨g, 0, none⟩), .agg (evA k wk op cn t dr er)] w (SetPost g m s c clock (F.put cn (3, (F.at_ cn).2.1, t)) w 0) := by
  have hu := Tryd.underlying56
  have hu2 := Tryd.underlying40
  have hu3 := Tryd.underlying29
  have hu4 := Tryd.underlying36
  have CS := Aside0.mk (fun W h => state_any (F := F) (g := g) (m := m) (s := s) (c := c) (clock := clock) cn hx W h)
  have CP := Aside0.mk (fun W h t => set_any (F := F) (g := g) (m := m) (s := s) (c := c) (clock := clock) cn hx t hs W h)
  obtain ⟨a, b, d, hS⟩ : ∃ a b d, F.at_ cn = (a, b, d) := ⟨_, _, _, rfl⟩
  rw [hS] at CS ha hd ⊢
  clear hS
  subst h8
  obtain rfl : a = 2 := ha
  have g1 : decide (t > clock) = false := decide_eq_false ht
  have g2 : decide (d ≤ t) = true := decide_eq_true hd
  clear ht hd
  have hlt := hB.glt
  have hc := fun i => hB.cell i
  have HB := Aside0.mk hB
  clear hB hx
  go_enter Tryd.func17, Tryd.ntmps17
  go_wp2_with (go_at_call 10; (with_reducible refine (CS.out _ (HB.out.alloc _)).mono ?_); rintro e w1 ⟨rfl, hb⟩; have n1 := Aside0.mk (show Below w.heap.size w w1 from below_step (below_alloc (Below.refl _ _) _) hb); have n2 := Aside0.mk ((HB.out.alloc _).below hb); have n3 := Aside0.mk ((hb.block w.heap.size (by simp)).trans (heap_alloc_new w (.cells (evA k wk 8 cn t dr er) 29))); have hl1 : g < w1.heap.size := n2.out.glt; have hl2 : w.heap.size < w1.heap.size := blk_lt n3.out; clear hb hc; have hc := fun i => n2.out.cell i; have he := fun i => blk_cell n3.out i)
  go_quiet (fail)
  go_wp2
  go_quiet (fail)
  go_wp2_with (go_at_call 19; refine (CP.out _ (by repeat (first | exact n2.out | apply BookIs.alloc | apply BookIs.drewN)) (3, b, t)).mono ?_; rintro e w5 ⟨rfl, hp⟩)
  go_ret
  exact SetPost.after ⟨rfl, hp⟩ (by repeat (first | exact n1.out | apply below_alloc | apply pw_below_drewN))
theorem act_none {g m s : Nat} {c : Cf} {clock : Int} {F : SM} (k wk op cn t dr er : Int) (hx : (Lit.int .i64 cn).wf = true) (ht : ¬ t > clock) (h7 : ¬ op = 7) (h8 : ¬ (op = 8 ∧ (F.at_ cn).1 = 2 ∧ (F.at_ cn).2.2 ≤ t)) (w : World) (hB : BookIs w g m s c clock F) :
    Calls Tryd.prog 17 #[.pointer (some ⟨g, 0, none⟩), .agg (evA k wk op cn t dr er)] w (SetPost g m s c clock F w 6) := by
  have hu := Tryd.underlying56
  have hu2 := Tryd.underlying40
  have hu3 := Tryd.underlying29
  have hu4 := Tryd.underlying36
  have CS := Aside0.mk (fun W h => state_any (F := F) (g := g) (m := m) (s := s) (c := c) (clock := clock) cn hx W h)
  obtain ⟨a, b, d, hS⟩ : ∃ a b d, F.at_ cn = (a, b, d) := ⟨_, _, _, rfl⟩
  rw [hS] at CS h8
  clear hS
  have g1 : decide (t > clock) = false := decide_eq_false ht
  have g2 : (op == 7) = false := beq_eq_false_iff_ne.2 h7
  have H8 := Aside0.mk h8
  clear h7 ht h8
  have hlt := hB.glt
  have hc := fun i => hB.cell i
  have HB := Aside0.mk hB
  clear hB hx
  go_enter Tryd.func17, Tryd.ntmps17
  go_wp2_with (go_at_call 10; (with_reducible refine (CS.out _ (HB.out.alloc _)).mono ?_); rintro e w1 ⟨rfl, hb⟩; have n1 := Aside0.mk (show Below w.heap.size w w1 from below_step (below_alloc (Below.refl _ _) _) hb); have n2 := Aside0.mk ((HB.out.alloc _).below hb); have n3 := Aside0.mk ((hb.block w.heap.size (by simp)).trans (heap_alloc_new w (.cells (evA k wk op cn t dr er) 29))); have hl1 : g < w1.heap.size := n2.out.glt; have hl2 : w.heap.size < w1.heap.size := blk_lt n3.out; clear hb hc; have hc := fun i => n2.out.cell i; have he := fun i => blk_cell n3.out i)
  go_quiet (fail)
  go_wp2
  go_quiet (fail)
  go_wp2
  all_goals first
    | (go_ret
       exact SetPost.stay (by repeat (first | exact n2.out | apply BookIs.alloc | apply BookIs.drewN)) (by repeat (first | exact n1.out | apply below_alloc | apply pw_below_drewN)))
    | (exfalso
       have h8 := H8.out
       simp_all)
theorem act_idle {g m s : Nat} {c : Cf} {clock : Int} {F : SM} (k wk op cn t dr er : Int) (hx : (Lit.int .i64 cn).wf = true) (hs : s < 1000000) (idle : Int) (ht : ¬ t > clock) (h7 : op = 7) (ha : (F.at_ cn).1 = 1) (hi : idle ≤ t) (ci : ∀ W, Calls Tryd.prog 24 #[.agg c.cells, .int .i64 (F.at_ cn).2.2] W fun e w' => e = .returned (.int .i64 idle) ∧ Below W.heap.size W w') (w : World) (hB : BookIs w g m s c clock F) :
    Calls Tryd.prog 17 #[.pointer (some ⟨g, 0, none⟩), .agg (evA k wk op cn t dr er)] w (SetPost g m s c clock (F.put cn (0, 0, 0)) w 0) := by
  have hu := Tryd.underlying56
  have hu2 := Tryd.underlying40
  have hu3 := Tryd.underlying29
  have hu4 := Tryd.underlying36
  have CS := Aside0.mk (fun W h => state_any (F := F) (g := g) (m := m) (s := s) (c := c) (clock := clock) cn hx W h)
  have CP := Aside0.mk (fun W h t => set_any (F := F) (g := g) (m := m) (s := s) (c := c) (clock := clock) cn hx t hs W h)
  have CI := Aside0.mk ci
  clear ci
  obtain ⟨a, b, d, hS⟩ : ∃ a b d, F.at_ cn = (a, b, d) := ⟨_, _, _, rfl⟩
  rw [hS] at CS ha CI
  clear hS
  subst h7
  obtain rfl : a = 1 := ha
  have g1 : decide (t > clock) = false := decide_eq_false ht
  have g2 : decide (idle ≤ t) = true := decide_eq_true hi
  clear ht hi
  have hlt := hB.glt
  have hc := fun i => hB.cell i
  have HB := Aside0.mk hB
  clear hB hx
  go_enter Tryd.func17, Tryd.ntmps17
  go_wp2_with (go_at_call 10; (with_reducible refine (CS.out _ (HB.out.alloc _)).mono ?_); rintro e w1 ⟨rfl, hb⟩; have n1 := Aside0.mk (show Below w.heap.size w w1 from below_step (below_alloc (Below.refl _ _) _) hb); have n2 := Aside0.mk ((HB.out.alloc _).below hb); have n3 := Aside0.mk ((hb.block w.heap.size (by simp)).trans (heap_alloc_new w (.cells (evA k wk 7 cn t dr er) 29))); have hl1 : g < w1.heap.size := n2.out.glt; have hl2 : w.heap.size < w1.heap.size := blk_lt n3.out; clear hb hc; have hc := fun i => n2.out.cell i; have he := fun i => blk_cell n3.out i)
  go_quiet (fail)
  go_wp2
  have HT := Aside0.mk (show Held w (w1.alloc (.cells (stA (1, b, d)) 40)) g m s c clock F (evA k wk 7 cn t dr er) w1.heap.size (stA (1, b, d)) from ⟨below_alloc n1.out _, n2.out.alloc _, (Below.heap_alloc w1 _ _ hl2).trans n3.out, heap_alloc_new w1 _⟩)
  clear hc he
  go_region_held3 (fun w' => (∀ i, w'.cell? ⟨g, i, none⟩ = (bkA c clock m)[i]?) ∧ (∀ i, w'.cell? ⟨w.heap.size, i, none⟩ = (evA k wk 7 cn t dr er)[i]?) ∧ (∀ i, w'.cell? ⟨w1.heap.size, i, none⟩ = (stA (1, b, d))[i]?)) (exact HT.out.cells) ((go_at_call 24; (with_reducible refine (CI.out _).mono ?_); rintro e w2 ⟨rfl, hb⟩; have n9 := Aside0.mk (show Held w w2 g m s c clock F (evA k wk 7 cn t dr er) w1.heap.size (stA (1, b, d)) from (by first | exact ((HT.out.drewN _).drew).step hb | exact HT.out.drew.step hb | exact HT.out.step hb)); clear HT hb; have HT := n9; clear n9))
  go_wp2_with (go_at_call 19; refine (CP.out _ HT.out.book (0, 0, 0)).mono ?_; rintro e w5 ⟨rfl, hp⟩)
  go_ret
  exact SetPost.after ⟨rfl, hp⟩ HT.out.below
theorem act_busy {g m s : Nat} {c : Cf} {clock : Int} {F : SM} (k wk op cn t dr er : Int) (hx : (Lit.int .i64 cn).wf = true) (hs : s < 1000000) (idle : Int) (ht : ¬ t > clock) (h7 : op = 7) (ha : (F.at_ cn).1 = 1) (hi : ¬ idle ≤ t) (ci : ∀ W, Calls Tryd.prog 24 #[.agg c.cells, .int .i64 (F.at_ cn).2.2] W fun e w' => e = .returned (.int .i64 idle) ∧ Below W.heap.size W w') (w : World) (hB : BookIs w g m s c clock F) :
    Calls Tryd.prog 17 #[.pointer (some ⟨g, 0, none⟩), .agg (evA k wk op cn t dr er)] w (SetPost g m s c clock F w 6) := by
  have hu := Tryd.underlying56
  have hu2 := Tryd.underlying40
  have hu3 := Tryd.underlying29
  have hu4 := Tryd.underlying36
  have CS := Aside0.mk (fun W h => state_any (F := F) (g := g) (m := m) (s := s) (c := c) (clock := clock) cn hx W h)
  have CP := Aside0.mk (fun W h t => set_any (F := F) (g := g) (m := m) (s := s) (c := c) (clock := clock) cn hx t hs W h)
  have CI := Aside0.mk ci
  clear ci
  obtain ⟨a, b, d, hS⟩ : ∃ a b d, F.at_ cn = (a, b, d) := ⟨_, _, _, rfl⟩
  rw [hS] at CS ha CI
  clear hS
  subst h7
  obtain rfl : a = 1 := ha
  have g1 : decide (t > clock) = false := decide_eq_false ht
  have g2 : decide (idle ≤ t) = false := decide_eq_false hi
  clear ht hi
  have hlt := hB.glt
  have hc := fun i => hB.cell i
  have HB := Aside0.mk hB
  clear hB hx
  go_enter Tryd.func17, Tryd.ntmps17
  go_wp2_with (go_at_call 10; (with_reducible refine (CS.out _ (HB.out.alloc _)).mono ?_); rintro e w1 ⟨rfl, hb⟩; have n1 := Aside0.mk (show Below w.heap.size w w1 from below_step (below_alloc (Below.refl _ _) _) hb); have n2 := Aside0.mk ((HB.out.alloc _).below hb); have n3 := Aside0.mk ((hb.block w.heap.size (by simp)).trans (heap_alloc_new w (.cells (evA k wk 7 cn t dr er) 29))); have hl1 : g < w1.heap.size := n2.out.glt; have hl2 : w.heap.size < w1.heap.size := blk_lt n3.out; clear hb hc; have hc := fun i => n2.out.cell i; have he := fun i => blk_cell n3.out i)
  go_quiet (fail)
  go_wp2
  have HT := Aside0.mk (show Held w (w1.alloc (.cells (stA (1, b, d)) 40)) g m s c clock F (evA k wk 7 cn t dr er) w1.heap.size (stA (1, b, d)) from ⟨below_alloc n1.out _, n2.out.alloc _, (Below.heap_alloc w1 _ _ hl2).trans n3.out, heap_alloc_new w1 _⟩)
  clear hc he
  go_region_held3 (fun w' => (∀ i, w'.cell? ⟨g, i, none⟩ = (bkA c clock m)[i]?) ∧ (∀ i, w'.cell? ⟨w.heap.size, i, none⟩ = (evA k wk 7 cn t dr er)[i]?) ∧ (∀ i, w'.cell? ⟨w1.heap.size, i, none⟩ = (stA (1, b, d))[i]?)) (exact HT.out.cells) ((go_at_call 24; (with_reducible refine (CI.out _).mono ?_); rintro e w2 ⟨rfl, hb⟩; have n9 := Aside0.mk (show Held w w2 g m s c clock F (evA k wk 7 cn t dr er) w1.heap.size (stA (1, b, d)) from (by first | exact ((HT.out.drewN _).drew).step hb | exact HT.out.drew.step hb | exact HT.out.step hb)); clear HT hb; have HT := n9; clear n9))
  have hcs := HT.out.cells
  have hcg := hcs.1
  have hce := hcs.2.1
  have hct := hcs.2.2
  clear hcs
  go_wp2
  go_ret
  exact SetPost.stay HT.out.book HT.out.below
end Go.Proofs.YthljanmfanppdaaDoor.Bk
end
section
set_option maxHeartbeats 4000000
set_option maxRecDepth 100000
namespace Go.Proofs.YthljanmfanppdaaDoor.Bk
open Go.RowKit Go.Maps Go.Proofs.YthljanmfanppdaaDoorW.PrintWords Go.Proofs.YthljanmfanppdaaDoorW.PrintLast Go.Proofs.YthljanmfanppdaaDoorW.PrintMore Go.Proofs.YthljanmfanppdaaDoor.Mp
set_option linter.unusedVariables false
set_option linter.unusedSimpArgs false
structure Held2 (w W : World) (g m s : Nat) (c : Cf) (clock : Int) (F : SM) (ev rs : Array Value) : Prop where
 below : Below w.heap.size w W
 book : BookIs W g m s c clock F
 ev_ : W.heap[w.heap.size]? = some (.cells ev 29 (0, 0))
 rs_ : W.heap[w.heap.size + 1]? = some (.cells rs 40 (0, 0))
section
variable {w W W1 : World} {g m s : Nat} {c : Cf} {clock : Int} {F : SM} {ev rs : Array Value}
theorem Held2.start (h : BookIs w g m s c clock F) (ev rs : Array Value) : Held2 w ((w.alloc (.cells ev 29)).alloc (.cells rs 40)) g m s c clock F ev rs :=
 ⟨below_alloc (below_alloc (Below.refl _ _) _) _, (h.alloc _).alloc _, (Below.heap_alloc _ _ _ (by simp)).trans (heap_alloc_new w _), by simpa using heap_alloc_new (w.alloc (.cells ev 29)) (.cells rs 40)⟩
theorem Held2.step (h : Held2 w W g m s c clock F ev rs) (hb : Below W.heap.size W W1) : Held2 w W1 g m s c clock F ev rs :=
 ⟨below_step h.below hb, h.book.below hb, (hb.block _ (blk_lt h.ev_)).trans h.ev_, (hb.block _ (blk_lt h.rs_)).trans h.rs_⟩
end
structure Held3 (w W : World) (g m s : Nat) (c : Cf) (clock : Int) (F : SM) (ev rs : Array Value) (tb : Nat) (ts : Array Value) : Prop where
 two : Held2 w W g m s c clock F ev rs
 st_ : W.heap[tb]? = some (.cells ts 40 (0, 0))
section
variable {w W W1 : World} {g m s tb : Nat} {c : Cf} {clock : Int} {F : SM} {ev rs ts : Array Value}
theorem Held3.step (h : Held3 w W g m s c clock F ev rs tb ts) (hb : Below W.heap.size W W1) : Held3 w W1 g m s c clock F ev rs tb ts := ⟨h.two.step hb, (hb.block _ (blk_lt h.st_)).trans h.st_⟩
theorem Held3.drew (h : Held3 w W g m s c clock F ev rs tb ts) : Held3 w W.drew g m s c clock F ev rs tb ts := ⟨⟨Below.drew h.two.below, h.two.book.drew, h.two.ev_, h.two.rs_⟩, h.st_⟩
theorem Held3.drewN (h : Held3 w W g m s c clock F ev rs tb ts) (n : Nat) : Held3 w (W.drewN n) g m s c clock F ev rs tb ts := ⟨⟨pw_below_drewN h.two.below n, h.two.book.drewN n, h.two.ev_, h.two.rs_⟩, h.st_⟩
theorem Held3.cells (h : Held3 w W g m s c clock F ev rs tb ts) : (∀ i, W.cell? ⟨g, i, none⟩ = (bkA c clock m)[i]?) ∧ (∀ i, W.cell? ⟨w.heap.size, i, none⟩ = ev[i]?) ∧ (∀ i, W.cell? ⟨tb, i, none⟩ = ts[i]?) :=
 ⟨fun i => h.two.book.cell i, fun i => blk_cell h.two.ev_ i, fun i => blk_cell h.st_ i⟩
theorem cell_put {W : World} {g rb : Nat} {cs : Array Value} (h : ∀ i, W.cell? ⟨g, i, none⟩ = cs[i]?) (hne : g ≠ rb) (j : Nat) (u : Value) (i : Nat) : (W.setCell ⟨rb, j, none⟩ u).cell? ⟨g, i, none⟩ = cs[i]? := by
 rw [← h i]
 exact World.cell?_of_block (Below.heap_setCell W ⟨rb, j, none⟩ u g hne)
theorem Held3.cells_put (h : Held3 w W g m s c clock F ev rs tb ts) (hg : g ≠ w.heap.size + 1) (ht : tb ≠ w.heap.size + 1) (x y z : Value) : (∀ i, (((W.setCell ⟨w.heap.size + 1, 0, none⟩ x).setCell ⟨w.heap.size + 1, 1, none⟩ y).setCell ⟨w.heap.size + 1, 2, none⟩ z).cell? ⟨g, i, none⟩ = (bkA c clock m)[i]?) ∧
  (∀ i, (((W.setCell ⟨w.heap.size + 1, 0, none⟩ x).setCell ⟨w.heap.size + 1, 1, none⟩ y).setCell ⟨w.heap.size + 1, 2, none⟩ z).cell? ⟨w.heap.size, i, none⟩ = ev[i]?) ∧
  (∀ i, (((W.setCell ⟨w.heap.size + 1, 0, none⟩ x).setCell ⟨w.heap.size + 1, 1, none⟩ y).setCell ⟨w.heap.size + 1, 2, none⟩ z).cell? ⟨tb, i, none⟩ = ts[i]?) :=
 ⟨cell_put (cell_put (cell_put h.cells.1 hg 0 x) hg 1 y) hg 2 z, cell_put (cell_put (cell_put h.cells.2.1 (by omega) 0 x) (by omega) 1 y) (by omega) 2 z, cell_put (cell_put (cell_put h.cells.2.2 ht 0 x) ht 1 y) ht 2 z⟩
end
theorem blk_frozen_ {w : World} {g : Nat} {cs : Array Value} {t : TypeId} (h : w.heap[g]? = some (.cells cs t (0, 0))) (i : Nat) : w.frozen? ⟨g, i, none⟩ = false := by simp [World.frozen?, h]
def AfterPost (s : St) (code : Int) (can : Bool) (w : World) (e : Ending) (w' : World) : Prop := e = .returned (.tuple #[stV s, .int .i64 code, .bool can]) ∧ Below w.heap.size w w'
theorem after_open {g m s : Nat} {c : Cf} {clock : Int} {F : SM} (k wk op cn t dr er draw : Int) (hx : (Lit.int .i64 cn).wf = true) (ho : op = 1) (ha : (F.at_ cn).1 = 0) (hin : cn ≥ 0 ∧ cn < c.c7) (w : World) (hB : BookIs w g m s c clock F) :
  Calls Tryd.prog 18 #[.pointer (some ⟨g, 0, none⟩), .agg (evA k wk op cn t dr er), .int .i64 draw] w (AfterPost (1, 0, t) 0 true w) := by
 have hu := Tryd.underlying56
 have hu2 := Tryd.underlying40
 have hu3 := Tryd.underlying29
 have hu4 := Tryd.underlying36
 have CS := Aside0.mk (fun W h => state_any (F := F) (g := g) (m := m) (s := s) (c := c) (clock := clock) cn hx W h)
 obtain ⟨a, b, d, hS⟩ : ∃ a b d, F.at_ cn = (a, b, d) := ⟨_, _, _, rfl⟩
 rw [hS] at CS ha
 clear hS
 subst ho
 obtain rfl : a = 0 := ha
 have hlt := hB.glt
 have hc := fun i => hB.cell i
 have HB := Aside0.mk hB
 clear hB hx
 have p1 : decide (cn ≥ 0) = true := decide_eq_true hin.1
 have p2 : decide (cn < c.c7) = true := decide_eq_true hin.2
 clear hin
 all_goals
  go_enter Tryd.func18, Tryd.ntmps18
  go_wp2_with (go_at_call 10; (with_reducible refine (CS.out _ ((HB.out.alloc _).alloc _)).mono ?_); rintro e w1 ⟨rfl, hb⟩; have n1 := Aside0.mk ((Held2.start HB.out (evA k wk 1 cn t dr er) (stA (0, 0, 0))).step hb); have hl1 : g < w1.heap.size := n1.out.book.glt; have hl2 : w.heap.size < w1.heap.size := blk_lt n1.out.ev_; have hl3 : w.heap.size + 1 < w1.heap.size := blk_lt n1.out.rs_; clear hb hc; have hc := fun i => n1.out.book.cell i; have he := fun i => blk_cell n1.out.ev_ i; have hr := fun i => blk_cell n1.out.rs_ i; have hf := fun i => blk_frozen_ n1.out.rs_ i)
  go_quiet (fail)
  go_wp2
  refine bodyPost_ret (v := .tuple #[.agg #[.int .i64 (1), .int .i64 (0), .int .i64 (t)], .int .i64 0, .bool true]) ?_ rfl ⟨rfl, ?_⟩
  ·simp [results, Tryd.results18, go_sem, *]
  ·exact (by repeat (first | exact n1.out.below | apply below_alloc | apply pw_below_drewN | refine below_set ?_ (by omega)))
theorem after_touch_a {g m s : Nat} {c : Cf} {clock : Int} {F : SM} (k wk op cn t dr er draw : Int) (hx : (Lit.int .i64 cn).wf = true) (ho : op = 2) (ha : (F.at_ cn).1 = 1) (hd : ¬ t ≤ (F.at_ cn).2.2) (w : World) (hB : BookIs w g m s c clock F) :
  Calls Tryd.prog 18 #[.pointer (some ⟨g, 0, none⟩), .agg (evA k wk op cn t dr er), .int .i64 draw] w (AfterPost (1, (F.at_ cn).2.1, t) 0 true w) := by
 have hu := Tryd.underlying56
 have hu2 := Tryd.underlying40
 have hu3 := Tryd.underlying29
 have hu4 := Tryd.underlying36
 have CS := Aside0.mk (fun W h => state_any (F := F) (g := g) (m := m) (s := s) (c := c) (clock := clock) cn hx W h)
 obtain ⟨a, b, d, hS⟩ : ∃ a b d, F.at_ cn = (a, b, d) := ⟨_, _, _, rfl⟩
 rw [hS] at CS ha hd ⊢
 clear hS
 subst ho
 obtain rfl : a = 1 := ha
 have g1 : ¬ t ≤ d := hd
 clear hd
 have hlt := hB.glt
 have hc := fun i => hB.cell i
 have HB := Aside0.mk hB
 clear hB hx
 obtain ⟨x1, x2, hxx⟩ : ∃ x1 x2 : Bool, (decide (cn ≥ 0) = x1) ∧ (decide (cn < c.c7) = x2) ∧ True := ⟨_, _, rfl, rfl, trivial⟩
 obtain ⟨p1, p2, p3⟩ := hxx
 cases x1 <;> cases x2
 all_goals
  go_enter Tryd.func18, Tryd.ntmps18
  go_wp2_with (go_at_call 10; (with_reducible refine (CS.out _ ((HB.out.alloc _).alloc _)).mono ?_); rintro e w1 ⟨rfl, hb⟩; have n1 := Aside0.mk ((Held2.start HB.out (evA k wk 2 cn t dr er) (stA (0, 0, 0))).step hb); have hl1 : g < w1.heap.size := n1.out.book.glt; have hl2 : w.heap.size < w1.heap.size := blk_lt n1.out.ev_; have hl3 : w.heap.size + 1 < w1.heap.size := blk_lt n1.out.rs_; clear hb hc; have hc := fun i => n1.out.book.cell i; have he := fun i => blk_cell n1.out.ev_ i; have hr := fun i => blk_cell n1.out.rs_ i; have hf := fun i => blk_frozen_ n1.out.rs_ i)
  go_quiet (fail)
  go_wp2
  all_goals first | (exfalso; omega) | skip
  all_goals
   refine bodyPost_ret (v := .tuple #[.agg #[_, _, _], .int .i64 0, .bool true]) ?_ rfl ⟨rfl, ?_⟩
   ·simp [results, Tryd.results18, go_sem, *]
   ·exact (by repeat (first | exact n1.out.below | apply below_alloc | apply pw_below_drewN | refine below_set ?_ (by omega)))
theorem after_touch_b {g m s : Nat} {c : Cf} {clock : Int} {F : SM} (k wk op cn t dr er draw : Int) (hx : (Lit.int .i64 cn).wf = true) (ho : op = 2) (ha : (F.at_ cn).1 = 1) (hd : t ≤ (F.at_ cn).2.2) (w : World) (hB : BookIs w g m s c clock F) :
  Calls Tryd.prog 18 #[.pointer (some ⟨g, 0, none⟩), .agg (evA k wk op cn t dr er), .int .i64 draw] w (AfterPost (1, (F.at_ cn).2.1, (F.at_ cn).2.2) 0 true w) := by
 have hu := Tryd.underlying56
 have hu2 := Tryd.underlying40
 have hu3 := Tryd.underlying29
 have hu4 := Tryd.underlying36
 have CS := Aside0.mk (fun W h => state_any (F := F) (g := g) (m := m) (s := s) (c := c) (clock := clock) cn hx W h)
 obtain ⟨a, b, d, hS⟩ : ∃ a b d, F.at_ cn = (a, b, d) := ⟨_, _, _, rfl⟩
 rw [hS] at CS ha hd ⊢
 clear hS
 subst ho
 obtain rfl : a = 1 := ha
 have g1 : t ≤ d := hd
 clear hd
 have hlt := hB.glt
 have hc := fun i => hB.cell i
 have HB := Aside0.mk hB
 clear hB hx
 obtain ⟨x1, x2, hxx⟩ : ∃ x1 x2 : Bool, (decide (cn ≥ 0) = x1) ∧ (decide (cn < c.c7) = x2) ∧ True := ⟨_, _, rfl, rfl, trivial⟩
 obtain ⟨p1, p2, p3⟩ := hxx
 cases x1 <;> cases x2
 all_goals
  go_enter Tryd.func18, Tryd.ntmps18
  go_wp2_with (go_at_call 10; (with_reducible refine (CS.out _ ((HB.out.alloc _).alloc _)).mono ?_); rintro e w1 ⟨rfl, hb⟩; have n1 := Aside0.mk ((Held2.start HB.out (evA k wk 2 cn t dr er) (stA (0, 0, 0))).step hb); have hl1 : g < w1.heap.size := n1.out.book.glt; have hl2 : w.heap.size < w1.heap.size := blk_lt n1.out.ev_; have hl3 : w.heap.size + 1 < w1.heap.size := blk_lt n1.out.rs_; clear hb hc; have hc := fun i => n1.out.book.cell i; have he := fun i => blk_cell n1.out.ev_ i; have hr := fun i => blk_cell n1.out.rs_ i; have hf := fun i => blk_frozen_ n1.out.rs_ i)
  go_quiet (fail)
  go_wp2
  all_goals first | (exfalso; omega) | skip
  all_goals
   refine bodyPost_ret (v := .tuple #[.agg #[_, _, _], .int .i64 0, .bool true]) ?_ rfl ⟨rfl, ?_⟩
   ·simp [results, Tryd.results18, go_sem, *]
   ·exact (by repeat (first | exact n1.out.below | apply below_alloc | apply pw_below_drewN | refine below_set ?_ (by omega)))
theorem after_close {g m s : Nat} {c : Cf} {clock : Int} {F : SM} (k wk op cn t dr er draw : Int) (hx : (Lit.int .i64 cn).wf = true) (ho : op = 3) (ha : ¬ (F.at_ cn).1 = 0) (w : World) (hB : BookIs w g m s c clock F) :
  Calls Tryd.prog 18 #[.pointer (some ⟨g, 0, none⟩), .agg (evA k wk op cn t dr er), .int .i64 draw] w (AfterPost (0, 0, 0) 0 true w) := by
 have hu := Tryd.underlying56
 have hu2 := Tryd.underlying40
 have hu3 := Tryd.underlying29
 have hu4 := Tryd.underlying36
 have CS := Aside0.mk (fun W h => state_any (F := F) (g := g) (m := m) (s := s) (c := c) (clock := clock) cn hx W h)
 obtain ⟨a, b, d, hS⟩ : ∃ a b d, F.at_ cn = (a, b, d) := ⟨_, _, _, rfl⟩
 rw [hS] at CS ha
 clear hS
 subst ho
 have g1 : (a == 0) = false := beq_eq_false_iff_ne.2 ha
 have g2 : (a != 0) = true := bne_iff_ne.2 ha
 clear ha
 have hlt := hB.glt
 have hc := fun i => hB.cell i
 have HB := Aside0.mk hB
 clear hB hx
 obtain ⟨x1, x2, hxx⟩ : ∃ x1 x2 : Bool, (decide (cn ≥ 0) = x1) ∧ (decide (cn < c.c7) = x2) ∧ True := ⟨_, _, rfl, rfl, trivial⟩
 obtain ⟨p1, p2, p3⟩ := hxx
 cases x1 <;> cases x2
 all_goals
  go_enter Tryd.func18, Tryd.ntmps18
  go_wp2_with (go_at_call 10; (with_reducible refine (CS.out _ ((HB.out.alloc _).alloc _)).mono ?_); rintro e w1 ⟨rfl, hb⟩; have n1 := Aside0.mk ((Held2.start HB.out (evA k wk 3 cn t dr er) (stA (0, 0, 0))).step hb); have hl1 : g < w1.heap.size := n1.out.book.glt; have hl2 : w.heap.size < w1.heap.size := blk_lt n1.out.ev_; have hl3 : w.heap.size + 1 < w1.heap.size := blk_lt n1.out.rs_; clear hb hc; have hc := fun i => n1.out.book.cell i; have he := fun i => blk_cell n1.out.ev_ i; have hr := fun i => blk_cell n1.out.rs_ i; have hf := fun i => blk_frozen_ n1.out.rs_ i)
  go_quiet (fail)
  go_wp2
  refine bodyPost_ret (v := .tuple #[.agg #[.int .i64 (0), .int .i64 (0), .int .i64 (0)], .int .i64 0, .bool true]) ?_ rfl ⟨rfl, ?_⟩
  ·simp [results, Tryd.results18, go_sem, *]
  ·exact (by repeat (first | exact n1.out.below | apply below_alloc | apply pw_below_drewN | refine below_set ?_ (by omega)))
theorem after_success {g m s : Nat} {c : Cf} {clock : Int} {F : SM} (k wk op cn t dr er draw : Int) (hx : (Lit.int .i64 cn).wf = true) (ho : op = 5) (ha : (F.at_ cn).1 = 3) (w : World) (hB : BookIs w g m s c clock F) :
  Calls Tryd.prog 18 #[.pointer (some ⟨g, 0, none⟩), .agg (evA k wk op cn t dr er), .int .i64 draw] w (AfterPost (1, 0, t) 0 true w) := by
 have hu := Tryd.underlying56
 have hu2 := Tryd.underlying40
 have hu3 := Tryd.underlying29
 have hu4 := Tryd.underlying36
 have CS := Aside0.mk (fun W h => state_any (F := F) (g := g) (m := m) (s := s) (c := c) (clock := clock) cn hx W h)
 obtain ⟨a, b, d, hS⟩ : ∃ a b d, F.at_ cn = (a, b, d) := ⟨_, _, _, rfl⟩
 rw [hS] at CS ha
 clear hS
 subst ho
 obtain rfl : a = 3 := ha
 have hlt := hB.glt
 have hc := fun i => hB.cell i
 have HB := Aside0.mk hB
 clear hB hx
 obtain ⟨x1, x2, hxx⟩ : ∃ x1 x2 : Bool, (decide (cn ≥ 0) = x1) ∧ (decide (cn < c.c7) = x2) ∧ True := ⟨_, _, rfl, rfl, trivial⟩
 obtain ⟨p1, p2, p3⟩ := hxx
 cases x1 <;> cases x2
 all_goals
  go_enter Tryd.func18, Tryd.ntmps18
  go_wp2_with (go_at_call 10; (with_reducible refine (CS.out _ ((HB.out.alloc _).alloc _)).mono ?_); rintro e w1 ⟨rfl, hb⟩; have n1 := Aside0.mk ((Held2.start HB.out (evA k wk 5 cn t dr er) (stA (0, 0, 0))).step hb); have hl1 : g < w1.heap.size := n1.out.book.glt; have hl2 : w.heap.size < w1.heap.size := blk_lt n1.out.ev_; have hl3 : w.heap.size + 1 < w1.heap.size := blk_lt n1.out.rs_; clear hb hc; have hc := fun i => n1.out.book.cell i; have he := fun i => blk_cell n1.out.ev_ i; have hr := fun i => blk_cell n1.out.rs_ i; have hf := fun i => blk_frozen_ n1.out.rs_ i)
  go_quiet (fail)
  go_wp2
  refine bodyPost_ret (v := .tuple #[.agg #[.int .i64 (1), .int .i64 (0), .int .i64 (t)], .int .i64 0, .bool true]) ?_ rfl ⟨rfl, ?_⟩
  ·simp [results, Tryd.results18, go_sem, *]
  ·exact (by repeat (first | exact n1.out.below | apply below_alloc | apply pw_below_drewN | refine below_set ?_ (by omega)))
theorem after_fail1 {g m s : Nat} {c : Cf} {clock : Int} {F : SM} (k wk op cn t dr er draw : Int) (hx : (Lit.int .i64 cn).wf = true) (ho : op = 4) (ha : (F.at_ cn).1 = 1) (hb : (F.at_ cn).2.1 ≥ c.c12) (w : World) (hB : BookIs w g m s c clock F) :
  Calls Tryd.prog 18 #[.pointer (some ⟨g, 0, none⟩), .agg (evA k wk op cn t dr er), .int .i64 draw] w (AfterPost (0, 0, 0) 5 true w) := by
 have hu := Tryd.underlying56
 have hu2 := Tryd.underlying40
 have hu3 := Tryd.underlying29
 have hu4 := Tryd.underlying36
 have CS := Aside0.mk (fun W h => state_any (F := F) (g := g) (m := m) (s := s) (c := c) (clock := clock) cn hx W h)
 obtain ⟨a, b, d, hS⟩ : ∃ a b d, F.at_ cn = (a, b, d) := ⟨_, _, _, rfl⟩
 rw [hS] at CS ha hb
 clear hS
 subst ho
 obtain rfl : a = 1 := ha
 have g1 : decide (b ≥ c.c12) = true := decide_eq_true hb
 clear hb
 have hlt := hB.glt
 have hc := fun i => hB.cell i
 have HB := Aside0.mk hB
 clear hB hx
 obtain ⟨x1, x2, hxx⟩ : ∃ x1 x2 : Bool, (decide (cn ≥ 0) = x1) ∧ (decide (cn < c.c7) = x2) ∧ True := ⟨_, _, rfl, rfl, trivial⟩
 obtain ⟨p1, p2, p3⟩ := hxx
 cases x1 <;> cases x2
 all_goals
  go_enter Tryd.func18, Tryd.ntmps18
  go_wp2_with (go_at_call 10; (with_reducible refine (CS.out _ ((HB.out.alloc _).alloc _)).mono ?_); rintro e w1 ⟨rfl, hb⟩; have n1 := Aside0.mk ((Held2.start HB.out (evA k wk 4 cn t dr er) (stA (0, 0, 0))).step hb); have hl1 : g < w1.heap.size := n1.out.book.glt; have hl2 : w.heap.size < w1.heap.size := blk_lt n1.out.ev_; have hl3 : w.heap.size + 1 < w1.heap.size := blk_lt n1.out.rs_; clear hb hc; have hc := fun i => n1.out.book.cell i; have he := fun i => blk_cell n1.out.ev_ i; have hr := fun i => blk_cell n1.out.rs_ i; have hf := fun i => blk_frozen_ n1.out.rs_ i)
  go_quiet (fail)
  go_wp2
  go_quiet (fail)
  go_wp2
  refine bodyPost_ret (v := .tuple #[.agg #[.int .i64 (0), .int .i64 (0), .int .i64 (0)], .int .i64 5, .bool true]) ?_ rfl ⟨rfl, ?_⟩
  ·simp [results, Tryd.results18, go_sem, *]
  ·exact (by repeat (first | exact n1.out.below | apply below_alloc | apply pw_below_drewN | refine below_set ?_ (by omega)))
theorem after_fail3 {g m s : Nat} {c : Cf} {clock : Int} {F : SM} (k wk op cn t dr er draw : Int) (hx : (Lit.int .i64 cn).wf = true) (ho : op = 4) (ha : (F.at_ cn).1 = 3) (hb : (F.at_ cn).2.1 ≥ c.c12) (w : World) (hB : BookIs w g m s c clock F) :
  Calls Tryd.prog 18 #[.pointer (some ⟨g, 0, none⟩), .agg (evA k wk op cn t dr er), .int .i64 draw] w (AfterPost (0, 0, 0) 5 true w) := by
 have hu := Tryd.underlying56
 have hu2 := Tryd.underlying40
 have hu3 := Tryd.underlying29
 have hu4 := Tryd.underlying36
 have CS := Aside0.mk (fun W h => state_any (F := F) (g := g) (m := m) (s := s) (c := c) (clock := clock) cn hx W h)
 obtain ⟨a, b, d, hS⟩ : ∃ a b d, F.at_ cn = (a, b, d) := ⟨_, _, _, rfl⟩
 rw [hS] at CS ha hb
 clear hS
 subst ho
 obtain rfl : a = 3 := ha
 have g1 : decide (b ≥ c.c12) = true := decide_eq_true hb
 clear hb
 have hlt := hB.glt
 have hc := fun i => hB.cell i
 have HB := Aside0.mk hB
 clear hB hx
 obtain ⟨x1, x2, hxx⟩ : ∃ x1 x2 : Bool, (decide (cn ≥ 0) = x1) ∧ (decide (cn < c.c7) = x2) ∧ True := ⟨_, _, rfl, rfl, trivial⟩
 obtain ⟨p1, p2, p3⟩ := hxx
 cases x1 <;> cases x2
 all_goals
  go_enter Tryd.func18, Tryd.ntmps18
  go_wp2_with (go_at_call 10; (with_reducible refine (CS.out _ ((HB.out.alloc _).alloc _)).mono ?_); rintro e w1 ⟨rfl, hb⟩; have n1 := Aside0.mk ((Held2.start HB.out (evA k wk 4 cn t dr er) (stA (0, 0, 0))).step hb); have hl1 : g < w1.heap.size := n1.out.book.glt; have hl2 : w.heap.size < w1.heap.size := blk_lt n1.out.ev_; have hl3 : w.heap.size + 1 < w1.heap.size := blk_lt n1.out.rs_; clear hb hc; have hc := fun i => n1.out.book.cell i; have he := fun i => blk_cell n1.out.ev_ i; have hr := fun i => blk_cell n1.out.rs_ i; have hf := fun i => blk_frozen_ n1.out.rs_ i)
  go_quiet (fail)
  go_wp2
  go_quiet (fail)
  go_wp2
  refine bodyPost_ret (v := .tuple #[.agg #[.int .i64 (0), .int .i64 (0), .int .i64 (0)], .int .i64 5, .bool true]) ?_ rfl ⟨rfl, ?_⟩
  ·simp [results, Tryd.results18, go_sem, *]
  ·exact (by repeat (first | exact n1.out.below | apply below_alloc | apply pw_below_drewN | refine below_set ?_ (by omega)))
theorem after_none1 {g m s : Nat} {c : Cf} {clock : Int} {F : SM} (k wk op cn t dr er draw : Int) (hx : (Lit.int .i64 cn).wf = true) (ho : op = 1) (ha : ¬ (F.at_ cn).1 = 0) (w : World) (hB : BookIs w g m s c clock F) :
  Calls Tryd.prog 18 #[.pointer (some ⟨g, 0, none⟩), .agg (evA k wk op cn t dr er), .int .i64 draw] w (AfterPost (F.at_ cn) 0 false w) := by
 have hu := Tryd.underlying56
 have hu2 := Tryd.underlying40
 have hu3 := Tryd.underlying29
 have hu4 := Tryd.underlying36
 have CS := Aside0.mk (fun W h => state_any (F := F) (g := g) (m := m) (s := s) (c := c) (clock := clock) cn hx W h)
 obtain ⟨a, b, d, hS⟩ : ∃ a b d, F.at_ cn = (a, b, d) := ⟨_, _, _, rfl⟩
 rw [hS] at CS ha ⊢
 clear hS
 subst ho
 have g1 : (a == 0) = false := beq_eq_false_iff_ne.2 ha
 clear ha
 have hlt := hB.glt
 have hc := fun i => hB.cell i
 have HB := Aside0.mk hB
 clear hB hx
 obtain ⟨x1, x2, hxx⟩ : ∃ x1 x2 : Bool, (decide (cn ≥ 0) = x1) ∧ (decide (cn < c.c7) = x2) ∧ True := ⟨_, _, rfl, rfl, trivial⟩
 obtain ⟨p1, p2, p3⟩ := hxx
 cases x1 <;> cases x2
 all_goals
  go_enter Tryd.func18, Tryd.ntmps18
  go_wp2_with (go_at_call 10; (with_reducible refine (CS.out _ ((HB.out.alloc _).alloc _)).mono ?_); rintro e w1 ⟨rfl, hb⟩; have n1 := Aside0.mk ((Held2.start HB.out (evA k wk 1 cn t dr er) (stA (0, 0, 0))).step hb); have hl1 : g < w1.heap.size := n1.out.book.glt; have hl2 : w.heap.size < w1.heap.size := blk_lt n1.out.ev_; have hl3 : w.heap.size + 1 < w1.heap.size := blk_lt n1.out.rs_; clear hb hc; have hc := fun i => n1.out.book.cell i; have he := fun i => blk_cell n1.out.ev_ i; have hr := fun i => blk_cell n1.out.rs_ i; have hf := fun i => blk_frozen_ n1.out.rs_ i)
  go_quiet (fail)
  go_wp2
  refine bodyPost_ret (v := .tuple #[.agg #[_, _, _], .int .i64 0, .bool false]) ?_ rfl ⟨rfl, ?_⟩
  ·simp [results, Tryd.results18, go_sem, *]
  ·exact (by repeat (first | exact n1.out.below | apply below_alloc | apply pw_below_drewN | refine below_set ?_ (by omega)))
theorem after_none1b {g m s : Nat} {c : Cf} {clock : Int} {F : SM} (k wk op cn t dr er draw : Int) (hx : (Lit.int .i64 cn).wf = true) (ho : op = 1) (ha : (F.at_ cn).1 = 0) (hin : ¬ (cn ≥ 0 ∧ cn < c.c7)) (w : World) (hB : BookIs w g m s c clock F) :
  Calls Tryd.prog 18 #[.pointer (some ⟨g, 0, none⟩), .agg (evA k wk op cn t dr er), .int .i64 draw] w (AfterPost (F.at_ cn) 0 false w) := by
 have hu := Tryd.underlying56
 have hu2 := Tryd.underlying40
 have hu3 := Tryd.underlying29
 have hu4 := Tryd.underlying36
 have CS := Aside0.mk (fun W h => state_any (F := F) (g := g) (m := m) (s := s) (c := c) (clock := clock) cn hx W h)
 obtain ⟨a, b, d, hS⟩ : ∃ a b d, F.at_ cn = (a, b, d) := ⟨_, _, _, rfl⟩
 rw [hS] at CS ha ⊢
 clear hS
 subst ho
 obtain rfl : a = 0 := ha
 have hp : decide (cn ≥ 0) = false ∨ (decide (cn ≥ 0) = true ∧ decide (cn < c.c7) = false) := by
  by_cases q : cn ≥ 0
  ·exact .inr ⟨decide_eq_true q, decide_eq_false (fun r => hin ⟨q, r⟩)⟩
  ·exact .inl (decide_eq_false q)
 clear hin
 have hlt := hB.glt
 have hc := fun i => hB.cell i
 have HB := Aside0.mk hB
 clear hB hx
 rcases hp with p1 | ⟨p1, p2⟩
 all_goals
  go_enter Tryd.func18, Tryd.ntmps18
  go_wp2_with (go_at_call 10; (with_reducible refine (CS.out _ ((HB.out.alloc _).alloc _)).mono ?_); rintro e w1 ⟨rfl, hb⟩; have n1 := Aside0.mk ((Held2.start HB.out (evA k wk 1 cn t dr er) (stA (0, 0, 0))).step hb); have hl1 : g < w1.heap.size := n1.out.book.glt; have hl2 : w.heap.size < w1.heap.size := blk_lt n1.out.ev_; have hl3 : w.heap.size + 1 < w1.heap.size := blk_lt n1.out.rs_; clear hb hc; have hc := fun i => n1.out.book.cell i; have he := fun i => blk_cell n1.out.ev_ i; have hr := fun i => blk_cell n1.out.rs_ i; have hf := fun i => blk_frozen_ n1.out.rs_ i)
  go_quiet (fail)
  go_wp2
  refine bodyPost_ret (v := .tuple #[.agg #[_, _, _], .int .i64 0, .bool false]) ?_ rfl ⟨rfl, ?_⟩
  ·simp [results, Tryd.results18, go_sem, *]
  ·exact (by repeat (first | exact n1.out.below | apply below_alloc | apply pw_below_drewN | refine below_set ?_ (by omega)))
theorem after_none2 {g m s : Nat} {c : Cf} {clock : Int} {F : SM} (k wk op cn t dr er draw : Int) (hx : (Lit.int .i64 cn).wf = true) (ho : op = 2) (ha : ¬ (F.at_ cn).1 = 1) (w : World) (hB : BookIs w g m s c clock F) :
  Calls Tryd.prog 18 #[.pointer (some ⟨g, 0, none⟩), .agg (evA k wk op cn t dr er), .int .i64 draw] w (AfterPost (F.at_ cn) 0 false w) := by
 have hu := Tryd.underlying56
 have hu2 := Tryd.underlying40
 have hu3 := Tryd.underlying29
 have hu4 := Tryd.underlying36
 have CS := Aside0.mk (fun W h => state_any (F := F) (g := g) (m := m) (s := s) (c := c) (clock := clock) cn hx W h)
 obtain ⟨a, b, d, hS⟩ : ∃ a b d, F.at_ cn = (a, b, d) := ⟨_, _, _, rfl⟩
 rw [hS] at CS ha ⊢
 clear hS
 subst ho
 have g1 : (a == 1) = false := beq_eq_false_iff_ne.2 ha
 clear ha
 have hlt := hB.glt
 have hc := fun i => hB.cell i
 have HB := Aside0.mk hB
 clear hB hx
 obtain ⟨x1, x2, hxx⟩ : ∃ x1 x2 : Bool, (decide (cn ≥ 0) = x1) ∧ (decide (cn < c.c7) = x2) ∧ True := ⟨_, _, rfl, rfl, trivial⟩
 obtain ⟨p1, p2, p3⟩ := hxx
 cases x1 <;> cases x2
 all_goals
  go_enter Tryd.func18, Tryd.ntmps18
  go_wp2_with (go_at_call 10; (with_reducible refine (CS.out _ ((HB.out.alloc _).alloc _)).mono ?_); rintro e w1 ⟨rfl, hb⟩; have n1 := Aside0.mk ((Held2.start HB.out (evA k wk 2 cn t dr er) (stA (0, 0, 0))).step hb); have hl1 : g < w1.heap.size := n1.out.book.glt; have hl2 : w.heap.size < w1.heap.size := blk_lt n1.out.ev_; have hl3 : w.heap.size + 1 < w1.heap.size := blk_lt n1.out.rs_; clear hb hc; have hc := fun i => n1.out.book.cell i; have he := fun i => blk_cell n1.out.ev_ i; have hr := fun i => blk_cell n1.out.rs_ i; have hf := fun i => blk_frozen_ n1.out.rs_ i)
  go_quiet (fail)
  go_wp2
  refine bodyPost_ret (v := .tuple #[.agg #[_, _, _], .int .i64 0, .bool false]) ?_ rfl ⟨rfl, ?_⟩
  ·simp [results, Tryd.results18, go_sem, *]
  ·exact (by repeat (first | exact n1.out.below | apply below_alloc | apply pw_below_drewN | refine below_set ?_ (by omega)))
theorem after_none3 {g m s : Nat} {c : Cf} {clock : Int} {F : SM} (k wk op cn t dr er draw : Int) (hx : (Lit.int .i64 cn).wf = true) (ho : op = 3) (ha : (F.at_ cn).1 = 0) (w : World) (hB : BookIs w g m s c clock F) :
  Calls Tryd.prog 18 #[.pointer (some ⟨g, 0, none⟩), .agg (evA k wk op cn t dr er), .int .i64 draw] w (AfterPost (F.at_ cn) 0 false w) := by
 have hu := Tryd.underlying56
 have hu2 := Tryd.underlying40
 have hu3 := Tryd.underlying29
 have hu4 := Tryd.underlying36
 have CS := Aside0.mk (fun W h => state_any (F := F) (g := g) (m := m) (s := s) (c := c) (clock := clock) cn hx W h)
 obtain ⟨a, b, d, hS⟩ : ∃ a b d, F.at_ cn = (a, b, d) := ⟨_, _, _, rfl⟩
 rw [hS] at CS ha ⊢
 clear hS
 subst ho
 obtain rfl : a = 0 := ha
 have hlt := hB.glt
 have hc := fun i => hB.cell i
 have HB := Aside0.mk hB
 clear hB hx
 obtain ⟨x1, x2, hxx⟩ : ∃ x1 x2 : Bool, (decide (cn ≥ 0) = x1) ∧ (decide (cn < c.c7) = x2) ∧ True := ⟨_, _, rfl, rfl, trivial⟩
 obtain ⟨p1, p2, p3⟩ := hxx
 cases x1 <;> cases x2
 all_goals
  go_enter Tryd.func18, Tryd.ntmps18
  go_wp2_with (go_at_call 10; (with_reducible refine (CS.out _ ((HB.out.alloc _).alloc _)).mono ?_); rintro e w1 ⟨rfl, hb⟩; have n1 := Aside0.mk ((Held2.start HB.out (evA k wk 3 cn t dr er) (stA (0, 0, 0))).step hb); have hl1 : g < w1.heap.size := n1.out.book.glt; have hl2 : w.heap.size < w1.heap.size := blk_lt n1.out.ev_; have hl3 : w.heap.size + 1 < w1.heap.size := blk_lt n1.out.rs_; clear hb hc; have hc := fun i => n1.out.book.cell i; have he := fun i => blk_cell n1.out.ev_ i; have hr := fun i => blk_cell n1.out.rs_ i; have hf := fun i => blk_frozen_ n1.out.rs_ i)
  go_quiet (fail)
  go_wp2
  refine bodyPost_ret (v := .tuple #[.agg #[_, _, _], .int .i64 0, .bool false]) ?_ rfl ⟨rfl, ?_⟩
  ·simp [results, Tryd.results18, go_sem, *]
  ·exact (by repeat (first | exact n1.out.below | apply below_alloc | apply pw_below_drewN | refine below_set ?_ (by omega)))
theorem after_none5 {g m s : Nat} {c : Cf} {clock : Int} {F : SM} (k wk op cn t dr er draw : Int) (hx : (Lit.int .i64 cn).wf = true) (ho : op = 5) (ha : ¬ (F.at_ cn).1 = 3) (w : World) (hB : BookIs w g m s c clock F) :
  Calls Tryd.prog 18 #[.pointer (some ⟨g, 0, none⟩), .agg (evA k wk op cn t dr er), .int .i64 draw] w (AfterPost (F.at_ cn) 0 false w) := by
 have hu := Tryd.underlying56
 have hu2 := Tryd.underlying40
 have hu3 := Tryd.underlying29
 have hu4 := Tryd.underlying36
 have CS := Aside0.mk (fun W h => state_any (F := F) (g := g) (m := m) (s := s) (c := c) (clock := clock) cn hx W h)
 obtain ⟨a, b, d, hS⟩ : ∃ a b d, F.at_ cn = (a, b, d) := ⟨_, _, _, rfl⟩
 rw [hS] at CS ha ⊢
 clear hS
 subst ho
 have g1 : (a == 3) = false := beq_eq_false_iff_ne.2 ha
 clear ha
 have hlt := hB.glt
 have hc := fun i => hB.cell i
 have HB := Aside0.mk hB
 clear hB hx
 obtain ⟨x1, x2, hxx⟩ : ∃ x1 x2 : Bool, (decide (cn ≥ 0) = x1) ∧ (decide (cn < c.c7) = x2) ∧ True := ⟨_, _, rfl, rfl, trivial⟩
 obtain ⟨p1, p2, p3⟩ := hxx
 cases x1 <;> cases x2
 all_goals
  go_enter Tryd.func18, Tryd.ntmps18
  go_wp2_with (go_at_call 10; (with_reducible refine (CS.out _ ((HB.out.alloc _).alloc _)).mono ?_); rintro e w1 ⟨rfl, hb⟩; have n1 := Aside0.mk ((Held2.start HB.out (evA k wk 5 cn t dr er) (stA (0, 0, 0))).step hb); have hl1 : g < w1.heap.size := n1.out.book.glt; have hl2 : w.heap.size < w1.heap.size := blk_lt n1.out.ev_; have hl3 : w.heap.size + 1 < w1.heap.size := blk_lt n1.out.rs_; clear hb hc; have hc := fun i => n1.out.book.cell i; have he := fun i => blk_cell n1.out.ev_ i; have hr := fun i => blk_cell n1.out.rs_ i; have hf := fun i => blk_frozen_ n1.out.rs_ i)
  go_quiet (fail)
  go_wp2
  refine bodyPost_ret (v := .tuple #[.agg #[_, _, _], .int .i64 0, .bool false]) ?_ rfl ⟨rfl, ?_⟩
  ·simp [results, Tryd.results18, go_sem, *]
  ·exact (by repeat (first | exact n1.out.below | apply below_alloc | apply pw_below_drewN | refine below_set ?_ (by omega)))
theorem after_none4 {g m s : Nat} {c : Cf} {clock : Int} {F : SM} (k wk op cn t dr er draw : Int) (hx : (Lit.int .i64 cn).wf = true) (ho : op = 4) (ha : ¬ (F.at_ cn).1 = 1 ∧ ¬ (F.at_ cn).1 = 3) (w : World) (hB : BookIs w g m s c clock F) :
  Calls Tryd.prog 18 #[.pointer (some ⟨g, 0, none⟩), .agg (evA k wk op cn t dr er), .int .i64 draw] w (AfterPost (F.at_ cn) 0 false w) := by
 have hu := Tryd.underlying56
 have hu2 := Tryd.underlying40
 have hu3 := Tryd.underlying29
 have hu4 := Tryd.underlying36
 have CS := Aside0.mk (fun W h => state_any (F := F) (g := g) (m := m) (s := s) (c := c) (clock := clock) cn hx W h)
 obtain ⟨a, b, d, hS⟩ : ∃ a b d, F.at_ cn = (a, b, d) := ⟨_, _, _, rfl⟩
 rw [hS] at CS ha ⊢
 clear hS
 subst ho
 have g1 : (a == 1) = false := beq_eq_false_iff_ne.2 ha.1
 have g2 : (a == 3) = false := beq_eq_false_iff_ne.2 ha.2
 clear ha
 have hlt := hB.glt
 have hc := fun i => hB.cell i
 have HB := Aside0.mk hB
 clear hB hx
 obtain ⟨x1, x2, hxx⟩ : ∃ x1 x2 : Bool, (decide (cn ≥ 0) = x1) ∧ (decide (cn < c.c7) = x2) ∧ True := ⟨_, _, rfl, rfl, trivial⟩
 obtain ⟨p1, p2, p3⟩ := hxx
 cases x1 <;> cases x2
 all_goals
  go_enter Tryd.func18, Tryd.ntmps18
  go_wp2_with (go_at_call 10; (with_reducible refine (CS.out _ ((HB.out.alloc _).alloc _)).mono ?_); rintro e w1 ⟨rfl, hb⟩; have n1 := Aside0.mk ((Held2.start HB.out (evA k wk 4 cn t dr er) (stA (0, 0, 0))).step hb); have hl1 : g < w1.heap.size := n1.out.book.glt; have hl2 : w.heap.size < w1.heap.size := blk_lt n1.out.ev_; have hl3 : w.heap.size + 1 < w1.heap.size := blk_lt n1.out.rs_; clear hb hc; have hc := fun i => n1.out.book.cell i; have he := fun i => blk_cell n1.out.ev_ i; have hr := fun i => blk_cell n1.out.rs_ i; have hf := fun i => blk_frozen_ n1.out.rs_ i)
  go_quiet (fail)
  go_wp2
  refine bodyPost_ret (v := .tuple #[.agg #[_, _, _], .int .i64 0, .bool false]) ?_ rfl ⟨rfl, ?_⟩
  ·simp [results, Tryd.results18, go_sem, *]
  ·exact (by repeat (first | exact n1.out.below | apply below_alloc | apply pw_below_drewN | refine below_set ?_ (by omega)))
theorem after_none {g m s : Nat} {c : Cf} {clock : Int} {F : SM} (k wk op cn t dr er draw : Int) (hx : (Lit.int .i64 cn).wf = true) (ho : ¬ op = 1 ∧ ¬ op = 2 ∧ ¬ op = 3 ∧ ¬ op = 4 ∧ ¬ op = 5) (w : World) (hB : BookIs w g m s c clock F) :
  Calls Tryd.prog 18 #[.pointer (some ⟨g, 0, none⟩), .agg (evA k wk op cn t dr er), .int .i64 draw] w (AfterPost (F.at_ cn) 0 false w) := by
 have hu := Tryd.underlying56
 have hu2 := Tryd.underlying40
 have hu3 := Tryd.underlying29
 have hu4 := Tryd.underlying36
 have CS := Aside0.mk (fun W h => state_any (F := F) (g := g) (m := m) (s := s) (c := c) (clock := clock) cn hx W h)
 obtain ⟨a, b, d, hS⟩ : ∃ a b d, F.at_ cn = (a, b, d) := ⟨_, _, _, rfl⟩
 rw [hS] at CS  ⊢
 clear hS
 have g1 : (op == 1) = false := beq_eq_false_iff_ne.2 ho.1
 have g2 : (op == 2) = false := beq_eq_false_iff_ne.2 ho.2.1
 have g3 : (op == 3) = false := beq_eq_false_iff_ne.2 ho.2.2.1
 have g4 : (op == 4) = false := beq_eq_false_iff_ne.2 ho.2.2.2.1
 have g5 : (op == 5) = false := beq_eq_false_iff_ne.2 ho.2.2.2.2
 clear ho
 have hlt := hB.glt
 have hc := fun i => hB.cell i
 have HB := Aside0.mk hB
 clear hB hx
 obtain ⟨x1, x2, hxx⟩ : ∃ x1 x2 : Bool, (decide (cn ≥ 0) = x1) ∧ (decide (cn < c.c7) = x2) ∧ True := ⟨_, _, rfl, rfl, trivial⟩
 obtain ⟨p1, p2, p3⟩ := hxx
 cases x1 <;> cases x2
 all_goals
  go_enter Tryd.func18, Tryd.ntmps18
  go_wp2_with (go_at_call 10; (with_reducible refine (CS.out _ ((HB.out.alloc _).alloc _)).mono ?_); rintro e w1 ⟨rfl, hb⟩; have n1 := Aside0.mk ((Held2.start HB.out (evA k wk op cn t dr er) (stA (0, 0, 0))).step hb); have hl1 : g < w1.heap.size := n1.out.book.glt; have hl2 : w.heap.size < w1.heap.size := blk_lt n1.out.ev_; have hl3 : w.heap.size + 1 < w1.heap.size := blk_lt n1.out.rs_; clear hb hc; have hc := fun i => n1.out.book.cell i; have he := fun i => blk_cell n1.out.ev_ i; have hr := fun i => blk_cell n1.out.rs_ i; have hf := fun i => blk_frozen_ n1.out.rs_ i)
  go_quiet (fail)
  go_wp2
  refine bodyPost_ret (v := .tuple #[.agg #[_, _, _], .int .i64 0, .bool false]) ?_ rfl ⟨rfl, ?_⟩
  ·simp [results, Tryd.results18, go_sem, *]
  ·exact (by repeat (first | exact n1.out.below | apply below_alloc | apply pw_below_drewN | refine below_set ?_ (by omega)))
end Go.Proofs.YthljanmfanppdaaDoor.Bk
end
section
namespace Go.Proofs.YthljanmfanppdaaDoor.Bk
open Go.RowKit Go.Maps Go.Proofs.YthljanmfanppdaaDoorW.PrintWords Go.Proofs.YthljanmfanppdaaDoorW.PrintLast Go.Proofs.YthljanmfanppdaaDoorW.PrintMore Go.Proofs.YthljanmfanppdaaDoor.Mp
set_option linter.unusedVariables false
set_option linter.unusedSimpArgs false
set_option maxHeartbeats 4000000 in
set_option maxRecDepth 100000 in
theorem after_wait1 {g m s : Nat} {c : Cf} {clock : Int} {F : SM} (k wk op cn t dr er draw : Int) (hx : (Lit.int .i64 cn).wf = true) (due : Int) (ho : op = 4) (ha : (F.at_ cn).1 = 1) (hb : ¬ (F.at_ cn).2.1 ≥ c.c12) (cd : ∀ W, Calls Tryd.prog 25 #[.agg c.cells, .int .i64 t, .int .i64 (F.at_ cn).2.1, .int .i64 draw] W fun e w' => e = .returned (.int .i64 due) ∧ Below W.heap.size W w') (w : World) (hB : BookIs w g m s c clock F) :
  Calls Tryd.prog 18 #[.pointer (some ⟨g, 0, none⟩), .agg (evA k wk op cn t dr er), .int .i64 draw] w (AfterPost (2, IntKind.i64.wrap ((F.at_ cn).2.1 + 1), due) 0 true w) := by
 have hu := Tryd.underlying56
 have hu2 := Tryd.underlying40
 have hu3 := Tryd.underlying29
 have hu4 := Tryd.underlying36
 have CS := Aside0.mk (fun W h => state_any (F := F) (g := g) (m := m) (s := s) (c := c) (clock := clock) cn hx W h)
 have CD := Aside0.mk cd
 clear cd
 obtain ⟨a, b, d, hS⟩ : ∃ a b d, F.at_ cn = (a, b, d) := ⟨_, _, _, rfl⟩
 rw [hS] at CS CD ha hb ⊢
 clear hS
 subst ho
 obtain rfl : a = 1 := ha
 have g1 : decide (b ≥ c.c12) = false := decide_eq_false hb
 clear hb
 have hlt := hB.glt
 have hc := fun i => hB.cell i
 have HB := Aside0.mk hB
 clear hB hx
 obtain ⟨x1, x2, hxx⟩ : ∃ x1 x2 : Bool, (decide (cn ≥ 0) = x1) ∧ (decide (cn < c.c7) = x2) ∧ True := ⟨_, _, rfl, rfl, trivial⟩
 obtain ⟨p1, p2, p3⟩ := hxx
 cases x1 <;> cases x2
 all_goals
  go_enter Tryd.func18, Tryd.ntmps18
  go_wp2_with (go_at_call 10; (with_reducible refine (CS.out _ ((HB.out.alloc _).alloc _)).mono ?_); rintro e w1 ⟨rfl, hb⟩; have n1 := Aside0.mk ((Held2.start HB.out (evA k wk 4 cn t dr er) (stA (0, 0, 0))).step hb); have hl1 : g < w1.heap.size := n1.out.book.glt; have hl2 : w.heap.size < w1.heap.size := blk_lt n1.out.ev_; have hl3 : w.heap.size + 1 < w1.heap.size := blk_lt n1.out.rs_; clear hb hc; have hc := fun i => n1.out.book.cell i; have he := fun i => blk_cell n1.out.ev_ i; have hr := fun i => blk_cell n1.out.rs_ i; have hf := fun i => blk_frozen_ n1.out.rs_ i)
  go_quiet (fail)
  have HT := Aside0.mk (Held3.mk (Held2.step n1.out (below_alloc (Below.refl _ _) (.cells (stA (1, b, d)) 40))) (heap_alloc_new w1 (.cells (stA (1, b, d)) 40)))
  go_wp2
  go_quiet (fail)
  go_wp2
  clear hc he hr hf
  go_region_held3 (fun w' => (∀ i, w'.cell? ⟨g, i, none⟩ = (bkA c clock m)[i]?) ∧ (∀ i, w'.cell? ⟨w.heap.size, i, none⟩ = (evA k wk 4 cn t dr er)[i]?) ∧ (∀ i, w'.cell? ⟨w1.heap.size, i, none⟩ = (stA (1, b, d))[i]?)) (first | exact HT.out.cells | exact HT.out.cells_put (by omega) (by omega) _ _ _) ((go_at_call 25; (with_reducible refine (CD.out _).mono ?_); rintro e w2 ⟨rfl, hb⟩; have n9 := Aside0.mk (show Held3 w w2 g m s c clock F (evA k wk 4 cn t dr er) (stA (0, 0, 0)) w1.heap.size (stA (1, b, d)) from (by first | exact ((HT.out.drewN _).drew).step hb | exact HT.out.drew.step hb | exact HT.out.step hb)); clear HT hb; have HT := n9; clear n9; have hr := fun i => blk_cell HT.out.two.rs_ i; have hf := fun i => blk_frozen HT.out.two.rs_ i))
  all_goals
   go_wp2
   refine bodyPost_ret (v := .tuple #[.agg #[_, _, _], .int .i64 0, .bool true]) ?_ rfl ⟨rfl, ?_⟩
   ·simp [results, Tryd.results18, go_sem, *]
   ·exact below_set (below_set (below_set HT.out.two.below (by omega)) (by omega)) (by omega)
set_option maxHeartbeats 4000000 in
set_option maxRecDepth 100000 in
theorem after_wait3 {g m s : Nat} {c : Cf} {clock : Int} {F : SM} (k wk op cn t dr er draw : Int) (hx : (Lit.int .i64 cn).wf = true) (due : Int) (ho : op = 4) (ha : (F.at_ cn).1 = 3) (hb : ¬ (F.at_ cn).2.1 ≥ c.c12) (cd : ∀ W, Calls Tryd.prog 25 #[.agg c.cells, .int .i64 t, .int .i64 (F.at_ cn).2.1, .int .i64 draw] W fun e w' => e = .returned (.int .i64 due) ∧ Below W.heap.size W w') (w : World) (hB : BookIs w g m s c clock F) :
  Calls Tryd.prog 18 #[.pointer (some ⟨g, 0, none⟩), .agg (evA k wk op cn t dr er), .int .i64 draw] w (AfterPost (2, IntKind.i64.wrap ((F.at_ cn).2.1 + 1), due) 0 true w) := by
 have hu := Tryd.underlying56
 have hu2 := Tryd.underlying40
 have hu3 := Tryd.underlying29
 have hu4 := Tryd.underlying36
 have CS := Aside0.mk (fun W h => state_any (F := F) (g := g) (m := m) (s := s) (c := c) (clock := clock) cn hx W h)
 have CD := Aside0.mk cd
 clear cd
 obtain ⟨a, b, d, hS⟩ : ∃ a b d, F.at_ cn = (a, b, d) := ⟨_, _, _, rfl⟩
 rw [hS] at CS CD ha hb ⊢
 clear hS
 subst ho
 obtain rfl : a = 3 := ha
 have g1 : decide (b ≥ c.c12) = false := decide_eq_false hb
 clear hb
 have hlt := hB.glt
 have hc := fun i => hB.cell i
 have HB := Aside0.mk hB
 clear hB hx
 obtain ⟨x1, x2, hxx⟩ : ∃ x1 x2 : Bool, (decide (cn ≥ 0) = x1) ∧ (decide (cn < c.c7) = x2) ∧ True := ⟨_, _, rfl, rfl, trivial⟩
 obtain ⟨p1, p2, p3⟩ := hxx
 cases x1 <;> cases x2
 all_goals
  go_enter Tryd.func18, Tryd.ntmps18
  go_wp2_with (go_at_call 10; (with_reducible refine (CS.out _ ((HB.out.alloc _).alloc _)).mono ?_); rintro e w1 ⟨rfl, hb⟩; have n1 := Aside0.mk ((Held2.start HB.out (evA k wk 4 cn t dr er) (stA (0, 0, 0))).step hb); have hl1 : g < w1.heap.size := n1.out.book.glt; have hl2 : w.heap.size < w1.heap.size := blk_lt n1.out.ev_; have hl3 : w.heap.size + 1 < w1.heap.size := blk_lt n1.out.rs_; clear hb hc; have hc := fun i => n1.out.book.cell i; have he := fun i => blk_cell n1.out.ev_ i; have hr := fun i => blk_cell n1.out.rs_ i; have hf := fun i => blk_frozen_ n1.out.rs_ i)
  go_quiet (fail)
  have HT := Aside0.mk (Held3.mk (Held2.step n1.out (below_alloc (Below.refl _ _) (.cells (stA (3, b, d)) 40))) (heap_alloc_new w1 (.cells (stA (3, b, d)) 40)))
  go_wp2
  go_quiet (fail)
  go_wp2
  clear hc he hr hf
  go_region_held3 (fun w' => (∀ i, w'.cell? ⟨g, i, none⟩ = (bkA c clock m)[i]?) ∧ (∀ i, w'.cell? ⟨w.heap.size, i, none⟩ = (evA k wk 4 cn t dr er)[i]?) ∧ (∀ i, w'.cell? ⟨w1.heap.size, i, none⟩ = (stA (3, b, d))[i]?)) (first | exact HT.out.cells | exact HT.out.cells_put (by omega) (by omega) _ _ _) ((go_at_call 25; (with_reducible refine (CD.out _).mono ?_); rintro e w2 ⟨rfl, hb⟩; have n9 := Aside0.mk (show Held3 w w2 g m s c clock F (evA k wk 4 cn t dr er) (stA (0, 0, 0)) w1.heap.size (stA (3, b, d)) from (by first | exact ((HT.out.drewN _).drew).step hb | exact HT.out.drew.step hb | exact HT.out.step hb)); clear HT hb; have HT := n9; clear n9; have hr := fun i => blk_cell HT.out.two.rs_ i; have hf := fun i => blk_frozen HT.out.two.rs_ i))
  all_goals
   go_wp2
   refine bodyPost_ret (v := .tuple #[.agg #[_, _, _], .int .i64 0, .bool true]) ?_ rfl ⟨rfl, ?_⟩
   ·simp [results, Tryd.results18, go_sem, *]
   ·exact below_set (below_set (below_set HT.out.two.below (by omega)) (by omega)) (by omega)
end Go.Proofs.YthljanmfanppdaaDoor.Bk
end
section
set_option maxHeartbeats 4000000
set_option maxRecDepth 100000
namespace Go.Proofs.YthljanmfanppdaaDoor.Bk
open Go.RowKit Go.Maps Go.Proofs.YthljanmfanppdaaDoorW.PrintWords Go.Proofs.YthljanmfanppdaaDoorW.PrintLast Go.Proofs.YthljanmfanppdaaDoorW.PrintMore Go.Proofs.YthljanmfanppdaaDoor.Mp
set_option linter.unusedVariables false
set_option linter.unusedSimpArgs false
structure Chg (w w' : World) (g m : Nat) : Prop where
  os : w'.os = w.os
  tape : w'.tape = w.tape
  output : w'.output = w.output
  size : w.heap.size ≤ w'.heap.size
  block : ∀ k, k < w.heap.size → k ≠ g → k ≠ m → w'.heap[k]? = w.heap[k]?
section
variable {w w1 w2 : World} {g m : Nat}
theorem Chg.of_below (h : Below w.heap.size w w1) : Chg w w1 g m := ⟨h.os, h.tape, h.output, h.size, fun k hk _ _ => h.block k hk⟩
theorem Chg.of_m (h : w.grownBy w1 (some m)) : Chg w w1 g m := ⟨h.os, h.tape, h.output, h.size, fun k hk _ hm => h.block k hk (fun e => hm (by injection e))⟩
theorem Chg.of_g (h : w.grownBy w1 (some g)) : Chg w w1 g m := ⟨h.os, h.tape, h.output, h.size, fun k hk hg _ => h.block k hk (fun e => hg (by injection e))⟩
theorem Chg.trans (h : Chg w w1 g m) (k : Chg w1 w2 g m) : Chg w w2 g m := ⟨k.os.trans h.os, k.tape.trans h.tape, k.output.trans h.output, Nat.le_trans h.size k.size, fun i hi hg hm => (k.block i (Nat.lt_of_lt_of_le hi h.size) hg hm).trans (h.block i hi hg hm)⟩
theorem Chg.below (h : Chg w w1 g m) {w0 : World} {B : Nat} (hb : Below B w0 w) (hB : B ≤ w.heap.size) (hg : B ≤ g) (hm : B ≤ m) : Below B w0 w1 :=
  ⟨h.os.trans hb.os, h.tape.trans hb.tape, h.output.trans hb.output, Nat.le_trans hb.size h.size, fun k hk => (h.block k (by omega) (by omega) (by omega)).trans (hb.block k hk)⟩
end
def DoPost (g m s : Nat) (c : Cf) (r : Int × Int × SM) (w : World) (e : Ending) (w' : World) : Prop := e = .returned (.int .i64 r.1) ∧ ∃ s', s' ≤ s + 1 ∧ BookIs w' g m s' c r.2.1 r.2.2 ∧ Chg w w' g m
theorem DoPost.stay {g m s : Nat} {c : Cf} {clock code : Int} {F : SM} {w W : World} (h : BookIs W g m s c clock F) (hb : Below w.heap.size w W) : DoPost g m s c (code, clock, F) w (.returned (.int .i64 code)) W := ⟨rfl, s, by omega, h, Chg.of_below hb⟩
theorem DoPost.of_set {g m s : Nat} {c : Cf} {clock code : Int} {F' : SM} {w W W1 : World} {e : Ending} (h : SetPost g m s c clock F' W code e W1) (hb : Below w.heap.size w W) : DoPost g m s c (code, clock, F') w e W1 := by
  obtain ⟨h1, s', h2, h3, h4⟩ := h
  exact ⟨h1, s', h2, h3, Chg.of_m ((grown_of_below hb _).trans h4)⟩
theorem grown_set (w : World) (g j : Nat) (u : Value) : w.grownBy (w.setCell ⟨g, j, none⟩ u) (some g) := ⟨rfl, rfl, rfl, by simp [World.setCell], fun k hk hne => Below.heap_setCell w _ u k (fun e => hne (by rw [e]))⟩
theorem do_wrong {g m s : Nat} {c : Cf} {clock : Int} {F : SM} (k wk op cn t dr er draw : Int) (r : Bool) (hr : r = false) (w : World) (hB : BookIs w g m s c clock F)
    (CR : Aside0 (∀ W, Calls Tryd.prog 13 #[.agg (evA k wk op cn t dr er)] W fun e w' => e = .returned (.bool r) ∧ Below W.heap.size W w')) :
    Calls Tryd.prog 9 #[.pointer (some ⟨g, 0, none⟩), .agg (evA k wk op cn t dr er), .int .i64 draw] w (DoPost g m s c (8, clock, F) w) := by
  have hu := Tryd.underlying56
  have hu2 := Tryd.underlying40
  have hu3 := Tryd.underlying29
  subst hr
  have hlt := hB.glt
  have hc := fun i => hB.cell i
  have HB := Aside0.mk hB
  clear hB
  go_enter Tryd.func9, Tryd.ntmps9
  go_wp2_with (first | (go_at_call 13; (with_reducible refine (CR.out _).mono ?_); rintro e w1 ⟨rfl, hb⟩; have n1 := Aside0.mk (show Below w.heap.size w w1 from below_step (below_alloc (Below.refl _ _) _) hb); have n2 := Aside0.mk ((HB.out.alloc _).below hb); have n3 := Aside0.mk ((hb.block w.heap.size (by simp)).trans (heap_alloc_new w (.cells (evA k wk op cn t dr er) 29))); have hl1 : g < w1.heap.size := n2.out.glt; have hl2 : w.heap.size < w1.heap.size := blk_lt n3.out; clear hb hc; have hc := fun i => n2.out.cell i; have he := fun i => blk_cell n3.out i; have hf := fun i => blk_frozen n2.out.blk i))
  go_ret
  exact DoPost.stay (by repeat (first | exact n2.out | apply BookIs.alloc | apply BookIs.drewN)) (by repeat (first | exact n1.out | apply below_alloc | apply pw_below_drewN))
theorem do_other {g m s : Nat} {c : Cf} {clock : Int} {F : SM} (k wk op cn t dr er draw : Int) (r : Bool) (hr : r = true) (h1 : ¬ k = 1) (h3 : ¬ k = 3) (h4 : ¬ k = 4) (w : World) (hB : BookIs w g m s c clock F)
    (CR : Aside0 (∀ W, Calls Tryd.prog 13 #[.agg (evA k wk op cn t dr er)] W fun e w' => e = .returned (.bool r) ∧ Below W.heap.size W w')) :
    Calls Tryd.prog 9 #[.pointer (some ⟨g, 0, none⟩), .agg (evA k wk op cn t dr er), .int .i64 draw] w (DoPost g m s c (8, clock, F) w) := by
  have hu := Tryd.underlying56
  have hu2 := Tryd.underlying40
  have hu3 := Tryd.underlying29
  subst hr
  have g1 : (k == 1) = false := beq_eq_false_iff_ne.2 h1
  have g3 : (k == 3) = false := beq_eq_false_iff_ne.2 h3
  have g4 : (k == 4) = false := beq_eq_false_iff_ne.2 h4
  clear h1 h3 h4
  have hlt := hB.glt
  have hc := fun i => hB.cell i
  have HB := Aside0.mk hB
  clear hB
  go_enter Tryd.func9, Tryd.ntmps9
  go_wp2_with (first | (go_at_call 13; (with_reducible refine (CR.out _).mono ?_); rintro e w1 ⟨rfl, hb⟩; have n1 := Aside0.mk (show Below w.heap.size w w1 from below_step (below_alloc (Below.refl _ _) _) hb); have n2 := Aside0.mk ((HB.out.alloc _).below hb); have n3 := Aside0.mk ((hb.block w.heap.size (by simp)).trans (heap_alloc_new w (.cells (evA k wk op cn t dr er) 29))); have hl1 : g < w1.heap.size := n2.out.glt; have hl2 : w.heap.size < w1.heap.size := blk_lt n3.out; clear hb hc; have hc := fun i => n2.out.cell i; have he := fun i => blk_cell n3.out i; have hf := fun i => blk_frozen n2.out.blk i))
  go_ret
  exact DoPost.stay (by repeat (first | exact n2.out | apply BookIs.alloc | apply BookIs.drewN)) (by repeat (first | exact n1.out | apply below_alloc | apply pw_below_drewN))
theorem do_tick_no {g m s : Nat} {c : Cf} {clock : Int} {F : SM} (k wk op cn t dr er draw : Int) (r : Bool) (hr : r = true) (h1 : k = 1) (ht : ¬ t = wrap64 (clock + 1)) (w : World) (hB : BookIs w g m s c clock F)
    (CR : Aside0 (∀ W, Calls Tryd.prog 13 #[.agg (evA k wk op cn t dr er)] W fun e w' => e = .returned (.bool r) ∧ Below W.heap.size W w')) :
    Calls Tryd.prog 9 #[.pointer (some ⟨g, 0, none⟩), .agg (evA k wk op cn t dr er), .int .i64 draw] w (DoPost g m s c (6, clock, F) w) := by
  have hu := Tryd.underlying56
  have hu2 := Tryd.underlying40
  have hu3 := Tryd.underlying29
  subst hr
  subst h1
  have g1 : (t != wrap64 (clock + 1)) = true := bne_iff_ne.2 ht
  have HQ := Aside0.mk ht
  clear ht
  have g2 : (t != IntKind.i64.wrap (clock + 1)) = true := by rw [IntWalk.i64_left]; exact g1
  have hlt := hB.glt
  have hc := fun i => hB.cell i
  have HB := Aside0.mk hB
  clear hB
  go_enter Tryd.func9, Tryd.ntmps9
  go_wp2_with (first | (go_at_call 13; (with_reducible refine (CR.out _).mono ?_); rintro e w1 ⟨rfl, hb⟩; have n1 := Aside0.mk (show Below w.heap.size w w1 from below_step (below_alloc (Below.refl _ _) _) hb); have n2 := Aside0.mk ((HB.out.alloc _).below hb); have n3 := Aside0.mk ((hb.block w.heap.size (by simp)).trans (heap_alloc_new w (.cells (evA 1 wk op cn t dr er) 29))); have hl1 : g < w1.heap.size := n2.out.glt; have hl2 : w.heap.size < w1.heap.size := blk_lt n3.out; clear hb hc; have hc := fun i => n2.out.cell i; have he := fun i => blk_cell n3.out i; have hf := fun i => blk_frozen n2.out.blk i))
  go_quiet (fail)
  go_wp2
  all_goals first
    | (go_ret
       exact DoPost.stay (by repeat (first | exact n2.out | apply BookIs.alloc | apply BookIs.drewN)) (by repeat (first | exact n1.out | apply below_alloc | apply pw_below_drewN)))
    | (exfalso; have := HQ.out; simp_all)
theorem do_tick {g m s : Nat} {c : Cf} {clock : Int} {F : SM} (k wk op cn t dr er draw : Int) (r : Bool) (hr : r = true) (h1 : k = 1) (ht : t = wrap64 (clock + 1)) (w : World) (hB : BookIs w g m s c clock F)
    (CR : Aside0 (∀ W, Calls Tryd.prog 13 #[.agg (evA k wk op cn t dr er)] W fun e w' => e = .returned (.bool r) ∧ Below W.heap.size W w')) :
    Calls Tryd.prog 9 #[.pointer (some ⟨g, 0, none⟩), .agg (evA k wk op cn t dr er), .int .i64 draw] w (DoPost g m s c (0, t, F) w) := by
  have hu := Tryd.underlying56
  have hu2 := Tryd.underlying40
  have hu3 := Tryd.underlying29
  subst hr
  subst h1
  have g1 : (t != wrap64 (clock + 1)) = false := by rw [ht]; simp
  have HQ := Aside0.mk ht
  clear ht
  have g2 : (t != IntKind.i64.wrap (clock + 1)) = false := by rw [IntWalk.i64_left]; exact g1
  have hlt := hB.glt
  have hc := fun i => hB.cell i
  have HB := Aside0.mk hB
  clear hB
  go_enter Tryd.func9, Tryd.ntmps9
  go_wp2_with (first | (go_at_call 13; (with_reducible refine (CR.out _).mono ?_); rintro e w1 ⟨rfl, hb⟩; have n1 := Aside0.mk (show Below w.heap.size w w1 from below_step (below_alloc (Below.refl _ _) _) hb); have n2 := Aside0.mk ((HB.out.alloc _).below hb); have n3 := Aside0.mk ((hb.block w.heap.size (by simp)).trans (heap_alloc_new w (.cells (evA 1 wk op cn t dr er) 29))); have hl1 : g < w1.heap.size := n2.out.glt; have hl2 : w.heap.size < w1.heap.size := blk_lt n3.out; clear hb hc; have hc := fun i => n2.out.cell i; have he := fun i => blk_cell n3.out i; have hf := fun i => blk_frozen n2.out.blk i))
  go_quiet (fail)
  go_wp2
  all_goals first
    | (go_ret
       exact ⟨rfl, s, by omega, ⟨by simpa using blk_set (n2.out.drewN _).blk 13 (.int .i64 t), (n2.out.drewN _).map.move (Below.heap_setCell _ _ _ _ (Ne.symm n2.out.ne))⟩, (Chg.of_below (pw_below_drewN n1.out _)).trans (Chg.of_g (grown_set _ _ _ _))⟩)
    | (exfalso; have := HQ.out; simp_all)
theorem do_act {g m s : Nat} {c : Cf} {clock : Int} {F : SM} (k wk op cn t dr er draw : Int) (r : Bool) (hr : r = true) (h1 : k = 4) (code : Int) (F2 : SM) (ca : ∀ W, BookIs W g m s c clock F → Calls Tryd.prog 17 #[.pointer (some ⟨g, 0, none⟩), .agg (evA k wk op cn t dr er)] W (SetPost g m s c clock F2 W code)) (w : World) (hB : BookIs w g m s c clock F)
    (CR : Aside0 (∀ W, Calls Tryd.prog 13 #[.agg (evA k wk op cn t dr er)] W fun e w' => e = .returned (.bool r) ∧ Below W.heap.size W w')) :
    Calls Tryd.prog 9 #[.pointer (some ⟨g, 0, none⟩), .agg (evA k wk op cn t dr er), .int .i64 draw] w (DoPost g m s c (code, clock, F2) w) := by
  have hu := Tryd.underlying56
  have hu2 := Tryd.underlying40
  have hu3 := Tryd.underlying29
  subst hr
  subst h1
  have CA := Aside0.mk ca
  clear ca
  have hlt := hB.glt
  have hc := fun i => hB.cell i
  have HB := Aside0.mk hB
  clear hB
  go_enter Tryd.func9, Tryd.ntmps9
  go_wp2_with (first | (go_at_call 13; (with_reducible refine (CR.out _).mono ?_); rintro e w1 ⟨rfl, hb⟩; have n1 := Aside0.mk (show Below w.heap.size w w1 from below_step (below_alloc (Below.refl _ _) _) hb); have n2 := Aside0.mk ((HB.out.alloc _).below hb); have n3 := Aside0.mk ((hb.block w.heap.size (by simp)).trans (heap_alloc_new w (.cells (evA 4 wk op cn t dr er) 29))); have hl1 : g < w1.heap.size := n2.out.glt; have hl2 : w.heap.size < w1.heap.size := blk_lt n3.out; clear hb hc; have hc := fun i => n2.out.cell i; have he := fun i => blk_cell n3.out i; have hf := fun i => blk_frozen n2.out.blk i) | (go_at_call 17; (with_reducible refine (CA.out _ n2.out).mono ?_); rintro e w5 ⟨rfl, hp⟩))
  go_ret
  exact DoPost.of_set ⟨rfl, hp⟩ n1.out
theorem do_point_still1 {g m s : Nat} {c : Cf} {clock : Int} {F : SM} (k wk op cn t dr er draw : Int) (r : Bool) (hr : r = true) (h1 : k = 3) (a b d code : Int) (can : Bool) (ca : ∀ W, BookIs W g m s c clock F → Calls Tryd.prog 18 #[.pointer (some ⟨g, 0, none⟩), .agg (evA k wk op cn t dr er), .int .i64 draw] W fun e w' => e = .returned (.tuple #[stV (a, b, d), .int .i64 code, .bool can]) ∧ Below W.heap.size W w') (h2 : er = 1) (w : World) (hB : BookIs w g m s c clock F)
    (CR : Aside0 (∀ W, Calls Tryd.prog 13 #[.agg (evA k wk op cn t dr er)] W fun e w' => e = .returned (.bool r) ∧ Below W.heap.size W w')) :
    Calls Tryd.prog 9 #[.pointer (some ⟨g, 0, none⟩), .agg (evA k wk op cn t dr er), .int .i64 draw] w (DoPost g m s c (0, clock, F) w) := by
  have hu := Tryd.underlying56
  have hu2 := Tryd.underlying40
  have hu3 := Tryd.underlying29
  subst hr
  subst h1
  have CA := Aside0.mk ca
  clear ca
  have q1 : (er == 1) = true := beq_iff_eq.2 h2
  clear h2
  have hlt := hB.glt
  have hc := fun i => hB.cell i
  have HB := Aside0.mk hB
  clear hB
  go_enter Tryd.func9, Tryd.ntmps9
  go_wp2_with (first | (go_at_call 13; (with_reducible refine (CR.out _).mono ?_); rintro e w1 ⟨rfl, hb⟩; have n1 := Aside0.mk (show Below w.heap.size w w1 from below_step (below_alloc (Below.refl _ _) _) hb); have n2 := Aside0.mk ((HB.out.alloc _).below hb); have n3 := Aside0.mk ((hb.block w.heap.size (by simp)).trans (heap_alloc_new w (.cells (evA 3 wk op cn t dr er) 29))); have hl1 : g < w1.heap.size := n2.out.glt; have hl2 : w.heap.size < w1.heap.size := blk_lt n3.out; clear hb hc; have hc := fun i => n2.out.cell i; have he := fun i => blk_cell n3.out i; have hf := fun i => blk_frozen n2.out.blk i) | (go_at_call 18; (with_reducible refine (CA.out _ n2.out).mono ?_); rintro e w5 ⟨rfl, hb⟩; have m1 := Aside0.mk (below_step n1.out hb); have m2 := Aside0.mk (n2.out.below hb); have m3 := Aside0.mk ((hb.block w.heap.size hl2).trans n3.out); have hl5 : g < w5.heap.size := m2.out.glt; have hl6 : w.heap.size < w5.heap.size := blk_lt m3.out; clear hb hc he hf; have hc := fun i => m2.out.cell i; have he := fun i => blk_cell m3.out i))
  all_goals
    go_ret
    exact DoPost.stay (by repeat (first | exact m2.out | apply BookIs.alloc | apply BookIs.drewN)) (by repeat (first | exact m1.out | apply below_alloc | apply pw_below_drewN))
theorem do_point_still3 {g m s : Nat} {c : Cf} {clock : Int} {F : SM} (k wk op cn t dr er draw : Int) (r : Bool) (hr : r = true) (h1 : k = 3) (a b d code : Int) (can : Bool) (ca : ∀ W, BookIs W g m s c clock F → Calls Tryd.prog 18 #[.pointer (some ⟨g, 0, none⟩), .agg (evA k wk op cn t dr er), .int .i64 draw] W fun e w' => e = .returned (.tuple #[stV (a, b, d), .int .i64 code, .bool can]) ∧ Below W.heap.size W w') (h2 : er = 3) (w : World) (hB : BookIs w g m s c clock F)
    (CR : Aside0 (∀ W, Calls Tryd.prog 13 #[.agg (evA k wk op cn t dr er)] W fun e w' => e = .returned (.bool r) ∧ Below W.heap.size W w')) :
    Calls Tryd.prog 9 #[.pointer (some ⟨g, 0, none⟩), .agg (evA k wk op cn t dr er), .int .i64 draw] w (DoPost g m s c (0, clock, F) w) := by
  have hu := Tryd.underlying56
  have hu2 := Tryd.underlying40
  have hu3 := Tryd.underlying29
  subst hr
  subst h1
  have CA := Aside0.mk ca
  clear ca
  have q1 : (er == 1) = false := beq_eq_false_iff_ne.2 (by omega)
  have q2 : (er == 3) = true := beq_iff_eq.2 h2
  clear h2
  have hlt := hB.glt
  have hc := fun i => hB.cell i
  have HB := Aside0.mk hB
  clear hB
  go_enter Tryd.func9, Tryd.ntmps9
  go_wp2_with (first | (go_at_call 13; (with_reducible refine (CR.out _).mono ?_); rintro e w1 ⟨rfl, hb⟩; have n1 := Aside0.mk (show Below w.heap.size w w1 from below_step (below_alloc (Below.refl _ _) _) hb); have n2 := Aside0.mk ((HB.out.alloc _).below hb); have n3 := Aside0.mk ((hb.block w.heap.size (by simp)).trans (heap_alloc_new w (.cells (evA 3 wk op cn t dr er) 29))); have hl1 : g < w1.heap.size := n2.out.glt; have hl2 : w.heap.size < w1.heap.size := blk_lt n3.out; clear hb hc; have hc := fun i => n2.out.cell i; have he := fun i => blk_cell n3.out i; have hf := fun i => blk_frozen n2.out.blk i) | (go_at_call 18; (with_reducible refine (CA.out _ n2.out).mono ?_); rintro e w5 ⟨rfl, hb⟩; have m1 := Aside0.mk (below_step n1.out hb); have m2 := Aside0.mk (n2.out.below hb); have m3 := Aside0.mk ((hb.block w.heap.size hl2).trans n3.out); have hl5 : g < w5.heap.size := m2.out.glt; have hl6 : w.heap.size < w5.heap.size := blk_lt m3.out; clear hb hc he hf; have hc := fun i => m2.out.cell i; have he := fun i => blk_cell m3.out i))
  all_goals
    go_ret
    exact DoPost.stay (by repeat (first | exact m2.out | apply BookIs.alloc | apply BookIs.drewN)) (by repeat (first | exact m1.out | apply below_alloc | apply pw_below_drewN))
theorem do_point_still6 {g m s : Nat} {c : Cf} {clock : Int} {F : SM} (k wk op cn t dr er draw : Int) (r : Bool) (hr : r = true) (h1 : k = 3) (a b d code : Int) (can : Bool) (ca : ∀ W, BookIs W g m s c clock F → Calls Tryd.prog 18 #[.pointer (some ⟨g, 0, none⟩), .agg (evA k wk op cn t dr er), .int .i64 draw] W fun e w' => e = .returned (.tuple #[stV (a, b, d), .int .i64 code, .bool can]) ∧ Below W.heap.size W w') (h2 : er = 6) (h3 : can = false) (w : World) (hB : BookIs w g m s c clock F)
    (CR : Aside0 (∀ W, Calls Tryd.prog 13 #[.agg (evA k wk op cn t dr er)] W fun e w' => e = .returned (.bool r) ∧ Below W.heap.size W w')) :
    Calls Tryd.prog 9 #[.pointer (some ⟨g, 0, none⟩), .agg (evA k wk op cn t dr er), .int .i64 draw] w (DoPost g m s c (0, clock, F) w) := by
  have hu := Tryd.underlying56
  have hu2 := Tryd.underlying40
  have hu3 := Tryd.underlying29
  subst hr
  subst h1
  have CA := Aside0.mk ca
  clear ca
  subst h2
  subst h3
  have hlt := hB.glt
  have hc := fun i => hB.cell i
  have HB := Aside0.mk hB
  clear hB
  go_enter Tryd.func9, Tryd.ntmps9
  go_wp2_with (first | (go_at_call 13; (with_reducible refine (CR.out _).mono ?_); rintro e w1 ⟨rfl, hb⟩; have n1 := Aside0.mk (show Below w.heap.size w w1 from below_step (below_alloc (Below.refl _ _) _) hb); have n2 := Aside0.mk ((HB.out.alloc _).below hb); have n3 := Aside0.mk ((hb.block w.heap.size (by simp)).trans (heap_alloc_new w (.cells (evA 3 wk op cn t dr 6) 29))); have hl1 : g < w1.heap.size := n2.out.glt; have hl2 : w.heap.size < w1.heap.size := blk_lt n3.out; clear hb hc; have hc := fun i => n2.out.cell i; have he := fun i => blk_cell n3.out i; have hf := fun i => blk_frozen n2.out.blk i) | (go_at_call 18; (with_reducible refine (CA.out _ n2.out).mono ?_); rintro e w5 ⟨rfl, hb⟩; have m1 := Aside0.mk (below_step n1.out hb); have m2 := Aside0.mk (n2.out.below hb); have m3 := Aside0.mk ((hb.block w.heap.size hl2).trans n3.out); have hl5 : g < w5.heap.size := m2.out.glt; have hl6 : w.heap.size < w5.heap.size := blk_lt m3.out; clear hb hc he hf; have hc := fun i => m2.out.cell i; have he := fun i => blk_cell m3.out i))
  all_goals
    go_ret
    exact DoPost.stay (by repeat (first | exact m2.out | apply BookIs.alloc | apply BookIs.drewN)) (by repeat (first | exact m1.out | apply below_alloc | apply pw_below_drewN))
theorem do_point_nof {g m s : Nat} {c : Cf} {clock : Int} {F : SM} (k wk op cn t dr er draw : Int) (r : Bool) (hr : r = true) (h1 : k = 3) (a b d code : Int) (can : Bool) (ca : ∀ W, BookIs W g m s c clock F → Calls Tryd.prog 18 #[.pointer (some ⟨g, 0, none⟩), .agg (evA k wk op cn t dr er), .int .i64 draw] W fun e w' => e = .returned (.tuple #[stV (a, b, d), .int .i64 code, .bool can]) ∧ Below W.heap.size W w') (h2 : ¬ er = 1 ∧ ¬ er = 3 ∧ ¬ er = 6) (hc : can = false) (w : World) (hB : BookIs w g m s c clock F)
    (CR : Aside0 (∀ W, Calls Tryd.prog 13 #[.agg (evA k wk op cn t dr er)] W fun e w' => e = .returned (.bool r) ∧ Below W.heap.size W w')) :
    Calls Tryd.prog 9 #[.pointer (some ⟨g, 0, none⟩), .agg (evA k wk op cn t dr er), .int .i64 draw] w (DoPost g m s c (6, clock, F) w) := by
  have hu := Tryd.underlying56
  have hu2 := Tryd.underlying40
  have hu3 := Tryd.underlying29
  subst hr
  subst h1
  have CA := Aside0.mk ca
  clear ca
  have q1 : (er == 1) = false := beq_eq_false_iff_ne.2 h2.1
  have q2 : (er == 3) = false := beq_eq_false_iff_ne.2 h2.2.1
  have q3 : (er == 6) = false := beq_eq_false_iff_ne.2 h2.2.2
  clear h2
  subst hc
  have hlt := hB.glt
  have hc := fun i => hB.cell i
  have HB := Aside0.mk hB
  clear hB
  go_enter Tryd.func9, Tryd.ntmps9
  go_wp2_with (first | (go_at_call 13; (with_reducible refine (CR.out _).mono ?_); rintro e w1 ⟨rfl, hb⟩; have n1 := Aside0.mk (show Below w.heap.size w w1 from below_step (below_alloc (Below.refl _ _) _) hb); have n2 := Aside0.mk ((HB.out.alloc _).below hb); have n3 := Aside0.mk ((hb.block w.heap.size (by simp)).trans (heap_alloc_new w (.cells (evA 3 wk op cn t dr er) 29))); have hl1 : g < w1.heap.size := n2.out.glt; have hl2 : w.heap.size < w1.heap.size := blk_lt n3.out; clear hb hc; have hc := fun i => n2.out.cell i; have he := fun i => blk_cell n3.out i; have hf := fun i => blk_frozen n2.out.blk i) | (go_at_call 18; (with_reducible refine (CA.out _ n2.out).mono ?_); rintro e w5 ⟨rfl, hb⟩; have m1 := Aside0.mk (below_step n1.out hb); have m2 := Aside0.mk (n2.out.below hb); have m3 := Aside0.mk ((hb.block w.heap.size hl2).trans n3.out); have hl5 : g < w5.heap.size := m2.out.glt; have hl6 : w.heap.size < w5.heap.size := blk_lt m3.out; clear hb hc he hf; have hc := fun i => m2.out.cell i; have he := fun i => blk_cell m3.out i))
  all_goals
    go_ret
    exact DoPost.stay (by repeat (first | exact m2.out | apply BookIs.alloc | apply BookIs.drewN)) (by repeat (first | exact m1.out | apply below_alloc | apply pw_below_drewN))
theorem do_point_no {g m s : Nat} {c : Cf} {clock : Int} {F : SM} (k wk op cn t dr er draw : Int) (r : Bool) (hr : r = true) (h1 : k = 3) (a b d code : Int) (can : Bool) (ca : ∀ W, BookIs W g m s c clock F → Calls Tryd.prog 18 #[.pointer (some ⟨g, 0, none⟩), .agg (evA k wk op cn t dr er), .int .i64 draw] W fun e w' => e = .returned (.tuple #[stV (a, b, d), .int .i64 code, .bool can]) ∧ Below W.heap.size W w') (h2 : ¬ er = 1 ∧ ¬ er = 3 ∧ ¬ er = 6) (hc : can = true) (h3 : ¬ er = code) (w : World) (hB : BookIs w g m s c clock F)
    (CR : Aside0 (∀ W, Calls Tryd.prog 13 #[.agg (evA k wk op cn t dr er)] W fun e w' => e = .returned (.bool r) ∧ Below W.heap.size W w')) :
    Calls Tryd.prog 9 #[.pointer (some ⟨g, 0, none⟩), .agg (evA k wk op cn t dr er), .int .i64 draw] w (DoPost g m s c (6, clock, F) w) := by
  have hu := Tryd.underlying56
  have hu2 := Tryd.underlying40
  have hu3 := Tryd.underlying29
  subst hr
  subst h1
  have CA := Aside0.mk ca
  clear ca
  have q1 : (er == 1) = false := beq_eq_false_iff_ne.2 h2.1
  have q2 : (er == 3) = false := beq_eq_false_iff_ne.2 h2.2.1
  have q3 : (er == 6) = false := beq_eq_false_iff_ne.2 h2.2.2
  clear h2
  subst hc
  have q4 : (er == code) = false := beq_eq_false_iff_ne.2 h3
  clear h3
  have hlt := hB.glt
  have hc := fun i => hB.cell i
  have HB := Aside0.mk hB
  clear hB
  go_enter Tryd.func9, Tryd.ntmps9
  go_wp2_with (first | (go_at_call 13; (with_reducible refine (CR.out _).mono ?_); rintro e w1 ⟨rfl, hb⟩; have n1 := Aside0.mk (show Below w.heap.size w w1 from below_step (below_alloc (Below.refl _ _) _) hb); have n2 := Aside0.mk ((HB.out.alloc _).below hb); have n3 := Aside0.mk ((hb.block w.heap.size (by simp)).trans (heap_alloc_new w (.cells (evA 3 wk op cn t dr er) 29))); have hl1 : g < w1.heap.size := n2.out.glt; have hl2 : w.heap.size < w1.heap.size := blk_lt n3.out; clear hb hc; have hc := fun i => n2.out.cell i; have he := fun i => blk_cell n3.out i; have hf := fun i => blk_frozen n2.out.blk i) | (go_at_call 18; (with_reducible refine (CA.out _ n2.out).mono ?_); rintro e w5 ⟨rfl, hb⟩; have m1 := Aside0.mk (below_step n1.out hb); have m2 := Aside0.mk (n2.out.below hb); have m3 := Aside0.mk ((hb.block w.heap.size hl2).trans n3.out); have hl5 : g < w5.heap.size := m2.out.glt; have hl6 : w.heap.size < w5.heap.size := blk_lt m3.out; clear hb hc he hf; have hc := fun i => m2.out.cell i; have he := fun i => blk_cell m3.out i))
  all_goals
    go_ret
    exact DoPost.stay (by repeat (first | exact m2.out | apply BookIs.alloc | apply BookIs.drewN)) (by repeat (first | exact m1.out | apply below_alloc | apply pw_below_drewN))
theorem do_point_yes {g m s : Nat} {c : Cf} {clock : Int} {F : SM} (k wk op cn t dr er draw : Int) (r : Bool) (hs : s < 1000000) (hx : (Lit.int .i64 cn).wf = true) (hr : r = true) (h1 : k = 3) (a b d code : Int) (can : Bool) (ca : ∀ W, BookIs W g m s c clock F → Calls Tryd.prog 18 #[.pointer (some ⟨g, 0, none⟩), .agg (evA k wk op cn t dr er), .int .i64 draw] W fun e w' => e = .returned (.tuple #[stV (a, b, d), .int .i64 code, .bool can]) ∧ Below W.heap.size W w') (h2 : ¬ er = 1 ∧ ¬ er = 3 ∧ ¬ er = 6) (h3 : can = true ∧ er = code) (w : World) (hB : BookIs w g m s c clock F)
    (CR : Aside0 (∀ W, Calls Tryd.prog 13 #[.agg (evA k wk op cn t dr er)] W fun e w' => e = .returned (.bool r) ∧ Below W.heap.size W w')) :
    Calls Tryd.prog 9 #[.pointer (some ⟨g, 0, none⟩), .agg (evA k wk op cn t dr er), .int .i64 draw] w (DoPost g m s c (0, clock, F.put cn (a, b, d)) w) := by
  have hu := Tryd.underlying56
  have hu2 := Tryd.underlying40
  have hu3 := Tryd.underlying29
  subst hr
  subst h1
  have CA := Aside0.mk ca
  clear ca
  have q1 : (er == 1) = false := beq_eq_false_iff_ne.2 h2.1
  have q2 : (er == 3) = false := beq_eq_false_iff_ne.2 h2.2.1
  have q3 : (er == 6) = false := beq_eq_false_iff_ne.2 h2.2.2
  clear h2
  obtain ⟨rfl, rfl⟩ := h3
  have q4 : (er == er) = true := by simp
  have CP := Aside0.mk (fun W h t => set_any (F := F) (g := g) (m := m) (s := s) (c := c) (clock := clock) cn hx t hs W h)
  clear hx
  have hlt := hB.glt
  have hc := fun i => hB.cell i
  have HB := Aside0.mk hB
  clear hB
  go_enter Tryd.func9, Tryd.ntmps9
  go_wp2_with (first | (go_at_call 13; (with_reducible refine (CR.out _).mono ?_); rintro e w1 ⟨rfl, hb⟩; have n1 := Aside0.mk (show Below w.heap.size w w1 from below_step (below_alloc (Below.refl _ _) _) hb); have n2 := Aside0.mk ((HB.out.alloc _).below hb); have n3 := Aside0.mk ((hb.block w.heap.size (by simp)).trans (heap_alloc_new w (.cells (evA 3 wk op cn t dr er) 29))); have hl1 : g < w1.heap.size := n2.out.glt; have hl2 : w.heap.size < w1.heap.size := blk_lt n3.out; clear hb hc; have hc := fun i => n2.out.cell i; have he := fun i => blk_cell n3.out i; have hf := fun i => blk_frozen n2.out.blk i) | (go_at_call 18; (with_reducible refine (CA.out _ n2.out).mono ?_); rintro e w5 ⟨rfl, hb⟩; have m1 := Aside0.mk (below_step n1.out hb); have m2 := Aside0.mk (n2.out.below hb); have m3 := Aside0.mk ((hb.block w.heap.size hl2).trans n3.out); have hl5 : g < w5.heap.size := m2.out.glt; have hl6 : w.heap.size < w5.heap.size := blk_lt m3.out; clear hb hc he hf; have hc := fun i => m2.out.cell i; have he := fun i => blk_cell m3.out i) | (go_at_call 19; refine (CP.out _ (by repeat (first | exact m2.out | apply BookIs.alloc | apply BookIs.drewN)) (a, b, d)).mono ?_; rintro e w7 ⟨rfl, hp⟩))
  all_goals
    go_ret
    exact DoPost.of_set ⟨rfl, hp⟩ (by repeat (first | exact m1.out | apply below_alloc | apply pw_below_drewN))
theorem do_point_no6 {g m s : Nat} {c : Cf} {clock : Int} {F : SM} (k wk op cn t dr er draw : Int) (r : Bool) (hr : r = true) (h1 : k = 3) (a b d code : Int) (can : Bool) (ca : ∀ W, BookIs W g m s c clock F → Calls Tryd.prog 18 #[.pointer (some ⟨g, 0, none⟩), .agg (evA k wk op cn t dr er), .int .i64 draw] W fun e w' => e = .returned (.tuple #[stV (a, b, d), .int .i64 code, .bool can]) ∧ Below W.heap.size W w') (h2 : er = 6) (hc : can = true) (h3 : ¬ er = code) (w : World) (hB : BookIs w g m s c clock F)
    (CR : Aside0 (∀ W, Calls Tryd.prog 13 #[.agg (evA k wk op cn t dr er)] W fun e w' => e = .returned (.bool r) ∧ Below W.heap.size W w')) :
    Calls Tryd.prog 9 #[.pointer (some ⟨g, 0, none⟩), .agg (evA k wk op cn t dr er), .int .i64 draw] w (DoPost g m s c (6, clock, F) w) := by
  have hu := Tryd.underlying56
  have hu2 := Tryd.underlying40
  have hu3 := Tryd.underlying29
  subst hr
  subst h1
  have CA := Aside0.mk ca
  clear ca
  subst h2
  subst hc
  have q4 : ((6 : Int) == code) = false := beq_eq_false_iff_ne.2 h3
  clear h3
  have hlt := hB.glt
  have hc := fun i => hB.cell i
  have HB := Aside0.mk hB
  clear hB
  go_enter Tryd.func9, Tryd.ntmps9
  go_wp2_with (first | (go_at_call 13; (with_reducible refine (CR.out _).mono ?_); rintro e w1 ⟨rfl, hb⟩; have n1 := Aside0.mk (show Below w.heap.size w w1 from below_step (below_alloc (Below.refl _ _) _) hb); have n2 := Aside0.mk ((HB.out.alloc _).below hb); have n3 := Aside0.mk ((hb.block w.heap.size (by simp)).trans (heap_alloc_new w (.cells (evA 3 wk op cn t dr 6) 29))); have hl1 : g < w1.heap.size := n2.out.glt; have hl2 : w.heap.size < w1.heap.size := blk_lt n3.out; clear hb hc; have hc := fun i => n2.out.cell i; have he := fun i => blk_cell n3.out i; have hf := fun i => blk_frozen n2.out.blk i) | (go_at_call 18; (with_reducible refine (CA.out _ n2.out).mono ?_); rintro e w5 ⟨rfl, hb⟩; have m1 := Aside0.mk (below_step n1.out hb); have m2 := Aside0.mk (n2.out.below hb); have m3 := Aside0.mk ((hb.block w.heap.size hl2).trans n3.out); have hl5 : g < w5.heap.size := m2.out.glt; have hl6 : w.heap.size < w5.heap.size := blk_lt m3.out; clear hb hc he hf; have hc := fun i => m2.out.cell i; have he := fun i => blk_cell m3.out i))
  all_goals
    go_ret
    exact DoPost.stay (by repeat (first | exact m2.out | apply BookIs.alloc | apply BookIs.drewN)) (by repeat (first | exact m1.out | apply below_alloc | apply pw_below_drewN))
theorem do_point_yes6 {g m s : Nat} {c : Cf} {clock : Int} {F : SM} (k wk op cn t dr er draw : Int) (r : Bool) (hs : s < 1000000) (hx : (Lit.int .i64 cn).wf = true) (hr : r = true) (h1 : k = 3) (a b d code : Int) (can : Bool) (ca : ∀ W, BookIs W g m s c clock F → Calls Tryd.prog 18 #[.pointer (some ⟨g, 0, none⟩), .agg (evA k wk op cn t dr er), .int .i64 draw] W fun e w' => e = .returned (.tuple #[stV (a, b, d), .int .i64 code, .bool can]) ∧ Below W.heap.size W w') (h2 : er = 6) (hc : can = true) (h3 : can = true ∧ er = code) (w : World) (hB : BookIs w g m s c clock F)
    (CR : Aside0 (∀ W, Calls Tryd.prog 13 #[.agg (evA k wk op cn t dr er)] W fun e w' => e = .returned (.bool r) ∧ Below W.heap.size W w')) :
    Calls Tryd.prog 9 #[.pointer (some ⟨g, 0, none⟩), .agg (evA k wk op cn t dr er), .int .i64 draw] w (DoPost g m s c (0, clock, F.put cn (a, b, d)) w) := by
  have hu := Tryd.underlying56
  have hu2 := Tryd.underlying40
  have hu3 := Tryd.underlying29
  subst hr
  subst h1
  have CA := Aside0.mk ca
  clear ca
  subst h2
  subst hc
  obtain ⟨-, rfl⟩ := h3
  have CP := Aside0.mk (fun W h t => set_any (F := F) (g := g) (m := m) (s := s) (c := c) (clock := clock) cn hx t hs W h)
  clear hx
  have hlt := hB.glt
  have hc := fun i => hB.cell i
  have HB := Aside0.mk hB
  clear hB
  go_enter Tryd.func9, Tryd.ntmps9
  go_wp2_with (first | (go_at_call 13; (with_reducible refine (CR.out _).mono ?_); rintro e w1 ⟨rfl, hb⟩; have n1 := Aside0.mk (show Below w.heap.size w w1 from below_step (below_alloc (Below.refl _ _) _) hb); have n2 := Aside0.mk ((HB.out.alloc _).below hb); have n3 := Aside0.mk ((hb.block w.heap.size (by simp)).trans (heap_alloc_new w (.cells (evA 3 wk op cn t dr 6) 29))); have hl1 : g < w1.heap.size := n2.out.glt; have hl2 : w.heap.size < w1.heap.size := blk_lt n3.out; clear hb hc; have hc := fun i => n2.out.cell i; have he := fun i => blk_cell n3.out i; have hf := fun i => blk_frozen n2.out.blk i) | (go_at_call 18; (with_reducible refine (CA.out _ n2.out).mono ?_); rintro e w5 ⟨rfl, hb⟩; have m1 := Aside0.mk (below_step n1.out hb); have m2 := Aside0.mk (n2.out.below hb); have m3 := Aside0.mk ((hb.block w.heap.size hl2).trans n3.out); have hl5 : g < w5.heap.size := m2.out.glt; have hl6 : w.heap.size < w5.heap.size := blk_lt m3.out; clear hb hc he hf; have hc := fun i => m2.out.cell i; have he := fun i => blk_cell m3.out i) | (go_at_call 19; refine (CP.out _ (by repeat (first | exact m2.out | apply BookIs.alloc | apply BookIs.drewN)) (a, b, d)).mono ?_; rintro e w7 ⟨rfl, hp⟩))
  all_goals
    go_ret
    exact DoPost.of_set ⟨rfl, hp⟩ (by repeat (first | exact m1.out | apply below_alloc | apply pw_below_drewN))
end Go.Proofs.YthljanmfanppdaaDoor.Bk
end
section
namespace Go.Proofs.YthljanmfanppdaaDoor.KLk
open Go.RowKit Go.Proofs.YthljanmfanppdaaDoorW.PrintWords Go.Proofs.YthljanmfanppdaaDoorW.PrintLast Go.Proofs.YthljanmfanppdaaDoorW.PrintMore
attribute [local go_sem] max2_int min2_int max_two min_two max_three min_three max_four min_four   -- for this text's walks alone
set_option linter.unusedVariables false
set_option linter.unusedSimpArgs false
def errW : Option Int → Value
 | none => .nilIface
 | some c => .iface 0 (.int .i64 c)
theorem errW_none : errW none = .nilIface := rfl
theorem errW_some (c : Int) : errW (some c) = .iface 0 (.int .i64 c) := rfl
end Go.Proofs.YthljanmfanppdaaDoor.KLk
end
section
namespace Go.Proofs.YthljanmfanppdaaDoor.KLk
open Go.RowKit Go.Proofs.YthljanmfanppdaaDoorW.PrintWords Go.Proofs.YthljanmfanppdaaDoorW.PrintLast Go.Proofs.YthljanmfanppdaaDoorW.PrintMore
attribute [local go_sem] max2_int min2_int max_two min_two max_three min_three max_four min_four   -- for this text's walks alone
set_option linter.unusedVariables false
set_option linter.unusedSimpArgs false
def link_shapeOf.j0 : Nat → Bool → Int → Int → Int → Int → Int → Int → Int → Option (Bool × Bool × Bool × Bool × Bool × Bool)
 | 0, _, _, _, _, _, _, _, _ => none
 | k + 1, x4, x102000, x102001, x102002, x102003, x102004, x102005, x102006 => if x102000 = 1 then (some (false, false, true, false, false, (x102002 == 0))) else (if x102000 = 2 then (if x4 = true then (some (true, x4, false, (x102002 == 4), false, true)) else (some (true, x4, false, (x102002 == 4), false, (x102002 == 6)))) else (if x102000 = 3 then (if x102006 = 1 then (some (true, true, !true, false, true, x4)) else (if x102006 = 3 then (some (true, true, !true, false, true, x4)) else (some (true, true, !(x102006 == 6), false, true, x4)))) else (if x102000 = 4 then (if x102002 = 7 then (some (true, true, true, false, false, true)) else (some (true, true, true, false, false, (x102002 == 8)))) else (if x102000 = 5 then (if x4 = true then (some (true, false, false, false, x4, true)) else (some (true, false, false, false, x4, (x102002 == 6)))) else (some (false, false, false, false, false, false))))))
def link_shapeOf.f (k : Nat) (a0_0 : Int) (a0_1 : Int) (a0_2 : Int) (a0_3 : Int) (a0_4 : Int) (a0_5 : Int) (a0_6 : Int) : Option (Bool × Bool × Bool × Bool × Bool × Bool) := if a0_2 ≥ 1 then (link_shapeOf.j0 k (decide (a0_2 ≤ 5)) a0_0 a0_1 a0_2 a0_3 a0_4 a0_5 a0_6) else (link_shapeOf.j0 k false a0_0 a0_1 a0_2 a0_3 a0_4 a0_5 a0_6)
def link_shapeOf.T6 : Bool × List (List Nat × List Nat) := (true, [([], []), ([], []), ([1], [1]), ([2], [2]), ([0, 3], [0, 3]), ([], []), ([5], [5]), ([6], [6]), ([7, 6], [6, 7]), ([8, 6], [6, 8]), ([6, 9], [6, 9]), ([4, 6, 0, 1, 2, 3, 4], [4]), ([10, 11, 0, 1, 2, 3, 4, 5, 6, 7, 8, 9, 10, 11], [10])])
def link_shapeOf.B6 : List Nat := [0, 0, 2, 6, 15, 0, 32, 96, 224, 480, 992, 127, 4095]
theorem link_shapeOf.tab6 : rtab .any (opsOf Tryd.f15 6) = link_shapeOf.T6 := by kernel_rfl
theorem link_shapeOf.bits6 : waitsOk link_shapeOf.T6.2 link_shapeOf.B6 = true := by kernel_rfl
def link_shapeOf.T11 : Bool × List (List Nat × List Nat) := (true, [([], []), ([], []), ([1], [1]), ([2], [2]), ([3], [3]), ([4], [4]), ([5, 4], [4, 5]), ([6, 4], [4, 6]), ([4, 7], [4, 7]), ([0, 4, 0], [0]), ([8, 9, 0, 1, 2, 3, 4, 5, 6, 7, 8, 9], [8])])
def link_shapeOf.B11 : List Nat := [0, 0, 2, 6, 14, 30, 62, 126, 254, 31, 1023]
theorem link_shapeOf.tab11 : rtab .any (opsOf Tryd.f15 11) = link_shapeOf.T11 := by kernel_rfl
theorem link_shapeOf.bits11 : waitsOk link_shapeOf.T11.2 link_shapeOf.B11 = true := by kernel_rfl
def link_shapeOf.T13 : Bool × List (List Nat × List Nat) := (true, [([], []), ([0], [0]), ([], []), ([2], [2]), ([3], [3]), ([4, 3], [3, 4]), ([5, 3], [3, 5]), ([3, 6], [3, 6]), ([1, 3, 0, 1], [1]), ([7, 8, 0, 1, 2, 3, 4, 5, 6, 7, 8], [7])])
def link_shapeOf.B13 : List Nat := [0, 1, 0, 4, 12, 28, 60, 124, 15, 511]
theorem link_shapeOf.tab13 : rtab .any (opsOf Tryd.f15 13) = link_shapeOf.T13 := by kernel_rfl
theorem link_shapeOf.bits13 : waitsOk link_shapeOf.T13.2 link_shapeOf.B13 = true := by kernel_rfl
set_option maxHeartbeats 8000000 in
set_option maxRecDepth 100000 in
theorem link_shapeOf.calls (k : Nat) (a0_0 : Int) (a0_1 : Int) (a0_2 : Int) (a0_3 : Int) (a0_4 : Int) (a0_5 : Int) (a0_6 : Int) (r1 : Bool) (r2 : Bool) (r3 : Bool) (r4 : Bool) (r5 : Bool) (r6 : Bool) (w : World) (h : link_shapeOf.f k a0_0 a0_1 a0_2 a0_3 a0_4 a0_5 a0_6 = some (r1, r2, r3, r4, r5, r6)) :
  Calls Tryd.prog 15 #[.agg #[.int .i64 a0_0, .int .i64 a0_1, .int .i64 a0_2, .int .i64 a0_3, .int .i64 a0_4, .int .i64 a0_5, .int .i64 a0_6]] w fun e w' => e = .returned (.tuple #[.agg #[.bool r1, .bool r2, .bool r3, .bool r4, .bool r5], .bool r6]) ∧ Below w.heap.size w w' := by
 have hu29 := Tryd.underlying29
 have hu48 := Tryd.underlying48
 have HB := Aside0.mk (Below.refl w.heap.size w)
 have H : (if a0_2 ≥ 1 then (link_shapeOf.j0 k (decide (a0_2 ≤ 5)) a0_0 a0_1 a0_2 a0_3 a0_4 a0_5 a0_6) else (link_shapeOf.j0 k false a0_0 a0_1 a0_2 a0_3 a0_4 a0_5 a0_6)) = some (r1, r2, r3, r4, r5, r6) := h
 clear h
 have HC2 := Aside0.mk H
 clear H
 go_enter Tryd.func15, Tryd.ntmps15
 go_upto_region 1 with (first | ((with_reducible refine gate_dst (N := 1) rfl ?_); refine box_event ?hg (N := 1) ?hd (cs := #[.int .i64 a0_0, .int .i64 a0_1, .int .i64 a0_2, .int .i64 a0_3, .int .i64 a0_4, .int .i64 a0_5, .int .i64 a0_6]) (t := 29) ?hr ?_; (case hd => rfl); (case hg => rfl); (case hr => first | (go_simp; done) | (go_simp; rfl)); intro gb101 hg w3 hbox hb; have n0_ := Aside0.mk (below_step (by repeat (first | (with_reducible first | exact HB.out | apply below_alloc | apply pw_below_drewN | apply below_drew1) | exact HB.out)) hb); have n1_ := Aside0.mk (hbox); have n2_ := Aside0.mk ((by rw [hg]; exact (below_size (by repeat (first | (with_reducible first | exact HB.out | apply below_alloc | apply pw_below_drewN | apply below_drew1) | exact HB.out))) : w.heap.size ≤ gb101)); have n3_ := Aside0.mk ((by rw [hg]; exact (below_size (by repeat (first | (with_reducible first | exact HB.out | apply below_alloc | apply pw_below_drewN | apply below_drew1) | exact HB.out))) : w.heap.size ≤ gb101)); clear HB; have HB := n0_; have BK101 := n1_; have GW101 := n2_; have GE101 := n3_; clear n0_ n1_ n2_ n3_; clear hb hbox hg) | ((with_reducible refine gate_dst (N := 2) rfl ?_); refine box_event ?hg (N := 2) ?hd (cs := #[.bool false, .bool false, .bool false, .bool false, .bool false]) (t := 48) ?hr ?_; (case hd => rfl); (case hg => rfl); (case hr => first | (go_simp; done) | (go_simp; rfl)); intro gb102 hg w4 hbox hb; have n0_ := Aside0.mk (blk_below (g := gb101) (o := .cells #[.int .i64 a0_0, .int .i64 a0_1, .int .i64 a0_2, .int .i64 a0_3, .int .i64 a0_4, .int .i64 a0_5, .int .i64 a0_6] 29 (0, 0)) (by (with_reducible repeat (first | refine blk_drewN ?_ _ | refine blk_drew ?_ | refine blk_alloc ?_ _)); exact BK101.out) hb); have n1_ := Aside0.mk (below_step (by repeat (first | (with_reducible first | exact HB.out | apply below_alloc | apply pw_below_drewN | apply below_drew1 | refine below_set ?_ GE101.out) | exact HB.out)) hb); have n2_ := Aside0.mk (hbox); have n3_ := Aside0.mk ((by rw [hg]; exact (below_size (by repeat (first | (with_reducible first | exact HB.out | apply below_alloc | apply pw_below_drewN | apply below_drew1 | refine below_set ?_ GE101.out) | exact HB.out))) : w.heap.size ≤ gb102)); have n4_ := Aside0.mk ((by rw [hg]; exact (below_size (by repeat (first | (with_reducible first | exact HB.out | apply below_alloc | apply pw_below_drewN | apply below_drew1 | refine below_set ?_ GE101.out) | exact HB.out))) : w.heap.size ≤ gb102)); have n5_ := Aside0.mk ((by rw [hg]; exact Nat.ne_of_lt (blk_lt (g := gb101) (o := .cells #[.int .i64 a0_0, .int .i64 a0_1, .int .i64 a0_2, .int .i64 a0_3, .int .i64 a0_4, .int .i64 a0_5, .int .i64 a0_6] 29 (0, 0)) (by (with_reducible repeat (first | refine blk_drewN ?_ _ | refine blk_drew ?_ | refine blk_alloc ?_ _)); exact BK101.out)) : gb101 ≠ gb102)); have n6_ := Aside0.mk ((by rw [hg]; exact Nat.ne_of_gt (blk_lt (g := gb101) (o := .cells #[.int .i64 a0_0, .int .i64 a0_1, .int .i64 a0_2, .int .i64 a0_3, .int .i64 a0_4, .int .i64 a0_5, .int .i64 a0_6] 29 (0, 0)) (by (with_reducible repeat (first | refine blk_drewN ?_ _ | refine blk_drew ?_ | refine blk_alloc ?_ _)); exact BK101.out)) : gb102 ≠ gb101)); clear BK101; clear HB; have BK101 := n0_; have HB := n1_; have BK102 := n2_; have GW102 := n3_; have GE102 := n4_; have NB101_102 := n5_; have NB102_101 := n6_; clear n0_ n1_ n2_ n3_ n4_ n5_ n6_; clear hb hbox hg))
 (try simp only [Act.put, sQ0, sQ1, sQ2])
 go_cut [4] (fun v4 wc => ∃ (kq : Nat) (x4_1 : Bool), v4 = .bool x4_1 ∧ Aside0 (link_shapeOf.j0 kq x4_1 a0_0 a0_1 a0_2 a0_3 a0_4 a0_5 a0_6 = some (r1, r2, r3, r4, r5, r6)) ∧ Aside0 (kq ≤ k) ∧ Aside0 (wc.heap[gb101]? = some (.cells #[.int .i64 a0_0, .int .i64 a0_1, .int .i64 a0_2, .int .i64 a0_3, .int .i64 a0_4, .int .i64 a0_5, .int .i64 a0_6] 29 (0, 0))) ∧ Aside0 (wc.heap[gb102]? = some (.cells #[.bool false, .bool false, .bool false, .bool false, .bool false] 48 (0, 0))) ∧ Aside0 (Below w.heap.size w wc))
 case first =>
  have H := HC2.out
  clear HC2
  by_cases c5 : a0_2 ≥ 1
  ·rw [if_pos c5] at H
   have c5b0 : decide (1 ≤ a0_2) = true := decide_eq_true c5
   clear c5
   (first | rw [c5b0] | (simp only [i64_w, i32_w]; rw [c5b0]) | skip)
   have H' := Aside0.mk H
   clear H
   have hnb6 := NB101_102.out
   have hnc6 := NB102_101.out
   have hcz7_0 : w4.cell? ⟨gb101, 0, none⟩ = some (.int .i64 a0_0) := (blk_cell BK101.out 0).trans rfl
   have hcz7_1 : w4.cell? ⟨gb101, 1, none⟩ = some (.int .i64 a0_1) := (blk_cell BK101.out 1).trans rfl
   have hcz7_2 : w4.cell? ⟨gb101, 2, none⟩ = some (.int .i64 a0_2) := (blk_cell BK101.out 2).trans rfl
   have hcz7_3 : w4.cell? ⟨gb101, 3, none⟩ = some (.int .i64 a0_3) := (blk_cell BK101.out 3).trans rfl
   have hcz7_4 : w4.cell? ⟨gb101, 4, none⟩ = some (.int .i64 a0_4) := (blk_cell BK101.out 4).trans rfl
   have hcz7_5 : w4.cell? ⟨gb101, 5, none⟩ = some (.int .i64 a0_5) := (blk_cell BK101.out 5).trans rfl
   have hcz7_6 : w4.cell? ⟨gb101, 6, none⟩ = some (.int .i64 a0_6) := (blk_cell BK101.out 6).trans rfl
   have hfz7_0 := blk_frozen BK101.out 0
   have hfz7_1 := blk_frozen BK101.out 1
   have hfz7_2 := blk_frozen BK101.out 2
   have hfz7_3 := blk_frozen BK101.out 3
   have hfz7_4 := blk_frozen BK101.out 4
   have hfz7_5 := blk_frozen BK101.out 5
   have hfz7_6 := blk_frozen BK101.out 6
   go_wp2
   go_meet
   case rel => exact ⟨_, (decide (a0_2 ≤ 5)), (by first | rfl | (simp; done) | (simp [*]; done)), H', ⟨by first | omega | exact Nat.le_refl _⟩, ⟨by (with_reducible repeat (first | refine blk_drewN ?_ _ | refine blk_drew ?_ | refine blk_alloc ?_ _)); exact BK101.out⟩, ⟨by (with_reducible repeat (first | refine blk_drewN ?_ _ | refine blk_drew ?_ | refine blk_alloc ?_ _)); exact BK102.out⟩, ⟨by repeat (first | (with_reducible first | exact HB.out | apply below_alloc | apply pw_below_drewN | apply below_drew1 | refine below_set ?_ GE101.out | refine below_set ?_ GE102.out) | exact HB.out)⟩⟩
  ·rw [if_neg c5] at H
   have c5b0 : decide (1 ≤ a0_2) = false := decide_eq_false c5
   clear c5
   (first | rw [c5b0] | (simp only [i64_w, i32_w]; rw [c5b0]) | skip)
   have H' := Aside0.mk H
   clear H
   have hnb8 := NB101_102.out
   have hnc8 := NB102_101.out
   have hcz9_0 : w4.cell? ⟨gb101, 0, none⟩ = some (.int .i64 a0_0) := (blk_cell BK101.out 0).trans rfl
   have hcz9_1 : w4.cell? ⟨gb101, 1, none⟩ = some (.int .i64 a0_1) := (blk_cell BK101.out 1).trans rfl
   have hcz9_2 : w4.cell? ⟨gb101, 2, none⟩ = some (.int .i64 a0_2) := (blk_cell BK101.out 2).trans rfl
   have hcz9_3 : w4.cell? ⟨gb101, 3, none⟩ = some (.int .i64 a0_3) := (blk_cell BK101.out 3).trans rfl
   have hcz9_4 : w4.cell? ⟨gb101, 4, none⟩ = some (.int .i64 a0_4) := (blk_cell BK101.out 4).trans rfl
   have hcz9_5 : w4.cell? ⟨gb101, 5, none⟩ = some (.int .i64 a0_5) := (blk_cell BK101.out 5).trans rfl
   have hcz9_6 : w4.cell? ⟨gb101, 6, none⟩ = some (.int .i64 a0_6) := (blk_cell BK101.out 6).trans rfl
   have hfz9_0 := blk_frozen BK101.out 0
   have hfz9_1 := blk_frozen BK101.out 1
   have hfz9_2 := blk_frozen BK101.out 2
   have hfz9_3 := blk_frozen BK101.out 3
   have hfz9_4 := blk_frozen BK101.out 4
   have hfz9_5 := blk_frozen BK101.out 5
   have hfz9_6 := blk_frozen BK101.out 6
   go_wp2
   go_meet
   case rel => exact ⟨_, (false), (by first | rfl | (simp; done) | (simp [*]; done)), H', ⟨by first | omega | exact Nat.le_refl _⟩, ⟨by (with_reducible repeat (first | refine blk_drewN ?_ _ | refine blk_drew ?_ | refine blk_alloc ?_ _)); exact BK101.out⟩, ⟨by (with_reducible repeat (first | refine blk_drewN ?_ _ | refine blk_drew ?_ | refine blk_alloc ?_ _)); exact BK102.out⟩, ⟨by repeat (first | (with_reducible first | exact HB.out | apply below_alloc | apply pw_below_drewN | apply below_drew1 | refine below_set ?_ GE101.out | refine below_set ?_ GE102.out) | exact HB.out)⟩⟩
 case rest =>
  clear HC2
  try clear c1
  try clear p2
  try clear c5
  try clear c5b0
  try clear c6
  try clear c8
  try clear hcz7_0
  try clear hcz7_1
  try clear hcz7_2
  try clear hcz7_3
  try clear hcz7_4
  try clear hcz7_5
  try clear hcz7_6
  try clear hcz9_0
  try clear hcz9_1
  try clear hcz9_2
  try clear hcz9_3
  try clear hcz9_4
  try clear hcz9_5
  try clear hcz9_6
  try clear hfz7_0
  try clear hfz7_1
  try clear hfz7_2
  try clear hfz7_3
  try clear hfz7_4
  try clear hfz7_5
  try clear hfz7_6
  try clear hfz9_0
  try clear hfz9_1
  try clear hfz9_2
  try clear hfz9_3
  try clear hfz9_4
  try clear hfz9_5
  try clear hfz9_6
  obtain ⟨kq, x4_1, rfl, HA, HJ1, BK101, BK102, HB⟩ := hcut
  cases kq with
  | zero => exact absurd HA.out (by simp [link_shapeOf.j0])
  | succ kj1 =>
   have H := HA.out
   clear HA
   simp only [link_shapeOf.j0] at H
   by_cases c10 : a0_0 = 1
   ·rw [if_pos c10] at H
    have c10b0 : (a0_0 == 1) = true := beq_iff_eq.mpr c10
    have c10b1 : (a0_0 != 1) = false := bne_eq_false_iff_eq.mpr c10
    clear c10
    simp only [Option.some.injEq, Prod.mk.injEq] at H
    obtain ⟨rfl, rfl, rfl, rfl, rfl, rfl⟩ := H
    have hnb11 := NB101_102.out
    have hnc11 := NB102_101.out
    have hcz12_0 : wc.cell? ⟨gb101, 0, none⟩ = some (.int .i64 a0_0) := (blk_cell BK101.out 0).trans rfl
    have hcz12_1 : wc.cell? ⟨gb101, 1, none⟩ = some (.int .i64 a0_1) := (blk_cell BK101.out 1).trans rfl
    have hcz12_2 : wc.cell? ⟨gb101, 2, none⟩ = some (.int .i64 a0_2) := (blk_cell BK101.out 2).trans rfl
    have hcz12_3 : wc.cell? ⟨gb101, 3, none⟩ = some (.int .i64 a0_3) := (blk_cell BK101.out 3).trans rfl
    have hcz12_4 : wc.cell? ⟨gb101, 4, none⟩ = some (.int .i64 a0_4) := (blk_cell BK101.out 4).trans rfl
    have hcz12_5 : wc.cell? ⟨gb101, 5, none⟩ = some (.int .i64 a0_5) := (blk_cell BK101.out 5).trans rfl
    have hcz12_6 : wc.cell? ⟨gb101, 6, none⟩ = some (.int .i64 a0_6) := (blk_cell BK101.out 6).trans rfl
    have hfz12_0 := blk_frozen BK101.out 0
    have hfz12_1 := blk_frozen BK101.out 1
    have hfz12_2 := blk_frozen BK101.out 2
    have hfz12_3 := blk_frozen BK101.out 3
    have hfz12_4 := blk_frozen BK101.out 4
    have hfz12_5 := blk_frozen BK101.out 5
    have hfz12_6 := blk_frozen BK101.out 6
    try go_wp2
    have n0_ := Aside0.mk (blk_drew BK101.out)
    have n1_ := Aside0.mk (blk_drew BK102.out)
    have n2_ := Aside0.mk (below_drew1 HB.out)
    clear BK101
    clear BK102
    clear HB
    have BK101 := n0_
    have BK102 := n1_
    have HB := n2_
    clear n0_ n1_ n2_
    refine start_ (n := 6) (S := fun w' => w'.cell? ⟨gb101, 0, none⟩ = some (.int .i64 a0_0) ∧ w'.cell? ⟨gb101, 1, none⟩ = some (.int .i64 a0_1) ∧ w'.cell? ⟨gb101, 2, none⟩ = some (.int .i64 a0_2) ∧ w'.cell? ⟨gb101, 3, none⟩ = some (.int .i64 a0_3) ∧ w'.cell? ⟨gb101, 4, none⟩ = some (.int .i64 a0_4) ∧ w'.cell? ⟨gb101, 5, none⟩ = some (.int .i64 a0_5) ∧ w'.cell? ⟨gb101, 6, none⟩ = some (.int .i64 a0_6)) (ds := []) #[ff,ff,ff,ff,ff,ff] (by kernel_rfl) rfl rfl ⟨(blk_cell BK101.out 0).trans rfl, (blk_cell BK101.out 1).trans rfl, (blk_cell BK101.out 2).trans rfl, (blk_cell BK101.out 3).trans rfl, (blk_cell BK101.out 4).trans rfl, (blk_cell BK101.out 5).trans rfl, (blk_cell BK101.out 6).trans rfl⟩ (fun hHeld => ?_)
    generalize wc.drew = w13 at BK101 BK102 HB hHeld ⊢
    refine pure_ (i := 0) (N := some 18) (v := ?_) (a' := ?_) #[tt,ff,ff,ff,ff,ff] rfl rfl (by kernel_rfl) (fun _ _ _ h => h) (Or.inl ⟨by rfl, ?_⟩) ?_ ?_
    rotate_left
    ·intro w'
     go_simp
     with_reducible rfl
    rotate_left
    ·simp only [Act.put, sQ0, sQ1, sQ2, i64_w]
     rfl
    refine pure_ (i := 1) (N := some 19) (v := ?_) (a' := ?_) #[tt,tt,ff,ff,ff,ff] rfl rfl (by kernel_rfl) (fun _ _ _ h => h) (Or.inl ⟨by rfl, ?_⟩) ?_ ?_
    rotate_left
    ·intro w'
     go_simp
     with_reducible rfl
    rotate_left
    ·simp only [Act.put, sQ0, sQ1, sQ2, i64_w]
     rfl
    refine take_ (i := 2) (N := some 20) (v := ?_) (a' := ?_) #[tt,tt,tt,ff,ff,ff] rfl rfl (by kernel_rfl) (fun _ _ _ h => h) (Or.inl ⟨by rfl, ?_⟩) hHeld ?_ ?_
    rotate_left
    ·rintro w' ⟨s0, s1, s2, s3, s4, s5, s6⟩
     go_simp
     with_reducible rfl
    rotate_left
    ·simp only [Act.put, sQ0, sQ1, sQ2, i64_w]
     rfl
    refine pure_ (i := 3) (N := some 21) (v := ?_) (a' := ?_) #[tt,tt,tt,tt,ff,ff] rfl rfl (by kernel_rfl) (fun _ _ _ h => h) (Or.inl ⟨by rfl, ?_⟩) ?_ ?_
    rotate_left
    ·intro w'
     go_simp
     with_reducible rfl
    rotate_left
    ·simp only [Act.put, sQ0, sQ1, sQ2, i64_w]
     rfl
    refine one_ (i := 4) (N := none) #[tt,tt,tt,tt,tt,ff] rfl rfl (by kernel_rfl) (by decide) (fun K hK => ?_)
    have hs14 : w13.cell? ⟨gb102, 0, none⟩ = some (.bool false) := (blk_cell BK102.out 0).trans rfl
    have hfs14 := blk_frozen BK102.out 0
    have hns14_0 := NB101_102.out
    have hms14_0 := NB102_101.out
    have hs15 : w13.cell? ⟨gb102, 1, none⟩ = some (.bool false) := (blk_cell BK102.out 1).trans rfl
    have hfs15 := blk_frozen BK102.out 1
    have hns15_0 := NB101_102.out
    have hms15_0 := NB102_101.out
    have hs16 : w13.cell? ⟨gb102, 2, none⟩ = some (.bool false) := (blk_cell BK102.out 2).trans rfl
    have hfs16 := blk_frozen BK102.out 2
    have hns16_0 := NB101_102.out
    have hms16_0 := NB102_101.out
    have hs17 : w13.cell? ⟨gb102, 3, none⟩ = some (.bool false) := (blk_cell BK102.out 3).trans rfl
    have hfs17 := blk_frozen BK102.out 3
    have hns17_0 := NB101_102.out
    have hms17_0 := NB102_101.out
    have hs18 : w13.cell? ⟨gb102, 4, none⟩ = some (.bool false) := (blk_cell BK102.out 4).trans rfl
    have hfs18 := blk_frozen BK102.out 4
    have hns18_0 := NB101_102.out
    have hms18_0 := NB102_101.out
    refine skip_ (w1 := ?_) (by rfl) rfl ?_ ?_
    rotate_left
    ·go_simp
     rfl
    refine hK.out _ _ ⟨((cell_far (p := ⟨gb102, _, none⟩) NB101_102.out _).trans (((cell_far (p := ⟨gb102, _, none⟩) NB101_102.out _).trans (((cell_far (p := ⟨gb102, _, none⟩) NB101_102.out _).trans (((cell_far (p := ⟨gb102, _, none⟩) NB101_102.out _).trans (((cell_far (p := ⟨gb102, _, none⟩) NB101_102.out _).trans (hHeld.1)))))))))), ((cell_far (p := ⟨gb102, _, none⟩) NB101_102.out _).trans (((cell_far (p := ⟨gb102, _, none⟩) NB101_102.out _).trans (((cell_far (p := ⟨gb102, _, none⟩) NB101_102.out _).trans (((cell_far (p := ⟨gb102, _, none⟩) NB101_102.out _).trans (((cell_far (p := ⟨gb102, _, none⟩) NB101_102.out _).trans (hHeld.2.1)))))))))), ((cell_far (p := ⟨gb102, _, none⟩) NB101_102.out _).trans (((cell_far (p := ⟨gb102, _, none⟩) NB101_102.out _).trans (((cell_far (p := ⟨gb102, _, none⟩) NB101_102.out _).trans (((cell_far (p := ⟨gb102, _, none⟩) NB101_102.out _).trans (((cell_far (p := ⟨gb102, _, none⟩) NB101_102.out _).trans (hHeld.2.2.1)))))))))), ((cell_far (p := ⟨gb102, _, none⟩) NB101_102.out _).trans (((cell_far (p := ⟨gb102, _, none⟩) NB101_102.out _).trans (((cell_far (p := ⟨gb102, _, none⟩) NB101_102.out _).trans (((cell_far (p := ⟨gb102, _, none⟩) NB101_102.out _).trans (((cell_far (p := ⟨gb102, _, none⟩) NB101_102.out _).trans (hHeld.2.2.2.1)))))))))), ((cell_far (p := ⟨gb102, _, none⟩) NB101_102.out _).trans (((cell_far (p := ⟨gb102, _, none⟩) NB101_102.out _).trans (((cell_far (p := ⟨gb102, _, none⟩) NB101_102.out _).trans (((cell_far (p := ⟨gb102, _, none⟩) NB101_102.out _).trans (((cell_far (p := ⟨gb102, _, none⟩) NB101_102.out _).trans (hHeld.2.2.2.2.1)))))))))), ((cell_far (p := ⟨gb102, _, none⟩) NB101_102.out _).trans (((cell_far (p := ⟨gb102, _, none⟩) NB101_102.out _).trans (((cell_far (p := ⟨gb102, _, none⟩) NB101_102.out _).trans (((cell_far (p := ⟨gb102, _, none⟩) NB101_102.out _).trans (((cell_far (p := ⟨gb102, _, none⟩) NB101_102.out _).trans (hHeld.2.2.2.2.2.1)))))))))), ((cell_far (p := ⟨gb102, _, none⟩) NB101_102.out _).trans (((cell_far (p := ⟨gb102, _, none⟩) NB101_102.out _).trans (((cell_far (p := ⟨gb102, _, none⟩) NB101_102.out _).trans (((cell_far (p := ⟨gb102, _, none⟩) NB101_102.out _).trans (((cell_far (p := ⟨gb102, _, none⟩) NB101_102.out _).trans (hHeld.2.2.2.2.2.2))))))))))⟩ (fun hHeld => ?_)
    clear hK K
    refine pure_ (i := 5) (N := some 3) (v := ?_) (a' := ?_) #[tt,tt,tt,tt,tt,tt] rfl rfl (by kernel_rfl) (fun _ _ _ h => h) (Or.inl ⟨by rfl, ?_⟩) ?_ ?_
    rotate_left
    ·intro w'
     go_simp
     with_reducible rfl
    rotate_left
    ·simp only [Act.put, sQ0, sQ1, sQ2, i64_w]
     rfl
    refine done_ (by kernel_rfl) ?_
    try go_wp2
    refine bodyPost_ret (results_ct rfl _ _ gb102 48 #[.bool false, .bool false, .bool true, .bool false, .bool false] (0, 0) _ rfl (by (with_reducible repeat (first | refine blk_drewN ?_ _ | refine blk_drew ?_ | refine blk_alloc ?_ _)); refine blk_put (cs := #[.bool false, .bool false, .bool true, .bool false, .bool false]) ?_ 4 _ rfl; (with_reducible repeat (first | refine blk_drewN ?_ _ | refine blk_drew ?_ | refine blk_alloc ?_ _)); refine blk_put (cs := #[.bool false, .bool false, .bool true, .bool false, .bool false]) ?_ 3 _ rfl; (with_reducible repeat (first | refine blk_drewN ?_ _ | refine blk_drew ?_ | refine blk_alloc ?_ _)); refine blk_put (cs := #[.bool false, .bool false, .bool false, .bool false, .bool false]) ?_ 2 _ rfl; (with_reducible repeat (first | refine blk_drewN ?_ _ | refine blk_drew ?_ | refine blk_alloc ?_ _)); refine blk_put (cs := #[.bool false, .bool false, .bool false, .bool false, .bool false]) ?_ 1 _ rfl; (with_reducible repeat (first | refine blk_drewN ?_ _ | refine blk_drew ?_ | refine blk_alloc ?_ _)); refine blk_put (cs := #[.bool false, .bool false, .bool false, .bool false, .bool false]) ?_ 0 _ rfl; (with_reducible repeat (first | refine blk_drewN ?_ _ | refine blk_drew ?_ | refine blk_alloc ?_ _)); exact BK102.out) Tryd.underlying48 rfl (by kernel_rfl)) rfl ?_
    exact ⟨by first | rfl | (simp [errW_none, errW_some] <;> rfl) | (simp [*, errW_none, errW_some] <;> rfl), by repeat (first | (with_reducible first | exact HB.out | apply below_alloc | apply pw_below_drewN | apply below_drew1 | refine below_set ?_ GE101.out | refine below_set ?_ GE102.out) | exact HB.out)⟩
   ·rw [if_neg c10] at H
    have c10b0 : (a0_0 == 1) = false := beq_eq_false_iff_ne.mpr c10
    have c10b1 : (a0_0 != 1) = true := bne_iff_ne.mpr c10
    by_cases c19 : a0_0 = 2
    ·rw [if_pos c19] at H
     have c19b0 : (a0_0 == 2) = true := beq_iff_eq.mpr c19
     have c19b1 : (a0_0 != 2) = false := bne_eq_false_iff_eq.mpr c19
     clear c19
     by_cases c20 : x4_1 = true
     ·subst c20
      have H1 : (some (true, true, false, (a0_2 == 4), false, true)) = some (r1, r2, r3, r4, r5, r6) := by rw [if_pos rfl] at H; exact H
      clear H
      have H := H1
      clear H1
      simp only [Option.some.injEq, Prod.mk.injEq] at H
      obtain ⟨rfl, rfl, rfl, rfl, rfl, rfl⟩ := H
      have hnb21 := NB101_102.out
      have hnc21 := NB102_101.out
      have hcz22_0 : wc.cell? ⟨gb101, 0, none⟩ = some (.int .i64 a0_0) := (blk_cell BK101.out 0).trans rfl
      have hcz22_1 : wc.cell? ⟨gb101, 1, none⟩ = some (.int .i64 a0_1) := (blk_cell BK101.out 1).trans rfl
      have hcz22_2 : wc.cell? ⟨gb101, 2, none⟩ = some (.int .i64 a0_2) := (blk_cell BK101.out 2).trans rfl
      have hcz22_3 : wc.cell? ⟨gb101, 3, none⟩ = some (.int .i64 a0_3) := (blk_cell BK101.out 3).trans rfl
      have hcz22_4 : wc.cell? ⟨gb101, 4, none⟩ = some (.int .i64 a0_4) := (blk_cell BK101.out 4).trans rfl
      have hcz22_5 : wc.cell? ⟨gb101, 5, none⟩ = some (.int .i64 a0_5) := (blk_cell BK101.out 5).trans rfl
      have hcz22_6 : wc.cell? ⟨gb101, 6, none⟩ = some (.int .i64 a0_6) := (blk_cell BK101.out 6).trans rfl
      have hfz22_0 := blk_frozen BK101.out 0
      have hfz22_1 := blk_frozen BK101.out 1
      have hfz22_2 := blk_frozen BK101.out 2
      have hfz22_3 := blk_frozen BK101.out 3
      have hfz22_4 := blk_frozen BK101.out 4
      have hfz22_5 := blk_frozen BK101.out 5
      have hfz22_6 := blk_frozen BK101.out 6
      try go_wp2
      have n0_ := Aside0.mk (blk_drew BK101.out)
      have n1_ := Aside0.mk (blk_drew BK102.out)
      have n2_ := Aside0.mk (below_drew1 HB.out)
      clear BK101
      clear BK102
      clear HB
      have BK101 := n0_
      have BK102 := n1_
      have HB := n2_
      clear n0_ n1_ n2_
      refine start_ (n := 13) (S := fun w' => w'.cell? ⟨gb101, 0, none⟩ = some (.int .i64 a0_0) ∧ w'.cell? ⟨gb101, 1, none⟩ = some (.int .i64 a0_1) ∧ w'.cell? ⟨gb101, 2, none⟩ = some (.int .i64 a0_2) ∧ w'.cell? ⟨gb101, 3, none⟩ = some (.int .i64 a0_3) ∧ w'.cell? ⟨gb101, 4, none⟩ = some (.int .i64 a0_4) ∧ w'.cell? ⟨gb101, 5, none⟩ = some (.int .i64 a0_5) ∧ w'.cell? ⟨gb101, 6, none⟩ = some (.int .i64 a0_6)) (ds := []) #[ff,ff,ff,ff,ff,ff,ff,ff,ff,ff,ff,ff,ff] (by kernel_rfl) rfl rfl ⟨(blk_cell BK101.out 0).trans rfl, (blk_cell BK101.out 1).trans rfl, (blk_cell BK101.out 2).trans rfl, (blk_cell BK101.out 3).trans rfl, (blk_cell BK101.out 4).trans rfl, (blk_cell BK101.out 5).trans rfl, (blk_cell BK101.out 6).trans rfl⟩ (fun hHeld => ?_); refine with_tabW link_shapeOf.tab6 link_shapeOf.bits6 (fun HT_ HW_ => ?_)
      generalize wc.drew = w23 at BK101 BK102 HB hHeld ⊢
      refine pure_ (i := 0) (N := some 24) (v := ?_) (a' := ?_) #[tt,ff,ff,ff,ff,ff,ff,ff,ff,ff,ff,ff,ff] rfl rfl (any_of HT_.out (by kernel_rfl)) (fun _ _ _ h => h) (Or.inl ⟨by rfl, ?_⟩) ?_ ?_
      rotate_left
      ·intro w'
       go_simp
       with_reducible rfl
      rotate_left
      ·simp only [Act.put, sQ0, sQ1, sQ2, i64_w]
       rfl
      refine pure_ (i := 1) (N := some 25) (v := ?_) (a' := ?_) #[tt,tt,ff,ff,ff,ff,ff,ff,ff,ff,ff,ff,ff] rfl rfl (any_of HT_.out (by kernel_rfl)) (fun _ _ _ h => h) (Or.inl ⟨by rfl, ?_⟩) ?_ ?_
      rotate_left
      ·intro w'
       go_simp
       with_reducible rfl
      rotate_left
      ·simp only [Act.put, sQ0, sQ1, sQ2, i64_w]
       rfl
      refine pure_ (i := 5) (N := some 29) (v := ?_) (a' := ?_) #[tt,tt,ff,ff,ff,tt,ff,ff,ff,ff,ff,ff,ff] rfl rfl (any_of HT_.out (by kernel_rfl)) (fun _ _ _ h => h) (Or.inl ⟨by rfl, ?_⟩) ?_ ?_
      rotate_left
      ·intro w'
       go_simp
       with_reducible rfl
      rotate_left
      ·simp only [Act.put, sQ0, sQ1, sQ2, i64_w]
       rfl
      refine pure_ (i := 6) (N := some 30) (v := ?_) (a' := ?_) #[tt,tt,ff,ff,ff,tt,tt,ff,ff,ff,ff,ff,ff] rfl rfl (any_of HT_.out (by kernel_rfl)) (fun _ _ _ h => h) (Or.inl ⟨by rfl, ?_⟩) ?_ ?_
      rotate_left
      ·intro w'
       go_simp
       with_reducible rfl
      rotate_left
      ·simp only [Act.put, sQ0, sQ1, sQ2, i64_w]
       rfl
      refine pure_ (i := 7) (N := some 31) (v := undef) (a' := ?_) #[tt,tt,ff,ff,ff,tt,tt,tt,ff,ff,ff,ff,ff] rfl rfl (any_of HT_.out (by kernel_rfl)) (fun _ _ _ h => h) (Or.inr ⟨by rfl, rfl⟩) ?_ ?_
      rotate_left
      ·simp only [Act.put, sQ0, sQ1, sQ2, i64_w]
       rfl
      refine pure_ (i := 8) (N := some 32) (v := undef) (a' := ?_) #[tt,tt,ff,ff,ff,tt,tt,tt,tt,ff,ff,ff,ff] rfl rfl (any_of HT_.out (by kernel_rfl)) (fun _ _ _ h => h) (Or.inr ⟨by rfl, rfl⟩) ?_ ?_
      rotate_left
      ·simp only [Act.put, sQ0, sQ1, sQ2, i64_w]
       rfl
      refine pure_ (i := 9) (N := some 33) (v := undef) (a' := ?_) #[tt,tt,ff,ff,ff,tt,tt,tt,tt,tt,ff,ff,ff] rfl rfl (any_of HT_.out (by kernel_rfl)) (fun _ _ _ h => h) (Or.inr ⟨by rfl, rfl⟩) ?_ ?_
      rotate_left
      ·simp only [Act.put, sQ0, sQ1, sQ2, i64_w]
       rfl
      refine pure_ (i := 10) (N := some 34) (v := ?_) (a' := ?_) #[tt,tt,ff,ff,ff,tt,tt,tt,tt,tt,tt,ff,ff] rfl rfl (any_of HT_.out (by kernel_rfl)) (fun _ _ _ h => h) (Or.inl ⟨by rfl, ?_⟩) ?_ ?_
      rotate_left
      ·intro w'
       go_simp
       with_reducible rfl
      rotate_left
      ·simp only [Act.put, sQ0, sQ1, sQ2, i64_w]
       rfl
      refine take_ (i := 2) (N := some 26) (v := ?_) (a' := ?_) #[tt,tt,tt,ff,ff,tt,tt,tt,tt,tt,tt,ff,ff] rfl rfl (take_ofW HT_.out HW_.out (by kernel_rfl)) (fun _ _ _ h => h) (Or.inl ⟨by rfl, ?_⟩) hHeld ?_ ?_
      rotate_left
      ·rintro w' ⟨s0, s1, s2, s3, s4, s5, s6⟩
       go_simp
       with_reducible rfl
      rotate_left
      ·simp only [Act.put, sQ0, sQ1, sQ2, i64_w]
       rfl
      refine pure_ (i := 3) (N := some 27) (v := ?_) (a' := ?_) #[tt,tt,tt,tt,ff,tt,tt,tt,tt,tt,tt,ff,ff] rfl rfl (any_of HT_.out (by kernel_rfl)) (fun _ _ _ h => h) (Or.inl ⟨by rfl, ?_⟩) ?_ ?_
      rotate_left
      ·intro w'
       go_simp
       with_reducible rfl
      rotate_left
      ·simp only [Act.put, sQ0, sQ1, sQ2, i64_w]
       rfl
      refine pure_ (i := 4) (N := some 28) (v := ?_) (a' := ?_) #[tt,tt,tt,tt,tt,tt,tt,tt,tt,tt,tt,ff,ff] rfl rfl (any_of HT_.out (by kernel_rfl)) (fun _ _ _ h => h) (Or.inl ⟨by rfl, ?_⟩) ?_ ?_
      rotate_left
      ·intro w'
       go_simp
       with_reducible rfl
      rotate_left
      ·simp only [Act.put, sQ0, sQ1, sQ2, i64_w]
       rfl
      refine one_ (i := 11) (N := none) #[tt,tt,tt,tt,tt,tt,tt,tt,tt,tt,tt,tt,ff] rfl rfl (one_of HT_.out (by kernel_rfl)) (by decide) (fun K hK => ?_)
      have hs24 : w23.cell? ⟨gb102, 0, none⟩ = some (.bool false) := (blk_cell BK102.out 0).trans rfl
      have hfs24 := blk_frozen BK102.out 0
      have hns24_0 := NB101_102.out
      have hms24_0 := NB102_101.out
      have hs25 : w23.cell? ⟨gb102, 1, none⟩ = some (.bool false) := (blk_cell BK102.out 1).trans rfl
      have hfs25 := blk_frozen BK102.out 1
      have hns25_0 := NB101_102.out
      have hms25_0 := NB102_101.out
      have hs26 : w23.cell? ⟨gb102, 2, none⟩ = some (.bool false) := (blk_cell BK102.out 2).trans rfl
      have hfs26 := blk_frozen BK102.out 2
      have hns26_0 := NB101_102.out
      have hms26_0 := NB102_101.out
      have hs27 : w23.cell? ⟨gb102, 3, none⟩ = some (.bool false) := (blk_cell BK102.out 3).trans rfl
      have hfs27 := blk_frozen BK102.out 3
      have hns27_0 := NB101_102.out
      have hms27_0 := NB102_101.out
      have hs28 : w23.cell? ⟨gb102, 4, none⟩ = some (.bool false) := (blk_cell BK102.out 4).trans rfl
      have hfs28 := blk_frozen BK102.out 4
      have hns28_0 := NB101_102.out
      have hms28_0 := NB102_101.out
      refine skip_ (w1 := ?_) (by rfl) rfl ?_ ?_
      rotate_left
      ·go_simp
       rfl
      refine hK.out _ _ ⟨((cell_far (p := ⟨gb102, _, none⟩) NB101_102.out _).trans (((cell_far (p := ⟨gb102, _, none⟩) NB101_102.out _).trans (((cell_far (p := ⟨gb102, _, none⟩) NB101_102.out _).trans (((cell_far (p := ⟨gb102, _, none⟩) NB101_102.out _).trans (((cell_far (p := ⟨gb102, _, none⟩) NB101_102.out _).trans (hHeld.1)))))))))), ((cell_far (p := ⟨gb102, _, none⟩) NB101_102.out _).trans (((cell_far (p := ⟨gb102, _, none⟩) NB101_102.out _).trans (((cell_far (p := ⟨gb102, _, none⟩) NB101_102.out _).trans (((cell_far (p := ⟨gb102, _, none⟩) NB101_102.out _).trans (((cell_far (p := ⟨gb102, _, none⟩) NB101_102.out _).trans (hHeld.2.1)))))))))), ((cell_far (p := ⟨gb102, _, none⟩) NB101_102.out _).trans (((cell_far (p := ⟨gb102, _, none⟩) NB101_102.out _).trans (((cell_far (p := ⟨gb102, _, none⟩) NB101_102.out _).trans (((cell_far (p := ⟨gb102, _, none⟩) NB101_102.out _).trans (((cell_far (p := ⟨gb102, _, none⟩) NB101_102.out _).trans (hHeld.2.2.1)))))))))), ((cell_far (p := ⟨gb102, _, none⟩) NB101_102.out _).trans (((cell_far (p := ⟨gb102, _, none⟩) NB101_102.out _).trans (((cell_far (p := ⟨gb102, _, none⟩) NB101_102.out _).trans (((cell_far (p := ⟨gb102, _, none⟩) NB101_102.out _).trans (((cell_far (p := ⟨gb102, _, none⟩) NB101_102.out _).trans (hHeld.2.2.2.1)))))))))), ((cell_far (p := ⟨gb102, _, none⟩) NB101_102.out _).trans (((cell_far (p := ⟨gb102, _, none⟩) NB101_102.out _).trans (((cell_far (p := ⟨gb102, _, none⟩) NB101_102.out _).trans (((cell_far (p := ⟨gb102, _, none⟩) NB101_102.out _).trans (((cell_far (p := ⟨gb102, _, none⟩) NB101_102.out _).trans (hHeld.2.2.2.2.1)))))))))), ((cell_far (p := ⟨gb102, _, none⟩) NB101_102.out _).trans (((cell_far (p := ⟨gb102, _, none⟩) NB101_102.out _).trans (((cell_far (p := ⟨gb102, _, none⟩) NB101_102.out _).trans (((cell_far (p := ⟨gb102, _, none⟩) NB101_102.out _).trans (((cell_far (p := ⟨gb102, _, none⟩) NB101_102.out _).trans (hHeld.2.2.2.2.2.1)))))))))), ((cell_far (p := ⟨gb102, _, none⟩) NB101_102.out _).trans (((cell_far (p := ⟨gb102, _, none⟩) NB101_102.out _).trans (((cell_far (p := ⟨gb102, _, none⟩) NB101_102.out _).trans (((cell_far (p := ⟨gb102, _, none⟩) NB101_102.out _).trans (((cell_far (p := ⟨gb102, _, none⟩) NB101_102.out _).trans (hHeld.2.2.2.2.2.2))))))))))⟩ (fun hHeld => ?_)
      clear hK K
      refine pure_ (i := 12) (N := some 3) (v := ?_) (a' := ?_) #[tt,tt,tt,tt,tt,tt,tt,tt,tt,tt,tt,tt,tt] rfl rfl (any_of HT_.out (by kernel_rfl)) (fun _ _ _ h => h) (Or.inl ⟨by rfl, ?_⟩) ?_ ?_
      rotate_left
      ·intro w'
       go_simp
       with_reducible rfl
      rotate_left
      ·simp only [Act.put, sQ0, sQ1, sQ2, i64_w]
       rfl
      refine done_ (done_of HT_.out (by kernel_rfl)) ?_
      try go_wp2
      refine bodyPost_ret (results_ct rfl _ _ gb102 48 #[.bool true, .bool true, .bool false, .bool (a0_2 == 4), .bool false] (0, 0) _ rfl (by (with_reducible repeat (first | refine blk_drewN ?_ _ | refine blk_drew ?_ | refine blk_alloc ?_ _)); refine blk_put (cs := #[.bool true, .bool true, .bool false, .bool (a0_2 == 4), .bool false]) ?_ 4 _ rfl; (with_reducible repeat (first | refine blk_drewN ?_ _ | refine blk_drew ?_ | refine blk_alloc ?_ _)); refine blk_put (cs := #[.bool true, .bool true, .bool false, .bool false, .bool false]) ?_ 3 _ rfl; (with_reducible repeat (first | refine blk_drewN ?_ _ | refine blk_drew ?_ | refine blk_alloc ?_ _)); refine blk_put (cs := #[.bool true, .bool true, .bool false, .bool false, .bool false]) ?_ 2 _ rfl; (with_reducible repeat (first | refine blk_drewN ?_ _ | refine blk_drew ?_ | refine blk_alloc ?_ _)); refine blk_put (cs := #[.bool true, .bool false, .bool false, .bool false, .bool false]) ?_ 1 _ rfl; (with_reducible repeat (first | refine blk_drewN ?_ _ | refine blk_drew ?_ | refine blk_alloc ?_ _)); refine blk_put (cs := #[.bool false, .bool false, .bool false, .bool false, .bool false]) ?_ 0 _ rfl; (with_reducible repeat (first | refine blk_drewN ?_ _ | refine blk_drew ?_ | refine blk_alloc ?_ _)); exact BK102.out) Tryd.underlying48 rfl (by kernel_rfl)) rfl ?_
      exact ⟨by first | rfl | (simp [errW_none, errW_some] <;> rfl) | (simp [*, errW_none, errW_some] <;> rfl), by repeat (first | (with_reducible first | exact HB.out | apply below_alloc | apply pw_below_drewN | apply below_drew1 | refine below_set ?_ GE101.out | refine below_set ?_ GE102.out) | exact HB.out)⟩
     ·replace c20 := Bool.eq_false_iff.mpr c20
      subst c20
      have H1 : (some (true, false, false, (a0_2 == 4), false, (a0_2 == 6))) = some (r1, r2, r3, r4, r5, r6) := by rw [if_neg (show ¬ (false = true) by decide)] at H; exact H
      clear H
      have H := H1
      clear H1
      simp only [Option.some.injEq, Prod.mk.injEq] at H
      obtain ⟨rfl, rfl, rfl, rfl, rfl, rfl⟩ := H
      have hnb29 := NB101_102.out
      have hnc29 := NB102_101.out
      have hcz30_0 : wc.cell? ⟨gb101, 0, none⟩ = some (.int .i64 a0_0) := (blk_cell BK101.out 0).trans rfl
      have hcz30_1 : wc.cell? ⟨gb101, 1, none⟩ = some (.int .i64 a0_1) := (blk_cell BK101.out 1).trans rfl
      have hcz30_2 : wc.cell? ⟨gb101, 2, none⟩ = some (.int .i64 a0_2) := (blk_cell BK101.out 2).trans rfl
      have hcz30_3 : wc.cell? ⟨gb101, 3, none⟩ = some (.int .i64 a0_3) := (blk_cell BK101.out 3).trans rfl
      have hcz30_4 : wc.cell? ⟨gb101, 4, none⟩ = some (.int .i64 a0_4) := (blk_cell BK101.out 4).trans rfl
      have hcz30_5 : wc.cell? ⟨gb101, 5, none⟩ = some (.int .i64 a0_5) := (blk_cell BK101.out 5).trans rfl
      have hcz30_6 : wc.cell? ⟨gb101, 6, none⟩ = some (.int .i64 a0_6) := (blk_cell BK101.out 6).trans rfl
      have hfz30_0 := blk_frozen BK101.out 0
      have hfz30_1 := blk_frozen BK101.out 1
      have hfz30_2 := blk_frozen BK101.out 2
      have hfz30_3 := blk_frozen BK101.out 3
      have hfz30_4 := blk_frozen BK101.out 4
      have hfz30_5 := blk_frozen BK101.out 5
      have hfz30_6 := blk_frozen BK101.out 6
      try go_wp2
      have n0_ := Aside0.mk (blk_drew BK101.out)
      have n1_ := Aside0.mk (blk_drew BK102.out)
      have n2_ := Aside0.mk (below_drew1 HB.out)
      clear BK101
      clear BK102
      clear HB
      have BK101 := n0_
      have BK102 := n1_
      have HB := n2_
      clear n0_ n1_ n2_
      refine start_ (n := 13) (S := fun w' => w'.cell? ⟨gb101, 0, none⟩ = some (.int .i64 a0_0) ∧ w'.cell? ⟨gb101, 1, none⟩ = some (.int .i64 a0_1) ∧ w'.cell? ⟨gb101, 2, none⟩ = some (.int .i64 a0_2) ∧ w'.cell? ⟨gb101, 3, none⟩ = some (.int .i64 a0_3) ∧ w'.cell? ⟨gb101, 4, none⟩ = some (.int .i64 a0_4) ∧ w'.cell? ⟨gb101, 5, none⟩ = some (.int .i64 a0_5) ∧ w'.cell? ⟨gb101, 6, none⟩ = some (.int .i64 a0_6)) (ds := []) #[ff,ff,ff,ff,ff,ff,ff,ff,ff,ff,ff,ff,ff] (by kernel_rfl) rfl rfl ⟨(blk_cell BK101.out 0).trans rfl, (blk_cell BK101.out 1).trans rfl, (blk_cell BK101.out 2).trans rfl, (blk_cell BK101.out 3).trans rfl, (blk_cell BK101.out 4).trans rfl, (blk_cell BK101.out 5).trans rfl, (blk_cell BK101.out 6).trans rfl⟩ (fun hHeld => ?_); refine with_tabW link_shapeOf.tab6 link_shapeOf.bits6 (fun HT_ HW_ => ?_)
      generalize wc.drew = w31 at BK101 BK102 HB hHeld ⊢
      refine pure_ (i := 0) (N := some 24) (v := ?_) (a' := ?_) #[tt,ff,ff,ff,ff,ff,ff,ff,ff,ff,ff,ff,ff] rfl rfl (any_of HT_.out (by kernel_rfl)) (fun _ _ _ h => h) (Or.inl ⟨by rfl, ?_⟩) ?_ ?_
      rotate_left
      ·intro w'
       go_simp
       with_reducible rfl
      rotate_left
      ·simp only [Act.put, sQ0, sQ1, sQ2, i64_w]
       rfl
      refine pure_ (i := 1) (N := some 25) (v := ?_) (a' := ?_) #[tt,tt,ff,ff,ff,ff,ff,ff,ff,ff,ff,ff,ff] rfl rfl (any_of HT_.out (by kernel_rfl)) (fun _ _ _ h => h) (Or.inl ⟨by rfl, ?_⟩) ?_ ?_
      rotate_left
      ·intro w'
       go_simp
       with_reducible rfl
      rotate_left
      ·simp only [Act.put, sQ0, sQ1, sQ2, i64_w]
       rfl
      refine pure_ (i := 5) (N := some 29) (v := ?_) (a' := ?_) #[tt,tt,ff,ff,ff,tt,ff,ff,ff,ff,ff,ff,ff] rfl rfl (any_of HT_.out (by kernel_rfl)) (fun _ _ _ h => h) (Or.inl ⟨by rfl, ?_⟩) ?_ ?_
      rotate_left
      ·intro w'
       go_simp
       with_reducible rfl
      rotate_left
      ·simp only [Act.put, sQ0, sQ1, sQ2, i64_w]
       rfl
      refine pure_ (i := 6) (N := some 30) (v := ?_) (a' := ?_) #[tt,tt,ff,ff,ff,tt,tt,ff,ff,ff,ff,ff,ff] rfl rfl (any_of HT_.out (by kernel_rfl)) (fun _ _ _ h => h) (Or.inl ⟨by rfl, ?_⟩) ?_ ?_
      rotate_left
      ·intro w'
       go_simp
       with_reducible rfl
      rotate_left
      ·simp only [Act.put, sQ0, sQ1, sQ2, i64_w]
       rfl
      refine pure_ (i := 7) (N := some 31) (v := ?_) (a' := ?_) #[tt,tt,ff,ff,ff,tt,tt,tt,ff,ff,ff,ff,ff] rfl rfl (any_of HT_.out (by kernel_rfl)) (fun _ _ _ h => h) (Or.inl ⟨by rfl, ?_⟩) ?_ ?_
      rotate_left
      ·intro w'
       go_simp
       with_reducible rfl
      rotate_left
      ·simp only [Act.put, sQ0, sQ1, sQ2, i64_w]
       rfl
      refine take_ (i := 2) (N := some 26) (v := ?_) (a' := ?_) #[tt,tt,tt,ff,ff,tt,tt,tt,ff,ff,ff,ff,ff] rfl rfl (take_ofW HT_.out HW_.out (by kernel_rfl)) (fun _ _ _ h => h) (Or.inl ⟨by rfl, ?_⟩) hHeld ?_ ?_
      rotate_left
      ·rintro w' ⟨s0, s1, s2, s3, s4, s5, s6⟩
       go_simp
       with_reducible rfl
      rotate_left
      ·simp only [Act.put, sQ0, sQ1, sQ2, i64_w]
       rfl
      refine pure_ (i := 3) (N := some 27) (v := ?_) (a' := ?_) #[tt,tt,tt,tt,ff,tt,tt,tt,ff,ff,ff,ff,ff] rfl rfl (any_of HT_.out (by kernel_rfl)) (fun _ _ _ h => h) (Or.inl ⟨by rfl, ?_⟩) ?_ ?_
      rotate_left
      ·intro w'
       go_simp
       with_reducible rfl
      rotate_left
      ·simp only [Act.put, sQ0, sQ1, sQ2, i64_w]
       rfl
      refine pure_ (i := 4) (N := some 28) (v := ?_) (a' := ?_) #[tt,tt,tt,tt,tt,tt,tt,tt,ff,ff,ff,ff,ff] rfl rfl (any_of HT_.out (by kernel_rfl)) (fun _ _ _ h => h) (Or.inl ⟨by rfl, ?_⟩) ?_ ?_
      rotate_left
      ·intro w'
       go_simp
       with_reducible rfl
      rotate_left
      ·simp only [Act.put, sQ0, sQ1, sQ2, i64_w]
       rfl
      refine take_ (i := 8) (N := some 32) (v := ?_) (a' := ?_) #[tt,tt,tt,tt,tt,tt,tt,tt,tt,ff,ff,ff,ff] rfl rfl (take_ofW HT_.out HW_.out (by kernel_rfl)) (fun _ _ _ h => h) (Or.inl ⟨by rfl, ?_⟩) hHeld ?_ ?_
      rotate_left
      ·rintro w' ⟨s0, s1, s2, s3, s4, s5, s6⟩
       go_simp
       with_reducible rfl
      rotate_left
      ·simp only [Act.put, sQ0, sQ1, sQ2, i64_w]
       rfl
      refine pure_ (i := 9) (N := some 33) (v := ?_) (a' := ?_) #[tt,tt,tt,tt,tt,tt,tt,tt,tt,tt,ff,ff,ff] rfl rfl (any_of HT_.out (by kernel_rfl)) (fun _ _ _ h => h) (Or.inl ⟨by rfl, ?_⟩) ?_ ?_
      rotate_left
      ·intro w'
       go_simp
       with_reducible rfl
      rotate_left
      ·simp only [Act.put, sQ0, sQ1, sQ2, i64_w]
       rfl
      refine pure_ (i := 10) (N := some 34) (v := ?_) (a' := ?_) #[tt,tt,tt,tt,tt,tt,tt,tt,tt,tt,tt,ff,ff] rfl rfl (any_of HT_.out (by kernel_rfl)) (fun _ _ _ h => h) (Or.inl ⟨by rfl, ?_⟩) ?_ ?_
      rotate_left
      ·intro w'
       go_simp
       with_reducible rfl
      rotate_left
      ·simp only [Act.put, sQ0, sQ1, sQ2, i64_w]
       rfl
      refine one_ (i := 11) (N := none) #[tt,tt,tt,tt,tt,tt,tt,tt,tt,tt,tt,tt,ff] rfl rfl (one_of HT_.out (by kernel_rfl)) (by decide) (fun K hK => ?_)
      have hs32 : w31.cell? ⟨gb102, 0, none⟩ = some (.bool false) := (blk_cell BK102.out 0).trans rfl
      have hfs32 := blk_frozen BK102.out 0
      have hns32_0 := NB101_102.out
      have hms32_0 := NB102_101.out
      have hs33 : w31.cell? ⟨gb102, 1, none⟩ = some (.bool false) := (blk_cell BK102.out 1).trans rfl
      have hfs33 := blk_frozen BK102.out 1
      have hns33_0 := NB101_102.out
      have hms33_0 := NB102_101.out
      have hs34 : w31.cell? ⟨gb102, 2, none⟩ = some (.bool false) := (blk_cell BK102.out 2).trans rfl
      have hfs34 := blk_frozen BK102.out 2
      have hns34_0 := NB101_102.out
      have hms34_0 := NB102_101.out
      have hs35 : w31.cell? ⟨gb102, 3, none⟩ = some (.bool false) := (blk_cell BK102.out 3).trans rfl
      have hfs35 := blk_frozen BK102.out 3
      have hns35_0 := NB101_102.out
      have hms35_0 := NB102_101.out
      have hs36 : w31.cell? ⟨gb102, 4, none⟩ = some (.bool false) := (blk_cell BK102.out 4).trans rfl
      have hfs36 := blk_frozen BK102.out 4
      have hns36_0 := NB101_102.out
      have hms36_0 := NB102_101.out
      refine skip_ (w1 := ?_) (by rfl) rfl ?_ ?_
      rotate_left
      ·go_simp
       rfl
      refine hK.out _ _ ⟨((cell_far (p := ⟨gb102, _, none⟩) NB101_102.out _).trans (((cell_far (p := ⟨gb102, _, none⟩) NB101_102.out _).trans (((cell_far (p := ⟨gb102, _, none⟩) NB101_102.out _).trans (((cell_far (p := ⟨gb102, _, none⟩) NB101_102.out _).trans (((cell_far (p := ⟨gb102, _, none⟩) NB101_102.out _).trans (hHeld.1)))))))))), ((cell_far (p := ⟨gb102, _, none⟩) NB101_102.out _).trans (((cell_far (p := ⟨gb102, _, none⟩) NB101_102.out _).trans (((cell_far (p := ⟨gb102, _, none⟩) NB101_102.out _).trans (((cell_far (p := ⟨gb102, _, none⟩) NB101_102.out _).trans (((cell_far (p := ⟨gb102, _, none⟩) NB101_102.out _).trans (hHeld.2.1)))))))))), ((cell_far (p := ⟨gb102, _, none⟩) NB101_102.out _).trans (((cell_far (p := ⟨gb102, _, none⟩) NB101_102.out _).trans (((cell_far (p := ⟨gb102, _, none⟩) NB101_102.out _).trans (((cell_far (p := ⟨gb102, _, none⟩) NB101_102.out _).trans (((cell_far (p := ⟨gb102, _, none⟩) NB101_102.out _).trans (hHeld.2.2.1)))))))))), ((cell_far (p := ⟨gb102, _, none⟩) NB101_102.out _).trans (((cell_far (p := ⟨gb102, _, none⟩) NB101_102.out _).trans (((cell_far (p := ⟨gb102, _, none⟩) NB101_102.out _).trans (((cell_far (p := ⟨gb102, _, none⟩) NB101_102.out _).trans (((cell_far (p := ⟨gb102, _, none⟩) NB101_102.out _).trans (hHeld.2.2.2.1)))))))))), ((cell_far (p := ⟨gb102, _, none⟩) NB101_102.out _).trans (((cell_far (p := ⟨gb102, _, none⟩) NB101_102.out _).trans (((cell_far (p := ⟨gb102, _, none⟩) NB101_102.out _).trans (((cell_far (p := ⟨gb102, _, none⟩) NB101_102.out _).trans (((cell_far (p := ⟨gb102, _, none⟩) NB101_102.out _).trans (hHeld.2.2.2.2.1)))))))))), ((cell_far (p := ⟨gb102, _, none⟩) NB101_102.out _).trans (((cell_far (p := ⟨gb102, _, none⟩) NB101_102.out _).trans (((cell_far (p := ⟨gb102, _, none⟩) NB101_102.out _).trans (((cell_far (p := ⟨gb102, _, none⟩) NB101_102.out _).trans (((cell_far (p := ⟨gb102, _, none⟩) NB101_102.out _).trans (hHeld.2.2.2.2.2.1)))))))))), ((cell_far (p := ⟨gb102, _, none⟩) NB101_102.out _).trans (((cell_far (p := ⟨gb102, _, none⟩) NB101_102.out _).trans (((cell_far (p := ⟨gb102, _, none⟩) NB101_102.out _).trans (((cell_far (p := ⟨gb102, _, none⟩) NB101_102.out _).trans (((cell_far (p := ⟨gb102, _, none⟩) NB101_102.out _).trans (hHeld.2.2.2.2.2.2))))))))))⟩ (fun hHeld => ?_)
      clear hK K
      refine pure_ (i := 12) (N := some 3) (v := ?_) (a' := ?_) #[tt,tt,tt,tt,tt,tt,tt,tt,tt,tt,tt,tt,tt] rfl rfl (any_of HT_.out (by kernel_rfl)) (fun _ _ _ h => h) (Or.inl ⟨by rfl, ?_⟩) ?_ ?_
      rotate_left
      ·intro w'
       go_simp
       with_reducible rfl
      rotate_left
      ·simp only [Act.put, sQ0, sQ1, sQ2, i64_w]
       rfl
      refine done_ (done_of HT_.out (by kernel_rfl)) ?_
      try go_wp2
      refine bodyPost_ret (results_ct rfl _ _ gb102 48 #[.bool true, .bool false, .bool false, .bool (a0_2 == 4), .bool false] (0, 0) _ rfl (by (with_reducible repeat (first | refine blk_drewN ?_ _ | refine blk_drew ?_ | refine blk_alloc ?_ _)); refine blk_put (cs := #[.bool true, .bool false, .bool false, .bool (a0_2 == 4), .bool false]) ?_ 4 _ rfl; (with_reducible repeat (first | refine blk_drewN ?_ _ | refine blk_drew ?_ | refine blk_alloc ?_ _)); refine blk_put (cs := #[.bool true, .bool false, .bool false, .bool false, .bool false]) ?_ 3 _ rfl; (with_reducible repeat (first | refine blk_drewN ?_ _ | refine blk_drew ?_ | refine blk_alloc ?_ _)); refine blk_put (cs := #[.bool true, .bool false, .bool false, .bool false, .bool false]) ?_ 2 _ rfl; (with_reducible repeat (first | refine blk_drewN ?_ _ | refine blk_drew ?_ | refine blk_alloc ?_ _)); refine blk_put (cs := #[.bool true, .bool false, .bool false, .bool false, .bool false]) ?_ 1 _ rfl; (with_reducible repeat (first | refine blk_drewN ?_ _ | refine blk_drew ?_ | refine blk_alloc ?_ _)); refine blk_put (cs := #[.bool false, .bool false, .bool false, .bool false, .bool false]) ?_ 0 _ rfl; (with_reducible repeat (first | refine blk_drewN ?_ _ | refine blk_drew ?_ | refine blk_alloc ?_ _)); exact BK102.out) Tryd.underlying48 rfl (by kernel_rfl)) rfl ?_
      exact ⟨by first | rfl | (simp [errW_none, errW_some] <;> rfl) | (simp [*, errW_none, errW_some] <;> rfl), by repeat (first | (with_reducible first | exact HB.out | apply below_alloc | apply pw_below_drewN | apply below_drew1 | refine below_set ?_ GE101.out | refine below_set ?_ GE102.out) | exact HB.out)⟩
    ·rw [if_neg c19] at H
     have c19b0 : (a0_0 == 2) = false := beq_eq_false_iff_ne.mpr c19
     have c19b1 : (a0_0 != 2) = true := bne_iff_ne.mpr c19
     by_cases c37 : a0_0 = 3
     ·rw [if_pos c37] at H
      have c37b0 : (a0_0 == 3) = true := beq_iff_eq.mpr c37
      have c37b1 : (a0_0 != 3) = false := bne_eq_false_iff_eq.mpr c37
      clear c37
      by_cases c38 : a0_6 = 1
      ·rw [if_pos c38] at H
       have c38b0 : (a0_6 == 1) = true := beq_iff_eq.mpr c38
       have c38b1 : (a0_6 != 1) = false := bne_eq_false_iff_eq.mpr c38
       clear c38
       simp only [Option.some.injEq, Prod.mk.injEq] at H
       obtain ⟨rfl, rfl, rfl, rfl, rfl, rfl⟩ := H
       have hnb39 := NB101_102.out
       have hnc39 := NB102_101.out
       have hcz40_0 : wc.cell? ⟨gb101, 0, none⟩ = some (.int .i64 a0_0) := (blk_cell BK101.out 0).trans rfl
       have hcz40_1 : wc.cell? ⟨gb101, 1, none⟩ = some (.int .i64 a0_1) := (blk_cell BK101.out 1).trans rfl
       have hcz40_2 : wc.cell? ⟨gb101, 2, none⟩ = some (.int .i64 a0_2) := (blk_cell BK101.out 2).trans rfl
       have hcz40_3 : wc.cell? ⟨gb101, 3, none⟩ = some (.int .i64 a0_3) := (blk_cell BK101.out 3).trans rfl
       have hcz40_4 : wc.cell? ⟨gb101, 4, none⟩ = some (.int .i64 a0_4) := (blk_cell BK101.out 4).trans rfl
       have hcz40_5 : wc.cell? ⟨gb101, 5, none⟩ = some (.int .i64 a0_5) := (blk_cell BK101.out 5).trans rfl
       have hcz40_6 : wc.cell? ⟨gb101, 6, none⟩ = some (.int .i64 a0_6) := (blk_cell BK101.out 6).trans rfl
       have hfz40_0 := blk_frozen BK101.out 0
       have hfz40_1 := blk_frozen BK101.out 1
       have hfz40_2 := blk_frozen BK101.out 2
       have hfz40_3 := blk_frozen BK101.out 3
       have hfz40_4 := blk_frozen BK101.out 4
       have hfz40_5 := blk_frozen BK101.out 5
       have hfz40_6 := blk_frozen BK101.out 6
       have hcz41_0 : wc.cell? ⟨gb102, 0, none⟩ = some (.bool false) := (blk_cell BK102.out 0).trans rfl
       have hcz41_1 : wc.cell? ⟨gb102, 1, none⟩ = some (.bool false) := (blk_cell BK102.out 1).trans rfl
       have hcz41_2 : wc.cell? ⟨gb102, 2, none⟩ = some (.bool false) := (blk_cell BK102.out 2).trans rfl
       have hcz41_3 : wc.cell? ⟨gb102, 3, none⟩ = some (.bool false) := (blk_cell BK102.out 3).trans rfl
       have hcz41_4 : wc.cell? ⟨gb102, 4, none⟩ = some (.bool false) := (blk_cell BK102.out 4).trans rfl
       have hfz41_0 := blk_frozen BK102.out 0
       have hfz41_1 := blk_frozen BK102.out 1
       have hfz41_2 := blk_frozen BK102.out 2
       have hfz41_3 := blk_frozen BK102.out 3
       have hfz41_4 := blk_frozen BK102.out 4
       go_wp2
       refine bodyPost_ret (results_ct rfl _ _ gb102 48 #[.bool true, .bool true, .bool (!true), .bool false, .bool true] (0, 0) _ rfl (by (with_reducible repeat (first | refine blk_drewN ?_ _ | refine blk_drew ?_ | refine blk_alloc ?_ _)); refine blk_put (cs := #[.bool true, .bool true, .bool (!true), .bool false, .bool false]) ?_ 4 _ rfl; (with_reducible repeat (first | refine blk_drewN ?_ _ | refine blk_drew ?_ | refine blk_alloc ?_ _)); refine blk_put (cs := #[.bool true, .bool true, .bool (!true), .bool false, .bool false]) ?_ 3 _ rfl; (with_reducible repeat (first | refine blk_drewN ?_ _ | refine blk_drew ?_ | refine blk_alloc ?_ _)); refine blk_put (cs := #[.bool true, .bool true, .bool false, .bool false, .bool false]) ?_ 2 _ rfl; (with_reducible repeat (first | refine blk_drewN ?_ _ | refine blk_drew ?_ | refine blk_alloc ?_ _)); refine blk_put (cs := #[.bool true, .bool false, .bool false, .bool false, .bool false]) ?_ 1 _ rfl; (with_reducible repeat (first | refine blk_drewN ?_ _ | refine blk_drew ?_ | refine blk_alloc ?_ _)); refine blk_put (cs := #[.bool false, .bool false, .bool false, .bool false, .bool false]) ?_ 0 _ rfl; (with_reducible repeat (first | refine blk_drewN ?_ _ | refine blk_drew ?_ | refine blk_alloc ?_ _)); exact BK102.out) Tryd.underlying48 rfl (by kernel_rfl)) rfl ?_
       exact ⟨by first | rfl | (simp [errW_none, errW_some] <;> rfl) | (simp [*, errW_none, errW_some] <;> rfl), by repeat (first | (with_reducible first | exact HB.out | apply below_alloc | apply pw_below_drewN | apply below_drew1 | refine below_set ?_ GE101.out | refine below_set ?_ GE102.out) | exact HB.out)⟩
      ·rw [if_neg c38] at H
       have c38b0 : (a0_6 == 1) = false := beq_eq_false_iff_ne.mpr c38
       have c38b1 : (a0_6 != 1) = true := bne_iff_ne.mpr c38
       by_cases c42 : a0_6 = 3
       ·rw [if_pos c42] at H
        have c42b0 : (a0_6 == 3) = true := beq_iff_eq.mpr c42
        have c42b1 : (a0_6 != 3) = false := bne_eq_false_iff_eq.mpr c42
        clear c42
        simp only [Option.some.injEq, Prod.mk.injEq] at H
        obtain ⟨rfl, rfl, rfl, rfl, rfl, rfl⟩ := H
        have hnb43 := NB101_102.out
        have hnc43 := NB102_101.out
        have hcz44_0 : wc.cell? ⟨gb101, 0, none⟩ = some (.int .i64 a0_0) := (blk_cell BK101.out 0).trans rfl
        have hcz44_1 : wc.cell? ⟨gb101, 1, none⟩ = some (.int .i64 a0_1) := (blk_cell BK101.out 1).trans rfl
        have hcz44_2 : wc.cell? ⟨gb101, 2, none⟩ = some (.int .i64 a0_2) := (blk_cell BK101.out 2).trans rfl
        have hcz44_3 : wc.cell? ⟨gb101, 3, none⟩ = some (.int .i64 a0_3) := (blk_cell BK101.out 3).trans rfl
        have hcz44_4 : wc.cell? ⟨gb101, 4, none⟩ = some (.int .i64 a0_4) := (blk_cell BK101.out 4).trans rfl
        have hcz44_5 : wc.cell? ⟨gb101, 5, none⟩ = some (.int .i64 a0_5) := (blk_cell BK101.out 5).trans rfl
        have hcz44_6 : wc.cell? ⟨gb101, 6, none⟩ = some (.int .i64 a0_6) := (blk_cell BK101.out 6).trans rfl
        have hfz44_0 := blk_frozen BK101.out 0
        have hfz44_1 := blk_frozen BK101.out 1
        have hfz44_2 := blk_frozen BK101.out 2
        have hfz44_3 := blk_frozen BK101.out 3
        have hfz44_4 := blk_frozen BK101.out 4
        have hfz44_5 := blk_frozen BK101.out 5
        have hfz44_6 := blk_frozen BK101.out 6
        have hcz45_0 : wc.cell? ⟨gb102, 0, none⟩ = some (.bool false) := (blk_cell BK102.out 0).trans rfl
        have hcz45_1 : wc.cell? ⟨gb102, 1, none⟩ = some (.bool false) := (blk_cell BK102.out 1).trans rfl
        have hcz45_2 : wc.cell? ⟨gb102, 2, none⟩ = some (.bool false) := (blk_cell BK102.out 2).trans rfl
        have hcz45_3 : wc.cell? ⟨gb102, 3, none⟩ = some (.bool false) := (blk_cell BK102.out 3).trans rfl
        have hcz45_4 : wc.cell? ⟨gb102, 4, none⟩ = some (.bool false) := (blk_cell BK102.out 4).trans rfl
        have hfz45_0 := blk_frozen BK102.out 0
        have hfz45_1 := blk_frozen BK102.out 1
        have hfz45_2 := blk_frozen BK102.out 2
        have hfz45_3 := blk_frozen BK102.out 3
        have hfz45_4 := blk_frozen BK102.out 4
        go_wp2
        refine bodyPost_ret (results_ct rfl _ _ gb102 48 #[.bool true, .bool true, .bool (!true), .bool false, .bool true] (0, 0) _ rfl (by (with_reducible repeat (first | refine blk_drewN ?_ _ | refine blk_drew ?_ | refine blk_alloc ?_ _)); refine blk_put (cs := #[.bool true, .bool true, .bool (!true), .bool false, .bool false]) ?_ 4 _ rfl; (with_reducible repeat (first | refine blk_drewN ?_ _ | refine blk_drew ?_ | refine blk_alloc ?_ _)); refine blk_put (cs := #[.bool true, .bool true, .bool (!true), .bool false, .bool false]) ?_ 3 _ rfl; (with_reducible repeat (first | refine blk_drewN ?_ _ | refine blk_drew ?_ | refine blk_alloc ?_ _)); refine blk_put (cs := #[.bool true, .bool true, .bool false, .bool false, .bool false]) ?_ 2 _ rfl; (with_reducible repeat (first | refine blk_drewN ?_ _ | refine blk_drew ?_ | refine blk_alloc ?_ _)); refine blk_put (cs := #[.bool true, .bool false, .bool false, .bool false, .bool false]) ?_ 1 _ rfl; (with_reducible repeat (first | refine blk_drewN ?_ _ | refine blk_drew ?_ | refine blk_alloc ?_ _)); refine blk_put (cs := #[.bool false, .bool false, .bool false, .bool false, .bool false]) ?_ 0 _ rfl; (with_reducible repeat (first | refine blk_drewN ?_ _ | refine blk_drew ?_ | refine blk_alloc ?_ _)); exact BK102.out) Tryd.underlying48 rfl (by kernel_rfl)) rfl ?_
        exact ⟨by first | rfl | (simp [errW_none, errW_some] <;> rfl) | (simp [*, errW_none, errW_some] <;> rfl), by repeat (first | (with_reducible first | exact HB.out | apply below_alloc | apply pw_below_drewN | apply below_drew1 | refine below_set ?_ GE101.out | refine below_set ?_ GE102.out) | exact HB.out)⟩
       ·rw [if_neg c42] at H
        have c42b0 : (a0_6 == 3) = false := beq_eq_false_iff_ne.mpr c42
        have c42b1 : (a0_6 != 3) = true := bne_iff_ne.mpr c42
        simp only [Option.some.injEq, Prod.mk.injEq] at H
        obtain ⟨rfl, rfl, rfl, rfl, rfl, rfl⟩ := H
        have hnb46 := NB101_102.out
        have hnc46 := NB102_101.out
        have hcz47_0 : wc.cell? ⟨gb101, 0, none⟩ = some (.int .i64 a0_0) := (blk_cell BK101.out 0).trans rfl
        have hcz47_1 : wc.cell? ⟨gb101, 1, none⟩ = some (.int .i64 a0_1) := (blk_cell BK101.out 1).trans rfl
        have hcz47_2 : wc.cell? ⟨gb101, 2, none⟩ = some (.int .i64 a0_2) := (blk_cell BK101.out 2).trans rfl
        have hcz47_3 : wc.cell? ⟨gb101, 3, none⟩ = some (.int .i64 a0_3) := (blk_cell BK101.out 3).trans rfl
        have hcz47_4 : wc.cell? ⟨gb101, 4, none⟩ = some (.int .i64 a0_4) := (blk_cell BK101.out 4).trans rfl
        have hcz47_5 : wc.cell? ⟨gb101, 5, none⟩ = some (.int .i64 a0_5) := (blk_cell BK101.out 5).trans rfl
        have hcz47_6 : wc.cell? ⟨gb101, 6, none⟩ = some (.int .i64 a0_6) := (blk_cell BK101.out 6).trans rfl
        have hfz47_0 := blk_frozen BK101.out 0
        have hfz47_1 := blk_frozen BK101.out 1
        have hfz47_2 := blk_frozen BK101.out 2
        have hfz47_3 := blk_frozen BK101.out 3
        have hfz47_4 := blk_frozen BK101.out 4
        have hfz47_5 := blk_frozen BK101.out 5
        have hfz47_6 := blk_frozen BK101.out 6
        have hcz48_0 : wc.cell? ⟨gb102, 0, none⟩ = some (.bool false) := (blk_cell BK102.out 0).trans rfl
        have hcz48_1 : wc.cell? ⟨gb102, 1, none⟩ = some (.bool false) := (blk_cell BK102.out 1).trans rfl
        have hcz48_2 : wc.cell? ⟨gb102, 2, none⟩ = some (.bool false) := (blk_cell BK102.out 2).trans rfl
        have hcz48_3 : wc.cell? ⟨gb102, 3, none⟩ = some (.bool false) := (blk_cell BK102.out 3).trans rfl
        have hcz48_4 : wc.cell? ⟨gb102, 4, none⟩ = some (.bool false) := (blk_cell BK102.out 4).trans rfl
        have hfz48_0 := blk_frozen BK102.out 0
        have hfz48_1 := blk_frozen BK102.out 1
        have hfz48_2 := blk_frozen BK102.out 2
        have hfz48_3 := blk_frozen BK102.out 3
        have hfz48_4 := blk_frozen BK102.out 4
        go_wp2
        refine bodyPost_ret (results_ct rfl _ _ gb102 48 #[.bool true, .bool true, .bool (!(a0_6 == 6)), .bool false, .bool true] (0, 0) _ rfl (by (with_reducible repeat (first | refine blk_drewN ?_ _ | refine blk_drew ?_ | refine blk_alloc ?_ _)); refine blk_put (cs := #[.bool true, .bool true, .bool (!(a0_6 == 6)), .bool false, .bool false]) ?_ 4 _ rfl; (with_reducible repeat (first | refine blk_drewN ?_ _ | refine blk_drew ?_ | refine blk_alloc ?_ _)); refine blk_put (cs := #[.bool true, .bool true, .bool (!(a0_6 == 6)), .bool false, .bool false]) ?_ 3 _ rfl; (with_reducible repeat (first | refine blk_drewN ?_ _ | refine blk_drew ?_ | refine blk_alloc ?_ _)); refine blk_put (cs := #[.bool true, .bool true, .bool false, .bool false, .bool false]) ?_ 2 _ rfl; (with_reducible repeat (first | refine blk_drewN ?_ _ | refine blk_drew ?_ | refine blk_alloc ?_ _)); refine blk_put (cs := #[.bool true, .bool false, .bool false, .bool false, .bool false]) ?_ 1 _ rfl; (with_reducible repeat (first | refine blk_drewN ?_ _ | refine blk_drew ?_ | refine blk_alloc ?_ _)); refine blk_put (cs := #[.bool false, .bool false, .bool false, .bool false, .bool false]) ?_ 0 _ rfl; (with_reducible repeat (first | refine blk_drewN ?_ _ | refine blk_drew ?_ | refine blk_alloc ?_ _)); exact BK102.out) Tryd.underlying48 rfl (by kernel_rfl)) rfl ?_
        exact ⟨by first | rfl | (simp [errW_none, errW_some] <;> rfl) | (simp [*, errW_none, errW_some] <;> rfl), by repeat (first | (with_reducible first | exact HB.out | apply below_alloc | apply pw_below_drewN | apply below_drew1 | refine below_set ?_ GE101.out | refine below_set ?_ GE102.out) | exact HB.out)⟩
     ·rw [if_neg c37] at H
      have c37b0 : (a0_0 == 3) = false := beq_eq_false_iff_ne.mpr c37
      have c37b1 : (a0_0 != 3) = true := bne_iff_ne.mpr c37
      by_cases c49 : a0_0 = 4
      ·rw [if_pos c49] at H
       have c49b0 : (a0_0 == 4) = true := beq_iff_eq.mpr c49
       have c49b1 : (a0_0 != 4) = false := bne_eq_false_iff_eq.mpr c49
       clear c49
       by_cases c50 : a0_2 = 7
       ·rw [if_pos c50] at H
        have c50b0 : (a0_2 == 7) = true := beq_iff_eq.mpr c50
        have c50b1 : (a0_2 != 7) = false := bne_eq_false_iff_eq.mpr c50
        clear c50
        simp only [Option.some.injEq, Prod.mk.injEq] at H
        obtain ⟨rfl, rfl, rfl, rfl, rfl, rfl⟩ := H
        have hnb51 := NB101_102.out
        have hnc51 := NB102_101.out
        have hcz52_0 : wc.cell? ⟨gb101, 0, none⟩ = some (.int .i64 a0_0) := (blk_cell BK101.out 0).trans rfl
        have hcz52_1 : wc.cell? ⟨gb101, 1, none⟩ = some (.int .i64 a0_1) := (blk_cell BK101.out 1).trans rfl
        have hcz52_2 : wc.cell? ⟨gb101, 2, none⟩ = some (.int .i64 a0_2) := (blk_cell BK101.out 2).trans rfl
        have hcz52_3 : wc.cell? ⟨gb101, 3, none⟩ = some (.int .i64 a0_3) := (blk_cell BK101.out 3).trans rfl
        have hcz52_4 : wc.cell? ⟨gb101, 4, none⟩ = some (.int .i64 a0_4) := (blk_cell BK101.out 4).trans rfl
        have hcz52_5 : wc.cell? ⟨gb101, 5, none⟩ = some (.int .i64 a0_5) := (blk_cell BK101.out 5).trans rfl
        have hcz52_6 : wc.cell? ⟨gb101, 6, none⟩ = some (.int .i64 a0_6) := (blk_cell BK101.out 6).trans rfl
        have hfz52_0 := blk_frozen BK101.out 0
        have hfz52_1 := blk_frozen BK101.out 1
        have hfz52_2 := blk_frozen BK101.out 2
        have hfz52_3 := blk_frozen BK101.out 3
        have hfz52_4 := blk_frozen BK101.out 4
        have hfz52_5 := blk_frozen BK101.out 5
        have hfz52_6 := blk_frozen BK101.out 6
        try go_wp2
        have n0_ := Aside0.mk (blk_drew BK101.out)
        have n1_ := Aside0.mk (blk_drew BK102.out)
        have n2_ := Aside0.mk (below_drew1 HB.out)
        clear BK101
        clear BK102
        clear HB
        have BK101 := n0_
        have BK102 := n1_
        have HB := n2_
        clear n0_ n1_ n2_
        refine start_ (n := 11) (S := fun w' => w'.cell? ⟨gb101, 0, none⟩ = some (.int .i64 a0_0) ∧ w'.cell? ⟨gb101, 1, none⟩ = some (.int .i64 a0_1) ∧ w'.cell? ⟨gb101, 2, none⟩ = some (.int .i64 a0_2) ∧ w'.cell? ⟨gb101, 3, none⟩ = some (.int .i64 a0_3) ∧ w'.cell? ⟨gb101, 4, none⟩ = some (.int .i64 a0_4) ∧ w'.cell? ⟨gb101, 5, none⟩ = some (.int .i64 a0_5) ∧ w'.cell? ⟨gb101, 6, none⟩ = some (.int .i64 a0_6)) (ds := []) #[ff,ff,ff,ff,ff,ff,ff,ff,ff,ff,ff] (by kernel_rfl) rfl rfl ⟨(blk_cell BK101.out 0).trans rfl, (blk_cell BK101.out 1).trans rfl, (blk_cell BK101.out 2).trans rfl, (blk_cell BK101.out 3).trans rfl, (blk_cell BK101.out 4).trans rfl, (blk_cell BK101.out 5).trans rfl, (blk_cell BK101.out 6).trans rfl⟩ (fun hHeld => ?_); refine with_tabW link_shapeOf.tab11 link_shapeOf.bits11 (fun HT_ HW_ => ?_)
        generalize wc.drew = w53 at BK101 BK102 HB hHeld ⊢
        refine pure_ (i := 0) (N := some 56) (v := ?_) (a' := ?_) #[tt,ff,ff,ff,ff,ff,ff,ff,ff,ff,ff] rfl rfl (any_of HT_.out (by kernel_rfl)) (fun _ _ _ h => h) (Or.inl ⟨by rfl, ?_⟩) ?_ ?_
        rotate_left
        ·intro w'
         go_simp
         with_reducible rfl
        rotate_left
        ·simp only [Act.put, sQ0, sQ1, sQ2, i64_w]
         rfl
        refine pure_ (i := 1) (N := some 57) (v := ?_) (a' := ?_) #[tt,tt,ff,ff,ff,ff,ff,ff,ff,ff,ff] rfl rfl (any_of HT_.out (by kernel_rfl)) (fun _ _ _ h => h) (Or.inl ⟨by rfl, ?_⟩) ?_ ?_
        rotate_left
        ·intro w'
         go_simp
         with_reducible rfl
        rotate_left
        ·simp only [Act.put, sQ0, sQ1, sQ2, i64_w]
         rfl
        refine take_ (i := 2) (N := some 58) (v := ?_) (a' := ?_) #[tt,tt,tt,ff,ff,ff,ff,ff,ff,ff,ff] rfl rfl (take_ofW HT_.out HW_.out (by kernel_rfl)) (fun _ _ _ h => h) (Or.inl ⟨by rfl, ?_⟩) hHeld ?_ ?_
        rotate_left
        ·rintro w' ⟨s0, s1, s2, s3, s4, s5, s6⟩
         go_simp
         with_reducible rfl
        rotate_left
        ·simp only [Act.put, sQ0, sQ1, sQ2, i64_w]
         rfl
        refine pure_ (i := 3) (N := some 59) (v := ?_) (a' := ?_) #[tt,tt,tt,tt,ff,ff,ff,ff,ff,ff,ff] rfl rfl (any_of HT_.out (by kernel_rfl)) (fun _ _ _ h => h) (Or.inl ⟨by rfl, ?_⟩) ?_ ?_
        rotate_left
        ·intro w'
         go_simp
         with_reducible rfl
        rotate_left
        ·simp only [Act.put, sQ0, sQ1, sQ2, i64_w]
         rfl
        refine pure_ (i := 4) (N := some 60) (v := ?_) (a' := ?_) #[tt,tt,tt,tt,tt,ff,ff,ff,ff,ff,ff] rfl rfl (any_of HT_.out (by kernel_rfl)) (fun _ _ _ h => h) (Or.inl ⟨by rfl, ?_⟩) ?_ ?_
        rotate_left
        ·intro w'
         go_simp
         with_reducible rfl
        rotate_left
        ·simp only [Act.put, sQ0, sQ1, sQ2, i64_w]
         rfl
        refine pure_ (i := 5) (N := some 61) (v := undef) (a' := ?_) #[tt,tt,tt,tt,tt,tt,ff,ff,ff,ff,ff] rfl rfl (any_of HT_.out (by kernel_rfl)) (fun _ _ _ h => h) (Or.inr ⟨by rfl, rfl⟩) ?_ ?_
        rotate_left
        ·simp only [Act.put, sQ0, sQ1, sQ2, i64_w]
         rfl
        refine pure_ (i := 6) (N := some 62) (v := undef) (a' := ?_) #[tt,tt,tt,tt,tt,tt,tt,ff,ff,ff,ff] rfl rfl (any_of HT_.out (by kernel_rfl)) (fun _ _ _ h => h) (Or.inr ⟨by rfl, rfl⟩) ?_ ?_
        rotate_left
        ·simp only [Act.put, sQ0, sQ1, sQ2, i64_w]
         rfl
        refine pure_ (i := 7) (N := some 63) (v := undef) (a' := ?_) #[tt,tt,tt,tt,tt,tt,tt,tt,ff,ff,ff] rfl rfl (any_of HT_.out (by kernel_rfl)) (fun _ _ _ h => h) (Or.inr ⟨by rfl, rfl⟩) ?_ ?_
        rotate_left
        ·simp only [Act.put, sQ0, sQ1, sQ2, i64_w]
         rfl
        refine pure_ (i := 8) (N := some 64) (v := ?_) (a' := ?_) #[tt,tt,tt,tt,tt,tt,tt,tt,tt,ff,ff] rfl rfl (any_of HT_.out (by kernel_rfl)) (fun _ _ _ h => h) (Or.inl ⟨by rfl, ?_⟩) ?_ ?_
        rotate_left
        ·intro w'
         go_simp
         with_reducible rfl
        rotate_left
        ·simp only [Act.put, sQ0, sQ1, sQ2, i64_w]
         rfl
        refine one_ (i := 9) (N := none) #[tt,tt,tt,tt,tt,tt,tt,tt,tt,tt,ff] rfl rfl (one_of HT_.out (by kernel_rfl)) (by decide) (fun K hK => ?_)
        have hs54 : w53.cell? ⟨gb102, 0, none⟩ = some (.bool false) := (blk_cell BK102.out 0).trans rfl
        have hfs54 := blk_frozen BK102.out 0
        have hns54_0 := NB101_102.out
        have hms54_0 := NB102_101.out
        have hs55 : w53.cell? ⟨gb102, 1, none⟩ = some (.bool false) := (blk_cell BK102.out 1).trans rfl
        have hfs55 := blk_frozen BK102.out 1
        have hns55_0 := NB101_102.out
        have hms55_0 := NB102_101.out
        have hs56 : w53.cell? ⟨gb102, 2, none⟩ = some (.bool false) := (blk_cell BK102.out 2).trans rfl
        have hfs56 := blk_frozen BK102.out 2
        have hns56_0 := NB101_102.out
        have hms56_0 := NB102_101.out
        have hs57 : w53.cell? ⟨gb102, 3, none⟩ = some (.bool false) := (blk_cell BK102.out 3).trans rfl
        have hfs57 := blk_frozen BK102.out 3
        have hns57_0 := NB101_102.out
        have hms57_0 := NB102_101.out
        have hs58 : w53.cell? ⟨gb102, 4, none⟩ = some (.bool false) := (blk_cell BK102.out 4).trans rfl
        have hfs58 := blk_frozen BK102.out 4
        have hns58_0 := NB101_102.out
        have hms58_0 := NB102_101.out
        refine skip_ (w1 := ?_) (by rfl) rfl ?_ ?_
        rotate_left
        ·go_simp
         rfl
        refine hK.out _ _ ⟨((cell_far (p := ⟨gb102, _, none⟩) NB101_102.out _).trans (((cell_far (p := ⟨gb102, _, none⟩) NB101_102.out _).trans (((cell_far (p := ⟨gb102, _, none⟩) NB101_102.out _).trans (((cell_far (p := ⟨gb102, _, none⟩) NB101_102.out _).trans (((cell_far (p := ⟨gb102, _, none⟩) NB101_102.out _).trans (hHeld.1)))))))))), ((cell_far (p := ⟨gb102, _, none⟩) NB101_102.out _).trans (((cell_far (p := ⟨gb102, _, none⟩) NB101_102.out _).trans (((cell_far (p := ⟨gb102, _, none⟩) NB101_102.out _).trans (((cell_far (p := ⟨gb102, _, none⟩) NB101_102.out _).trans (((cell_far (p := ⟨gb102, _, none⟩) NB101_102.out _).trans (hHeld.2.1)))))))))), ((cell_far (p := ⟨gb102, _, none⟩) NB101_102.out _).trans (((cell_far (p := ⟨gb102, _, none⟩) NB101_102.out _).trans (((cell_far (p := ⟨gb102, _, none⟩) NB101_102.out _).trans (((cell_far (p := ⟨gb102, _, none⟩) NB101_102.out _).trans (((cell_far (p := ⟨gb102, _, none⟩) NB101_102.out _).trans (hHeld.2.2.1)))))))))), ((cell_far (p := ⟨gb102, _, none⟩) NB101_102.out _).trans (((cell_far (p := ⟨gb102, _, none⟩) NB101_102.out _).trans (((cell_far (p := ⟨gb102, _, none⟩) NB101_102.out _).trans (((cell_far (p := ⟨gb102, _, none⟩) NB101_102.out _).trans (((cell_far (p := ⟨gb102, _, none⟩) NB101_102.out _).trans (hHeld.2.2.2.1)))))))))), ((cell_far (p := ⟨gb102, _, none⟩) NB101_102.out _).trans (((cell_far (p := ⟨gb102, _, none⟩) NB101_102.out _).trans (((cell_far (p := ⟨gb102, _, none⟩) NB101_102.out _).trans (((cell_far (p := ⟨gb102, _, none⟩) NB101_102.out _).trans (((cell_far (p := ⟨gb102, _, none⟩) NB101_102.out _).trans (hHeld.2.2.2.2.1)))))))))), ((cell_far (p := ⟨gb102, _, none⟩) NB101_102.out _).trans (((cell_far (p := ⟨gb102, _, none⟩) NB101_102.out _).trans (((cell_far (p := ⟨gb102, _, none⟩) NB101_102.out _).trans (((cell_far (p := ⟨gb102, _, none⟩) NB101_102.out _).trans (((cell_far (p := ⟨gb102, _, none⟩) NB101_102.out _).trans (hHeld.2.2.2.2.2.1)))))))))), ((cell_far (p := ⟨gb102, _, none⟩) NB101_102.out _).trans (((cell_far (p := ⟨gb102, _, none⟩) NB101_102.out _).trans (((cell_far (p := ⟨gb102, _, none⟩) NB101_102.out _).trans (((cell_far (p := ⟨gb102, _, none⟩) NB101_102.out _).trans (((cell_far (p := ⟨gb102, _, none⟩) NB101_102.out _).trans (hHeld.2.2.2.2.2.2))))))))))⟩ (fun hHeld => ?_)
        clear hK K
        refine pure_ (i := 10) (N := some 3) (v := ?_) (a' := ?_) #[tt,tt,tt,tt,tt,tt,tt,tt,tt,tt,tt] rfl rfl (any_of HT_.out (by kernel_rfl)) (fun _ _ _ h => h) (Or.inl ⟨by rfl, ?_⟩) ?_ ?_
        rotate_left
        ·intro w'
         go_simp
         with_reducible rfl
        rotate_left
        ·simp only [Act.put, sQ0, sQ1, sQ2, i64_w]
         rfl
        refine done_ (done_of HT_.out (by kernel_rfl)) ?_
        try go_wp2
        refine bodyPost_ret (results_ct rfl _ _ gb102 48 #[.bool true, .bool true, .bool true, .bool false, .bool false] (0, 0) _ rfl (by (with_reducible repeat (first | refine blk_drewN ?_ _ | refine blk_drew ?_ | refine blk_alloc ?_ _)); refine blk_put (cs := #[.bool true, .bool true, .bool true, .bool false, .bool false]) ?_ 4 _ rfl; (with_reducible repeat (first | refine blk_drewN ?_ _ | refine blk_drew ?_ | refine blk_alloc ?_ _)); refine blk_put (cs := #[.bool true, .bool true, .bool true, .bool false, .bool false]) ?_ 3 _ rfl; (with_reducible repeat (first | refine blk_drewN ?_ _ | refine blk_drew ?_ | refine blk_alloc ?_ _)); refine blk_put (cs := #[.bool true, .bool true, .bool false, .bool false, .bool false]) ?_ 2 _ rfl; (with_reducible repeat (first | refine blk_drewN ?_ _ | refine blk_drew ?_ | refine blk_alloc ?_ _)); refine blk_put (cs := #[.bool true, .bool false, .bool false, .bool false, .bool false]) ?_ 1 _ rfl; (with_reducible repeat (first | refine blk_drewN ?_ _ | refine blk_drew ?_ | refine blk_alloc ?_ _)); refine blk_put (cs := #[.bool false, .bool false, .bool false, .bool false, .bool false]) ?_ 0 _ rfl; (with_reducible repeat (first | refine blk_drewN ?_ _ | refine blk_drew ?_ | refine blk_alloc ?_ _)); exact BK102.out) Tryd.underlying48 rfl (by kernel_rfl)) rfl ?_
        exact ⟨by first | rfl | (simp [errW_none, errW_some] <;> rfl) | (simp [*, errW_none, errW_some] <;> rfl), by repeat (first | (with_reducible first | exact HB.out | apply below_alloc | apply pw_below_drewN | apply below_drew1 | refine below_set ?_ GE101.out | refine below_set ?_ GE102.out) | exact HB.out)⟩
       ·rw [if_neg c50] at H
        have c50b0 : (a0_2 == 7) = false := beq_eq_false_iff_ne.mpr c50
        have c50b1 : (a0_2 != 7) = true := bne_iff_ne.mpr c50
        simp only [Option.some.injEq, Prod.mk.injEq] at H
        obtain ⟨rfl, rfl, rfl, rfl, rfl, rfl⟩ := H
        have hnb59 := NB101_102.out
        have hnc59 := NB102_101.out
        have hcz60_0 : wc.cell? ⟨gb101, 0, none⟩ = some (.int .i64 a0_0) := (blk_cell BK101.out 0).trans rfl
        have hcz60_1 : wc.cell? ⟨gb101, 1, none⟩ = some (.int .i64 a0_1) := (blk_cell BK101.out 1).trans rfl
        have hcz60_2 : wc.cell? ⟨gb101, 2, none⟩ = some (.int .i64 a0_2) := (blk_cell BK101.out 2).trans rfl
        have hcz60_3 : wc.cell? ⟨gb101, 3, none⟩ = some (.int .i64 a0_3) := (blk_cell BK101.out 3).trans rfl
        have hcz60_4 : wc.cell? ⟨gb101, 4, none⟩ = some (.int .i64 a0_4) := (blk_cell BK101.out 4).trans rfl
        have hcz60_5 : wc.cell? ⟨gb101, 5, none⟩ = some (.int .i64 a0_5) := (blk_cell BK101.out 5).trans rfl
        have hcz60_6 : wc.cell? ⟨gb101, 6, none⟩ = some (.int .i64 a0_6) := (blk_cell BK101.out 6).trans rfl
        have hfz60_0 := blk_frozen BK101.out 0
        have hfz60_1 := blk_frozen BK101.out 1
        have hfz60_2 := blk_frozen BK101.out 2
        have hfz60_3 := blk_frozen BK101.out 3
        have hfz60_4 := blk_frozen BK101.out 4
        have hfz60_5 := blk_frozen BK101.out 5
        have hfz60_6 := blk_frozen BK101.out 6
        try go_wp2
        have n0_ := Aside0.mk (blk_drew BK101.out)
        have n1_ := Aside0.mk (blk_drew BK102.out)
        have n2_ := Aside0.mk (below_drew1 HB.out)
        clear BK101
        clear BK102
        clear HB
        have BK101 := n0_
        have BK102 := n1_
        have HB := n2_
        clear n0_ n1_ n2_
        refine start_ (n := 11) (S := fun w' => w'.cell? ⟨gb101, 0, none⟩ = some (.int .i64 a0_0) ∧ w'.cell? ⟨gb101, 1, none⟩ = some (.int .i64 a0_1) ∧ w'.cell? ⟨gb101, 2, none⟩ = some (.int .i64 a0_2) ∧ w'.cell? ⟨gb101, 3, none⟩ = some (.int .i64 a0_3) ∧ w'.cell? ⟨gb101, 4, none⟩ = some (.int .i64 a0_4) ∧ w'.cell? ⟨gb101, 5, none⟩ = some (.int .i64 a0_5) ∧ w'.cell? ⟨gb101, 6, none⟩ = some (.int .i64 a0_6)) (ds := []) #[ff,ff,ff,ff,ff,ff,ff,ff,ff,ff,ff] (by kernel_rfl) rfl rfl ⟨(blk_cell BK101.out 0).trans rfl, (blk_cell BK101.out 1).trans rfl, (blk_cell BK101.out 2).trans rfl, (blk_cell BK101.out 3).trans rfl, (blk_cell BK101.out 4).trans rfl, (blk_cell BK101.out 5).trans rfl, (blk_cell BK101.out 6).trans rfl⟩ (fun hHeld => ?_); refine with_tabW link_shapeOf.tab11 link_shapeOf.bits11 (fun HT_ HW_ => ?_)
        generalize wc.drew = w61 at BK101 BK102 HB hHeld ⊢
        refine pure_ (i := 0) (N := some 56) (v := ?_) (a' := ?_) #[tt,ff,ff,ff,ff,ff,ff,ff,ff,ff,ff] rfl rfl (any_of HT_.out (by kernel_rfl)) (fun _ _ _ h => h) (Or.inl ⟨by rfl, ?_⟩) ?_ ?_
        rotate_left
        ·intro w'
         go_simp
         with_reducible rfl
        rotate_left
        ·simp only [Act.put, sQ0, sQ1, sQ2, i64_w]
         rfl
        refine pure_ (i := 1) (N := some 57) (v := ?_) (a' := ?_) #[tt,tt,ff,ff,ff,ff,ff,ff,ff,ff,ff] rfl rfl (any_of HT_.out (by kernel_rfl)) (fun _ _ _ h => h) (Or.inl ⟨by rfl, ?_⟩) ?_ ?_
        rotate_left
        ·intro w'
         go_simp
         with_reducible rfl
        rotate_left
        ·simp only [Act.put, sQ0, sQ1, sQ2, i64_w]
         rfl
        refine take_ (i := 2) (N := some 58) (v := ?_) (a' := ?_) #[tt,tt,tt,ff,ff,ff,ff,ff,ff,ff,ff] rfl rfl (take_ofW HT_.out HW_.out (by kernel_rfl)) (fun _ _ _ h => h) (Or.inl ⟨by rfl, ?_⟩) hHeld ?_ ?_
        rotate_left
        ·rintro w' ⟨s0, s1, s2, s3, s4, s5, s6⟩
         go_simp
         with_reducible rfl
        rotate_left
        ·simp only [Act.put, sQ0, sQ1, sQ2, i64_w]
         rfl
        refine pure_ (i := 3) (N := some 59) (v := ?_) (a' := ?_) #[tt,tt,tt,tt,ff,ff,ff,ff,ff,ff,ff] rfl rfl (any_of HT_.out (by kernel_rfl)) (fun _ _ _ h => h) (Or.inl ⟨by rfl, ?_⟩) ?_ ?_
        rotate_left
        ·intro w'
         go_simp
         with_reducible rfl
        rotate_left
        ·simp only [Act.put, sQ0, sQ1, sQ2, i64_w]
         rfl
        refine pure_ (i := 4) (N := some 60) (v := ?_) (a' := ?_) #[tt,tt,tt,tt,tt,ff,ff,ff,ff,ff,ff] rfl rfl (any_of HT_.out (by kernel_rfl)) (fun _ _ _ h => h) (Or.inl ⟨by rfl, ?_⟩) ?_ ?_
        rotate_left
        ·intro w'
         go_simp
         with_reducible rfl
        rotate_left
        ·simp only [Act.put, sQ0, sQ1, sQ2, i64_w]
         rfl
        refine pure_ (i := 5) (N := some 61) (v := ?_) (a' := ?_) #[tt,tt,tt,tt,tt,tt,ff,ff,ff,ff,ff] rfl rfl (any_of HT_.out (by kernel_rfl)) (fun _ _ _ h => h) (Or.inl ⟨by rfl, ?_⟩) ?_ ?_
        rotate_left
        ·intro w'
         go_simp
         with_reducible rfl
        rotate_left
        ·simp only [Act.put, sQ0, sQ1, sQ2, i64_w]
         rfl
        refine take_ (i := 6) (N := some 62) (v := ?_) (a' := ?_) #[tt,tt,tt,tt,tt,tt,tt,ff,ff,ff,ff] rfl rfl (take_ofW HT_.out HW_.out (by kernel_rfl)) (fun _ _ _ h => h) (Or.inl ⟨by rfl, ?_⟩) hHeld ?_ ?_
        rotate_left
        ·rintro w' ⟨s0, s1, s2, s3, s4, s5, s6⟩
         go_simp
         with_reducible rfl
        rotate_left
        ·simp only [Act.put, sQ0, sQ1, sQ2, i64_w]
         rfl
        refine pure_ (i := 7) (N := some 63) (v := ?_) (a' := ?_) #[tt,tt,tt,tt,tt,tt,tt,tt,ff,ff,ff] rfl rfl (any_of HT_.out (by kernel_rfl)) (fun _ _ _ h => h) (Or.inl ⟨by rfl, ?_⟩) ?_ ?_
        rotate_left
        ·intro w'
         go_simp
         with_reducible rfl
        rotate_left
        ·simp only [Act.put, sQ0, sQ1, sQ2, i64_w]
         rfl
        refine pure_ (i := 8) (N := some 64) (v := ?_) (a' := ?_) #[tt,tt,tt,tt,tt,tt,tt,tt,tt,ff,ff] rfl rfl (any_of HT_.out (by kernel_rfl)) (fun _ _ _ h => h) (Or.inl ⟨by rfl, ?_⟩) ?_ ?_
        rotate_left
        ·intro w'
         go_simp
         with_reducible rfl
        rotate_left
        ·simp only [Act.put, sQ0, sQ1, sQ2, i64_w]
         rfl
        refine one_ (i := 9) (N := none) #[tt,tt,tt,tt,tt,tt,tt,tt,tt,tt,ff] rfl rfl (one_of HT_.out (by kernel_rfl)) (by decide) (fun K hK => ?_)
        have hs62 : w61.cell? ⟨gb102, 0, none⟩ = some (.bool false) := (blk_cell BK102.out 0).trans rfl
        have hfs62 := blk_frozen BK102.out 0
        have hns62_0 := NB101_102.out
        have hms62_0 := NB102_101.out
        have hs63 : w61.cell? ⟨gb102, 1, none⟩ = some (.bool false) := (blk_cell BK102.out 1).trans rfl
        have hfs63 := blk_frozen BK102.out 1
        have hns63_0 := NB101_102.out
        have hms63_0 := NB102_101.out
        have hs64 : w61.cell? ⟨gb102, 2, none⟩ = some (.bool false) := (blk_cell BK102.out 2).trans rfl
        have hfs64 := blk_frozen BK102.out 2
        have hns64_0 := NB101_102.out
        have hms64_0 := NB102_101.out
        have hs65 : w61.cell? ⟨gb102, 3, none⟩ = some (.bool false) := (blk_cell BK102.out 3).trans rfl
        have hfs65 := blk_frozen BK102.out 3
        have hns65_0 := NB101_102.out
        have hms65_0 := NB102_101.out
        have hs66 : w61.cell? ⟨gb102, 4, none⟩ = some (.bool false) := (blk_cell BK102.out 4).trans rfl
        have hfs66 := blk_frozen BK102.out 4
        have hns66_0 := NB101_102.out
        have hms66_0 := NB102_101.out
        refine skip_ (w1 := ?_) (by rfl) rfl ?_ ?_
        rotate_left
        ·go_simp
         rfl
        refine hK.out _ _ ⟨((cell_far (p := ⟨gb102, _, none⟩) NB101_102.out _).trans (((cell_far (p := ⟨gb102, _, none⟩) NB101_102.out _).trans (((cell_far (p := ⟨gb102, _, none⟩) NB101_102.out _).trans (((cell_far (p := ⟨gb102, _, none⟩) NB101_102.out _).trans (((cell_far (p := ⟨gb102, _, none⟩) NB101_102.out _).trans (hHeld.1)))))))))), ((cell_far (p := ⟨gb102, _, none⟩) NB101_102.out _).trans (((cell_far (p := ⟨gb102, _, none⟩) NB101_102.out _).trans (((cell_far (p := ⟨gb102, _, none⟩) NB101_102.out _).trans (((cell_far (p := ⟨gb102, _, none⟩) NB101_102.out _).trans (((cell_far (p := ⟨gb102, _, none⟩) NB101_102.out _).trans (hHeld.2.1)))))))))), ((cell_far (p := ⟨gb102, _, none⟩) NB101_102.out _).trans (((cell_far (p := ⟨gb102, _, none⟩) NB101_102.out _).trans (((cell_far (p := ⟨gb102, _, none⟩) NB101_102.out _).trans (((cell_far (p := ⟨gb102, _, none⟩) NB101_102.out _).trans (((cell_far (p := ⟨gb102, _, none⟩) NB101_102.out _).trans (hHeld.2.2.1)))))))))), ((cell_far (p := ⟨gb102, _, none⟩) NB101_102.out _).trans (((cell_far (p := ⟨gb102, _, none⟩) NB101_102.out _).trans (((cell_far (p := ⟨gb102, _, none⟩) NB101_102.out _).trans (((cell_far (p := ⟨gb102, _, none⟩) NB101_102.out _).trans (((cell_far (p := ⟨gb102, _, none⟩) NB101_102.out _).trans (hHeld.2.2.2.1)))))))))), ((cell_far (p := ⟨gb102, _, none⟩) NB101_102.out _).trans (((cell_far (p := ⟨gb102, _, none⟩) NB101_102.out _).trans (((cell_far (p := ⟨gb102, _, none⟩) NB101_102.out _).trans (((cell_far (p := ⟨gb102, _, none⟩) NB101_102.out _).trans (((cell_far (p := ⟨gb102, _, none⟩) NB101_102.out _).trans (hHeld.2.2.2.2.1)))))))))), ((cell_far (p := ⟨gb102, _, none⟩) NB101_102.out _).trans (((cell_far (p := ⟨gb102, _, none⟩) NB101_102.out _).trans (((cell_far (p := ⟨gb102, _, none⟩) NB101_102.out _).trans (((cell_far (p := ⟨gb102, _, none⟩) NB101_102.out _).trans (((cell_far (p := ⟨gb102, _, none⟩) NB101_102.out _).trans (hHeld.2.2.2.2.2.1)))))))))), ((cell_far (p := ⟨gb102, _, none⟩) NB101_102.out _).trans (((cell_far (p := ⟨gb102, _, none⟩) NB101_102.out _).trans (((cell_far (p := ⟨gb102, _, none⟩) NB101_102.out _).trans (((cell_far (p := ⟨gb102, _, none⟩) NB101_102.out _).trans (((cell_far (p := ⟨gb102, _, none⟩) NB101_102.out _).trans (hHeld.2.2.2.2.2.2))))))))))⟩ (fun hHeld => ?_)
        clear hK K
        refine pure_ (i := 10) (N := some 3) (v := ?_) (a' := ?_) #[tt,tt,tt,tt,tt,tt,tt,tt,tt,tt,tt] rfl rfl (any_of HT_.out (by kernel_rfl)) (fun _ _ _ h => h) (Or.inl ⟨by rfl, ?_⟩) ?_ ?_
        rotate_left
        ·intro w'
         go_simp
         with_reducible rfl
        rotate_left
        ·simp only [Act.put, sQ0, sQ1, sQ2, i64_w]
         rfl
        refine done_ (done_of HT_.out (by kernel_rfl)) ?_
        try go_wp2
        refine bodyPost_ret (results_ct rfl _ _ gb102 48 #[.bool true, .bool true, .bool true, .bool false, .bool false] (0, 0) _ rfl (by (with_reducible repeat (first | refine blk_drewN ?_ _ | refine blk_drew ?_ | refine blk_alloc ?_ _)); refine blk_put (cs := #[.bool true, .bool true, .bool true, .bool false, .bool false]) ?_ 4 _ rfl; (with_reducible repeat (first | refine blk_drewN ?_ _ | refine blk_drew ?_ | refine blk_alloc ?_ _)); refine blk_put (cs := #[.bool true, .bool true, .bool true, .bool false, .bool false]) ?_ 3 _ rfl; (with_reducible repeat (first | refine blk_drewN ?_ _ | refine blk_drew ?_ | refine blk_alloc ?_ _)); refine blk_put (cs := #[.bool true, .bool true, .bool false, .bool false, .bool false]) ?_ 2 _ rfl; (with_reducible repeat (first | refine blk_drewN ?_ _ | refine blk_drew ?_ | refine blk_alloc ?_ _)); refine blk_put (cs := #[.bool true, .bool false, .bool false, .bool false, .bool false]) ?_ 1 _ rfl; (with_reducible repeat (first | refine blk_drewN ?_ _ | refine blk_drew ?_ | refine blk_alloc ?_ _)); refine blk_put (cs := #[.bool false, .bool false, .bool false, .bool false, .bool false]) ?_ 0 _ rfl; (with_reducible repeat (first | refine blk_drewN ?_ _ | refine blk_drew ?_ | refine blk_alloc ?_ _)); exact BK102.out) Tryd.underlying48 rfl (by kernel_rfl)) rfl ?_
        exact ⟨by first | rfl | (simp [errW_none, errW_some] <;> rfl) | (simp [*, errW_none, errW_some] <;> rfl), by repeat (first | (with_reducible first | exact HB.out | apply below_alloc | apply pw_below_drewN | apply below_drew1 | refine below_set ?_ GE101.out | refine below_set ?_ GE102.out) | exact HB.out)⟩
      ·rw [if_neg c49] at H
       have c49b0 : (a0_0 == 4) = false := beq_eq_false_iff_ne.mpr c49
       have c49b1 : (a0_0 != 4) = true := bne_iff_ne.mpr c49
       by_cases c67 : a0_0 = 5
       ·rw [if_pos c67] at H
        have c67b0 : (a0_0 == 5) = true := beq_iff_eq.mpr c67
        have c67b1 : (a0_0 != 5) = false := bne_eq_false_iff_eq.mpr c67
        clear c67
        by_cases c68 : x4_1 = true
        ·subst c68
         have H1 : (some (true, false, false, false, true, true)) = some (r1, r2, r3, r4, r5, r6) := by rw [if_pos rfl] at H; exact H
         clear H
         have H := H1
         clear H1
         simp only [Option.some.injEq, Prod.mk.injEq] at H
         obtain ⟨rfl, rfl, rfl, rfl, rfl, rfl⟩ := H
         have hnb69 := NB101_102.out
         have hnc69 := NB102_101.out
         have hcz70_0 : wc.cell? ⟨gb101, 0, none⟩ = some (.int .i64 a0_0) := (blk_cell BK101.out 0).trans rfl
         have hcz70_1 : wc.cell? ⟨gb101, 1, none⟩ = some (.int .i64 a0_1) := (blk_cell BK101.out 1).trans rfl
         have hcz70_2 : wc.cell? ⟨gb101, 2, none⟩ = some (.int .i64 a0_2) := (blk_cell BK101.out 2).trans rfl
         have hcz70_3 : wc.cell? ⟨gb101, 3, none⟩ = some (.int .i64 a0_3) := (blk_cell BK101.out 3).trans rfl
         have hcz70_4 : wc.cell? ⟨gb101, 4, none⟩ = some (.int .i64 a0_4) := (blk_cell BK101.out 4).trans rfl
         have hcz70_5 : wc.cell? ⟨gb101, 5, none⟩ = some (.int .i64 a0_5) := (blk_cell BK101.out 5).trans rfl
         have hcz70_6 : wc.cell? ⟨gb101, 6, none⟩ = some (.int .i64 a0_6) := (blk_cell BK101.out 6).trans rfl
         have hfz70_0 := blk_frozen BK101.out 0
         have hfz70_1 := blk_frozen BK101.out 1
         have hfz70_2 := blk_frozen BK101.out 2
         have hfz70_3 := blk_frozen BK101.out 3
         have hfz70_4 := blk_frozen BK101.out 4
         have hfz70_5 := blk_frozen BK101.out 5
         have hfz70_6 := blk_frozen BK101.out 6
         try go_wp2
         have n0_ := Aside0.mk (blk_drew BK101.out)
         have n1_ := Aside0.mk (blk_drew BK102.out)
         have n2_ := Aside0.mk (below_drew1 HB.out)
         clear BK101
         clear BK102
         clear HB
         have BK101 := n0_
         have BK102 := n1_
         have HB := n2_
         clear n0_ n1_ n2_
         refine start_ (n := 10) (S := fun w' => True) (ds := []) #[ff,ff,ff,ff,ff,ff,ff,ff,ff,ff] (by kernel_rfl) rfl rfl trivial (fun hHeld => ?_); refine with_tabW link_shapeOf.tab13 link_shapeOf.bits13 (fun HT_ HW_ => ?_)
         generalize wc.drew = w71 at BK101 BK102 HB hHeld ⊢
         refine pure_ (i := 0) (N := some 67) (v := ?_) (a' := ?_) #[tt,ff,ff,ff,ff,ff,ff,ff,ff,ff] rfl rfl (any_of HT_.out (by kernel_rfl)) (fun _ _ _ h => h) (Or.inl ⟨by rfl, ?_⟩) ?_ ?_
         rotate_left
         ·intro w'
          go_simp
          with_reducible rfl
         rotate_left
         ·simp only [Act.put, sQ0, sQ1, sQ2, i64_w]
          rfl
         refine pure_ (i := 1) (N := some 68) (v := ?_) (a' := ?_) #[tt,tt,ff,ff,ff,ff,ff,ff,ff,ff] rfl rfl (any_of HT_.out (by kernel_rfl)) (fun _ _ _ h => h) (Or.inl ⟨by rfl, ?_⟩) ?_ ?_
         rotate_left
         ·intro w'
          go_simp
          with_reducible rfl
         rotate_left
         ·simp only [Act.put, sQ0, sQ1, sQ2, i64_w]
          rfl
         refine pure_ (i := 2) (N := some 69) (v := ?_) (a' := ?_) #[tt,tt,tt,ff,ff,ff,ff,ff,ff,ff] rfl rfl (any_of HT_.out (by kernel_rfl)) (fun _ _ _ h => h) (Or.inl ⟨by rfl, ?_⟩) ?_ ?_
         rotate_left
         ·intro w'
          go_simp
          with_reducible rfl
         rotate_left
         ·simp only [Act.put, sQ0, sQ1, sQ2, i64_w]
          rfl
         refine pure_ (i := 3) (N := some 70) (v := ?_) (a' := ?_) #[tt,tt,tt,tt,ff,ff,ff,ff,ff,ff] rfl rfl (any_of HT_.out (by kernel_rfl)) (fun _ _ _ h => h) (Or.inl ⟨by rfl, ?_⟩) ?_ ?_
         rotate_left
         ·intro w'
          go_simp
          with_reducible rfl
         rotate_left
         ·simp only [Act.put, sQ0, sQ1, sQ2, i64_w]
          rfl
         refine pure_ (i := 4) (N := some 71) (v := undef) (a' := ?_) #[tt,tt,tt,tt,tt,ff,ff,ff,ff,ff] rfl rfl (any_of HT_.out (by kernel_rfl)) (fun _ _ _ h => h) (Or.inr ⟨by rfl, rfl⟩) ?_ ?_
         rotate_left
         ·simp only [Act.put, sQ0, sQ1, sQ2, i64_w]
          rfl
         refine pure_ (i := 5) (N := some 72) (v := undef) (a' := ?_) #[tt,tt,tt,tt,tt,tt,ff,ff,ff,ff] rfl rfl (any_of HT_.out (by kernel_rfl)) (fun _ _ _ h => h) (Or.inr ⟨by rfl, rfl⟩) ?_ ?_
         rotate_left
         ·simp only [Act.put, sQ0, sQ1, sQ2, i64_w]
          rfl
         refine pure_ (i := 6) (N := some 73) (v := undef) (a' := ?_) #[tt,tt,tt,tt,tt,tt,tt,ff,ff,ff] rfl rfl (any_of HT_.out (by kernel_rfl)) (fun _ _ _ h => h) (Or.inr ⟨by rfl, rfl⟩) ?_ ?_
         rotate_left
         ·simp only [Act.put, sQ0, sQ1, sQ2, i64_w]
          rfl
         refine pure_ (i := 7) (N := some 74) (v := ?_) (a' := ?_) #[tt,tt,tt,tt,tt,tt,tt,tt,ff,ff] rfl rfl (any_of HT_.out (by kernel_rfl)) (fun _ _ _ h => h) (Or.inl ⟨by rfl, ?_⟩) ?_ ?_
         rotate_left
         ·intro w'
          go_simp
          with_reducible rfl
         rotate_left
         ·simp only [Act.put, sQ0, sQ1, sQ2, i64_w]
          rfl
         refine one_ (i := 8) (N := none) #[tt,tt,tt,tt,tt,tt,tt,tt,tt,ff] rfl rfl (one_of HT_.out (by kernel_rfl)) (by decide) (fun K hK => ?_)
         have hs72 : w71.cell? ⟨gb102, 0, none⟩ = some (.bool false) := (blk_cell BK102.out 0).trans rfl
         have hfs72 := blk_frozen BK102.out 0
         have hns72_0 := NB101_102.out
         have hms72_0 := NB102_101.out
         have hs73 : w71.cell? ⟨gb102, 1, none⟩ = some (.bool false) := (blk_cell BK102.out 1).trans rfl
         have hfs73 := blk_frozen BK102.out 1
         have hns73_0 := NB101_102.out
         have hms73_0 := NB102_101.out
         have hs74 : w71.cell? ⟨gb102, 2, none⟩ = some (.bool false) := (blk_cell BK102.out 2).trans rfl
         have hfs74 := blk_frozen BK102.out 2
         have hns74_0 := NB101_102.out
         have hms74_0 := NB102_101.out
         have hs75 : w71.cell? ⟨gb102, 3, none⟩ = some (.bool false) := (blk_cell BK102.out 3).trans rfl
         have hfs75 := blk_frozen BK102.out 3
         have hns75_0 := NB101_102.out
         have hms75_0 := NB102_101.out
         have hs76 : w71.cell? ⟨gb102, 4, none⟩ = some (.bool false) := (blk_cell BK102.out 4).trans rfl
         have hfs76 := blk_frozen BK102.out 4
         have hns76_0 := NB101_102.out
         have hms76_0 := NB102_101.out
         refine skip_ (w1 := ?_) (by rfl) rfl ?_ ?_
         rotate_left
         ·go_simp
          rfl
         refine hK.out _ _ trivial (fun hHeld => ?_)
         clear hK K
         refine pure_ (i := 9) (N := some 3) (v := ?_) (a' := ?_) #[tt,tt,tt,tt,tt,tt,tt,tt,tt,tt] rfl rfl (any_of HT_.out (by kernel_rfl)) (fun _ _ _ h => h) (Or.inl ⟨by rfl, ?_⟩) ?_ ?_
         rotate_left
         ·intro w'
          go_simp
          with_reducible rfl
         rotate_left
         ·simp only [Act.put, sQ0, sQ1, sQ2, i64_w]
          rfl
         refine done_ (done_of HT_.out (by kernel_rfl)) ?_
         try go_wp2
         refine bodyPost_ret (results_ct rfl _ _ gb102 48 #[.bool true, .bool false, .bool false, .bool false, .bool true] (0, 0) _ rfl (by (with_reducible repeat (first | refine blk_drewN ?_ _ | refine blk_drew ?_ | refine blk_alloc ?_ _)); refine blk_put (cs := #[.bool true, .bool false, .bool false, .bool false, .bool false]) ?_ 4 _ rfl; (with_reducible repeat (first | refine blk_drewN ?_ _ | refine blk_drew ?_ | refine blk_alloc ?_ _)); refine blk_put (cs := #[.bool true, .bool false, .bool false, .bool false, .bool false]) ?_ 3 _ rfl; (with_reducible repeat (first | refine blk_drewN ?_ _ | refine blk_drew ?_ | refine blk_alloc ?_ _)); refine blk_put (cs := #[.bool true, .bool false, .bool false, .bool false, .bool false]) ?_ 2 _ rfl; (with_reducible repeat (first | refine blk_drewN ?_ _ | refine blk_drew ?_ | refine blk_alloc ?_ _)); refine blk_put (cs := #[.bool true, .bool false, .bool false, .bool false, .bool false]) ?_ 1 _ rfl; (with_reducible repeat (first | refine blk_drewN ?_ _ | refine blk_drew ?_ | refine blk_alloc ?_ _)); refine blk_put (cs := #[.bool false, .bool false, .bool false, .bool false, .bool false]) ?_ 0 _ rfl; (with_reducible repeat (first | refine blk_drewN ?_ _ | refine blk_drew ?_ | refine blk_alloc ?_ _)); exact BK102.out) Tryd.underlying48 rfl (by kernel_rfl)) rfl ?_
         exact ⟨by first | rfl | (simp [errW_none, errW_some] <;> rfl) | (simp [*, errW_none, errW_some] <;> rfl), by repeat (first | (with_reducible first | exact HB.out | apply below_alloc | apply pw_below_drewN | apply below_drew1 | refine below_set ?_ GE101.out | refine below_set ?_ GE102.out) | exact HB.out)⟩
        ·replace c68 := Bool.eq_false_iff.mpr c68
         subst c68
         have H1 : (some (true, false, false, false, false, (a0_2 == 6))) = some (r1, r2, r3, r4, r5, r6) := by rw [if_neg (show ¬ (false = true) by decide)] at H; exact H
         clear H
         have H := H1
         clear H1
         simp only [Option.some.injEq, Prod.mk.injEq] at H
         obtain ⟨rfl, rfl, rfl, rfl, rfl, rfl⟩ := H
         have hnb77 := NB101_102.out
         have hnc77 := NB102_101.out
         have hcz78_0 : wc.cell? ⟨gb101, 0, none⟩ = some (.int .i64 a0_0) := (blk_cell BK101.out 0).trans rfl
         have hcz78_1 : wc.cell? ⟨gb101, 1, none⟩ = some (.int .i64 a0_1) := (blk_cell BK101.out 1).trans rfl
         have hcz78_2 : wc.cell? ⟨gb101, 2, none⟩ = some (.int .i64 a0_2) := (blk_cell BK101.out 2).trans rfl
         have hcz78_3 : wc.cell? ⟨gb101, 3, none⟩ = some (.int .i64 a0_3) := (blk_cell BK101.out 3).trans rfl
         have hcz78_4 : wc.cell? ⟨gb101, 4, none⟩ = some (.int .i64 a0_4) := (blk_cell BK101.out 4).trans rfl
         have hcz78_5 : wc.cell? ⟨gb101, 5, none⟩ = some (.int .i64 a0_5) := (blk_cell BK101.out 5).trans rfl
         have hcz78_6 : wc.cell? ⟨gb101, 6, none⟩ = some (.int .i64 a0_6) := (blk_cell BK101.out 6).trans rfl
         have hfz78_0 := blk_frozen BK101.out 0
         have hfz78_1 := blk_frozen BK101.out 1
         have hfz78_2 := blk_frozen BK101.out 2
         have hfz78_3 := blk_frozen BK101.out 3
         have hfz78_4 := blk_frozen BK101.out 4
         have hfz78_5 := blk_frozen BK101.out 5
         have hfz78_6 := blk_frozen BK101.out 6
         try go_wp2
         have n0_ := Aside0.mk (blk_drew BK101.out)
         have n1_ := Aside0.mk (blk_drew BK102.out)
         have n2_ := Aside0.mk (below_drew1 HB.out)
         clear BK101
         clear BK102
         clear HB
         have BK101 := n0_
         have BK102 := n1_
         have HB := n2_
         clear n0_ n1_ n2_
         refine start_ (n := 10) (S := fun w' => w'.cell? ⟨gb101, 0, none⟩ = some (.int .i64 a0_0) ∧ w'.cell? ⟨gb101, 1, none⟩ = some (.int .i64 a0_1) ∧ w'.cell? ⟨gb101, 2, none⟩ = some (.int .i64 a0_2) ∧ w'.cell? ⟨gb101, 3, none⟩ = some (.int .i64 a0_3) ∧ w'.cell? ⟨gb101, 4, none⟩ = some (.int .i64 a0_4) ∧ w'.cell? ⟨gb101, 5, none⟩ = some (.int .i64 a0_5) ∧ w'.cell? ⟨gb101, 6, none⟩ = some (.int .i64 a0_6)) (ds := []) #[ff,ff,ff,ff,ff,ff,ff,ff,ff,ff] (by kernel_rfl) rfl rfl ⟨(blk_cell BK101.out 0).trans rfl, (blk_cell BK101.out 1).trans rfl, (blk_cell BK101.out 2).trans rfl, (blk_cell BK101.out 3).trans rfl, (blk_cell BK101.out 4).trans rfl, (blk_cell BK101.out 5).trans rfl, (blk_cell BK101.out 6).trans rfl⟩ (fun hHeld => ?_); refine with_tabW link_shapeOf.tab13 link_shapeOf.bits13 (fun HT_ HW_ => ?_)
         generalize wc.drew = w79 at BK101 BK102 HB hHeld ⊢
         refine pure_ (i := 0) (N := some 67) (v := ?_) (a' := ?_) #[tt,ff,ff,ff,ff,ff,ff,ff,ff,ff] rfl rfl (any_of HT_.out (by kernel_rfl)) (fun _ _ _ h => h) (Or.inl ⟨by rfl, ?_⟩) ?_ ?_
         rotate_left
         ·intro w'
          go_simp
          with_reducible rfl
         rotate_left
         ·simp only [Act.put, sQ0, sQ1, sQ2, i64_w]
          rfl
         refine pure_ (i := 1) (N := some 68) (v := ?_) (a' := ?_) #[tt,tt,ff,ff,ff,ff,ff,ff,ff,ff] rfl rfl (any_of HT_.out (by kernel_rfl)) (fun _ _ _ h => h) (Or.inl ⟨by rfl, ?_⟩) ?_ ?_
         rotate_left
         ·intro w'
          go_simp
          with_reducible rfl
         rotate_left
         ·simp only [Act.put, sQ0, sQ1, sQ2, i64_w]
          rfl
         refine pure_ (i := 2) (N := some 69) (v := ?_) (a' := ?_) #[tt,tt,tt,ff,ff,ff,ff,ff,ff,ff] rfl rfl (any_of HT_.out (by kernel_rfl)) (fun _ _ _ h => h) (Or.inl ⟨by rfl, ?_⟩) ?_ ?_
         rotate_left
         ·intro w'
          go_simp
          with_reducible rfl
         rotate_left
         ·simp only [Act.put, sQ0, sQ1, sQ2, i64_w]
          rfl
         refine pure_ (i := 3) (N := some 70) (v := ?_) (a' := ?_) #[tt,tt,tt,tt,ff,ff,ff,ff,ff,ff] rfl rfl (any_of HT_.out (by kernel_rfl)) (fun _ _ _ h => h) (Or.inl ⟨by rfl, ?_⟩) ?_ ?_
         rotate_left
         ·intro w'
          go_simp
          with_reducible rfl
         rotate_left
         ·simp only [Act.put, sQ0, sQ1, sQ2, i64_w]
          rfl
         refine pure_ (i := 4) (N := some 71) (v := ?_) (a' := ?_) #[tt,tt,tt,tt,tt,ff,ff,ff,ff,ff] rfl rfl (any_of HT_.out (by kernel_rfl)) (fun _ _ _ h => h) (Or.inl ⟨by rfl, ?_⟩) ?_ ?_
         rotate_left
         ·intro w'
          go_simp
          with_reducible rfl
         rotate_left
         ·simp only [Act.put, sQ0, sQ1, sQ2, i64_w]
          rfl
         refine take_ (i := 5) (N := some 72) (v := ?_) (a' := ?_) #[tt,tt,tt,tt,tt,tt,ff,ff,ff,ff] rfl rfl (take_ofW HT_.out HW_.out (by kernel_rfl)) (fun _ _ _ h => h) (Or.inl ⟨by rfl, ?_⟩) hHeld ?_ ?_
         rotate_left
         ·rintro w' ⟨s0, s1, s2, s3, s4, s5, s6⟩
          go_simp
          with_reducible rfl
         rotate_left
         ·simp only [Act.put, sQ0, sQ1, sQ2, i64_w]
          rfl
         refine pure_ (i := 6) (N := some 73) (v := ?_) (a' := ?_) #[tt,tt,tt,tt,tt,tt,tt,ff,ff,ff] rfl rfl (any_of HT_.out (by kernel_rfl)) (fun _ _ _ h => h) (Or.inl ⟨by rfl, ?_⟩) ?_ ?_
         rotate_left
         ·intro w'
          go_simp
          with_reducible rfl
         rotate_left
         ·simp only [Act.put, sQ0, sQ1, sQ2, i64_w]
          rfl
         refine pure_ (i := 7) (N := some 74) (v := ?_) (a' := ?_) #[tt,tt,tt,tt,tt,tt,tt,tt,ff,ff] rfl rfl (any_of HT_.out (by kernel_rfl)) (fun _ _ _ h => h) (Or.inl ⟨by rfl, ?_⟩) ?_ ?_
         rotate_left
         ·intro w'
          go_simp
          with_reducible rfl
         rotate_left
         ·simp only [Act.put, sQ0, sQ1, sQ2, i64_w]
          rfl
         refine one_ (i := 8) (N := none) #[tt,tt,tt,tt,tt,tt,tt,tt,tt,ff] rfl rfl (one_of HT_.out (by kernel_rfl)) (by decide) (fun K hK => ?_)
         have hs80 : w79.cell? ⟨gb102, 0, none⟩ = some (.bool false) := (blk_cell BK102.out 0).trans rfl
         have hfs80 := blk_frozen BK102.out 0
         have hns80_0 := NB101_102.out
         have hms80_0 := NB102_101.out
         have hs81 : w79.cell? ⟨gb102, 1, none⟩ = some (.bool false) := (blk_cell BK102.out 1).trans rfl
         have hfs81 := blk_frozen BK102.out 1
         have hns81_0 := NB101_102.out
         have hms81_0 := NB102_101.out
         have hs82 : w79.cell? ⟨gb102, 2, none⟩ = some (.bool false) := (blk_cell BK102.out 2).trans rfl
         have hfs82 := blk_frozen BK102.out 2
         have hns82_0 := NB101_102.out
         have hms82_0 := NB102_101.out
         have hs83 : w79.cell? ⟨gb102, 3, none⟩ = some (.bool false) := (blk_cell BK102.out 3).trans rfl
         have hfs83 := blk_frozen BK102.out 3
         have hns83_0 := NB101_102.out
         have hms83_0 := NB102_101.out
         have hs84 : w79.cell? ⟨gb102, 4, none⟩ = some (.bool false) := (blk_cell BK102.out 4).trans rfl
         have hfs84 := blk_frozen BK102.out 4
         have hns84_0 := NB101_102.out
         have hms84_0 := NB102_101.out
         refine skip_ (w1 := ?_) (by rfl) rfl ?_ ?_
         rotate_left
         ·go_simp
          rfl
         refine hK.out _ _ ⟨((cell_far (p := ⟨gb102, _, none⟩) NB101_102.out _).trans (((cell_far (p := ⟨gb102, _, none⟩) NB101_102.out _).trans (((cell_far (p := ⟨gb102, _, none⟩) NB101_102.out _).trans (((cell_far (p := ⟨gb102, _, none⟩) NB101_102.out _).trans (((cell_far (p := ⟨gb102, _, none⟩) NB101_102.out _).trans (hHeld.1)))))))))), ((cell_far (p := ⟨gb102, _, none⟩) NB101_102.out _).trans (((cell_far (p := ⟨gb102, _, none⟩) NB101_102.out _).trans (((cell_far (p := ⟨gb102, _, none⟩) NB101_102.out _).trans (((cell_far (p := ⟨gb102, _, none⟩) NB101_102.out _).trans (((cell_far (p := ⟨gb102, _, none⟩) NB101_102.out _).trans (hHeld.2.1)))))))))), ((cell_far (p := ⟨gb102, _, none⟩) NB101_102.out _).trans (((cell_far (p := ⟨gb102, _, none⟩) NB101_102.out _).trans (((cell_far (p := ⟨gb102, _, none⟩) NB101_102.out _).trans (((cell_far (p := ⟨gb102, _, none⟩) NB101_102.out _).trans (((cell_far (p := ⟨gb102, _, none⟩) NB101_102.out _).trans (hHeld.2.2.1)))))))))), ((cell_far (p := ⟨gb102, _, none⟩) NB101_102.out _).trans (((cell_far (p := ⟨gb102, _, none⟩) NB101_102.out _).trans (((cell_far (p := ⟨gb102, _, none⟩) NB101_102.out _).trans (((cell_far (p := ⟨gb102, _, none⟩) NB101_102.out _).trans (((cell_far (p := ⟨gb102, _, none⟩) NB101_102.out _).trans (hHeld.2.2.2.1)))))))))), ((cell_far (p := ⟨gb102, _, none⟩) NB101_102.out _).trans (((cell_far (p := ⟨gb102, _, none⟩) NB101_102.out _).trans (((cell_far (p := ⟨gb102, _, none⟩) NB101_102.out _).trans (((cell_far (p := ⟨gb102, _, none⟩) NB101_102.out _).trans (((cell_far (p := ⟨gb102, _, none⟩) NB101_102.out _).trans (hHeld.2.2.2.2.1)))))))))), ((cell_far (p := ⟨gb102, _, none⟩) NB101_102.out _).trans (((cell_far (p := ⟨gb102, _, none⟩) NB101_102.out _).trans (((cell_far (p := ⟨gb102, _, none⟩) NB101_102.out _).trans (((cell_far (p := ⟨gb102, _, none⟩) NB101_102.out _).trans (((cell_far (p := ⟨gb102, _, none⟩) NB101_102.out _).trans (hHeld.2.2.2.2.2.1)))))))))), ((cell_far (p := ⟨gb102, _, none⟩) NB101_102.out _).trans (((cell_far (p := ⟨gb102, _, none⟩) NB101_102.out _).trans (((cell_far (p := ⟨gb102, _, none⟩) NB101_102.out _).trans (((cell_far (p := ⟨gb102, _, none⟩) NB101_102.out _).trans (((cell_far (p := ⟨gb102, _, none⟩) NB101_102.out _).trans (hHeld.2.2.2.2.2.2))))))))))⟩ (fun hHeld => ?_)
         clear hK K
         refine pure_ (i := 9) (N := some 3) (v := ?_) (a' := ?_) #[tt,tt,tt,tt,tt,tt,tt,tt,tt,tt] rfl rfl (any_of HT_.out (by kernel_rfl)) (fun _ _ _ h => h) (Or.inl ⟨by rfl, ?_⟩) ?_ ?_
         rotate_left
         ·intro w'
          go_simp
          with_reducible rfl
         rotate_left
         ·simp only [Act.put, sQ0, sQ1, sQ2, i64_w]
          rfl
         refine done_ (done_of HT_.out (by kernel_rfl)) ?_
         try go_wp2
         refine bodyPost_ret (results_ct rfl _ _ gb102 48 #[.bool true, .bool false, .bool false, .bool false, .bool false] (0, 0) _ rfl (by (with_reducible repeat (first | refine blk_drewN ?_ _ | refine blk_drew ?_ | refine blk_alloc ?_ _)); refine blk_put (cs := #[.bool true, .bool false, .bool false, .bool false, .bool false]) ?_ 4 _ rfl; (with_reducible repeat (first | refine blk_drewN ?_ _ | refine blk_drew ?_ | refine blk_alloc ?_ _)); refine blk_put (cs := #[.bool true, .bool false, .bool false, .bool false, .bool false]) ?_ 3 _ rfl; (with_reducible repeat (first | refine blk_drewN ?_ _ | refine blk_drew ?_ | refine blk_alloc ?_ _)); refine blk_put (cs := #[.bool true, .bool false, .bool false, .bool false, .bool false]) ?_ 2 _ rfl; (with_reducible repeat (first | refine blk_drewN ?_ _ | refine blk_drew ?_ | refine blk_alloc ?_ _)); refine blk_put (cs := #[.bool true, .bool false, .bool false, .bool false, .bool false]) ?_ 1 _ rfl; (with_reducible repeat (first | refine blk_drewN ?_ _ | refine blk_drew ?_ | refine blk_alloc ?_ _)); refine blk_put (cs := #[.bool false, .bool false, .bool false, .bool false, .bool false]) ?_ 0 _ rfl; (with_reducible repeat (first | refine blk_drewN ?_ _ | refine blk_drew ?_ | refine blk_alloc ?_ _)); exact BK102.out) Tryd.underlying48 rfl (by kernel_rfl)) rfl ?_
         exact ⟨by first | rfl | (simp [errW_none, errW_some] <;> rfl) | (simp [*, errW_none, errW_some] <;> rfl), by repeat (first | (with_reducible first | exact HB.out | apply below_alloc | apply pw_below_drewN | apply below_drew1 | refine below_set ?_ GE101.out | refine below_set ?_ GE102.out) | exact HB.out)⟩
       ·rw [if_neg c67] at H
        have c67b0 : (a0_0 == 5) = false := beq_eq_false_iff_ne.mpr c67
        have c67b1 : (a0_0 != 5) = true := bne_iff_ne.mpr c67
        simp only [Option.some.injEq, Prod.mk.injEq] at H
        obtain ⟨rfl, rfl, rfl, rfl, rfl, rfl⟩ := H
        have hnb85 := NB101_102.out
        have hnc85 := NB102_101.out
        have hcz86_0 : wc.cell? ⟨gb101, 0, none⟩ = some (.int .i64 a0_0) := (blk_cell BK101.out 0).trans rfl
        have hcz86_1 : wc.cell? ⟨gb101, 1, none⟩ = some (.int .i64 a0_1) := (blk_cell BK101.out 1).trans rfl
        have hcz86_2 : wc.cell? ⟨gb101, 2, none⟩ = some (.int .i64 a0_2) := (blk_cell BK101.out 2).trans rfl
        have hcz86_3 : wc.cell? ⟨gb101, 3, none⟩ = some (.int .i64 a0_3) := (blk_cell BK101.out 3).trans rfl
        have hcz86_4 : wc.cell? ⟨gb101, 4, none⟩ = some (.int .i64 a0_4) := (blk_cell BK101.out 4).trans rfl
        have hcz86_5 : wc.cell? ⟨gb101, 5, none⟩ = some (.int .i64 a0_5) := (blk_cell BK101.out 5).trans rfl
        have hcz86_6 : wc.cell? ⟨gb101, 6, none⟩ = some (.int .i64 a0_6) := (blk_cell BK101.out 6).trans rfl
        have hfz86_0 := blk_frozen BK101.out 0
        have hfz86_1 := blk_frozen BK101.out 1
        have hfz86_2 := blk_frozen BK101.out 2
        have hfz86_3 := blk_frozen BK101.out 3
        have hfz86_4 := blk_frozen BK101.out 4
        have hfz86_5 := blk_frozen BK101.out 5
        have hfz86_6 := blk_frozen BK101.out 6
        have hcz87_0 : wc.cell? ⟨gb102, 0, none⟩ = some (.bool false) := (blk_cell BK102.out 0).trans rfl
        have hcz87_1 : wc.cell? ⟨gb102, 1, none⟩ = some (.bool false) := (blk_cell BK102.out 1).trans rfl
        have hcz87_2 : wc.cell? ⟨gb102, 2, none⟩ = some (.bool false) := (blk_cell BK102.out 2).trans rfl
        have hcz87_3 : wc.cell? ⟨gb102, 3, none⟩ = some (.bool false) := (blk_cell BK102.out 3).trans rfl
        have hcz87_4 : wc.cell? ⟨gb102, 4, none⟩ = some (.bool false) := (blk_cell BK102.out 4).trans rfl
        have hfz87_0 := blk_frozen BK102.out 0
        have hfz87_1 := blk_frozen BK102.out 1
        have hfz87_2 := blk_frozen BK102.out 2
        have hfz87_3 := blk_frozen BK102.out 3
        have hfz87_4 := blk_frozen BK102.out 4
        go_wp2
        refine bodyPost_ret (results_ct rfl _ _ gb102 48 #[.bool false, .bool false, .bool false, .bool false, .bool false] (0, 0) _ rfl (by (with_reducible repeat (first | refine blk_drewN ?_ _ | refine blk_drew ?_ | refine blk_alloc ?_ _)); refine blk_put (cs := #[.bool false, .bool false, .bool false, .bool false, .bool false]) ?_ 4 _ rfl; (with_reducible repeat (first | refine blk_drewN ?_ _ | refine blk_drew ?_ | refine blk_alloc ?_ _)); refine blk_put (cs := #[.bool false, .bool false, .bool false, .bool false, .bool false]) ?_ 3 _ rfl; (with_reducible repeat (first | refine blk_drewN ?_ _ | refine blk_drew ?_ | refine blk_alloc ?_ _)); refine blk_put (cs := #[.bool false, .bool false, .bool false, .bool false, .bool false]) ?_ 2 _ rfl; (with_reducible repeat (first | refine blk_drewN ?_ _ | refine blk_drew ?_ | refine blk_alloc ?_ _)); refine blk_put (cs := #[.bool false, .bool false, .bool false, .bool false, .bool false]) ?_ 1 _ rfl; (with_reducible repeat (first | refine blk_drewN ?_ _ | refine blk_drew ?_ | refine blk_alloc ?_ _)); refine blk_put (cs := #[.bool false, .bool false, .bool false, .bool false, .bool false]) ?_ 0 _ rfl; (with_reducible repeat (first | refine blk_drewN ?_ _ | refine blk_drew ?_ | refine blk_alloc ?_ _)); exact BK102.out) Tryd.underlying48 rfl (by kernel_rfl)) rfl ?_
        exact ⟨by first | rfl | (simp [errW_none, errW_some] <;> rfl) | (simp [*, errW_none, errW_some] <;> rfl), by repeat (first | (with_reducible first | exact HB.out | apply below_alloc | apply pw_below_drewN | apply below_drew1 | refine below_set ?_ GE101.out | refine below_set ?_ GE102.out) | exact HB.out)⟩
end Go.Proofs.YthljanmfanppdaaDoor.KLk
end
