/- What is proved: (*story).turn does with a story in memory what turnF says. -/
import Derived.Test.YthniclbmpeklmaaAuS
import Derived.StillTailTactics
import Derived.Deep.QuietTactic
import Derived.BigQuiet
import Derived.Test.YthniclbmpeklmaaWLast
import Derived.Test.YthniclbmpeklmaaWTab
import Derived.Deep.AppendLies
namespace Go.Proofs.Ythniclbmpeklmaa.Au
open Go.RowKit Go.Maps Go.Proofs.YthniclbmpeklmaaW.PrintWords Go.Proofs.YthniclbmpeklmaaW.PrintLast Go.Proofs.YthniclbmpeklmaaW.PrintMore Go.Proofs.Ythniclbmpeklmaa.Mp
set_option linter.unusedVariables false
set_option linter.unusedSimpArgs false
/-- A look-up in one of a story's maps. -/
theorem look_at {w : World} {m1 z : Nat} {f : Ha → Option Nat} (h : MapIs haV Try.prog 34 w m1 z (nV f)) {hn hg : Int} {kl : Lit} (hk : keyOf Try.prog 34 (haV (hn, hg)) = some kl) (W : World) (hb : W.heap[m1]? = w.heap[m1]?) :
    (Instr.lookup 86 (.map (some m1)) (.agg #[.int .i64 hn, .int .i64 hg]) true).run Try.prog W = .ok (.tuple #[.int .i64 (((f (hn, hg)).map (fun j => (j : Int))).getD 0), .bool (f (hn, hg)).isSome]) W := by
  have := (h.move hb).look_ok lawH Try.underlying86 (zeroI W) (x := (hn, hg)) hk
  rw [show (haV (hn, hg)) = .agg #[.int .i64 hn, .int .i64 hg] from rfl] at this
  rw [this]
  unfold nV
  cases f (hn, hg) <;> rfl
def TurnPost (B b n : Nat) (s : Story) (vl vc vv : Value) (m1 m2 : Nat) (w : World) (e : Ending) (w' : World) : Prop :=
  e = .returned (.tuple #[]) ∧ ∃ vv', StIs w' B b n s vl vv' vc m1 m2 ∧ Fr w w' (fun g => g = b ∨ g = m1 ∨ some g = vv.ownBlock)
theorem gen_world {P : Program} {c : Code} {Q : Exit → Act → World → Prop} {a : Act} {w : World} (R : World → Prop) (h : R w) (k : ∀ W, R W → c.wp P Q a W) : c.wp P Q a w := k w h
/-- Half a turn done. -/
structure Mid (w W : World) (B b n m1 m2 : Nat) (vv0 : Value) (s : Story) (vl vv vc : Value) (e : Ev) : Prop where
  st : StIs W B b n s vl vv vc m1 m2
  ev : W.heap[w.heap.size]? = some (.cells (evA e) 54 (0, 0))
  fr : Fr w W (fun g => g = b ∨ g = m1 ∨ some g = vv0.ownBlock)
  m12 : m1 ≠ m2
section
variable {w W W1 : World} {B b n m1 m2 : Nat} {s : Story} {vl vv vc vv0 : Value} {e : Ev}
theorem Mid.alloc (h : Mid w W B b n m1 m2 vv0 s vl vv vc e) (o : Obj) : Mid w (W.alloc o) B b n m1 m2 vv0 s vl vv vc e := ⟨h.st.alloc o, blk_alloc h.ev o, h.fr.alloc o, h.m12⟩
theorem Mid.start (h : StIs w B b n s vl vv vc m1 m2) (e : Ev) : Mid w (w.alloc (.cells (evA e) 54)) B b n m1 m2 vv s vl vv vc e := ⟨h.alloc _, blk_new _ _, (Fr.refl _ _).alloc _, h.m12⟩
theorem Mid.drewN (h : Mid w W B b n m1 m2 vv0 s vl vv vc e) (q : Nat) : Mid w (W.drewN q) B b n m1 m2 vv0 s vl vv vc e := ⟨h.st.drewN q, h.ev, h.fr.drewN q, h.m12⟩
theorem Mid.drew (h : Mid w W B b n m1 m2 vv0 s vl vv vc e) : Mid w W.drew B b n m1 m2 vv0 s vl vv vc e := ⟨h.st.drew, h.ev, h.fr.drew, h.m12⟩
theorem Mid.put {g cap k : Nat} {x : Life} (i : Int) (h : Mid w W B b n m1 m2 (.slice (some ⟨g, 0, none⟩) s.lives.length cap) s vl (.slice (some ⟨g, 0, none⟩) s.lives.length cap) vc e) (hx : s.lives[k]? = some x) :
    Mid w (W.setCell ⟨g, k * 6 + 4, none⟩ (.int .i64 i)) B b n m1 m2 (.slice (some ⟨g, 0, none⟩) s.lives.length cap) { s with lives := s.lives.set k { x with til := i } } vl (.slice (some ⟨g, 0, none⟩) s.lives.length cap) vc e := by
  obtain ⟨cur, hg⟩ := h.st.rv.own (show (Value.slice (some ⟨g, 0, none⟩) s.lives.length cap).ownBlock = some g from rfl)
  obtain ⟨z1, hz1, hm1⟩ := h.st.ma
  obtain ⟨z2, hz2, hm2⟩ := h.st.mo
  obtain ⟨_, _, q1⟩ := hm1.block
  obtain ⟨_, _, q2⟩ := hm2.block
  have n1 := map_ne hg q1
  have n2 := map_ne hg q2
  have nb := types_ne hg h.st.blk (by decide)
  have ne := types_ne hg h.ev (by decide)
  have row : ∀ {α : Type} {T k : Nat} {A : α → Array Value} {v : Value} {l : List α}, RowIs W B T k A v l → 99 ≠ T → v.ownBlock ≠ some g := fun r ht hv => by
    obtain ⟨cur', hg'⟩ := r.own hv
    exact types_ne hg hg' ht rfl
  have hput := h.st.rv.put (fun _ => rfl) (i := k) (j := 4) (x' := { x with til := i }) (u := .int .i64 i) hx (by decide) rfl
  rw [List.length_set] at hput
  refine ⟨⟨blk_far h.st.blk (Ne.symm nb) _, h.st.rl.far (row h.st.rl (by decide)) _, hput, h.st.rc.far (row h.st.rc (by decide)) _, ⟨z1, hz1, hm1.move (Below.heap_setCell _ _ _ _ (Ne.symm n1))⟩, ⟨z2, hz2, hm2.move (Below.heap_setCell _ _ _ _ (Ne.symm n2))⟩, h.st.hb, h.st.h1, h.st.h2, h.st.m12⟩, blk_far h.ev (Ne.symm ne) _, h.fr.set _ _ (.inr (.inr (.inr rfl))), h.m12⟩
theorem Mid.stored {f' : Ha → Option Nat} {z' : Nat} (h : Mid w W B b n m1 m2 vv0 s vl vv vc e) (hm : MapIs haV Try.prog 34 W1 m1 z' (nV f')) (hz : z' ≤ n + 1) (hg : W.grownBy W1 (some m1)) : Mid w W1 B b (n + 1) m1 m2 vv0 { s with at_ := f' } vl vv vc e := by
  obtain ⟨z1, hz1, hm1⟩ := h.st.ma
  obtain ⟨z2, hz2, hm2⟩ := h.st.mo
  obtain ⟨_, _, q1⟩ := hm1.block
  obtain ⟨_, _, q2⟩ := hm2.block
  have row : ∀ {α : Type} {T k : Nat} {A : α → Array Value} {v : Value} {l : List α}, RowIs W B T k A v l → RowIs W1 B T k A v l := by
    intro α T k A v l r
    refine r.kept hg ?_
    cases hv : v.ownBlock with
    | none => exact .inl rfl
    | some g => exact .inr (fun q => by obtain ⟨cur, hc⟩ := r.own hv; exact map_ne hc q1 (Option.some.inj q))
  have h12 : m2 ≠ m1 := fun q => h.m12 q.symm
  exact ⟨⟨blk_grown h.st.blk hg (fun q => map_ne h.st.blk q1 (Option.some.inj q)), row h.st.rl, row h.st.rv, row h.st.rc, ⟨z', hz, hm⟩, ⟨z2, by omega, hm2.move (hg.block m2 hm2.lt (fun q => h12 (Option.some.inj q)))⟩, h.st.hb, h.st.h1, h.st.h2, h.m12⟩, blk_grown h.ev hg (fun q => map_ne h.ev q1 (Option.some.inj q)),
    h.fr.trans ((Fr.of_grown hg).mono (fun g q => .inr (.inl (Option.some.inj q)))), h.m12⟩
theorem Mid.appended {v' : Value} {x : Life} (h : Mid w W B b n m1 m2 vv s vl vv vc e) (hown : RowIs W1 B 99 6 lfA v' (s.lives ++ [x])) (hg : W.grownBy W1 vv.ownBlock) (hat : v'.ownBlock = vv.ownBlock ∨ v'.ownBlock = some W.heap.size) :
    W1.heap[b]? = some (.cells (stA vl vv vc m1 m2) 97 (0, 0)) ∧ Mid w (W1.setCell ⟨b, 1, none⟩ v') B b n m1 m2 vv { s with lives := s.lives ++ [x] } vl v' vc e := by
  obtain ⟨z1, hz1, hm1⟩ := h.st.ma
  obtain ⟨z2, hz2, hm2⟩ := h.st.mo
  obtain ⟨_, _, q1⟩ := hm1.block
  obtain ⟨_, _, q2⟩ := hm2.block
  have ne_map : ∀ (g : Nat) es cl, W.heap[g]? = some (.map es cl) → some g ≠ vv.ownBlock := fun g es cl hq q => by
    obtain ⟨cur, hc⟩ := h.st.rv.own q.symm
    exact map_ne hc hq rfl
  have ne_typ : ∀ (g t : Nat) cs, W.heap[g]? = some (.cells cs t (0, 0)) → 99 ≠ t → some g ≠ vv.ownBlock := fun g t cs hq ht q => by
    obtain ⟨cur, hc⟩ := h.st.rv.own q.symm
    exact types_ne hc hq ht rfl
  have row : ∀ {α : Type} {T k : Nat} {A : α → Array Value} {v : Value} {l : List α}, RowIs W B T k A v l → 99 ≠ T → RowIs W1 B T k A v l := by
    intro α T k A v l r ht
    refine r.kept hg ?_
    cases hv : v.ownBlock with
    | none => exact .inl rfl
    | some g => exact .inr (fun q => by obtain ⟨cur, hc⟩ := r.own hv; exact ne_typ g _ _ hc ht q)
  have hb1 := blk_grown h.st.blk hg (ne_typ _ _ _ h.st.blk (by decide))
  have he1 := blk_grown h.ev hg (ne_typ _ _ _ h.ev (by decide))
  have hm1' := hm1.move (hg.block m1 hm1.lt (ne_map _ _ _ q1))
  have hm2' := hm2.move (hg.block m2 hm2.lt (ne_map _ _ _ q2))
  obtain ⟨_, _, q1'⟩ := hm1'.block
  obtain ⟨_, _, q2'⟩ := hm2'.block
  have far : ∀ {α : Type} {T k : Nat} {A : α → Array Value} {v : Value} {l : List α}, RowIs W1 B T k A v l → 97 ≠ T → v.ownBlock ≠ some b := fun r ht hv => by
    obtain ⟨cur', hg'⟩ := r.own hv
    exact types_ne hb1 hg' ht rfl
  refine ⟨hb1, ⟨⟨?_, (row h.st.rl (by decide)).far (far (row h.st.rl (by decide)) (by decide)) _, hown.far (far hown (by decide)) _, (row h.st.rc (by decide)).far (far (row h.st.rc (by decide)) (by decide)) _, ⟨z1, hz1, hm1'.move (Below.heap_setCell _ _ _ _ (map_ne hb1 q1').symm)⟩, ⟨z2, hz2, hm2'.move (Below.heap_setCell _ _ _ _ (map_ne hb1 q2').symm)⟩, h.st.hb, h.st.h1, h.st.h2, h.m12⟩, blk_far he1 (types_ne hb1 he1 (by decide)).symm _, (h.fr.trans ((Fr.of_grown hg).mono (fun g q => .inr (.inr q)))).set _ _ (.inr (.inl rfl)), h.m12⟩⟩
  exact blk_set hb1 1 v'
theorem Mid.look (h : Mid w W B b n m1 m2 vv0 s vl vv vc e) {hn hg : Int} (hw : ∃ kl, keyOf Try.prog 34 (haV (hn, hg)) = some kl) (W' : World) (hb : W'.heap[m1]? = W.heap[m1]?) :
    (Instr.lookup 86 (.map (some m1)) (.agg #[.int .i64 hn, .int .i64 hg]) true).run Try.prog W' = .ok (.tuple #[.int .i64 (((s.at_ (hn, hg)).map (fun j => (j : Int))).getD 0), .bool (s.at_ (hn, hg)).isSome]) W' := by
  obtain ⟨kl, hk⟩ := hw
  obtain ⟨z1, hz1, hm1⟩ := h.st.ma
  exact look_at hm1 hk W' hb
end
theorem life_info : (Try.prog.info? 99).map (fun i => (i.zero, i.size, i.bytes)) = some (some (.agg #[.int .i64 0, .int .i64 0, .int .i64 0, .int .i64 0, .int .i64 0, .int .i64 0]), 6, 48) := by kernel_rfl
/-- A region that draws: all but its last operations only read; the world behind the draw under a name of its own. -/
theorem still_tail_at {P : Program} {id : Nat} {Q : Exit → Act → World → Prop} {a : Act} {w : World} {l : List Oper} (n : Nat) (hm : P.follows .mixedOrders = true) (hB : Region.lexTailB .any l.toArray n = true)
    (h : ∀ w2, w2 = w.drew → wpStill P l.toArray w2 (fun a' => wpList P l.toArray Q (l.drop n) a' w2) (l.take n) a) : (Code.region id l.toArray true).wp P Q a w :=
  wp_region_still_tail n hm hB (h _ rfl)
/-- What a region that appends reads. -/
def Cells2 (W : World) (b eb : Nat) (vl vv vc : Value) (m1 m2 : Nat) (e : Ev) : Prop := (∀ i, W.cell? ⟨b, i, none⟩ = (stA vl vv vc m1 m2)[i]?) ∧ (∀ i, W.cell? ⟨eb, i, none⟩ = (evA e)[i]?) ∧ (∀ i, W.frozen? ⟨b, i, none⟩ = false)
theorem Mid.cells {w W : World} {B b n m1 m2 : Nat} {s : Story} {vl vv vc vv0 : Value} {e : Ev} (h : Mid w W B b n m1 m2 vv0 s vl vv vc e) : (∀ i, W.cell? ⟨b, i, none⟩ = (stA vl vv vc m1 m2)[i]?) ∧ (∀ i, W.cell? ⟨w.heap.size, i, none⟩ = (evA e)[i]?) ∧ (∀ i, W.frozen? ⟨b, i, none⟩ = false) :=
  ⟨fun i => h.st.cell i, fun i => blk_cell h.ev i, fun i => blk_frozen h.st.blk i⟩
theorem step_lives {w W : World} {B b n m1 m2 : Nat} {s : Story} {vl vv vc : Value} {e : Ev} {ops : Array Oper} {o : Oper} {a : Act} {K : Act → World → Prop} {Q : Exit → Act → World → Prop} {E : Prop} (hgd : o.guard = none) (p q : Operand)
    (ho : o.op = .call { callee := .builtin .append, args := #[p, q], argTypes := #[93, 93] }) (h : Mid w W B b n m1 m2 vv s vl vv vc e) (x : Life) (hp : a.eval p = vv) (hq : a.eval q = .slice (some ⟨W.heap.size, 0, none⟩) 1 1) (hll : s.lives.length ≤ 1000000)
    (hK : ∀ gg cap w6, ((∀ i, w6.cell? ⟨b, i, none⟩ = (stA vl vv vc m1 m2)[i]?) ∧ (∀ i, w6.cell? ⟨w.heap.size, i, none⟩ = (evA e)[i]?) ∧ (∀ i, w6.frozen? ⟨b, i, none⟩ = false)) ∧ Mid w (w6.setCell ⟨b, 1, none⟩ (.slice (some ⟨gg, 0, none⟩) (s.lives.length + 1) cap)) B b n m1 m2 vv { s with lives := s.lives ++ [x] } vl (.slice (some ⟨gg, 0, none⟩) (s.lives.length + 1) cap) vc e → K (a.put o.dst (.slice (some ⟨gg, 0, none⟩) (s.lives.length + 1) cap)) w6) :
    if Region.wanted o (yielded ops a.tmps) = true then Oper.wp Try.prog o a (W.alloc (.cells (lfA x) 99)) K Q else E := by
  obtain ⟨i0, hi0, hz0, hz1, hz2⟩ := info_parts life_info
  have hA := h.alloc (.cells (lfA x) 99)
  refine step_append_lies _ hgd p q _ ho B 99 i0 _ 6 48 Try.underlying93 hi0 hz0 hz1 hz2 rfl (by omega) vv s.lives.length _ hp hA.st.rv ⟨W.heap.size, 0, none⟩ 1 1 (lfA x).toList hq rfl (World.news_of_block (cs := lfA x) (t := 99) (fr := (0, 0)) (heap_alloc_new W _)) (by simp [Value.oneCell']) (by omega) (by unfold maxLen; omega) (by omega) (by have := h.st.hb; have := h.st.lt; simp; omega) _ rfl ?_
  intro g cap w6 hown hgrow hat hlt
  have hrow : RowIs w6 B 99 6 lfA (.slice (some ⟨g, 0, none⟩) (s.lives.length + 1) cap) (s.lives ++ [x]) := by
    unfold RowIs
    rw [List.length_append, List.flatMap_append]
    simpa using hown
  have hap := hA.appended hrow hgrow (by
    rcases hat with q | q
    · exact .inl q.symm
    · exact .inr (by rw [q]; rfl))
  refine hK _ _ _ ⟨⟨fun i => blk_cell hap.1 i, fun i => ?_, fun i => blk_frozen hap.1 i⟩, hap.2⟩
  have he := hap.2.ev
  have hne := types_ne hap.1 (show w6.heap[w.heap.size]? = _ from (Below.heap_setCell w6 ⟨b, 1, none⟩ (.slice (some ⟨g, 0, none⟩) (s.lives.length + 1) cap) w.heap.size (fun q => by have := h.ev; have h2 := h.st.blk; rw [q] at this; rw [this] at h2; cases h2)).symm.trans he) (by decide)
  exact blk_cell ((Below.heap_setCell w6 ⟨b, 1, none⟩ (.slice (some ⟨g, 0, none⟩) (s.lives.length + 1) cap) w.heap.size (Ne.symm hne)).symm.trans he) i
theorem turn1_no {s : Story} {i : Nat} {e : Ev} (h : ¬ (e.k = 4 ∨ (e.op = 2 ∧ e.y = true) ∨ (e.op = 3 ∧ e.er = 0))) : turn1 s i e = s := by
  unfold turn1
  split
  · rfl
  · split
    · rfl
    · exact if_neg (fun q => h q.1)
theorem turn1_none {s : Story} {i : Nat} {e : Ev} (h : s.at_ e.h = none) : turn1 s i e = s := by unfold turn1; rw [h]
theorem turn1_set {s : Story} {i k : Nat} {e : Ev} {x : Life} (h : s.at_ e.h = some k) (hx : s.lives[k]? = some x) (ho : e.k = 4 ∨ (e.op = 2 ∧ e.y = true) ∨ (e.op = 3 ∧ e.er = 0)) (ht : x.til > i) : turn1 s i e = { s with lives := s.lives.set k { x with til := i } } := by
  unfold turn1; simp only [h, hx]; rw [if_pos ⟨ho, ht⟩]
theorem turn1_keep {s : Story} {i k : Nat} {e : Ev} {x : Life} (h : s.at_ e.h = some k) (hx : s.lives[k]? = some x) (ht : ¬ x.til > i) : turn1 s i e = s := by
  unfold turn1; simp only [h, hx]; rw [if_neg (fun q => ht q.2)]
theorem turn2_no {s : Story} {i : Nat} {e : Ev} (h : e.k ≠ 3 ∨ e.er ≠ 0 ∨ (e.op ≠ 1 ∧ e.op ≠ 3)) : turn2 s i e = s := by unfold turn2; rw [if_pos h]
theorem turn2_old {s : Story} {i k : Nat} {e : Ev} (h : s.at_ e.new = some k) : turn2 s i e = s := by unfold turn2; rw [h]; split <;> rfl
theorem turn2_new {s : Story} {i : Nat} {e : Ev} (hc : ¬ (e.k ≠ 3 ∨ e.er ≠ 0 ∨ (e.op ≠ 1 ∧ e.op ≠ 3))) (h : s.at_ e.new = none) : turn2 s i e = { s with at_ := updH s.at_ e.new s.lives.length, lives := s.lives ++ [⟨e.nn, e.ng, i, e.wk, noEnd, e.t⟩] } := by unfold turn2; rw [if_neg hc, h]
theorem nV_upd (f : Ha → Option Nat) (h : Ha) (j : Nat) : (fun l => if l = h then some (.int .i64 (j : Int)) else nV f l) = nV (updH f h j) := by
  funext l
  unfold nV updH
  by_cases e : l = h <;> simp [e]

def turn.T9 : Bool × List (List Nat × List Nat) := (true, [([], []), ([], []), ([1], [1]), ([2], [2]), ([3], [3]), ([], []), ([5], [5]), ([], []), ([], []), ([8], [8]), ([], []), ([10], [10]), ([6, 7, 9, 11], [6, 7, 9, 11]), ([12], [12]), ([4, 13], [4, 13]), ([0, 0, 1, 2, 3, 4, 5, 6, 7, 8, 9, 10, 11, 12, 13, 14], [0]), ([15, 0, 1, 2, 3, 4, 5, 6, 7, 8, 9, 10, 11, 12, 13, 14], [15]), ([16, 14, 14, 0, 1, 2, 3, 4, 5, 6, 7, 8, 9, 10, 11, 12, 13, 14], [14, 16])])
def turn.B9 : List Nat := [0, 0, 2, 6, 14, 0, 32, 0, 0, 256, 0, 1024, 4064, 8160, 16382, 32767, 65535, 131071]
theorem turn.tab9 : rtab .any (opsOf Try.f84 9) = turn.T9 := by kernel_rfl
theorem turn.bits9 : waitsOk turn.T9.2 turn.B9 = true := by kernel_rfl

set_option maxHeartbeats 4000000 in
set_option maxRecDepth 100000 in
theorem turn_fire_none {B b n m1 m2 : Nat} {s : Story} {vl vv vc : Value} (i : Nat) (e : Ev) (w : World) (hB : StIs w B b n s vl vv vc m1 m2) (hw : ∃ kl, keyOf Try.prog 34 (haV e.h) = some kl) (hw2 : ∃ kl, keyOf Try.prog 34 (haV e.new) = some kl) (hn : n ≤ 1000000) (hll : s.lives.length ≤ 1000000) (hk : e.k = 4) (ha : s.at_ e.h = none) :
    Calls Try.prog 84 #[.pointer (some ⟨b, 0, none⟩), .int .i64 (i : Int), .agg (evA e)] w (TurnPost B b (n + 1) (turnF s i e) vl vc vv m1 m2 w) := by
  have hu97 := Try.underlying97
  have hu54 := Try.underlying54
  have hu34 := Try.underlying34
  have hu99 := Try.underlying99
  have HF1 := Aside0.mk (show turn1 s i e = s from turn1_none ha)
  have HF := Aside0.mk (show turnF s i e = s by unfold turnF; rw [HF1.out]; exact turn2_no (by omega))
  have qk4 : (e.k == 4) = true := beq_iff_eq.2 (by omega)
  have rk4 : (e.k != 4) = false := bne_eq_false_iff_eq.2 (by omega)
  have qk3 : (e.k == 3) = false := beq_eq_false_iff_ne.2 (by omega)
  have rk3 : (e.k != 3) = true := bne_iff_ne.2 (by omega)
  have hl0 := fun q => (Mid.start hB e).look hw ((w.alloc (.cells (evA e) 54)).drewN q) rfl
  rw [show (e.hn, e.hg) = e.h from rfl, ha] at hl0
  simp only [Option.map_none, Option.getD_none, Option.isSome_none] at hl0
  have HB := Aside0.mk hB
  have hlt := hB.lt
  have hc := fun i => hB.cell i
  have HW2 := Aside0.mk hw2
  have HN := Aside0.mk hn
  have HLL := Aside0.mk hll
  clear hB hw hw2 hn hll hk ha
  go_enter Try.func84, Try.ntmps84
  go_wp2
  go_quiet (fail)
  go_wp2
  all_goals
    go_end0
    exact ⟨rfl, _, by rw [HF.out]; exact ((Mid.start HB.out e).drewN _).st.up (by omega), ((Mid.start HB.out e).drewN _).fr⟩

set_option maxHeartbeats 4000000 in
set_option maxRecDepth 100000 in
theorem turn_fire_set {B b n m1 m2 : Nat} {s : Story} {vl vv vc : Value} (i : Nat) (e : Ev) (w : World) (hB : StIs w B b n s vl vv vc m1 m2) (hw : ∃ kl, keyOf Try.prog 34 (haV e.h) = some kl) (hw2 : ∃ kl, keyOf Try.prog 34 (haV e.new) = some kl) (hn : n ≤ 1000000) (hll : s.lives.length ≤ 1000000) (hk : e.k = 4) (k : Nat) (x : Life) (ha : s.at_ e.h = some k) (hx : s.lives[k]? = some x) (ht : x.til > i) :
    Calls Try.prog 84 #[.pointer (some ⟨b, 0, none⟩), .int .i64 (i : Int), .agg (evA e)] w (TurnPost B b (n + 1) (turnF s i e) vl vc vv m1 m2 w) := by
  have hu97 := Try.underlying97
  have hu54 := Try.underlying54
  have hu34 := Try.underlying34
  have hu99 := Try.underlying99
  have HF1 := Aside0.mk (show turn1 s i e = { s with lives := s.lives.set k { x with til := (i : Int) } } from turn1_set ha hx (.inl hk) ht)
  have HF := Aside0.mk (show turnF s i e = { s with lives := s.lives.set k { x with til := (i : Int) } } by unfold turnF; rw [HF1.out]; exact turn2_no (by omega))
  have qk4 : (e.k == 4) = true := beq_iff_eq.2 (by omega)
  have rk4 : (e.k != 4) = false := bne_eq_false_iff_eq.2 (by omega)
  have qk3 : (e.k == 3) = false := beq_eq_false_iff_ne.2 (by omega)
  have rk3 : (e.k != 3) = true := bne_iff_ne.2 (by omega)
  have hl0 := fun q => (Mid.start hB e).look hw ((w.alloc (.cells (evA e) 54)).drewN q) rfl
  rw [show (e.hn, e.hg) = e.h from rfl, ha] at hl0
  simp only [Option.map_some, Option.getD_some, Option.isSome_some] at hl0
  obtain ⟨g, cp, rfl, hcp, hgl, hcell⟩ := hB.rv.at_ (fun _ => rfl) hx
  have hkl : k < s.lives.length := (List.getElem?_eq_some_iff.1 hx).1
  have p0 := eq_true (show (0 : Int) ≤ (k : Int) by omega)
  have p1 := eq_true (show (k : Int) < (s.lives.length : Int) by omega)
  have c4 := (below_alloc (Below.refl w.heap.size w) (.cells (evA e) 54)).cell (p := ⟨g, k * 6 + 4, none⟩) hgl |>.trans (hcell 4 (by decide))
  have gt : decide (x.til > (i : Int)) = true := decide_eq_true ht
  obtain ⟨cur, hcur⟩ := hB.rv.own (show (Value.slice (some ⟨g, 0, none⟩) s.lives.length cp).ownBlock = some g from rfl)
  have fz := blk_frozen (blk_alloc hcur (.cells (evA e) 54)) (k * 6 + 4)
  have HX := Aside0.mk hx
  clear hcur hx
  clear hcell hkl
  have HB := Aside0.mk hB
  have hlt := hB.lt
  have hc := fun i => hB.cell i
  have HW2 := Aside0.mk hw2
  have HN := Aside0.mk hn
  have HLL := Aside0.mk hll
  clear hB hw hw2 hn hll hk ha ht
  go_enter Try.func84, Try.ntmps84
  go_wp2
  go_quiet (fail)
  go_wp2
  all_goals
    go_end0
    exact ⟨rfl, _, by rw [HF.out]; exact (((Mid.start HB.out e).drewN _).put (i : Int) HX.out).st.up (by omega), (((Mid.start HB.out e).drewN _).put (i : Int) HX.out).fr⟩

set_option maxHeartbeats 4000000 in
set_option maxRecDepth 100000 in
theorem turn_fire_keep {B b n m1 m2 : Nat} {s : Story} {vl vv vc : Value} (i : Nat) (e : Ev) (w : World) (hB : StIs w B b n s vl vv vc m1 m2) (hw : ∃ kl, keyOf Try.prog 34 (haV e.h) = some kl) (hw2 : ∃ kl, keyOf Try.prog 34 (haV e.new) = some kl) (hn : n ≤ 1000000) (hll : s.lives.length ≤ 1000000) (hk : e.k = 4) (k : Nat) (x : Life) (ha : s.at_ e.h = some k) (hx : s.lives[k]? = some x) (ht : ¬ x.til > i) :
    Calls Try.prog 84 #[.pointer (some ⟨b, 0, none⟩), .int .i64 (i : Int), .agg (evA e)] w (TurnPost B b (n + 1) (turnF s i e) vl vc vv m1 m2 w) := by
  have hu97 := Try.underlying97
  have hu54 := Try.underlying54
  have hu34 := Try.underlying34
  have hu99 := Try.underlying99
  have HF1 := Aside0.mk (show turn1 s i e = s from turn1_keep ha hx ht)
  have HF := Aside0.mk (show turnF s i e = s by unfold turnF; rw [HF1.out]; exact turn2_no (by omega))
  have qk4 : (e.k == 4) = true := beq_iff_eq.2 (by omega)
  have rk4 : (e.k != 4) = false := bne_eq_false_iff_eq.2 (by omega)
  have qk3 : (e.k == 3) = false := beq_eq_false_iff_ne.2 (by omega)
  have rk3 : (e.k != 3) = true := bne_iff_ne.2 (by omega)
  have hl0 := fun q => (Mid.start hB e).look hw ((w.alloc (.cells (evA e) 54)).drewN q) rfl
  rw [show (e.hn, e.hg) = e.h from rfl, ha] at hl0
  simp only [Option.map_some, Option.getD_some, Option.isSome_some] at hl0
  obtain ⟨g, cp, rfl, hcp, hgl, hcell⟩ := hB.rv.at_ (fun _ => rfl) hx
  have hkl : k < s.lives.length := (List.getElem?_eq_some_iff.1 hx).1
  have p0 := eq_true (show (0 : Int) ≤ (k : Int) by omega)
  have p1 := eq_true (show (k : Int) < (s.lives.length : Int) by omega)
  have c4 := (below_alloc (Below.refl w.heap.size w) (.cells (evA e) 54)).cell (p := ⟨g, k * 6 + 4, none⟩) hgl |>.trans (hcell 4 (by decide))
  have gt : decide (x.til > (i : Int)) = false := decide_eq_false ht
  clear hcell hkl hx
  have HB := Aside0.mk hB
  have hlt := hB.lt
  have hc := fun i => hB.cell i
  have HW2 := Aside0.mk hw2
  have HN := Aside0.mk hn
  have HLL := Aside0.mk hll
  clear hB hw hw2 hn hll hk ha ht
  go_enter Try.func84, Try.ntmps84
  go_wp2
  go_quiet (fail)
  go_wp2
  all_goals
    go_end0
    exact ⟨rfl, _, by rw [HF.out]; exact ((Mid.start HB.out e).drewN _).st.up (by omega), ((Mid.start HB.out e).drewN _).fr⟩

set_option maxHeartbeats 4000000 in
set_option maxRecDepth 100000 in
theorem turn_cancel_none {B b n m1 m2 : Nat} {s : Story} {vl vv vc : Value} (i : Nat) (e : Ev) (w : World) (hB : StIs w B b n s vl vv vc m1 m2) (hw : ∃ kl, keyOf Try.prog 34 (haV e.h) = some kl) (hw2 : ∃ kl, keyOf Try.prog 34 (haV e.new) = some kl) (hn : n ≤ 1000000) (hll : s.lives.length ≤ 1000000) (hk : e.k = 3) (ho : e.op = 2) (hy : e.y = true) (ha : s.at_ e.h = none) :
    Calls Try.prog 84 #[.pointer (some ⟨b, 0, none⟩), .int .i64 (i : Int), .agg (evA e)] w (TurnPost B b (n + 1) (turnF s i e) vl vc vv m1 m2 w) := by
  have hu97 := Try.underlying97
  have hu54 := Try.underlying54
  have hu34 := Try.underlying34
  have hu99 := Try.underlying99
  have HF1 := Aside0.mk (show turn1 s i e = s from turn1_none ha)
  have HF := Aside0.mk (show turnF s i e = s by unfold turnF; rw [HF1.out]; exact turn2_no (by omega))
  have qk4 : (e.k == 4) = false := beq_eq_false_iff_ne.2 (by omega)
  have rk4 : (e.k != 4) = true := bne_iff_ne.2 (by omega)
  have qk3 : (e.k == 3) = true := beq_iff_eq.2 (by omega)
  have rk3 : (e.k != 3) = false := bne_eq_false_iff_eq.2 (by omega)
  have qop2 : (e.op == 2) = true := beq_iff_eq.2 (by omega)
  have rop2 : (e.op != 2) = false := bne_eq_false_iff_eq.2 (by omega)
  have qop3 : (e.op == 3) = false := beq_eq_false_iff_ne.2 (by omega)
  have rop3 : (e.op != 3) = true := bne_iff_ne.2 (by omega)
  have qop1 : (e.op == 1) = false := beq_eq_false_iff_ne.2 (by omega)
  have rop1 : (e.op != 1) = true := bne_iff_ne.2 (by omega)
  have hl0 := fun q => (Mid.start hB e).look hw ((w.alloc (.cells (evA e) 54)).drewN q) rfl
  rw [show (e.hn, e.hg) = e.h from rfl, ha] at hl0
  simp only [Option.map_none, Option.getD_none, Option.isSome_none] at hl0
  have HB := Aside0.mk hB
  have hlt := hB.lt
  have hc := fun i => hB.cell i
  have HW2 := Aside0.mk hw2
  have HN := Aside0.mk hn
  have HLL := Aside0.mk hll
  clear hB hw hw2 hn hll hk ho ha
  go_enter Try.func84, Try.ntmps84
  go_wp2
  go_quiet (fail)
  go_wp2
  all_goals
    go_end0
    exact ⟨rfl, _, by rw [HF.out]; exact ((Mid.start HB.out e).drewN _).st.up (by omega), ((Mid.start HB.out e).drewN _).fr⟩

set_option maxHeartbeats 4000000 in
set_option maxRecDepth 100000 in
theorem turn_cancel_set {B b n m1 m2 : Nat} {s : Story} {vl vv vc : Value} (i : Nat) (e : Ev) (w : World) (hB : StIs w B b n s vl vv vc m1 m2) (hw : ∃ kl, keyOf Try.prog 34 (haV e.h) = some kl) (hw2 : ∃ kl, keyOf Try.prog 34 (haV e.new) = some kl) (hn : n ≤ 1000000) (hll : s.lives.length ≤ 1000000) (hk : e.k = 3) (ho : e.op = 2) (hy : e.y = true) (k : Nat) (x : Life) (ha : s.at_ e.h = some k) (hx : s.lives[k]? = some x) (ht : x.til > i) :
    Calls Try.prog 84 #[.pointer (some ⟨b, 0, none⟩), .int .i64 (i : Int), .agg (evA e)] w (TurnPost B b (n + 1) (turnF s i e) vl vc vv m1 m2 w) := by
  have hu97 := Try.underlying97
  have hu54 := Try.underlying54
  have hu34 := Try.underlying34
  have hu99 := Try.underlying99
  have HF1 := Aside0.mk (show turn1 s i e = { s with lives := s.lives.set k { x with til := (i : Int) } } from turn1_set ha hx (.inr (.inl ⟨ho, hy⟩)) ht)
  have HF := Aside0.mk (show turnF s i e = { s with lives := s.lives.set k { x with til := (i : Int) } } by unfold turnF; rw [HF1.out]; exact turn2_no (by omega))
  have qk4 : (e.k == 4) = false := beq_eq_false_iff_ne.2 (by omega)
  have rk4 : (e.k != 4) = true := bne_iff_ne.2 (by omega)
  have qk3 : (e.k == 3) = true := beq_iff_eq.2 (by omega)
  have rk3 : (e.k != 3) = false := bne_eq_false_iff_eq.2 (by omega)
  have qop2 : (e.op == 2) = true := beq_iff_eq.2 (by omega)
  have rop2 : (e.op != 2) = false := bne_eq_false_iff_eq.2 (by omega)
  have qop3 : (e.op == 3) = false := beq_eq_false_iff_ne.2 (by omega)
  have rop3 : (e.op != 3) = true := bne_iff_ne.2 (by omega)
  have qop1 : (e.op == 1) = false := beq_eq_false_iff_ne.2 (by omega)
  have rop1 : (e.op != 1) = true := bne_iff_ne.2 (by omega)
  have hl0 := fun q => (Mid.start hB e).look hw ((w.alloc (.cells (evA e) 54)).drewN q) rfl
  rw [show (e.hn, e.hg) = e.h from rfl, ha] at hl0
  simp only [Option.map_some, Option.getD_some, Option.isSome_some] at hl0
  obtain ⟨g, cp, rfl, hcp, hgl, hcell⟩ := hB.rv.at_ (fun _ => rfl) hx
  have hkl : k < s.lives.length := (List.getElem?_eq_some_iff.1 hx).1
  have p0 := eq_true (show (0 : Int) ≤ (k : Int) by omega)
  have p1 := eq_true (show (k : Int) < (s.lives.length : Int) by omega)
  have c4 := (below_alloc (Below.refl w.heap.size w) (.cells (evA e) 54)).cell (p := ⟨g, k * 6 + 4, none⟩) hgl |>.trans (hcell 4 (by decide))
  have gt : decide (x.til > (i : Int)) = true := decide_eq_true ht
  obtain ⟨cur, hcur⟩ := hB.rv.own (show (Value.slice (some ⟨g, 0, none⟩) s.lives.length cp).ownBlock = some g from rfl)
  have fz := blk_frozen (blk_alloc hcur (.cells (evA e) 54)) (k * 6 + 4)
  have HX := Aside0.mk hx
  clear hcur hx
  clear hcell hkl
  have HB := Aside0.mk hB
  have hlt := hB.lt
  have hc := fun i => hB.cell i
  have HW2 := Aside0.mk hw2
  have HN := Aside0.mk hn
  have HLL := Aside0.mk hll
  clear hB hw hw2 hn hll hk ho ha ht
  go_enter Try.func84, Try.ntmps84
  go_wp2
  go_quiet (fail)
  go_wp2
  all_goals
    go_end0
    exact ⟨rfl, _, by rw [HF.out]; exact (((Mid.start HB.out e).drewN _).put (i : Int) HX.out).st.up (by omega), (((Mid.start HB.out e).drewN _).put (i : Int) HX.out).fr⟩

set_option maxHeartbeats 4000000 in
set_option maxRecDepth 100000 in
theorem turn_cancel_keep {B b n m1 m2 : Nat} {s : Story} {vl vv vc : Value} (i : Nat) (e : Ev) (w : World) (hB : StIs w B b n s vl vv vc m1 m2) (hw : ∃ kl, keyOf Try.prog 34 (haV e.h) = some kl) (hw2 : ∃ kl, keyOf Try.prog 34 (haV e.new) = some kl) (hn : n ≤ 1000000) (hll : s.lives.length ≤ 1000000) (hk : e.k = 3) (ho : e.op = 2) (hy : e.y = true) (k : Nat) (x : Life) (ha : s.at_ e.h = some k) (hx : s.lives[k]? = some x) (ht : ¬ x.til > i) :
    Calls Try.prog 84 #[.pointer (some ⟨b, 0, none⟩), .int .i64 (i : Int), .agg (evA e)] w (TurnPost B b (n + 1) (turnF s i e) vl vc vv m1 m2 w) := by
  have hu97 := Try.underlying97
  have hu54 := Try.underlying54
  have hu34 := Try.underlying34
  have hu99 := Try.underlying99
  have HF1 := Aside0.mk (show turn1 s i e = s from turn1_keep ha hx ht)
  have HF := Aside0.mk (show turnF s i e = s by unfold turnF; rw [HF1.out]; exact turn2_no (by omega))
  have qk4 : (e.k == 4) = false := beq_eq_false_iff_ne.2 (by omega)
  have rk4 : (e.k != 4) = true := bne_iff_ne.2 (by omega)
  have qk3 : (e.k == 3) = true := beq_iff_eq.2 (by omega)
  have rk3 : (e.k != 3) = false := bne_eq_false_iff_eq.2 (by omega)
  have qop2 : (e.op == 2) = true := beq_iff_eq.2 (by omega)
  have rop2 : (e.op != 2) = false := bne_eq_false_iff_eq.2 (by omega)
  have qop3 : (e.op == 3) = false := beq_eq_false_iff_ne.2 (by omega)
  have rop3 : (e.op != 3) = true := bne_iff_ne.2 (by omega)
  have qop1 : (e.op == 1) = false := beq_eq_false_iff_ne.2 (by omega)
  have rop1 : (e.op != 1) = true := bne_iff_ne.2 (by omega)
  have hl0 := fun q => (Mid.start hB e).look hw ((w.alloc (.cells (evA e) 54)).drewN q) rfl
  rw [show (e.hn, e.hg) = e.h from rfl, ha] at hl0
  simp only [Option.map_some, Option.getD_some, Option.isSome_some] at hl0
  obtain ⟨g, cp, rfl, hcp, hgl, hcell⟩ := hB.rv.at_ (fun _ => rfl) hx
  have hkl : k < s.lives.length := (List.getElem?_eq_some_iff.1 hx).1
  have p0 := eq_true (show (0 : Int) ≤ (k : Int) by omega)
  have p1 := eq_true (show (k : Int) < (s.lives.length : Int) by omega)
  have c4 := (below_alloc (Below.refl w.heap.size w) (.cells (evA e) 54)).cell (p := ⟨g, k * 6 + 4, none⟩) hgl |>.trans (hcell 4 (by decide))
  have gt : decide (x.til > (i : Int)) = false := decide_eq_false ht
  clear hcell hkl hx
  have HB := Aside0.mk hB
  have hlt := hB.lt
  have hc := fun i => hB.cell i
  have HW2 := Aside0.mk hw2
  have HN := Aside0.mk hn
  have HLL := Aside0.mk hll
  clear hB hw hw2 hn hll hk ho ha ht
  go_enter Try.func84, Try.ntmps84
  go_wp2
  go_quiet (fail)
  go_wp2
  all_goals
    go_end0
    exact ⟨rfl, _, by rw [HF.out]; exact ((Mid.start HB.out e).drewN _).st.up (by omega), ((Mid.start HB.out e).drewN _).fr⟩

set_option maxHeartbeats 4000000 in
set_option maxRecDepth 100000 in
theorem turn_cancel_no {B b n m1 m2 : Nat} {s : Story} {vl vv vc : Value} (i : Nat) (e : Ev) (w : World) (hB : StIs w B b n s vl vv vc m1 m2) (hw : ∃ kl, keyOf Try.prog 34 (haV e.h) = some kl) (hw2 : ∃ kl, keyOf Try.prog 34 (haV e.new) = some kl) (hn : n ≤ 1000000) (hll : s.lives.length ≤ 1000000) (hk : e.k = 3) (ho : e.op = 2) (hy : e.y = false) :
    Calls Try.prog 84 #[.pointer (some ⟨b, 0, none⟩), .int .i64 (i : Int), .agg (evA e)] w (TurnPost B b (n + 1) (turnF s i e) vl vc vv m1 m2 w) := by
  have hu97 := Try.underlying97
  have hu54 := Try.underlying54
  have hu34 := Try.underlying34
  have hu99 := Try.underlying99
  have HF1 := Aside0.mk (show turn1 s i e = s from turn1_no (by rintro (q | q | q); omega; (rw [hy] at q; exact absurd q.2 (by decide)); omega))
  have HF := Aside0.mk (show turnF s i e = s by unfold turnF; rw [HF1.out]; exact turn2_no (by omega))
  have qk4 : (e.k == 4) = false := beq_eq_false_iff_ne.2 (by omega)
  have rk4 : (e.k != 4) = true := bne_iff_ne.2 (by omega)
  have qk3 : (e.k == 3) = true := beq_iff_eq.2 (by omega)
  have rk3 : (e.k != 3) = false := bne_eq_false_iff_eq.2 (by omega)
  have qop2 : (e.op == 2) = true := beq_iff_eq.2 (by omega)
  have rop2 : (e.op != 2) = false := bne_eq_false_iff_eq.2 (by omega)
  have qop3 : (e.op == 3) = false := beq_eq_false_iff_ne.2 (by omega)
  have rop3 : (e.op != 3) = true := bne_iff_ne.2 (by omega)
  have qop1 : (e.op == 1) = false := beq_eq_false_iff_ne.2 (by omega)
  have rop1 : (e.op != 1) = true := bne_iff_ne.2 (by omega)
  have hl0 := fun q => (Mid.start hB e).look hw ((w.alloc (.cells (evA e) 54)).drewN q) rfl
  obtain ⟨z0, hz0⟩ : ∃ z0, ((s.at_ (e.hn, e.hg)).map (fun j => (j : Int))).getD 0 = z0 := ⟨_, rfl⟩
  obtain ⟨z1, hz1⟩ : ∃ z1, (s.at_ (e.hn, e.hg)).isSome = z1 := ⟨_, rfl⟩
  rw [hz0, hz1] at hl0
  clear hz0 hz1
  have HB := Aside0.mk hB
  have hlt := hB.lt
  have hc := fun i => hB.cell i
  have HW2 := Aside0.mk hw2
  have HN := Aside0.mk hn
  have HLL := Aside0.mk hll
  clear hB hw hw2 hn hll hk ho
  go_enter Try.func84, Try.ntmps84
  go_wp2
  go_quiet (fail)
  go_wp2
  all_goals
    go_end0
    exact ⟨rfl, _, by rw [HF.out]; exact ((Mid.start HB.out e).drewN _).st.up (by omega), ((Mid.start HB.out e).drewN _).fr⟩

set_option maxHeartbeats 4000000 in
set_option maxRecDepth 100000 in
theorem turn_rearm_none_old {B b n m1 m2 : Nat} {s : Story} {vl vv vc : Value} (i : Nat) (e : Ev) (w : World) (hB : StIs w B b n s vl vv vc m1 m2) (hw : ∃ kl, keyOf Try.prog 34 (haV e.h) = some kl) (hw2 : ∃ kl, keyOf Try.prog 34 (haV e.new) = some kl) (hn : n ≤ 1000000) (hll : s.lives.length ≤ 1000000) (hk : e.k = 3) (ho : e.op = 3) (he : e.er = 0) (ha : s.at_ e.h = none) (j : Nat) (hj : s.at_ e.new = some j) :
    Calls Try.prog 84 #[.pointer (some ⟨b, 0, none⟩), .int .i64 (i : Int), .agg (evA e)] w (TurnPost B b (n + 1) (turnF s i e) vl vc vv m1 m2 w) := by
  obtain ⟨A9, c9, rfl, hc9⟩ := hB.rv.form
  clear hc9
  have hu97 := Try.underlying97
  have hu54 := Try.underlying54
  have hu34 := Try.underlying34
  have hu99 := Try.underlying99
  have HF1 := Aside0.mk (show turn1 s i e = s from turn1_none ha)
  have HF := Aside0.mk (show turnF s i e = s by unfold turnF; rw [HF1.out]; exact turn2_old hj)
  have qk4 : (e.k == 4) = false := beq_eq_false_iff_ne.2 (by omega)
  have rk4 : (e.k != 4) = true := bne_iff_ne.2 (by omega)
  have qk3 : (e.k == 3) = true := beq_iff_eq.2 (by omega)
  have rk3 : (e.k != 3) = false := bne_eq_false_iff_eq.2 (by omega)
  have qop2 : (e.op == 2) = false := beq_eq_false_iff_ne.2 (by omega)
  have rop2 : (e.op != 2) = true := bne_iff_ne.2 (by omega)
  have qop3 : (e.op == 3) = true := beq_iff_eq.2 (by omega)
  have rop3 : (e.op != 3) = false := bne_eq_false_iff_eq.2 (by omega)
  have qop1 : (e.op == 1) = false := beq_eq_false_iff_ne.2 (by omega)
  have rop1 : (e.op != 1) = true := bne_iff_ne.2 (by omega)
  have qer0 : (e.er == 0) = true := beq_iff_eq.2 (by omega)
  have rer0 : (e.er != 0) = false := bne_eq_false_iff_eq.2 (by omega)
  have hl0 := fun q => (Mid.start hB e).look hw ((w.alloc (.cells (evA e) 54)).drewN q) rfl
  rw [show (e.hn, e.hg) = e.h from rfl, ha] at hl0
  simp only [Option.map_none, Option.getD_none, Option.isSome_none] at hl0
  have HB := Aside0.mk hB
  have hlt := hB.lt
  have hc := fun i => hB.cell i
  have HW2 := Aside0.mk hw2
  have HN := Aside0.mk hn
  have HLL := Aside0.mk hll
  have HJ := Aside0.mk hj
  clear hB hw hw2 hn hll hk ho he ha hj
  go_enter Try.func84, Try.ntmps84
  go_wp2
  go_quiet (fail)
  go_upto_region 5 with (fail)
  refine gen_world (fun W => Mid w W B b n m1 m2 (.slice A9 s.lives.length c9) s vl (.slice A9 s.lives.length c9) vc e) (by exact (Mid.start HB.out e).drewN _) fun W hM => ?_
  clear hlt hc hl0
  have hlt := hM.st.lt
  have hc := fun i => hM.st.cell i
  have hel := blk_lt hM.ev
  have hce := fun i => blk_cell hM.ev i
  have HM := Aside0.mk hM
  have hl1 := fun q => hM.look HW2.out (W.drewN q) rfl
  simp only [show (e.nn, e.ng) = e.new from rfl, HJ.out] at hl1
  clear hM
  simp only [Option.map_some, Option.getD_some, Option.isSome_some] at hl1
  go_wp2
  go_quiet (fail)
  go_wp2
  go_end0
  exact ⟨rfl, _, by rw [HF.out]; exact (HM.out.drewN _).st.up (by omega), (HM.out.drewN _).fr⟩

set_option maxHeartbeats 4000000 in
set_option maxRecDepth 100000 in
theorem turn_rearm_none_new {B b n m1 m2 : Nat} {s : Story} {vl vv vc : Value} (i : Nat) (e : Ev) (w : World) (hB : StIs w B b n s vl vv vc m1 m2) (hw : ∃ kl, keyOf Try.prog 34 (haV e.h) = some kl) (hw2 : ∃ kl, keyOf Try.prog 34 (haV e.new) = some kl) (hn : n ≤ 1000000) (hll : s.lives.length ≤ 1000000) (hk : e.k = 3) (ho : e.op = 3) (he : e.er = 0) (ha : s.at_ e.h = none) (hj : s.at_ e.new = none) :
    Calls Try.prog 84 #[.pointer (some ⟨b, 0, none⟩), .int .i64 (i : Int), .agg (evA e)] w (TurnPost B b (n + 1) (turnF s i e) vl vc vv m1 m2 w) := by
  obtain ⟨A9, c9, rfl, hc9⟩ := hB.rv.form
  clear hc9
  have hu97 := Try.underlying97
  have hu54 := Try.underlying54
  have hu34 := Try.underlying34
  have hu99 := Try.underlying99
  have HF1 := Aside0.mk (show turn1 s i e = s from turn1_none ha)
  have HF := Aside0.mk (show turnF s i e = { (s : Story) with at_ := updH s.at_ e.new s.lives.length, lives := (s : Story).lives ++ [⟨e.nn, e.ng, i, e.wk, noEnd, e.t⟩] } by unfold turnF; rw [HF1.out, turn2_new (s := s) (by omega) hj])
  have qk4 : (e.k == 4) = false := beq_eq_false_iff_ne.2 (by omega)
  have rk4 : (e.k != 4) = true := bne_iff_ne.2 (by omega)
  have qk3 : (e.k == 3) = true := beq_iff_eq.2 (by omega)
  have rk3 : (e.k != 3) = false := bne_eq_false_iff_eq.2 (by omega)
  have qop2 : (e.op == 2) = false := beq_eq_false_iff_ne.2 (by omega)
  have rop2 : (e.op != 2) = true := bne_iff_ne.2 (by omega)
  have qop3 : (e.op == 3) = true := beq_iff_eq.2 (by omega)
  have rop3 : (e.op != 3) = false := bne_eq_false_iff_eq.2 (by omega)
  have qop1 : (e.op == 1) = false := beq_eq_false_iff_ne.2 (by omega)
  have rop1 : (e.op != 1) = true := bne_iff_ne.2 (by omega)
  have qer0 : (e.er == 0) = true := beq_iff_eq.2 (by omega)
  have rer0 : (e.er != 0) = false := bne_eq_false_iff_eq.2 (by omega)
  have hl0 := fun q => (Mid.start hB e).look hw ((w.alloc (.cells (evA e) 54)).drewN q) rfl
  rw [show (e.hn, e.hg) = e.h from rfl, ha] at hl0
  simp only [Option.map_none, Option.getD_none, Option.isSome_none] at hl0
  have HB := Aside0.mk hB
  have hlt := hB.lt
  have hc := fun i => hB.cell i
  have HW2 := Aside0.mk hw2
  have HN := Aside0.mk hn
  have HLL := Aside0.mk hll
  have HJ := Aside0.mk hj
  clear hB hw hw2 hn hll hk ho he ha hj
  go_enter Try.func84, Try.ntmps84
  go_wp2
  go_quiet (fail)
  go_upto_region 5 with (fail)
  refine gen_world (fun W => Mid w W B b n m1 m2 (.slice A9 s.lives.length c9) s vl (.slice A9 s.lives.length c9) vc e) (by exact (Mid.start HB.out e).drewN _) fun W hM => ?_
  clear hlt hc hl0
  have hlt := hM.st.lt
  have hc := fun i => hM.st.cell i
  have hel := blk_lt hM.ev
  have hce := fun i => blk_cell hM.ev i
  have HM := Aside0.mk hM
  have hl1 := fun q => hM.look HW2.out (W.drewN q) rfl
  simp only [show (e.nn, e.ng) = e.new from rfl, HJ.out] at hl1
  clear hM
  simp only [Option.map_none, Option.getD_none, Option.isSome_none] at hl1
  go_wp2
  go_quiet (fail)
  go_wp2
  refine gen_world (fun W2 => Mid w W2 B b n m1 m2 (.slice A9 s.lives.length c9) s vl (.slice A9 s.lives.length c9) vc e) (by exact HM.out.drewN _) fun W2 hM2 => ?_
  clear hlt hc hel hce hl1
  refine still_tail_at 11 (by kernel_rfl) (by kernel_rfl) fun w2 hw2 => ?_
  have HM3 := Aside0.mk (show Mid w w2 B b n m1 m2 (.slice A9 s.lives.length c9) s vl (.slice A9 s.lives.length c9) vc e by rw [hw2]; exact hM2.drew)
  clear hw2 hM2 HM
  have hlt := HM3.out.st.lt
  have hc := fun i => HM3.out.st.cell i
  have hel := blk_lt HM3.out.ev
  have hce := fun i => blk_cell HM3.out.ev i
  simp only [List.take_succ_cons, List.take_zero, List.drop_succ_cons, List.drop_zero]
  repeat still_step
  refine wpStill_nil ?_
  obtain ⟨z1, hz1, hm1⟩ := HM3.out.st.ma
  obtain ⟨kl2, hkl2⟩ := HW2.out
  refine wpl_store ha_inj rfl _ _ _ 86 rfl hm1 lawH Try.underlying86 (by unfold maxLen; have := HN.out; omega) (y := e.new) hkl2 (val := .int .i64 (s.lives.length : Int)) rfl rfl rfl ?_
  intro w4 hm4 hg4
  rw [nV_upd] at hm4
  have HM4 := Aside0.mk (HM3.out.stored hm4 (by split <;> omega) hg4)
  clear hlt hc hel hce hm4 hg4 hm1 hz1 HM3 hkl2
  go_wp2
  have HSL : (s : Story).lives.length ≤ 1000000 := by first | exact HLL.out | (simp only [List.length_set]; exact HLL.out)
  have hlt := HM4.out.st.lt
  have hel := blk_lt HM4.out.ev
  have hll := HLL.out
  refine start_ (n := 18) (S := (fun w' => (∀ i, w'.cell? ⟨b, i, none⟩ = (stA vl (.slice A9 s.lives.length c9) vc m1 m2)[i]?) ∧ (∀ i, w'.cell? ⟨w.heap.size, i, none⟩ = (evA e)[i]?) ∧ (∀ i, w'.frozen? ⟨b, i, none⟩ = false))) (ds := [17]) #[false, false, false, false, false, false, false, false, false, false, false, false, false, false, false, false, false, false] (by kernel_rfl) rfl rfl HM4.out.drew.cells (fun hHeld => ?_)
  refine with_tabW turn.tab9 turn.bits9 (fun HT_ HW_ => ?_)
  have HM5 := Aside0.mk HM4.out.drew
  generalize w4.drew = w5 at HM5 hHeld ⊢
  clear hlt hel
  have hlt := HM5.out.st.lt
  refine pure_ (i := 0) (N := (some 108)) (v := ?_) (a' := ?_) #[true, false, false, false, false, false, false, false, false, false, false, false, false, false, false, false, false, false] rfl rfl (any_of HT_.out (by kernel_rfl)) (fun _ _ _ h => h) (Or.inl ⟨by rfl, ?_⟩) ?_ ?_
  rotate_left
  · intro w'
    go_simp
    with_reducible rfl
  rotate_left
  · simp only [Act.put, List.setIfInBounds_toArray, List.set_cons_zero, List.set_cons_succ, i64_w, i32_w]
    rfl
  refine pure_ (i := 1) (N := (some 109)) (v := ?_) (a' := ?_) #[true, true, false, false, false, false, false, false, false, false, false, false, false, false, false, false, false, false] rfl rfl (any_of HT_.out (by kernel_rfl)) (fun _ _ _ h => h) (Or.inl ⟨by rfl, ?_⟩) ?_ ?_
  rotate_left
  · intro w'
    go_simp
    with_reducible rfl
  rotate_left
  · simp only [Act.put, List.setIfInBounds_toArray, List.set_cons_zero, List.set_cons_succ, i64_w, i32_w]
    rfl
  refine pure_ (i := 2) (N := (some 110)) (v := ?_) (a' := ?_) #[true, true, true, false, false, false, false, false, false, false, false, false, false, false, false, false, false, false] rfl rfl (any_of HT_.out (by kernel_rfl)) (fun _ _ _ h => h) (Or.inl ⟨by rfl, ?_⟩) ?_ ?_
  rotate_left
  · intro w'
    go_simp
    with_reducible rfl
  rotate_left
  · simp only [Act.put, List.setIfInBounds_toArray, List.set_cons_zero, List.set_cons_succ, i64_w, i32_w]
    rfl
  refine pure_ (i := 3) (N := (some 111)) (v := ?_) (a' := ?_) #[true, true, true, true, false, false, false, false, false, false, false, false, false, false, false, false, false, false] rfl rfl (any_of HT_.out (by kernel_rfl)) (fun _ _ _ h => h) (Or.inl ⟨by rfl, ?_⟩) ?_ ?_
  rotate_left
  · intro w'
    go_simp
    with_reducible rfl
  rotate_left
  · simp only [Act.put, List.setIfInBounds_toArray, List.set_cons_zero, List.set_cons_succ, i64_w, i32_w]
    rfl
  refine pure_ (i := 5) (N := (some 113)) (v := ?_) (a' := ?_) #[true, true, true, true, false, true, false, false, false, false, false, false, false, false, false, false, false, false] rfl rfl (any_of HT_.out (by kernel_rfl)) (fun _ _ _ h => h) (Or.inl ⟨by rfl, ?_⟩) ?_ ?_
  rotate_left
  · intro w'
    go_simp
    with_reducible rfl
  rotate_left
  · simp only [Act.put, List.setIfInBounds_toArray, List.set_cons_zero, List.set_cons_succ, i64_w, i32_w]
    rfl
  refine pure_ (i := 7) (N := (some 115)) (v := ?_) (a' := ?_) #[true, true, true, true, false, true, false, true, false, false, false, false, false, false, false, false, false, false] rfl rfl (any_of HT_.out (by kernel_rfl)) (fun _ _ _ h => h) (Or.inl ⟨by rfl, ?_⟩) ?_ ?_
  rotate_left
  · intro w'
    go_simp
    with_reducible rfl
  rotate_left
  · simp only [Act.put, List.setIfInBounds_toArray, List.set_cons_zero, List.set_cons_succ, i64_w, i32_w]
    rfl
  refine pure_ (i := 8) (N := (some 116)) (v := ?_) (a' := ?_) #[true, true, true, true, false, true, false, true, true, false, false, false, false, false, false, false, false, false] rfl rfl (any_of HT_.out (by kernel_rfl)) (fun _ _ _ h => h) (Or.inl ⟨by rfl, ?_⟩) ?_ ?_
  rotate_left
  · intro w'
    go_simp
    with_reducible rfl
  rotate_left
  · simp only [Act.put, List.setIfInBounds_toArray, List.set_cons_zero, List.set_cons_succ, i64_w, i32_w]
    rfl
  refine pure_ (i := 10) (N := (some 118)) (v := ?_) (a' := ?_) #[true, true, true, true, false, true, false, true, true, false, true, false, false, false, false, false, false, false] rfl rfl (any_of HT_.out (by kernel_rfl)) (fun _ _ _ h => h) (Or.inl ⟨by rfl, ?_⟩) ?_ ?_
  rotate_left
  · intro w'
    go_simp
    with_reducible rfl
  rotate_left
  · simp only [Act.put, List.setIfInBounds_toArray, List.set_cons_zero, List.set_cons_succ, i64_w, i32_w]
    rfl
  refine take_ (i := 4) (N := (some 112)) (v := ?_) (a' := ?_) #[true, true, true, true, true, true, false, true, true, false, true, false, false, false, false, false, false, false] rfl rfl (take_ofW HT_.out HW_.out (by kernel_rfl)) (fun _ _ _ h => h) (Or.inl ⟨by rfl, ?_⟩) hHeld ?_ ?_
  rotate_left
  · rintro w' ⟨s0, s1, s2⟩
    go_simp
    with_reducible rfl
  rotate_left
  · simp only [Act.put, List.setIfInBounds_toArray, List.set_cons_zero, List.set_cons_succ, i64_w, i32_w]
    rfl
  refine take_ (i := 6) (N := (some 114)) (v := ?_) (a' := ?_) #[true, true, true, true, true, true, true, true, true, false, true, false, false, false, false, false, false, false] rfl rfl (take_ofW HT_.out HW_.out (by kernel_rfl)) (fun _ _ _ h => h) (Or.inl ⟨by rfl, ?_⟩) hHeld ?_ ?_
  rotate_left
  · rintro w' ⟨s0, s1, s2⟩
    go_simp
    with_reducible rfl
  rotate_left
  · simp only [Act.put, List.setIfInBounds_toArray, List.set_cons_zero, List.set_cons_succ, i64_w, i32_w]
    rfl
  refine take_ (i := 9) (N := (some 117)) (v := ?_) (a' := ?_) #[true, true, true, true, true, true, true, true, true, true, true, false, false, false, false, false, false, false] rfl rfl (take_ofW HT_.out HW_.out (by kernel_rfl)) (fun _ _ _ h => h) (Or.inl ⟨by rfl, ?_⟩) hHeld ?_ ?_
  rotate_left
  · rintro w' ⟨s0, s1, s2⟩
    go_simp
    with_reducible rfl
  rotate_left
  · simp only [Act.put, List.setIfInBounds_toArray, List.set_cons_zero, List.set_cons_succ, i64_w, i32_w]
    rfl
  refine take_ (i := 11) (N := (some 119)) (v := ?_) (a' := ?_) #[true, true, true, true, true, true, true, true, true, true, true, true, false, false, false, false, false, false] rfl rfl (take_ofW HT_.out HW_.out (by kernel_rfl)) (fun _ _ _ h => h) (Or.inl ⟨by rfl, ?_⟩) hHeld ?_ ?_
  rotate_left
  · rintro w' ⟨s0, s1, s2⟩
    go_simp
    with_reducible rfl
  rotate_left
  · simp only [Act.put, List.setIfInBounds_toArray, List.set_cons_zero, List.set_cons_succ, i64_w, i32_w]
    rfl
  refine pure_ (i := 12) (N := (some 120)) (v := ?_) (a' := ?_) #[true, true, true, true, true, true, true, true, true, true, true, true, true, false, false, false, false, false] rfl rfl (any_of HT_.out (by kernel_rfl)) (fun _ _ _ h => h) (Or.inl ⟨by rfl, ?_⟩) ?_ ?_
  rotate_left
  · intro w'
    go_simp
    with_reducible rfl
  rotate_left
  · simp only [Act.put, List.setIfInBounds_toArray, List.set_cons_zero, List.set_cons_succ, i64_w, i32_w]
    rfl
  refine one_ (i := 13) (N := (some 121)) #[true, true, true, true, true, true, true, true, true, true, true, true, true, true, false, false, false, false] rfl rfl (one_of HT_.out (by kernel_rfl)) (by decide) (fun K hK => ?_)
  refine value_ (by rfl) rfl (v := .slice (some ⟨w5.heap.size, 0, none⟩) 1 1) (w1 := w5.alloc (.cells (lfA ⟨e.nn, e.ng, i, e.wk, noEnd, e.t⟩) 99)) (by go_simp; rfl) ?_
  refine hK.out _ _ (HM5.out.alloc _).cells (fun hHeld => ?_)
  clear hK K
  refine norm_ (a' := ?_) ?_ ?_
  rotate_left
  · show Act.put _ (some 121) _ = _
    simp only [Act.put, List.setIfInBounds_toArray, List.set_cons_zero, List.set_cons_succ, i64_w, i32_w]
    rfl
  refine one_ (i := 14) (N := (some 122)) #[true, true, true, true, true, true, true, true, true, true, true, true, true, true, true, false, false, false] rfl rfl (one_of HT_.out (by kernel_rfl)) (by decide) (fun K hK => ?_)
  refine step_lives (by rfl) _ _ (by rfl) HM5.out ⟨e.nn, e.ng, i, e.wk, noEnd, e.t⟩ (by rfl) (by rfl) HSL ?_
  intro gg cap6 w6 hp
  have HP := Aside0.mk hp
  clear hp
  refine hK.out _ _ HP.out.1 (fun hHeld => ?_)
  clear hK K
  refine norm_ (a' := ?_) ?_ ?_
  rotate_left
  · show Act.put _ (some 122) _ = _
    simp only [Act.put, List.setIfInBounds_toArray, List.set_cons_zero, List.set_cons_succ, i64_w, i32_w]
    rfl
  refine pure_ (i := 15) (N := (some 123)) (v := ?_) (a' := ?_) #[true, true, true, true, true, true, true, true, true, true, true, true, true, true, true, true, false, false] rfl rfl (any_of HT_.out (by kernel_rfl)) (fun _ _ _ h => h) (Or.inl ⟨by rfl, ?_⟩) ?_ ?_
  rotate_left
  · intro w'
    go_simp
    with_reducible rfl
  rotate_left
  · simp only [Act.put, List.setIfInBounds_toArray, List.set_cons_zero, List.set_cons_succ, i64_w, i32_w]
    rfl
  refine pure_ (i := 16) (N := (some 124)) (v := ?_) (a' := ?_) #[true, true, true, true, true, true, true, true, true, true, true, true, true, true, true, true, true, false] rfl rfl (any_of HT_.out (by kernel_rfl)) (fun _ _ _ h => h) (Or.inl ⟨by rfl, ?_⟩) ?_ ?_
  rotate_left
  · intro w'
    go_simp
    with_reducible rfl
  rotate_left
  · simp only [Act.put, List.setIfInBounds_toArray, List.set_cons_zero, List.set_cons_succ, i64_w, i32_w]
    rfl
  refine last_ (i := 17) (N := none) #[true, true, true, true, true, true, true, true, true, true, true, true, true, true, true, true, true, true] rfl rfl (one_of HT_.out (by kernel_rfl)) (by decide) (fun K hK => ?_)
  refine skip_ (by rfl) rfl (w1 := w6.setCell ⟨b, 1, none⟩ (.slice (some ⟨gg, 0, none⟩) (s.lives.length + 1) cap6)) (by have q1 := hHeld.1 1; have q2 := hHeld.2.2 1; go_simp) ?_
  refine hK.out _ _ ?_
  clear hK K
  refine done_ (done_of HT_.out (by kernel_rfl)) ?_
  go_wp2
  go_end0
  have hP := HP.out.2
  try simp only [List.length_set] at hP
  exact ⟨rfl, _, by rw [HF.out]; exact hP.st, hP.fr⟩

set_option maxHeartbeats 4000000 in
set_option maxRecDepth 100000 in
theorem turn_rearm_set_old {B b n m1 m2 : Nat} {s : Story} {vl vv vc : Value} (i : Nat) (e : Ev) (w : World) (hB : StIs w B b n s vl vv vc m1 m2) (hw : ∃ kl, keyOf Try.prog 34 (haV e.h) = some kl) (hw2 : ∃ kl, keyOf Try.prog 34 (haV e.new) = some kl) (hn : n ≤ 1000000) (hll : s.lives.length ≤ 1000000) (hk : e.k = 3) (ho : e.op = 3) (he : e.er = 0) (k : Nat) (x : Life) (ha : s.at_ e.h = some k) (hx : s.lives[k]? = some x) (ht : x.til > i) (j : Nat) (hj : s.at_ e.new = some j) :
    Calls Try.prog 84 #[.pointer (some ⟨b, 0, none⟩), .int .i64 (i : Int), .agg (evA e)] w (TurnPost B b (n + 1) (turnF s i e) vl vc vv m1 m2 w) := by
  have hu97 := Try.underlying97
  have hu54 := Try.underlying54
  have hu34 := Try.underlying34
  have hu99 := Try.underlying99
  have HF1 := Aside0.mk (show turn1 s i e = { s with lives := s.lives.set k { x with til := (i : Int) } } from turn1_set ha hx (.inr (.inr ⟨ho, he⟩)) ht)
  have HF := Aside0.mk (show turnF s i e = { s with lives := s.lives.set k { x with til := (i : Int) } } by unfold turnF; rw [HF1.out]; exact turn2_old hj)
  have qk4 : (e.k == 4) = false := beq_eq_false_iff_ne.2 (by omega)
  have rk4 : (e.k != 4) = true := bne_iff_ne.2 (by omega)
  have qk3 : (e.k == 3) = true := beq_iff_eq.2 (by omega)
  have rk3 : (e.k != 3) = false := bne_eq_false_iff_eq.2 (by omega)
  have qop2 : (e.op == 2) = false := beq_eq_false_iff_ne.2 (by omega)
  have rop2 : (e.op != 2) = true := bne_iff_ne.2 (by omega)
  have qop3 : (e.op == 3) = true := beq_iff_eq.2 (by omega)
  have rop3 : (e.op != 3) = false := bne_eq_false_iff_eq.2 (by omega)
  have qop1 : (e.op == 1) = false := beq_eq_false_iff_ne.2 (by omega)
  have rop1 : (e.op != 1) = true := bne_iff_ne.2 (by omega)
  have qer0 : (e.er == 0) = true := beq_iff_eq.2 (by omega)
  have rer0 : (e.er != 0) = false := bne_eq_false_iff_eq.2 (by omega)
  have hl0 := fun q => (Mid.start hB e).look hw ((w.alloc (.cells (evA e) 54)).drewN q) rfl
  rw [show (e.hn, e.hg) = e.h from rfl, ha] at hl0
  simp only [Option.map_some, Option.getD_some, Option.isSome_some] at hl0
  obtain ⟨g, cp, rfl, hcp, hgl, hcell⟩ := hB.rv.at_ (fun _ => rfl) hx
  have hkl : k < s.lives.length := (List.getElem?_eq_some_iff.1 hx).1
  have p0 := eq_true (show (0 : Int) ≤ (k : Int) by omega)
  have p1 := eq_true (show (k : Int) < (s.lives.length : Int) by omega)
  have c4 := (below_alloc (Below.refl w.heap.size w) (.cells (evA e) 54)).cell (p := ⟨g, k * 6 + 4, none⟩) hgl |>.trans (hcell 4 (by decide))
  have gt : decide (x.til > (i : Int)) = true := decide_eq_true ht
  obtain ⟨cur, hcur⟩ := hB.rv.own (show (Value.slice (some ⟨g, 0, none⟩) s.lives.length cp).ownBlock = some g from rfl)
  have fz := blk_frozen (blk_alloc hcur (.cells (evA e) 54)) (k * 6 + 4)
  have HX := Aside0.mk hx
  clear hcur hx
  clear hcell hkl
  have HB := Aside0.mk hB
  have hlt := hB.lt
  have hc := fun i => hB.cell i
  have HW2 := Aside0.mk hw2
  have HN := Aside0.mk hn
  have HLL := Aside0.mk hll
  have HJ := Aside0.mk hj
  clear hB hw hw2 hn hll hk ho he ha ht hj
  go_enter Try.func84, Try.ntmps84
  go_wp2
  go_quiet (fail)
  go_upto_region 5 with (fail)
  refine gen_world (fun W => Mid w W B b n m1 m2 (.slice (some ⟨g, 0, none⟩) s.lives.length cp) { s with lives := s.lives.set k { x with til := (i : Int) } } vl (.slice (some ⟨g, 0, none⟩) s.lives.length cp) vc e) (by exact ((Mid.start HB.out e).drewN _).put (i : Int) HX.out) fun W hM => ?_
  clear hlt hc hl0 c4 hgl
  clear fz
  have hlt := hM.st.lt
  have hc := fun i => hM.st.cell i
  have hel := blk_lt hM.ev
  have hce := fun i => blk_cell hM.ev i
  have HM := Aside0.mk hM
  have hl1 := fun q => hM.look HW2.out (W.drewN q) rfl
  simp only [show (e.nn, e.ng) = e.new from rfl, HJ.out] at hl1
  clear hM
  simp only [Option.map_some, Option.getD_some, Option.isSome_some] at hl1
  go_wp2
  go_quiet (fail)
  go_wp2
  go_end0
  exact ⟨rfl, _, by rw [HF.out]; exact (HM.out.drewN _).st.up (by omega), (HM.out.drewN _).fr⟩

set_option maxHeartbeats 4000000 in
set_option maxRecDepth 100000 in
theorem turn_rearm_set_new {B b n m1 m2 : Nat} {s : Story} {vl vv vc : Value} (i : Nat) (e : Ev) (w : World) (hB : StIs w B b n s vl vv vc m1 m2) (hw : ∃ kl, keyOf Try.prog 34 (haV e.h) = some kl) (hw2 : ∃ kl, keyOf Try.prog 34 (haV e.new) = some kl) (hn : n ≤ 1000000) (hll : s.lives.length ≤ 1000000) (hk : e.k = 3) (ho : e.op = 3) (he : e.er = 0) (k : Nat) (x : Life) (ha : s.at_ e.h = some k) (hx : s.lives[k]? = some x) (ht : x.til > i) (hj : s.at_ e.new = none) :
    Calls Try.prog 84 #[.pointer (some ⟨b, 0, none⟩), .int .i64 (i : Int), .agg (evA e)] w (TurnPost B b (n + 1) (turnF s i e) vl vc vv m1 m2 w) := by
  have hu97 := Try.underlying97
  have hu54 := Try.underlying54
  have hu34 := Try.underlying34
  have hu99 := Try.underlying99
  have HF1 := Aside0.mk (show turn1 s i e = { s with lives := s.lives.set k { x with til := (i : Int) } } from turn1_set ha hx (.inr (.inr ⟨ho, he⟩)) ht)
  have HF := Aside0.mk (show turnF s i e = { ({ s with lives := s.lives.set k { x with til := (i : Int) } } : Story) with at_ := updH s.at_ e.new s.lives.length, lives := ({ s with lives := s.lives.set k { x with til := (i : Int) } } : Story).lives ++ [⟨e.nn, e.ng, i, e.wk, noEnd, e.t⟩] } by unfold turnF; rw [HF1.out, turn2_new (s := { s with lives := s.lives.set k { x with til := (i : Int) } }) (by omega) hj]; simp only [List.length_set])
  have qk4 : (e.k == 4) = false := beq_eq_false_iff_ne.2 (by omega)
  have rk4 : (e.k != 4) = true := bne_iff_ne.2 (by omega)
  have qk3 : (e.k == 3) = true := beq_iff_eq.2 (by omega)
  have rk3 : (e.k != 3) = false := bne_eq_false_iff_eq.2 (by omega)
  have qop2 : (e.op == 2) = false := beq_eq_false_iff_ne.2 (by omega)
  have rop2 : (e.op != 2) = true := bne_iff_ne.2 (by omega)
  have qop3 : (e.op == 3) = true := beq_iff_eq.2 (by omega)
  have rop3 : (e.op != 3) = false := bne_eq_false_iff_eq.2 (by omega)
  have qop1 : (e.op == 1) = false := beq_eq_false_iff_ne.2 (by omega)
  have rop1 : (e.op != 1) = true := bne_iff_ne.2 (by omega)
  have qer0 : (e.er == 0) = true := beq_iff_eq.2 (by omega)
  have rer0 : (e.er != 0) = false := bne_eq_false_iff_eq.2 (by omega)
  have hl0 := fun q => (Mid.start hB e).look hw ((w.alloc (.cells (evA e) 54)).drewN q) rfl
  rw [show (e.hn, e.hg) = e.h from rfl, ha] at hl0
  simp only [Option.map_some, Option.getD_some, Option.isSome_some] at hl0
  obtain ⟨g, cp, rfl, hcp, hgl, hcell⟩ := hB.rv.at_ (fun _ => rfl) hx
  have hkl : k < s.lives.length := (List.getElem?_eq_some_iff.1 hx).1
  have p0 := eq_true (show (0 : Int) ≤ (k : Int) by omega)
  have p1 := eq_true (show (k : Int) < (s.lives.length : Int) by omega)
  have c4 := (below_alloc (Below.refl w.heap.size w) (.cells (evA e) 54)).cell (p := ⟨g, k * 6 + 4, none⟩) hgl |>.trans (hcell 4 (by decide))
  have gt : decide (x.til > (i : Int)) = true := decide_eq_true ht
  obtain ⟨cur, hcur⟩ := hB.rv.own (show (Value.slice (some ⟨g, 0, none⟩) s.lives.length cp).ownBlock = some g from rfl)
  have fz := blk_frozen (blk_alloc hcur (.cells (evA e) 54)) (k * 6 + 4)
  have HX := Aside0.mk hx
  clear hcur hx
  clear hcell hkl
  have HB := Aside0.mk hB
  have hlt := hB.lt
  have hc := fun i => hB.cell i
  have HW2 := Aside0.mk hw2
  have HN := Aside0.mk hn
  have HLL := Aside0.mk hll
  have HJ := Aside0.mk hj
  clear hB hw hw2 hn hll hk ho he ha ht hj
  go_enter Try.func84, Try.ntmps84
  go_wp2
  go_quiet (fail)
  go_upto_region 5 with (fail)
  refine gen_world (fun W => Mid w W B b n m1 m2 (.slice (some ⟨g, 0, none⟩) s.lives.length cp) { s with lives := s.lives.set k { x with til := (i : Int) } } vl (.slice (some ⟨g, 0, none⟩) s.lives.length cp) vc e) (by exact ((Mid.start HB.out e).drewN _).put (i : Int) HX.out) fun W hM => ?_
  clear hlt hc hl0 c4 hgl
  clear fz
  have hlt := hM.st.lt
  have hc := fun i => hM.st.cell i
  have hel := blk_lt hM.ev
  have hce := fun i => blk_cell hM.ev i
  have HM := Aside0.mk hM
  have hl1 := fun q => hM.look HW2.out (W.drewN q) rfl
  simp only [show (e.nn, e.ng) = e.new from rfl, HJ.out] at hl1
  clear hM
  simp only [Option.map_none, Option.getD_none, Option.isSome_none] at hl1
  go_wp2
  go_quiet (fail)
  go_wp2
  refine gen_world (fun W2 => Mid w W2 B b n m1 m2 (.slice (some ⟨g, 0, none⟩) s.lives.length cp) { s with lives := s.lives.set k { x with til := (i : Int) } } vl (.slice (some ⟨g, 0, none⟩) s.lives.length cp) vc e) (by exact HM.out.drewN _) fun W2 hM2 => ?_
  clear hlt hc hel hce hl1
  refine still_tail_at 11 (by kernel_rfl) (by kernel_rfl) fun w2 hw2 => ?_
  have HM3 := Aside0.mk (show Mid w w2 B b n m1 m2 (.slice (some ⟨g, 0, none⟩) s.lives.length cp) { s with lives := s.lives.set k { x with til := (i : Int) } } vl (.slice (some ⟨g, 0, none⟩) s.lives.length cp) vc e by rw [hw2]; exact hM2.drew)
  clear hw2 hM2 HM
  have hlt := HM3.out.st.lt
  have hc := fun i => HM3.out.st.cell i
  have hel := blk_lt HM3.out.ev
  have hce := fun i => blk_cell HM3.out.ev i
  simp only [List.take_succ_cons, List.take_zero, List.drop_succ_cons, List.drop_zero]
  repeat still_step
  refine wpStill_nil ?_
  obtain ⟨z1, hz1, hm1⟩ := HM3.out.st.ma
  obtain ⟨kl2, hkl2⟩ := HW2.out
  refine wpl_store ha_inj rfl _ _ _ 86 rfl hm1 lawH Try.underlying86 (by unfold maxLen; have := HN.out; omega) (y := e.new) hkl2 (val := .int .i64 (s.lives.length : Int)) rfl rfl rfl ?_
  intro w4 hm4 hg4
  rw [nV_upd] at hm4
  have HM4 := Aside0.mk (HM3.out.stored hm4 (by split <;> omega) hg4)
  clear hlt hc hel hce hm4 hg4 hm1 hz1 HM3 hkl2
  go_wp2
  have HSL : ({ s with lives := s.lives.set k { x with til := (i : Int) } } : Story).lives.length ≤ 1000000 := by first | exact HLL.out | (simp only [List.length_set]; exact HLL.out)
  have hlt := HM4.out.st.lt
  have hel := blk_lt HM4.out.ev
  have hll := HLL.out
  refine start_ (n := 18) (S := (fun w' => (∀ i, w'.cell? ⟨b, i, none⟩ = (stA vl (.slice (some ⟨g, 0, none⟩) s.lives.length cp) vc m1 m2)[i]?) ∧ (∀ i, w'.cell? ⟨w.heap.size, i, none⟩ = (evA e)[i]?) ∧ (∀ i, w'.frozen? ⟨b, i, none⟩ = false))) (ds := [17]) #[false, false, false, false, false, false, false, false, false, false, false, false, false, false, false, false, false, false] (by kernel_rfl) rfl rfl HM4.out.drew.cells (fun hHeld => ?_)
  refine with_tabW turn.tab9 turn.bits9 (fun HT_ HW_ => ?_)
  have HM5 := Aside0.mk HM4.out.drew
  generalize w4.drew = w5 at HM5 hHeld ⊢
  clear hlt hel
  have hlt := HM5.out.st.lt
  refine pure_ (i := 0) (N := (some 108)) (v := ?_) (a' := ?_) #[true, false, false, false, false, false, false, false, false, false, false, false, false, false, false, false, false, false] rfl rfl (any_of HT_.out (by kernel_rfl)) (fun _ _ _ h => h) (Or.inl ⟨by rfl, ?_⟩) ?_ ?_
  rotate_left
  · intro w'
    go_simp
    with_reducible rfl
  rotate_left
  · simp only [Act.put, List.setIfInBounds_toArray, List.set_cons_zero, List.set_cons_succ, i64_w, i32_w]
    rfl
  refine pure_ (i := 1) (N := (some 109)) (v := ?_) (a' := ?_) #[true, true, false, false, false, false, false, false, false, false, false, false, false, false, false, false, false, false] rfl rfl (any_of HT_.out (by kernel_rfl)) (fun _ _ _ h => h) (Or.inl ⟨by rfl, ?_⟩) ?_ ?_
  rotate_left
  · intro w'
    go_simp
    with_reducible rfl
  rotate_left
  · simp only [Act.put, List.setIfInBounds_toArray, List.set_cons_zero, List.set_cons_succ, i64_w, i32_w]
    rfl
  refine pure_ (i := 2) (N := (some 110)) (v := ?_) (a' := ?_) #[true, true, true, false, false, false, false, false, false, false, false, false, false, false, false, false, false, false] rfl rfl (any_of HT_.out (by kernel_rfl)) (fun _ _ _ h => h) (Or.inl ⟨by rfl, ?_⟩) ?_ ?_
  rotate_left
  · intro w'
    go_simp
    with_reducible rfl
  rotate_left
  · simp only [Act.put, List.setIfInBounds_toArray, List.set_cons_zero, List.set_cons_succ, i64_w, i32_w]
    rfl
  refine pure_ (i := 3) (N := (some 111)) (v := ?_) (a' := ?_) #[true, true, true, true, false, false, false, false, false, false, false, false, false, false, false, false, false, false] rfl rfl (any_of HT_.out (by kernel_rfl)) (fun _ _ _ h => h) (Or.inl ⟨by rfl, ?_⟩) ?_ ?_
  rotate_left
  · intro w'
    go_simp
    with_reducible rfl
  rotate_left
  · simp only [Act.put, List.setIfInBounds_toArray, List.set_cons_zero, List.set_cons_succ, i64_w, i32_w]
    rfl
  refine pure_ (i := 5) (N := (some 113)) (v := ?_) (a' := ?_) #[true, true, true, true, false, true, false, false, false, false, false, false, false, false, false, false, false, false] rfl rfl (any_of HT_.out (by kernel_rfl)) (fun _ _ _ h => h) (Or.inl ⟨by rfl, ?_⟩) ?_ ?_
  rotate_left
  · intro w'
    go_simp
    with_reducible rfl
  rotate_left
  · simp only [Act.put, List.setIfInBounds_toArray, List.set_cons_zero, List.set_cons_succ, i64_w, i32_w]
    rfl
  refine pure_ (i := 7) (N := (some 115)) (v := ?_) (a' := ?_) #[true, true, true, true, false, true, false, true, false, false, false, false, false, false, false, false, false, false] rfl rfl (any_of HT_.out (by kernel_rfl)) (fun _ _ _ h => h) (Or.inl ⟨by rfl, ?_⟩) ?_ ?_
  rotate_left
  · intro w'
    go_simp
    with_reducible rfl
  rotate_left
  · simp only [Act.put, List.setIfInBounds_toArray, List.set_cons_zero, List.set_cons_succ, i64_w, i32_w]
    rfl
  refine pure_ (i := 8) (N := (some 116)) (v := ?_) (a' := ?_) #[true, true, true, true, false, true, false, true, true, false, false, false, false, false, false, false, false, false] rfl rfl (any_of HT_.out (by kernel_rfl)) (fun _ _ _ h => h) (Or.inl ⟨by rfl, ?_⟩) ?_ ?_
  rotate_left
  · intro w'
    go_simp
    with_reducible rfl
  rotate_left
  · simp only [Act.put, List.setIfInBounds_toArray, List.set_cons_zero, List.set_cons_succ, i64_w, i32_w]
    rfl
  refine pure_ (i := 10) (N := (some 118)) (v := ?_) (a' := ?_) #[true, true, true, true, false, true, false, true, true, false, true, false, false, false, false, false, false, false] rfl rfl (any_of HT_.out (by kernel_rfl)) (fun _ _ _ h => h) (Or.inl ⟨by rfl, ?_⟩) ?_ ?_
  rotate_left
  · intro w'
    go_simp
    with_reducible rfl
  rotate_left
  · simp only [Act.put, List.setIfInBounds_toArray, List.set_cons_zero, List.set_cons_succ, i64_w, i32_w]
    rfl
  refine take_ (i := 4) (N := (some 112)) (v := ?_) (a' := ?_) #[true, true, true, true, true, true, false, true, true, false, true, false, false, false, false, false, false, false] rfl rfl (take_ofW HT_.out HW_.out (by kernel_rfl)) (fun _ _ _ h => h) (Or.inl ⟨by rfl, ?_⟩) hHeld ?_ ?_
  rotate_left
  · rintro w' ⟨s0, s1, s2⟩
    go_simp
    with_reducible rfl
  rotate_left
  · simp only [Act.put, List.setIfInBounds_toArray, List.set_cons_zero, List.set_cons_succ, i64_w, i32_w]
    rfl
  refine take_ (i := 6) (N := (some 114)) (v := ?_) (a' := ?_) #[true, true, true, true, true, true, true, true, true, false, true, false, false, false, false, false, false, false] rfl rfl (take_ofW HT_.out HW_.out (by kernel_rfl)) (fun _ _ _ h => h) (Or.inl ⟨by rfl, ?_⟩) hHeld ?_ ?_
  rotate_left
  · rintro w' ⟨s0, s1, s2⟩
    go_simp
    with_reducible rfl
  rotate_left
  · simp only [Act.put, List.setIfInBounds_toArray, List.set_cons_zero, List.set_cons_succ, i64_w, i32_w]
    rfl
  refine take_ (i := 9) (N := (some 117)) (v := ?_) (a' := ?_) #[true, true, true, true, true, true, true, true, true, true, true, false, false, false, false, false, false, false] rfl rfl (take_ofW HT_.out HW_.out (by kernel_rfl)) (fun _ _ _ h => h) (Or.inl ⟨by rfl, ?_⟩) hHeld ?_ ?_
  rotate_left
  · rintro w' ⟨s0, s1, s2⟩
    go_simp
    with_reducible rfl
  rotate_left
  · simp only [Act.put, List.setIfInBounds_toArray, List.set_cons_zero, List.set_cons_succ, i64_w, i32_w]
    rfl
  refine take_ (i := 11) (N := (some 119)) (v := ?_) (a' := ?_) #[true, true, true, true, true, true, true, true, true, true, true, true, false, false, false, false, false, false] rfl rfl (take_ofW HT_.out HW_.out (by kernel_rfl)) (fun _ _ _ h => h) (Or.inl ⟨by rfl, ?_⟩) hHeld ?_ ?_
  rotate_left
  · rintro w' ⟨s0, s1, s2⟩
    go_simp
    with_reducible rfl
  rotate_left
  · simp only [Act.put, List.setIfInBounds_toArray, List.set_cons_zero, List.set_cons_succ, i64_w, i32_w]
    rfl
  refine pure_ (i := 12) (N := (some 120)) (v := ?_) (a' := ?_) #[true, true, true, true, true, true, true, true, true, true, true, true, true, false, false, false, false, false] rfl rfl (any_of HT_.out (by kernel_rfl)) (fun _ _ _ h => h) (Or.inl ⟨by rfl, ?_⟩) ?_ ?_
  rotate_left
  · intro w'
    go_simp
    with_reducible rfl
  rotate_left
  · simp only [Act.put, List.setIfInBounds_toArray, List.set_cons_zero, List.set_cons_succ, i64_w, i32_w]
    rfl
  refine one_ (i := 13) (N := (some 121)) #[true, true, true, true, true, true, true, true, true, true, true, true, true, true, false, false, false, false] rfl rfl (one_of HT_.out (by kernel_rfl)) (by decide) (fun K hK => ?_)
  refine value_ (by rfl) rfl (v := .slice (some ⟨w5.heap.size, 0, none⟩) 1 1) (w1 := w5.alloc (.cells (lfA ⟨e.nn, e.ng, i, e.wk, noEnd, e.t⟩) 99)) (by go_simp; rfl) ?_
  refine hK.out _ _ (HM5.out.alloc _).cells (fun hHeld => ?_)
  clear hK K
  refine norm_ (a' := ?_) ?_ ?_
  rotate_left
  · show Act.put _ (some 121) _ = _
    simp only [Act.put, List.setIfInBounds_toArray, List.set_cons_zero, List.set_cons_succ, i64_w, i32_w]
    rfl
  refine one_ (i := 14) (N := (some 122)) #[true, true, true, true, true, true, true, true, true, true, true, true, true, true, true, false, false, false] rfl rfl (one_of HT_.out (by kernel_rfl)) (by decide) (fun K hK => ?_)
  refine step_lives (by rfl) _ _ (by rfl) HM5.out ⟨e.nn, e.ng, i, e.wk, noEnd, e.t⟩ (by rfl) (by rfl) HSL ?_
  intro gg cap6 w6 hp
  have HP := Aside0.mk hp
  clear hp
  refine hK.out _ _ HP.out.1 (fun hHeld => ?_)
  clear hK K
  refine norm_ (a' := ?_) ?_ ?_
  rotate_left
  · show Act.put _ (some 122) _ = _
    simp only [Act.put, List.setIfInBounds_toArray, List.set_cons_zero, List.set_cons_succ, i64_w, i32_w]
    rfl
  refine pure_ (i := 15) (N := (some 123)) (v := ?_) (a' := ?_) #[true, true, true, true, true, true, true, true, true, true, true, true, true, true, true, true, false, false] rfl rfl (any_of HT_.out (by kernel_rfl)) (fun _ _ _ h => h) (Or.inl ⟨by rfl, ?_⟩) ?_ ?_
  rotate_left
  · intro w'
    go_simp
    with_reducible rfl
  rotate_left
  · simp only [Act.put, List.setIfInBounds_toArray, List.set_cons_zero, List.set_cons_succ, i64_w, i32_w]
    rfl
  refine pure_ (i := 16) (N := (some 124)) (v := ?_) (a' := ?_) #[true, true, true, true, true, true, true, true, true, true, true, true, true, true, true, true, true, false] rfl rfl (any_of HT_.out (by kernel_rfl)) (fun _ _ _ h => h) (Or.inl ⟨by rfl, ?_⟩) ?_ ?_
  rotate_left
  · intro w'
    go_simp
    with_reducible rfl
  rotate_left
  · simp only [Act.put, List.setIfInBounds_toArray, List.set_cons_zero, List.set_cons_succ, i64_w, i32_w]
    rfl
  refine last_ (i := 17) (N := none) #[true, true, true, true, true, true, true, true, true, true, true, true, true, true, true, true, true, true] rfl rfl (one_of HT_.out (by kernel_rfl)) (by decide) (fun K hK => ?_)
  refine skip_ (by rfl) rfl (w1 := w6.setCell ⟨b, 1, none⟩ (.slice (some ⟨gg, 0, none⟩) (s.lives.length + 1) cap6)) (by have q1 := hHeld.1 1; have q2 := hHeld.2.2 1; go_simp) ?_
  refine hK.out _ _ ?_
  clear hK K
  refine done_ (done_of HT_.out (by kernel_rfl)) ?_
  go_wp2
  go_end0
  have hP := HP.out.2
  try simp only [List.length_set] at hP
  exact ⟨rfl, _, by rw [HF.out]; exact hP.st, hP.fr⟩

set_option maxHeartbeats 4000000 in
set_option maxRecDepth 100000 in
theorem turn_rearm_keep_old {B b n m1 m2 : Nat} {s : Story} {vl vv vc : Value} (i : Nat) (e : Ev) (w : World) (hB : StIs w B b n s vl vv vc m1 m2) (hw : ∃ kl, keyOf Try.prog 34 (haV e.h) = some kl) (hw2 : ∃ kl, keyOf Try.prog 34 (haV e.new) = some kl) (hn : n ≤ 1000000) (hll : s.lives.length ≤ 1000000) (hk : e.k = 3) (ho : e.op = 3) (he : e.er = 0) (k : Nat) (x : Life) (ha : s.at_ e.h = some k) (hx : s.lives[k]? = some x) (ht : ¬ x.til > i) (j : Nat) (hj : s.at_ e.new = some j) :
    Calls Try.prog 84 #[.pointer (some ⟨b, 0, none⟩), .int .i64 (i : Int), .agg (evA e)] w (TurnPost B b (n + 1) (turnF s i e) vl vc vv m1 m2 w) := by
  have hu97 := Try.underlying97
  have hu54 := Try.underlying54
  have hu34 := Try.underlying34
  have hu99 := Try.underlying99
  have HF1 := Aside0.mk (show turn1 s i e = s from turn1_keep ha hx ht)
  have HF := Aside0.mk (show turnF s i e = s by unfold turnF; rw [HF1.out]; exact turn2_old hj)
  have qk4 : (e.k == 4) = false := beq_eq_false_iff_ne.2 (by omega)
  have rk4 : (e.k != 4) = true := bne_iff_ne.2 (by omega)
  have qk3 : (e.k == 3) = true := beq_iff_eq.2 (by omega)
  have rk3 : (e.k != 3) = false := bne_eq_false_iff_eq.2 (by omega)
  have qop2 : (e.op == 2) = false := beq_eq_false_iff_ne.2 (by omega)
  have rop2 : (e.op != 2) = true := bne_iff_ne.2 (by omega)
  have qop3 : (e.op == 3) = true := beq_iff_eq.2 (by omega)
  have rop3 : (e.op != 3) = false := bne_eq_false_iff_eq.2 (by omega)
  have qop1 : (e.op == 1) = false := beq_eq_false_iff_ne.2 (by omega)
  have rop1 : (e.op != 1) = true := bne_iff_ne.2 (by omega)
  have qer0 : (e.er == 0) = true := beq_iff_eq.2 (by omega)
  have rer0 : (e.er != 0) = false := bne_eq_false_iff_eq.2 (by omega)
  have hl0 := fun q => (Mid.start hB e).look hw ((w.alloc (.cells (evA e) 54)).drewN q) rfl
  rw [show (e.hn, e.hg) = e.h from rfl, ha] at hl0
  simp only [Option.map_some, Option.getD_some, Option.isSome_some] at hl0
  obtain ⟨g, cp, rfl, hcp, hgl, hcell⟩ := hB.rv.at_ (fun _ => rfl) hx
  have hkl : k < s.lives.length := (List.getElem?_eq_some_iff.1 hx).1
  have p0 := eq_true (show (0 : Int) ≤ (k : Int) by omega)
  have p1 := eq_true (show (k : Int) < (s.lives.length : Int) by omega)
  have c4 := (below_alloc (Below.refl w.heap.size w) (.cells (evA e) 54)).cell (p := ⟨g, k * 6 + 4, none⟩) hgl |>.trans (hcell 4 (by decide))
  have gt : decide (x.til > (i : Int)) = false := decide_eq_false ht
  clear hcell hkl hx
  have HB := Aside0.mk hB
  have hlt := hB.lt
  have hc := fun i => hB.cell i
  have HW2 := Aside0.mk hw2
  have HN := Aside0.mk hn
  have HLL := Aside0.mk hll
  have HJ := Aside0.mk hj
  clear hB hw hw2 hn hll hk ho he ha ht hj
  go_enter Try.func84, Try.ntmps84
  go_wp2
  go_quiet (fail)
  go_upto_region 5 with (fail)
  refine gen_world (fun W => Mid w W B b n m1 m2 (.slice (some ⟨g, 0, none⟩) s.lives.length cp) s vl (.slice (some ⟨g, 0, none⟩) s.lives.length cp) vc e) (by exact (Mid.start HB.out e).drewN _) fun W hM => ?_
  clear hlt hc hl0 c4 hgl
  have hlt := hM.st.lt
  have hc := fun i => hM.st.cell i
  have hel := blk_lt hM.ev
  have hce := fun i => blk_cell hM.ev i
  have HM := Aside0.mk hM
  have hl1 := fun q => hM.look HW2.out (W.drewN q) rfl
  simp only [show (e.nn, e.ng) = e.new from rfl, HJ.out] at hl1
  clear hM
  simp only [Option.map_some, Option.getD_some, Option.isSome_some] at hl1
  go_wp2
  go_quiet (fail)
  go_wp2
  go_end0
  exact ⟨rfl, _, by rw [HF.out]; exact (HM.out.drewN _).st.up (by omega), (HM.out.drewN _).fr⟩

set_option maxHeartbeats 4000000 in
set_option maxRecDepth 100000 in
theorem turn_rearm_keep_new {B b n m1 m2 : Nat} {s : Story} {vl vv vc : Value} (i : Nat) (e : Ev) (w : World) (hB : StIs w B b n s vl vv vc m1 m2) (hw : ∃ kl, keyOf Try.prog 34 (haV e.h) = some kl) (hw2 : ∃ kl, keyOf Try.prog 34 (haV e.new) = some kl) (hn : n ≤ 1000000) (hll : s.lives.length ≤ 1000000) (hk : e.k = 3) (ho : e.op = 3) (he : e.er = 0) (k : Nat) (x : Life) (ha : s.at_ e.h = some k) (hx : s.lives[k]? = some x) (ht : ¬ x.til > i) (hj : s.at_ e.new = none) :
    Calls Try.prog 84 #[.pointer (some ⟨b, 0, none⟩), .int .i64 (i : Int), .agg (evA e)] w (TurnPost B b (n + 1) (turnF s i e) vl vc vv m1 m2 w) := by
  have hu97 := Try.underlying97
  have hu54 := Try.underlying54
  have hu34 := Try.underlying34
  have hu99 := Try.underlying99
  have HF1 := Aside0.mk (show turn1 s i e = s from turn1_keep ha hx ht)
  have HF := Aside0.mk (show turnF s i e = { (s : Story) with at_ := updH s.at_ e.new s.lives.length, lives := (s : Story).lives ++ [⟨e.nn, e.ng, i, e.wk, noEnd, e.t⟩] } by unfold turnF; rw [HF1.out, turn2_new (s := s) (by omega) hj])
  have qk4 : (e.k == 4) = false := beq_eq_false_iff_ne.2 (by omega)
  have rk4 : (e.k != 4) = true := bne_iff_ne.2 (by omega)
  have qk3 : (e.k == 3) = true := beq_iff_eq.2 (by omega)
  have rk3 : (e.k != 3) = false := bne_eq_false_iff_eq.2 (by omega)
  have qop2 : (e.op == 2) = false := beq_eq_false_iff_ne.2 (by omega)
  have rop2 : (e.op != 2) = true := bne_iff_ne.2 (by omega)
  have qop3 : (e.op == 3) = true := beq_iff_eq.2 (by omega)
  have rop3 : (e.op != 3) = false := bne_eq_false_iff_eq.2 (by omega)
  have qop1 : (e.op == 1) = false := beq_eq_false_iff_ne.2 (by omega)
  have rop1 : (e.op != 1) = true := bne_iff_ne.2 (by omega)
  have qer0 : (e.er == 0) = true := beq_iff_eq.2 (by omega)
  have rer0 : (e.er != 0) = false := bne_eq_false_iff_eq.2 (by omega)
  have hl0 := fun q => (Mid.start hB e).look hw ((w.alloc (.cells (evA e) 54)).drewN q) rfl
  rw [show (e.hn, e.hg) = e.h from rfl, ha] at hl0
  simp only [Option.map_some, Option.getD_some, Option.isSome_some] at hl0
  obtain ⟨g, cp, rfl, hcp, hgl, hcell⟩ := hB.rv.at_ (fun _ => rfl) hx
  have hkl : k < s.lives.length := (List.getElem?_eq_some_iff.1 hx).1
  have p0 := eq_true (show (0 : Int) ≤ (k : Int) by omega)
  have p1 := eq_true (show (k : Int) < (s.lives.length : Int) by omega)
  have c4 := (below_alloc (Below.refl w.heap.size w) (.cells (evA e) 54)).cell (p := ⟨g, k * 6 + 4, none⟩) hgl |>.trans (hcell 4 (by decide))
  have gt : decide (x.til > (i : Int)) = false := decide_eq_false ht
  clear hcell hkl hx
  have HB := Aside0.mk hB
  have hlt := hB.lt
  have hc := fun i => hB.cell i
  have HW2 := Aside0.mk hw2
  have HN := Aside0.mk hn
  have HLL := Aside0.mk hll
  have HJ := Aside0.mk hj
  clear hB hw hw2 hn hll hk ho he ha ht hj
  go_enter Try.func84, Try.ntmps84
  go_wp2
  go_quiet (fail)
  go_upto_region 5 with (fail)
  refine gen_world (fun W => Mid w W B b n m1 m2 (.slice (some ⟨g, 0, none⟩) s.lives.length cp) s vl (.slice (some ⟨g, 0, none⟩) s.lives.length cp) vc e) (by exact (Mid.start HB.out e).drewN _) fun W hM => ?_
  clear hlt hc hl0 c4 hgl
  have hlt := hM.st.lt
  have hc := fun i => hM.st.cell i
  have hel := blk_lt hM.ev
  have hce := fun i => blk_cell hM.ev i
  have HM := Aside0.mk hM
  have hl1 := fun q => hM.look HW2.out (W.drewN q) rfl
  simp only [show (e.nn, e.ng) = e.new from rfl, HJ.out] at hl1
  clear hM
  simp only [Option.map_none, Option.getD_none, Option.isSome_none] at hl1
  go_wp2
  go_quiet (fail)
  go_wp2
  refine gen_world (fun W2 => Mid w W2 B b n m1 m2 (.slice (some ⟨g, 0, none⟩) s.lives.length cp) s vl (.slice (some ⟨g, 0, none⟩) s.lives.length cp) vc e) (by exact HM.out.drewN _) fun W2 hM2 => ?_
  clear hlt hc hel hce hl1
  refine still_tail_at 11 (by kernel_rfl) (by kernel_rfl) fun w2 hw2 => ?_
  have HM3 := Aside0.mk (show Mid w w2 B b n m1 m2 (.slice (some ⟨g, 0, none⟩) s.lives.length cp) s vl (.slice (some ⟨g, 0, none⟩) s.lives.length cp) vc e by rw [hw2]; exact hM2.drew)
  clear hw2 hM2 HM
  have hlt := HM3.out.st.lt
  have hc := fun i => HM3.out.st.cell i
  have hel := blk_lt HM3.out.ev
  have hce := fun i => blk_cell HM3.out.ev i
  simp only [List.take_succ_cons, List.take_zero, List.drop_succ_cons, List.drop_zero]
  repeat still_step
  refine wpStill_nil ?_
  obtain ⟨z1, hz1, hm1⟩ := HM3.out.st.ma
  obtain ⟨kl2, hkl2⟩ := HW2.out
  refine wpl_store ha_inj rfl _ _ _ 86 rfl hm1 lawH Try.underlying86 (by unfold maxLen; have := HN.out; omega) (y := e.new) hkl2 (val := .int .i64 (s.lives.length : Int)) rfl rfl rfl ?_
  intro w4 hm4 hg4
  rw [nV_upd] at hm4
  have HM4 := Aside0.mk (HM3.out.stored hm4 (by split <;> omega) hg4)
  clear hlt hc hel hce hm4 hg4 hm1 hz1 HM3 hkl2
  go_wp2
  have HSL : (s : Story).lives.length ≤ 1000000 := by first | exact HLL.out | (simp only [List.length_set]; exact HLL.out)
  have hlt := HM4.out.st.lt
  have hel := blk_lt HM4.out.ev
  have hll := HLL.out
  refine start_ (n := 18) (S := (fun w' => (∀ i, w'.cell? ⟨b, i, none⟩ = (stA vl (.slice (some ⟨g, 0, none⟩) s.lives.length cp) vc m1 m2)[i]?) ∧ (∀ i, w'.cell? ⟨w.heap.size, i, none⟩ = (evA e)[i]?) ∧ (∀ i, w'.frozen? ⟨b, i, none⟩ = false))) (ds := [17]) #[false, false, false, false, false, false, false, false, false, false, false, false, false, false, false, false, false, false] (by kernel_rfl) rfl rfl HM4.out.drew.cells (fun hHeld => ?_)
  refine with_tabW turn.tab9 turn.bits9 (fun HT_ HW_ => ?_)
  have HM5 := Aside0.mk HM4.out.drew
  generalize w4.drew = w5 at HM5 hHeld ⊢
  clear hlt hel
  have hlt := HM5.out.st.lt
  refine pure_ (i := 0) (N := (some 108)) (v := ?_) (a' := ?_) #[true, false, false, false, false, false, false, false, false, false, false, false, false, false, false, false, false, false] rfl rfl (any_of HT_.out (by kernel_rfl)) (fun _ _ _ h => h) (Or.inl ⟨by rfl, ?_⟩) ?_ ?_
  rotate_left
  · intro w'
    go_simp
    with_reducible rfl
  rotate_left
  · simp only [Act.put, List.setIfInBounds_toArray, List.set_cons_zero, List.set_cons_succ, i64_w, i32_w]
    rfl
  refine pure_ (i := 1) (N := (some 109)) (v := ?_) (a' := ?_) #[true, true, false, false, false, false, false, false, false, false, false, false, false, false, false, false, false, false] rfl rfl (any_of HT_.out (by kernel_rfl)) (fun _ _ _ h => h) (Or.inl ⟨by rfl, ?_⟩) ?_ ?_
  rotate_left
  · intro w'
    go_simp
    with_reducible rfl
  rotate_left
  · simp only [Act.put, List.setIfInBounds_toArray, List.set_cons_zero, List.set_cons_succ, i64_w, i32_w]
    rfl
  refine pure_ (i := 2) (N := (some 110)) (v := ?_) (a' := ?_) #[true, true, true, false, false, false, false, false, false, false, false, false, false, false, false, false, false, false] rfl rfl (any_of HT_.out (by kernel_rfl)) (fun _ _ _ h => h) (Or.inl ⟨by rfl, ?_⟩) ?_ ?_
  rotate_left
  · intro w'
    go_simp
    with_reducible rfl
  rotate_left
  · simp only [Act.put, List.setIfInBounds_toArray, List.set_cons_zero, List.set_cons_succ, i64_w, i32_w]
    rfl
  refine pure_ (i := 3) (N := (some 111)) (v := ?_) (a' := ?_) #[true, true, true, true, false, false, false, false, false, false, false, false, false, false, false, false, false, false] rfl rfl (any_of HT_.out (by kernel_rfl)) (fun _ _ _ h => h) (Or.inl ⟨by rfl, ?_⟩) ?_ ?_
  rotate_left
  · intro w'
    go_simp
    with_reducible rfl
  rotate_left
  · simp only [Act.put, List.setIfInBounds_toArray, List.set_cons_zero, List.set_cons_succ, i64_w, i32_w]
    rfl
  refine pure_ (i := 5) (N := (some 113)) (v := ?_) (a' := ?_) #[true, true, true, true, false, true, false, false, false, false, false, false, false, false, false, false, false, false] rfl rfl (any_of HT_.out (by kernel_rfl)) (fun _ _ _ h => h) (Or.inl ⟨by rfl, ?_⟩) ?_ ?_
  rotate_left
  · intro w'
    go_simp
    with_reducible rfl
  rotate_left
  · simp only [Act.put, List.setIfInBounds_toArray, List.set_cons_zero, List.set_cons_succ, i64_w, i32_w]
    rfl
  refine pure_ (i := 7) (N := (some 115)) (v := ?_) (a' := ?_) #[true, true, true, true, false, true, false, true, false, false, false, false, false, false, false, false, false, false] rfl rfl (any_of HT_.out (by kernel_rfl)) (fun _ _ _ h => h) (Or.inl ⟨by rfl, ?_⟩) ?_ ?_
  rotate_left
  · intro w'
    go_simp
    with_reducible rfl
  rotate_left
  · simp only [Act.put, List.setIfInBounds_toArray, List.set_cons_zero, List.set_cons_succ, i64_w, i32_w]
    rfl
  refine pure_ (i := 8) (N := (some 116)) (v := ?_) (a' := ?_) #[true, true, true, true, false, true, false, true, true, false, false, false, false, false, false, false, false, false] rfl rfl (any_of HT_.out (by kernel_rfl)) (fun _ _ _ h => h) (Or.inl ⟨by rfl, ?_⟩) ?_ ?_
  rotate_left
  · intro w'
    go_simp
    with_reducible rfl
  rotate_left
  · simp only [Act.put, List.setIfInBounds_toArray, List.set_cons_zero, List.set_cons_succ, i64_w, i32_w]
    rfl
  refine pure_ (i := 10) (N := (some 118)) (v := ?_) (a' := ?_) #[true, true, true, true, false, true, false, true, true, false, true, false, false, false, false, false, false, false] rfl rfl (any_of HT_.out (by kernel_rfl)) (fun _ _ _ h => h) (Or.inl ⟨by rfl, ?_⟩) ?_ ?_
  rotate_left
  · intro w'
    go_simp
    with_reducible rfl
  rotate_left
  · simp only [Act.put, List.setIfInBounds_toArray, List.set_cons_zero, List.set_cons_succ, i64_w, i32_w]
    rfl
  refine take_ (i := 4) (N := (some 112)) (v := ?_) (a' := ?_) #[true, true, true, true, true, true, false, true, true, false, true, false, false, false, false, false, false, false] rfl rfl (take_ofW HT_.out HW_.out (by kernel_rfl)) (fun _ _ _ h => h) (Or.inl ⟨by rfl, ?_⟩) hHeld ?_ ?_
  rotate_left
  · rintro w' ⟨s0, s1, s2⟩
    go_simp
    with_reducible rfl
  rotate_left
  · simp only [Act.put, List.setIfInBounds_toArray, List.set_cons_zero, List.set_cons_succ, i64_w, i32_w]
    rfl
  refine take_ (i := 6) (N := (some 114)) (v := ?_) (a' := ?_) #[true, true, true, true, true, true, true, true, true, false, true, false, false, false, false, false, false, false] rfl rfl (take_ofW HT_.out HW_.out (by kernel_rfl)) (fun _ _ _ h => h) (Or.inl ⟨by rfl, ?_⟩) hHeld ?_ ?_
  rotate_left
  · rintro w' ⟨s0, s1, s2⟩
    go_simp
    with_reducible rfl
  rotate_left
  · simp only [Act.put, List.setIfInBounds_toArray, List.set_cons_zero, List.set_cons_succ, i64_w, i32_w]
    rfl
  refine take_ (i := 9) (N := (some 117)) (v := ?_) (a' := ?_) #[true, true, true, true, true, true, true, true, true, true, true, false, false, false, false, false, false, false] rfl rfl (take_ofW HT_.out HW_.out (by kernel_rfl)) (fun _ _ _ h => h) (Or.inl ⟨by rfl, ?_⟩) hHeld ?_ ?_
  rotate_left
  · rintro w' ⟨s0, s1, s2⟩
    go_simp
    with_reducible rfl
  rotate_left
  · simp only [Act.put, List.setIfInBounds_toArray, List.set_cons_zero, List.set_cons_succ, i64_w, i32_w]
    rfl
  refine take_ (i := 11) (N := (some 119)) (v := ?_) (a' := ?_) #[true, true, true, true, true, true, true, true, true, true, true, true, false, false, false, false, false, false] rfl rfl (take_ofW HT_.out HW_.out (by kernel_rfl)) (fun _ _ _ h => h) (Or.inl ⟨by rfl, ?_⟩) hHeld ?_ ?_
  rotate_left
  · rintro w' ⟨s0, s1, s2⟩
    go_simp
    with_reducible rfl
  rotate_left
  · simp only [Act.put, List.setIfInBounds_toArray, List.set_cons_zero, List.set_cons_succ, i64_w, i32_w]
    rfl
  refine pure_ (i := 12) (N := (some 120)) (v := ?_) (a' := ?_) #[true, true, true, true, true, true, true, true, true, true, true, true, true, false, false, false, false, false] rfl rfl (any_of HT_.out (by kernel_rfl)) (fun _ _ _ h => h) (Or.inl ⟨by rfl, ?_⟩) ?_ ?_
  rotate_left
  · intro w'
    go_simp
    with_reducible rfl
  rotate_left
  · simp only [Act.put, List.setIfInBounds_toArray, List.set_cons_zero, List.set_cons_succ, i64_w, i32_w]
    rfl
  refine one_ (i := 13) (N := (some 121)) #[true, true, true, true, true, true, true, true, true, true, true, true, true, true, false, false, false, false] rfl rfl (one_of HT_.out (by kernel_rfl)) (by decide) (fun K hK => ?_)
  refine value_ (by rfl) rfl (v := .slice (some ⟨w5.heap.size, 0, none⟩) 1 1) (w1 := w5.alloc (.cells (lfA ⟨e.nn, e.ng, i, e.wk, noEnd, e.t⟩) 99)) (by go_simp; rfl) ?_
  refine hK.out _ _ (HM5.out.alloc _).cells (fun hHeld => ?_)
  clear hK K
  refine norm_ (a' := ?_) ?_ ?_
  rotate_left
  · show Act.put _ (some 121) _ = _
    simp only [Act.put, List.setIfInBounds_toArray, List.set_cons_zero, List.set_cons_succ, i64_w, i32_w]
    rfl
  refine one_ (i := 14) (N := (some 122)) #[true, true, true, true, true, true, true, true, true, true, true, true, true, true, true, false, false, false] rfl rfl (one_of HT_.out (by kernel_rfl)) (by decide) (fun K hK => ?_)
  refine step_lives (by rfl) _ _ (by rfl) HM5.out ⟨e.nn, e.ng, i, e.wk, noEnd, e.t⟩ (by rfl) (by rfl) HSL ?_
  intro gg cap6 w6 hp
  have HP := Aside0.mk hp
  clear hp
  refine hK.out _ _ HP.out.1 (fun hHeld => ?_)
  clear hK K
  refine norm_ (a' := ?_) ?_ ?_
  rotate_left
  · show Act.put _ (some 122) _ = _
    simp only [Act.put, List.setIfInBounds_toArray, List.set_cons_zero, List.set_cons_succ, i64_w, i32_w]
    rfl
  refine pure_ (i := 15) (N := (some 123)) (v := ?_) (a' := ?_) #[true, true, true, true, true, true, true, true, true, true, true, true, true, true, true, true, false, false] rfl rfl (any_of HT_.out (by kernel_rfl)) (fun _ _ _ h => h) (Or.inl ⟨by rfl, ?_⟩) ?_ ?_
  rotate_left
  · intro w'
    go_simp
    with_reducible rfl
  rotate_left
  · simp only [Act.put, List.setIfInBounds_toArray, List.set_cons_zero, List.set_cons_succ, i64_w, i32_w]
    rfl
  refine pure_ (i := 16) (N := (some 124)) (v := ?_) (a' := ?_) #[true, true, true, true, true, true, true, true, true, true, true, true, true, true, true, true, true, false] rfl rfl (any_of HT_.out (by kernel_rfl)) (fun _ _ _ h => h) (Or.inl ⟨by rfl, ?_⟩) ?_ ?_
  rotate_left
  · intro w'
    go_simp
    with_reducible rfl
  rotate_left
  · simp only [Act.put, List.setIfInBounds_toArray, List.set_cons_zero, List.set_cons_succ, i64_w, i32_w]
    rfl
  refine last_ (i := 17) (N := none) #[true, true, true, true, true, true, true, true, true, true, true, true, true, true, true, true, true, true] rfl rfl (one_of HT_.out (by kernel_rfl)) (by decide) (fun K hK => ?_)
  refine skip_ (by rfl) rfl (w1 := w6.setCell ⟨b, 1, none⟩ (.slice (some ⟨gg, 0, none⟩) (s.lives.length + 1) cap6)) (by have q1 := hHeld.1 1; have q2 := hHeld.2.2 1; go_simp) ?_
  refine hK.out _ _ ?_
  clear hK K
  refine done_ (done_of HT_.out (by kernel_rfl)) ?_
  go_wp2
  go_end0
  have hP := HP.out.2
  try simp only [List.length_set] at hP
  exact ⟨rfl, _, by rw [HF.out]; exact hP.st, hP.fr⟩

set_option maxHeartbeats 4000000 in
set_option maxRecDepth 100000 in
theorem turn_rearm_no {B b n m1 m2 : Nat} {s : Story} {vl vv vc : Value} (i : Nat) (e : Ev) (w : World) (hB : StIs w B b n s vl vv vc m1 m2) (hw : ∃ kl, keyOf Try.prog 34 (haV e.h) = some kl) (hw2 : ∃ kl, keyOf Try.prog 34 (haV e.new) = some kl) (hn : n ≤ 1000000) (hll : s.lives.length ≤ 1000000) (hk : e.k = 3) (ho : e.op = 3) (he : e.er ≠ 0) :
    Calls Try.prog 84 #[.pointer (some ⟨b, 0, none⟩), .int .i64 (i : Int), .agg (evA e)] w (TurnPost B b (n + 1) (turnF s i e) vl vc vv m1 m2 w) := by
  have hu97 := Try.underlying97
  have hu54 := Try.underlying54
  have hu34 := Try.underlying34
  have hu99 := Try.underlying99
  have HF1 := Aside0.mk (show turn1 s i e = s from turn1_no (by rintro (q | q | q) <;> omega))
  have HF := Aside0.mk (show turnF s i e = s by unfold turnF; rw [HF1.out]; exact turn2_no (by omega))
  have qk4 : (e.k == 4) = false := beq_eq_false_iff_ne.2 (by omega)
  have rk4 : (e.k != 4) = true := bne_iff_ne.2 (by omega)
  have qk3 : (e.k == 3) = true := beq_iff_eq.2 (by omega)
  have rk3 : (e.k != 3) = false := bne_eq_false_iff_eq.2 (by omega)
  have qop2 : (e.op == 2) = false := beq_eq_false_iff_ne.2 (by omega)
  have rop2 : (e.op != 2) = true := bne_iff_ne.2 (by omega)
  have qop3 : (e.op == 3) = true := beq_iff_eq.2 (by omega)
  have rop3 : (e.op != 3) = false := bne_eq_false_iff_eq.2 (by omega)
  have qop1 : (e.op == 1) = false := beq_eq_false_iff_ne.2 (by omega)
  have rop1 : (e.op != 1) = true := bne_iff_ne.2 (by omega)
  have qer0 : (e.er == 0) = false := beq_eq_false_iff_ne.2 (by omega)
  have rer0 : (e.er != 0) = true := bne_iff_ne.2 (by omega)
  have hl0 := fun q => (Mid.start hB e).look hw ((w.alloc (.cells (evA e) 54)).drewN q) rfl
  obtain ⟨z0, hz0⟩ : ∃ z0, ((s.at_ (e.hn, e.hg)).map (fun j => (j : Int))).getD 0 = z0 := ⟨_, rfl⟩
  obtain ⟨z1, hz1⟩ : ∃ z1, (s.at_ (e.hn, e.hg)).isSome = z1 := ⟨_, rfl⟩
  rw [hz0, hz1] at hl0
  clear hz0 hz1
  have HB := Aside0.mk hB
  have hlt := hB.lt
  have hc := fun i => hB.cell i
  have HW2 := Aside0.mk hw2
  have HN := Aside0.mk hn
  have HLL := Aside0.mk hll
  clear hB hw hw2 hn hll hk ho he
  go_enter Try.func84, Try.ntmps84
  go_wp2
  go_quiet (fail)
  go_wp2
  all_goals
    go_end0
    exact ⟨rfl, _, by rw [HF.out]; exact ((Mid.start HB.out e).drewN _).st.up (by omega), ((Mid.start HB.out e).drewN _).fr⟩

set_option maxHeartbeats 4000000 in
set_option maxRecDepth 100000 in
theorem turn_start_old {B b n m1 m2 : Nat} {s : Story} {vl vv vc : Value} (i : Nat) (e : Ev) (w : World) (hB : StIs w B b n s vl vv vc m1 m2) (hw : ∃ kl, keyOf Try.prog 34 (haV e.h) = some kl) (hw2 : ∃ kl, keyOf Try.prog 34 (haV e.new) = some kl) (hn : n ≤ 1000000) (hll : s.lives.length ≤ 1000000) (hk : e.k = 3) (ho : e.op = 1) (he : e.er = 0) (j : Nat) (hj : s.at_ e.new = some j) :
    Calls Try.prog 84 #[.pointer (some ⟨b, 0, none⟩), .int .i64 (i : Int), .agg (evA e)] w (TurnPost B b (n + 1) (turnF s i e) vl vc vv m1 m2 w) := by
  obtain ⟨A9, c9, rfl, hc9⟩ := hB.rv.form
  clear hc9
  have hu97 := Try.underlying97
  have hu54 := Try.underlying54
  have hu34 := Try.underlying34
  have hu99 := Try.underlying99
  have HF1 := Aside0.mk (show turn1 s i e = s from turn1_no (by rintro (q | q | q) <;> omega))
  have HF := Aside0.mk (show turnF s i e = s by unfold turnF; rw [HF1.out]; exact turn2_old hj)
  have qk4 : (e.k == 4) = false := beq_eq_false_iff_ne.2 (by omega)
  have rk4 : (e.k != 4) = true := bne_iff_ne.2 (by omega)
  have qk3 : (e.k == 3) = true := beq_iff_eq.2 (by omega)
  have rk3 : (e.k != 3) = false := bne_eq_false_iff_eq.2 (by omega)
  have qop2 : (e.op == 2) = false := beq_eq_false_iff_ne.2 (by omega)
  have rop2 : (e.op != 2) = true := bne_iff_ne.2 (by omega)
  have qop3 : (e.op == 3) = false := beq_eq_false_iff_ne.2 (by omega)
  have rop3 : (e.op != 3) = true := bne_iff_ne.2 (by omega)
  have qop1 : (e.op == 1) = true := beq_iff_eq.2 (by omega)
  have rop1 : (e.op != 1) = false := bne_eq_false_iff_eq.2 (by omega)
  have qer0 : (e.er == 0) = true := beq_iff_eq.2 (by omega)
  have rer0 : (e.er != 0) = false := bne_eq_false_iff_eq.2 (by omega)
  have hl0 := fun q => (Mid.start hB e).look hw ((w.alloc (.cells (evA e) 54)).drewN q) rfl
  obtain ⟨z0, hz0⟩ : ∃ z0, ((s.at_ (e.hn, e.hg)).map (fun j => (j : Int))).getD 0 = z0 := ⟨_, rfl⟩
  obtain ⟨z1, hz1⟩ : ∃ z1, (s.at_ (e.hn, e.hg)).isSome = z1 := ⟨_, rfl⟩
  rw [hz0, hz1] at hl0
  clear hz0 hz1
  have HB := Aside0.mk hB
  have hlt := hB.lt
  have hc := fun i => hB.cell i
  have HW2 := Aside0.mk hw2
  have HN := Aside0.mk hn
  have HLL := Aside0.mk hll
  have HJ := Aside0.mk hj
  clear hB hw hw2 hn hll hk ho he hj
  go_enter Try.func84, Try.ntmps84
  go_wp2
  go_quiet (fail)
  go_upto_region 5 with (fail)
  refine gen_world (fun W => Mid w W B b n m1 m2 (.slice A9 s.lives.length c9) s vl (.slice A9 s.lives.length c9) vc e) (by exact (Mid.start HB.out e).drewN _) fun W hM => ?_
  clear hlt hc hl0
  have hlt := hM.st.lt
  have hc := fun i => hM.st.cell i
  have hel := blk_lt hM.ev
  have hce := fun i => blk_cell hM.ev i
  have HM := Aside0.mk hM
  have hl1 := fun q => hM.look HW2.out (W.drewN q) rfl
  simp only [show (e.nn, e.ng) = e.new from rfl, HJ.out] at hl1
  clear hM
  simp only [Option.map_some, Option.getD_some, Option.isSome_some] at hl1
  go_wp2
  go_quiet (fail)
  go_wp2
  go_end0
  exact ⟨rfl, _, by rw [HF.out]; exact (HM.out.drewN _).st.up (by omega), (HM.out.drewN _).fr⟩

set_option maxHeartbeats 4000000 in
set_option maxRecDepth 100000 in
theorem turn_start_new {B b n m1 m2 : Nat} {s : Story} {vl vv vc : Value} (i : Nat) (e : Ev) (w : World) (hB : StIs w B b n s vl vv vc m1 m2) (hw : ∃ kl, keyOf Try.prog 34 (haV e.h) = some kl) (hw2 : ∃ kl, keyOf Try.prog 34 (haV e.new) = some kl) (hn : n ≤ 1000000) (hll : s.lives.length ≤ 1000000) (hk : e.k = 3) (ho : e.op = 1) (he : e.er = 0) (hj : s.at_ e.new = none) :
    Calls Try.prog 84 #[.pointer (some ⟨b, 0, none⟩), .int .i64 (i : Int), .agg (evA e)] w (TurnPost B b (n + 1) (turnF s i e) vl vc vv m1 m2 w) := by
  obtain ⟨A9, c9, rfl, hc9⟩ := hB.rv.form
  clear hc9
  have hu97 := Try.underlying97
  have hu54 := Try.underlying54
  have hu34 := Try.underlying34
  have hu99 := Try.underlying99
  have HF1 := Aside0.mk (show turn1 s i e = s from turn1_no (by rintro (q | q | q) <;> omega))
  have HF := Aside0.mk (show turnF s i e = { (s : Story) with at_ := updH s.at_ e.new s.lives.length, lives := (s : Story).lives ++ [⟨e.nn, e.ng, i, e.wk, noEnd, e.t⟩] } by unfold turnF; rw [HF1.out, turn2_new (s := s) (by omega) hj])
  have qk4 : (e.k == 4) = false := beq_eq_false_iff_ne.2 (by omega)
  have rk4 : (e.k != 4) = true := bne_iff_ne.2 (by omega)
  have qk3 : (e.k == 3) = true := beq_iff_eq.2 (by omega)
  have rk3 : (e.k != 3) = false := bne_eq_false_iff_eq.2 (by omega)
  have qop2 : (e.op == 2) = false := beq_eq_false_iff_ne.2 (by omega)
  have rop2 : (e.op != 2) = true := bne_iff_ne.2 (by omega)
  have qop3 : (e.op == 3) = false := beq_eq_false_iff_ne.2 (by omega)
  have rop3 : (e.op != 3) = true := bne_iff_ne.2 (by omega)
  have qop1 : (e.op == 1) = true := beq_iff_eq.2 (by omega)
  have rop1 : (e.op != 1) = false := bne_eq_false_iff_eq.2 (by omega)
  have qer0 : (e.er == 0) = true := beq_iff_eq.2 (by omega)
  have rer0 : (e.er != 0) = false := bne_eq_false_iff_eq.2 (by omega)
  have hl0 := fun q => (Mid.start hB e).look hw ((w.alloc (.cells (evA e) 54)).drewN q) rfl
  obtain ⟨z0, hz0⟩ : ∃ z0, ((s.at_ (e.hn, e.hg)).map (fun j => (j : Int))).getD 0 = z0 := ⟨_, rfl⟩
  obtain ⟨z1, hz1⟩ : ∃ z1, (s.at_ (e.hn, e.hg)).isSome = z1 := ⟨_, rfl⟩
  rw [hz0, hz1] at hl0
  clear hz0 hz1
  have HB := Aside0.mk hB
  have hlt := hB.lt
  have hc := fun i => hB.cell i
  have HW2 := Aside0.mk hw2
  have HN := Aside0.mk hn
  have HLL := Aside0.mk hll
  have HJ := Aside0.mk hj
  clear hB hw hw2 hn hll hk ho he hj
  go_enter Try.func84, Try.ntmps84
  go_wp2
  go_quiet (fail)
  go_upto_region 5 with (fail)
  refine gen_world (fun W => Mid w W B b n m1 m2 (.slice A9 s.lives.length c9) s vl (.slice A9 s.lives.length c9) vc e) (by exact (Mid.start HB.out e).drewN _) fun W hM => ?_
  clear hlt hc hl0
  have hlt := hM.st.lt
  have hc := fun i => hM.st.cell i
  have hel := blk_lt hM.ev
  have hce := fun i => blk_cell hM.ev i
  have HM := Aside0.mk hM
  have hl1 := fun q => hM.look HW2.out (W.drewN q) rfl
  simp only [show (e.nn, e.ng) = e.new from rfl, HJ.out] at hl1
  clear hM
  simp only [Option.map_none, Option.getD_none, Option.isSome_none] at hl1
  go_wp2
  go_quiet (fail)
  go_wp2
  refine gen_world (fun W2 => Mid w W2 B b n m1 m2 (.slice A9 s.lives.length c9) s vl (.slice A9 s.lives.length c9) vc e) (by exact HM.out.drewN _) fun W2 hM2 => ?_
  clear hlt hc hel hce hl1
  refine still_tail_at 11 (by kernel_rfl) (by kernel_rfl) fun w2 hw2 => ?_
  have HM3 := Aside0.mk (show Mid w w2 B b n m1 m2 (.slice A9 s.lives.length c9) s vl (.slice A9 s.lives.length c9) vc e by rw [hw2]; exact hM2.drew)
  clear hw2 hM2 HM
  have hlt := HM3.out.st.lt
  have hc := fun i => HM3.out.st.cell i
  have hel := blk_lt HM3.out.ev
  have hce := fun i => blk_cell HM3.out.ev i
  simp only [List.take_succ_cons, List.take_zero, List.drop_succ_cons, List.drop_zero]
  repeat still_step
  refine wpStill_nil ?_
  obtain ⟨z1, hz1, hm1⟩ := HM3.out.st.ma
  obtain ⟨kl2, hkl2⟩ := HW2.out
  refine wpl_store ha_inj rfl _ _ _ 86 rfl hm1 lawH Try.underlying86 (by unfold maxLen; have := HN.out; omega) (y := e.new) hkl2 (val := .int .i64 (s.lives.length : Int)) rfl rfl rfl ?_
  intro w4 hm4 hg4
  rw [nV_upd] at hm4
  have HM4 := Aside0.mk (HM3.out.stored hm4 (by split <;> omega) hg4)
  clear hlt hc hel hce hm4 hg4 hm1 hz1 HM3 hkl2
  go_wp2
  have HSL : (s : Story).lives.length ≤ 1000000 := by first | exact HLL.out | (simp only [List.length_set]; exact HLL.out)
  have hlt := HM4.out.st.lt
  have hel := blk_lt HM4.out.ev
  have hll := HLL.out
  refine start_ (n := 18) (S := (fun w' => (∀ i, w'.cell? ⟨b, i, none⟩ = (stA vl (.slice A9 s.lives.length c9) vc m1 m2)[i]?) ∧ (∀ i, w'.cell? ⟨w.heap.size, i, none⟩ = (evA e)[i]?) ∧ (∀ i, w'.frozen? ⟨b, i, none⟩ = false))) (ds := [17]) #[false, false, false, false, false, false, false, false, false, false, false, false, false, false, false, false, false, false] (by kernel_rfl) rfl rfl HM4.out.drew.cells (fun hHeld => ?_)
  refine with_tabW turn.tab9 turn.bits9 (fun HT_ HW_ => ?_)
  have HM5 := Aside0.mk HM4.out.drew
  generalize w4.drew = w5 at HM5 hHeld ⊢
  clear hlt hel
  have hlt := HM5.out.st.lt
  refine pure_ (i := 0) (N := (some 108)) (v := ?_) (a' := ?_) #[true, false, false, false, false, false, false, false, false, false, false, false, false, false, false, false, false, false] rfl rfl (any_of HT_.out (by kernel_rfl)) (fun _ _ _ h => h) (Or.inl ⟨by rfl, ?_⟩) ?_ ?_
  rotate_left
  · intro w'
    go_simp
    with_reducible rfl
  rotate_left
  · simp only [Act.put, List.setIfInBounds_toArray, List.set_cons_zero, List.set_cons_succ, i64_w, i32_w]
    rfl
  refine pure_ (i := 1) (N := (some 109)) (v := ?_) (a' := ?_) #[true, true, false, false, false, false, false, false, false, false, false, false, false, false, false, false, false, false] rfl rfl (any_of HT_.out (by kernel_rfl)) (fun _ _ _ h => h) (Or.inl ⟨by rfl, ?_⟩) ?_ ?_
  rotate_left
  · intro w'
    go_simp
    with_reducible rfl
  rotate_left
  · simp only [Act.put, List.setIfInBounds_toArray, List.set_cons_zero, List.set_cons_succ, i64_w, i32_w]
    rfl
  refine pure_ (i := 2) (N := (some 110)) (v := ?_) (a' := ?_) #[true, true, true, false, false, false, false, false, false, false, false, false, false, false, false, false, false, false] rfl rfl (any_of HT_.out (by kernel_rfl)) (fun _ _ _ h => h) (Or.inl ⟨by rfl, ?_⟩) ?_ ?_
  rotate_left
  · intro w'
    go_simp
    with_reducible rfl
  rotate_left
  · simp only [Act.put, List.setIfInBounds_toArray, List.set_cons_zero, List.set_cons_succ, i64_w, i32_w]
    rfl
  refine pure_ (i := 3) (N := (some 111)) (v := ?_) (a' := ?_) #[true, true, true, true, false, false, false, false, false, false, false, false, false, false, false, false, false, false] rfl rfl (any_of HT_.out (by kernel_rfl)) (fun _ _ _ h => h) (Or.inl ⟨by rfl, ?_⟩) ?_ ?_
  rotate_left
  · intro w'
    go_simp
    with_reducible rfl
  rotate_left
  · simp only [Act.put, List.setIfInBounds_toArray, List.set_cons_zero, List.set_cons_succ, i64_w, i32_w]
    rfl
  refine pure_ (i := 5) (N := (some 113)) (v := ?_) (a' := ?_) #[true, true, true, true, false, true, false, false, false, false, false, false, false, false, false, false, false, false] rfl rfl (any_of HT_.out (by kernel_rfl)) (fun _ _ _ h => h) (Or.inl ⟨by rfl, ?_⟩) ?_ ?_
  rotate_left
  · intro w'
    go_simp
    with_reducible rfl
  rotate_left
  · simp only [Act.put, List.setIfInBounds_toArray, List.set_cons_zero, List.set_cons_succ, i64_w, i32_w]
    rfl
  refine pure_ (i := 7) (N := (some 115)) (v := ?_) (a' := ?_) #[true, true, true, true, false, true, false, true, false, false, false, false, false, false, false, false, false, false] rfl rfl (any_of HT_.out (by kernel_rfl)) (fun _ _ _ h => h) (Or.inl ⟨by rfl, ?_⟩) ?_ ?_
  rotate_left
  · intro w'
    go_simp
    with_reducible rfl
  rotate_left
  · simp only [Act.put, List.setIfInBounds_toArray, List.set_cons_zero, List.set_cons_succ, i64_w, i32_w]
    rfl
  refine pure_ (i := 8) (N := (some 116)) (v := ?_) (a' := ?_) #[true, true, true, true, false, true, false, true, true, false, false, false, false, false, false, false, false, false] rfl rfl (any_of HT_.out (by kernel_rfl)) (fun _ _ _ h => h) (Or.inl ⟨by rfl, ?_⟩) ?_ ?_
  rotate_left
  · intro w'
    go_simp
    with_reducible rfl
  rotate_left
  · simp only [Act.put, List.setIfInBounds_toArray, List.set_cons_zero, List.set_cons_succ, i64_w, i32_w]
    rfl
  refine pure_ (i := 10) (N := (some 118)) (v := ?_) (a' := ?_) #[true, true, true, true, false, true, false, true, true, false, true, false, false, false, false, false, false, false] rfl rfl (any_of HT_.out (by kernel_rfl)) (fun _ _ _ h => h) (Or.inl ⟨by rfl, ?_⟩) ?_ ?_
  rotate_left
  · intro w'
    go_simp
    with_reducible rfl
  rotate_left
  · simp only [Act.put, List.setIfInBounds_toArray, List.set_cons_zero, List.set_cons_succ, i64_w, i32_w]
    rfl
  refine take_ (i := 4) (N := (some 112)) (v := ?_) (a' := ?_) #[true, true, true, true, true, true, false, true, true, false, true, false, false, false, false, false, false, false] rfl rfl (take_ofW HT_.out HW_.out (by kernel_rfl)) (fun _ _ _ h => h) (Or.inl ⟨by rfl, ?_⟩) hHeld ?_ ?_
  rotate_left
  · rintro w' ⟨s0, s1, s2⟩
    go_simp
    with_reducible rfl
  rotate_left
  · simp only [Act.put, List.setIfInBounds_toArray, List.set_cons_zero, List.set_cons_succ, i64_w, i32_w]
    rfl
  refine take_ (i := 6) (N := (some 114)) (v := ?_) (a' := ?_) #[true, true, true, true, true, true, true, true, true, false, true, false, false, false, false, false, false, false] rfl rfl (take_ofW HT_.out HW_.out (by kernel_rfl)) (fun _ _ _ h => h) (Or.inl ⟨by rfl, ?_⟩) hHeld ?_ ?_
  rotate_left
  · rintro w' ⟨s0, s1, s2⟩
    go_simp
    with_reducible rfl
  rotate_left
  · simp only [Act.put, List.setIfInBounds_toArray, List.set_cons_zero, List.set_cons_succ, i64_w, i32_w]
    rfl
  refine take_ (i := 9) (N := (some 117)) (v := ?_) (a' := ?_) #[true, true, true, true, true, true, true, true, true, true, true, false, false, false, false, false, false, false] rfl rfl (take_ofW HT_.out HW_.out (by kernel_rfl)) (fun _ _ _ h => h) (Or.inl ⟨by rfl, ?_⟩) hHeld ?_ ?_
  rotate_left
  · rintro w' ⟨s0, s1, s2⟩
    go_simp
    with_reducible rfl
  rotate_left
  · simp only [Act.put, List.setIfInBounds_toArray, List.set_cons_zero, List.set_cons_succ, i64_w, i32_w]
    rfl
  refine take_ (i := 11) (N := (some 119)) (v := ?_) (a' := ?_) #[true, true, true, true, true, true, true, true, true, true, true, true, false, false, false, false, false, false] rfl rfl (take_ofW HT_.out HW_.out (by kernel_rfl)) (fun _ _ _ h => h) (Or.inl ⟨by rfl, ?_⟩) hHeld ?_ ?_
  rotate_left
  · rintro w' ⟨s0, s1, s2⟩
    go_simp
    with_reducible rfl
  rotate_left
  · simp only [Act.put, List.setIfInBounds_toArray, List.set_cons_zero, List.set_cons_succ, i64_w, i32_w]
    rfl
  refine pure_ (i := 12) (N := (some 120)) (v := ?_) (a' := ?_) #[true, true, true, true, true, true, true, true, true, true, true, true, true, false, false, false, false, false] rfl rfl (any_of HT_.out (by kernel_rfl)) (fun _ _ _ h => h) (Or.inl ⟨by rfl, ?_⟩) ?_ ?_
  rotate_left
  · intro w'
    go_simp
    with_reducible rfl
  rotate_left
  · simp only [Act.put, List.setIfInBounds_toArray, List.set_cons_zero, List.set_cons_succ, i64_w, i32_w]
    rfl
  refine one_ (i := 13) (N := (some 121)) #[true, true, true, true, true, true, true, true, true, true, true, true, true, true, false, false, false, false] rfl rfl (one_of HT_.out (by kernel_rfl)) (by decide) (fun K hK => ?_)
  refine value_ (by rfl) rfl (v := .slice (some ⟨w5.heap.size, 0, none⟩) 1 1) (w1 := w5.alloc (.cells (lfA ⟨e.nn, e.ng, i, e.wk, noEnd, e.t⟩) 99)) (by go_simp; rfl) ?_
  refine hK.out _ _ (HM5.out.alloc _).cells (fun hHeld => ?_)
  clear hK K
  refine norm_ (a' := ?_) ?_ ?_
  rotate_left
  · show Act.put _ (some 121) _ = _
    simp only [Act.put, List.setIfInBounds_toArray, List.set_cons_zero, List.set_cons_succ, i64_w, i32_w]
    rfl
  refine one_ (i := 14) (N := (some 122)) #[true, true, true, true, true, true, true, true, true, true, true, true, true, true, true, false, false, false] rfl rfl (one_of HT_.out (by kernel_rfl)) (by decide) (fun K hK => ?_)
  refine step_lives (by rfl) _ _ (by rfl) HM5.out ⟨e.nn, e.ng, i, e.wk, noEnd, e.t⟩ (by rfl) (by rfl) HSL ?_
  intro gg cap6 w6 hp
  have HP := Aside0.mk hp
  clear hp
  refine hK.out _ _ HP.out.1 (fun hHeld => ?_)
  clear hK K
  refine norm_ (a' := ?_) ?_ ?_
  rotate_left
  · show Act.put _ (some 122) _ = _
    simp only [Act.put, List.setIfInBounds_toArray, List.set_cons_zero, List.set_cons_succ, i64_w, i32_w]
    rfl
  refine pure_ (i := 15) (N := (some 123)) (v := ?_) (a' := ?_) #[true, true, true, true, true, true, true, true, true, true, true, true, true, true, true, true, false, false] rfl rfl (any_of HT_.out (by kernel_rfl)) (fun _ _ _ h => h) (Or.inl ⟨by rfl, ?_⟩) ?_ ?_
  rotate_left
  · intro w'
    go_simp
    with_reducible rfl
  rotate_left
  · simp only [Act.put, List.setIfInBounds_toArray, List.set_cons_zero, List.set_cons_succ, i64_w, i32_w]
    rfl
  refine pure_ (i := 16) (N := (some 124)) (v := ?_) (a' := ?_) #[true, true, true, true, true, true, true, true, true, true, true, true, true, true, true, true, true, false] rfl rfl (any_of HT_.out (by kernel_rfl)) (fun _ _ _ h => h) (Or.inl ⟨by rfl, ?_⟩) ?_ ?_
  rotate_left
  · intro w'
    go_simp
    with_reducible rfl
  rotate_left
  · simp only [Act.put, List.setIfInBounds_toArray, List.set_cons_zero, List.set_cons_succ, i64_w, i32_w]
    rfl
  refine last_ (i := 17) (N := none) #[true, true, true, true, true, true, true, true, true, true, true, true, true, true, true, true, true, true] rfl rfl (one_of HT_.out (by kernel_rfl)) (by decide) (fun K hK => ?_)
  refine skip_ (by rfl) rfl (w1 := w6.setCell ⟨b, 1, none⟩ (.slice (some ⟨gg, 0, none⟩) (s.lives.length + 1) cap6)) (by have q1 := hHeld.1 1; have q2 := hHeld.2.2 1; go_simp) ?_
  refine hK.out _ _ ?_
  clear hK K
  refine done_ (done_of HT_.out (by kernel_rfl)) ?_
  go_wp2
  go_end0
  have hP := HP.out.2
  try simp only [List.length_set] at hP
  exact ⟨rfl, _, by rw [HF.out]; exact hP.st, hP.fr⟩

set_option maxHeartbeats 4000000 in
set_option maxRecDepth 100000 in
theorem turn_start_no {B b n m1 m2 : Nat} {s : Story} {vl vv vc : Value} (i : Nat) (e : Ev) (w : World) (hB : StIs w B b n s vl vv vc m1 m2) (hw : ∃ kl, keyOf Try.prog 34 (haV e.h) = some kl) (hw2 : ∃ kl, keyOf Try.prog 34 (haV e.new) = some kl) (hn : n ≤ 1000000) (hll : s.lives.length ≤ 1000000) (hk : e.k = 3) (ho : e.op = 1) (he : e.er ≠ 0) :
    Calls Try.prog 84 #[.pointer (some ⟨b, 0, none⟩), .int .i64 (i : Int), .agg (evA e)] w (TurnPost B b (n + 1) (turnF s i e) vl vc vv m1 m2 w) := by
  have hu97 := Try.underlying97
  have hu54 := Try.underlying54
  have hu34 := Try.underlying34
  have hu99 := Try.underlying99
  have HF1 := Aside0.mk (show turn1 s i e = s from turn1_no (by rintro (q | q | q) <;> omega))
  have HF := Aside0.mk (show turnF s i e = s by unfold turnF; rw [HF1.out]; exact turn2_no (by omega))
  have qk4 : (e.k == 4) = false := beq_eq_false_iff_ne.2 (by omega)
  have rk4 : (e.k != 4) = true := bne_iff_ne.2 (by omega)
  have qk3 : (e.k == 3) = true := beq_iff_eq.2 (by omega)
  have rk3 : (e.k != 3) = false := bne_eq_false_iff_eq.2 (by omega)
  have qop2 : (e.op == 2) = false := beq_eq_false_iff_ne.2 (by omega)
  have rop2 : (e.op != 2) = true := bne_iff_ne.2 (by omega)
  have qop3 : (e.op == 3) = false := beq_eq_false_iff_ne.2 (by omega)
  have rop3 : (e.op != 3) = true := bne_iff_ne.2 (by omega)
  have qop1 : (e.op == 1) = true := beq_iff_eq.2 (by omega)
  have rop1 : (e.op != 1) = false := bne_eq_false_iff_eq.2 (by omega)
  have qer0 : (e.er == 0) = false := beq_eq_false_iff_ne.2 (by omega)
  have rer0 : (e.er != 0) = true := bne_iff_ne.2 (by omega)
  have hl0 := fun q => (Mid.start hB e).look hw ((w.alloc (.cells (evA e) 54)).drewN q) rfl
  obtain ⟨z0, hz0⟩ : ∃ z0, ((s.at_ (e.hn, e.hg)).map (fun j => (j : Int))).getD 0 = z0 := ⟨_, rfl⟩
  obtain ⟨z1, hz1⟩ : ∃ z1, (s.at_ (e.hn, e.hg)).isSome = z1 := ⟨_, rfl⟩
  rw [hz0, hz1] at hl0
  clear hz0 hz1
  have HB := Aside0.mk hB
  have hlt := hB.lt
  have hc := fun i => hB.cell i
  have HW2 := Aside0.mk hw2
  have HN := Aside0.mk hn
  have HLL := Aside0.mk hll
  clear hB hw hw2 hn hll hk ho he
  go_enter Try.func84, Try.ntmps84
  go_wp2
  go_quiet (fail)
  go_wp2
  all_goals
    go_end0
    exact ⟨rfl, _, by rw [HF.out]; exact ((Mid.start HB.out e).drewN _).st.up (by omega), ((Mid.start HB.out e).drewN _).fr⟩

set_option maxHeartbeats 4000000 in
set_option maxRecDepth 100000 in
theorem turn_other {B b n m1 m2 : Nat} {s : Story} {vl vv vc : Value} (i : Nat) (e : Ev) (w : World) (hB : StIs w B b n s vl vv vc m1 m2) (hw : ∃ kl, keyOf Try.prog 34 (haV e.h) = some kl) (hw2 : ∃ kl, keyOf Try.prog 34 (haV e.new) = some kl) (hn : n ≤ 1000000) (hll : s.lives.length ≤ 1000000) (hk : e.k = 3) (ho : e.op ≠ 1 ∧ e.op ≠ 2 ∧ e.op ≠ 3) :
    Calls Try.prog 84 #[.pointer (some ⟨b, 0, none⟩), .int .i64 (i : Int), .agg (evA e)] w (TurnPost B b (n + 1) (turnF s i e) vl vc vv m1 m2 w) := by
  have hu97 := Try.underlying97
  have hu54 := Try.underlying54
  have hu34 := Try.underlying34
  have hu99 := Try.underlying99
  have HF1 := Aside0.mk (show turn1 s i e = s from turn1_no (by rintro (q | q | q) <;> omega))
  have HF := Aside0.mk (show turnF s i e = s by unfold turnF; rw [HF1.out]; exact turn2_no (by omega))
  have qk4 : (e.k == 4) = false := beq_eq_false_iff_ne.2 (by omega)
  have rk4 : (e.k != 4) = true := bne_iff_ne.2 (by omega)
  have qk3 : (e.k == 3) = true := beq_iff_eq.2 (by omega)
  have rk3 : (e.k != 3) = false := bne_eq_false_iff_eq.2 (by omega)
  have qop2 : (e.op == 2) = false := beq_eq_false_iff_ne.2 (by omega)
  have rop2 : (e.op != 2) = true := bne_iff_ne.2 (by omega)
  have qop3 : (e.op == 3) = false := beq_eq_false_iff_ne.2 (by omega)
  have rop3 : (e.op != 3) = true := bne_iff_ne.2 (by omega)
  have qop1 : (e.op == 1) = false := beq_eq_false_iff_ne.2 (by omega)
  have rop1 : (e.op != 1) = true := bne_iff_ne.2 (by omega)
  have hl0 := fun q => (Mid.start hB e).look hw ((w.alloc (.cells (evA e) 54)).drewN q) rfl
  obtain ⟨z0, hz0⟩ : ∃ z0, ((s.at_ (e.hn, e.hg)).map (fun j => (j : Int))).getD 0 = z0 := ⟨_, rfl⟩
  obtain ⟨z1, hz1⟩ : ∃ z1, (s.at_ (e.hn, e.hg)).isSome = z1 := ⟨_, rfl⟩
  rw [hz0, hz1] at hl0
  clear hz0 hz1
  have HB := Aside0.mk hB
  have hlt := hB.lt
  have hc := fun i => hB.cell i
  have HW2 := Aside0.mk hw2
  have HN := Aside0.mk hn
  have HLL := Aside0.mk hll
  clear hB hw hw2 hn hll hk ho
  go_enter Try.func84, Try.ntmps84
  go_wp2
  go_quiet (fail)
  go_wp2
  all_goals
    go_end0
    exact ⟨rfl, _, by rw [HF.out]; exact ((Mid.start HB.out e).drewN _).st.up (by omega), ((Mid.start HB.out e).drewN _).fr⟩

theorem turn_any {B b n m1 m2 : Nat} {s : Story} {vl vv vc : Value} (i : Nat) (e : Ev) (w : World) (hB : StIs w B b n s vl vv vc m1 m2) (hw : ∃ kl, keyOf Try.prog 34 (haV e.h) = some kl) (hw2 : ∃ kl, keyOf Try.prog 34 (haV e.new) = some kl) (hn : n ≤ 1000000) (hll : s.lives.length ≤ 1000000)
    (hv : ∀ h j, s.at_ h = some j → ∃ x, s.lives[j]? = some x) (hk : e.k = 3 ∨ e.k = 4) :
    Calls Try.prog 84 #[.pointer (some ⟨b, 0, none⟩), .int .i64 (i : Int), .agg (evA e)] w (TurnPost B b (n + 1) (turnF s i e) vl vc vv m1 m2 w) := by
  have two : ∀ (P : Prop), (s.at_ e.h = none → P) → (∀ k x, s.at_ e.h = some k → s.lives[k]? = some x → x.til > i → P) → (∀ k x, s.at_ e.h = some k → s.lives[k]? = some x → ¬ x.til > i → P) → P := fun P h1 h2 h3 => by
    cases ha : s.at_ e.h with
    | none => exact h1 ha
    | some k =>
      obtain ⟨x, hx⟩ := hv _ k ha
      by_cases ht : x.til > i
      · exact h2 k x ha hx ht
      · exact h3 k x ha hx ht
  rcases hk with hk | hk
  · by_cases o2 : e.op = 2
    · cases hy : e.y with
      | false => exact turn_cancel_no i e w hB hw hw2 hn hll hk o2 hy
      | true => exact two _ (fun ha => turn_cancel_none i e w hB hw hw2 hn hll hk o2 hy ha) (fun k x ha hx ht => turn_cancel_set i e w hB hw hw2 hn hll hk o2 hy k x ha hx ht) (fun k x ha hx ht => turn_cancel_keep i e w hB hw hw2 hn hll hk o2 hy k x ha hx ht)
    by_cases o3 : e.op = 3
    · by_cases he : e.er = 0
      · cases hj : s.at_ e.new with
        | none => exact two _ (fun ha => turn_rearm_none_new i e w hB hw hw2 hn hll hk o3 he ha hj) (fun k x ha hx ht => turn_rearm_set_new i e w hB hw hw2 hn hll hk o3 he k x ha hx ht hj) (fun k x ha hx ht => turn_rearm_keep_new i e w hB hw hw2 hn hll hk o3 he k x ha hx ht hj)
        | some j => exact two _ (fun ha => turn_rearm_none_old i e w hB hw hw2 hn hll hk o3 he ha j hj) (fun k x ha hx ht => turn_rearm_set_old i e w hB hw hw2 hn hll hk o3 he k x ha hx ht j hj) (fun k x ha hx ht => turn_rearm_keep_old i e w hB hw hw2 hn hll hk o3 he k x ha hx ht j hj)
      · exact turn_rearm_no i e w hB hw hw2 hn hll hk o3 he
    by_cases o1 : e.op = 1
    · by_cases he : e.er = 0
      · cases hj : s.at_ e.new with
        | none => exact turn_start_new i e w hB hw hw2 hn hll hk o1 he hj
        | some j => exact turn_start_old i e w hB hw hw2 hn hll hk o1 he j hj
      · exact turn_start_no i e w hB hw hw2 hn hll hk o1 he
    exact turn_other i e w hB hw hw2 hn hll hk ⟨o1, o2, o3⟩
  · exact two _ (fun ha => turn_fire_none i e w hB hw hw2 hn hll hk ha) (fun k x ha hx ht => turn_fire_set i e w hB hw hw2 hn hll hk k x ha hx ht) (fun k x ha hx ht => turn_fire_keep i e w hB hw hw2 hn hll hk k x ha hx ht)
end Go.Proofs.Ythniclbmpeklmaa.Au
