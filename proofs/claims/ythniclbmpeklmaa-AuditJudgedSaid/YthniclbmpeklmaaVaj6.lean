/- What is proved: a part of the way to the statement AuditJudgedSaid: AuT, AuR, AuC, AuF, AuD, AuE; no conditions. Put together by a program of this session (claimv.py). -/
import Derived.StillTailTactics
import Derived.Deep.QuietTactic
import Derived.BigQuiet
import Derived.Deep.AppendLies
import Derived.Deep.LoopGhost
import Derived.Test.YthniclbmpeklmaaVaj5
section
namespace Go.Proofs.Ythniclbmpeklmaa.Au
open Go.RowKit Go.Maps Go.Proofs.YthniclbmpeklmaaW.PrintWords Go.Proofs.YthniclbmpeklmaaW.PrintLast Go.Proofs.YthniclbmpeklmaaW.PrintMore Go.Proofs.Ythniclbmpeklmaa.Mp
set_option linter.unusedVariables false
set_option linter.unusedSimpArgs false
/-- A look-up in one of a story's maps. -/
theorem look_at {w : World} {m1 z : Nat} {f : Ha → Option Nat} (h : MapIs haV Try.prog 34 w m1 z (nV f)) {hn hg : Int} {kl : Lit} (hk : keyOf Try.prog 34 (haV (hn, hg)) = some kl) (W : World) (hb : W.heap[m1]? = w.heap[m1]?) :
    (Instr.lookup 86 (.map (some m1)) (.agg #[.int .i64 hn, .int .i64 hg]) true).run Try.prog W = .ok (.tuple #[.int .i64 (((f (hn, hg)).map (fun j => (j : Int))).getD 0), .bool (f (hn, hg)).isSome]) W := by
  have := (h.move hb).look_ok lawH Try.underlying86 (zeroI W) (x := (hn, hg)) hk
  rw [show (haV (hn, hg)) = .agg #[.int .i64 hn, .int .i64 hg] from rfl] at this
  rw [this]
  unfold nV
  cases f (hn, hg) <;> rfl
def TurnPost (B b n : Nat) (s : Story) (vl vc vv : Value) (m1 m2 : Nat) (w : World) (e : Ending) (w' : World) : Prop :=
  e = .returned (.tuple #[]) ∧ ∃ vv', StIs w' B b n s vl vv' vc m1 m2 ∧ Fr w w' (fun g => g = b ∨ g = m1 ∨ some g = vv.ownBlock)
theorem gen_world {P : Program} {c : Code} {Q : Exit → Act → World → Prop} {a : Act} {w : World} (R : World → Prop) (h : R w) (k : ∀ W, R W → c.wp P Q a W) : c.wp P Q a w := k w h
/-- Half a turn done. -/
structure Mid (w W : World) (B b n m1 m2 : Nat) (vv0 : Value) (s : Story) (vl vv vc : Value) (e : Ev) : Prop where
  st : StIs W B b n s vl vv vc m1 m2
  ev : W.heap[w.heap.size]? = some (.cells (evA e) 54 (0, 0))
  fr : Fr w W (fun g => g = b ∨ g = m1 ∨ some g = vv0.ownBlock)
  m12 : m1 ≠ m2
section
variable {w W W1 : World} {B b n m1 m2 : Nat} {s : Story} {vl vv vc vv0 : Value} {e : Ev}
theorem Mid.alloc (h : Mid w W B b n m1 m2 vv0 s vl vv vc e) (o : Obj) : Mid w (W.alloc o) B b n m1 m2 vv0 s vl vv vc e := ⟨h.st.alloc o, blk_alloc h.ev o, h.fr.alloc o, h.m12⟩
theorem Mid.start (h : StIs w B b n s vl vv vc m1 m2) (e : Ev) : Mid w (w.alloc (.cells (evA e) 54)) B b n m1 m2 vv s vl vv vc e := ⟨h.alloc _, blk_new _ _, (Fr.refl _ _).alloc _, h.m12⟩
theorem Mid.drewN (h : Mid w W B b n m1 m2 vv0 s vl vv vc e) (q : Nat) : Mid w (W.drewN q) B b n m1 m2 vv0 s vl vv vc e := ⟨h.st.drewN q, h.ev, h.fr.drewN q, h.m12⟩
theorem Mid.drew (h : Mid w W B b n m1 m2 vv0 s vl vv vc e) : Mid w W.drew B b n m1 m2 vv0 s vl vv vc e := ⟨h.st.drew, h.ev, h.fr.drew, h.m12⟩
theorem Mid.put {g cap k : Nat} {x : Life} (i : Int) (h : Mid w W B b n m1 m2 (.slice (some ⟨g, 0, none⟩) s.lives.length cap) s vl (.slice (some ⟨g, 0, none⟩) s.lives.length cap) vc e) (hx : s.lives[k]? = some x) :
    Mid w (W.setCell ⟨g, k * 6 + 4, none⟩ (.int .i64 i)) B b n m1 m2 (.slice (some ⟨g, 0, none⟩) s.lives.length cap) { s with lives := s.lives.set k { x with til := i } } vl (.slice (some ⟨g, 0, none⟩) s.lives.length cap) vc e := by
  obtain ⟨cur, hg⟩ := h.st.rv.own (show (Value.slice (some ⟨g, 0, none⟩) s.lives.length cap).ownBlock = some g from rfl)
  obtain ⟨z1, hz1, hm1⟩ := h.st.ma
  obtain ⟨z2, hz2, hm2⟩ := h.st.mo
  obtain ⟨_, _, q1⟩ := hm1.block
  obtain ⟨_, _, q2⟩ := hm2.block
  have n1 := map_ne hg q1
  have n2 := map_ne hg q2
  have nb := types_ne hg h.st.blk (by decide)
  have ne := types_ne hg h.ev (by decide)
  have row : ∀ {α : Type} {T k : Nat} {A : α → Array Value} {v : Value} {l : List α}, RowIs W B T k A v l → 99 ≠ T → v.ownBlock ≠ some g := fun r ht hv => by
    obtain ⟨cur', hg'⟩ := r.own hv
    exact types_ne hg hg' ht rfl
  have hput := h.st.rv.put (fun _ => rfl) (i := k) (j := 4) (x' := { x with til := i }) (u := .int .i64 i) hx (by decide) rfl
  rw [List.length_set] at hput
  refine ⟨⟨blk_far h.st.blk (Ne.symm nb) _, h.st.rl.far (row h.st.rl (by decide)) _, hput, h.st.rc.far (row h.st.rc (by decide)) _, ⟨z1, hz1, hm1.move (Below.heap_setCell _ _ _ _ (Ne.symm n1))⟩, ⟨z2, hz2, hm2.move (Below.heap_setCell _ _ _ _ (Ne.symm n2))⟩, h.st.hb, h.st.h1, h.st.h2, h.st.m12⟩, blk_far h.ev (Ne.symm ne) _, h.fr.set _ _ (.inr (.inr (.inr rfl))), h.m12⟩
theorem Mid.stored {f' : Ha → Option Nat} {z' : Nat} (h : Mid w W B b n m1 m2 vv0 s vl vv vc e) (hm : MapIs haV Try.prog 34 W1 m1 z' (nV f')) (hz : z' ≤ n + 1) (hg : W.grownBy W1 (some m1)) : Mid w W1 B b (n + 1) m1 m2 vv0 { s with at_ := f' } vl vv vc e := by
  obtain ⟨z1, hz1, hm1⟩ := h.st.ma
  obtain ⟨z2, hz2, hm2⟩ := h.st.mo
  obtain ⟨_, _, q1⟩ := hm1.block
  obtain ⟨_, _, q2⟩ := hm2.block
  have row : ∀ {α : Type} {T k : Nat} {A : α → Array Value} {v : Value} {l : List α}, RowIs W B T k A v l → RowIs W1 B T k A v l := by
    intro α T k A v l r
    refine r.kept hg ?_
    cases hv : v.ownBlock with
    | none => exact .inl rfl
    | some g => exact .inr (fun q => by obtain ⟨cur, hc⟩ := r.own hv; exact map_ne hc q1 (Option.some.inj q))
  have h12 : m2 ≠ m1 := fun q => h.m12 q.symm
  exact ⟨⟨blk_grown h.st.blk hg (fun q => map_ne h.st.blk q1 (Option.some.inj q)), row h.st.rl, row h.st.rv, row h.st.rc, ⟨z', hz, hm⟩, ⟨z2, by omega, hm2.move (hg.block m2 hm2.lt (fun q => h12 (Option.some.inj q)))⟩, h.st.hb, h.st.h1, h.st.h2, h.m12⟩, blk_grown h.ev hg (fun q => map_ne h.ev q1 (Option.some.inj q)),
    h.fr.trans ((Fr.of_grown hg).mono (fun g q => .inr (.inl (Option.some.inj q)))), h.m12⟩
theorem Mid.appended {v' : Value} {x : Life} (h : Mid w W B b n m1 m2 vv s vl vv vc e) (hown : RowIs W1 B 99 6 lfA v' (s.lives ++ [x])) (hg : W.grownBy W1 vv.ownBlock) (hat : v'.ownBlock = vv.ownBlock ∨ v'.ownBlock = some W.heap.size) :
    W1.heap[b]? = some (.cells (stA vl vv vc m1 m2) 97 (0, 0)) ∧ Mid w (W1.setCell ⟨b, 1, none⟩ v') B b n m1 m2 vv { s with lives := s.lives ++ [x] } vl v' vc e := by
  obtain ⟨z1, hz1, hm1⟩ := h.st.ma
  obtain ⟨z2, hz2, hm2⟩ := h.st.mo
  obtain ⟨_, _, q1⟩ := hm1.block
  obtain ⟨_, _, q2⟩ := hm2.block
  have ne_map : ∀ (g : Nat) es cl, W.heap[g]? = some (.map es cl) → some g ≠ vv.ownBlock := fun g es cl hq q => by
    obtain ⟨cur, hc⟩ := h.st.rv.own q.symm
    exact map_ne hc hq rfl
  have ne_typ : ∀ (g t : Nat) cs, W.heap[g]? = some (.cells cs t (0, 0)) → 99 ≠ t → some g ≠ vv.ownBlock := fun g t cs hq ht q => by
    obtain ⟨cur, hc⟩ := h.st.rv.own q.symm
    exact types_ne hc hq ht rfl
  have row : ∀ {α : Type} {T k : Nat} {A : α → Array Value} {v : Value} {l : List α}, RowIs W B T k A v l → 99 ≠ T → RowIs W1 B T k A v l := by
    intro α T k A v l r ht
    refine r.kept hg ?_
    cases hv : v.ownBlock with
    | none => exact .inl rfl
    | some g => exact .inr (fun q => by obtain ⟨cur, hc⟩ := r.own hv; exact ne_typ g _ _ hc ht q)
  have hb1 := blk_grown h.st.blk hg (ne_typ _ _ _ h.st.blk (by decide))
  have he1 := blk_grown h.ev hg (ne_typ _ _ _ h.ev (by decide))
  have hm1' := hm1.move (hg.block m1 hm1.lt (ne_map _ _ _ q1))
  have hm2' := hm2.move (hg.block m2 hm2.lt (ne_map _ _ _ q2))
  obtain ⟨_, _, q1'⟩ := hm1'.block
  obtain ⟨_, _, q2'⟩ := hm2'.block
  have far : ∀ {α : Type} {T k : Nat} {A : α → Array Value} {v : Value} {l : List α}, RowIs W1 B T k A v l → 97 ≠ T → v.ownBlock ≠ some b := fun r ht hv => by
    obtain ⟨cur', hg'⟩ := r.own hv
    exact types_ne hb1 hg' ht rfl
  refine ⟨hb1, ⟨⟨?_, (row h.st.rl (by decide)).far (far (row h.st.rl (by decide)) (by decide)) _, hown.far (far hown (by decide)) _, (row h.st.rc (by decide)).far (far (row h.st.rc (by decide)) (by decide)) _, ⟨z1, hz1, hm1'.move (Below.heap_setCell _ _ _ _ (map_ne hb1 q1').symm)⟩, ⟨z2, hz2, hm2'.move (Below.heap_setCell _ _ _ _ (map_ne hb1 q2').symm)⟩, h.st.hb, h.st.h1, h.st.h2, h.m12⟩, blk_far he1 (types_ne hb1 he1 (by decide)).symm _, (h.fr.trans ((Fr.of_grown hg).mono (fun g q => .inr (.inr q)))).set _ _ (.inr (.inl rfl)), h.m12⟩⟩
  exact blk_set hb1 1 v'
theorem Mid.look (h : Mid w W B b n m1 m2 vv0 s vl vv vc e) {hn hg : Int} (hw : ∃ kl, keyOf Try.prog 34 (haV (hn, hg)) = some kl) (W' : World) (hb : W'.heap[m1]? = W.heap[m1]?) :
    (Instr.lookup 86 (.map (some m1)) (.agg #[.int .i64 hn, .int .i64 hg]) true).run Try.prog W' = .ok (.tuple #[.int .i64 (((s.at_ (hn, hg)).map (fun j => (j : Int))).getD 0), .bool (s.at_ (hn, hg)).isSome]) W' := by
  obtain ⟨kl, hk⟩ := hw
  obtain ⟨z1, hz1, hm1⟩ := h.st.ma
  exact look_at hm1 hk W' hb
end
theorem life_info : (Try.prog.info? 99).map (fun i => (i.zero, i.size, i.bytes)) = some (some (.agg #[.int .i64 0, .int .i64 0, .int .i64 0, .int .i64 0, .int .i64 0, .int .i64 0]), 6, 48) := by kernel_rfl
/-- A region that draws: all but its last operations only read; the world behind the draw under a name of its own. -/
theorem still_tail_at {P : Program} {id : Nat} {Q : Exit → Act → World → Prop} {a : Act} {w : World} {l : List Oper} (n : Nat) (hm : P.follows .mixedOrders = true) (hB : Region.lexTailB .any l.toArray n = true)
    (h : ∀ w2, w2 = w.drew → wpStill P l.toArray w2 (fun a' => wpList P l.toArray Q (l.drop n) a' w2) (l.take n) a) : (Code.region id l.toArray true).wp P Q a w :=
  wp_region_still_tail n hm hB (h _ rfl)
theorem Mid.cells {w W : World} {B b n m1 m2 : Nat} {s : Story} {vl vv vc vv0 : Value} {e : Ev} (h : Mid w W B b n m1 m2 vv0 s vl vv vc e) : (∀ i, W.cell? ⟨b, i, none⟩ = (stA vl vv vc m1 m2)[i]?) ∧ (∀ i, W.cell? ⟨w.heap.size, i, none⟩ = (evA e)[i]?) ∧ (∀ i, W.frozen? ⟨b, i, none⟩ = false) :=
  ⟨fun i => h.st.cell i, fun i => blk_cell h.ev i, fun i => blk_frozen h.st.blk i⟩
theorem step_lives {w W : World} {B b n m1 m2 : Nat} {s : Story} {vl vv vc : Value} {e : Ev} {ops : Array Oper} {o : Oper} {a : Act} {K : Act → World → Prop} {Q : Exit → Act → World → Prop} {E : Prop} (hgd : o.guard = none) (p q : Operand)
    (ho : o.op = .call { callee := .builtin .append, args := #[p, q], argTypes := #[93, 93] }) (h : Mid w W B b n m1 m2 vv s vl vv vc e) (x : Life) (hp : a.eval p = vv) (hq : a.eval q = .slice (some ⟨W.heap.size, 0, none⟩) 1 1) (hll : s.lives.length ≤ 1000000)
    (hK : ∀ gg cap w6, ((∀ i, w6.cell? ⟨b, i, none⟩ = (stA vl vv vc m1 m2)[i]?) ∧ (∀ i, w6.cell? ⟨w.heap.size, i, none⟩ = (evA e)[i]?) ∧ (∀ i, w6.frozen? ⟨b, i, none⟩ = false)) ∧ Mid w (w6.setCell ⟨b, 1, none⟩ (.slice (some ⟨gg, 0, none⟩) (s.lives.length + 1) cap)) B b n m1 m2 vv { s with lives := s.lives ++ [x] } vl (.slice (some ⟨gg, 0, none⟩) (s.lives.length + 1) cap) vc e → K (a.put o.dst (.slice (some ⟨gg, 0, none⟩) (s.lives.length + 1) cap)) w6) :
    if Region.wanted o (yielded ops a.tmps) = true then Oper.wp Try.prog o a (W.alloc (.cells (lfA x) 99)) K Q else E := by
  obtain ⟨i0, hi0, hz0, hz1, hz2⟩ := info_parts life_info
  have hA := h.alloc (.cells (lfA x) 99)
  refine step_append_lies _ hgd p q _ ho B 99 i0 _ 6 48 Try.underlying93 hi0 hz0 hz1 hz2 rfl (by omega) vv s.lives.length _ hp hA.st.rv ⟨W.heap.size, 0, none⟩ 1 1 (lfA x).toList hq rfl (World.news_of_block (cs := lfA x) (t := 99) (fr := (0, 0)) (heap_alloc_new W _)) (by simp [Value.oneCell']) (by omega) (by unfold maxLen; omega) (by omega) (by have := h.st.hb; have := h.st.lt; simp; omega) _ rfl ?_
  intro g cap w6 hown hgrow hat hlt
  have hrow : RowIs w6 B 99 6 lfA (.slice (some ⟨g, 0, none⟩) (s.lives.length + 1) cap) (s.lives ++ [x]) := by
    unfold RowIs
    rw [List.length_append, List.flatMap_append]
    simpa using hown
  have hap := hA.appended hrow hgrow (by
    rcases hat with q | q
    · exact .inl q.symm
    · exact .inr (by rw [q]; rfl))
  refine hK _ _ _ ⟨⟨fun i => blk_cell hap.1 i, fun i => ?_, fun i => blk_frozen hap.1 i⟩, hap.2⟩
  have he := hap.2.ev
  have hne := types_ne hap.1 (show w6.heap[w.heap.size]? = _ from (Below.heap_setCell w6 ⟨b, 1, none⟩ (.slice (some ⟨g, 0, none⟩) (s.lives.length + 1) cap) w.heap.size (fun q => by have := h.ev; have h2 := h.st.blk; rw [q] at this; rw [this] at h2; cases h2)).symm.trans he) (by decide)
  exact blk_cell ((Below.heap_setCell w6 ⟨b, 1, none⟩ (.slice (some ⟨g, 0, none⟩) (s.lives.length + 1) cap) w.heap.size (Ne.symm hne)).symm.trans he) i
theorem turn1_no {s : Story} {i : Nat} {e : Ev} (h : ¬ (e.k = 4 ∨ (e.op = 2 ∧ e.y = true) ∨ (e.op = 3 ∧ e.er = 0))) : turn1 s i e = s := by
  unfold turn1
  split
  · rfl
  · split
    · rfl
    · exact if_neg (fun q => h q.1)
theorem turn1_none {s : Story} {i : Nat} {e : Ev} (h : s.at_ e.h = none) : turn1 s i e = s := by unfold turn1; rw [h]
theorem turn1_set {s : Story} {i k : Nat} {e : Ev} {x : Life} (h : s.at_ e.h = some k) (hx : s.lives[k]? = some x) (ho : e.k = 4 ∨ (e.op = 2 ∧ e.y = true) ∨ (e.op = 3 ∧ e.er = 0)) (ht : x.til > i) : turn1 s i e = { s with lives := s.lives.set k { x with til := i } } := by
  unfold turn1; simp only [h, hx]; rw [if_pos ⟨ho, ht⟩]
theorem turn1_keep {s : Story} {i k : Nat} {e : Ev} {x : Life} (h : s.at_ e.h = some k) (hx : s.lives[k]? = some x) (ht : ¬ x.til > i) : turn1 s i e = s := by
  unfold turn1; simp only [h, hx]; rw [if_neg (fun q => ht q.2)]
theorem turn2_no {s : Story} {i : Nat} {e : Ev} (h : e.k ≠ 3 ∨ e.er ≠ 0 ∨ (e.op ≠ 1 ∧ e.op ≠ 3)) : turn2 s i e = s := by unfold turn2; rw [if_pos h]
theorem turn2_old {s : Story} {i k : Nat} {e : Ev} (h : s.at_ e.new = some k) : turn2 s i e = s := by unfold turn2; rw [h]; split <;> rfl
theorem turn2_new {s : Story} {i : Nat} {e : Ev} (hc : ¬ (e.k ≠ 3 ∨ e.er ≠ 0 ∨ (e.op ≠ 1 ∧ e.op ≠ 3))) (h : s.at_ e.new = none) : turn2 s i e = { s with at_ := updH s.at_ e.new s.lives.length, lives := s.lives ++ [⟨e.nn, e.ng, i, e.wk, noEnd, e.t⟩] } := by unfold turn2; rw [if_neg hc, h]
theorem nV_upd (f : Ha → Option Nat) (h : Ha) (j : Nat) : (fun l => if l = h then some (.int .i64 (j : Int)) else nV f l) = nV (updH f h j) := by
  funext l
  unfold nV updH
  by_cases e : l = h <;> simp [e]
def turn.T9 : Bool × List (List Nat × List Nat) := (true, [([], []), ([], []), ([1], [1]), ([2], [2]), ([3], [3]), ([], []), ([5], [5]), ([], []), ([], []), ([8], [8]), ([], []), ([10], [10]), ([6, 7, 9, 11], [6, 7, 9, 11]), ([12], [12]), ([4, 13], [4, 13]), ([0, 0, 1, 2, 3, 4, 5, 6, 7, 8, 9, 10, 11, 12, 13, 14], [0]), ([15, 0, 1, 2, 3, 4, 5, 6, 7, 8, 9, 10, 11, 12, 13, 14], [15]), ([16, 14, 14, 0, 1, 2, 3, 4, 5, 6, 7, 8, 9, 10, 11, 12, 13, 14], [14, 16])])
def turn.B9 : List Nat := [0, 0, 2, 6, 14, 0, 32, 0, 0, 256, 0, 1024, 4064, 8160, 16382, 32767, 65535, 131071]
theorem turn.tab9 : rtab .any (opsOf Try.f84 9) = turn.T9 := by kernel_rfl
theorem turn.bits9 : waitsOk turn.T9.2 turn.B9 = true := by kernel_rfl
set_option maxHeartbeats 4000000 in
set_option maxRecDepth 100000 in
theorem turn_fire_none {B b n m1 m2 : Nat} {s : Story} {vl vv vc : Value} (i : Nat) (e : Ev) (w : World) (hB : StIs w B b n s vl vv vc m1 m2) (hw : ∃ kl, keyOf Try.prog 34 (haV e.h) = some kl) (hw2 : ∃ kl, keyOf Try.prog 34 (haV e.new) = some kl) (hn : n ≤ 1000000) (hll : s.lives.length ≤ 1000000) (hk : e.k = 4) (ha : s.at_ e.h = none) :
    Calls Try.prog 84 #[.pointer (some ⟨b, 0, none⟩), .int .i64 (i : Int), .agg (evA e)] w (TurnPost B b (n + 1) (turnF s i e) vl vc vv m1 m2 w) := by
  have hu97 := Try.underlying97
  have hu54 := Try.underlying54
  have hu34 := Try.underlying34
  have hu99 := Try.underlying99
  have HF1 := Aside0.mk (show turn1 s i e = s from turn1_none ha)
  have HF := Aside0.mk (show turnF s i e = s by unfold turnF; rw [HF1.out]; exact turn2_no (by omega))
  have qk4 : (e.k == 4) = true := beq_iff_eq.2 (by omega)
  have rk4 : (e.k != 4) = false := bne_eq_false_iff_eq.2 (by omega)
  have qk3 : (e.k == 3) = false := beq_eq_false_iff_ne.2 (by omega)
  have rk3 : (e.k != 3) = true := bne_iff_ne.2 (by omega)
  have hl0 := fun q => (Mid.start hB e).look hw ((w.alloc (.cells (evA e) 54)).drewN q) rfl
  rw [show (e.hn, e.hg) = e.h from rfl, ha] at hl0
  simp only [Option.map_none, Option.getD_none, Option.isSome_none] at hl0
  have HB := Aside0.mk hB
  have hlt := hB.lt
  have hc := fun i => hB.cell i
  have HW2 := Aside0.mk hw2
  have HN := Aside0.mk hn
  have HLL := Aside0.mk hll
  clear hB hw hw2 hn hll hk ha
  go_enter Try.func84, Try.ntmps84
  go_wp2
  go_quiet (fail)
  go_wp2
  all_goals
    go_end0
    exact ⟨rfl, _, by rw [HF.out]; exact ((Mid.start HB.out e).drewN _).st.up (by omega), ((Mid.start HB.out e).drewN _).fr⟩
set_option maxHeartbeats 4000000 in
set_option maxRecDepth 100000 in
theorem turn_fire_set {B b n m1 m2 : Nat} {s : Story} {vl vv vc : Value} (i : Nat) (e : Ev) (w : World) (hB : StIs w B b n s vl vv vc m1 m2) (hw : ∃ kl, keyOf Try.prog 34 (haV e.h) = some kl) (hw2 : ∃ kl, keyOf Try.prog 34 (haV e.new) = some kl) (hn : n ≤ 1000000) (hll : s.lives.length ≤ 1000000) (hk : e.k = 4) (k : Nat) (x : Life) (ha : s.at_ e.h = some k) (hx : s.lives[k]? = some x) (ht : x.til > i) :
    Calls Try.prog 84 #[.pointer (some ⟨b, 0, none⟩), .int .i64 (i : Int), .agg (evA e)] w (TurnPost B b (n + 1) (turnF s i e) vl vc vv m1 m2 w) := by
  have hu97 := Try.underlying97
  have hu54 := Try.underlying54
  have hu34 := Try.underlying34
  have hu99 := Try.underlying99
  have HF1 := Aside0.mk (show turn1 s i e = { s with lives := s.lives.set k { x with til := (i : Int) } } from turn1_set ha hx (.inl hk) ht)
  have HF := Aside0.mk (show turnF s i e = { s with lives := s.lives.set k { x with til := (i : Int) } } by unfold turnF; rw [HF1.out]; exact turn2_no (by omega))
  have qk4 : (e.k == 4) = true := beq_iff_eq.2 (by omega)
  have rk4 : (e.k != 4) = false := bne_eq_false_iff_eq.2 (by omega)
  have qk3 : (e.k == 3) = false := beq_eq_false_iff_ne.2 (by omega)
  have rk3 : (e.k != 3) = true := bne_iff_ne.2 (by omega)
  have hl0 := fun q => (Mid.start hB e).look hw ((w.alloc (.cells (evA e) 54)).drewN q) rfl
  rw [show (e.hn, e.hg) = e.h from rfl, ha] at hl0
  simp only [Option.map_some, Option.getD_some, Option.isSome_some] at hl0
  obtain ⟨g, cp, rfl, hcp, hgl, hcell⟩ := hB.rv.at_ (fun _ => rfl) hx
  have hkl : k < s.lives.length := (List.getElem?_eq_some_iff.1 hx).1
  have p0 := eq_true (show (0 : Int) ≤ (k : Int) by omega)
  have p1 := eq_true (show (k : Int) < (s.lives.length : Int) by omega)
  have c4 := (below_alloc (Below.refl w.heap.size w) (.cells (evA e) 54)).cell (p := ⟨g, k * 6 + 4, none⟩) hgl |>.trans (hcell 4 (by decide))
  have gt : decide (x.til > (i : Int)) = true := decide_eq_true ht
  obtain ⟨cur, hcur⟩ := hB.rv.own (show (Value.slice (some ⟨g, 0, none⟩) s.lives.length cp).ownBlock = some g from rfl)
  have fz := blk_frozen (blk_alloc hcur (.cells (evA e) 54)) (k * 6 + 4)
  have HX := Aside0.mk hx
  clear hcur hx
  clear hcell hkl
  have HB := Aside0.mk hB
  have hlt := hB.lt
  have hc := fun i => hB.cell i
  have HW2 := Aside0.mk hw2
  have HN := Aside0.mk hn
  have HLL := Aside0.mk hll
  clear hB hw hw2 hn hll hk ha ht
  go_enter Try.func84, Try.ntmps84
  go_wp2
  go_quiet (fail)
  go_wp2
  all_goals
    go_end0
    exact ⟨rfl, _, by rw [HF.out]; exact (((Mid.start HB.out e).drewN _).put (i : Int) HX.out).st.up (by omega), (((Mid.start HB.out e).drewN _).put (i : Int) HX.out).fr⟩
set_option maxHeartbeats 4000000 in
set_option maxRecDepth 100000 in
theorem turn_fire_keep {B b n m1 m2 : Nat} {s : Story} {vl vv vc : Value} (i : Nat) (e : Ev) (w : World) (hB : StIs w B b n s vl vv vc m1 m2) (hw : ∃ kl, keyOf Try.prog 34 (haV e.h) = some kl) (hw2 : ∃ kl, keyOf Try.prog 34 (haV e.new) = some kl) (hn : n ≤ 1000000) (hll : s.lives.length ≤ 1000000) (hk : e.k = 4) (k : Nat) (x : Life) (ha : s.at_ e.h = some k) (hx : s.lives[k]? = some x) (ht : ¬ x.til > i) :
    Calls Try.prog 84 #[.pointer (some ⟨b, 0, none⟩), .int .i64 (i : Int), .agg (evA e)] w (TurnPost B b (n + 1) (turnF s i e) vl vc vv m1 m2 w) := by
  have hu97 := Try.underlying97
  have hu54 := Try.underlying54
  have hu34 := Try.underlying34
  have hu99 := Try.underlying99
  have HF1 := Aside0.mk (show turn1 s i e = s from turn1_keep ha hx ht)
  have HF := Aside0.mk (show turnF s i e = s by unfold turnF; rw [HF1.out]; exact turn2_no (by omega))
  have qk4 : (e.k == 4) = true := beq_iff_eq.2 (by omega)
  have rk4 : (e.k != 4) = false := bne_eq_false_iff_eq.2 (by omega)
  have qk3 : (e.k == 3) = false := beq_eq_false_iff_ne.2 (by omega)
  have rk3 : (e.k != 3) = true := bne_iff_ne.2 (by omega)
  have hl0 := fun q => (Mid.start hB e).look hw ((w.alloc (.cells (evA e) 54)).drewN q) rfl
  rw [show (e.hn, e.hg) = e.h from rfl, ha] at hl0
  simp only [Option.map_some, Option.getD_some, Option.isSome_some] at hl0
  obtain ⟨g, cp, rfl, hcp, hgl, hcell⟩ := hB.rv.at_ (fun _ => rfl) hx
  have hkl : k < s.lives.length := (List.getElem?_eq_some_iff.1 hx).1
  have p0 := eq_true (show (0 : Int) ≤ (k : Int) by omega)
  have p1 := eq_true (show (k : Int) < (s.lives.length : Int) by omega)
  have c4 := (below_alloc (Below.refl w.heap.size w) (.cells (evA e) 54)).cell (p := ⟨g, k * 6 + 4, none⟩) hgl |>.trans (hcell 4 (by decide))
  have gt : decide (x.til > (i : Int)) = false := decide_eq_false ht
  clear hcell hkl hx
  have HB := Aside0.mk hB
  have hlt := hB.lt
  have hc := fun i => hB.cell i
  have HW2 := Aside0.mk hw2
  have HN := Aside0.mk hn
  have HLL := Aside0.mk hll
  clear hB hw hw2 hn hll hk ha ht
  go_enter Try.func84, Try.ntmps84
  go_wp2
  go_quiet (fail)
  go_wp2
  all_goals
    go_end0
    exact ⟨rfl, _, by rw [HF.out]; exact ((Mid.start HB.out e).drewN _).st.up (by omega), ((Mid.start HB.out e).drewN _).fr⟩
set_option maxHeartbeats 4000000 in
set_option maxRecDepth 100000 in
theorem turn_cancel_none {B b n m1 m2 : Nat} {s : Story} {vl vv vc : Value} (i : Nat) (e : Ev) (w : World) (hB : StIs w B b n s vl vv vc m1 m2) (hw : ∃ kl, keyOf Try.prog 34 (haV e.h) = some kl) (hw2 : ∃ kl, keyOf Try.prog 34 (haV e.new) = some kl) (hn : n ≤ 1000000) (hll : s.lives.length ≤ 1000000) (hk : e.k = 3) (ho : e.op = 2) (hy : e.y = true) (ha : s.at_ e.h = none) :
    Calls Try.prog 84 #[.pointer (some ⟨b, 0, none⟩), .int .i64 (i : Int), .agg (evA e)] w (TurnPost B b (n + 1) (turnF s i e) vl vc vv m1 m2 w) := by
  have hu97 := Try.underlying97
  have hu54 := Try.underlying54
  have hu34 := Try.underlying34
  have hu99 := Try.underlying99
  have HF1 := Aside0.mk (show turn1 s i e = s from turn1_none ha)
  have HF := Aside0.mk (show turnF s i e = s by unfold turnF; rw [HF1.out]; exact turn2_no (by omega))
  have qk4 : (e.k == 4) = false := beq_eq_false_iff_ne.2 (by omega)
  have rk4 : (e.k != 4) = true := bne_iff_ne.2 (by omega)
  have qk3 : (e.k == 3) = true := beq_iff_eq.2 (by omega)
  have rk3 : (e.k != 3) = false := bne_eq_false_iff_eq.2 (by omega)
  have qop2 : (e.op == 2) = true := beq_iff_eq.2 (by omega)
  have rop2 : (e.op != 2) = false := bne_eq_false_iff_eq.2 (by omega)
  have qop3 : (e.op == 3) = false := beq_eq_false_iff_ne.2 (by omega)
  have rop3 : (e.op != 3) = true := bne_iff_ne.2 (by omega)
  have qop1 : (e.op == 1) = false := beq_eq_false_iff_ne.2 (by omega)
  have rop1 : (e.op != 1) = true := bne_iff_ne.2 (by omega)
  have hl0 := fun q => (Mid.start hB e).look hw ((w.alloc (.cells (evA e) 54)).drewN q) rfl
  rw [show (e.hn, e.hg) = e.h from rfl, ha] at hl0
  simp only [Option.map_none, Option.getD_none, Option.isSome_none] at hl0
  have HB := Aside0.mk hB
  have hlt := hB.lt
  have hc := fun i => hB.cell i
  have HW2 := Aside0.mk hw2
  have HN := Aside0.mk hn
  have HLL := Aside0.mk hll
  clear hB hw hw2 hn hll hk ho ha
  go_enter Try.func84, Try.ntmps84
  go_wp2
  go_quiet (fail)
  go_wp2
  all_goals
    go_end0
    exact ⟨rfl, _, by rw [HF.out]; exact ((Mid.start HB.out e).drewN _).st.up (by omega), ((Mid.start HB.out e).drewN _).fr⟩
set_option maxHeartbeats 4000000 in
set_option maxRecDepth 100000 in
theorem turn_cancel_set {B b n m1 m2 : Nat} {s : Story} {vl vv vc : Value} (i : Nat) (e : Ev) (w : World) (hB : StIs w B b n s vl vv vc m1 m2) (hw : ∃ kl, keyOf Try.prog 34 (haV e.h) = some kl) (hw2 : ∃ kl, keyOf Try.prog 34 (haV e.new) = some kl) (hn : n ≤ 1000000) (hll : s.lives.length ≤ 1000000) (hk : e.k = 3) (ho : e.op = 2) (hy : e.y = true) (k : Nat) (x : Life) (ha : s.at_ e.h = some k) (hx : s.lives[k]? = some x) (ht : x.til > i) :
    Calls Try.prog 84 #[.pointer (some ⟨b, 0, none⟩), .int .i64 (i : Int), .agg (evA e)] w (TurnPost B b (n + 1) (turnF s i e) vl vc vv m1 m2 w) := by
  have hu97 := Try.underlying97
  have hu54 := Try.underlying54
  have hu34 := Try.underlying34
  have hu99 := Try.underlying99
  have HF1 := Aside0.mk (show turn1 s i e = { s with lives := s.lives.set k { x with til := (i : Int) } } from turn1_set ha hx (.inr (.inl ⟨ho, hy⟩)) ht)
  have HF := Aside0.mk (show turnF s i e = { s with lives := s.lives.set k { x with til := (i : Int) } } by unfold turnF; rw [HF1.out]; exact turn2_no (by omega))
  have qk4 : (e.k == 4) = false := beq_eq_false_iff_ne.2 (by omega)
  have rk4 : (e.k != 4) = true := bne_iff_ne.2 (by omega)
  have qk3 : (e.k == 3) = true := beq_iff_eq.2 (by omega)
  have rk3 : (e.k != 3) = false := bne_eq_false_iff_eq.2 (by omega)
  have qop2 : (e.op == 2) = true := beq_iff_eq.2 (by omega)
  have rop2 : (e.op != 2) = false := bne_eq_false_iff_eq.2 (by omega)
  have qop3 : (e.op == 3) = false := beq_eq_false_iff_ne.2 (by omega)
  have rop3 : (e.op != 3) = true := bne_iff_ne.2 (by omega)
  have qop1 : (e.op == 1) = false := beq_eq_false_iff_ne.2 (by omega)
  have rop1 : (e.op != 1) = true := bne_iff_ne.2 (by omega)
  have hl0 := fun q => (Mid.start hB e).look hw ((w.alloc (.cells (evA e) 54)).drewN q) rfl
  rw [show (e.hn, e.hg) = e.h from rfl, ha] at hl0
  simp only [Option.map_some, Option.getD_some, Option.isSome_some] at hl0
  obtain ⟨g, cp, rfl, hcp, hgl, hcell⟩ := hB.rv.at_ (fun _ => rfl) hx
  have hkl : k < s.lives.length := (List.getElem?_eq_some_iff.1 hx).1
  have p0 := eq_true (show (0 : Int) ≤ (k : Int) by omega)
  have p1 := eq_true (show (k : Int) < (s.lives.length : Int) by omega)
  have c4 := (below_alloc (Below.refl w.heap.size w) (.cells (evA e) 54)).cell (p := ⟨g, k * 6 + 4, none⟩) hgl |>.trans (hcell 4 (by decide))
  have gt : decide (x.til > (i : Int)) = true := decide_eq_true ht
  obtain ⟨cur, hcur⟩ := hB.rv.own (show (Value.slice (some ⟨g, 0, none⟩) s.lives.length cp).ownBlock = some g from rfl)
  have fz := blk_frozen (blk_alloc hcur (.cells (evA e) 54)) (k * 6 + 4)
  have HX := Aside0.mk hx
  clear hcur hx
  clear hcell hkl
  have HB := Aside0.mk hB
  have hlt := hB.lt
  have hc := fun i => hB.cell i
  have HW2 := Aside0.mk hw2
  have HN := Aside0.mk hn
  have HLL := Aside0.mk hll
  clear hB hw hw2 hn hll hk ho ha ht
  go_enter Try.func84, Try.ntmps84
  go_wp2
  go_quiet (fail)
  go_wp2
  all_goals
    go_end0
    exact ⟨rfl, _, by rw [HF.out]; exact (((Mid.start HB.out e).drewN _).put (i : Int) HX.out).st.up (by omega), (((Mid.start HB.out e).drewN _).put (i : Int) HX.out).fr⟩
set_option maxHeartbeats 4000000 in
set_option maxRecDepth 100000 in
theorem turn_cancel_keep {B b n m1 m2 : Nat} {s : Story} {vl vv vc : Value} (i : Nat) (e : Ev) (w : World) (hB : StIs w B b n s vl vv vc m1 m2) (hw : ∃ kl, keyOf Try.prog 34 (haV e.h) = some kl) (hw2 : ∃ kl, keyOf Try.prog 34 (haV e.new) = some kl) (hn : n ≤ 1000000) (hll : s.lives.length ≤ 1000000) (hk : e.k = 3) (ho : e.op = 2) (hy : e.y = true) (k : Nat) (x : Life) (ha : s.at_ e.h = some k) (hx : s.lives[k]? = some x) (ht : ¬ x.til > i) :
    Calls Try.prog 84 #[.pointer (some ⟨b, 0, none⟩), .int .i64 (i : Int), .agg (evA e)] w (TurnPost B b (n + 1) (turnF s i e) vl vc vv m1 m2 w) := by
  have hu97 := Try.underlying97
  have hu54 := Try.underlying54
  have hu34 := Try.underlying34
  have hu99 := Try.underlying99
  have HF1 := Aside0.mk (show turn1 s i e = s from turn1_keep ha hx ht)
  have HF := Aside0.mk (show turnF s i e = s by unfold turnF; rw [HF1.out]; exact turn2_no (by omega))
  have qk4 : (e.k == 4) = false := beq_eq_false_iff_ne.2 (by omega)
  have rk4 : (e.k != 4) = true := bne_iff_ne.2 (by omega)
  have qk3 : (e.k == 3) = true := beq_iff_eq.2 (by omega)
  have rk3 : (e.k != 3) = false := bne_eq_false_iff_eq.2 (by omega)
  have qop2 : (e.op == 2) = true := beq_iff_eq.2 (by omega)
  have rop2 : (e.op != 2) = false := bne_eq_false_iff_eq.2 (by omega)
  have qop3 : (e.op == 3) = false := beq_eq_false_iff_ne.2 (by omega)
  have rop3 : (e.op != 3) = true := bne_iff_ne.2 (by omega)
  have qop1 : (e.op == 1) = false := beq_eq_false_iff_ne.2 (by omega)
  have rop1 : (e.op != 1) = true := bne_iff_ne.2 (by omega)
  have hl0 := fun q => (Mid.start hB e).look hw ((w.alloc (.cells (evA e) 54)).drewN q) rfl
  rw [show (e.hn, e.hg) = e.h from rfl, ha] at hl0
  simp only [Option.map_some, Option.getD_some, Option.isSome_some] at hl0
  obtain ⟨g, cp, rfl, hcp, hgl, hcell⟩ := hB.rv.at_ (fun _ => rfl) hx
  have hkl : k < s.lives.length := (List.getElem?_eq_some_iff.1 hx).1
  have p0 := eq_true (show (0 : Int) ≤ (k : Int) by omega)
  have p1 := eq_true (show (k : Int) < (s.lives.length : Int) by omega)
  have c4 := (below_alloc (Below.refl w.heap.size w) (.cells (evA e) 54)).cell (p := ⟨g, k * 6 + 4, none⟩) hgl |>.trans (hcell 4 (by decide))
  have gt : decide (x.til > (i : Int)) = false := decide_eq_false ht
  clear hcell hkl hx
  have HB := Aside0.mk hB
  have hlt := hB.lt
  have hc := fun i => hB.cell i
  have HW2 := Aside0.mk hw2
  have HN := Aside0.mk hn
  have HLL := Aside0.mk hll
  clear hB hw hw2 hn hll hk ho ha ht
  go_enter Try.func84, Try.ntmps84
  go_wp2
  go_quiet (fail)
  go_wp2
  all_goals
    go_end0
    exact ⟨rfl, _, by rw [HF.out]; exact ((Mid.start HB.out e).drewN _).st.up (by omega), ((Mid.start HB.out e).drewN _).fr⟩
set_option maxHeartbeats 4000000 in
set_option maxRecDepth 100000 in
theorem turn_cancel_no {B b n m1 m2 : Nat} {s : Story} {vl vv vc : Value} (i : Nat) (e : Ev) (w : World) (hB : StIs w B b n s vl vv vc m1 m2) (hw : ∃ kl, keyOf Try.prog 34 (haV e.h) = some kl) (hw2 : ∃ kl, keyOf Try.prog 34 (haV e.new) = some kl) (hn : n ≤ 1000000) (hll : s.lives.length ≤ 1000000) (hk : e.k = 3) (ho : e.op = 2) (hy : e.y = false) :
    Calls Try.prog 84 #[.pointer (some ⟨b, 0, none⟩), .int .i64 (i : Int), .agg (evA e)] w (TurnPost B b (n + 1) (turnF s i e) vl vc vv m1 m2 w) := by
  have hu97 := Try.underlying97
  have hu54 := Try.underlying54
  have hu34 := Try.underlying34
  have hu99 := Try.underlying99
  have HF1 := Aside0.mk (show turn1 s i e = s from turn1_no (by rintro (q | q | q); omega; (rw [hy] at q; exact absurd q.2 (by decide)); omega))
  have HF := Aside0.mk (show turnF s i e = s by unfold turnF; rw [HF1.out]; exact turn2_no (by omega))
  have qk4 : (e.k == 4) = false := beq_eq_false_iff_ne.2 (by omega)
  have rk4 : (e.k != 4) = true := bne_iff_ne.2 (by omega)
  have qk3 : (e.k == 3) = true := beq_iff_eq.2 (by omega)
  have rk3 : (e.k != 3) = false := bne_eq_false_iff_eq.2 (by omega)
  have qop2 : (e.op == 2) = true := beq_iff_eq.2 (by omega)
  have rop2 : (e.op != 2) = false := bne_eq_false_iff_eq.2 (by omega)
  have qop3 : (e.op == 3) = false := beq_eq_false_iff_ne.2 (by omega)
  have rop3 : (e.op != 3) = true := bne_iff_ne.2 (by omega)
  have qop1 : (e.op == 1) = false := beq_eq_false_iff_ne.2 (by omega)
  have rop1 : (e.op != 1) = true := bne_iff_ne.2 (by omega)
  have hl0 := fun q => (Mid.start hB e).look hw ((w.alloc (.cells (evA e) 54)).drewN q) rfl
  obtain ⟨z0, hz0⟩ : ∃ z0, ((s.at_ (e.hn, e.hg)).map (fun j => (j : Int))).getD 0 = z0 := ⟨_, rfl⟩
  obtain ⟨z1, hz1⟩ : ∃ z1, (s.at_ (e.hn, e.hg)).isSome = z1 := ⟨_, rfl⟩
  rw [hz0, hz1] at hl0
  clear hz0 hz1
  have HB := Aside0.mk hB
  have hlt := hB.lt
  have hc := fun i => hB.cell i
  have HW2 := Aside0.mk hw2
  have HN := Aside0.mk hn
  have HLL := Aside0.mk hll
  clear hB hw hw2 hn hll hk ho
  go_enter Try.func84, Try.ntmps84
  go_wp2
  go_quiet (fail)
  go_wp2
  all_goals
    go_end0
    exact ⟨rfl, _, by rw [HF.out]; exact ((Mid.start HB.out e).drewN _).st.up (by omega), ((Mid.start HB.out e).drewN _).fr⟩
set_option maxHeartbeats 4000000 in
set_option maxRecDepth 100000 in
theorem turn_rearm_none_old {B b n m1 m2 : Nat} {s : Story} {vl vv vc : Value} (i : Nat) (e : Ev) (w : World) (hB : StIs w B b n s vl vv vc m1 m2) (hw : ∃ kl, keyOf Try.prog 34 (haV e.h) = some kl) (hw2 : ∃ kl, keyOf Try.prog 34 (haV e.new) = some kl) (hn : n ≤ 1000000) (hll : s.lives.length ≤ 1000000) (hk : e.k = 3) (ho : e.op = 3) (he : e.er = 0) (ha : s.at_ e.h = none) (j : Nat) (hj : s.at_ e.new = some j) :
    Calls Try.prog 84 #[.pointer (some ⟨b, 0, none⟩), .int .i64 (i : Int), .agg (evA e)] w (TurnPost B b (n + 1) (turnF s i e) vl vc vv m1 m2 w) := by
  obtain ⟨A9, c9, rfl, hc9⟩ := hB.rv.form
  clear hc9
  have hu97 := Try.underlying97
  have hu54 := Try.underlying54
  have hu34 := Try.underlying34
  have hu99 := Try.underlying99
  have HF1 := Aside0.mk (show turn1 s i e = s from turn1_none ha)
  have HF := Aside0.mk (show turnF s i e = s by unfold turnF; rw [HF1.out]; exact turn2_old hj)
  have qk4 : (e.k == 4) = false := beq_eq_false_iff_ne.2 (by omega)
  have rk4 : (e.k != 4) = true := bne_iff_ne.2 (by omega)
  have qk3 : (e.k == 3) = true := beq_iff_eq.2 (by omega)
  have rk3 : (e.k != 3) = false := bne_eq_false_iff_eq.2 (by omega)
  have qop2 : (e.op == 2) = false := beq_eq_false_iff_ne.2 (by omega)
  have rop2 : (e.op != 2) = true := bne_iff_ne.2 (by omega)
  have qop3 : (e.op == 3) = true := beq_iff_eq.2 (by omega)
  have rop3 : (e.op != 3) = false := bne_eq_false_iff_eq.2 (by omega)
  have qop1 : (e.op == 1) = false := beq_eq_false_iff_ne.2 (by omega)
  have rop1 : (e.op != 1) = true := bne_iff_ne.2 (by omega)
  have qer0 : (e.er == 0) = true := beq_iff_eq.2 (by omega)
  have rer0 : (e.er != 0) = false := bne_eq_false_iff_eq.2 (by omega)
  have hl0 := fun q => (Mid.start hB e).look hw ((w.alloc (.cells (evA e) 54)).drewN q) rfl
  rw [show (e.hn, e.hg) = e.h from rfl, ha] at hl0
  simp only [Option.map_none, Option.getD_none, Option.isSome_none] at hl0
  have HB := Aside0.mk hB
  have hlt := hB.lt
  have hc := fun i => hB.cell i
  have HW2 := Aside0.mk hw2
  have HN := Aside0.mk hn
  have HLL := Aside0.mk hll
  have HJ := Aside0.mk hj
  clear hB hw hw2 hn hll hk ho he ha hj
  go_enter Try.func84, Try.ntmps84
  go_wp2
  go_quiet (fail)
  go_upto_region 5 with (fail)
  refine gen_world (fun W => Mid w W B b n m1 m2 (.slice A9 s.lives.length c9) s vl (.slice A9 s.lives.length c9) vc e) (by exact (Mid.start HB.out e).drewN _) fun W hM => ?_
  clear hlt hc hl0
  have hlt := hM.st.lt
  have hc := fun i => hM.st.cell i
  have hel := blk_lt hM.ev
  have hce := fun i => blk_cell hM.ev i
  have HM := Aside0.mk hM
  have hl1 := fun q => hM.look HW2.out (W.drewN q) rfl
  simp only [show (e.nn, e.ng) = e.new from rfl, HJ.out] at hl1
  clear hM
  simp only [Option.map_some, Option.getD_some, Option.isSome_some] at hl1
  go_wp2
  go_quiet (fail)
  go_wp2
  go_end0
  exact ⟨rfl, _, by rw [HF.out]; exact (HM.out.drewN _).st.up (by omega), (HM.out.drewN _).fr⟩
set_option maxHeartbeats 4000000 in
set_option maxRecDepth 100000 in
theorem turn_rearm_none_new {B b n m1 m2 : Nat} {s : Story} {vl vv vc : Value} (i : Nat) (e : Ev) (w : World) (hB : StIs w B b n s vl vv vc m1 m2) (hw : ∃ kl, keyOf Try.prog 34 (haV e.h) = some kl) (hw2 : ∃ kl, keyOf Try.prog 34 (haV e.new) = some kl) (hn : n ≤ 1000000) (hll : s.lives.length ≤ 1000000) (hk : e.k = 3) (ho : e.op = 3) (he : e.er = 0) (ha : s.at_ e.h = none) (hj : s.at_ e.new = none) :
    Calls Try.prog 84 #[.pointer (some ⟨b, 0, none⟩), .int .i64 (i : Int), .agg (evA e)] w (TurnPost B b (n + 1) (turnF s i e) vl vc vv m1 m2 w) := by
  obtain ⟨A9, c9, rfl, hc9⟩ := hB.rv.form
  clear hc9
  have hu97 := Try.underlying97
  have hu54 := Try.underlying54
  have hu34 := Try.underlying34
  have hu99 := Try.underlying99
  have HF1 := Aside0.mk (show turn1 s i e = s from turn1_none ha)
  have HF := Aside0.mk (show turnF s i e = { (s : Story) with at_ := updH s.at_ e.new s.lives.length, lives := (s : Story).lives ++ [⟨e.nn, e.ng, i, e.wk, noEnd, e.t⟩] } by unfold turnF; rw [HF1.out, turn2_new (s := s) (by omega) hj])
  have qk4 : (e.k == 4) = false := beq_eq_false_iff_ne.2 (by omega)
  have rk4 : (e.k != 4) = true := bne_iff_ne.2 (by omega)
  have qk3 : (e.k == 3) = true := beq_iff_eq.2 (by omega)
  have rk3 : (e.k != 3) = false := bne_eq_false_iff_eq.2 (by omega)
  have qop2 : (e.op == 2) = false := beq_eq_false_iff_ne.2 (by omega)
  have rop2 : (e.op != 2) = true := bne_iff_ne.2 (by omega)
  have qop3 : (e.op == 3) = true := beq_iff_eq.2 (by omega)
  have rop3 : (e.op != 3) = false := bne_eq_false_iff_eq.2 (by omega)
  have qop1 : (e.op == 1) = false := beq_eq_false_iff_ne.2 (by omega)
  have rop1 : (e.op != 1) = true := bne_iff_ne.2 (by omega)
  have qer0 : (e.er == 0) = true := beq_iff_eq.2 (by omega)
  have rer0 : (e.er != 0) = false := bne_eq_false_iff_eq.2 (by omega)
  have hl0 := fun q => (Mid.start hB e).look hw ((w.alloc (.cells (evA e) 54)).drewN q) rfl
  rw [show (e.hn, e.hg) = e.h from rfl, ha] at hl0
  simp only [Option.map_none, Option.getD_none, Option.isSome_none] at hl0
  have HB := Aside0.mk hB
  have hlt := hB.lt
  have hc := fun i => hB.cell i
  have HW2 := Aside0.mk hw2
  have HN := Aside0.mk hn
  have HLL := Aside0.mk hll
  have HJ := Aside0.mk hj
  clear hB hw hw2 hn hll hk ho he ha hj
  go_enter Try.func84, Try.ntmps84
  go_wp2
  go_quiet (fail)
  go_upto_region 5 with (fail)
  refine gen_world (fun W => Mid w W B b n m1 m2 (.slice A9 s.lives.length c9) s vl (.slice A9 s.lives.length c9) vc e) (by exact (Mid.start HB.out e).drewN _) fun W hM => ?_
  clear hlt hc hl0
  have hlt := hM.st.lt
  have hc := fun i => hM.st.cell i
  have hel := blk_lt hM.ev
  have hce := fun i => blk_cell hM.ev i
  have HM := Aside0.mk hM
  have hl1 := fun q => hM.look HW2.out (W.drewN q) rfl
  simp only [show (e.nn, e.ng) = e.new from rfl, HJ.out] at hl1
  clear hM
  simp only [Option.map_none, Option.getD_none, Option.isSome_none] at hl1
  go_wp2
  go_quiet (fail)
  go_wp2
  refine gen_world (fun W2 => Mid w W2 B b n m1 m2 (.slice A9 s.lives.length c9) s vl (.slice A9 s.lives.length c9) vc e) (by exact HM.out.drewN _) fun W2 hM2 => ?_
  clear hlt hc hel hce hl1
  refine still_tail_at 11 (by kernel_rfl) (by kernel_rfl) fun w2 hw2 => ?_
  have HM3 := Aside0.mk (show Mid w w2 B b n m1 m2 (.slice A9 s.lives.length c9) s vl (.slice A9 s.lives.length c9) vc e by rw [hw2]; exact hM2.drew)
  clear hw2 hM2 HM
  have hlt := HM3.out.st.lt
  have hc := fun i => HM3.out.st.cell i
  have hel := blk_lt HM3.out.ev
  have hce := fun i => blk_cell HM3.out.ev i
  simp only [List.take_succ_cons, List.take_zero, List.drop_succ_cons, List.drop_zero]
  repeat still_step
  refine wpStill_nil ?_
  obtain ⟨z1, hz1, hm1⟩ := HM3.out.st.ma
  obtain ⟨kl2, hkl2⟩ := HW2.out
  refine wpl_store ha_inj rfl _ _ _ 86 rfl hm1 lawH Try.underlying86 (by unfold maxLen; have := HN.out; omega) (y := e.new) hkl2 (val := .int .i64 (s.lives.length : Int)) rfl rfl rfl ?_
  intro w4 hm4 hg4
  rw [nV_upd] at hm4
  have HM4 := Aside0.mk (HM3.out.stored hm4 (by split <;> omega) hg4)
  clear hlt hc hel hce hm4 hg4 hm1 hz1 HM3 hkl2
  go_wp2
  have HSL : (s : Story).lives.length ≤ 1000000 := by first | exact HLL.out | (simp only [List.length_set]; exact HLL.out)
  have hlt := HM4.out.st.lt
  have hel := blk_lt HM4.out.ev
  have hll := HLL.out
  refine start_ (n := 18) (S := (fun w' => (∀ i, w'.cell? ⟨b, i, none⟩ = (stA vl (.slice A9 s.lives.length c9) vc m1 m2)[i]?) ∧ (∀ i, w'.cell? ⟨w.heap.size, i, none⟩ = (evA e)[i]?) ∧ (∀ i, w'.frozen? ⟨b, i, none⟩ = false))) (ds := [17]) #[false, false, false, false, false, false, false, false, false, false, false, false, false, false, false, false, false, false] (by kernel_rfl) rfl rfl HM4.out.drew.cells (fun hHeld => ?_)
  refine with_tabW turn.tab9 turn.bits9 (fun HT_ HW_ => ?_)
  have HM5 := Aside0.mk HM4.out.drew
  generalize w4.drew = w5 at HM5 hHeld ⊢
  clear hlt hel
  have hlt := HM5.out.st.lt
  refine pure_ (i := 0) (N := (some 108)) (v := ?_) (a' := ?_) #[true, false, false, false, false, false, false, false, false, false, false, false, false, false, false, false, false, false] rfl rfl (any_of HT_.out (by kernel_rfl)) (fun _ _ _ h => h) (Or.inl ⟨by rfl, ?_⟩) ?_ ?_
  rotate_left
  · intro w'
    go_simp
    with_reducible rfl
  rotate_left
  · simp only [Act.put, List.setIfInBounds_toArray, List.set_cons_zero, List.set_cons_succ, i64_w, i32_w]
    rfl
  refine pure_ (i := 1) (N := (some 109)) (v := ?_) (a' := ?_) #[true, true, false, false, false, false, false, false, false, false, false, false, false, false, false, false, false, false] rfl rfl (any_of HT_.out (by kernel_rfl)) (fun _ _ _ h => h) (Or.inl ⟨by rfl, ?_⟩) ?_ ?_
  rotate_left
  · intro w'
    go_simp
    with_reducible rfl
  rotate_left
  · simp only [Act.put, List.setIfInBounds_toArray, List.set_cons_zero, List.set_cons_succ, i64_w, i32_w]
    rfl
  refine pure_ (i := 2) (N := (some 110)) (v := ?_) (a' := ?_) #[true, true, true, false, false, false, false, false, false, false, false, false, false, false, false, false, false, false] rfl rfl (any_of HT_.out (by kernel_rfl)) (fun _ _ _ h => h) (Or.inl ⟨by rfl, ?_⟩) ?_ ?_
  rotate_left
  · intro w'
    go_simp
    with_reducible rfl
  rotate_left
  · simp only [Act.put, List.setIfInBounds_toArray, List.set_cons_zero, List.set_cons_succ, i64_w, i32_w]
    rfl
  refine pure_ (i := 3) (N := (some 111)) (v := ?_) (a' := ?_) #[true, true, true, true, false, false, false, false, false, false, false, false, false, false, false, false, false, false] rfl rfl (any_of HT_.out (by kernel_rfl)) (fun _ _ _ h => h) (Or.inl ⟨by rfl, ?_⟩) ?_ ?_
  rotate_left
  · intro w'
    go_simp
    with_reducible rfl
  rotate_left
  · simp only [Act.put, List.setIfInBounds_toArray, List.set_cons_zero, List.set_cons_succ, i64_w, i32_w]
    rfl
  refine pure_ (i := 5) (N := (some 113)) (v := ?_) (a' := ?_) #[true, true, true, true, false, true, false, false, false, false, false, false, false, false, false, false, false, false] rfl rfl (any_of HT_.out (by kernel_rfl)) (fun _ _ _ h => h) (Or.inl ⟨by rfl, ?_⟩) ?_ ?_
  rotate_left
  · intro w'
    go_simp
    with_reducible rfl
  rotate_left
  · simp only [Act.put, List.setIfInBounds_toArray, List.set_cons_zero, List.set_cons_succ, i64_w, i32_w]
    rfl
  refine pure_ (i := 7) (N := (some 115)) (v := ?_) (a' := ?_) #[true, true, true, true, false, true, false, true, false, false, false, false, false, false, false, false, false, false] rfl rfl (any_of HT_.out (by kernel_rfl)) (fun _ _ _ h => h) (Or.inl ⟨by rfl, ?_⟩) ?_ ?_
  rotate_left
  · intro w'
    go_simp
    with_reducible rfl
  rotate_left
  · simp only [Act.put, List.setIfInBounds_toArray, List.set_cons_zero, List.set_cons_succ, i64_w, i32_w]
    rfl
  refine pure_ (i := 8) (N := (some 116)) (v := ?_) (a' := ?_) #[true, true, true, true, false, true, false, true, true, false, false, false, false, false, false, false, false, false] rfl rfl (any_of HT_.out (by kernel_rfl)) (fun _ _ _ h => h) (Or.inl ⟨by rfl, ?_⟩) ?_ ?_
  rotate_left
  · intro w'
    go_simp
    with_reducible rfl
  rotate_left
  · simp only [Act.put, List.setIfInBounds_toArray, List.set_cons_zero, List.set_cons_succ, i64_w, i32_w]
    rfl
  refine pure_ (i := 10) (N := (some 118)) (v := ?_) (a' := ?_) #[true, true, true, true, false, true, false, true, true, false, true, false, false, false, false, false, false, false] rfl rfl (any_of HT_.out (by kernel_rfl)) (fun _ _ _ h => h) (Or.inl ⟨by rfl, ?_⟩) ?_ ?_
  rotate_left
  · intro w'
    go_simp
    with_reducible rfl
  rotate_left
  · simp only [Act.put, List.setIfInBounds_toArray, List.set_cons_zero, List.set_cons_succ, i64_w, i32_w]
    rfl
  refine take_ (i := 4) (N := (some 112)) (v := ?_) (a' := ?_) #[true, true, true, true, true, true, false, true, true, false, true, false, false, false, false, false, false, false] rfl rfl (take_ofW HT_.out HW_.out (by kernel_rfl)) (fun _ _ _ h => h) (Or.inl ⟨by rfl, ?_⟩) hHeld ?_ ?_
  rotate_left
  · rintro w' ⟨s0, s1, s2⟩
    go_simp
    with_reducible rfl
  rotate_left
  · simp only [Act.put, List.setIfInBounds_toArray, List.set_cons_zero, List.set_cons_succ, i64_w, i32_w]
    rfl
  refine take_ (i := 6) (N := (some 114)) (v := ?_) (a' := ?_) #[true, true, true, true, true, true, true, true, true, false, true, false, false, false, false, false, false, false] rfl rfl (take_ofW HT_.out HW_.out (by kernel_rfl)) (fun _ _ _ h => h) (Or.inl ⟨by rfl, ?_⟩) hHeld ?_ ?_
  rotate_left
  · rintro w' ⟨s0, s1, s2⟩
    go_simp
    with_reducible rfl
  rotate_left
  · simp only [Act.put, List.setIfInBounds_toArray, List.set_cons_zero, List.set_cons_succ, i64_w, i32_w]
    rfl
  refine take_ (i := 9) (N := (some 117)) (v := ?_) (a' := ?_) #[true, true, true, true, true, true, true, true, true, true, true, false, false, false, false, false, false, false] rfl rfl (take_ofW HT_.out HW_.out (by kernel_rfl)) (fun _ _ _ h => h) (Or.inl ⟨by rfl, ?_⟩) hHeld ?_ ?_
  rotate_left
  · rintro w' ⟨s0, s1, s2⟩
    go_simp
    with_reducible rfl
  rotate_left
  · simp only [Act.put, List.setIfInBounds_toArray, List.set_cons_zero, List.set_cons_succ, i64_w, i32_w]
    rfl
  refine take_ (i := 11) (N := (some 119)) (v := ?_) (a' := ?_) #[true, true, true, true, true, true, true, true, true, true, true, true, false, false, false, false, false, false] rfl rfl (take_ofW HT_.out HW_.out (by kernel_rfl)) (fun _ _ _ h => h) (Or.inl ⟨by rfl, ?_⟩) hHeld ?_ ?_
  rotate_left
  · rintro w' ⟨s0, s1, s2⟩
    go_simp
    with_reducible rfl
  rotate_left
  · simp only [Act.put, List.setIfInBounds_toArray, List.set_cons_zero, List.set_cons_succ, i64_w, i32_w]
    rfl
  refine pure_ (i := 12) (N := (some 120)) (v := ?_) (a' := ?_) #[true, true, true, true, true, true, true, true, true, true, true, true, true, false, false, false, false, false] rfl rfl (any_of HT_.out (by kernel_rfl)) (fun _ _ _ h => h) (Or.inl ⟨by rfl, ?_⟩) ?_ ?_
  rotate_left
  · intro w'
    go_simp
    with_reducible rfl
  rotate_left
  · simp only [Act.put, List.setIfInBounds_toArray, List.set_cons_zero, List.set_cons_succ, i64_w, i32_w]
    rfl
  refine one_ (i := 13) (N := (some 121)) #[true, true, true, true, true, true, true, true, true, true, true, true, true, true, false, false, false, false] rfl rfl (one_of HT_.out (by kernel_rfl)) (by decide) (fun K hK => ?_)
  refine value_ (by rfl) rfl (v := .slice (some ⟨w5.heap.size, 0, none⟩) 1 1) (w1 := w5.alloc (.cells (lfA ⟨e.nn, e.ng, i, e.wk, noEnd, e.t⟩) 99)) (by go_simp; rfl) ?_
  refine hK.out _ _ (HM5.out.alloc _).cells (fun hHeld => ?_)
  clear hK K
  refine norm_ (a' := ?_) ?_ ?_
  rotate_left
  · show Act.put _ (some 121) _ = _
    simp only [Act.put, List.setIfInBounds_toArray, List.set_cons_zero, List.set_cons_succ, i64_w, i32_w]
    rfl
  refine one_ (i := 14) (N := (some 122)) #[true, true, true, true, true, true, true, true, true, true, true, true, true, true, true, false, false, false] rfl rfl (one_of HT_.out (by kernel_rfl)) (by decide) (fun K hK => ?_)
  refine step_lives (by rfl) _ _ (by rfl) HM5.out ⟨e.nn, e.ng, i, e.wk, noEnd, e.t⟩ (by rfl) (by rfl) HSL ?_
  intro gg cap6 w6 hp
  have HP := Aside0.mk hp
  clear hp
  refine hK.out _ _ HP.out.1 (fun hHeld => ?_)
  clear hK K
  refine norm_ (a' := ?_) ?_ ?_
  rotate_left
  · show Act.put _ (some 122) _ = _
    simp only [Act.put, List.setIfInBounds_toArray, List.set_cons_zero, List.set_cons_succ, i64_w, i32_w]
    rfl
  refine pure_ (i := 15) (N := (some 123)) (v := ?_) (a' := ?_) #[true, true, true, true, true, true, true, true, true, true, true, true, true, true, true, true, false, false] rfl rfl (any_of HT_.out (by kernel_rfl)) (fun _ _ _ h => h) (Or.inl ⟨by rfl, ?_⟩) ?_ ?_
  rotate_left
  · intro w'
    go_simp
    with_reducible rfl
  rotate_left
  · simp only [Act.put, List.setIfInBounds_toArray, List.set_cons_zero, List.set_cons_succ, i64_w, i32_w]
    rfl
  refine pure_ (i := 16) (N := (some 124)) (v := ?_) (a' := ?_) #[true, true, true, true, true, true, true, true, true, true, true, true, true, true, true, true, true, false] rfl rfl (any_of HT_.out (by kernel_rfl)) (fun _ _ _ h => h) (Or.inl ⟨by rfl, ?_⟩) ?_ ?_
  rotate_left
  · intro w'
    go_simp
    with_reducible rfl
  rotate_left
  · simp only [Act.put, List.setIfInBounds_toArray, List.set_cons_zero, List.set_cons_succ, i64_w, i32_w]
    rfl
  refine last_ (i := 17) (N := none) #[true, true, true, true, true, true, true, true, true, true, true, true, true, true, true, true, true, true] rfl rfl (one_of HT_.out (by kernel_rfl)) (by decide) (fun K hK => ?_)
  refine skip_ (by rfl) rfl (w1 := w6.setCell ⟨b, 1, none⟩ (.slice (some ⟨gg, 0, none⟩) (s.lives.length + 1) cap6)) (by have q1 := hHeld.1 1; have q2 := hHeld.2.2 1; go_simp) ?_
  refine hK.out _ _ ?_
  clear hK K
  refine done_ (done_of HT_.out (by kernel_rfl)) ?_
  go_wp2
  go_end0
  have hP := HP.out.2
  try simp only [List.length_set] at hP
  exact ⟨rfl, _, by rw [HF.out]; exact hP.st, hP.fr⟩
set_option maxHeartbeats 4000000 in
set_option maxRecDepth 100000 in
theorem turn_rearm_set_old {B b n m1 m2 : Nat} {s : Story} {vl vv vc : Value} (i : Nat) (e : Ev) (w : World) (hB : StIs w B b n s vl vv vc m1 m2) (hw : ∃ kl, keyOf Try.prog 34 (haV e.h) = some kl) (hw2 : ∃ kl, keyOf Try.prog 34 (haV e.new) = some kl) (hn : n ≤ 1000000) (hll : s.lives.length ≤ 1000000) (hk : e.k = 3) (ho : e.op = 3) (he : e.er = 0) (k : Nat) (x : Life) (ha : s.at_ e.h = some k) (hx : s.lives[k]? = some x) (ht : x.til > i) (j : Nat) (hj : s.at_ e.new = some j) :
    Calls Try.prog 84 #[.pointer (some ⟨b, 0, none⟩), .int .i64 (i : Int), .agg (evA e)] w (TurnPost B b (n + 1) (turnF s i e) vl vc vv m1 m2 w) := by
  have hu97 := Try.underlying97
  have hu54 := Try.underlying54
  have hu34 := Try.underlying34
  have hu99 := Try.underlying99
  have HF1 := Aside0.mk (show turn1 s i e = { s with lives := s.lives.set k { x with til := (i : Int) } } from turn1_set ha hx (.inr (.inr ⟨ho, he⟩)) ht)
  have HF := Aside0.mk (show turnF s i e = { s with lives := s.lives.set k { x with til := (i : Int) } } by unfold turnF; rw [HF1.out]; exact turn2_old hj)
  have qk4 : (e.k == 4) = false := beq_eq_false_iff_ne.2 (by omega)
  have rk4 : (e.k != 4) = true := bne_iff_ne.2 (by omega)
  have qk3 : (e.k == 3) = true := beq_iff_eq.2 (by omega)
  have rk3 : (e.k != 3) = false := bne_eq_false_iff_eq.2 (by omega)
  have qop2 : (e.op == 2) = false := beq_eq_false_iff_ne.2 (by omega)
  have rop2 : (e.op != 2) = true := bne_iff_ne.2 (by omega)
  have qop3 : (e.op == 3) = true := beq_iff_eq.2 (by omega)
  have rop3 : (e.op != 3) = false := bne_eq_false_iff_eq.2 (by omega)
  have qop1 : (e.op == 1) = false := beq_eq_false_iff_ne.2 (by omega)
  have rop1 : (e.op != 1) = true := bne_iff_ne.2 (by omega)
  have qer0 : (e.er == 0) = true := beq_iff_eq.2 (by omega)
  have rer0 : (e.er != 0) = false := bne_eq_false_iff_eq.2 (by omega)
  have hl0 := fun q => (Mid.start hB e).look hw ((w.alloc (.cells (evA e) 54)).drewN q) rfl
  rw [show (e.hn, e.hg) = e.h from rfl, ha] at hl0
  simp only [Option.map_some, Option.getD_some, Option.isSome_some] at hl0
  obtain ⟨g, cp, rfl, hcp, hgl, hcell⟩ := hB.rv.at_ (fun _ => rfl) hx
  have hkl : k < s.lives.length := (List.getElem?_eq_some_iff.1 hx).1
  have p0 := eq_true (show (0 : Int) ≤ (k : Int) by omega)
  have p1 := eq_true (show (k : Int) < (s.lives.length : Int) by omega)
  have c4 := (below_alloc (Below.refl w.heap.size w) (.cells (evA e) 54)).cell (p := ⟨g, k * 6 + 4, none⟩) hgl |>.trans (hcell 4 (by decide))
  have gt : decide (x.til > (i : Int)) = true := decide_eq_true ht
  obtain ⟨cur, hcur⟩ := hB.rv.own (show (Value.slice (some ⟨g, 0, none⟩) s.lives.length cp).ownBlock = some g from rfl)
  have fz := blk_frozen (blk_alloc hcur (.cells (evA e) 54)) (k * 6 + 4)
  have HX := Aside0.mk hx
  clear hcur hx
  clear hcell hkl
  have HB := Aside0.mk hB
  have hlt := hB.lt
  have hc := fun i => hB.cell i
  have HW2 := Aside0.mk hw2
  have HN := Aside0.mk hn
  have HLL := Aside0.mk hll
  have HJ := Aside0.mk hj
  clear hB hw hw2 hn hll hk ho he ha ht hj
  go_enter Try.func84, Try.ntmps84
  go_wp2
  go_quiet (fail)
  go_upto_region 5 with (fail)
  refine gen_world (fun W => Mid w W B b n m1 m2 (.slice (some ⟨g, 0, none⟩) s.lives.length cp) { s with lives := s.lives.set k { x with til := (i : Int) } } vl (.slice (some ⟨g, 0, none⟩) s.lives.length cp) vc e) (by exact ((Mid.start HB.out e).drewN _).put (i : Int) HX.out) fun W hM => ?_
  clear hlt hc hl0 c4 hgl
  clear fz
  have hlt := hM.st.lt
  have hc := fun i => hM.st.cell i
  have hel := blk_lt hM.ev
  have hce := fun i => blk_cell hM.ev i
  have HM := Aside0.mk hM
  have hl1 := fun q => hM.look HW2.out (W.drewN q) rfl
  simp only [show (e.nn, e.ng) = e.new from rfl, HJ.out] at hl1
  clear hM
  simp only [Option.map_some, Option.getD_some, Option.isSome_some] at hl1
  go_wp2
  go_quiet (fail)
  go_wp2
  go_end0
  exact ⟨rfl, _, by rw [HF.out]; exact (HM.out.drewN _).st.up (by omega), (HM.out.drewN _).fr⟩
set_option maxHeartbeats 4000000 in
set_option maxRecDepth 100000 in
theorem turn_rearm_set_new {B b n m1 m2 : Nat} {s : Story} {vl vv vc : Value} (i : Nat) (e : Ev) (w : World) (hB : StIs w B b n s vl vv vc m1 m2) (hw : ∃ kl, keyOf Try.prog 34 (haV e.h) = some kl) (hw2 : ∃ kl, keyOf Try.prog 34 (haV e.new) = some kl) (hn : n ≤ 1000000) (hll : s.lives.length ≤ 1000000) (hk : e.k = 3) (ho : e.op = 3) (he : e.er = 0) (k : Nat) (x : Life) (ha : s.at_ e.h = some k) (hx : s.lives[k]? = some x) (ht : x.til > i) (hj : s.at_ e.new = none) :
    Calls Try.prog 84 #[.pointer (some ⟨b, 0, none⟩), .int .i64 (i : Int), .agg (evA e)] w (TurnPost B b (n + 1) (turnF s i e) vl vc vv m1 m2 w) := by
  have hu97 := Try.underlying97
  have hu54 := Try.underlying54
  have hu34 := Try.underlying34
  have hu99 := Try.underlying99
  have HF1 := Aside0.mk (show turn1 s i e = { s with lives := s.lives.set k { x with til := (i : Int) } } from turn1_set ha hx (.inr (.inr ⟨ho, he⟩)) ht)
  have HF := Aside0.mk (show turnF s i e = { ({ s with lives := s.lives.set k { x with til := (i : Int) } } : Story) with at_ := updH s.at_ e.new s.lives.length, lives := ({ s with lives := s.lives.set k { x with til := (i : Int) } } : Story).lives ++ [⟨e.nn, e.ng, i, e.wk, noEnd, e.t⟩] } by unfold turnF; rw [HF1.out, turn2_new (s := { s with lives := s.lives.set k { x with til := (i : Int) } }) (by omega) hj]; simp only [List.length_set])
  have qk4 : (e.k == 4) = false := beq_eq_false_iff_ne.2 (by omega)
  have rk4 : (e.k != 4) = true := bne_iff_ne.2 (by omega)
  have qk3 : (e.k == 3) = true := beq_iff_eq.2 (by omega)
  have rk3 : (e.k != 3) = false := bne_eq_false_iff_eq.2 (by omega)
  have qop2 : (e.op == 2) = false := beq_eq_false_iff_ne.2 (by omega)
  have rop2 : (e.op != 2) = true := bne_iff_ne.2 (by omega)
  have qop3 : (e.op == 3) = true := beq_iff_eq.2 (by omega)
  have rop3 : (e.op != 3) = false := bne_eq_false_iff_eq.2 (by omega)
  have qop1 : (e.op == 1) = false := beq_eq_false_iff_ne.2 (by omega)
  have rop1 : (e.op != 1) = true := bne_iff_ne.2 (by omega)
  have qer0 : (e.er == 0) = true := beq_iff_eq.2 (by omega)
  have rer0 : (e.er != 0) = false := bne_eq_false_iff_eq.2 (by omega)
  have hl0 := fun q => (Mid.start hB e).look hw ((w.alloc (.cells (evA e) 54)).drewN q) rfl
  rw [show (e.hn, e.hg) = e.h from rfl, ha] at hl0
  simp only [Option.map_some, Option.getD_some, Option.isSome_some] at hl0
  obtain ⟨g, cp, rfl, hcp, hgl, hcell⟩ := hB.rv.at_ (fun _ => rfl) hx
  have hkl : k < s.lives.length := (List.getElem?_eq_some_iff.1 hx).1
  have p0 := eq_true (show (0 : Int) ≤ (k : Int) by omega)
  have p1 := eq_true (show (k : Int) < (s.lives.length : Int) by omega)
  have c4 := (below_alloc (Below.refl w.heap.size w) (.cells (evA e) 54)).cell (p := ⟨g, k * 6 + 4, none⟩) hgl |>.trans (hcell 4 (by decide))
  have gt : decide (x.til > (i : Int)) = true := decide_eq_true ht
  obtain ⟨cur, hcur⟩ := hB.rv.own (show (Value.slice (some ⟨g, 0, none⟩) s.lives.length cp).ownBlock = some g from rfl)
  have fz := blk_frozen (blk_alloc hcur (.cells (evA e) 54)) (k * 6 + 4)
  have HX := Aside0.mk hx
  clear hcur hx
  clear hcell hkl
  have HB := Aside0.mk hB
  have hlt := hB.lt
  have hc := fun i => hB.cell i
  have HW2 := Aside0.mk hw2
  have HN := Aside0.mk hn
  have HLL := Aside0.mk hll
  have HJ := Aside0.mk hj
  clear hB hw hw2 hn hll hk ho he ha ht hj
  go_enter Try.func84, Try.ntmps84
  go_wp2
  go_quiet (fail)
  go_upto_region 5 with (fail)
  refine gen_world (fun W => Mid w W B b n m1 m2 (.slice (some ⟨g, 0, none⟩) s.lives.length cp) { s with lives := s.lives.set k { x with til := (i : Int) } } vl (.slice (some ⟨g, 0, none⟩) s.lives.length cp) vc e) (by exact ((Mid.start HB.out e).drewN _).put (i : Int) HX.out) fun W hM => ?_
  clear hlt hc hl0 c4 hgl
  clear fz
  have hlt := hM.st.lt
  have hc := fun i => hM.st.cell i
  have hel := blk_lt hM.ev
  have hce := fun i => blk_cell hM.ev i
  have HM := Aside0.mk hM
  have hl1 := fun q => hM.look HW2.out (W.drewN q) rfl
  simp only [show (e.nn, e.ng) = e.new from rfl, HJ.out] at hl1
  clear hM
  simp only [Option.map_none, Option.getD_none, Option.isSome_none] at hl1
  go_wp2
  go_quiet (fail)
  go_wp2
  refine gen_world (fun W2 => Mid w W2 B b n m1 m2 (.slice (some ⟨g, 0, none⟩) s.lives.length cp) { s with lives := s.lives.set k { x with til := (i : Int) } } vl (.slice (some ⟨g, 0, none⟩) s.lives.length cp) vc e) (by exact HM.out.drewN _) fun W2 hM2 => ?_
  clear hlt hc hel hce hl1
  refine still_tail_at 11 (by kernel_rfl) (by kernel_rfl) fun w2 hw2 => ?_
  have HM3 := Aside0.mk (show Mid w w2 B b n m1 m2 (.slice (some ⟨g, 0, none⟩) s.lives.length cp) { s with lives := s.lives.set k { x with til := (i : Int) } } vl (.slice (some ⟨g, 0, none⟩) s.lives.length cp) vc e by rw [hw2]; exact hM2.drew)
  clear hw2 hM2 HM
  have hlt := HM3.out.st.lt
  have hc := fun i => HM3.out.st.cell i
  have hel := blk_lt HM3.out.ev
  have hce := fun i => blk_cell HM3.out.ev i
  simp only [List.take_succ_cons, List.take_zero, List.drop_succ_cons, List.drop_zero]
  repeat still_step
  refine wpStill_nil ?_
  obtain ⟨z1, hz1, hm1⟩ := HM3.out.st.ma
  obtain ⟨kl2, hkl2⟩ := HW2.out
  refine wpl_store ha_inj rfl _ _ _ 86 rfl hm1 lawH Try.underlying86 (by unfold maxLen; have := HN.out; omega) (y := e.new) hkl2 (val := .int .i64 (s.lives.length : Int)) rfl rfl rfl ?_
  intro w4 hm4 hg4
  rw [nV_upd] at hm4
  have HM4 := Aside0.mk (HM3.out.stored hm4 (by split <;> omega) hg4)
  clear hlt hc hel hce hm4 hg4 hm1 hz1 HM3 hkl2
  go_wp2
  have HSL : ({ s with lives := s.lives.set k { x with til := (i : Int) } } : Story).lives.length ≤ 1000000 := by first | exact HLL.out | (simp only [List.length_set]; exact HLL.out)
  have hlt := HM4.out.st.lt
  have hel := blk_lt HM4.out.ev
  have hll := HLL.out
  refine start_ (n := 18) (S := (fun w' => (∀ i, w'.cell? ⟨b, i, none⟩ = (stA vl (.slice (some ⟨g, 0, none⟩) s.lives.length cp) vc m1 m2)[i]?) ∧ (∀ i, w'.cell? ⟨w.heap.size, i, none⟩ = (evA e)[i]?) ∧ (∀ i, w'.frozen? ⟨b, i, none⟩ = false))) (ds := [17]) #[false, false, false, false, false, false, false, false, false, false, false, false, false, false, false, false, false, false] (by kernel_rfl) rfl rfl HM4.out.drew.cells (fun hHeld => ?_)
  refine with_tabW turn.tab9 turn.bits9 (fun HT_ HW_ => ?_)
  have HM5 := Aside0.mk HM4.out.drew
  generalize w4.drew = w5 at HM5 hHeld ⊢
  clear hlt hel
  have hlt := HM5.out.st.lt
  refine pure_ (i := 0) (N := (some 108)) (v := ?_) (a' := ?_) #[true, false, false, false, false, false, false, false, false, false, false, false, false, false, false, false, false, false] rfl rfl (any_of HT_.out (by kernel_rfl)) (fun _ _ _ h => h) (Or.inl ⟨by rfl, ?_⟩) ?_ ?_
  rotate_left
  · intro w'
    go_simp
    with_reducible rfl
  rotate_left
  · simp only [Act.put, List.setIfInBounds_toArray, List.set_cons_zero, List.set_cons_succ, i64_w, i32_w]
    rfl
  refine pure_ (i := 1) (N := (some 109)) (v := ?_) (a' := ?_) #[true, true, false, false, false, false, false, false, false, false, false, false, false, false, false, false, false, false] rfl rfl (any_of HT_.out (by kernel_rfl)) (fun _ _ _ h => h) (Or.inl ⟨by rfl, ?_⟩) ?_ ?_
  rotate_left
  · intro w'
    go_simp
    with_reducible rfl
  rotate_left
  · simp only [Act.put, List.setIfInBounds_toArray, List.set_cons_zero, List.set_cons_succ, i64_w, i32_w]
    rfl
  refine pure_ (i := 2) (N := (some 110)) (v := ?_) (a' := ?_) #[true, true, true, false, false, false, false, false, false, false, false, false, false, false, false, false, false, false] rfl rfl (any_of HT_.out (by kernel_rfl)) (fun _ _ _ h => h) (Or.inl ⟨by rfl, ?_⟩) ?_ ?_
  rotate_left
  · intro w'
    go_simp
    with_reducible rfl
  rotate_left
  · simp only [Act.put, List.setIfInBounds_toArray, List.set_cons_zero, List.set_cons_succ, i64_w, i32_w]
    rfl
  refine pure_ (i := 3) (N := (some 111)) (v := ?_) (a' := ?_) #[true, true, true, true, false, false, false, false, false, false, false, false, false, false, false, false, false, false] rfl rfl (any_of HT_.out (by kernel_rfl)) (fun _ _ _ h => h) (Or.inl ⟨by rfl, ?_⟩) ?_ ?_
  rotate_left
  · intro w'
    go_simp
    with_reducible rfl
  rotate_left
  · simp only [Act.put, List.setIfInBounds_toArray, List.set_cons_zero, List.set_cons_succ, i64_w, i32_w]
    rfl
  refine pure_ (i := 5) (N := (some 113)) (v := ?_) (a' := ?_) #[true, true, true, true, false, true, false, false, false, false, false, false, false, false, false, false, false, false] rfl rfl (any_of HT_.out (by kernel_rfl)) (fun _ _ _ h => h) (Or.inl ⟨by rfl, ?_⟩) ?_ ?_
  rotate_left
  · intro w'
    go_simp
    with_reducible rfl
  rotate_left
  · simp only [Act.put, List.setIfInBounds_toArray, List.set_cons_zero, List.set_cons_succ, i64_w, i32_w]
    rfl
  refine pure_ (i := 7) (N := (some 115)) (v := ?_) (a' := ?_) #[true, true, true, true, false, true, false, true, false, false, false, false, false, false, false, false, false, false] rfl rfl (any_of HT_.out (by kernel_rfl)) (fun _ _ _ h => h) (Or.inl ⟨by rfl, ?_⟩) ?_ ?_
  rotate_left
  · intro w'
    go_simp
    with_reducible rfl
  rotate_left
  · simp only [Act.put, List.setIfInBounds_toArray, List.set_cons_zero, List.set_cons_succ, i64_w, i32_w]
    rfl
  refine pure_ (i := 8) (N := (some 116)) (v := ?_) (a' := ?_) #[true, true, true, true, false, true, false, true, true, false, false, false, false, false, false, false, false, false] rfl rfl (any_of HT_.out (by kernel_rfl)) (fun _ _ _ h => h) (Or.inl ⟨by rfl, ?_⟩) ?_ ?_
  rotate_left
  · intro w'
    go_simp
    with_reducible rfl
  rotate_left
  · simp only [Act.put, List.setIfInBounds_toArray, List.set_cons_zero, List.set_cons_succ, i64_w, i32_w]
    rfl
  refine pure_ (i := 10) (N := (some 118)) (v := ?_) (a' := ?_) #[true, true, true, true, false, true, false, true, true, false, true, false, false, false, false, false, false, false] rfl rfl (any_of HT_.out (by kernel_rfl)) (fun _ _ _ h => h) (Or.inl ⟨by rfl, ?_⟩) ?_ ?_
  rotate_left
  · intro w'
    go_simp
    with_reducible rfl
  rotate_left
  · simp only [Act.put, List.setIfInBounds_toArray, List.set_cons_zero, List.set_cons_succ, i64_w, i32_w]
    rfl
  refine take_ (i := 4) (N := (some 112)) (v := ?_) (a' := ?_) #[true, true, true, true, true, true, false, true, true, false, true, false, false, false, false, false, false, false] rfl rfl (take_ofW HT_.out HW_.out (by kernel_rfl)) (fun _ _ _ h => h) (Or.inl ⟨by rfl, ?_⟩) hHeld ?_ ?_
  rotate_left
  · rintro w' ⟨s0, s1, s2⟩
    go_simp
    with_reducible rfl
  rotate_left
  · simp only [Act.put, List.setIfInBounds_toArray, List.set_cons_zero, List.set_cons_succ, i64_w, i32_w]
    rfl
  refine take_ (i := 6) (N := (some 114)) (v := ?_) (a' := ?_) #[true, true, true, true, true, true, true, true, true, false, true, false, false, false, false, false, false, false] rfl rfl (take_ofW HT_.out HW_.out (by kernel_rfl)) (fun _ _ _ h => h) (Or.inl ⟨by rfl, ?_⟩) hHeld ?_ ?_
  rotate_left
  · rintro w' ⟨s0, s1, s2⟩
    go_simp
    with_reducible rfl
  rotate_left
  · simp only [Act.put, List.setIfInBounds_toArray, List.set_cons_zero, List.set_cons_succ, i64_w, i32_w]
    rfl
  refine take_ (i := 9) (N := (some 117)) (v := ?_) (a' := ?_) #[true, true, true, true, true, true, true, true, true, true, true, false, false, false, false, false, false, false] rfl rfl (take_ofW HT_.out HW_.out (by kernel_rfl)) (fun _ _ _ h => h) (Or.inl ⟨by rfl, ?_⟩) hHeld ?_ ?_
  rotate_left
  · rintro w' ⟨s0, s1, s2⟩
    go_simp
    with_reducible rfl
  rotate_left
  · simp only [Act.put, List.setIfInBounds_toArray, List.set_cons_zero, List.set_cons_succ, i64_w, i32_w]
    rfl
  refine take_ (i := 11) (N := (some 119)) (v := ?_) (a' := ?_) #[true, true, true, true, true, true, true, true, true, true, true, true, false, false, false, false, false, false] rfl rfl (take_ofW HT_.out HW_.out (by kernel_rfl)) (fun _ _ _ h => h) (Or.inl ⟨by rfl, ?_⟩) hHeld ?_ ?_
  rotate_left
  · rintro w' ⟨s0, s1, s2⟩
    go_simp
    with_reducible rfl
  rotate_left
  · simp only [Act.put, List.setIfInBounds_toArray, List.set_cons_zero, List.set_cons_succ, i64_w, i32_w]
    rfl
  refine pure_ (i := 12) (N := (some 120)) (v := ?_) (a' := ?_) #[true, true, true, true, true, true, true, true, true, true, true, true, true, false, false, false, false, false] rfl rfl (any_of HT_.out (by kernel_rfl)) (fun _ _ _ h => h) (Or.inl ⟨by rfl, ?_⟩) ?_ ?_
  rotate_left
  · intro w'
    go_simp
    with_reducible rfl
  rotate_left
  · simp only [Act.put, List.setIfInBounds_toArray, List.set_cons_zero, List.set_cons_succ, i64_w, i32_w]
    rfl
  refine one_ (i := 13) (N := (some 121)) #[true, true, true, true, true, true, true, true, true, true, true, true, true, true, false, false, false, false] rfl rfl (one_of HT_.out (by kernel_rfl)) (by decide) (fun K hK => ?_)
  refine value_ (by rfl) rfl (v := .slice (some ⟨w5.heap.size, 0, none⟩) 1 1) (w1 := w5.alloc (.cells (lfA ⟨e.nn, e.ng, i, e.wk, noEnd, e.t⟩) 99)) (by go_simp; rfl) ?_
  refine hK.out _ _ (HM5.out.alloc _).cells (fun hHeld => ?_)
  clear hK K
  refine norm_ (a' := ?_) ?_ ?_
  rotate_left
  · show Act.put _ (some 121) _ = _
    simp only [Act.put, List.setIfInBounds_toArray, List.set_cons_zero, List.set_cons_succ, i64_w, i32_w]
    rfl
  refine one_ (i := 14) (N := (some 122)) #[true, true, true, true, true, true, true, true, true, true, true, true, true, true, true, false, false, false] rfl rfl (one_of HT_.out (by kernel_rfl)) (by decide) (fun K hK => ?_)
  refine step_lives (by rfl) _ _ (by rfl) HM5.out ⟨e.nn, e.ng, i, e.wk, noEnd, e.t⟩ (by rfl) (by rfl) HSL ?_
  intro gg cap6 w6 hp
  have HP := Aside0.mk hp
  clear hp
  refine hK.out _ _ HP.out.1 (fun hHeld => ?_)
  clear hK K
  refine norm_ (a' := ?_) ?_ ?_
  rotate_left
  · show Act.put _ (some 122) _ = _
    simp only [Act.put, List.setIfInBounds_toArray, List.set_cons_zero, List.set_cons_succ, i64_w, i32_w]
    rfl
  refine pure_ (i := 15) (N := (some 123)) (v := ?_) (a' := ?_) #[true, true, true, true, true, true, true, true, true, true, true, true, true, true, true, true, false, false] rfl rfl (any_of HT_.out (by kernel_rfl)) (fun _ _ _ h => h) (Or.inl ⟨by rfl, ?_⟩) ?_ ?_
  rotate_left
  · intro w'
    go_simp
    with_reducible rfl
  rotate_left
  · simp only [Act.put, List.setIfInBounds_toArray, List.set_cons_zero, List.set_cons_succ, i64_w, i32_w]
    rfl
  refine pure_ (i := 16) (N := (some 124)) (v := ?_) (a' := ?_) #[true, true, true, true, true, true, true, true, true, true, true, true, true, true, true, true, true, false] rfl rfl (any_of HT_.out (by kernel_rfl)) (fun _ _ _ h => h) (Or.inl ⟨by rfl, ?_⟩) ?_ ?_
  rotate_left
  · intro w'
    go_simp
    with_reducible rfl
  rotate_left
  · simp only [Act.put, List.setIfInBounds_toArray, List.set_cons_zero, List.set_cons_succ, i64_w, i32_w]
    rfl
  refine last_ (i := 17) (N := none) #[true, true, true, true, true, true, true, true, true, true, true, true, true, true, true, true, true, true] rfl rfl (one_of HT_.out (by kernel_rfl)) (by decide) (fun K hK => ?_)
  refine skip_ (by rfl) rfl (w1 := w6.setCell ⟨b, 1, none⟩ (.slice (some ⟨gg, 0, none⟩) (s.lives.length + 1) cap6)) (by have q1 := hHeld.1 1; have q2 := hHeld.2.2 1; go_simp) ?_
  refine hK.out _ _ ?_
  clear hK K
  refine done_ (done_of HT_.out (by kernel_rfl)) ?_
  go_wp2
  go_end0
  have hP := HP.out.2
  try simp only [List.length_set] at hP
  exact ⟨rfl, _, by rw [HF.out]; exact hP.st, hP.fr⟩
set_option maxHeartbeats 4000000 in
set_option maxRecDepth 100000 in
theorem turn_rearm_keep_old {B b n m1 m2 : Nat} {s : Story} {vl vv vc : Value} (i : Nat) (e : Ev) (w : World) (hB : StIs w B b n s vl vv vc m1 m2) (hw : ∃ kl, keyOf Try.prog 34 (haV e.h) = some kl) (hw2 : ∃ kl, keyOf Try.prog 34 (haV e.new) = some kl) (hn : n ≤ 1000000) (hll : s.lives.length ≤ 1000000) (hk : e.k = 3) (ho : e.op = 3) (he : e.er = 0) (k : Nat) (x : Life) (ha : s.at_ e.h = some k) (hx : s.lives[k]? = some x) (ht : ¬ x.til > i) (j : Nat) (hj : s.at_ e.new = some j) :
    Calls Try.prog 84 #[.pointer (some ⟨b, 0, none⟩), .int .i64 (i : Int), .agg (evA e)] w (TurnPost B b (n + 1) (turnF s i e) vl vc vv m1 m2 w) := by
  have hu97 := Try.underlying97
  have hu54 := Try.underlying54
  have hu34 := Try.underlying34
  have hu99 := Try.underlying99
  have HF1 := Aside0.mk (show turn1 s i e = s from turn1_keep ha hx ht)
  have HF := Aside0.mk (show turnF s i e = s by unfold turnF; rw [HF1.out]; exact turn2_old hj)
  have qk4 : (e.k == 4) = false := beq_eq_false_iff_ne.2 (by omega)
  have rk4 : (e.k != 4) = true := bne_iff_ne.2 (by omega)
  have qk3 : (e.k == 3) = true := beq_iff_eq.2 (by omega)
  have rk3 : (e.k != 3) = false := bne_eq_false_iff_eq.2 (by omega)
  have qop2 : (e.op == 2) = false := beq_eq_false_iff_ne.2 (by omega)
  have rop2 : (e.op != 2) = true := bne_iff_ne.2 (by omega)
  have qop3 : (e.op == 3) = true := beq_iff_eq.2 (by omega)
  have rop3 : (e.op != 3) = false := bne_eq_false_iff_eq.2 (by omega)
  have qop1 : (e.op == 1) = false := beq_eq_false_iff_ne.2 (by omega)
  have rop1 : (e.op != 1) = true := bne_iff_ne.2 (by omega)
  have qer0 : (e.er == 0) = true := beq_iff_eq.2 (by omega)
  have rer0 : (e.er != 0) = false := bne_eq_false_iff_eq.2 (by omega)
  have hl0 := fun q => (Mid.start hB e).look hw ((w.alloc (.cells (evA e) 54)).drewN q) rfl
  rw [show (e.hn, e.hg) = e.h from rfl, ha] at hl0
  simp only [Option.map_some, Option.getD_some, Option.isSome_some] at hl0
  obtain ⟨g, cp, rfl, hcp, hgl, hcell⟩ := hB.rv.at_ (fun _ => rfl) hx
  have hkl : k < s.lives.length := (List.getElem?_eq_some_iff.1 hx).1
  have p0 := eq_true (show (0 : Int) ≤ (k : Int) by omega)
  have p1 := eq_true (show (k : Int) < (s.lives.length : Int) by omega)
  have c4 := (below_alloc (Below.refl w.heap.size w) (.cells (evA e) 54)).cell (p := ⟨g, k * 6 + 4, none⟩) hgl |>.trans (hcell 4 (by decide))
  have gt : decide (x.til > (i : Int)) = false := decide_eq_false ht
  clear hcell hkl hx
  have HB := Aside0.mk hB
  have hlt := hB.lt
  have hc := fun i => hB.cell i
  have HW2 := Aside0.mk hw2
  have HN := Aside0.mk hn
  have HLL := Aside0.mk hll
  have HJ := Aside0.mk hj
  clear hB hw hw2 hn hll hk ho he ha ht hj
  go_enter Try.func84, Try.ntmps84
  go_wp2
  go_quiet (fail)
  go_upto_region 5 with (fail)
  refine gen_world (fun W => Mid w W B b n m1 m2 (.slice (some ⟨g, 0, none⟩) s.lives.length cp) s vl (.slice (some ⟨g, 0, none⟩) s.lives.length cp) vc e) (by exact (Mid.start HB.out e).drewN _) fun W hM => ?_
  clear hlt hc hl0 c4 hgl
  have hlt := hM.st.lt
  have hc := fun i => hM.st.cell i
  have hel := blk_lt hM.ev
  have hce := fun i => blk_cell hM.ev i
  have HM := Aside0.mk hM
  have hl1 := fun q => hM.look HW2.out (W.drewN q) rfl
  simp only [show (e.nn, e.ng) = e.new from rfl, HJ.out] at hl1
  clear hM
  simp only [Option.map_some, Option.getD_some, Option.isSome_some] at hl1
  go_wp2
  go_quiet (fail)
  go_wp2
  go_end0
  exact ⟨rfl, _, by rw [HF.out]; exact (HM.out.drewN _).st.up (by omega), (HM.out.drewN _).fr⟩
set_option maxHeartbeats 4000000 in
set_option maxRecDepth 100000 in
theorem turn_rearm_keep_new {B b n m1 m2 : Nat} {s : Story} {vl vv vc : Value} (i : Nat) (e : Ev) (w : World) (hB : StIs w B b n s vl vv vc m1 m2) (hw : ∃ kl, keyOf Try.prog 34 (haV e.h) = some kl) (hw2 : ∃ kl, keyOf Try.prog 34 (haV e.new) = some kl) (hn : n ≤ 1000000) (hll : s.lives.length ≤ 1000000) (hk : e.k = 3) (ho : e.op = 3) (he : e.er = 0) (k : Nat) (x : Life) (ha : s.at_ e.h = some k) (hx : s.lives[k]? = some x) (ht : ¬ x.til > i) (hj : s.at_ e.new = none) :
    Calls Try.prog 84 #[.pointer (some ⟨b, 0, none⟩), .int .i64 (i : Int), .agg (evA e)] w (TurnPost B b (n + 1) (turnF s i e) vl vc vv m1 m2 w) := by
  have hu97 := Try.underlying97
  have hu54 := Try.underlying54
  have hu34 := Try.underlying34
  have hu99 := Try.underlying99
  have HF1 := Aside0.mk (show turn1 s i e = s from turn1_keep ha hx ht)
  have HF := Aside0.mk (show turnF s i e = { (s : Story) with at_ := updH s.at_ e.new s.lives.length, lives := (s : Story).lives ++ [⟨e.nn, e.ng, i, e.wk, noEnd, e.t⟩] } by unfold turnF; rw [HF1.out, turn2_new (s := s) (by omega) hj])
  have qk4 : (e.k == 4) = false := beq_eq_false_iff_ne.2 (by omega)
  have rk4 : (e.k != 4) = true := bne_iff_ne.2 (by omega)
  have qk3 : (e.k == 3) = true := beq_iff_eq.2 (by omega)
  have rk3 : (e.k != 3) = false := bne_eq_false_iff_eq.2 (by omega)
  have qop2 : (e.op == 2) = false := beq_eq_false_iff_ne.2 (by omega)
  have rop2 : (e.op != 2) = true := bne_iff_ne.2 (by omega)
  have qop3 : (e.op == 3) = true := beq_iff_eq.2 (by omega)
  have rop3 : (e.op != 3) = false := bne_eq_false_iff_eq.2 (by omega)
  have qop1 : (e.op == 1) = false := beq_eq_false_iff_ne.2 (by omega)
  have rop1 : (e.op != 1) = true := bne_iff_ne.2 (by omega)
  have qer0 : (e.er == 0) = true := beq_iff_eq.2 (by omega)
  have rer0 : (e.er != 0) = false := bne_eq_false_iff_eq.2 (by omega)
  have hl0 := fun q => (Mid.start hB e).look hw ((w.alloc (.cells (evA e) 54)).drewN q) rfl
  rw [show (e.hn, e.hg) = e.h from rfl, ha] at hl0
  simp only [Option.map_some, Option.getD_some, Option.isSome_some] at hl0
  obtain ⟨g, cp, rfl, hcp, hgl, hcell⟩ := hB.rv.at_ (fun _ => rfl) hx
  have hkl : k < s.lives.length := (List.getElem?_eq_some_iff.1 hx).1
  have p0 := eq_true (show (0 : Int) ≤ (k : Int) by omega)
  have p1 := eq_true (show (k : Int) < (s.lives.length : Int) by omega)
  have c4 := (below_alloc (Below.refl w.heap.size w) (.cells (evA e) 54)).cell (p := ⟨g, k * 6 + 4, none⟩) hgl |>.trans (hcell 4 (by decide))
  have gt : decide (x.til > (i : Int)) = false := decide_eq_false ht
  clear hcell hkl hx
  have HB := Aside0.mk hB
  have hlt := hB.lt
  have hc := fun i => hB.cell i
  have HW2 := Aside0.mk hw2
  have HN := Aside0.mk hn
  have HLL := Aside0.mk hll
  have HJ := Aside0.mk hj
  clear hB hw hw2 hn hll hk ho he ha ht hj
  go_enter Try.func84, Try.ntmps84
  go_wp2
  go_quiet (fail)
  go_upto_region 5 with (fail)
  refine gen_world (fun W => Mid w W B b n m1 m2 (.slice (some ⟨g, 0, none⟩) s.lives.length cp) s vl (.slice (some ⟨g, 0, none⟩) s.lives.length cp) vc e) (by exact (Mid.start HB.out e).drewN _) fun W hM => ?_
  clear hlt hc hl0 c4 hgl
  have hlt := hM.st.lt
  have hc := fun i => hM.st.cell i
  have hel := blk_lt hM.ev
  have hce := fun i => blk_cell hM.ev i
  have HM := Aside0.mk hM
  have hl1 := fun q => hM.look HW2.out (W.drewN q) rfl
  simp only [show (e.nn, e.ng) = e.new from rfl, HJ.out] at hl1
  clear hM
  simp only [Option.map_none, Option.getD_none, Option.isSome_none] at hl1
  go_wp2
  go_quiet (fail)
  go_wp2
  refine gen_world (fun W2 => Mid w W2 B b n m1 m2 (.slice (some ⟨g, 0, none⟩) s.lives.length cp) s vl (.slice (some ⟨g, 0, none⟩) s.lives.length cp) vc e) (by exact HM.out.drewN _) fun W2 hM2 => ?_
  clear hlt hc hel hce hl1
  refine still_tail_at 11 (by kernel_rfl) (by kernel_rfl) fun w2 hw2 => ?_
  have HM3 := Aside0.mk (show Mid w w2 B b n m1 m2 (.slice (some ⟨g, 0, none⟩) s.lives.length cp) s vl (.slice (some ⟨g, 0, none⟩) s.lives.length cp) vc e by rw [hw2]; exact hM2.drew)
  clear hw2 hM2 HM
  have hlt := HM3.out.st.lt
  have hc := fun i => HM3.out.st.cell i
  have hel := blk_lt HM3.out.ev
  have hce := fun i => blk_cell HM3.out.ev i
  simp only [List.take_succ_cons, List.take_zero, List.drop_succ_cons, List.drop_zero]
  repeat still_step
  refine wpStill_nil ?_
  obtain ⟨z1, hz1, hm1⟩ := HM3.out.st.ma
  obtain ⟨kl2, hkl2⟩ := HW2.out
  refine wpl_store ha_inj rfl _ _ _ 86 rfl hm1 lawH Try.underlying86 (by unfold maxLen; have := HN.out; omega) (y := e.new) hkl2 (val := .int .i64 (s.lives.length : Int)) rfl rfl rfl ?_
  intro w4 hm4 hg4
  rw [nV_upd] at hm4
  have HM4 := Aside0.mk (HM3.out.stored hm4 (by split <;> omega) hg4)
  clear hlt hc hel hce hm4 hg4 hm1 hz1 HM3 hkl2
  go_wp2
  have HSL : (s : Story).lives.length ≤ 1000000 := by first | exact HLL.out | (simp only [List.length_set]; exact HLL.out)
  have hlt := HM4.out.st.lt
  have hel := blk_lt HM4.out.ev
  have hll := HLL.out
  refine start_ (n := 18) (S := (fun w' => (∀ i, w'.cell? ⟨b, i, none⟩ = (stA vl (.slice (some ⟨g, 0, none⟩) s.lives.length cp) vc m1 m2)[i]?) ∧ (∀ i, w'.cell? ⟨w.heap.size, i, none⟩ = (evA e)[i]?) ∧ (∀ i, w'.frozen? ⟨b, i, none⟩ = false))) (ds := [17]) #[false, false, false, false, false, false, false, false, false, false, false, false, false, false, false, false, false, false] (by kernel_rfl) rfl rfl HM4.out.drew.cells (fun hHeld => ?_)
  refine with_tabW turn.tab9 turn.bits9 (fun HT_ HW_ => ?_)
  have HM5 := Aside0.mk HM4.out.drew
  generalize w4.drew = w5 at HM5 hHeld ⊢
  clear hlt hel
  have hlt := HM5.out.st.lt
  refine pure_ (i := 0) (N := (some 108)) (v := ?_) (a' := ?_) #[true, false, false, false, false, false, false, false, false, false, false, false, false, false, false, false, false, false] rfl rfl (any_of HT_.out (by kernel_rfl)) (fun _ _ _ h => h) (Or.inl ⟨by rfl, ?_⟩) ?_ ?_
  rotate_left
  · intro w'
    go_simp
    with_reducible rfl
  rotate_left
  · simp only [Act.put, List.setIfInBounds_toArray, List.set_cons_zero, List.set_cons_succ, i64_w, i32_w]
    rfl
  refine pure_ (i := 1) (N := (some 109)) (v := ?_) (a' := ?_) #[true, true, false, false, false, false, false, false, false, false, false, false, false, false, false, false, false, false] rfl rfl (any_of HT_.out (by kernel_rfl)) (fun _ _ _ h => h) (Or.inl ⟨by rfl, ?_⟩) ?_ ?_
  rotate_left
  · intro w'
    go_simp
    with_reducible rfl
  rotate_left
  · simp only [Act.put, List.setIfInBounds_toArray, List.set_cons_zero, List.set_cons_succ, i64_w, i32_w]
    rfl
  refine pure_ (i := 2) (N := (some 110)) (v := ?_) (a' := ?_) #[true, true, true, false, false, false, false, false, false, false, false, false, false, false, false, false, false, false] rfl rfl (any_of HT_.out (by kernel_rfl)) (fun _ _ _ h => h) (Or.inl ⟨by rfl, ?_⟩) ?_ ?_
  rotate_left
  · intro w'
    go_simp
    with_reducible rfl
  rotate_left
  · simp only [Act.put, List.setIfInBounds_toArray, List.set_cons_zero, List.set_cons_succ, i64_w, i32_w]
    rfl
  refine pure_ (i := 3) (N := (some 111)) (v := ?_) (a' := ?_) #[true, true, true, true, false, false, false, false, false, false, false, false, false, false, false, false, false, false] rfl rfl (any_of HT_.out (by kernel_rfl)) (fun _ _ _ h => h) (Or.inl ⟨by rfl, ?_⟩) ?_ ?_
  rotate_left
  · intro w'
    go_simp
    with_reducible rfl
  rotate_left
  · simp only [Act.put, List.setIfInBounds_toArray, List.set_cons_zero, List.set_cons_succ, i64_w, i32_w]
    rfl
  refine pure_ (i := 5) (N := (some 113)) (v := ?_) (a' := ?_) #[true, true, true, true, false, true, false, false, false, false, false, false, false, false, false, false, false, false] rfl rfl (any_of HT_.out (by kernel_rfl)) (fun _ _ _ h => h) (Or.inl ⟨by rfl, ?_⟩) ?_ ?_
  rotate_left
  · intro w'
    go_simp
    with_reducible rfl
  rotate_left
  · simp only [Act.put, List.setIfInBounds_toArray, List.set_cons_zero, List.set_cons_succ, i64_w, i32_w]
    rfl
  refine pure_ (i := 7) (N := (some 115)) (v := ?_) (a' := ?_) #[true, true, true, true, false, true, false, true, false, false, false, false, false, false, false, false, false, false] rfl rfl (any_of HT_.out (by kernel_rfl)) (fun _ _ _ h => h) (Or.inl ⟨by rfl, ?_⟩) ?_ ?_
  rotate_left
  · intro w'
    go_simp
    with_reducible rfl
  rotate_left
  · simp only [Act.put, List.setIfInBounds_toArray, List.set_cons_zero, List.set_cons_succ, i64_w, i32_w]
    rfl
  refine pure_ (i := 8) (N := (some 116)) (v := ?_) (a' := ?_) #[true, true, true, true, false, true, false, true, true, false, false, false, false, false, false, false, false, false] rfl rfl (any_of HT_.out (by kernel_rfl)) (fun _ _ _ h => h) (Or.inl ⟨by rfl, ?_⟩) ?_ ?_
  rotate_left
  · intro w'
    go_simp
    with_reducible rfl
  rotate_left
  · simp only [Act.put, List.setIfInBounds_toArray, List.set_cons_zero, List.set_cons_succ, i64_w, i32_w]
    rfl
  refine pure_ (i := 10) (N := (some 118)) (v := ?_) (a' := ?_) #[true, true, true, true, false, true, false, true, true, false, true, false, false, false, false, false, false, false] rfl rfl (any_of HT_.out (by kernel_rfl)) (fun _ _ _ h => h) (Or.inl ⟨by rfl, ?_⟩) ?_ ?_
  rotate_left
  · intro w'
    go_simp
    with_reducible rfl
  rotate_left
  · simp only [Act.put, List.setIfInBounds_toArray, List.set_cons_zero, List.set_cons_succ, i64_w, i32_w]
    rfl
  refine take_ (i := 4) (N := (some 112)) (v := ?_) (a' := ?_) #[true, true, true, true, true, true, false, true, true, false, true, false, false, false, false, false, false, false] rfl rfl (take_ofW HT_.out HW_.out (by kernel_rfl)) (fun _ _ _ h => h) (Or.inl ⟨by rfl, ?_⟩) hHeld ?_ ?_
  rotate_left
  · rintro w' ⟨s0, s1, s2⟩
    go_simp
    with_reducible rfl
  rotate_left
  · simp only [Act.put, List.setIfInBounds_toArray, List.set_cons_zero, List.set_cons_succ, i64_w, i32_w]
    rfl
  refine take_ (i := 6) (N := (some 114)) (v := ?_) (a' := ?_) #[true, true, true, true, true, true, true, true, true, false, true, false, false, false, false, false, false, false] rfl rfl (take_ofW HT_.out HW_.out (by kernel_rfl)) (fun _ _ _ h => h) (Or.inl ⟨by rfl, ?_⟩) hHeld ?_ ?_
  rotate_left
  · rintro w' ⟨s0, s1, s2⟩
    go_simp
    with_reducible rfl
  rotate_left
  · simp only [Act.put, List.setIfInBounds_toArray, List.set_cons_zero, List.set_cons_succ, i64_w, i32_w]
    rfl
  refine take_ (i := 9) (N := (some 117)) (v := ?_) (a' := ?_) #[true, true, true, true, true, true, true, true, true, true, true, false, false, false, false, false, false, false] rfl rfl (take_ofW HT_.out HW_.out (by kernel_rfl)) (fun _ _ _ h => h) (Or.inl ⟨by rfl, ?_⟩) hHeld ?_ ?_
  rotate_left
  · rintro w' ⟨s0, s1, s2⟩
    go_simp
    with_reducible rfl
  rotate_left
  · simp only [Act.put, List.setIfInBounds_toArray, List.set_cons_zero, List.set_cons_succ, i64_w, i32_w]
    rfl
  refine take_ (i := 11) (N := (some 119)) (v := ?_) (a' := ?_) #[true, true, true, true, true, true, true, true, true, true, true, true, false, false, false, false, false, false] rfl rfl (take_ofW HT_.out HW_.out (by kernel_rfl)) (fun _ _ _ h => h) (Or.inl ⟨by rfl, ?_⟩) hHeld ?_ ?_
  rotate_left
  · rintro w' ⟨s0, s1, s2⟩
    go_simp
    with_reducible rfl
  rotate_left
  · simp only [Act.put, List.setIfInBounds_toArray, List.set_cons_zero, List.set_cons_succ, i64_w, i32_w]
    rfl
  refine pure_ (i := 12) (N := (some 120)) (v := ?_) (a' := ?_) #[true, true, true, true, true, true, true, true, true, true, true, true, true, false, false, false, false, false] rfl rfl (any_of HT_.out (by kernel_rfl)) (fun _ _ _ h => h) (Or.inl ⟨by rfl, ?_⟩) ?_ ?_
  rotate_left
  · intro w'
    go_simp
    with_reducible rfl
  rotate_left
  · simp only [Act.put, List.setIfInBounds_toArray, List.set_cons_zero, List.set_cons_succ, i64_w, i32_w]
    rfl
  refine one_ (i := 13) (N := (some 121)) #[true, true, true, true, true, true, true, true, true, true, true, true, true, true, false, false, false, false] rfl rfl (one_of HT_.out (by kernel_rfl)) (by decide) (fun K hK => ?_)
  refine value_ (by rfl) rfl (v := .slice (some ⟨w5.heap.size, 0, none⟩) 1 1) (w1 := w5.alloc (.cells (lfA ⟨e.nn, e.ng, i, e.wk, noEnd, e.t⟩) 99)) (by go_simp; rfl) ?_
  refine hK.out _ _ (HM5.out.alloc _).cells (fun hHeld => ?_)
  clear hK K
  refine norm_ (a' := ?_) ?_ ?_
  rotate_left
  · show Act.put _ (some 121) _ = _
    simp only [Act.put, List.setIfInBounds_toArray, List.set_cons_zero, List.set_cons_succ, i64_w, i32_w]
    rfl
  refine one_ (i := 14) (N := (some 122)) #[true, true, true, true, true, true, true, true, true, true, true, true, true, true, true, false, false, false] rfl rfl (one_of HT_.out (by kernel_rfl)) (by decide) (fun K hK => ?_)
  refine step_lives (by rfl) _ _ (by rfl) HM5.out ⟨e.nn, e.ng, i, e.wk, noEnd, e.t⟩ (by rfl) (by rfl) HSL ?_
  intro gg cap6 w6 hp
  have HP := Aside0.mk hp
  clear hp
  refine hK.out _ _ HP.out.1 (fun hHeld => ?_)
  clear hK K
  refine norm_ (a' := ?_) ?_ ?_
  rotate_left
  · show Act.put _ (some 122) _ = _
    simp only [Act.put, List.setIfInBounds_toArray, List.set_cons_zero, List.set_cons_succ, i64_w, i32_w]
    rfl
  refine pure_ (i := 15) (N := (some 123)) (v := ?_) (a' := ?_) #[true, true, true, true, true, true, true, true, true, true, true, true, true, true, true, true, false, false] rfl rfl (any_of HT_.out (by kernel_rfl)) (fun _ _ _ h => h) (Or.inl ⟨by rfl, ?_⟩) ?_ ?_
  rotate_left
  · intro w'
    go_simp
    with_reducible rfl
  rotate_left
  · simp only [Act.put, List.setIfInBounds_toArray, List.set_cons_zero, List.set_cons_succ, i64_w, i32_w]
    rfl
  refine pure_ (i := 16) (N := (some 124)) (v := ?_) (a' := ?_) #[true, true, true, true, true, true, true, true, true, true, true, true, true, true, true, true, true, false] rfl rfl (any_of HT_.out (by kernel_rfl)) (fun _ _ _ h => h) (Or.inl ⟨by rfl, ?_⟩) ?_ ?_
  rotate_left
  · intro w'
    go_simp
    with_reducible rfl
  rotate_left
  · simp only [Act.put, List.setIfInBounds_toArray, List.set_cons_zero, List.set_cons_succ, i64_w, i32_w]
    rfl
  refine last_ (i := 17) (N := none) #[true, true, true, true, true, true, true, true, true, true, true, true, true, true, true, true, true, true] rfl rfl (one_of HT_.out (by kernel_rfl)) (by decide) (fun K hK => ?_)
  refine skip_ (by rfl) rfl (w1 := w6.setCell ⟨b, 1, none⟩ (.slice (some ⟨gg, 0, none⟩) (s.lives.length + 1) cap6)) (by have q1 := hHeld.1 1; have q2 := hHeld.2.2 1; go_simp) ?_
  refine hK.out _ _ ?_
  clear hK K
  refine done_ (done_of HT_.out (by kernel_rfl)) ?_
  go_wp2
  go_end0
  have hP := HP.out.2
  try simp only [List.length_set] at hP
  exact ⟨rfl, _, by rw [HF.out]; exact hP.st, hP.fr⟩
set_option maxHeartbeats 4000000 in
set_option maxRecDepth 100000 in
theorem turn_rearm_no {B b n m1 m2 : Nat} {s : Story} {vl vv vc : Value} (i : Nat) (e : Ev) (w : World) (hB : StIs w B b n s vl vv vc m1 m2) (hw : ∃ kl, keyOf Try.prog 34 (haV e.h) = some kl) (hw2 : ∃ kl, keyOf Try.prog 34 (haV e.new) = some kl) (hn : n ≤ 1000000) (hll : s.lives.length ≤ 1000000) (hk : e.k = 3) (ho : e.op = 3) (he : e.er ≠ 0) :
    Calls Try.prog 84 #[.pointer (some ⟨b, 0, none⟩), .int .i64 (i : Int), .agg (evA e)] w (TurnPost B b (n + 1) (turnF s i e) vl vc vv m1 m2 w) := by
  have hu97 := Try.underlying97
  have hu54 := Try.underlying54
  have hu34 := Try.underlying34
  have hu99 := Try.underlying99
  have HF1 := Aside0.mk (show turn1 s i e = s from turn1_no (by rintro (q | q | q) <;> omega))
  have HF := Aside0.mk (show turnF s i e = s by unfold turnF; rw [HF1.out]; exact turn2_no (by omega))
  have qk4 : (e.k == 4) = false := beq_eq_false_iff_ne.2 (by omega)
  have rk4 : (e.k != 4) = true := bne_iff_ne.2 (by omega)
  have qk3 : (e.k == 3) = true := beq_iff_eq.2 (by omega)
  have rk3 : (e.k != 3) = false := bne_eq_false_iff_eq.2 (by omega)
  have qop2 : (e.op == 2) = false := beq_eq_false_iff_ne.2 (by omega)
  have rop2 : (e.op != 2) = true := bne_iff_ne.2 (by omega)
  have qop3 : (e.op == 3) = true := beq_iff_eq.2 (by omega)
  have rop3 : (e.op != 3) = false := bne_eq_false_iff_eq.2 (by omega)
  have qop1 : (e.op == 1) = false := beq_eq_false_iff_ne.2 (by omega)
  have rop1 : (e.op != 1) = true := bne_iff_ne.2 (by omega)
  have qer0 : (e.er == 0) = false := beq_eq_false_iff_ne.2 (by omega)
  have rer0 : (e.er != 0) = true := bne_iff_ne.2 (by omega)
  have hl0 := fun q => (Mid.start hB e).look hw ((w.alloc (.cells (evA e) 54)).drewN q) rfl
  obtain ⟨z0, hz0⟩ : ∃ z0, ((s.at_ (e.hn, e.hg)).map (fun j => (j : Int))).getD 0 = z0 := ⟨_, rfl⟩
  obtain ⟨z1, hz1⟩ : ∃ z1, (s.at_ (e.hn, e.hg)).isSome = z1 := ⟨_, rfl⟩
  rw [hz0, hz1] at hl0
  clear hz0 hz1
  have HB := Aside0.mk hB
  have hlt := hB.lt
  have hc := fun i => hB.cell i
  have HW2 := Aside0.mk hw2
  have HN := Aside0.mk hn
  have HLL := Aside0.mk hll
  clear hB hw hw2 hn hll hk ho he
  go_enter Try.func84, Try.ntmps84
  go_wp2
  go_quiet (fail)
  go_wp2
  all_goals
    go_end0
    exact ⟨rfl, _, by rw [HF.out]; exact ((Mid.start HB.out e).drewN _).st.up (by omega), ((Mid.start HB.out e).drewN _).fr⟩
set_option maxHeartbeats 4000000 in
set_option maxRecDepth 100000 in
theorem turn_start_old {B b n m1 m2 : Nat} {s : Story} {vl vv vc : Value} (i : Nat) (e : Ev) (w : World) (hB : StIs w B b n s vl vv vc m1 m2) (hw : ∃ kl, keyOf Try.prog 34 (haV e.h) = some kl) (hw2 : ∃ kl, keyOf Try.prog 34 (haV e.new) = some kl) (hn : n ≤ 1000000) (hll : s.lives.length ≤ 1000000) (hk : e.k = 3) (ho : e.op = 1) (he : e.er = 0) (j : Nat) (hj : s.at_ e.new = some j) :
    Calls Try.prog 84 #[.pointer (some ⟨b, 0, none⟩), .int .i64 (i : Int), .agg (evA e)] w (TurnPost B b (n + 1) (turnF s i e) vl vc vv m1 m2 w) := by
  obtain ⟨A9, c9, rfl, hc9⟩ := hB.rv.form
  clear hc9
  have hu97 := Try.underlying97
  have hu54 := Try.underlying54
  have hu34 := Try.underlying34
  have hu99 := Try.underlying99
  have HF1 := Aside0.mk (show turn1 s i e = s from turn1_no (by rintro (q | q | q) <;> omega))
  have HF := Aside0.mk (show turnF s i e = s by unfold turnF; rw [HF1.out]; exact turn2_old hj)
  have qk4 : (e.k == 4) = false := beq_eq_false_iff_ne.2 (by omega)
  have rk4 : (e.k != 4) = true := bne_iff_ne.2 (by omega)
  have qk3 : (e.k == 3) = true := beq_iff_eq.2 (by omega)
  have rk3 : (e.k != 3) = false := bne_eq_false_iff_eq.2 (by omega)
  have qop2 : (e.op == 2) = false := beq_eq_false_iff_ne.2 (by omega)
  have rop2 : (e.op != 2) = true := bne_iff_ne.2 (by omega)
  have qop3 : (e.op == 3) = false := beq_eq_false_iff_ne.2 (by omega)
  have rop3 : (e.op != 3) = true := bne_iff_ne.2 (by omega)
  have qop1 : (e.op == 1) = true := beq_iff_eq.2 (by omega)
  have rop1 : (e.op != 1) = false := bne_eq_false_iff_eq.2 (by omega)
  have qer0 : (e.er == 0) = true := beq_iff_eq.2 (by omega)
  have rer0 : (e.er != 0) = false := bne_eq_false_iff_eq.2 (by omega)
  have hl0 := fun q => (Mid.start hB e).look hw ((w.alloc (.cells (evA e) 54)).drewN q) rfl
  obtain ⟨z0, hz0⟩ : ∃ z0, ((s.at_ (e.hn, e.hg)).map (fun j => (j : Int))).getD 0 = z0 := ⟨_, rfl⟩
  obtain ⟨z1, hz1⟩ : ∃ z1, (s.at_ (e.hn, e.hg)).isSome = z1 := ⟨_, rfl⟩
  rw [hz0, hz1] at hl0
  clear hz0 hz1
  have HB := Aside0.mk hB
  have hlt := hB.lt
  have hc := fun i => hB.cell i
  have HW2 := Aside0.mk hw2
  have HN := Aside0.mk hn
  have HLL := Aside0.mk hll
  have HJ := Aside0.mk hj
  clear hB hw hw2 hn hll hk ho he hj
  go_enter Try.func84, Try.ntmps84
  go_wp2
  go_quiet (fail)
  go_upto_region 5 with (fail)
  refine gen_world (fun W => Mid w W B b n m1 m2 (.slice A9 s.lives.length c9) s vl (.slice A9 s.lives.length c9) vc e) (by exact (Mid.start HB.out e).drewN _) fun W hM => ?_
  clear hlt hc hl0
  have hlt := hM.st.lt
  have hc := fun i => hM.st.cell i
  have hel := blk_lt hM.ev
  have hce := fun i => blk_cell hM.ev i
  have HM := Aside0.mk hM
  have hl1 := fun q => hM.look HW2.out (W.drewN q) rfl
  simp only [show (e.nn, e.ng) = e.new from rfl, HJ.out] at hl1
  clear hM
  simp only [Option.map_some, Option.getD_some, Option.isSome_some] at hl1
  go_wp2
  go_quiet (fail)
  go_wp2
  go_end0
  exact ⟨rfl, _, by rw [HF.out]; exact (HM.out.drewN _).st.up (by omega), (HM.out.drewN _).fr⟩
set_option maxHeartbeats 4000000 in
set_option maxRecDepth 100000 in
theorem turn_start_new {B b n m1 m2 : Nat} {s : Story} {vl vv vc : Value} (i : Nat) (e : Ev) (w : World) (hB : StIs w B b n s vl vv vc m1 m2) (hw : ∃ kl, keyOf Try.prog 34 (haV e.h) = some kl) (hw2 : ∃ kl, keyOf Try.prog 34 (haV e.new) = some kl) (hn : n ≤ 1000000) (hll : s.lives.length ≤ 1000000) (hk : e.k = 3) (ho : e.op = 1) (he : e.er = 0) (hj : s.at_ e.new = none) :
    Calls Try.prog 84 #[.pointer (some ⟨b, 0, none⟩), .int .i64 (i : Int), .agg (evA e)] w (TurnPost B b (n + 1) (turnF s i e) vl vc vv m1 m2 w) := by
  obtain ⟨A9, c9, rfl, hc9⟩ := hB.rv.form
  clear hc9
  have hu97 := Try.underlying97
  have hu54 := Try.underlying54
  have hu34 := Try.underlying34
  have hu99 := Try.underlying99
  have HF1 := Aside0.mk (show turn1 s i e = s from turn1_no (by rintro (q | q | q) <;> omega))
  have HF := Aside0.mk (show turnF s i e = { (s : Story) with at_ := updH s.at_ e.new s.lives.length, lives := (s : Story).lives ++ [⟨e.nn, e.ng, i, e.wk, noEnd, e.t⟩] } by unfold turnF; rw [HF1.out, turn2_new (s := s) (by omega) hj])
  have qk4 : (e.k == 4) = false := beq_eq_false_iff_ne.2 (by omega)
  have rk4 : (e.k != 4) = true := bne_iff_ne.2 (by omega)
  have qk3 : (e.k == 3) = true := beq_iff_eq.2 (by omega)
  have rk3 : (e.k != 3) = false := bne_eq_false_iff_eq.2 (by omega)
  have qop2 : (e.op == 2) = false := beq_eq_false_iff_ne.2 (by omega)
  have rop2 : (e.op != 2) = true := bne_iff_ne.2 (by omega)
  have qop3 : (e.op == 3) = false := beq_eq_false_iff_ne.2 (by omega)
  have rop3 : (e.op != 3) = true := bne_iff_ne.2 (by omega)
  have qop1 : (e.op == 1) = true := beq_iff_eq.2 (by omega)
  have rop1 : (e.op != 1) = false := bne_eq_false_iff_eq.2 (by omega)
  have qer0 : (e.er == 0) = true := beq_iff_eq.2 (by omega)
  have rer0 : (e.er != 0) = false := bne_eq_false_iff_eq.2 (by omega)
  have hl0 := fun q => (Mid.start hB e).look hw ((w.alloc (.cells (evA e) 54)).drewN q) rfl
  obtain ⟨z0, hz0⟩ : ∃ z0, ((s.at_ (e.hn, e.hg)).map (fun j => (j : Int))).getD 0 = z0 := ⟨_, rfl⟩
  obtain ⟨z1, hz1⟩ : ∃ z1, (s.at_ (e.hn, e.hg)).isSome = z1 := ⟨_, rfl⟩
  rw [hz0, hz1] at hl0
  clear hz0 hz1
  have HB := Aside0.mk hB
  have hlt := hB.lt
  have hc := fun i => hB.cell i
  have HW2 := Aside0.mk hw2
  have HN := Aside0.mk hn
  have HLL := Aside0.mk hll
  have HJ := Aside0.mk hj
  clear hB hw hw2 hn hll hk ho he hj
  go_enter Try.func84, Try.ntmps84
  go_wp2
  go_quiet (fail)
  go_upto_region 5 with (fail)
  refine gen_world (fun W => Mid w W B b n m1 m2 (.slice A9 s.lives.length c9) s vl (.slice A9 s.lives.length c9) vc e) (by exact (Mid.start HB.out e).drewN _) fun W hM => ?_
  clear hlt hc hl0
  have hlt := hM.st.lt
  have hc := fun i => hM.st.cell i
  have hel := blk_lt hM.ev
  have hce := fun i => blk_cell hM.ev i
  have HM := Aside0.mk hM
  have hl1 := fun q => hM.look HW2.out (W.drewN q) rfl
  simp only [show (e.nn, e.ng) = e.new from rfl, HJ.out] at hl1
  clear hM
  simp only [Option.map_none, Option.getD_none, Option.isSome_none] at hl1
  go_wp2
  go_quiet (fail)
  go_wp2
  refine gen_world (fun W2 => Mid w W2 B b n m1 m2 (.slice A9 s.lives.length c9) s vl (.slice A9 s.lives.length c9) vc e) (by exact HM.out.drewN _) fun W2 hM2 => ?_
  clear hlt hc hel hce hl1
  refine still_tail_at 11 (by kernel_rfl) (by kernel_rfl) fun w2 hw2 => ?_
  have HM3 := Aside0.mk (show Mid w w2 B b n m1 m2 (.slice A9 s.lives.length c9) s vl (.slice A9 s.lives.length c9) vc e by rw [hw2]; exact hM2.drew)
  clear hw2 hM2 HM
  have hlt := HM3.out.st.lt
  have hc := fun i => HM3.out.st.cell i
  have hel := blk_lt HM3.out.ev
  have hce := fun i => blk_cell HM3.out.ev i
  simp only [List.take_succ_cons, List.take_zero, List.drop_succ_cons, List.drop_zero]
  repeat still_step
  refine wpStill_nil ?_
  obtain ⟨z1, hz1, hm1⟩ := HM3.out.st.ma
  obtain ⟨kl2, hkl2⟩ := HW2.out
  refine wpl_store ha_inj rfl _ _ _ 86 rfl hm1 lawH Try.underlying86 (by unfold maxLen; have := HN.out; omega) (y := e.new) hkl2 (val := .int .i64 (s.lives.length : Int)) rfl rfl rfl ?_
  intro w4 hm4 hg4
  rw [nV_upd] at hm4
  have HM4 := Aside0.mk (HM3.out.stored hm4 (by split <;> omega) hg4)
  clear hlt hc hel hce hm4 hg4 hm1 hz1 HM3 hkl2
  go_wp2
  have HSL : (s : Story).lives.length ≤ 1000000 := by first | exact HLL.out | (simp only [List.length_set]; exact HLL.out)
  have hlt := HM4.out.st.lt
  have hel := blk_lt HM4.out.ev
  have hll := HLL.out
  refine start_ (n := 18) (S := (fun w' => (∀ i, w'.cell? ⟨b, i, none⟩ = (stA vl (.slice A9 s.lives.length c9) vc m1 m2)[i]?) ∧ (∀ i, w'.cell? ⟨w.heap.size, i, none⟩ = (evA e)[i]?) ∧ (∀ i, w'.frozen? ⟨b, i, none⟩ = false))) (ds := [17]) #[false, false, false, false, false, false, false, false, false, false, false, false, false, false, false, false, false, false] (by kernel_rfl) rfl rfl HM4.out.drew.cells (fun hHeld => ?_)
  refine with_tabW turn.tab9 turn.bits9 (fun HT_ HW_ => ?_)
  have HM5 := Aside0.mk HM4.out.drew
  generalize w4.drew = w5 at HM5 hHeld ⊢
  clear hlt hel
  have hlt := HM5.out.st.lt
  refine pure_ (i := 0) (N := (some 108)) (v := ?_) (a' := ?_) #[true, false, false, false, false, false, false, false, false, false, false, false, false, false, false, false, false, false] rfl rfl (any_of HT_.out (by kernel_rfl)) (fun _ _ _ h => h) (Or.inl ⟨by rfl, ?_⟩) ?_ ?_
  rotate_left
  · intro w'
    go_simp
    with_reducible rfl
  rotate_left
  · simp only [Act.put, List.setIfInBounds_toArray, List.set_cons_zero, List.set_cons_succ, i64_w, i32_w]
    rfl
  refine pure_ (i := 1) (N := (some 109)) (v := ?_) (a' := ?_) #[true, true, false, false, false, false, false, false, false, false, false, false, false, false, false, false, false, false] rfl rfl (any_of HT_.out (by kernel_rfl)) (fun _ _ _ h => h) (Or.inl ⟨by rfl, ?_⟩) ?_ ?_
  rotate_left
  · intro w'
    go_simp
    with_reducible rfl
  rotate_left
  · simp only [Act.put, List.setIfInBounds_toArray, List.set_cons_zero, List.set_cons_succ, i64_w, i32_w]
    rfl
  refine pure_ (i := 2) (N := (some 110)) (v := ?_) (a' := ?_) #[true, true, true, false, false, false, false, false, false, false, false, false, false, false, false, false, false, false] rfl rfl (any_of HT_.out (by kernel_rfl)) (fun _ _ _ h => h) (Or.inl ⟨by rfl, ?_⟩) ?_ ?_
  rotate_left
  · intro w'
    go_simp
    with_reducible rfl
  rotate_left
  · simp only [Act.put, List.setIfInBounds_toArray, List.set_cons_zero, List.set_cons_succ, i64_w, i32_w]
    rfl
  refine pure_ (i := 3) (N := (some 111)) (v := ?_) (a' := ?_) #[true, true, true, true, false, false, false, false, false, false, false, false, false, false, false, false, false, false] rfl rfl (any_of HT_.out (by kernel_rfl)) (fun _ _ _ h => h) (Or.inl ⟨by rfl, ?_⟩) ?_ ?_
  rotate_left
  · intro w'
    go_simp
    with_reducible rfl
  rotate_left
  · simp only [Act.put, List.setIfInBounds_toArray, List.set_cons_zero, List.set_cons_succ, i64_w, i32_w]
    rfl
  refine pure_ (i := 5) (N := (some 113)) (v := ?_) (a' := ?_) #[true, true, true, true, false, true, false, false, false, false, false, false, false, false, false, false, false, false] rfl rfl (any_of HT_.out (by kernel_rfl)) (fun _ _ _ h => h) (Or.inl ⟨by rfl, ?_⟩) ?_ ?_
  rotate_left
  · intro w'
    go_simp
    with_reducible rfl
  rotate_left
  · simp only [Act.put, List.setIfInBounds_toArray, List.set_cons_zero, List.set_cons_succ, i64_w, i32_w]
    rfl
  refine pure_ (i := 7) (N := (some 115)) (v := ?_) (a' := ?_) #[true, true, true, true, false, true, false, true, false, false, false, false, false, false, false, false, false, false] rfl rfl (any_of HT_.out (by kernel_rfl)) (fun _ _ _ h => h) (Or.inl ⟨by rfl, ?_⟩) ?_ ?_
  rotate_left
  · intro w'
    go_simp
    with_reducible rfl
  rotate_left
  · simp only [Act.put, List.setIfInBounds_toArray, List.set_cons_zero, List.set_cons_succ, i64_w, i32_w]
    rfl
  refine pure_ (i := 8) (N := (some 116)) (v := ?_) (a' := ?_) #[true, true, true, true, false, true, false, true, true, false, false, false, false, false, false, false, false, false] rfl rfl (any_of HT_.out (by kernel_rfl)) (fun _ _ _ h => h) (Or.inl ⟨by rfl, ?_⟩) ?_ ?_
  rotate_left
  · intro w'
    go_simp
    with_reducible rfl
  rotate_left
  · simp only [Act.put, List.setIfInBounds_toArray, List.set_cons_zero, List.set_cons_succ, i64_w, i32_w]
    rfl
  refine pure_ (i := 10) (N := (some 118)) (v := ?_) (a' := ?_) #[true, true, true, true, false, true, false, true, true, false, true, false, false, false, false, false, false, false] rfl rfl (any_of HT_.out (by kernel_rfl)) (fun _ _ _ h => h) (Or.inl ⟨by rfl, ?_⟩) ?_ ?_
  rotate_left
  · intro w'
    go_simp
    with_reducible rfl
  rotate_left
  · simp only [Act.put, List.setIfInBounds_toArray, List.set_cons_zero, List.set_cons_succ, i64_w, i32_w]
    rfl
  refine take_ (i := 4) (N := (some 112)) (v := ?_) (a' := ?_) #[true, true, true, true, true, true, false, true, true, false, true, false, false, false, false, false, false, false] rfl rfl (take_ofW HT_.out HW_.out (by kernel_rfl)) (fun _ _ _ h => h) (Or.inl ⟨by rfl, ?_⟩) hHeld ?_ ?_
  rotate_left
  · rintro w' ⟨s0, s1, s2⟩
    go_simp
    with_reducible rfl
  rotate_left
  · simp only [Act.put, List.setIfInBounds_toArray, List.set_cons_zero, List.set_cons_succ, i64_w, i32_w]
    rfl
  refine take_ (i := 6) (N := (some 114)) (v := ?_) (a' := ?_) #[true, true, true, true, true, true, true, true, true, false, true, false, false, false, false, false, false, false] rfl rfl (take_ofW HT_.out HW_.out (by kernel_rfl)) (fun _ _ _ h => h) (Or.inl ⟨by rfl, ?_⟩) hHeld ?_ ?_
  rotate_left
  · rintro w' ⟨s0, s1, s2⟩
    go_simp
    with_reducible rfl
  rotate_left
  · simp only [Act.put, List.setIfInBounds_toArray, List.set_cons_zero, List.set_cons_succ, i64_w, i32_w]
    rfl
  refine take_ (i := 9) (N := (some 117)) (v := ?_) (a' := ?_) #[true, true, true, true, true, true, true, true, true, true, true, false, false, false, false, false, false, false] rfl rfl (take_ofW HT_.out HW_.out (by kernel_rfl)) (fun _ _ _ h => h) (Or.inl ⟨by rfl, ?_⟩) hHeld ?_ ?_
  rotate_left
  · rintro w' ⟨s0, s1, s2⟩
    go_simp
    with_reducible rfl
  rotate_left
  · simp only [Act.put, List.setIfInBounds_toArray, List.set_cons_zero, List.set_cons_succ, i64_w, i32_w]
    rfl
  refine take_ (i := 11) (N := (some 119)) (v := ?_) (a' := ?_) #[true, true, true, true, true, true, true, true, true, true, true, true, false, false, false, false, false, false] rfl rfl (take_ofW HT_.out HW_.out (by kernel_rfl)) (fun _ _ _ h => h) (Or.inl ⟨by rfl, ?_⟩) hHeld ?_ ?_
  rotate_left
  · rintro w' ⟨s0, s1, s2⟩
    go_simp
    with_reducible rfl
  rotate_left
  · simp only [Act.put, List.setIfInBounds_toArray, List.set_cons_zero, List.set_cons_succ, i64_w, i32_w]
    rfl
  refine pure_ (i := 12) (N := (some 120)) (v := ?_) (a' := ?_) #[true, true, true, true, true, true, true, true, true, true, true, true, true, false, false, false, false, false] rfl rfl (any_of HT_.out (by kernel_rfl)) (fun _ _ _ h => h) (Or.inl ⟨by rfl, ?_⟩) ?_ ?_
  rotate_left
  · intro w'
    go_simp
    with_reducible rfl
  rotate_left
  · simp only [Act.put, List.setIfInBounds_toArray, List.set_cons_zero, List.set_cons_succ, i64_w, i32_w]
    rfl
  refine one_ (i := 13) (N := (some 121)) #[true, true, true, true, true, true, true, true, true, true, true, true, true, true, false, false, false, false] rfl rfl (one_of HT_.out (by kernel_rfl)) (by decide) (fun K hK => ?_)
  refine value_ (by rfl) rfl (v := .slice (some ⟨w5.heap.size, 0, none⟩) 1 1) (w1 := w5.alloc (.cells (lfA ⟨e.nn, e.ng, i, e.wk, noEnd, e.t⟩) 99)) (by go_simp; rfl) ?_
  refine hK.out _ _ (HM5.out.alloc _).cells (fun hHeld => ?_)
  clear hK K
  refine norm_ (a' := ?_) ?_ ?_
  rotate_left
  · show Act.put _ (some 121) _ = _
    simp only [Act.put, List.setIfInBounds_toArray, List.set_cons_zero, List.set_cons_succ, i64_w, i32_w]
    rfl
  refine one_ (i := 14) (N := (some 122)) #[true, true, true, true, true, true, true, true, true, true, true, true, true, true, true, false, false, false] rfl rfl (one_of HT_.out (by kernel_rfl)) (by decide) (fun K hK => ?_)
  refine step_lives (by rfl) _ _ (by rfl) HM5.out ⟨e.nn, e.ng, i, e.wk, noEnd, e.t⟩ (by rfl) (by rfl) HSL ?_
  intro gg cap6 w6 hp
  have HP := Aside0.mk hp
  clear hp
  refine hK.out _ _ HP.out.1 (fun hHeld => ?_)
  clear hK K
  refine norm_ (a' := ?_) ?_ ?_
  rotate_left
  · show Act.put _ (some 122) _ = _
    simp only [Act.put, List.setIfInBounds_toArray, List.set_cons_zero, List.set_cons_succ, i64_w, i32_w]
    rfl
  refine pure_ (i := 15) (N := (some 123)) (v := ?_) (a' := ?_) #[true, true, true, true, true, true, true, true, true, true, true, true, true, true, true, true, false, false] rfl rfl (any_of HT_.out (by kernel_rfl)) (fun _ _ _ h => h) (Or.inl ⟨by rfl, ?_⟩) ?_ ?_
  rotate_left
  · intro w'
    go_simp
    with_reducible rfl
  rotate_left
  · simp only [Act.put, List.setIfInBounds_toArray, List.set_cons_zero, List.set_cons_succ, i64_w, i32_w]
    rfl
  refine pure_ (i := 16) (N := (some 124)) (v := ?_) (a' := ?_) #[true, true, true, true, true, true, true, true, true, true, true, true, true, true, true, true, true, false] rfl rfl (any_of HT_.out (by kernel_rfl)) (fun _ _ _ h => h) (Or.inl ⟨by rfl, ?_⟩) ?_ ?_
  rotate_left
  · intro w'
    go_simp
    with_reducible rfl
  rotate_left
  · simp only [Act.put, List.setIfInBounds_toArray, List.set_cons_zero, List.set_cons_succ, i64_w, i32_w]
    rfl
  refine last_ (i := 17) (N := none) #[true, true, true, true, true, true, true, true, true, true, true, true, true, true, true, true, true, true] rfl rfl (one_of HT_.out (by kernel_rfl)) (by decide) (fun K hK => ?_)
  refine skip_ (by rfl) rfl (w1 := w6.setCell ⟨b, 1, none⟩ (.slice (some ⟨gg, 0, none⟩) (s.lives.length + 1) cap6)) (by have q1 := hHeld.1 1; have q2 := hHeld.2.2 1; go_simp) ?_
  refine hK.out _ _ ?_
  clear hK K
  refine done_ (done_of HT_.out (by kernel_rfl)) ?_
  go_wp2
  go_end0
  have hP := HP.out.2
  try simp only [List.length_set] at hP
  exact ⟨rfl, _, by rw [HF.out]; exact hP.st, hP.fr⟩
set_option maxHeartbeats 4000000 in
set_option maxRecDepth 100000 in
theorem turn_start_no {B b n m1 m2 : Nat} {s : Story} {vl vv vc : Value} (i : Nat) (e : Ev) (w : World) (hB : StIs w B b n s vl vv vc m1 m2) (hw : ∃ kl, keyOf Try.prog 34 (haV e.h) = some kl) (hw2 : ∃ kl, keyOf Try.prog 34 (haV e.new) = some kl) (hn : n ≤ 1000000) (hll : s.lives.length ≤ 1000000) (hk : e.k = 3) (ho : e.op = 1) (he : e.er ≠ 0) :
    Calls Try.prog 84 #[.pointer (some ⟨b, 0, none⟩), .int .i64 (i : Int), .agg (evA e)] w (TurnPost B b (n + 1) (turnF s i e) vl vc vv m1 m2 w) := by
  have hu97 := Try.underlying97
  have hu54 := Try.underlying54
  have hu34 := Try.underlying34
  have hu99 := Try.underlying99
  have HF1 := Aside0.mk (show turn1 s i e = s from turn1_no (by rintro (q | q | q) <;> omega))
  have HF := Aside0.mk (show turnF s i e = s by unfold turnF; rw [HF1.out]; exact turn2_no (by omega))
  have qk4 : (e.k == 4) = false := beq_eq_false_iff_ne.2 (by omega)
  have rk4 : (e.k != 4) = true := bne_iff_ne.2 (by omega)
  have qk3 : (e.k == 3) = true := beq_iff_eq.2 (by omega)
  have rk3 : (e.k != 3) = false := bne_eq_false_iff_eq.2 (by omega)
  have qop2 : (e.op == 2) = false := beq_eq_false_iff_ne.2 (by omega)
  have rop2 : (e.op != 2) = true := bne_iff_ne.2 (by omega)
  have qop3 : (e.op == 3) = false := beq_eq_false_iff_ne.2 (by omega)
  have rop3 : (e.op != 3) = true := bne_iff_ne.2 (by omega)
  have qop1 : (e.op == 1) = true := beq_iff_eq.2 (by omega)
  have rop1 : (e.op != 1) = false := bne_eq_false_iff_eq.2 (by omega)
  have qer0 : (e.er == 0) = false := beq_eq_false_iff_ne.2 (by omega)
  have rer0 : (e.er != 0) = true := bne_iff_ne.2 (by omega)
  have hl0 := fun q => (Mid.start hB e).look hw ((w.alloc (.cells (evA e) 54)).drewN q) rfl
  obtain ⟨z0, hz0⟩ : ∃ z0, ((s.at_ (e.hn, e.hg)).map (fun j => (j : Int))).getD 0 = z0 := ⟨_, rfl⟩
  obtain ⟨z1, hz1⟩ : ∃ z1, (s.at_ (e.hn, e.hg)).isSome = z1 := ⟨_, rfl⟩
  rw [hz0, hz1] at hl0
  clear hz0 hz1
  have HB := Aside0.mk hB
  have hlt := hB.lt
  have hc := fun i => hB.cell i
  have HW2 := Aside0.mk hw2
  have HN := Aside0.mk hn
  have HLL := Aside0.mk hll
  clear hB hw hw2 hn hll hk ho he
  go_enter Try.func84, Try.ntmps84
  go_wp2
  go_quiet (fail)
  go_wp2
  all_goals
    go_end0
    exact ⟨rfl, _, by rw [HF.out]; exact ((Mid.start HB.out e).drewN _).st.up (by omega), ((Mid.start HB.out e).drewN _).fr⟩
set_option maxHeartbeats 4000000 in
set_option maxRecDepth 100000 in
theorem turn_other {B b n m1 m2 : Nat} {s : Story} {vl vv vc : Value} (i : Nat) (e : Ev) (w : World) (hB : StIs w B b n s vl vv vc m1 m2) (hw : ∃ kl, keyOf Try.prog 34 (haV e.h) = some kl) (hw2 : ∃ kl, keyOf Try.prog 34 (haV e.new) = some kl) (hn : n ≤ 1000000) (hll : s.lives.length ≤ 1000000) (hk : e.k = 3) (ho : e.op ≠ 1 ∧ e.op ≠ 2 ∧ e.op ≠ 3) :
    Calls Try.prog 84 #[.pointer (some ⟨b, 0, none⟩), .int .i64 (i : Int), .agg (evA e)] w (TurnPost B b (n + 1) (turnF s i e) vl vc vv m1 m2 w) := by
  have hu97 := Try.underlying97
  have hu54 := Try.underlying54
  have hu34 := Try.underlying34
  have hu99 := Try.underlying99
  have HF1 := Aside0.mk (show turn1 s i e = s from turn1_no (by rintro (q | q | q) <;> omega))
  have HF := Aside0.mk (show turnF s i e = s by unfold turnF; rw [HF1.out]; exact turn2_no (by omega))
  have qk4 : (e.k == 4) = false := beq_eq_false_iff_ne.2 (by omega)
  have rk4 : (e.k != 4) = true := bne_iff_ne.2 (by omega)
  have qk3 : (e.k == 3) = true := beq_iff_eq.2 (by omega)
  have rk3 : (e.k != 3) = false := bne_eq_false_iff_eq.2 (by omega)
  have qop2 : (e.op == 2) = false := beq_eq_false_iff_ne.2 (by omega)
  have rop2 : (e.op != 2) = true := bne_iff_ne.2 (by omega)
  have qop3 : (e.op == 3) = false := beq_eq_false_iff_ne.2 (by omega)
  have rop3 : (e.op != 3) = true := bne_iff_ne.2 (by omega)
  have qop1 : (e.op == 1) = false := beq_eq_false_iff_ne.2 (by omega)
  have rop1 : (e.op != 1) = true := bne_iff_ne.2 (by omega)
  have hl0 := fun q => (Mid.start hB e).look hw ((w.alloc (.cells (evA e) 54)).drewN q) rfl
  obtain ⟨z0, hz0⟩ : ∃ z0, ((s.at_ (e.hn, e.hg)).map (fun j => (j : Int))).getD 0 = z0 := ⟨_, rfl⟩
  obtain ⟨z1, hz1⟩ : ∃ z1, (s.at_ (e.hn, e.hg)).isSome = z1 := ⟨_, rfl⟩
  rw [hz0, hz1] at hl0
  clear hz0 hz1
  have HB := Aside0.mk hB
  have hlt := hB.lt
  have hc := fun i => hB.cell i
  have HW2 := Aside0.mk hw2
  have HN := Aside0.mk hn
  have HLL := Aside0.mk hll
  clear hB hw hw2 hn hll hk ho
  go_enter Try.func84, Try.ntmps84
  go_wp2
  go_quiet (fail)
  go_wp2
  all_goals
    go_end0
    exact ⟨rfl, _, by rw [HF.out]; exact ((Mid.start HB.out e).drewN _).st.up (by omega), ((Mid.start HB.out e).drewN _).fr⟩
theorem turn_any {B b n m1 m2 : Nat} {s : Story} {vl vv vc : Value} (i : Nat) (e : Ev) (w : World) (hB : StIs w B b n s vl vv vc m1 m2) (hw : ∃ kl, keyOf Try.prog 34 (haV e.h) = some kl) (hw2 : ∃ kl, keyOf Try.prog 34 (haV e.new) = some kl) (hn : n ≤ 1000000) (hll : s.lives.length ≤ 1000000)
    (hv : ∀ h j, s.at_ h = some j → ∃ x, s.lives[j]? = some x) (hk : e.k = 3 ∨ e.k = 4) :
    Calls Try.prog 84 #[.pointer (some ⟨b, 0, none⟩), .int .i64 (i : Int), .agg (evA e)] w (TurnPost B b (n + 1) (turnF s i e) vl vc vv m1 m2 w) := by
  have two : ∀ (P : Prop), (s.at_ e.h = none → P) → (∀ k x, s.at_ e.h = some k → s.lives[k]? = some x → x.til > i → P) → (∀ k x, s.at_ e.h = some k → s.lives[k]? = some x → ¬ x.til > i → P) → P := fun P h1 h2 h3 => by
    cases ha : s.at_ e.h with
    | none => exact h1 ha
    | some k =>
      obtain ⟨x, hx⟩ := hv _ k ha
      by_cases ht : x.til > i
      · exact h2 k x ha hx ht
      · exact h3 k x ha hx ht
  rcases hk with hk | hk
  · by_cases o2 : e.op = 2
    · cases hy : e.y with
      | false => exact turn_cancel_no i e w hB hw hw2 hn hll hk o2 hy
      | true => exact two _ (fun ha => turn_cancel_none i e w hB hw hw2 hn hll hk o2 hy ha) (fun k x ha hx ht => turn_cancel_set i e w hB hw hw2 hn hll hk o2 hy k x ha hx ht) (fun k x ha hx ht => turn_cancel_keep i e w hB hw hw2 hn hll hk o2 hy k x ha hx ht)
    by_cases o3 : e.op = 3
    · by_cases he : e.er = 0
      · cases hj : s.at_ e.new with
        | none => exact two _ (fun ha => turn_rearm_none_new i e w hB hw hw2 hn hll hk o3 he ha hj) (fun k x ha hx ht => turn_rearm_set_new i e w hB hw hw2 hn hll hk o3 he k x ha hx ht hj) (fun k x ha hx ht => turn_rearm_keep_new i e w hB hw hw2 hn hll hk o3 he k x ha hx ht hj)
        | some j => exact two _ (fun ha => turn_rearm_none_old i e w hB hw hw2 hn hll hk o3 he ha j hj) (fun k x ha hx ht => turn_rearm_set_old i e w hB hw hw2 hn hll hk o3 he k x ha hx ht j hj) (fun k x ha hx ht => turn_rearm_keep_old i e w hB hw hw2 hn hll hk o3 he k x ha hx ht j hj)
      · exact turn_rearm_no i e w hB hw hw2 hn hll hk o3 he
    by_cases o1 : e.op = 1
    · by_cases he : e.er = 0
      · cases hj : s.at_ e.new with
        | none => exact turn_start_new i e w hB hw hw2 hn hll hk o1 he hj
        | some j => exact turn_start_old i e w hB hw hw2 hn hll hk o1 he j hj
      · exact turn_start_no i e w hB hw hw2 hn hll hk o1 he
    exact turn_other i e w hB hw hw2 hn hll hk ⟨o1, o2, o3⟩
  · exact two _ (fun ha => turn_fire_none i e w hB hw hw2 hn hll hk ha) (fun k x ha hx ht => turn_fire_set i e w hB hw hw2 hn hll hk k x ha hx ht) (fun k x ha hx ht => turn_fire_keep i e w hB hw hw2 hn hll hk k x ha hx ht)
end Go.Proofs.Ythniclbmpeklmaa.Au
end
section
namespace Go.Proofs.Ythniclbmpeklmaa.Au
open Go.RowKit Go.Maps Go.Proofs.YthniclbmpeklmaaW.PrintWords Go.Proofs.YthniclbmpeklmaaW.PrintLast Go.Proofs.YthniclbmpeklmaaW.PrintMore Go.Proofs.Ythniclbmpeklmaa.Mp
set_option linter.unusedVariables false
set_option linter.unusedSimpArgs false
def rightE (e : Ev) : Bool := Ev.evRight e.k e.wk e.op e.hn e.hg e.nn e.ng e.t e.a e.u e.y e.er
/-- An event as the story tells it. -/
def clE (e : Ev) : Ev := if rightE e = true then e else zeroE
def gOf (l : List Ev) (i : Nat) : Ev := clE (l.getD i zeroE)
def wfE (e : Ev) : Prop := (Lit.int .i64 e.wk).wf = true ∧ (Lit.int .i64 e.hn).wf = true ∧ (Lit.int .i64 e.hg).wf = true ∧ (Lit.int .i64 e.nn).wf = true ∧ (Lit.int .i64 e.ng).wf = true
theorem right_kind {e : Ev} (h : rightE e = true) : e.k = 1 ∨ e.k = 2 ∨ e.k = 3 ∨ e.k = 4 ∨ e.k = 5 := by
  unfold rightE Ev.evRight Ev.kindB at h
  simp only [Bool.and_eq_true, Bool.or_eq_true, beq_iff_eq] at h
  omega
/-- Element i of a slice of events that came in. -/
def EvAt (w : World) (A : Option Addr) (i : Nat) (e : Ev) : Prop := ∃ ad, A = some ad ∧ w.cell? (ad.add (i * 12)) = some (.int .i64 e.k) ∧ w.cell? ⟨(ad.add (i * 12)).block, (ad.add (i * 12)).off + 1, none⟩ = some (.int .i64 e.wk) ∧ w.cell? ⟨(ad.add (i * 12)).block, (ad.add (i * 12)).off + 2, none⟩ = some (.int .i64 e.op) ∧
  w.cell? ⟨(ad.add (i * 12)).block, (ad.add (i * 12)).off + 3, none⟩ = some (.int .i64 e.hn) ∧ w.cell? ⟨(ad.add (i * 12)).block, (ad.add (i * 12)).off + 4, none⟩ = some (.int .i64 e.hg) ∧ w.cell? ⟨(ad.add (i * 12)).block, (ad.add (i * 12)).off + 5, none⟩ = some (.int .i64 e.nn) ∧ w.cell? ⟨(ad.add (i * 12)).block, (ad.add (i * 12)).off + 6, none⟩ = some (.int .i64 e.ng) ∧
  w.cell? ⟨(ad.add (i * 12)).block, (ad.add (i * 12)).off + 7, none⟩ = some (.int .i64 e.t) ∧ w.cell? ⟨(ad.add (i * 12)).block, (ad.add (i * 12)).off + 8, none⟩ = some (.int .i64 e.a) ∧ w.cell? ⟨(ad.add (i * 12)).block, (ad.add (i * 12)).off + 9, none⟩ = some (.int .i64 e.u) ∧ w.cell? ⟨(ad.add (i * 12)).block, (ad.add (i * 12)).off + 10, none⟩ = some (.bool e.y) ∧
  w.cell? ⟨(ad.add (i * 12)).block, (ad.add (i * 12)).off + 11, none⟩ = some (.int .i64 e.er)
theorem EvAt.below {w w1 : World} {A : Option Addr} {i : Nat} {e : Ev} (h : EvAt w A i e) (hb : Below w.heap.size w w1) : EvAt w1 A i e := by
  obtain ⟨ad, hA, h0, h1, h2, h3, h4, h5, h6, h7, h8, h9, h10, h11⟩ := h
  exact ⟨ad, hA, pw_cell_below hb h0, pw_cell_below hb h1, pw_cell_below hb h2, pw_cell_below hb h3, pw_cell_below hb h4, pw_cell_below hb h5, pw_cell_below hb h6, pw_cell_below hb h7, pw_cell_below hb h8, pw_cell_below hb h9, pw_cell_below hb h10, pw_cell_below hb h11⟩
theorem erun (e : Ev) (W : World) : Calls Try.prog 65 #[.agg (evA e)] W fun r w' => r = .returned (.bool (rightE e)) ∧ Below W.heap.size W w' := Ev.event_right e.k e.wk e.op e.hn e.hg e.nn e.ng e.t e.a e.u e.y e.er W
/-- A story in memory, on the way. -/
structure Rd (w W : World) (b m1 m2 k : Nat) (s : Story) (vl vv vc : Value) : Prop where
  st : StIs W w.heap.size b k s vl vv vc m1 m2
  below : Below w.heap.size w W
/-- .. and an event's block. -/
structure Re (w W : World) (b m1 m2 k : Nat) (s : Story) (vl vv vc : Value) (eb : Nat) (e : Ev) : Prop where
  rd : Rd w W b m1 m2 k s vl vv vc
  ev : W.heap[eb]? = some (.cells (evA e) 54 (0, 0))
  eg : w.heap.size ≤ eb
  en : vl.ownBlock ≠ some eb
section
variable {w W W1 : World} {b m1 m2 k eb : Nat} {s : Story} {vl vv vc : Value} {e : Ev}
theorem Rd.step (h : Rd w W b m1 m2 k s vl vv vc) (hb : Below W.heap.size W W1) : Rd w W1 b m1 m2 k s vl vv vc := ⟨h.st.below hb, below_step h.below hb⟩
theorem Re.step (h : Re w W b m1 m2 k s vl vv vc eb e) (hb : Below W.heap.size W W1) : Re w W1 b m1 m2 k s vl vv vc eb e := ⟨h.rd.step hb, blk_below h.ev hb, h.eg, h.en⟩
theorem Re.alloc (h : Re w W b m1 m2 k s vl vv vc eb e) (o : Obj) : Re w (W.alloc o) b m1 m2 k s vl vv vc eb e := h.step (below_alloc (Below.refl _ _) o)
theorem Re.drew (h : Re w W b m1 m2 k s vl vv vc eb e) : Re w W.drew b m1 m2 k s vl vv vc eb e := h.step (Below.drew (Below.refl _ _))
theorem Re.drewN (h : Re w W b m1 m2 k s vl vv vc eb e) (q : Nat) : Re w (W.drewN q) b m1 m2 k s vl vv vc eb e := h.step (pw_below_drewN (Below.refl _ _) q)
theorem Re.cells (h : Re w W b m1 m2 k s vl vv vc eb e) : (∀ i, W.cell? ⟨b, i, none⟩ = (stA vl vv vc m1 m2)[i]?) ∧ (∀ i, W.cell? ⟨eb, i, none⟩ = (evA e)[i]?) ∧ (∀ i, W.frozen? ⟨b, i, none⟩ = false) := ⟨fun i => h.rd.st.cell i, fun i => blk_cell h.ev i, fun i => blk_frozen h.rd.st.blk i⟩
theorem Rd.start (h : Rd w W b m1 m2 k s vl vv vc) (e : Ev) : Re w (W.alloc (.cells (evA e) 54)) b m1 m2 k s vl vv vc W.heap.size e :=
  ⟨h.step (below_alloc (Below.refl _ _) _), blk_new _ _, by have := h.below.size; exact this, fun q => by obtain ⟨c, hc⟩ := h.st.rl.own q; have := blk_lt hc; omega⟩
theorem Rd.app_l {x : Ev} {g cap : Nat} (h : Rd w W b m1 m2 k s vl vv vc) (hown : RowIs W1 w.heap.size 54 12 evA (.slice (some ⟨g, 0, none⟩) (s.l.length + 1) cap) (s.l ++ [x])) (hg : W.grownBy W1 vl.ownBlock) :
    W1.heap[b]? = some (.cells (stA vl vv vc m1 m2) 97 (0, 0)) ∧ Rd w (W1.setCell ⟨b, 0, none⟩ (.slice (some ⟨g, 0, none⟩) (s.l.length + 1) cap)) b m1 m2 k { s with l := s.l ++ [x] } (.slice (some ⟨g, 0, none⟩) (s.l.length + 1) cap) vv vc := by
  obtain ⟨h1, h2⟩ := h.st.app_l hown hg
  refine ⟨h1, h2, Below.setCell (h.below.grown hg h.below.size (fun j hj => (h.st.rl.lt j hj).1)) h.st.hb _⟩
theorem Re.app_l {x : Ev} {g cap : Nat} (h : Re w W b m1 m2 k s vl vv vc eb e) (hown : RowIs W1 w.heap.size 54 12 evA (.slice (some ⟨g, 0, none⟩) (s.l.length + 1) cap) (s.l ++ [x])) (hg : W.grownBy W1 vl.ownBlock) (hat : vl.ownBlock = some g ∨ g = W.heap.size) :
    ((∀ i, W1.cell? ⟨b, i, none⟩ = (stA vl vv vc m1 m2)[i]?) ∧ (∀ i, W1.cell? ⟨eb, i, none⟩ = (evA e)[i]?) ∧ (∀ i, W1.frozen? ⟨b, i, none⟩ = false)) ∧ Re w (W1.setCell ⟨b, 0, none⟩ (.slice (some ⟨g, 0, none⟩) (s.l.length + 1) cap)) b m1 m2 k { s with l := s.l ++ [x] } (.slice (some ⟨g, 0, none⟩) (s.l.length + 1) cap) vv vc eb e := by
  obtain ⟨h1, h2⟩ := h.rd.app_l hown hg
  have he : W1.heap[eb]? = some (.cells (evA e) 54 (0, 0)) := blk_grown h.ev hg (fun q => h.en q.symm)
  refine ⟨⟨fun i => blk_cell h1 i, fun i => blk_cell he i, fun i => blk_frozen h1 i⟩, h2, blk_far he (types_ne h1 he (by decide)).symm _, h.eg, fun q => ?_⟩
  have q' : g = eb := by simpa [Value.ownBlock] using q
  rcases hat with r | r
  · exact h.en (by rw [r, q'])
  · have := blk_lt h.ev; omega
theorem Re.app_c {x : Cl} {g cap : Nat} (h : Re w W b m1 m2 k s vl vv vc eb e) (hown : RowIs W1 w.heap.size 103 15 clA (.slice (some ⟨g, 0, none⟩) (s.calls.length + 1) cap) (s.calls ++ [x])) (hg : W.grownBy W1 vc.ownBlock) :
    ((∀ i, W1.cell? ⟨b, i, none⟩ = (stA vl vv vc m1 m2)[i]?) ∧ (∀ i, W1.cell? ⟨eb, i, none⟩ = (evA e)[i]?) ∧ (∀ i, W1.frozen? ⟨b, i, none⟩ = false)) ∧ Rd w (W1.setCell ⟨b, 3, none⟩ (.slice (some ⟨g, 0, none⟩) (s.calls.length + 1) cap)) b m1 m2 k { s with calls := s.calls ++ [x] } vl vv (.slice (some ⟨g, 0, none⟩) (s.calls.length + 1) cap) := by
  obtain ⟨h1, h2⟩ := h.rd.st.app_c hown hg
  have he : W1.heap[eb]? = some (.cells (evA e) 54 (0, 0)) := blk_grown h.ev hg (fun q => by obtain ⟨c, hc⟩ := h.rd.st.rc.own q.symm; exact types_ne h.ev hc (by decide) rfl)
  exact ⟨⟨fun i => blk_cell h1 i, fun i => blk_cell he i, fun i => blk_frozen h1 i⟩, h2, Below.setCell (h.rd.below.grown hg h.rd.below.size (fun j hj => (h.rd.st.rc.lt j hj).1)) h.rd.st.hb _⟩
theorem Re.sto_o {f' : Int → Option Nat} {z' : Nat} (h : Re w W b m1 m2 k s vl vv vc eb e) (hm : MapIs (Value.int .i64) Try.prog 3 W1 m2 z' (nV f')) (hz : z' ≤ k + 1) (hg : W.grownBy W1 (some m2)) : Re w W1 b m1 m2 (k + 1) { s with opn := f' } vl vv vc eb e := by
  obtain ⟨z2, hz2, hm2⟩ := h.rd.st.mo
  obtain ⟨_, _, q2⟩ := hm2.block
  exact ⟨⟨h.rd.st.sto_o hm hz hg, h.rd.below.grown hg h.rd.below.size (fun j hj => by cases hj; exact h.rd.st.h2)⟩, blk_grown h.ev hg (fun q => map_ne h.ev q2 (Option.some.inj q)), h.eg, h.en⟩
theorem Rd.put_c {g cap j : Nat} {q : Cl} (i : Int) (h : Rd w W b m1 m2 k s vl vv (.slice (some ⟨g, 0, none⟩) s.calls.length cap)) (hq : s.calls[j]? = some q) :
    Rd w (W.setCell ⟨g, j * 15 + 14, none⟩ (.int .i64 i)) b m1 m2 k { s with calls := s.calls.set j { q with en := i } } vl vv (.slice (some ⟨g, 0, none⟩) s.calls.length cap) :=
  ⟨h.st.put_c i hq, Below.setCell h.below ((h.st.rc.lt g rfl).1) _⟩
theorem Rd.up (h : Rd w W b m1 m2 k s vl vv vc) {k' : Nat} (hk : k ≤ k') : Rd w W b m1 m2 k' s vl vv vc := ⟨h.st.up hk, h.below⟩
theorem Re.look (h : Re w W b m1 m2 k s vl vv vc eb e) {x : Int} (hx : (Lit.int .i64 x).wf = true) (W' : World) (hb : W'.heap[m2]? = W.heap[m2]?) :
    (Instr.lookup 95 (.map (some m2)) (.int .i64 x) true).run Try.prog W' = .ok (.tuple #[.int .i64 (((s.opn x).map (fun j => (j : Int))).getD 0), .bool (s.opn x).isSome]) W' := by
  obtain ⟨z, hz, hm⟩ := h.rd.st.mo
  exact look_o hm hx W' hb
end
/-- One event on. -/
theorem step_one {s : Story} {clk : Int} {i : Nat} {e : Ev} (h : e.k = 1) : stepF s clk i e = { s with l := s.l ++ [e] } := by unfold stepF; simp only [if_pos h]
theorem step_none {s : Story} {clk : Int} {i : Nat} {e : Ev} (h : e.k = 0) : stepF s clk i e = { s with l := s.l ++ [e] } := by unfold stepF; simp only [h]; rw [if_neg (by decide), if_neg (by decide), if_neg (by decide), if_neg (by decide)]
theorem step_two {s : Story} {clk : Int} {i : Nat} {e : Ev} (h : e.k = 2) : stepF s clk i e = { s with l := s.l ++ [e], opn := updW s.opn e.wk s.calls.length, calls := s.calls ++ [⟨e, i, clk, -1⟩] } := by unfold stepF; simp [h]
theorem step_five {s : Story} {clk : Int} {i : Nat} {e : Ev} (h : e.k = 5) : stepF s clk i e = backF { s with l := s.l ++ [e] } i e := by unfold stepF; simp [h]
theorem step_turn {s : Story} {clk : Int} {i : Nat} {e : Ev} (h : e.k = 3 ∨ e.k = 4) : stepF s clk i e = turnF { s with l := s.l ++ [e] } i e := by unfold stepF; simp only []; rw [if_neg (by omega), if_neg (by omega), if_neg (by omega), if_pos h]
theorem back_none {s : Story} {i : Nat} {e : Ev} (h : s.opn e.wk = none) : backF s i e = s := by unfold backF; rw [h]
theorem back_set {s : Story} {i j : Nat} {e : Ev} {q : Cl} (h : s.opn e.wk = some j) (hq : s.calls[j]? = some q) (hc : q.e.op = e.op ∧ q.en < 0) : backF s i e = { s with calls := s.calls.set j { q with en := i } } := by unfold backF; simp only [h, hq]; rw [if_pos hc]
theorem back_keep {s : Story} {i j : Nat} {e : Ev} {q : Cl} (h : s.opn e.wk = some j) (hq : s.calls[j]? = some q) (hc : ¬ (q.e.op = e.op ∧ q.en < 0)) : backF s i e = s := by unfold backF; simp only [h, hq]; rw [if_neg hc]
theorem clk_one {g : Nat → Ev} {n : Nat} (h : (g n).k = 1) : clkN g (n + 1) = (g n).t := by unfold clkN; rw [if_pos h]
theorem clk_not {g : Nat → Ev} {n : Nat} (h : (g n).k ≠ 1) : clkN g (n + 1) = clkN g n := by rw [clkN, if_neg h]
def ReadPost (l : List Ev) (w : World) (r : Ending) (w' : World) : Prop := ∃ b m1 m2 vl vv vc, r = .returned (.pointer (some ⟨b, 0, none⟩)) ∧ StIs w' w.heap.size b l.length (storyN (gOf l) l.length) vl vv vc m1 m2 ∧ Below w.heap.size w w'
theorem g_at {l : List Ev} {k : Nat} {e : Ev} (h : l[k]? = some e) : gOf l k = clE e := by unfold gOf; rw [List.getD_eq_getElem?_getD, h]; rfl
theorem calls_len (g : Nat → Ev) (k n : Nat) (hn : n ≤ 1000000) (hk : k ≤ n) : (storyN g k).calls.length ≤ 1000000 := by
  have : ∀ m, (storyN g m).calls.length ≤ m := by
    intro m
    induction m with
    | zero => exact Nat.le_refl _
    | succ m ih =>
      show (stepF (storyN g m) (clkN g m) m (g m)).calls.length ≤ m + 1
      unfold stepF
      simp only []
      split
      · exact Nat.le_succ_of_le ih
      split
      · simp; exact ih
      split
      · unfold backF
        split
        · exact Nat.le_succ_of_le ih
        · split
          · exact Nat.le_succ_of_le ih
          · split
            · simp; omega
            · exact Nat.le_succ_of_le ih
      split
      · unfold turnF
        rw [(turn2_c _ _ _).1, (turn1_c _ _ _).1]
        exact Nat.le_succ_of_le ih
      · exact Nat.le_succ_of_le ih
  have := this k
  omega
theorem lives_len (g : Nat → Ev) (k n : Nat) (hn : n ≤ 1000000) (hk : k ≤ n) : (storyN g k).lives.length ≤ 1000000 := by
  have t1 : ∀ (s : Story) i e, (turn1 s i e).lives.length = s.lives.length := fun s i e => by
    unfold turn1
    split
    · rfl
    · split
      · rfl
      · split
        · simp
        · rfl
  have t2 : ∀ (s : Story) i e, (turn2 s i e).lives.length ≤ s.lives.length + 1 := fun s i e => by
    unfold turn2
    split
    · omega
    · split
      · omega
      · simp
  have : ∀ m, (storyN g m).lives.length ≤ m := by
    intro m
    induction m with
    | zero => exact Nat.le_refl _
    | succ m ih =>
      show (stepF (storyN g m) (clkN g m) m (g m)).lives.length ≤ m + 1
      unfold stepF
      simp only []
      split
      · exact Nat.le_succ_of_le ih
      split
      · exact Nat.le_succ_of_le ih
      split
      · rw [(backF_c _ _ _).1]
        exact Nat.le_succ_of_le ih
      split
      · unfold turnF
        have h1 := t2 (turn1 { storyN g m with l := (storyN g m).l ++ [g m] } m (g m)) m (g m)
        rw [t1] at h1
        have h2 : (storyN g m).lives.length ≤ m := ih
        exact Nat.le_trans h1 (Nat.succ_le_succ h2)
      · exact Nat.le_succ_of_le ih
  have := this k
  omega
def readR.T8 : Bool × List (List Nat × List Nat) := (true, [([], []), ([], []), ([1], [1]), ([2], [2]), ([3], [3]), ([], []), ([5], [5]), ([4, 6], [4, 6]), ([0, 0, 1, 2, 3, 4, 5, 6, 7], [0]), ([8, 0, 1, 2, 3, 4, 5, 6, 7], [8]), ([9, 7, 7, 0, 1, 2, 3, 4, 5, 6, 7], [7, 9])])
def readR.B8 : List Nat := [0, 0, 2, 6, 14, 0, 32, 126, 255, 511, 1023]
theorem readR.tab8 : rtab .any (opsOf Try.f47 8) = readR.T8 := by kernel_rfl
theorem readR.bits8 : waitsOk readR.T8.2 readR.B8 = true := by kernel_rfl
def readR.T15 : Bool × List (List Nat × List Nat) := (true, [([], []), ([], []), ([1], [1]), ([2], [2]), ([3], [3]), ([], []), ([], []), ([], []), ([5, 6, 7], [5, 6, 7]), ([8], [8]), ([4, 9], [4, 9]), ([0, 0, 1, 2, 3, 4, 5, 6, 7, 8, 9, 10], [0]), ([11, 0, 1, 2, 3, 4, 5, 6, 7, 8, 9, 10], [11]), ([12, 10, 10, 0, 1, 2, 3, 4, 5, 6, 7, 8, 9, 10], [10, 12])])
def readR.B15 : List Nat := [0, 0, 2, 6, 14, 0, 0, 0, 224, 480, 1022, 2047, 4095, 8191]
theorem readR.tab15 : rtab .any (opsOf Try.f47 15) = readR.T15 := by kernel_rfl
theorem readR.bits15 : waitsOk readR.T15.2 readR.B15 = true := by kernel_rfl
set_option maxHeartbeats 20000000 in
set_option maxRecDepth 100000 in
theorem read_any (A1 : Option Addr) (c1 : Nat) (l : List Ev) (hn : l.length ≤ 1000000) (w : World) (hin : ∀ (i : Nat) e, l[i]? = some e → EvAt w A1 i e) (hwf : ∀ e ∈ l, wfE e) :
    Calls Try.prog 47 #[.slice A1 l.length c1] w (ReadPost l w) := by
  have hu97 := Try.underlying97
  have hu54 := Try.underlying54
  have hu34 := Try.underlying34
  have hu103 := Try.underlying103
  have hmm := @run_makeMap Try.prog
  have HIN := Aside0.mk hin
  have HWF := Aside0.mk hwf
  have HN := Aside0.mk hn
  clear hin hwf hn
  go_enter Try.func47, Try.ntmps47
  go_wp2
  obtain ⟨b, hb⟩ : ∃ b, b = w.heap.size + 1 + 1 := ⟨_, rfl⟩
  obtain ⟨m1, hm1⟩ : ∃ m1, m1 = w.heap.size := ⟨_, rfl⟩
  obtain ⟨m2, hm2⟩ : ∃ m2, m2 = w.heap.size + 1 := ⟨_, rfl⟩
  have HS0 : Aside0 (Rd w (((w.alloc (.map #[] 0)).alloc (.map #[] 0)).alloc (.cells (stA (.slice none 0 0) (.slice none 0 0) (.slice none 0 0) m1 m2) 97)) b m1 m2 0 story0 (.slice none 0 0) (.slice none 0 0) (.slice none 0 0)) := ⟨by
    subst hb hm1 hm2
    have q1 := (MapIs.made (c := haV) w Try.prog 34).move (w' := ((w.alloc (.map #[] 0)).alloc (.map #[] 0)).alloc (.cells (stA (.slice none 0 0) (.slice none 0 0) (.slice none 0 0) w.heap.size (w.heap.size + 1)) 97)) (by rw [Below.heap_alloc _ _ _ (by simp; omega), Below.heap_alloc _ _ _ (by simp)])
    have q2 := (MapIs.made (c := Value.int .i64) (w.alloc (.map #[] 0)) Try.prog 3).move (w' := ((w.alloc (.map #[] 0)).alloc (.map #[] 0)).alloc (.cells (stA (.slice none 0 0) (.slice none 0 0) (.slice none 0 0) w.heap.size (w.heap.size + 1)) 97)) (by rw [Below.heap_alloc _ _ _ (by simp)])
    refine ⟨⟨by simpa using blk_new ((w.alloc (.map #[] 0)).alloc (.map #[] 0)) (.cells (stA (.slice none 0 0) (.slice none 0 0) (.slice none 0 0) w.heap.size (w.heap.size + 1)) 97), RowIs.nil _ _ _ _ _, RowIs.nil _ _ _ _ _, RowIs.nil _ _ _ _ _, ⟨0, Nat.le_refl _, q1⟩, ⟨0, Nat.le_refl _, by have q := q2; rw [show (w.alloc (.map #[] 0)).heap.size = w.heap.size + 1 by simp] at q; exact q⟩, by omega, by omega, by omega, by omega⟩, below_alloc (below_alloc (below_alloc (Below.refl _ _) _) _) _⟩⟩
  rw [← hb, ← hm2, ← hm1]
  clear hb hm1 hm2
  go_loopw [4, 15] (fun vc0 i wr => ∃ k : Nat, k ≤ l.length ∧ i = .int .i64 k ∧ vc0 = .int .i64 (clkN (gOf l) k) ∧ Aside0 (∃ vl vv vc, Rd w wr b m1 m2 k (storyN (gOf l) k) vl vv vc)) (fun _ i _ => l.length - (intOf i).toNat)
  case atStart => exact ⟨0, by omega, rfl, rfl, ⟨_, _, _, HS0.out⟩⟩
  case round =>
    clear HS0
    obtain ⟨k, hk, rfl, rfl, HS⟩ := hrel
    rcases Nat.lt_or_ge k l.length with hlt | hge
    · have p0 : (0 : Int) ≤ (k : Int) := by omega
      have q0 : (k : Int) < (l.length : Int) := by omega
      obtain ⟨e, he⟩ : ∃ e, l[k]? = some e := ⟨_, List.getElem?_eq_getElem hlt⟩
      obtain ⟨vl, vv, vc, hS⟩ := HS.out
      clear HS
      have hgk := g_at he
      have HW := Aside0.mk (HWF.out e (get_mem he))
      obtain ⟨ad, rfl, c0, c1', c2, c3', c4, c5, c6, c7, c8, c9, c10, c11⟩ := (HIN.out k e he).below hS.below
      obtain ⟨A3, c3, rfl, hc3⟩ := hS.st.rc.form
      have hnn : wrap64 ((k : Int) + 1) = ((k + 1 : Nat) : Int) := by have := HN.out; unfold wrap64; omega
      have INV := Aside0.mk (inv_all (gOf l) k (by have := HN.out; unfold noEnd; omega))
      have HGK := Aside0.mk hgk
      have HST := Aside0.mk (show storyN (gOf l) (k + 1) = stepF (storyN (gOf l) k) (clkN (gOf l) k) k (clE e) by rw [← hgk]; rfl)
      clear hgk
      have HLL := Aside0.mk (show (storyN (gOf l) k).l.length ≤ 1000000 by rw [INV.out.len]; have := HN.out; omega)
      have HLC : Aside0 ((storyN (gOf l) k).calls.length ≤ 1000000) := ⟨calls_len _ _ _ HN.out hk⟩
      have HLV : Aside0 ((storyN (gOf l) k).lives.length ≤ 1000000) := ⟨lives_len _ _ _ HN.out hk⟩
      have HAT : Aside0 (∀ h j, (storyN (gOf l) k).at_ h = some j → ∃ x, (storyN (gOf l) k).lives[j]? = some x) := ⟨fun h j q => by obtain ⟨x, hx, _⟩ := INV.out.v.at1 h j q; exact ⟨x, hx⟩⟩
      have HOP : Aside0 (∀ x j, (storyN (gOf l) k).opn x = some j → ∃ q, (storyN (gOf l) k).calls[j]? = some q) := ⟨fun x j q => by obtain ⟨y, _, hy, _⟩ := INV.out.c.open1 x j q; exact ⟨y, hy⟩⟩
      have HH := Aside0.mk (hS.start e)
      have HSS := Aside0.mk hS
      generalize hs : storyN (gOf l) k = s at HH HSS HST HLL HLC HLV HAT HOP INV
      clear hs hS he hc3 INV
      have CR := Aside0.mk (fun W => erun e W)
      replace q0 := eq_true q0
      replace p0 := eq_true p0
      cases hr : rightE e with
      | false =>
        rw [hr] at CR
        have hz : clE e = zeroE := by unfold clE; rw [hr]; rfl
        rw [hz] at HST
        have HF := Aside0.mk (HST.out.trans (step_none rfl))
        have HCK := Aside0.mk (show clkN (gOf l) (k + 1) = clkN (gOf l) k from clk_not (by rw [HGK.out, hz]; decide))
        clear hr hz HST
        go_wp2_with (first
          | (go_at_call 65; (with_reducible refine (CR.out _).mono ?_); rintro r w2 ⟨rfl, hb⟩; have HR2 := Aside0.mk (HH.out.step hb); have hlt2 := HR2.out.rd.st.lt; have hc := fun i => HR2.out.rd.st.cell i; clear hb)
          | (at_builtin; refine RowIs.append_wpl (by rfl) 24 96 _ _ _ Try.underlying24 ev_info rfl (by decide) rfl HR2.out.rd.st.rl zeroE rfl (by simp [Value.oneCell', zeroE]) (by rfl) (by rfl) HLL.out (by decide) HR2.out.rd.below.size ?_; intro gg cap6 w6 hown hgrow hat; have HP := Aside0.mk ((HR2.out.alloc _).app_l hown hgrow (by simpa using hat)); have hc6 := HP.out.1.1; have hf6 := HP.out.1.2.2; clear hown hgrow hat))
        go_roundw
        case rel => exact ⟨k + 1, by omega, by first | rw [hnn] | simp, by rw [HCK.out], ⟨_, _, _, HF.out ▸ HP.out.2.rd.up (Nat.le_succ k)⟩⟩
        case measure => first | (rw [hnn]; simp [intOf]; omega) | (simp [intOf]; omega)
      | true =>
        rw [hr] at CR
        have hz : clE e = e := by unfold clE; rw [hr]; rfl
        rw [hz] at HST
        have HCG := Aside0.mk (HGK.out.trans hz)
        have hkind := right_kind hr
        clear hr hz HGK
        go_upto_region 8 with (go_at_call 65; (with_reducible refine (CR.out _).mono ?_); rintro r w2 ⟨rfl, hb⟩; have HR2 := Aside0.mk (HH.out.step hb); clear hb)
        refine start_ (n := 11) (S := (fun w' => (∀ i, w'.cell? ⟨b, i, none⟩ = (stA vl vv (.slice A3 s.calls.length c3) m1 m2)[i]?) ∧ (∀ i, w'.cell? ⟨wr.heap.size, i, none⟩ = (evA e)[i]?) ∧ (∀ i, w'.frozen? ⟨b, i, none⟩ = false))) (ds := [10]) #[false, false, false, false, false, false, false, false, false, false, false] (by kernel_rfl) rfl rfl HR2.out.drew.cells (fun hHeld => ?_)
        refine with_tabW readR.tab8 readR.bits8 (fun HT_ HW_ => ?_)
        have HR3 := Aside0.mk HR2.out.drew
        generalize w2.drew = w3 at HR3 hHeld ⊢
        have hlt3 := HR3.out.rd.st.lt
        refine pure_ (i := 0) (N := (some 33)) (v := ?_) (a' := ?_) #[true, false, false, false, false, false, false, false, false, false, false] rfl rfl (any_of HT_.out (by kernel_rfl)) (fun _ _ _ h => h) (Or.inl ⟨by rfl, ?_⟩) ?_ ?_
        rotate_left
        · intro w'
          go_simp
          with_reducible rfl
        rotate_left
        · simp only [Act.put, List.setIfInBounds_toArray, List.set_cons_zero, List.set_cons_succ, i64_w, i32_w]
          rfl
        refine pure_ (i := 1) (N := (some 34)) (v := ?_) (a' := ?_) #[true, true, false, false, false, false, false, false, false, false, false] rfl rfl (any_of HT_.out (by kernel_rfl)) (fun _ _ _ h => h) (Or.inl ⟨by rfl, ?_⟩) ?_ ?_
        rotate_left
        · intro w'
          go_simp
          with_reducible rfl
        rotate_left
        · simp only [Act.put, List.setIfInBounds_toArray, List.set_cons_zero, List.set_cons_succ, i64_w, i32_w]
          rfl
        refine pure_ (i := 2) (N := (some 35)) (v := ?_) (a' := ?_) #[true, true, true, false, false, false, false, false, false, false, false] rfl rfl (any_of HT_.out (by kernel_rfl)) (fun _ _ _ h => h) (Or.inl ⟨by rfl, ?_⟩) ?_ ?_
        rotate_left
        · intro w'
          go_simp
          with_reducible rfl
        rotate_left
        · simp only [Act.put, List.setIfInBounds_toArray, List.set_cons_zero, List.set_cons_succ, i64_w, i32_w]
          rfl
        refine pure_ (i := 3) (N := (some 36)) (v := ?_) (a' := ?_) #[true, true, true, true, false, false, false, false, false, false, false] rfl rfl (any_of HT_.out (by kernel_rfl)) (fun _ _ _ h => h) (Or.inl ⟨by rfl, ?_⟩) ?_ ?_
        rotate_left
        · intro w'
          go_simp
          with_reducible rfl
        rotate_left
        · simp only [Act.put, List.setIfInBounds_toArray, List.set_cons_zero, List.set_cons_succ, i64_w, i32_w]
          rfl
        refine take_ (i := 4) (N := (some 37)) (v := ?_) (a' := ?_) #[true, true, true, true, true, false, false, false, false, false, false] rfl rfl (take_ofW HT_.out HW_.out (by kernel_rfl)) (fun _ _ _ h => h) (Or.inl ⟨by rfl, ?_⟩) hHeld ?_ ?_
        rotate_left
        · rintro w' ⟨s0, s1, s2⟩
          go_simp
          with_reducible rfl
        rotate_left
        · simp only [Act.put, List.setIfInBounds_toArray, List.set_cons_zero, List.set_cons_succ, i64_w, i32_w]
          rfl
        refine take_ (i := 5) (N := (some 38)) (v := ?_) (a' := ?_) #[true, true, true, true, true, true, false, false, false, false, false] rfl rfl (take_ofW HT_.out HW_.out (by kernel_rfl)) (fun _ _ _ h => h) (Or.inl ⟨by rfl, ?_⟩) hHeld ?_ ?_
        rotate_left
        · rintro w' ⟨s0, s1, s2⟩
          go_simp
          with_reducible rfl
        rotate_left
        · simp only [Act.put, List.setIfInBounds_toArray, List.set_cons_zero, List.set_cons_succ, i64_w, i32_w]
          rfl
        refine one_ (i := 6) (N := (some 39)) #[true, true, true, true, true, true, true, false, false, false, false] rfl rfl (one_of HT_.out (by kernel_rfl)) (by decide) (fun K hK => ?_)
        refine value_ (by rfl) rfl (v := .slice (some ⟨w3.heap.size, 0, none⟩) 1 1) (w1 := w3.alloc (.cells (evA e) 54)) (by go_simp <;> rfl) ?_
        refine hK.out _ _ (HR3.out.alloc _).cells (fun hHeld => ?_)
        clear hK K
        refine norm_ (a' := ?_) ?_ ?_
        rotate_left
        · show Act.put _ (some 39) _ = _
          simp only [Act.put, List.setIfInBounds_toArray, List.set_cons_zero, List.set_cons_succ, i64_w, i32_w]
          rfl
        refine one_ (i := 7) (N := (some 40)) #[true, true, true, true, true, true, true, true, false, false, false] rfl rfl (one_of HT_.out (by kernel_rfl)) (by decide) (fun K hK => ?_)
        refine if_wp rfl ?_
        refine RowIs.append_wp 24 96 _ _ _ Try.underlying24 ev_info rfl (by decide) rfl HR3.out.rd.st.rl e rfl (by simp [Value.oneCell']) (by rfl) (by rfl) HLL.out (by decide) HR3.out.rd.below.size ?_
        intro gg cap6 w6 hown hgrow hat
        have HP := Aside0.mk ((HR3.out.alloc _).app_l hown hgrow (by simpa using hat))
        clear hown hgrow hat
        refine hK.out _ _ HP.out.1 (fun hHeld => ?_)
        clear hK K
        refine norm_ (a' := ?_) ?_ ?_
        rotate_left
        · show Act.put _ (some 40) _ = _
          simp only [Act.put, List.setIfInBounds_toArray, List.set_cons_zero, List.set_cons_succ, i64_w, i32_w]
          rfl
        refine pure_ (i := 8) (N := (some 41)) (v := ?_) (a' := ?_) #[true, true, true, true, true, true, true, true, true, false, false] rfl rfl (any_of HT_.out (by kernel_rfl)) (fun _ _ _ h => h) (Or.inl ⟨by rfl, ?_⟩) ?_ ?_
        rotate_left
        · intro w'
          go_simp
          with_reducible rfl
        rotate_left
        · simp only [Act.put, List.setIfInBounds_toArray, List.set_cons_zero, List.set_cons_succ, i64_w, i32_w]
          rfl
        refine pure_ (i := 9) (N := (some 42)) (v := ?_) (a' := ?_) #[true, true, true, true, true, true, true, true, true, true, false] rfl rfl (any_of HT_.out (by kernel_rfl)) (fun _ _ _ h => h) (Or.inl ⟨by rfl, ?_⟩) ?_ ?_
        rotate_left
        · intro w'
          go_simp
          with_reducible rfl
        rotate_left
        · simp only [Act.put, List.setIfInBounds_toArray, List.set_cons_zero, List.set_cons_succ, i64_w, i32_w]
          rfl
        refine last_ (i := 10) (N := none) #[true, true, true, true, true, true, true, true, true, true, true] rfl rfl (one_of HT_.out (by kernel_rfl)) (by decide) (fun K hK => ?_)
        refine skip_ (by rfl) rfl (w1 := w6.setCell ⟨b, 0, none⟩ (.slice (some ⟨gg, 0, none⟩) (s.l.length + 1) cap6)) (by have q1 := hHeld.1 0; have q2 := hHeld.2.2 0; go_simp) ?_
        refine hK.out _ _ ?_
        clear hK K
        refine done_ (done_of HT_.out (by kernel_rfl)) ?_
        have HR7 := Aside0.mk HP.out.2
        clear HP HR2 HR3 hHeld hlt3 HH HSS CR HT_ HW_ c0 c1' c2 c3' c4 c5 c6 c7 c8 c9 c10 c11
        generalize w6.setCell ⟨b, 0, none⟩ (.slice (some ⟨gg, 0, none⟩) (s.l.length + 1) cap6) = w7 at HR7 ⊢
        have hlt := HR7.out.rd.st.lt
        have hel := blk_lt HR7.out.ev
        have hc := fun i => HR7.out.rd.st.cell i
        have hce := fun i => blk_cell HR7.out.ev i
        rcases hkind with hk1 | hk2 | hk34 | hk34 | hk5
        · have z1 : (e.k == 1) = true := beq_iff_eq.2 (by omega)
          have z2 : (e.k == 2) = false := beq_eq_false_iff_ne.2 (by omega)
          have z5 : (e.k == 5) = false := beq_eq_false_iff_ne.2 (by omega)
          have HF := Aside0.mk (HST.out.trans (step_one hk1))
          have HCK := Aside0.mk (show clkN (gOf l) (k + 1) = e.t by rw [clk_one (by rw [HCG.out]; exact hk1), HCG.out])
          clear hk1
          go_wp2
          go_roundw
          case rel => exact ⟨k + 1, by omega, by first | rw [hnn] | simp, by rw [HCK.out], ⟨_, _, _, HF.out ▸ HR7.out.rd.up (Nat.le_succ k)⟩⟩
          case measure => first | (rw [hnn]; simp [intOf]; omega) | (simp [intOf]; omega)
        · have z1 : (e.k == 1) = false := beq_eq_false_iff_ne.2 (by omega)
          have z2 : (e.k == 2) = true := beq_iff_eq.2 (by omega)
          have z5 : (e.k == 5) = false := beq_eq_false_iff_ne.2 (by omega)
          have HF := Aside0.mk (HST.out.trans (step_two hk2))
          have HCK := Aside0.mk (show clkN (gOf l) (k + 1) = clkN (gOf l) k from clk_not (by rw [HCG.out]; omega))
          clear hk2
          go_upto_region 14 with (fail)
          refine still_tail_at 11 (by kernel_rfl) (by kernel_rfl) fun w70 hw70 => ?_
          have HR70 := Aside0.mk (show Re w w70 b m1 m2 k { s with l := s.l ++ [e] } (.slice (some ⟨gg, 0, none⟩) (s.l.length + 1) cap6) vv (.slice A3 s.calls.length c3) wr.heap.size e by rw [hw70]; exact HR7.out.drew)
          clear hw70 hlt hel hc hce
          have hlt := HR70.out.rd.st.lt
          have hel := blk_lt HR70.out.ev
          have hc := fun i => HR70.out.rd.st.cell i
          have hce := fun i => blk_cell HR70.out.ev i
          simp only [List.take_succ_cons, List.take_zero, List.drop_succ_cons, List.drop_zero]
          repeat still_step
          refine wpStill_nil ?_
          obtain ⟨z, hz, hm⟩ := HR70.out.rd.st.mo
          refine wpl_store int_inj' rfl _ _ _ 95 rfl hm lawI Try.underlying95 (by unfold maxLen; have := HN.out; omega) (y := e.wk) (keyOf_int_mk Try.underlying3 HW.out.1) (val := .int .i64 (s.calls.length : Int)) rfl rfl rfl ?_
          intro w8 hm4 hg4
          rw [nV_updW] at hm4
          have HR8 := Aside0.mk (HR70.out.sto_o hm4 (by split <;> omega) hg4)
          clear hlt hel hc hce hm4 hg4 hm hz HR70
          go_upto_region 15 with (fail)
          refine start_ (n := 14) (S := (fun w' => (∀ i, w'.cell? ⟨b, i, none⟩ = (stA (.slice (some ⟨gg, 0, none⟩) (s.l.length + 1) cap6) vv (.slice A3 s.calls.length c3) m1 m2)[i]?) ∧ (∀ i, w'.cell? ⟨wr.heap.size, i, none⟩ = (evA e)[i]?) ∧ (∀ i, w'.frozen? ⟨b, i, none⟩ = false))) (ds := [13]) #[false, false, false, false, false, false, false, false, false, false, false, false, false, false] (by kernel_rfl) rfl rfl HR8.out.drew.cells (fun hHeld => ?_)
          refine with_tabW readR.tab15 readR.bits15 (fun HT_ HW_ => ?_)
          have HR9 := Aside0.mk HR8.out.drew
          generalize w8.drew = w9 at HR9 hHeld ⊢
          have hlt9 := HR9.out.rd.st.lt
          refine pure_ (i := 0) (N := (some 66)) (v := ?_) (a' := ?_) #[true, false, false, false, false, false, false, false, false, false, false, false, false, false] rfl rfl (any_of HT_.out (by kernel_rfl)) (fun _ _ _ h => h) (Or.inl ⟨by rfl, ?_⟩) ?_ ?_
          rotate_left
          · intro w'
            go_simp
            with_reducible rfl
          rotate_left
          · simp only [Act.put, List.setIfInBounds_toArray, List.set_cons_zero, List.set_cons_succ, i64_w, i32_w]
            rfl
          refine pure_ (i := 1) (N := (some 67)) (v := ?_) (a' := ?_) #[true, true, false, false, false, false, false, false, false, false, false, false, false, false] rfl rfl (any_of HT_.out (by kernel_rfl)) (fun _ _ _ h => h) (Or.inl ⟨by rfl, ?_⟩) ?_ ?_
          rotate_left
          · intro w'
            go_simp
            with_reducible rfl
          rotate_left
          · simp only [Act.put, List.setIfInBounds_toArray, List.set_cons_zero, List.set_cons_succ, i64_w, i32_w]
            rfl
          refine pure_ (i := 2) (N := (some 68)) (v := ?_) (a' := ?_) #[true, true, true, false, false, false, false, false, false, false, false, false, false, false] rfl rfl (any_of HT_.out (by kernel_rfl)) (fun _ _ _ h => h) (Or.inl ⟨by rfl, ?_⟩) ?_ ?_
          rotate_left
          · intro w'
            go_simp
            with_reducible rfl
          rotate_left
          · simp only [Act.put, List.setIfInBounds_toArray, List.set_cons_zero, List.set_cons_succ, i64_w, i32_w]
            rfl
          refine pure_ (i := 3) (N := (some 69)) (v := ?_) (a' := ?_) #[true, true, true, true, false, false, false, false, false, false, false, false, false, false] rfl rfl (any_of HT_.out (by kernel_rfl)) (fun _ _ _ h => h) (Or.inl ⟨by rfl, ?_⟩) ?_ ?_
          rotate_left
          · intro w'
            go_simp
            with_reducible rfl
          rotate_left
          · simp only [Act.put, List.setIfInBounds_toArray, List.set_cons_zero, List.set_cons_succ, i64_w, i32_w]
            rfl
          refine pure_ (i := 6) (N := (some 72)) (v := ?_) (a' := ?_) #[true, true, true, true, false, false, true, false, false, false, false, false, false, false] rfl rfl (any_of HT_.out (by kernel_rfl)) (fun _ _ _ h => h) (Or.inl ⟨by rfl, ?_⟩) ?_ ?_
          rotate_left
          · intro w'
            go_simp
            with_reducible rfl
          rotate_left
          · simp only [Act.put, List.setIfInBounds_toArray, List.set_cons_zero, List.set_cons_succ, i64_w, i32_w]
            rfl
          refine pure_ (i := 7) (N := (some 73)) (v := ?_) (a' := ?_) #[true, true, true, true, false, false, true, true, false, false, false, false, false, false] rfl rfl (any_of HT_.out (by kernel_rfl)) (fun _ _ _ h => h) (Or.inl ⟨by rfl, ?_⟩) ?_ ?_
          rotate_left
          · intro w'
            go_simp
            with_reducible rfl
          rotate_left
          · simp only [Act.put, List.setIfInBounds_toArray, List.set_cons_zero, List.set_cons_succ, i64_w, i32_w]
            rfl
          refine take_ (i := 4) (N := (some 70)) (v := ?_) (a' := ?_) #[true, true, true, true, true, false, true, true, false, false, false, false, false, false] rfl rfl (take_ofW HT_.out HW_.out (by kernel_rfl)) (fun _ _ _ h => h) (Or.inl ⟨by rfl, ?_⟩) hHeld ?_ ?_
          rotate_left
          · rintro w' ⟨s0, s1, s2⟩
            go_simp
            with_reducible rfl
          rotate_left
          · simp only [Act.put, List.setIfInBounds_toArray, List.set_cons_zero, List.set_cons_succ, i64_w, i32_w]
            rfl
          refine take_ (i := 5) (N := (some 71)) (v := ?_) (a' := ?_) #[true, true, true, true, true, true, true, true, false, false, false, false, false, false] rfl rfl (take_ofW HT_.out HW_.out (by kernel_rfl)) (fun _ _ _ h => h) (Or.inl ⟨by rfl, ?_⟩) hHeld ?_ ?_
          rotate_left
          · rintro w' ⟨s0, s1, s2⟩
            go_simp
            with_reducible rfl
          rotate_left
          · simp only [Act.put, List.setIfInBounds_toArray, List.set_cons_zero, List.set_cons_succ, i64_w, i32_w]
            rfl
          refine pure_ (i := 8) (N := (some 74)) (v := ?_) (a' := ?_) #[true, true, true, true, true, true, true, true, true, false, false, false, false, false] rfl rfl (any_of HT_.out (by kernel_rfl)) (fun _ _ _ h => h) (Or.inl ⟨by rfl, ?_⟩) ?_ ?_
          rotate_left
          · intro w'
            go_simp
            with_reducible rfl
          rotate_left
          · simp only [Act.put, List.setIfInBounds_toArray, List.set_cons_zero, List.set_cons_succ, i64_w, i32_w]
            rfl
          refine one_ (i := 9) (N := (some 75)) #[true, true, true, true, true, true, true, true, true, true, false, false, false, false] rfl rfl (one_of HT_.out (by kernel_rfl)) (by decide) (fun K hK => ?_)
          refine value_ (by rfl) rfl (v := .slice (some ⟨w9.heap.size, 0, none⟩) 1 1) (w1 := w9.alloc (.cells (clA ⟨e, (k : Int), clkN (gOf l) k, -1⟩) 103)) (by go_simp <;> rfl) ?_
          refine hK.out _ _ (HR9.out.alloc _).cells (fun hHeld => ?_)
          clear hK K
          refine norm_ (a' := ?_) ?_ ?_
          rotate_left
          · show Act.put _ (some 75) _ = _
            simp only [Act.put, List.setIfInBounds_toArray, List.set_cons_zero, List.set_cons_succ, i64_w, i32_w]
            rfl
          refine one_ (i := 10) (N := (some 76)) #[true, true, true, true, true, true, true, true, true, true, true, false, false, false] rfl rfl (one_of HT_.out (by kernel_rfl)) (by decide) (fun K hK => ?_)
          refine if_wp rfl ?_
          refine RowIs.append_wp 94 120 _ _ _ Try.underlying94 cl_info rfl (by decide) rfl HR9.out.rd.st.rc ⟨e, (k : Int), clkN (gOf l) k, -1⟩ rfl (by simp [Value.oneCell']) (by rfl) (by rfl) HLC.out (by decide) HR9.out.rd.below.size ?_
          intro gc capc w10 hown hgrow hat
          have HP9 := Aside0.mk ((HR9.out.alloc _).app_c hown hgrow)
          clear hown hgrow hat
          refine hK.out _ _ HP9.out.1 (fun hHeld => ?_)
          clear hK K
          refine norm_ (a' := ?_) ?_ ?_
          rotate_left
          · show Act.put _ (some 76) _ = _
            simp only [Act.put, List.setIfInBounds_toArray, List.set_cons_zero, List.set_cons_succ, i64_w, i32_w]
            rfl
          refine pure_ (i := 11) (N := (some 77)) (v := ?_) (a' := ?_) #[true, true, true, true, true, true, true, true, true, true, true, true, false, false] rfl rfl (any_of HT_.out (by kernel_rfl)) (fun _ _ _ h => h) (Or.inl ⟨by rfl, ?_⟩) ?_ ?_
          rotate_left
          · intro w'
            go_simp
            with_reducible rfl
          rotate_left
          · simp only [Act.put, List.setIfInBounds_toArray, List.set_cons_zero, List.set_cons_succ, i64_w, i32_w]
            rfl
          refine pure_ (i := 12) (N := (some 78)) (v := ?_) (a' := ?_) #[true, true, true, true, true, true, true, true, true, true, true, true, true, false] rfl rfl (any_of HT_.out (by kernel_rfl)) (fun _ _ _ h => h) (Or.inl ⟨by rfl, ?_⟩) ?_ ?_
          rotate_left
          · intro w'
            go_simp
            with_reducible rfl
          rotate_left
          · simp only [Act.put, List.setIfInBounds_toArray, List.set_cons_zero, List.set_cons_succ, i64_w, i32_w]
            rfl
          refine last_ (i := 13) (N := none) #[true, true, true, true, true, true, true, true, true, true, true, true, true, true] rfl rfl (one_of HT_.out (by kernel_rfl)) (by decide) (fun K hK => ?_)
          refine skip_ (by rfl) rfl (w1 := w10.setCell ⟨b, 3, none⟩ (.slice (some ⟨gc, 0, none⟩) (s.calls.length + 1) capc)) (by have q1 := hHeld.1 3; have q2 := hHeld.2.2 3; go_simp) ?_
          refine hK.out _ _ ?_
          clear hK K
          refine done_ (done_of HT_.out (by kernel_rfl)) ?_
          go_wp2
          go_roundw
          case rel => exact ⟨k + 1, by omega, by first | rw [hnn] | simp, by rw [HCK.out], ⟨_, _, _, HF.out ▸ HP9.out.2⟩⟩
          case measure => first | (rw [hnn]; simp [intOf]; omega) | (simp [intOf]; omega)
        · have z1 : (e.k == 1) = false := beq_eq_false_iff_ne.2 (by omega)
          have z2 : (e.k == 2) = false := beq_eq_false_iff_ne.2 (by omega)
          have z5 : (e.k == 5) = false := beq_eq_false_iff_ne.2 (by omega)
          have HF := Aside0.mk (HST.out.trans (step_turn (.inl hk34)))
          have HCK := Aside0.mk (show clkN (gOf l) (k + 1) = clkN (gOf l) k from clk_not (by rw [HCG.out]; omega))
          have CT := Aside0.mk (turn_any (s := { s with l := s.l ++ [e] }) k e w7 HR7.out.rd.st (keyH e.hn e.hg HW.out.2.1 HW.out.2.2.1) (keyH e.nn e.ng HW.out.2.2.2.1 HW.out.2.2.2.2) (by have := HN.out; omega) HLV.out HAT.out (by omega))
          clear hk34
          go_wp2_with (go_at_call 84; (with_reducible refine CT.out.mono ?_); rintro r w8 ⟨rfl, vv8, hS8, hF8⟩; have HR8 := Aside0.mk (show Rd w w8 b m1 m2 (k + 1) _ _ _ _ from ⟨hS8, HR7.out.rd.below.trans (hF8.below HR7.out.rd.below.size (by rintro g (q | q | q); (rw [q]; exact HR7.out.rd.st.hb); (rw [q]; exact HR7.out.rd.st.h1); exact (HR7.out.rd.st.rv.lt g q.symm).1))⟩); clear hS8 hF8)
          go_roundw
          case rel => exact ⟨k + 1, by omega, by first | rw [hnn] | simp, by rw [HCK.out], ⟨_, _, _, HF.out ▸ HR8.out⟩⟩
          case measure => first | (rw [hnn]; simp [intOf]; omega) | (simp [intOf]; omega)
        · have z1 : (e.k == 1) = false := beq_eq_false_iff_ne.2 (by omega)
          have z2 : (e.k == 2) = false := beq_eq_false_iff_ne.2 (by omega)
          have z5 : (e.k == 5) = false := beq_eq_false_iff_ne.2 (by omega)
          have HF := Aside0.mk (HST.out.trans (step_turn (.inr hk34)))
          have HCK := Aside0.mk (show clkN (gOf l) (k + 1) = clkN (gOf l) k from clk_not (by rw [HCG.out]; omega))
          have CT := Aside0.mk (turn_any (s := { s with l := s.l ++ [e] }) k e w7 HR7.out.rd.st (keyH e.hn e.hg HW.out.2.1 HW.out.2.2.1) (keyH e.nn e.ng HW.out.2.2.2.1 HW.out.2.2.2.2) (by have := HN.out; omega) HLV.out HAT.out (by omega))
          clear hk34
          go_wp2_with (go_at_call 84; (with_reducible refine CT.out.mono ?_); rintro r w8 ⟨rfl, vv8, hS8, hF8⟩; have HR8 := Aside0.mk (show Rd w w8 b m1 m2 (k + 1) _ _ _ _ from ⟨hS8, HR7.out.rd.below.trans (hF8.below HR7.out.rd.below.size (by rintro g (q | q | q); (rw [q]; exact HR7.out.rd.st.hb); (rw [q]; exact HR7.out.rd.st.h1); exact (HR7.out.rd.st.rv.lt g q.symm).1))⟩); clear hS8 hF8)
          go_roundw
          case rel => exact ⟨k + 1, by omega, by first | rw [hnn] | simp, by rw [HCK.out], ⟨_, _, _, HF.out ▸ HR8.out⟩⟩
          case measure => first | (rw [hnn]; simp [intOf]; omega) | (simp [intOf]; omega)
        · have z1 : (e.k == 1) = false := beq_eq_false_iff_ne.2 (by omega)
          have z2 : (e.k == 2) = false := beq_eq_false_iff_ne.2 (by omega)
          have z5 : (e.k == 5) = true := beq_iff_eq.2 (by omega)
          have HCK := Aside0.mk (show clkN (gOf l) (k + 1) = clkN (gOf l) k from clk_not (by rw [HCG.out]; omega))
          have hl0 := fun q => HR7.out.look HW.out.1 (w7.drewN q) rfl
          cases ho : s.opn e.wk with
          | none =>
            have HF := Aside0.mk (HST.out.trans ((step_five hk5).trans (back_none ho)))
            simp only [ho, Option.map_none, Option.getD_none, Option.isSome_none] at hl0
            clear hk5 ho
            go_wp2
            go_quiet (fail)
            go_wp2
            go_quiet (fail)
            go_wp2
            go_roundw
            case rel => exact ⟨k + 1, by omega, by first | rw [hnn] | simp, by rw [HCK.out], ⟨_, _, _, HF.out ▸ ((HR7.out.drewN _).rd.up (Nat.le_succ k))⟩⟩
            case measure => first | (rw [hnn]; simp [intOf]; omega) | (simp [intOf]; omega)
          | some j =>
            obtain ⟨q, hq⟩ := HOP.out e.wk j ho
            simp only [ho, Option.map_some, Option.getD_some, Option.isSome_some] at hl0
            obtain ⟨g5, c5, hv5, hcp, hgl, hcell⟩ := HR7.out.rd.st.rc.at_ (fun _ => rfl) hq
            injection hv5 with hv1 hv2 hv3
            subst hv1
            have hjl : j < s.calls.length := (List.getElem?_eq_some_iff.1 hq).1
            have p0j := eq_true (show (0 : Int) ≤ (j : Int) by omega)
            have p1j := eq_true (show (j : Int) < (s.calls.length : Int) by omega)
            have d2 := hcell 2 (by decide)
            have d14 := hcell 14 (by decide)
            clear hcell hv2 hcp hjl
            by_cases hop : q.e.op = e.op
            · have yo : (q.e.op == e.op) = true := beq_iff_eq.2 hop
              by_cases hen : q.en < 0
              · have ye : decide (q.en < 0) = true := decide_eq_true hen
                have HF := Aside0.mk (HST.out.trans ((step_five hk5).trans (back_set ho hq ⟨hop, hen⟩)))
                obtain ⟨cur, hcur⟩ := HR7.out.rd.st.rc.own (show (Value.slice (some ⟨g5, 0, none⟩) s.calls.length c3).ownBlock = some g5 from rfl)
                have fz := blk_frozen hcur (j * 15 + 14)
                have HQ := Aside0.mk hq
                clear hk5 ho hop hen hcur hq
                go_wp2
                go_quiet (fail)
                go_wp2
                go_quiet (fail)
                go_wp2
                go_roundw
                case rel => exact ⟨k + 1, by omega, by first | rw [hnn] | simp, by rw [HCK.out], ⟨_, _, _, HF.out ▸ (((HR7.out.drewN _).rd.put_c (k : Int) HQ.out).up (Nat.le_succ k))⟩⟩
                case measure => first | (rw [hnn]; simp [intOf]; omega) | (simp [intOf]; omega)
              · have ye : decide (q.en < 0) = false := decide_eq_false hen
                have HF := Aside0.mk (HST.out.trans ((step_five hk5).trans (back_keep ho hq (fun z => hen z.2))))
                clear hk5 ho hop hen hq
                go_wp2
                go_quiet (fail)
                go_wp2
                go_quiet (fail)
                go_wp2
                go_roundw
                case rel => exact ⟨k + 1, by omega, by first | rw [hnn] | simp, by rw [HCK.out], ⟨_, _, _, HF.out ▸ ((HR7.out.drewN _).rd.up (Nat.le_succ k))⟩⟩
                case measure => first | (rw [hnn]; simp [intOf]; omega) | (simp [intOf]; omega)
            · have yo : (q.e.op == e.op) = false := beq_eq_false_iff_ne.2 hop
              have HF := Aside0.mk (HST.out.trans ((step_five hk5).trans (back_keep ho hq (fun z => hop z.1))))
              clear hk5 ho hop hq
              go_wp2
              go_quiet (fail)
              go_wp2
              go_quiet (fail)
              go_wp2
              go_roundw
              case rel => exact ⟨k + 1, by omega, by first | rw [hnn] | simp, by rw [HCK.out], ⟨_, _, _, HF.out ▸ ((HR7.out.drewN _).rd.up (Nat.le_succ k))⟩⟩
              case measure => first | (rw [hnn]; simp [intOf]; omega) | (simp [intOf]; omega)
    · have q0 : ((k : Int) < (l.length : Int)) = False := eq_false (by omega)
      have hkl : k = l.length := by omega
      subst hkl
      obtain ⟨vl, vv, vc, hS⟩ := HS.out
      have HSS := Aside0.mk hS
      clear hS HS
      go_wp2
      go_ret
      exact ⟨b, m1, m2, vl, vv, vc, rfl, HSS.out.st, HSS.out.below⟩
end Go.Proofs.Ythniclbmpeklmaa.Au
end
section
namespace Go.Proofs.Ythniclbmpeklmaa.Au
open Go.RowKit Go.Maps Go.Proofs.YthniclbmpeklmaaW.PrintWords Go.Proofs.YthniclbmpeklmaaW.PrintLast Go.Proofs.YthniclbmpeklmaaW.PrintMore Go.Proofs.Ythniclbmpeklmaa.Mp
set_option linter.unusedVariables false
set_option linter.unusedSimpArgs false
theorem two_alloc (w : World) (o o' : Obj) : ((w.alloc o).alloc o').heap[w.heap.size + 1]? = some o' := by simpa using blk_new (w.alloc o) o'
set_option maxHeartbeats 4000000 in
set_option maxRecDepth 100000 in
theorem early_none {B b n m1 m2 sb : Nat} {s : Story} {vl vv vc : Value} (i : Nat) (e : Ev) (w : World) (hB : StIs w B b n s vl vv vc m1 m2) (hsb : w.heap[sb]? = some (.cells #[.pointer (some ⟨b, 0, none⟩)] 87 (0, 0))) (hw : ∃ kl, keyOf Try.prog 34 (haV (e.hn, e.hg)) = some kl) (hi : i ≤ 1000000) (ha : s.at_ e.h = none) :
    Calls Try.prog 51 #[.int .i64 (i : Int), .agg (evA e), .pointer (some ⟨sb, 0, none⟩)] w fun r w' => r = .returned (.bool true) ∧ Below w.heap.size w w' := by
  have hu97 := Try.underlying97
  have hu54 := Try.underlying54
  have hu34 := Try.underlying34
  have hu99 := Try.underlying99
  obtain ⟨kl, hkl⟩ := hw
  obtain ⟨z, hz, hm⟩ := hB.ma
  have hl0 := fun q => look_at hm hkl ((w.alloc (.cells (evA e) 54)).drewN q) (Below.heap_alloc w _ m1 hm.lt)
  rw [show (e.hn, e.hg) = e.h from rfl, ha] at hl0
  simp only [Option.map_none, Option.getD_none, Option.isSome_none, Option.map_some, Option.getD_some, Option.isSome_some] at hl0
  have hlt := hB.lt
  have hls := blk_lt hsb
  have hc := fun i => hB.cell i
  have hcs := fun i => blk_cell hsb i
  clear hB hsb hm hz hkl ha hi
  go_enter Try.func51, Try.ntmps51
  go_wp2
  go_quiet (fail)
  go_wp2
  go_quiet (fail)
  go_wp2
  go_ret
  exact ⟨rfl, by repeat (first | exact Below.refl _ _ | apply below_alloc | apply pw_below_drewN)⟩
set_option maxHeartbeats 4000000 in
set_option maxRecDepth 100000 in
theorem early_late {B b n m1 m2 sb : Nat} {s : Story} {vl vv vc : Value} (i : Nat) (e : Ev) (w : World) (hB : StIs w B b n s vl vv vc m1 m2) (hsb : w.heap[sb]? = some (.cells #[.pointer (some ⟨b, 0, none⟩)] 87 (0, 0))) (hw : ∃ kl, keyOf Try.prog 34 (haV (e.hn, e.hg)) = some kl) (hi : i ≤ 1000000) (k : Nat) (x : Life) (ha : s.at_ e.h = some k) (hx : s.lives[k]? = some x) (h1 : x.made > i) :
    Calls Try.prog 51 #[.int .i64 (i : Int), .agg (evA e), .pointer (some ⟨sb, 0, none⟩)] w fun r w' => r = .returned (.bool true) ∧ Below w.heap.size w w' := by
  have hu97 := Try.underlying97
  have hu54 := Try.underlying54
  have hu34 := Try.underlying34
  have hu99 := Try.underlying99
  obtain ⟨kl, hkl⟩ := hw
  obtain ⟨z, hz, hm⟩ := hB.ma
  have hl0 := fun q => look_at hm hkl ((w.alloc (.cells (evA e) 54)).drewN q) (Below.heap_alloc w _ m1 hm.lt)
  rw [show (e.hn, e.hg) = e.h from rfl, ha] at hl0
  simp only [Option.map_none, Option.getD_none, Option.isSome_none, Option.map_some, Option.getD_some, Option.isSome_some] at hl0
  obtain ⟨g, cp, rfl, hcp, hgl, hcell⟩ := hB.rv.at_ (fun _ => rfl) hx
  have hkl2 : k < s.lives.length := (List.getElem?_eq_some_iff.1 hx).1
  have p0 := eq_true (show (0 : Int) ≤ (k : Int) by omega)
  have p1 := eq_true (show (k : Int) < (s.lives.length : Int) by omega)
  have d2 := hcell 2 (by decide)
  have d5 := hcell 5 (by decide)
  clear hcell hkl2 hcp
  have g1 : decide (x.made > (i : Int)) = true := decide_eq_true h1
  have hlt := hB.lt
  have hls := blk_lt hsb
  have hc := fun i => hB.cell i
  have hcs := fun i => blk_cell hsb i
  clear hB hsb hm hz hkl ha hi hx h1
  go_enter Try.func51, Try.ntmps51
  go_wp2
  go_quiet (fail)
  go_wp2
  go_quiet (fail)
  go_wp2
  go_ret
  exact ⟨rfl, by repeat (first | exact Below.refl _ _ | apply below_alloc | apply pw_below_drewN)⟩
set_option maxHeartbeats 4000000 in
set_option maxRecDepth 100000 in
theorem early_due {B b n m1 m2 sb : Nat} {s : Story} {vl vv vc : Value} (i : Nat) (e : Ev) (w : World) (hB : StIs w B b n s vl vv vc m1 m2) (hsb : w.heap[sb]? = some (.cells #[.pointer (some ⟨b, 0, none⟩)] 87 (0, 0))) (hw : ∃ kl, keyOf Try.prog 34 (haV (e.hn, e.hg)) = some kl) (hi : i ≤ 1000000) (k : Nat) (x : Life) (ha : s.at_ e.h = some k) (hx : s.lives[k]? = some x) (h1 : ¬ x.made > i) (h2 : x.dl > e.t) :
    Calls Try.prog 51 #[.int .i64 (i : Int), .agg (evA e), .pointer (some ⟨sb, 0, none⟩)] w fun r w' => r = .returned (.bool true) ∧ Below w.heap.size w w' := by
  have hu97 := Try.underlying97
  have hu54 := Try.underlying54
  have hu34 := Try.underlying34
  have hu99 := Try.underlying99
  obtain ⟨kl, hkl⟩ := hw
  obtain ⟨z, hz, hm⟩ := hB.ma
  have hl0 := fun q => look_at hm hkl ((w.alloc (.cells (evA e) 54)).drewN q) (Below.heap_alloc w _ m1 hm.lt)
  rw [show (e.hn, e.hg) = e.h from rfl, ha] at hl0
  simp only [Option.map_none, Option.getD_none, Option.isSome_none, Option.map_some, Option.getD_some, Option.isSome_some] at hl0
  obtain ⟨g, cp, rfl, hcp, hgl, hcell⟩ := hB.rv.at_ (fun _ => rfl) hx
  have hkl2 : k < s.lives.length := (List.getElem?_eq_some_iff.1 hx).1
  have p0 := eq_true (show (0 : Int) ≤ (k : Int) by omega)
  have p1 := eq_true (show (k : Int) < (s.lives.length : Int) by omega)
  have d2 := hcell 2 (by decide)
  have d5 := hcell 5 (by decide)
  clear hcell hkl2 hcp
  have g1 : decide (x.made > (i : Int)) = false := decide_eq_false h1
  have g2 : decide (x.dl > e.t) = true := decide_eq_true h2
  have hlt := hB.lt
  have hls := blk_lt hsb
  have hc := fun i => hB.cell i
  have hcs := fun i => blk_cell hsb i
  clear hB hsb hm hz hkl ha hi hx h1 h2
  go_enter Try.func51, Try.ntmps51
  go_wp2
  go_quiet (fail)
  go_wp2
  go_quiet (fail)
  go_wp2
  go_ret
  exact ⟨rfl, by repeat (first | exact Below.refl _ _ | apply below_alloc | apply pw_below_drewN)⟩
set_option maxHeartbeats 4000000 in
set_option maxRecDepth 100000 in
theorem early_fine {B b n m1 m2 sb : Nat} {s : Story} {vl vv vc : Value} (i : Nat) (e : Ev) (w : World) (hB : StIs w B b n s vl vv vc m1 m2) (hsb : w.heap[sb]? = some (.cells #[.pointer (some ⟨b, 0, none⟩)] 87 (0, 0))) (hw : ∃ kl, keyOf Try.prog 34 (haV (e.hn, e.hg)) = some kl) (hi : i ≤ 1000000) (k : Nat) (x : Life) (ha : s.at_ e.h = some k) (hx : s.lives[k]? = some x) (h1 : ¬ x.made > i) (h2 : ¬ x.dl > e.t) :
    Calls Try.prog 51 #[.int .i64 (i : Int), .agg (evA e), .pointer (some ⟨sb, 0, none⟩)] w fun r w' => r = .returned (.bool false) ∧ Below w.heap.size w w' := by
  have hu97 := Try.underlying97
  have hu54 := Try.underlying54
  have hu34 := Try.underlying34
  have hu99 := Try.underlying99
  obtain ⟨kl, hkl⟩ := hw
  obtain ⟨z, hz, hm⟩ := hB.ma
  have hl0 := fun q => look_at hm hkl ((w.alloc (.cells (evA e) 54)).drewN q) (Below.heap_alloc w _ m1 hm.lt)
  rw [show (e.hn, e.hg) = e.h from rfl, ha] at hl0
  simp only [Option.map_none, Option.getD_none, Option.isSome_none, Option.map_some, Option.getD_some, Option.isSome_some] at hl0
  obtain ⟨g, cp, rfl, hcp, hgl, hcell⟩ := hB.rv.at_ (fun _ => rfl) hx
  have hkl2 : k < s.lives.length := (List.getElem?_eq_some_iff.1 hx).1
  have p0 := eq_true (show (0 : Int) ≤ (k : Int) by omega)
  have p1 := eq_true (show (k : Int) < (s.lives.length : Int) by omega)
  have d2 := hcell 2 (by decide)
  have d5 := hcell 5 (by decide)
  clear hcell hkl2 hcp
  have g1 : decide (x.made > (i : Int)) = false := decide_eq_false h1
  have g2 : decide (x.dl > e.t) = false := decide_eq_false h2
  have hlt := hB.lt
  have hls := blk_lt hsb
  have hc := fun i => hB.cell i
  have hcs := fun i => blk_cell hsb i
  clear hB hsb hm hz hkl ha hi hx h1 h2
  go_enter Try.func51, Try.ntmps51
  go_wp2
  go_quiet (fail)
  go_wp2
  go_quiet (fail)
  go_wp2
  go_ret
  exact ⟨rfl, by repeat (first | exact Below.refl _ _ | apply below_alloc | apply pw_below_drewN)⟩
theorem early_any {B b n m1 m2 sb : Nat} {s : Story} {vl vv vc : Value} (i : Nat) (e : Ev) (w : World) (hB : StIs w B b n s vl vv vc m1 m2) (hsb : w.heap[sb]? = some (.cells #[.pointer (some ⟨b, 0, none⟩)] 87 (0, 0))) (hw : ∃ kl, keyOf Try.prog 34 (haV (e.hn, e.hg)) = some kl) (hi : i ≤ 1000000) (hv : ∀ h j, s.at_ h = some j → ∃ x, s.lives[j]? = some x) :
    Calls Try.prog 51 #[.int .i64 (i : Int), .agg (evA e), .pointer (some ⟨sb, 0, none⟩)] w fun r w' => r = .returned (.bool (earlyC s i e)) ∧ Below w.heap.size w w' := by
  unfold earlyC
  cases ha : s.at_ e.h with
  | none => exact early_none i e w hB hsb hw hi ha
  | some k =>
    obtain ⟨x, hx⟩ := hv _ k ha
    simp only [hx]
    by_cases h1 : x.made > i
    · rw [decide_eq_true h1]; exact early_late i e w hB hsb hw hi k x ha hx h1
    · rw [decide_eq_false h1]
      by_cases h2 : x.dl > e.t
      · rw [decide_eq_true h2]; exact early_due i e w hB hsb hw hi k x ha hx h1 h2
      · rw [decide_eq_false h2]; exact early_fine i e w hB hsb hw hi k x ha hx h1 h2
/-- An event's cells somewhere. -/
def EvRow (w : World) (g o : Nat) (e : Ev) : Prop := w.cell? ⟨g, o, none⟩ = some (.int .i64 e.k) ∧ w.cell? ⟨g, o + 1, none⟩ = some (.int .i64 e.wk) ∧ w.cell? ⟨g, o + 2, none⟩ = some (.int .i64 e.op) ∧ w.cell? ⟨g, o + 3, none⟩ = some (.int .i64 e.hn) ∧ w.cell? ⟨g, o + 4, none⟩ = some (.int .i64 e.hg) ∧ w.cell? ⟨g, o + 5, none⟩ = some (.int .i64 e.nn) ∧ w.cell? ⟨g, o + 6, none⟩ = some (.int .i64 e.ng) ∧ w.cell? ⟨g, o + 7, none⟩ = some (.int .i64 e.t) ∧ w.cell? ⟨g, o + 8, none⟩ = some (.int .i64 e.a) ∧ w.cell? ⟨g, o + 9, none⟩ = some (.int .i64 e.u) ∧ w.cell? ⟨g, o + 10, none⟩ = some (.bool e.y) ∧ w.cell? ⟨g, o + 11, none⟩ = some (.int .i64 e.er)
theorem EvRow.below {w w1 : World} {g o : Nat} {e : Ev} (h : EvRow w g o e) (hb : Below w.heap.size w w1) : EvRow w1 g o e := by
  obtain ⟨h0, h1, h2, h3, h4, h5, h6, h7, h8, h9, h10, h11⟩ := h
  exact ⟨pw_cell_below hb h0, pw_cell_below hb h1, pw_cell_below hb h2, pw_cell_below hb h3, pw_cell_below hb h4, pw_cell_below hb h5, pw_cell_below hb h6, pw_cell_below hb h7, pw_cell_below hb h8, pw_cell_below hb h9, pw_cell_below hb h10, pw_cell_below hb h11⟩
/-- What the region of Wrong's inner closure reads. -/
def S55 (w : World) (b sb qb g o : Nat) (vl vv vc : Value) (m1 m2 : Nat) (q : Cl) (e : Ev) : Prop := (∀ i, w.cell? ⟨b, i, none⟩ = (stA vl vv vc m1 m2)[i]?) ∧ (∀ i, w.cell? ⟨sb, i, none⟩ = (#[.pointer (some ⟨b, 0, none⟩)] : Array Value)[i]?) ∧ (∀ i, w.cell? ⟨qb, i, none⟩ = (clA q)[i]?) ∧ EvRow w g o e
theorem lt_some {w : World} {b : Nat} {cs : Array Value} (h : ∀ i, w.cell? ⟨b, i, none⟩ = cs[i]?) (h0 : 0 < cs.size) : b < w.heap.size := by
  have h1 := h 0
  rw [Array.getElem?_eq_getElem h0] at h1
  exact World.block_lt_of_cell? w _ h1
theorem S55.below {w w1 : World} {b sb qb g o : Nat} {vl vv vc : Value} {m1 m2 : Nat} {q : Cl} {e : Ev} (h : S55 w b sb qb g o vl vv vc m1 m2 q e) (hb : Below w.heap.size w w1) : S55 w1 b sb qb g o vl vv vc m1 m2 q e :=
  ⟨fun i => (hb.cell (p := ⟨b, i, none⟩) (lt_some h.1 (by simp))).trans (h.1 i), fun i => (hb.cell (p := ⟨sb, i, none⟩) (lt_some h.2.1 (by simp))).trans (h.2.1 i), fun i => (hb.cell (p := ⟨qb, i, none⟩) (lt_some h.2.2.1 (by simp))).trans (h.2.2.1 i), h.2.2.2.below hb⟩
attribute [local go_sem high] Ev.eqHa
def wrongR.T3 : Bool × List (List Nat × List Nat) := (true, [([], []), ([0], [0]), ([1], [1]), ([2], [2]), ([], []), ([4], [4]), ([3, 5], [3, 5]), ([6], [6]), ([], []), ([8, 7, 0, 1, 2, 3, 4, 5, 6, 7, 8], [7, 8])])
def wrongR.B3 : List Nat := [0, 1, 3, 7, 0, 16, 63, 127, 0, 511]
theorem wrongR.tab3 : rtab .any (opsOf Try.f55 3) = wrongR.T3 := by kernel_rfl
theorem wrongR.bits3 : waitsOk wrongR.T3.2 wrongR.B3 = true := by kernel_rfl
set_option maxHeartbeats 4000000 in
set_option maxRecDepth 100000 in
theorem wrong1_open {B b n m1 m2 sb ib eb : Nat} {s : Story} {vl vv vc : Value} (i : Nat) (e qe : Ev) (qb qc qn : Int) (w : World) (hB : StIs w B b n s vl vv vc m1 m2) (hsb : w.heap[sb]? = some (.cells #[.pointer (some ⟨b, 0, none⟩)] 87 (0, 0))) (hib : w.heap[ib]? = some (.cells #[.int .i64 (i : Int)] 3 (0, 0))) (heb : w.heap[eb]? = some (.cells (evA e) 54 (0, 0))) (h1 : qn < 0) :
    Calls Try.prog 55 #[.agg (clA ⟨qe, qb, qc, qn⟩), .pointer (some ⟨ib, 0, none⟩), .pointer (some ⟨eb, 0, none⟩), .pointer (some ⟨sb, 0, none⟩)] w fun r w' => r = .returned (.bool (false)) ∧ Below w.heap.size w w' := by
  have hu97 := Try.underlying97
  have hu54 := Try.underlying54
  have hu34 := Try.underlying34
  have hu103 := Try.underlying103
  have g1 : decide (qn < 0) = true := decide_eq_true (by omega)
  have hlt := hB.lt
  have hls := blk_lt hsb
  have hli := blk_lt hib
  have hle := blk_lt heb
  have hc := fun i => hB.cell i
  have hcs := fun i => blk_cell hsb i
  have hci := fun i => blk_cell hib i
  have hce := fun i => blk_cell heb i
  clear hB hsb hib heb h1
  go_enter Try.func55, Try.ntmps55
  go_wp2
  go_ret
  exact ⟨rfl, by repeat (first | exact Below.refl _ _ | apply below_alloc | apply pw_below_drewN)⟩
set_option maxHeartbeats 4000000 in
set_option maxRecDepth 100000 in
theorem wrong1_later {B b n m1 m2 sb ib eb : Nat} {s : Story} {vl vv vc : Value} (i : Nat) (e qe : Ev) (qb qc qn : Int) (w : World) (hB : StIs w B b n s vl vv vc m1 m2) (hsb : w.heap[sb]? = some (.cells #[.pointer (some ⟨b, 0, none⟩)] 87 (0, 0))) (hib : w.heap[ib]? = some (.cells #[.int .i64 (i : Int)] 3 (0, 0))) (heb : w.heap[eb]? = some (.cells (evA e) 54 (0, 0))) (h1 : ¬ qn < 0) (h2 : qn > (i : Int)) :
    Calls Try.prog 55 #[.agg (clA ⟨qe, qb, qc, qn⟩), .pointer (some ⟨ib, 0, none⟩), .pointer (some ⟨eb, 0, none⟩), .pointer (some ⟨sb, 0, none⟩)] w fun r w' => r = .returned (.bool (false)) ∧ Below w.heap.size w w' := by
  have hu97 := Try.underlying97
  have hu54 := Try.underlying54
  have hu34 := Try.underlying34
  have hu103 := Try.underlying103
  have g1 : decide (qn < 0) = false := decide_eq_false (by omega)
  have g2 : decide (qn > (i : Int)) = true := decide_eq_true (by omega)
  have hlt := hB.lt
  have hls := blk_lt hsb
  have hli := blk_lt hib
  have hle := blk_lt heb
  have hc := fun i => hB.cell i
  have hcs := fun i => blk_cell hsb i
  have hci := fun i => blk_cell hib i
  have hce := fun i => blk_cell heb i
  clear hB hsb hib heb h1 h2
  go_enter Try.func55, Try.ntmps55
  go_wp2
  go_ret
  exact ⟨rfl, by repeat (first | exact Below.refl _ _ | apply below_alloc | apply pw_below_drewN)⟩
set_option maxHeartbeats 4000000 in
set_option maxRecDepth 100000 in
theorem wrong1_other1 {B b n m1 m2 sb ib eb : Nat} {s : Story} {vl vv vc : Value} (i : Nat) (e qe : Ev) (qb qc qn : Int) (w : World) (hB : StIs w B b n s vl vv vc m1 m2) (hsb : w.heap[sb]? = some (.cells #[.pointer (some ⟨b, 0, none⟩)] 87 (0, 0))) (hib : w.heap[ib]? = some (.cells #[.int .i64 (i : Int)] 3 (0, 0))) (heb : w.heap[eb]? = some (.cells (evA e) 54 (0, 0))) (h1 : ¬ qn < 0) (h2 : ¬ qn > (i : Int)) (h3 : ¬ qe.hn = e.hn) :
    Calls Try.prog 55 #[.agg (clA ⟨qe, qb, qc, qn⟩), .pointer (some ⟨ib, 0, none⟩), .pointer (some ⟨eb, 0, none⟩), .pointer (some ⟨sb, 0, none⟩)] w fun r w' => r = .returned (.bool (false)) ∧ Below w.heap.size w w' := by
  have hu97 := Try.underlying97
  have hu54 := Try.underlying54
  have hu34 := Try.underlying34
  have hu103 := Try.underlying103
  have g1 : decide (qn < 0) = false := decide_eq_false (by omega)
  have g2 : decide (qn > (i : Int)) = false := decide_eq_false (by omega)
  have g3 : (qe.hn == e.hn) = false := beq_eq_false_iff_ne.2 h3
  have hlt := hB.lt
  have hls := blk_lt hsb
  have hli := blk_lt hib
  have hle := blk_lt heb
  have hc := fun i => hB.cell i
  have hcs := fun i => blk_cell hsb i
  have hci := fun i => blk_cell hib i
  have hce := fun i => blk_cell heb i
  clear hB hsb hib heb h1 h2 h3
  go_enter Try.func55, Try.ntmps55
  go_wp2
  go_ret
  exact ⟨rfl, by repeat (first | exact Below.refl _ _ | apply below_alloc | apply pw_below_drewN)⟩
set_option maxHeartbeats 4000000 in
set_option maxRecDepth 100000 in
theorem wrong1_other2 {B b n m1 m2 sb ib eb : Nat} {s : Story} {vl vv vc : Value} (i : Nat) (e qe : Ev) (qb qc qn : Int) (w : World) (hB : StIs w B b n s vl vv vc m1 m2) (hsb : w.heap[sb]? = some (.cells #[.pointer (some ⟨b, 0, none⟩)] 87 (0, 0))) (hib : w.heap[ib]? = some (.cells #[.int .i64 (i : Int)] 3 (0, 0))) (heb : w.heap[eb]? = some (.cells (evA e) 54 (0, 0))) (h1 : ¬ qn < 0) (h2 : ¬ qn > (i : Int)) (h3 : qe.hn = e.hn) (h4 : ¬ qe.hg = e.hg) :
    Calls Try.prog 55 #[.agg (clA ⟨qe, qb, qc, qn⟩), .pointer (some ⟨ib, 0, none⟩), .pointer (some ⟨eb, 0, none⟩), .pointer (some ⟨sb, 0, none⟩)] w fun r w' => r = .returned (.bool (false)) ∧ Below w.heap.size w w' := by
  have hu97 := Try.underlying97
  have hu54 := Try.underlying54
  have hu34 := Try.underlying34
  have hu103 := Try.underlying103
  have g1 : decide (qn < 0) = false := decide_eq_false (by omega)
  have g2 : decide (qn > (i : Int)) = false := decide_eq_false (by omega)
  have g3 : (qe.hn == e.hn) = true := beq_iff_eq.2 h3
  have g4 : (qe.hg == e.hg) = false := beq_eq_false_iff_ne.2 h4
  have hlt := hB.lt
  have hls := blk_lt hsb
  have hli := blk_lt hib
  have hle := blk_lt heb
  have hc := fun i => hB.cell i
  have hcs := fun i => blk_cell hsb i
  have hci := fun i => blk_cell hib i
  have hce := fun i => blk_cell heb i
  clear hB hsb hib heb h1 h2 h3 h4
  go_enter Try.func55, Try.ntmps55
  go_wp2
  go_ret
  exact ⟨rfl, by repeat (first | exact Below.refl _ _ | apply below_alloc | apply pw_below_drewN)⟩
set_option maxHeartbeats 4000000 in
set_option maxRecDepth 100000 in
theorem wrong1_cancel_y {B b n m1 m2 sb ib eb : Nat} {s : Story} {vl vv vc : Value} (i : Nat) (e qe : Ev) (qb qc : Int) (w : World) (hB : StIs w B b n s vl vv vc m1 m2) (hsb : w.heap[sb]? = some (.cells #[.pointer (some ⟨b, 0, none⟩)] 87 (0, 0))) (hib : w.heap[ib]? = some (.cells #[.int .i64 (i : Int)] 3 (0, 0))) (heb : w.heap[eb]? = some (.cells (evA e) 54 (0, 0))) (ne : Nat) (bk : Ev) (hx : s.l[ne]? = some bk) (h2 : ¬ (ne : Int) > (i : Int)) (h3 : qe.hn = e.hn) (h4 : qe.hg = e.hg) (h5 : qe.op = 2) (h6 : bk.y = true) :
    Calls Try.prog 55 #[.agg (clA ⟨qe, qb, qc, (ne : Int)⟩), .pointer (some ⟨ib, 0, none⟩), .pointer (some ⟨eb, 0, none⟩), .pointer (some ⟨sb, 0, none⟩)] w fun r w' => r = .returned (.bool (overE qe bk)) ∧ Below w.heap.size w w' := by
  have hu97 := Try.underlying97
  have hu54 := Try.underlying54
  have hu34 := Try.underlying34
  have hu103 := Try.underlying103
  have g1 : decide ((ne : Int) < 0) = false := decide_eq_false (by omega)
  have g2 : decide ((ne : Int) > (i : Int)) = false := decide_eq_false (by omega)
  have g2n : decide (i < ne) = false := decide_eq_false (by omega)
  have g3 : (qe.hn == e.hn) = true := beq_iff_eq.2 h3
  have g4 : (qe.hg == e.hg) = true := beq_iff_eq.2 h4
  have o2 : (qe.op == 2) = true := beq_iff_eq.2 (by omega)
  have o3 : (qe.op == 3) = false := beq_eq_false_iff_ne.2 (by omega)
  have H6 := Aside0.mk h6
  clear h6
  have hlt := hB.lt
  have hls := blk_lt hsb
  have hli := blk_lt hib
  have hle := blk_lt heb
  have hc := fun i => hB.cell i
  have hcs := fun i => blk_cell hsb i
  have hci := fun i => blk_cell hib i
  have hce := fun i => blk_cell heb i
  obtain ⟨g, cp, rfl, hcp, hgl, hcell⟩ := hB.rl.at_ (fun _ => rfl) hx
  have hkl := (List.getElem?_eq_some_iff.1 hx).1
  have p0 := eq_true (show (0 : Int) ≤ (ne : Int) by omega)
  have p1 := eq_true (show (ne : Int) < (s.l.length : Int) by omega)
  have d0 := hcell 0 (by decide)
  have d1 := hcell 1 (by decide)
  have d2 := hcell 2 (by decide)
  have d3 := hcell 3 (by decide)
  have d4 := hcell 4 (by decide)
  have d5 := hcell 5 (by decide)
  have d6 := hcell 6 (by decide)
  have d7 := hcell 7 (by decide)
  have d8 := hcell 8 (by decide)
  have d9 := hcell 9 (by decide)
  have d10 := hcell 10 (by decide)
  have d11 := hcell 11 (by decide)
  rw [Nat.add_zero] at d0
  have HB := Aside0.mk hB
  have HSB := Aside0.mk hsb
  clear hB hsb hib heb hcell hcp hkl hx h2 h3 h4 h5
  go_enter Try.func55, Try.ntmps55
  go_upto_region 3 with (fail)
  have HQ := Aside0.mk (blk_new w (.cells (clA ⟨qe, qb, qc, (ne : Int)⟩) 103))
  have HD := Aside0.mk (show EvRow w g (ne * 12) bk from ⟨d0, d1, d2, d3, d4, d5, d6, d7, d8, d9, d10, d11⟩)
  clear d0 d1 d2 d3 d4 d5 d6 d7 d8 d9 d10 d11
  have HS3 := Aside0.mk (show S55 (w.alloc (.cells (clA ⟨qe, qb, qc, (ne : Int)⟩) 103)) b sb w.heap.size g (ne * 12) (.slice (some ⟨g, 0, none⟩) s.l.length cp) vv vc m1 m2 ⟨qe, qb, qc, (ne : Int)⟩ bk from ⟨fun i => (HB.out.alloc _).cell i, fun i => blk_cell (blk_alloc HSB.out _) i, fun i => blk_cell HQ.out i, HD.out.below (below_alloc (Below.refl _ _) _)⟩)
  have HBL := Aside0.mk (below_alloc (Below.refl w.heap.size w) (.cells (clA ⟨qe, qb, qc, (ne : Int)⟩) 103))
  have HQ3 := HQ
  refine start_ (n := 10) (S := (fun w' => S55 w' b sb w.heap.size g (ne * 12) (.slice (some ⟨g, 0, none⟩) s.l.length cp) vv vc m1 m2 ⟨qe, qb, qc, (ne : Int)⟩ bk)) (ds := [9]) #[false, false, false, false, false, false, false, false, false, false] (by kernel_rfl) rfl rfl (HS3.out.below (below_drew (Below.refl _ _))) (fun hHeld => ?_)
  refine with_tabW wrongR.tab3 wrongR.bits3 (fun HT_ HW_ => ?_)
  have HS5 := Aside0.mk (HS3.out.below (below_drew (Below.refl _ _)))
  have HB5 := Aside0.mk (below_drew HBL.out)
  have HQ5 := Aside0.mk (show (w.alloc (.cells (clA ⟨qe, qb, qc, (ne : Int)⟩) 103)).drew.heap[w.heap.size]? = _ from HQ.out)
  generalize (w.alloc (.cells (clA ⟨qe, qb, qc, (ne : Int)⟩) 103)).drew = w3 at HS5 HB5 HQ5 hHeld ⊢
  clear HS3 HBL HQ3 HQ hc hcs hci hce hlt hls hli hle
  refine pure_ (i := 4) (N := (some 28)) (v := ?_) (a' := ?_) #[false, false, false, false, true, false, false, false, false, false] rfl rfl (any_of HT_.out (by kernel_rfl)) (fun _ _ _ h => h) (Or.inl ⟨by rfl, ?_⟩) ?_ ?_
  rotate_left
  · intro w'
    go_simp
    with_reducible rfl
  rotate_left
  · simp only [Act.put, List.setIfInBounds_toArray, List.set_cons_zero, List.set_cons_succ, i64_w, i32_w]
    rfl
  refine take_ (i := 0) (N := (some 24)) (v := ?_) (a' := ?_) #[true, false, false, false, true, false, false, false, false, false] rfl rfl (take_ofW HT_.out HW_.out (by kernel_rfl)) (fun _ _ _ h => h) (Or.inl ⟨by rfl, ?_⟩) hHeld ?_ ?_
  rotate_left
  · rintro w' ⟨s0, s1, s2, t0, t1, t2, t3, t4, t5, t6, t7, t8, t9, t10, t11⟩
    go_simp
    with_reducible rfl
  rotate_left
  · simp only [Act.put, List.setIfInBounds_toArray, List.set_cons_zero, List.set_cons_succ, i64_w, i32_w]
    rfl
  refine pure_ (i := 1) (N := (some 25)) (v := ?_) (a' := ?_) #[true, true, false, false, true, false, false, false, false, false] rfl rfl (any_of HT_.out (by kernel_rfl)) (fun _ _ _ h => h) (Or.inl ⟨by rfl, ?_⟩) ?_ ?_
  rotate_left
  · intro w'
    go_simp
    with_reducible rfl
  rotate_left
  · simp only [Act.put, List.setIfInBounds_toArray, List.set_cons_zero, List.set_cons_succ, i64_w, i32_w]
    rfl
  refine pure_ (i := 2) (N := (some 26)) (v := ?_) (a' := ?_) #[true, true, true, false, true, false, false, false, false, false] rfl rfl (any_of HT_.out (by kernel_rfl)) (fun _ _ _ h => h) (Or.inl ⟨by rfl, ?_⟩) ?_ ?_
  rotate_left
  · intro w'
    go_simp
    with_reducible rfl
  rotate_left
  · simp only [Act.put, List.setIfInBounds_toArray, List.set_cons_zero, List.set_cons_succ, i64_w, i32_w]
    rfl
  refine take_ (i := 3) (N := (some 27)) (v := ?_) (a' := ?_) #[true, true, true, true, true, false, false, false, false, false] rfl rfl (take_ofW HT_.out HW_.out (by kernel_rfl)) (fun _ _ _ h => h) (Or.inl ⟨by rfl, ?_⟩) hHeld ?_ ?_
  rotate_left
  · rintro w' ⟨s0, s1, s2, t0, t1, t2, t3, t4, t5, t6, t7, t8, t9, t10, t11⟩
    go_simp
    with_reducible rfl
  rotate_left
  · simp only [Act.put, List.setIfInBounds_toArray, List.set_cons_zero, List.set_cons_succ, i64_w, i32_w]
    rfl
  refine take_ (i := 5) (N := (some 29)) (v := ?_) (a' := ?_) #[true, true, true, true, true, true, false, false, false, false] rfl rfl (take_ofW HT_.out HW_.out (by kernel_rfl)) (fun _ _ _ h => h) (Or.inl ⟨by rfl, ?_⟩) hHeld ?_ ?_
  rotate_left
  · rintro w' ⟨s0, s1, s2, t0, t1, t2, t3, t4, t5, t6, t7, t8, t9, t10, t11⟩
    go_simp
    with_reducible rfl
  rotate_left
  · simp only [Act.put, List.setIfInBounds_toArray, List.set_cons_zero, List.set_cons_succ, i64_w, i32_w]
    rfl
  refine pure_ (i := 6) (N := (some 30)) (v := ?_) (a' := ?_) #[true, true, true, true, true, true, true, false, false, false] rfl rfl (any_of HT_.out (by kernel_rfl)) (fun _ _ _ h => h) (Or.inl ⟨by rfl, ?_⟩) ?_ ?_
  rotate_left
  · intro w'
    go_simp
    with_reducible rfl
  rotate_left
  · simp only [Act.put, List.setIfInBounds_toArray, List.set_cons_zero, List.set_cons_succ, i64_w, i32_w]
    rfl
  refine take_ (i := 7) (N := (some 31)) (v := ?_) (a' := ?_) #[true, true, true, true, true, true, true, true, false, false] rfl rfl (take_ofW HT_.out HW_.out (by kernel_rfl)) (fun _ _ _ h => h) (Or.inl ⟨by rfl, ?_⟩) hHeld ?_ ?_
  rotate_left
  · rintro w' ⟨s0, s1, s2, t0, t1, t2, t3, t4, t5, t6, t7, t8, t9, t10, t11⟩
    go_simp
    with_reducible rfl
  rotate_left
  · simp only [Act.put, List.setIfInBounds_toArray, List.set_cons_zero, List.set_cons_succ, i64_w, i32_w]
    rfl
  refine one_ (i := 8) (N := (some 6)) #[true, true, true, true, true, true, true, true, true, false] rfl rfl (one_of HT_.out (by kernel_rfl)) (by decide) (fun K hK => ?_)
  refine value_ (by rfl) rfl (v := .pointer (some ⟨w3.heap.size, 0, none⟩)) (w1 := w3.alloc (.cells (evA zeroE) 54)) (by go_simp <;> rfl) ?_
  refine hK.out _ _ (HS5.out.below (below_alloc (Below.refl _ _) _)) (fun hHeld => ?_)
  clear hK K
  refine norm_ (a' := ?_) ?_ ?_
  rotate_left
  · show Act.put _ (some 6) _ = _
    simp only [Act.put, List.setIfInBounds_toArray, List.set_cons_zero, List.set_cons_succ, i64_w, i32_w]
    rfl
  refine last_ (i := 9) (N := none) #[true, true, true, true, true, true, true, true, true, true] rfl rfl (one_of HT_.out (by kernel_rfl)) (by decide) (fun K hK => ?_)
  refine skip_ (by rfl) rfl (w1 := w3.alloc (.cells (evA bk) 54)) (by go_simp <;> rfl) ?_
  refine hK.out _ _ ?_
  clear hK K
  refine done_ (done_of HT_.out (by kernel_rfl)) ?_
  clear hHeld HS5 HT_ HW_
  have hq3 := fun i => blk_cell (blk_alloc HQ5.out (.cells (evA bk) 54)) i
  have hl3 := blk_lt HQ5.out
  try have h6 := H6.out
  go_wp2
  go_ret
  exact ⟨by simp [*, overE], by repeat (first | exact HB5.out | apply below_alloc | apply pw_below_drewN)⟩
set_option maxHeartbeats 4000000 in
set_option maxRecDepth 100000 in
theorem wrong1_cancel_n {B b n m1 m2 sb ib eb : Nat} {s : Story} {vl vv vc : Value} (i : Nat) (e qe : Ev) (qb qc : Int) (w : World) (hB : StIs w B b n s vl vv vc m1 m2) (hsb : w.heap[sb]? = some (.cells #[.pointer (some ⟨b, 0, none⟩)] 87 (0, 0))) (hib : w.heap[ib]? = some (.cells #[.int .i64 (i : Int)] 3 (0, 0))) (heb : w.heap[eb]? = some (.cells (evA e) 54 (0, 0))) (ne : Nat) (bk : Ev) (hx : s.l[ne]? = some bk) (h2 : ¬ (ne : Int) > (i : Int)) (h3 : qe.hn = e.hn) (h4 : qe.hg = e.hg) (h5 : qe.op = 2) (h6 : bk.y = false) :
    Calls Try.prog 55 #[.agg (clA ⟨qe, qb, qc, (ne : Int)⟩), .pointer (some ⟨ib, 0, none⟩), .pointer (some ⟨eb, 0, none⟩), .pointer (some ⟨sb, 0, none⟩)] w fun r w' => r = .returned (.bool (overE qe bk)) ∧ Below w.heap.size w w' := by
  have hu97 := Try.underlying97
  have hu54 := Try.underlying54
  have hu34 := Try.underlying34
  have hu103 := Try.underlying103
  have g1 : decide ((ne : Int) < 0) = false := decide_eq_false (by omega)
  have g2 : decide ((ne : Int) > (i : Int)) = false := decide_eq_false (by omega)
  have g2n : decide (i < ne) = false := decide_eq_false (by omega)
  have g3 : (qe.hn == e.hn) = true := beq_iff_eq.2 h3
  have g4 : (qe.hg == e.hg) = true := beq_iff_eq.2 h4
  have o2 : (qe.op == 2) = true := beq_iff_eq.2 (by omega)
  have o3 : (qe.op == 3) = false := beq_eq_false_iff_ne.2 (by omega)
  have H6 := Aside0.mk h6
  clear h6
  have hlt := hB.lt
  have hls := blk_lt hsb
  have hli := blk_lt hib
  have hle := blk_lt heb
  have hc := fun i => hB.cell i
  have hcs := fun i => blk_cell hsb i
  have hci := fun i => blk_cell hib i
  have hce := fun i => blk_cell heb i
  obtain ⟨g, cp, rfl, hcp, hgl, hcell⟩ := hB.rl.at_ (fun _ => rfl) hx
  have hkl := (List.getElem?_eq_some_iff.1 hx).1
  have p0 := eq_true (show (0 : Int) ≤ (ne : Int) by omega)
  have p1 := eq_true (show (ne : Int) < (s.l.length : Int) by omega)
  have d0 := hcell 0 (by decide)
  have d1 := hcell 1 (by decide)
  have d2 := hcell 2 (by decide)
  have d3 := hcell 3 (by decide)
  have d4 := hcell 4 (by decide)
  have d5 := hcell 5 (by decide)
  have d6 := hcell 6 (by decide)
  have d7 := hcell 7 (by decide)
  have d8 := hcell 8 (by decide)
  have d9 := hcell 9 (by decide)
  have d10 := hcell 10 (by decide)
  have d11 := hcell 11 (by decide)
  rw [Nat.add_zero] at d0
  have HB := Aside0.mk hB
  have HSB := Aside0.mk hsb
  clear hB hsb hib heb hcell hcp hkl hx h2 h3 h4 h5
  go_enter Try.func55, Try.ntmps55
  go_upto_region 3 with (fail)
  have HQ := Aside0.mk (blk_new w (.cells (clA ⟨qe, qb, qc, (ne : Int)⟩) 103))
  have HD := Aside0.mk (show EvRow w g (ne * 12) bk from ⟨d0, d1, d2, d3, d4, d5, d6, d7, d8, d9, d10, d11⟩)
  clear d0 d1 d2 d3 d4 d5 d6 d7 d8 d9 d10 d11
  have HS3 := Aside0.mk (show S55 (w.alloc (.cells (clA ⟨qe, qb, qc, (ne : Int)⟩) 103)) b sb w.heap.size g (ne * 12) (.slice (some ⟨g, 0, none⟩) s.l.length cp) vv vc m1 m2 ⟨qe, qb, qc, (ne : Int)⟩ bk from ⟨fun i => (HB.out.alloc _).cell i, fun i => blk_cell (blk_alloc HSB.out _) i, fun i => blk_cell HQ.out i, HD.out.below (below_alloc (Below.refl _ _) _)⟩)
  have HBL := Aside0.mk (below_alloc (Below.refl w.heap.size w) (.cells (clA ⟨qe, qb, qc, (ne : Int)⟩) 103))
  have HQ3 := HQ
  refine start_ (n := 10) (S := (fun w' => S55 w' b sb w.heap.size g (ne * 12) (.slice (some ⟨g, 0, none⟩) s.l.length cp) vv vc m1 m2 ⟨qe, qb, qc, (ne : Int)⟩ bk)) (ds := [9]) #[false, false, false, false, false, false, false, false, false, false] (by kernel_rfl) rfl rfl (HS3.out.below (below_drew (Below.refl _ _))) (fun hHeld => ?_)
  refine with_tabW wrongR.tab3 wrongR.bits3 (fun HT_ HW_ => ?_)
  have HS5 := Aside0.mk (HS3.out.below (below_drew (Below.refl _ _)))
  have HB5 := Aside0.mk (below_drew HBL.out)
  have HQ5 := Aside0.mk (show (w.alloc (.cells (clA ⟨qe, qb, qc, (ne : Int)⟩) 103)).drew.heap[w.heap.size]? = _ from HQ.out)
  generalize (w.alloc (.cells (clA ⟨qe, qb, qc, (ne : Int)⟩) 103)).drew = w3 at HS5 HB5 HQ5 hHeld ⊢
  clear HS3 HBL HQ3 HQ hc hcs hci hce hlt hls hli hle
  refine pure_ (i := 4) (N := (some 28)) (v := ?_) (a' := ?_) #[false, false, false, false, true, false, false, false, false, false] rfl rfl (any_of HT_.out (by kernel_rfl)) (fun _ _ _ h => h) (Or.inl ⟨by rfl, ?_⟩) ?_ ?_
  rotate_left
  · intro w'
    go_simp
    with_reducible rfl
  rotate_left
  · simp only [Act.put, List.setIfInBounds_toArray, List.set_cons_zero, List.set_cons_succ, i64_w, i32_w]
    rfl
  refine take_ (i := 0) (N := (some 24)) (v := ?_) (a' := ?_) #[true, false, false, false, true, false, false, false, false, false] rfl rfl (take_ofW HT_.out HW_.out (by kernel_rfl)) (fun _ _ _ h => h) (Or.inl ⟨by rfl, ?_⟩) hHeld ?_ ?_
  rotate_left
  · rintro w' ⟨s0, s1, s2, t0, t1, t2, t3, t4, t5, t6, t7, t8, t9, t10, t11⟩
    go_simp
    with_reducible rfl
  rotate_left
  · simp only [Act.put, List.setIfInBounds_toArray, List.set_cons_zero, List.set_cons_succ, i64_w, i32_w]
    rfl
  refine pure_ (i := 1) (N := (some 25)) (v := ?_) (a' := ?_) #[true, true, false, false, true, false, false, false, false, false] rfl rfl (any_of HT_.out (by kernel_rfl)) (fun _ _ _ h => h) (Or.inl ⟨by rfl, ?_⟩) ?_ ?_
  rotate_left
  · intro w'
    go_simp
    with_reducible rfl
  rotate_left
  · simp only [Act.put, List.setIfInBounds_toArray, List.set_cons_zero, List.set_cons_succ, i64_w, i32_w]
    rfl
  refine pure_ (i := 2) (N := (some 26)) (v := ?_) (a' := ?_) #[true, true, true, false, true, false, false, false, false, false] rfl rfl (any_of HT_.out (by kernel_rfl)) (fun _ _ _ h => h) (Or.inl ⟨by rfl, ?_⟩) ?_ ?_
  rotate_left
  · intro w'
    go_simp
    with_reducible rfl
  rotate_left
  · simp only [Act.put, List.setIfInBounds_toArray, List.set_cons_zero, List.set_cons_succ, i64_w, i32_w]
    rfl
  refine take_ (i := 3) (N := (some 27)) (v := ?_) (a' := ?_) #[true, true, true, true, true, false, false, false, false, false] rfl rfl (take_ofW HT_.out HW_.out (by kernel_rfl)) (fun _ _ _ h => h) (Or.inl ⟨by rfl, ?_⟩) hHeld ?_ ?_
  rotate_left
  · rintro w' ⟨s0, s1, s2, t0, t1, t2, t3, t4, t5, t6, t7, t8, t9, t10, t11⟩
    go_simp
    with_reducible rfl
  rotate_left
  · simp only [Act.put, List.setIfInBounds_toArray, List.set_cons_zero, List.set_cons_succ, i64_w, i32_w]
    rfl
  refine take_ (i := 5) (N := (some 29)) (v := ?_) (a' := ?_) #[true, true, true, true, true, true, false, false, false, false] rfl rfl (take_ofW HT_.out HW_.out (by kernel_rfl)) (fun _ _ _ h => h) (Or.inl ⟨by rfl, ?_⟩) hHeld ?_ ?_
  rotate_left
  · rintro w' ⟨s0, s1, s2, t0, t1, t2, t3, t4, t5, t6, t7, t8, t9, t10, t11⟩
    go_simp
    with_reducible rfl
  rotate_left
  · simp only [Act.put, List.setIfInBounds_toArray, List.set_cons_zero, List.set_cons_succ, i64_w, i32_w]
    rfl
  refine pure_ (i := 6) (N := (some 30)) (v := ?_) (a' := ?_) #[true, true, true, true, true, true, true, false, false, false] rfl rfl (any_of HT_.out (by kernel_rfl)) (fun _ _ _ h => h) (Or.inl ⟨by rfl, ?_⟩) ?_ ?_
  rotate_left
  · intro w'
    go_simp
    with_reducible rfl
  rotate_left
  · simp only [Act.put, List.setIfInBounds_toArray, List.set_cons_zero, List.set_cons_succ, i64_w, i32_w]
    rfl
  refine take_ (i := 7) (N := (some 31)) (v := ?_) (a' := ?_) #[true, true, true, true, true, true, true, true, false, false] rfl rfl (take_ofW HT_.out HW_.out (by kernel_rfl)) (fun _ _ _ h => h) (Or.inl ⟨by rfl, ?_⟩) hHeld ?_ ?_
  rotate_left
  · rintro w' ⟨s0, s1, s2, t0, t1, t2, t3, t4, t5, t6, t7, t8, t9, t10, t11⟩
    go_simp
    with_reducible rfl
  rotate_left
  · simp only [Act.put, List.setIfInBounds_toArray, List.set_cons_zero, List.set_cons_succ, i64_w, i32_w]
    rfl
  refine one_ (i := 8) (N := (some 6)) #[true, true, true, true, true, true, true, true, true, false] rfl rfl (one_of HT_.out (by kernel_rfl)) (by decide) (fun K hK => ?_)
  refine value_ (by rfl) rfl (v := .pointer (some ⟨w3.heap.size, 0, none⟩)) (w1 := w3.alloc (.cells (evA zeroE) 54)) (by go_simp <;> rfl) ?_
  refine hK.out _ _ (HS5.out.below (below_alloc (Below.refl _ _) _)) (fun hHeld => ?_)
  clear hK K
  refine norm_ (a' := ?_) ?_ ?_
  rotate_left
  · show Act.put _ (some 6) _ = _
    simp only [Act.put, List.setIfInBounds_toArray, List.set_cons_zero, List.set_cons_succ, i64_w, i32_w]
    rfl
  refine last_ (i := 9) (N := none) #[true, true, true, true, true, true, true, true, true, true] rfl rfl (one_of HT_.out (by kernel_rfl)) (by decide) (fun K hK => ?_)
  refine skip_ (by rfl) rfl (w1 := w3.alloc (.cells (evA bk) 54)) (by go_simp <;> rfl) ?_
  refine hK.out _ _ ?_
  clear hK K
  refine done_ (done_of HT_.out (by kernel_rfl)) ?_
  clear hHeld HS5 HT_ HW_
  have hq3 := fun i => blk_cell (blk_alloc HQ5.out (.cells (evA bk) 54)) i
  have hl3 := blk_lt HQ5.out
  try have h6 := H6.out
  go_wp2
  go_ret
  exact ⟨by simp [*, overE], by repeat (first | exact HB5.out | apply below_alloc | apply pw_below_drewN)⟩
set_option maxHeartbeats 4000000 in
set_option maxRecDepth 100000 in
theorem wrong1_rearm_y {B b n m1 m2 sb ib eb : Nat} {s : Story} {vl vv vc : Value} (i : Nat) (e qe : Ev) (qb qc : Int) (w : World) (hB : StIs w B b n s vl vv vc m1 m2) (hsb : w.heap[sb]? = some (.cells #[.pointer (some ⟨b, 0, none⟩)] 87 (0, 0))) (hib : w.heap[ib]? = some (.cells #[.int .i64 (i : Int)] 3 (0, 0))) (heb : w.heap[eb]? = some (.cells (evA e) 54 (0, 0))) (ne : Nat) (bk : Ev) (hx : s.l[ne]? = some bk) (h2 : ¬ (ne : Int) > (i : Int)) (h3 : qe.hn = e.hn) (h4 : qe.hg = e.hg) (h5 : qe.op = 3) (h6 : bk.er = 0) :
    Calls Try.prog 55 #[.agg (clA ⟨qe, qb, qc, (ne : Int)⟩), .pointer (some ⟨ib, 0, none⟩), .pointer (some ⟨eb, 0, none⟩), .pointer (some ⟨sb, 0, none⟩)] w fun r w' => r = .returned (.bool (overE qe bk)) ∧ Below w.heap.size w w' := by
  have hu97 := Try.underlying97
  have hu54 := Try.underlying54
  have hu34 := Try.underlying34
  have hu103 := Try.underlying103
  have g1 : decide ((ne : Int) < 0) = false := decide_eq_false (by omega)
  have g2 : decide ((ne : Int) > (i : Int)) = false := decide_eq_false (by omega)
  have g2n : decide (i < ne) = false := decide_eq_false (by omega)
  have g3 : (qe.hn == e.hn) = true := beq_iff_eq.2 h3
  have g4 : (qe.hg == e.hg) = true := beq_iff_eq.2 h4
  have o2 : (qe.op == 2) = false := beq_eq_false_iff_ne.2 (by omega)
  have o3 : (qe.op == 3) = true := beq_iff_eq.2 (by omega)
  have o9 : (bk.er == 0) = true := beq_iff_eq.2 h6
  have hlt := hB.lt
  have hls := blk_lt hsb
  have hli := blk_lt hib
  have hle := blk_lt heb
  have hc := fun i => hB.cell i
  have hcs := fun i => blk_cell hsb i
  have hci := fun i => blk_cell hib i
  have hce := fun i => blk_cell heb i
  obtain ⟨g, cp, rfl, hcp, hgl, hcell⟩ := hB.rl.at_ (fun _ => rfl) hx
  have hkl := (List.getElem?_eq_some_iff.1 hx).1
  have p0 := eq_true (show (0 : Int) ≤ (ne : Int) by omega)
  have p1 := eq_true (show (ne : Int) < (s.l.length : Int) by omega)
  have d0 := hcell 0 (by decide)
  have d1 := hcell 1 (by decide)
  have d2 := hcell 2 (by decide)
  have d3 := hcell 3 (by decide)
  have d4 := hcell 4 (by decide)
  have d5 := hcell 5 (by decide)
  have d6 := hcell 6 (by decide)
  have d7 := hcell 7 (by decide)
  have d8 := hcell 8 (by decide)
  have d9 := hcell 9 (by decide)
  have d10 := hcell 10 (by decide)
  have d11 := hcell 11 (by decide)
  rw [Nat.add_zero] at d0
  have HB := Aside0.mk hB
  have HSB := Aside0.mk hsb
  clear hB hsb hib heb hcell hcp hkl hx h2 h3 h4 h5 h6
  go_enter Try.func55, Try.ntmps55
  go_upto_region 3 with (fail)
  have HQ := Aside0.mk (blk_new w (.cells (clA ⟨qe, qb, qc, (ne : Int)⟩) 103))
  have HD := Aside0.mk (show EvRow w g (ne * 12) bk from ⟨d0, d1, d2, d3, d4, d5, d6, d7, d8, d9, d10, d11⟩)
  clear d0 d1 d2 d3 d4 d5 d6 d7 d8 d9 d10 d11
  have HS3 := Aside0.mk (show S55 (w.alloc (.cells (clA ⟨qe, qb, qc, (ne : Int)⟩) 103)) b sb w.heap.size g (ne * 12) (.slice (some ⟨g, 0, none⟩) s.l.length cp) vv vc m1 m2 ⟨qe, qb, qc, (ne : Int)⟩ bk from ⟨fun i => (HB.out.alloc _).cell i, fun i => blk_cell (blk_alloc HSB.out _) i, fun i => blk_cell HQ.out i, HD.out.below (below_alloc (Below.refl _ _) _)⟩)
  have HBL := Aside0.mk (below_alloc (Below.refl w.heap.size w) (.cells (clA ⟨qe, qb, qc, (ne : Int)⟩) 103))
  have HQ3 := HQ
  refine start_ (n := 10) (S := (fun w' => S55 w' b sb w.heap.size g (ne * 12) (.slice (some ⟨g, 0, none⟩) s.l.length cp) vv vc m1 m2 ⟨qe, qb, qc, (ne : Int)⟩ bk)) (ds := [9]) #[false, false, false, false, false, false, false, false, false, false] (by kernel_rfl) rfl rfl (HS3.out.below (below_drew (Below.refl _ _))) (fun hHeld => ?_)
  refine with_tabW wrongR.tab3 wrongR.bits3 (fun HT_ HW_ => ?_)
  have HS5 := Aside0.mk (HS3.out.below (below_drew (Below.refl _ _)))
  have HB5 := Aside0.mk (below_drew HBL.out)
  have HQ5 := Aside0.mk (show (w.alloc (.cells (clA ⟨qe, qb, qc, (ne : Int)⟩) 103)).drew.heap[w.heap.size]? = _ from HQ.out)
  generalize (w.alloc (.cells (clA ⟨qe, qb, qc, (ne : Int)⟩) 103)).drew = w3 at HS5 HB5 HQ5 hHeld ⊢
  clear HS3 HBL HQ3 HQ hc hcs hci hce hlt hls hli hle
  refine pure_ (i := 4) (N := (some 28)) (v := ?_) (a' := ?_) #[false, false, false, false, true, false, false, false, false, false] rfl rfl (any_of HT_.out (by kernel_rfl)) (fun _ _ _ h => h) (Or.inl ⟨by rfl, ?_⟩) ?_ ?_
  rotate_left
  · intro w'
    go_simp
    with_reducible rfl
  rotate_left
  · simp only [Act.put, List.setIfInBounds_toArray, List.set_cons_zero, List.set_cons_succ, i64_w, i32_w]
    rfl
  refine take_ (i := 0) (N := (some 24)) (v := ?_) (a' := ?_) #[true, false, false, false, true, false, false, false, false, false] rfl rfl (take_ofW HT_.out HW_.out (by kernel_rfl)) (fun _ _ _ h => h) (Or.inl ⟨by rfl, ?_⟩) hHeld ?_ ?_
  rotate_left
  · rintro w' ⟨s0, s1, s2, t0, t1, t2, t3, t4, t5, t6, t7, t8, t9, t10, t11⟩
    go_simp
    with_reducible rfl
  rotate_left
  · simp only [Act.put, List.setIfInBounds_toArray, List.set_cons_zero, List.set_cons_succ, i64_w, i32_w]
    rfl
  refine pure_ (i := 1) (N := (some 25)) (v := ?_) (a' := ?_) #[true, true, false, false, true, false, false, false, false, false] rfl rfl (any_of HT_.out (by kernel_rfl)) (fun _ _ _ h => h) (Or.inl ⟨by rfl, ?_⟩) ?_ ?_
  rotate_left
  · intro w'
    go_simp
    with_reducible rfl
  rotate_left
  · simp only [Act.put, List.setIfInBounds_toArray, List.set_cons_zero, List.set_cons_succ, i64_w, i32_w]
    rfl
  refine pure_ (i := 2) (N := (some 26)) (v := ?_) (a' := ?_) #[true, true, true, false, true, false, false, false, false, false] rfl rfl (any_of HT_.out (by kernel_rfl)) (fun _ _ _ h => h) (Or.inl ⟨by rfl, ?_⟩) ?_ ?_
  rotate_left
  · intro w'
    go_simp
    with_reducible rfl
  rotate_left
  · simp only [Act.put, List.setIfInBounds_toArray, List.set_cons_zero, List.set_cons_succ, i64_w, i32_w]
    rfl
  refine take_ (i := 3) (N := (some 27)) (v := ?_) (a' := ?_) #[true, true, true, true, true, false, false, false, false, false] rfl rfl (take_ofW HT_.out HW_.out (by kernel_rfl)) (fun _ _ _ h => h) (Or.inl ⟨by rfl, ?_⟩) hHeld ?_ ?_
  rotate_left
  · rintro w' ⟨s0, s1, s2, t0, t1, t2, t3, t4, t5, t6, t7, t8, t9, t10, t11⟩
    go_simp
    with_reducible rfl
  rotate_left
  · simp only [Act.put, List.setIfInBounds_toArray, List.set_cons_zero, List.set_cons_succ, i64_w, i32_w]
    rfl
  refine take_ (i := 5) (N := (some 29)) (v := ?_) (a' := ?_) #[true, true, true, true, true, true, false, false, false, false] rfl rfl (take_ofW HT_.out HW_.out (by kernel_rfl)) (fun _ _ _ h => h) (Or.inl ⟨by rfl, ?_⟩) hHeld ?_ ?_
  rotate_left
  · rintro w' ⟨s0, s1, s2, t0, t1, t2, t3, t4, t5, t6, t7, t8, t9, t10, t11⟩
    go_simp
    with_reducible rfl
  rotate_left
  · simp only [Act.put, List.setIfInBounds_toArray, List.set_cons_zero, List.set_cons_succ, i64_w, i32_w]
    rfl
  refine pure_ (i := 6) (N := (some 30)) (v := ?_) (a' := ?_) #[true, true, true, true, true, true, true, false, false, false] rfl rfl (any_of HT_.out (by kernel_rfl)) (fun _ _ _ h => h) (Or.inl ⟨by rfl, ?_⟩) ?_ ?_
  rotate_left
  · intro w'
    go_simp
    with_reducible rfl
  rotate_left
  · simp only [Act.put, List.setIfInBounds_toArray, List.set_cons_zero, List.set_cons_succ, i64_w, i32_w]
    rfl
  refine take_ (i := 7) (N := (some 31)) (v := ?_) (a' := ?_) #[true, true, true, true, true, true, true, true, false, false] rfl rfl (take_ofW HT_.out HW_.out (by kernel_rfl)) (fun _ _ _ h => h) (Or.inl ⟨by rfl, ?_⟩) hHeld ?_ ?_
  rotate_left
  · rintro w' ⟨s0, s1, s2, t0, t1, t2, t3, t4, t5, t6, t7, t8, t9, t10, t11⟩
    go_simp
    with_reducible rfl
  rotate_left
  · simp only [Act.put, List.setIfInBounds_toArray, List.set_cons_zero, List.set_cons_succ, i64_w, i32_w]
    rfl
  refine one_ (i := 8) (N := (some 6)) #[true, true, true, true, true, true, true, true, true, false] rfl rfl (one_of HT_.out (by kernel_rfl)) (by decide) (fun K hK => ?_)
  refine value_ (by rfl) rfl (v := .pointer (some ⟨w3.heap.size, 0, none⟩)) (w1 := w3.alloc (.cells (evA zeroE) 54)) (by go_simp <;> rfl) ?_
  refine hK.out _ _ (HS5.out.below (below_alloc (Below.refl _ _) _)) (fun hHeld => ?_)
  clear hK K
  refine norm_ (a' := ?_) ?_ ?_
  rotate_left
  · show Act.put _ (some 6) _ = _
    simp only [Act.put, List.setIfInBounds_toArray, List.set_cons_zero, List.set_cons_succ, i64_w, i32_w]
    rfl
  refine last_ (i := 9) (N := none) #[true, true, true, true, true, true, true, true, true, true] rfl rfl (one_of HT_.out (by kernel_rfl)) (by decide) (fun K hK => ?_)
  refine skip_ (by rfl) rfl (w1 := w3.alloc (.cells (evA bk) 54)) (by go_simp <;> rfl) ?_
  refine hK.out _ _ ?_
  clear hK K
  refine done_ (done_of HT_.out (by kernel_rfl)) ?_
  clear hHeld HS5 HT_ HW_
  have hq3 := fun i => blk_cell (blk_alloc HQ5.out (.cells (evA bk) 54)) i
  have hl3 := blk_lt HQ5.out
  try have h6 := H6.out
  go_wp2
  go_ret
  exact ⟨by simp [*, overE], by repeat (first | exact HB5.out | apply below_alloc | apply pw_below_drewN)⟩
set_option maxHeartbeats 4000000 in
set_option maxRecDepth 100000 in
theorem wrong1_rearm_n {B b n m1 m2 sb ib eb : Nat} {s : Story} {vl vv vc : Value} (i : Nat) (e qe : Ev) (qb qc : Int) (w : World) (hB : StIs w B b n s vl vv vc m1 m2) (hsb : w.heap[sb]? = some (.cells #[.pointer (some ⟨b, 0, none⟩)] 87 (0, 0))) (hib : w.heap[ib]? = some (.cells #[.int .i64 (i : Int)] 3 (0, 0))) (heb : w.heap[eb]? = some (.cells (evA e) 54 (0, 0))) (ne : Nat) (bk : Ev) (hx : s.l[ne]? = some bk) (h2 : ¬ (ne : Int) > (i : Int)) (h3 : qe.hn = e.hn) (h4 : qe.hg = e.hg) (h5 : qe.op = 3) (h6 : ¬ bk.er = 0) :
    Calls Try.prog 55 #[.agg (clA ⟨qe, qb, qc, (ne : Int)⟩), .pointer (some ⟨ib, 0, none⟩), .pointer (some ⟨eb, 0, none⟩), .pointer (some ⟨sb, 0, none⟩)] w fun r w' => r = .returned (.bool (overE qe bk)) ∧ Below w.heap.size w w' := by
  have hu97 := Try.underlying97
  have hu54 := Try.underlying54
  have hu34 := Try.underlying34
  have hu103 := Try.underlying103
  have g1 : decide ((ne : Int) < 0) = false := decide_eq_false (by omega)
  have g2 : decide ((ne : Int) > (i : Int)) = false := decide_eq_false (by omega)
  have g2n : decide (i < ne) = false := decide_eq_false (by omega)
  have g3 : (qe.hn == e.hn) = true := beq_iff_eq.2 h3
  have g4 : (qe.hg == e.hg) = true := beq_iff_eq.2 h4
  have o2 : (qe.op == 2) = false := beq_eq_false_iff_ne.2 (by omega)
  have o3 : (qe.op == 3) = true := beq_iff_eq.2 (by omega)
  have o9 : (bk.er == 0) = false := beq_eq_false_iff_ne.2 h6
  have hlt := hB.lt
  have hls := blk_lt hsb
  have hli := blk_lt hib
  have hle := blk_lt heb
  have hc := fun i => hB.cell i
  have hcs := fun i => blk_cell hsb i
  have hci := fun i => blk_cell hib i
  have hce := fun i => blk_cell heb i
  obtain ⟨g, cp, rfl, hcp, hgl, hcell⟩ := hB.rl.at_ (fun _ => rfl) hx
  have hkl := (List.getElem?_eq_some_iff.1 hx).1
  have p0 := eq_true (show (0 : Int) ≤ (ne : Int) by omega)
  have p1 := eq_true (show (ne : Int) < (s.l.length : Int) by omega)
  have d0 := hcell 0 (by decide)
  have d1 := hcell 1 (by decide)
  have d2 := hcell 2 (by decide)
  have d3 := hcell 3 (by decide)
  have d4 := hcell 4 (by decide)
  have d5 := hcell 5 (by decide)
  have d6 := hcell 6 (by decide)
  have d7 := hcell 7 (by decide)
  have d8 := hcell 8 (by decide)
  have d9 := hcell 9 (by decide)
  have d10 := hcell 10 (by decide)
  have d11 := hcell 11 (by decide)
  rw [Nat.add_zero] at d0
  have HB := Aside0.mk hB
  have HSB := Aside0.mk hsb
  clear hB hsb hib heb hcell hcp hkl hx h2 h3 h4 h5 h6
  go_enter Try.func55, Try.ntmps55
  go_upto_region 3 with (fail)
  have HQ := Aside0.mk (blk_new w (.cells (clA ⟨qe, qb, qc, (ne : Int)⟩) 103))
  have HD := Aside0.mk (show EvRow w g (ne * 12) bk from ⟨d0, d1, d2, d3, d4, d5, d6, d7, d8, d9, d10, d11⟩)
  clear d0 d1 d2 d3 d4 d5 d6 d7 d8 d9 d10 d11
  have HS3 := Aside0.mk (show S55 (w.alloc (.cells (clA ⟨qe, qb, qc, (ne : Int)⟩) 103)) b sb w.heap.size g (ne * 12) (.slice (some ⟨g, 0, none⟩) s.l.length cp) vv vc m1 m2 ⟨qe, qb, qc, (ne : Int)⟩ bk from ⟨fun i => (HB.out.alloc _).cell i, fun i => blk_cell (blk_alloc HSB.out _) i, fun i => blk_cell HQ.out i, HD.out.below (below_alloc (Below.refl _ _) _)⟩)
  have HBL := Aside0.mk (below_alloc (Below.refl w.heap.size w) (.cells (clA ⟨qe, qb, qc, (ne : Int)⟩) 103))
  have HQ3 := HQ
  refine start_ (n := 10) (S := (fun w' => S55 w' b sb w.heap.size g (ne * 12) (.slice (some ⟨g, 0, none⟩) s.l.length cp) vv vc m1 m2 ⟨qe, qb, qc, (ne : Int)⟩ bk)) (ds := [9]) #[false, false, false, false, false, false, false, false, false, false] (by kernel_rfl) rfl rfl (HS3.out.below (below_drew (Below.refl _ _))) (fun hHeld => ?_)
  refine with_tabW wrongR.tab3 wrongR.bits3 (fun HT_ HW_ => ?_)
  have HS5 := Aside0.mk (HS3.out.below (below_drew (Below.refl _ _)))
  have HB5 := Aside0.mk (below_drew HBL.out)
  have HQ5 := Aside0.mk (show (w.alloc (.cells (clA ⟨qe, qb, qc, (ne : Int)⟩) 103)).drew.heap[w.heap.size]? = _ from HQ.out)
  generalize (w.alloc (.cells (clA ⟨qe, qb, qc, (ne : Int)⟩) 103)).drew = w3 at HS5 HB5 HQ5 hHeld ⊢
  clear HS3 HBL HQ3 HQ hc hcs hci hce hlt hls hli hle
  refine pure_ (i := 4) (N := (some 28)) (v := ?_) (a' := ?_) #[false, false, false, false, true, false, false, false, false, false] rfl rfl (any_of HT_.out (by kernel_rfl)) (fun _ _ _ h => h) (Or.inl ⟨by rfl, ?_⟩) ?_ ?_
  rotate_left
  · intro w'
    go_simp
    with_reducible rfl
  rotate_left
  · simp only [Act.put, List.setIfInBounds_toArray, List.set_cons_zero, List.set_cons_succ, i64_w, i32_w]
    rfl
  refine take_ (i := 0) (N := (some 24)) (v := ?_) (a' := ?_) #[true, false, false, false, true, false, false, false, false, false] rfl rfl (take_ofW HT_.out HW_.out (by kernel_rfl)) (fun _ _ _ h => h) (Or.inl ⟨by rfl, ?_⟩) hHeld ?_ ?_
  rotate_left
  · rintro w' ⟨s0, s1, s2, t0, t1, t2, t3, t4, t5, t6, t7, t8, t9, t10, t11⟩
    go_simp
    with_reducible rfl
  rotate_left
  · simp only [Act.put, List.setIfInBounds_toArray, List.set_cons_zero, List.set_cons_succ, i64_w, i32_w]
    rfl
  refine pure_ (i := 1) (N := (some 25)) (v := ?_) (a' := ?_) #[true, true, false, false, true, false, false, false, false, false] rfl rfl (any_of HT_.out (by kernel_rfl)) (fun _ _ _ h => h) (Or.inl ⟨by rfl, ?_⟩) ?_ ?_
  rotate_left
  · intro w'
    go_simp
    with_reducible rfl
  rotate_left
  · simp only [Act.put, List.setIfInBounds_toArray, List.set_cons_zero, List.set_cons_succ, i64_w, i32_w]
    rfl
  refine pure_ (i := 2) (N := (some 26)) (v := ?_) (a' := ?_) #[true, true, true, false, true, false, false, false, false, false] rfl rfl (any_of HT_.out (by kernel_rfl)) (fun _ _ _ h => h) (Or.inl ⟨by rfl, ?_⟩) ?_ ?_
  rotate_left
  · intro w'
    go_simp
    with_reducible rfl
  rotate_left
  · simp only [Act.put, List.setIfInBounds_toArray, List.set_cons_zero, List.set_cons_succ, i64_w, i32_w]
    rfl
  refine take_ (i := 3) (N := (some 27)) (v := ?_) (a' := ?_) #[true, true, true, true, true, false, false, false, false, false] rfl rfl (take_ofW HT_.out HW_.out (by kernel_rfl)) (fun _ _ _ h => h) (Or.inl ⟨by rfl, ?_⟩) hHeld ?_ ?_
  rotate_left
  · rintro w' ⟨s0, s1, s2, t0, t1, t2, t3, t4, t5, t6, t7, t8, t9, t10, t11⟩
    go_simp
    with_reducible rfl
  rotate_left
  · simp only [Act.put, List.setIfInBounds_toArray, List.set_cons_zero, List.set_cons_succ, i64_w, i32_w]
    rfl
  refine take_ (i := 5) (N := (some 29)) (v := ?_) (a' := ?_) #[true, true, true, true, true, true, false, false, false, false] rfl rfl (take_ofW HT_.out HW_.out (by kernel_rfl)) (fun _ _ _ h => h) (Or.inl ⟨by rfl, ?_⟩) hHeld ?_ ?_
  rotate_left
  · rintro w' ⟨s0, s1, s2, t0, t1, t2, t3, t4, t5, t6, t7, t8, t9, t10, t11⟩
    go_simp
    with_reducible rfl
  rotate_left
  · simp only [Act.put, List.setIfInBounds_toArray, List.set_cons_zero, List.set_cons_succ, i64_w, i32_w]
    rfl
  refine pure_ (i := 6) (N := (some 30)) (v := ?_) (a' := ?_) #[true, true, true, true, true, true, true, false, false, false] rfl rfl (any_of HT_.out (by kernel_rfl)) (fun _ _ _ h => h) (Or.inl ⟨by rfl, ?_⟩) ?_ ?_
  rotate_left
  · intro w'
    go_simp
    with_reducible rfl
  rotate_left
  · simp only [Act.put, List.setIfInBounds_toArray, List.set_cons_zero, List.set_cons_succ, i64_w, i32_w]
    rfl
  refine take_ (i := 7) (N := (some 31)) (v := ?_) (a' := ?_) #[true, true, true, true, true, true, true, true, false, false] rfl rfl (take_ofW HT_.out HW_.out (by kernel_rfl)) (fun _ _ _ h => h) (Or.inl ⟨by rfl, ?_⟩) hHeld ?_ ?_
  rotate_left
  · rintro w' ⟨s0, s1, s2, t0, t1, t2, t3, t4, t5, t6, t7, t8, t9, t10, t11⟩
    go_simp
    with_reducible rfl
  rotate_left
  · simp only [Act.put, List.setIfInBounds_toArray, List.set_cons_zero, List.set_cons_succ, i64_w, i32_w]
    rfl
  refine one_ (i := 8) (N := (some 6)) #[true, true, true, true, true, true, true, true, true, false] rfl rfl (one_of HT_.out (by kernel_rfl)) (by decide) (fun K hK => ?_)
  refine value_ (by rfl) rfl (v := .pointer (some ⟨w3.heap.size, 0, none⟩)) (w1 := w3.alloc (.cells (evA zeroE) 54)) (by go_simp <;> rfl) ?_
  refine hK.out _ _ (HS5.out.below (below_alloc (Below.refl _ _) _)) (fun hHeld => ?_)
  clear hK K
  refine norm_ (a' := ?_) ?_ ?_
  rotate_left
  · show Act.put _ (some 6) _ = _
    simp only [Act.put, List.setIfInBounds_toArray, List.set_cons_zero, List.set_cons_succ, i64_w, i32_w]
    rfl
  refine last_ (i := 9) (N := none) #[true, true, true, true, true, true, true, true, true, true] rfl rfl (one_of HT_.out (by kernel_rfl)) (by decide) (fun K hK => ?_)
  refine skip_ (by rfl) rfl (w1 := w3.alloc (.cells (evA bk) 54)) (by go_simp <;> rfl) ?_
  refine hK.out _ _ ?_
  clear hK K
  refine done_ (done_of HT_.out (by kernel_rfl)) ?_
  clear hHeld HS5 HT_ HW_
  have hq3 := fun i => blk_cell (blk_alloc HQ5.out (.cells (evA bk) 54)) i
  have hl3 := blk_lt HQ5.out
  try have h6 := H6.out
  go_wp2
  go_ret
  exact ⟨by simp [*, overE], by repeat (first | exact HB5.out | apply below_alloc | apply pw_below_drewN)⟩
set_option maxHeartbeats 4000000 in
set_option maxRecDepth 100000 in
theorem wrong1_no {B b n m1 m2 sb ib eb : Nat} {s : Story} {vl vv vc : Value} (i : Nat) (e qe : Ev) (qb qc : Int) (w : World) (hB : StIs w B b n s vl vv vc m1 m2) (hsb : w.heap[sb]? = some (.cells #[.pointer (some ⟨b, 0, none⟩)] 87 (0, 0))) (hib : w.heap[ib]? = some (.cells #[.int .i64 (i : Int)] 3 (0, 0))) (heb : w.heap[eb]? = some (.cells (evA e) 54 (0, 0))) (ne : Nat) (bk : Ev) (hx : s.l[ne]? = some bk) (h2 : ¬ (ne : Int) > (i : Int)) (h3 : qe.hn = e.hn) (h4 : qe.hg = e.hg) (h5 : qe.op ≠ 2) (h6 : qe.op ≠ 3) :
    Calls Try.prog 55 #[.agg (clA ⟨qe, qb, qc, (ne : Int)⟩), .pointer (some ⟨ib, 0, none⟩), .pointer (some ⟨eb, 0, none⟩), .pointer (some ⟨sb, 0, none⟩)] w fun r w' => r = .returned (.bool (overE qe bk)) ∧ Below w.heap.size w w' := by
  have hu97 := Try.underlying97
  have hu54 := Try.underlying54
  have hu34 := Try.underlying34
  have hu103 := Try.underlying103
  have g1 : decide ((ne : Int) < 0) = false := decide_eq_false (by omega)
  have g2 : decide ((ne : Int) > (i : Int)) = false := decide_eq_false (by omega)
  have g2n : decide (i < ne) = false := decide_eq_false (by omega)
  have g3 : (qe.hn == e.hn) = true := beq_iff_eq.2 h3
  have g4 : (qe.hg == e.hg) = true := beq_iff_eq.2 h4
  have o2 : (qe.op == 2) = false := beq_eq_false_iff_ne.2 (by omega)
  have o3 : (qe.op == 3) = false := beq_eq_false_iff_ne.2 (by omega)
  have hlt := hB.lt
  have hls := blk_lt hsb
  have hli := blk_lt hib
  have hle := blk_lt heb
  have hc := fun i => hB.cell i
  have hcs := fun i => blk_cell hsb i
  have hci := fun i => blk_cell hib i
  have hce := fun i => blk_cell heb i
  obtain ⟨g, cp, rfl, hcp, hgl, hcell⟩ := hB.rl.at_ (fun _ => rfl) hx
  have hkl := (List.getElem?_eq_some_iff.1 hx).1
  have p0 := eq_true (show (0 : Int) ≤ (ne : Int) by omega)
  have p1 := eq_true (show (ne : Int) < (s.l.length : Int) by omega)
  have d0 := hcell 0 (by decide)
  have d1 := hcell 1 (by decide)
  have d2 := hcell 2 (by decide)
  have d3 := hcell 3 (by decide)
  have d4 := hcell 4 (by decide)
  have d5 := hcell 5 (by decide)
  have d6 := hcell 6 (by decide)
  have d7 := hcell 7 (by decide)
  have d8 := hcell 8 (by decide)
  have d9 := hcell 9 (by decide)
  have d10 := hcell 10 (by decide)
  have d11 := hcell 11 (by decide)
  rw [Nat.add_zero] at d0
  have HB := Aside0.mk hB
  have HSB := Aside0.mk hsb
  clear hB hsb hib heb hcell hcp hkl hx h2 h3 h4 h5 h6
  go_enter Try.func55, Try.ntmps55
  go_upto_region 3 with (fail)
  have HQ := Aside0.mk (blk_new w (.cells (clA ⟨qe, qb, qc, (ne : Int)⟩) 103))
  have HD := Aside0.mk (show EvRow w g (ne * 12) bk from ⟨d0, d1, d2, d3, d4, d5, d6, d7, d8, d9, d10, d11⟩)
  clear d0 d1 d2 d3 d4 d5 d6 d7 d8 d9 d10 d11
  have HS3 := Aside0.mk (show S55 (w.alloc (.cells (clA ⟨qe, qb, qc, (ne : Int)⟩) 103)) b sb w.heap.size g (ne * 12) (.slice (some ⟨g, 0, none⟩) s.l.length cp) vv vc m1 m2 ⟨qe, qb, qc, (ne : Int)⟩ bk from ⟨fun i => (HB.out.alloc _).cell i, fun i => blk_cell (blk_alloc HSB.out _) i, fun i => blk_cell HQ.out i, HD.out.below (below_alloc (Below.refl _ _) _)⟩)
  have HBL := Aside0.mk (below_alloc (Below.refl w.heap.size w) (.cells (clA ⟨qe, qb, qc, (ne : Int)⟩) 103))
  have HQ3 := HQ
  refine start_ (n := 10) (S := (fun w' => S55 w' b sb w.heap.size g (ne * 12) (.slice (some ⟨g, 0, none⟩) s.l.length cp) vv vc m1 m2 ⟨qe, qb, qc, (ne : Int)⟩ bk)) (ds := [9]) #[false, false, false, false, false, false, false, false, false, false] (by kernel_rfl) rfl rfl (HS3.out.below (below_drew (Below.refl _ _))) (fun hHeld => ?_)
  refine with_tabW wrongR.tab3 wrongR.bits3 (fun HT_ HW_ => ?_)
  have HS5 := Aside0.mk (HS3.out.below (below_drew (Below.refl _ _)))
  have HB5 := Aside0.mk (below_drew HBL.out)
  have HQ5 := Aside0.mk (show (w.alloc (.cells (clA ⟨qe, qb, qc, (ne : Int)⟩) 103)).drew.heap[w.heap.size]? = _ from HQ.out)
  generalize (w.alloc (.cells (clA ⟨qe, qb, qc, (ne : Int)⟩) 103)).drew = w3 at HS5 HB5 HQ5 hHeld ⊢
  clear HS3 HBL HQ3 HQ hc hcs hci hce hlt hls hli hle
  refine pure_ (i := 4) (N := (some 28)) (v := ?_) (a' := ?_) #[false, false, false, false, true, false, false, false, false, false] rfl rfl (any_of HT_.out (by kernel_rfl)) (fun _ _ _ h => h) (Or.inl ⟨by rfl, ?_⟩) ?_ ?_
  rotate_left
  · intro w'
    go_simp
    with_reducible rfl
  rotate_left
  · simp only [Act.put, List.setIfInBounds_toArray, List.set_cons_zero, List.set_cons_succ, i64_w, i32_w]
    rfl
  refine take_ (i := 0) (N := (some 24)) (v := ?_) (a' := ?_) #[true, false, false, false, true, false, false, false, false, false] rfl rfl (take_ofW HT_.out HW_.out (by kernel_rfl)) (fun _ _ _ h => h) (Or.inl ⟨by rfl, ?_⟩) hHeld ?_ ?_
  rotate_left
  · rintro w' ⟨s0, s1, s2, t0, t1, t2, t3, t4, t5, t6, t7, t8, t9, t10, t11⟩
    go_simp
    with_reducible rfl
  rotate_left
  · simp only [Act.put, List.setIfInBounds_toArray, List.set_cons_zero, List.set_cons_succ, i64_w, i32_w]
    rfl
  refine pure_ (i := 1) (N := (some 25)) (v := ?_) (a' := ?_) #[true, true, false, false, true, false, false, false, false, false] rfl rfl (any_of HT_.out (by kernel_rfl)) (fun _ _ _ h => h) (Or.inl ⟨by rfl, ?_⟩) ?_ ?_
  rotate_left
  · intro w'
    go_simp
    with_reducible rfl
  rotate_left
  · simp only [Act.put, List.setIfInBounds_toArray, List.set_cons_zero, List.set_cons_succ, i64_w, i32_w]
    rfl
  refine pure_ (i := 2) (N := (some 26)) (v := ?_) (a' := ?_) #[true, true, true, false, true, false, false, false, false, false] rfl rfl (any_of HT_.out (by kernel_rfl)) (fun _ _ _ h => h) (Or.inl ⟨by rfl, ?_⟩) ?_ ?_
  rotate_left
  · intro w'
    go_simp
    with_reducible rfl
  rotate_left
  · simp only [Act.put, List.setIfInBounds_toArray, List.set_cons_zero, List.set_cons_succ, i64_w, i32_w]
    rfl
  refine take_ (i := 3) (N := (some 27)) (v := ?_) (a' := ?_) #[true, true, true, true, true, false, false, false, false, false] rfl rfl (take_ofW HT_.out HW_.out (by kernel_rfl)) (fun _ _ _ h => h) (Or.inl ⟨by rfl, ?_⟩) hHeld ?_ ?_
  rotate_left
  · rintro w' ⟨s0, s1, s2, t0, t1, t2, t3, t4, t5, t6, t7, t8, t9, t10, t11⟩
    go_simp
    with_reducible rfl
  rotate_left
  · simp only [Act.put, List.setIfInBounds_toArray, List.set_cons_zero, List.set_cons_succ, i64_w, i32_w]
    rfl
  refine take_ (i := 5) (N := (some 29)) (v := ?_) (a' := ?_) #[true, true, true, true, true, true, false, false, false, false] rfl rfl (take_ofW HT_.out HW_.out (by kernel_rfl)) (fun _ _ _ h => h) (Or.inl ⟨by rfl, ?_⟩) hHeld ?_ ?_
  rotate_left
  · rintro w' ⟨s0, s1, s2, t0, t1, t2, t3, t4, t5, t6, t7, t8, t9, t10, t11⟩
    go_simp
    with_reducible rfl
  rotate_left
  · simp only [Act.put, List.setIfInBounds_toArray, List.set_cons_zero, List.set_cons_succ, i64_w, i32_w]
    rfl
  refine pure_ (i := 6) (N := (some 30)) (v := ?_) (a' := ?_) #[true, true, true, true, true, true, true, false, false, false] rfl rfl (any_of HT_.out (by kernel_rfl)) (fun _ _ _ h => h) (Or.inl ⟨by rfl, ?_⟩) ?_ ?_
  rotate_left
  · intro w'
    go_simp
    with_reducible rfl
  rotate_left
  · simp only [Act.put, List.setIfInBounds_toArray, List.set_cons_zero, List.set_cons_succ, i64_w, i32_w]
    rfl
  refine take_ (i := 7) (N := (some 31)) (v := ?_) (a' := ?_) #[true, true, true, true, true, true, true, true, false, false] rfl rfl (take_ofW HT_.out HW_.out (by kernel_rfl)) (fun _ _ _ h => h) (Or.inl ⟨by rfl, ?_⟩) hHeld ?_ ?_
  rotate_left
  · rintro w' ⟨s0, s1, s2, t0, t1, t2, t3, t4, t5, t6, t7, t8, t9, t10, t11⟩
    go_simp
    with_reducible rfl
  rotate_left
  · simp only [Act.put, List.setIfInBounds_toArray, List.set_cons_zero, List.set_cons_succ, i64_w, i32_w]
    rfl
  refine one_ (i := 8) (N := (some 6)) #[true, true, true, true, true, true, true, true, true, false] rfl rfl (one_of HT_.out (by kernel_rfl)) (by decide) (fun K hK => ?_)
  refine value_ (by rfl) rfl (v := .pointer (some ⟨w3.heap.size, 0, none⟩)) (w1 := w3.alloc (.cells (evA zeroE) 54)) (by go_simp <;> rfl) ?_
  refine hK.out _ _ (HS5.out.below (below_alloc (Below.refl _ _) _)) (fun hHeld => ?_)
  clear hK K
  refine norm_ (a' := ?_) ?_ ?_
  rotate_left
  · show Act.put _ (some 6) _ = _
    simp only [Act.put, List.setIfInBounds_toArray, List.set_cons_zero, List.set_cons_succ, i64_w, i32_w]
    rfl
  refine last_ (i := 9) (N := none) #[true, true, true, true, true, true, true, true, true, true] rfl rfl (one_of HT_.out (by kernel_rfl)) (by decide) (fun K hK => ?_)
  refine skip_ (by rfl) rfl (w1 := w3.alloc (.cells (evA bk) 54)) (by go_simp <;> rfl) ?_
  refine hK.out _ _ ?_
  clear hK K
  refine done_ (done_of HT_.out (by kernel_rfl)) ?_
  clear hHeld HS5 HT_ HW_
  have hq3 := fun i => blk_cell (blk_alloc HQ5.out (.cells (evA bk) 54)) i
  have hl3 := blk_lt HQ5.out
  try have h6 := H6.out
  go_wp2
  go_ret
  exact ⟨by simp [*, overE], by repeat (first | exact HB5.out | apply below_alloc | apply pw_below_drewN)⟩
theorem wrong1_any {B b n m1 m2 sb ib eb : Nat} {s : Story} {vl vv vc : Value} (i : Nat) (e : Ev) (q : Cl) (w : World) (hB : StIs w B b n s vl vv vc m1 m2) (hsb : w.heap[sb]? = some (.cells #[.pointer (some ⟨b, 0, none⟩)] 87 (0, 0))) (hib : w.heap[ib]? = some (.cells #[.int .i64 (i : Int)] 3 (0, 0))) (heb : w.heap[eb]? = some (.cells (evA e) 54 (0, 0))) (hi : i < s.l.length) :
    Calls Try.prog 55 #[.agg (clA q), .pointer (some ⟨ib, 0, none⟩), .pointer (some ⟨eb, 0, none⟩), .pointer (some ⟨sb, 0, none⟩)] w fun r w' => r = .returned (.bool (wrongC1 s i e q)) ∧ Below w.heap.size w w' := by
  obtain ⟨qe, qb, qc, qn⟩ := q
  unfold wrongC1
  simp only
  by_cases h1 : qn < 0
  · rw [if_pos (.inl h1)]; exact wrong1_open i e qe qb qc qn w hB hsb hib heb h1
  by_cases h2 : qn > (i : Int)
  · rw [if_pos (.inr (.inl h2))]; exact wrong1_later i e qe qb qc qn w hB hsb hib heb h1 h2
  by_cases h3 : qe.hn = e.hn
  · by_cases h4 : qe.hg = e.hg
    · obtain ⟨ne, rfl⟩ := Int.eq_ofNat_of_zero_le (show 0 ≤ qn by omega)
      have hlt : ne < s.l.length := by omega
      have hx : s.l[ne]? = some s.l[ne] := List.getElem?_eq_getElem hlt
      rw [if_neg (by rintro (z | z | z); exact h1 z; exact h2 z; exact z (Prod.ext h3 h4)), Int.toNat_natCast, List.getD_eq_getElem?_getD, hx, Option.getD_some]
      by_cases o2 : qe.op = 2
      · cases hy : s.l[ne].y with
        | true => exact wrong1_cancel_y i e qe qb qc w hB hsb hib heb ne _ hx h2 h3 h4 o2 hy
        | false => exact wrong1_cancel_n i e qe qb qc w hB hsb hib heb ne _ hx h2 h3 h4 o2 hy
      by_cases o3 : qe.op = 3
      · by_cases he : s.l[ne].er = 0
        · exact wrong1_rearm_y i e qe qb qc w hB hsb hib heb ne _ hx h2 h3 h4 o3 he
        · exact wrong1_rearm_n i e qe qb qc w hB hsb hib heb ne _ hx h2 h3 h4 o3 he
      exact wrong1_no i e qe qb qc w hB hsb hib heb ne _ hx h2 h3 h4 o2 o3
    · rw [if_pos (.inr (.inr (fun z => h4 (congrArg Prod.snd z))))]; exact wrong1_other2 i e qe qb qc qn w hB hsb hib heb h1 h2 h3 h4
  · rw [if_pos (.inr (.inr (fun z => h3 (congrArg Prod.fst z))))]; exact wrong1_other1 i e qe qb qc qn w hB hsb hib heb h1 h2 h3
set_option maxHeartbeats 4000000 in
set_option maxRecDepth 100000 in
theorem some_wrong {B : Nat} {v : Value} {l : List Cl} (cap : Array Value) (p : Cl → Bool) (J : World → Prop) (w : World) (hr : RowIs w B 103 15 clA v l) (hl : l.length ≤ 1000000) (h0 : J w) (hJ : ∀ W W', J W → Below W.heap.size W W' → J W')
    (hcall : ∀ x W, x ∈ l → J W → Calls Try.prog 55 (#[.agg (clA x)] ++ cap) W fun r W' => r = .returned (.bool (p x)) ∧ Below W.heap.size W W') :
    Calls Try.prog 54 #[v, .func (.func 55) #[] cap] w fun r w' => r = .returned (.bool (l.any p)) ∧ Below w.heap.size w w' := by
  have hu54 := Try.underlying54
  have hu34 := Try.underlying34
  have huT := Try.underlying103
  obtain ⟨A0, c0, rfl, hc0⟩ := hr.form
  have HR := Aside0.mk hr
  have HL := Aside0.mk hl
  have HJ := Aside0.mk hJ
  have HC := Aside0.mk hcall
  have H0 := Aside0.mk h0
  clear hr hl hJ hcall h0 hc0
  go_enter Try.func54, Try.ntmps54
  go_wp2
  go_loopw [9] (fun i wr => ∃ k : Nat, k ≤ l.length ∧ i = .int .i64 k ∧ Aside0 (J wr ∧ Below w.heap.size w wr ∧ (l.take k).any p = false)) (fun i _ => l.length - (intOf i).toNat)
  case atStart => exact ⟨0, by omega, rfl, ⟨H0.out, Below.refl _ _, rfl⟩⟩
  case round =>
    clear H0
    obtain ⟨k, hk, rfl, HI⟩ := hrel
    rcases Nat.lt_or_ge k l.length with hlt | hge
    · have p0 : (0 : Int) ≤ (k : Int) := by omega
      have q0 : (k : Int) < (l.length : Int) := by omega
      obtain ⟨x, hx⟩ : ∃ x, l[k]? = some x := ⟨_, List.getElem?_eq_getElem hlt⟩
      obtain ⟨g, cp, hv, hcp, hgl, hcell⟩ := (HR.out.below HI.out.2.1).at_ (fun _ => rfl) hx
      injection hv with hv1 hv2 hv3
      subst hv1
      have HM := Aside0.mk (get_mem hx)
      have HT := Aside0.mk (show (l.take (k + 1)).any p = ((l.take k).any p || p x) by
        obtain ⟨h1, h2⟩ := List.getElem?_eq_some_iff.1 hx
        rw [List.take_succ_eq_append_getElem h1, List.any_append, h2]; simp)
      have hnn : wrap64 ((k : Int) + 1) = ((k + 1 : Nat) : Int) := by have := HL.out; unfold wrap64; omega
      have c0 := hcell 0 (by decide)
      have c1 := hcell 1 (by decide)
      have c2 := hcell 2 (by decide)
      have c3 := hcell 3 (by decide)
      have c4 := hcell 4 (by decide)
      have c5 := hcell 5 (by decide)
      have c6 := hcell 6 (by decide)
      have c7 := hcell 7 (by decide)
      have c8 := hcell 8 (by decide)
      have c9 := hcell 9 (by decide)
      have c10 := hcell 10 (by decide)
      have c11 := hcell 11 (by decide)
      have c12 := hcell 12 (by decide)
      have c13 := hcell 13 (by decide)
      have c14 := hcell 14 (by decide)
      rw [Nat.add_zero] at c0
      replace q0 := eq_true q0
      replace p0 := eq_true p0
      clear hcell hx hv2 hv3
      have HCC : Aside0 (∀ W, J W → Calls Try.prog 55 (#[.agg (clA x)] ++ cap) W fun r W' => r = .returned (.bool (p x)) ∧ Below W.heap.size W W') := ⟨fun W hW => HC.out x W HM.out hW⟩
      have HJ1 : Aside0 (J (wr.alloc (.cells (clA x) 103))) := ⟨HJ.out _ _ HI.out.1 (below_alloc (Below.refl _ _) _)⟩
      cases hp : p x with
      | true =>
        rw [hp] at HCC
        have HE := Aside0.mk (show l.any p = true by rw [List.any_eq_true]; exact ⟨x, HM.out, hp⟩)
        clear hp
        go_wp2_with (go_at_call 55; (with_reducible refine (HCC.out _ HJ1.out).mono ?_); rintro r w2 ⟨rfl, hb⟩; have HB2 := Aside0.mk (below_step (below_alloc HI.out.2.1 _) hb); clear hb)
        go_ret
        exact ⟨by rw [HE.out]; rfl, HB2.out⟩
      | false =>
        rw [hp] at HCC
        rw [hp] at HT
        clear hp
        go_wp2_with (go_at_call 55; (with_reducible refine (HCC.out _ HJ1.out).mono ?_); rintro r w2 ⟨rfl, hb⟩; have HB2 := Aside0.mk (below_step (below_alloc HI.out.2.1 _) hb); have HJ2 := Aside0.mk (HJ.out _ _ HJ1.out hb); clear hb)
        go_roundw
        case rel => exact ⟨k + 1, by omega, by first | rw [hnn] | simp, ⟨HJ2.out, HB2.out, by rw [HT.out, HI.out.2.2]; rfl⟩⟩
        case measure => first | (rw [hnn]; simp [intOf]; omega) | (simp [intOf]; omega)
    · have q0 : ((k : Int) < (l.length : Int)) = False := eq_false (by omega)
      have HE := Aside0.mk (show l.any p = false by rw [← HI.out.2.2, List.take_of_length_le (by omega)])
      clear hk hge
      go_wp2
      go_ret
      exact ⟨by rw [HE.out]; rfl, HI.out.2.1⟩
end Go.Proofs.Ythniclbmpeklmaa.Au
end
section
namespace Go.Proofs.Ythniclbmpeklmaa.Au
open Go.RowKit Go.Maps Go.Proofs.YthniclbmpeklmaaW.PrintWords Go.Proofs.YthniclbmpeklmaaW.PrintLast Go.Proofs.YthniclbmpeklmaaW.PrintMore Go.Proofs.Ythniclbmpeklmaa.Mp
set_option linter.unusedVariables false
set_option linter.unusedSimpArgs false
def FirstPost (p : Nat → Bool) (n : Nat) (I : Nat → World → Prop) (e : Ending) (w' : World) : Prop := e = .returned (.int .i64 (oI (firstN p n))) ∧ ∃ i, I i w'
set_option maxHeartbeats 4000000 in
set_option maxRecDepth 100000 in
theorem first_twice {B b n m1 m2 : Nat} {s : Story} {vl vv vc : Value} (cap : Array Value) (kind : Int) (p : Nat → Bool) (I : Nat → World → Prop) (hn : s.l.length ≤ 1000000)
    (hS : ∀ i W, I i W → StIs W B b n s vl vv vc m1 m2)
    (hB : ∀ i W W', I i W → Below W.heap.size W W' → I i W')
    (hskip : ∀ (i : Nat) e W, s.l[i]? = some e → e.k ≠ kind → I i W → I (i + 1) W ∧ p i = false)
    (hcall : ∀ (i : Nat) e W, s.l[i]? = some e → e.k = kind → I i W → Calls Try.prog 49 (#[.int .i64 (i : Int), .agg (evA e)] ++ cap) W fun r W' => r = .returned (.bool (p i)) ∧ I (i + 1) W') (w : World) (h0 : I 0 w) :
    Calls Try.prog 48 #[.pointer (some ⟨b, 0, none⟩), .int .i64 kind, .func (.func 49) #[] cap] w (FirstPost p s.l.length I) := by
  have hu97 := Try.underlying97
  have hu54 := Try.underlying54
  obtain ⟨A0, c0, rfl, hc0⟩ := (hS 0 w h0).rl.form
  have hlt := (hS 0 w h0).lt
  have hc := fun i => (hS 0 w h0).cell i
  have HS := Aside0.mk hS
  have HB := Aside0.mk hB
  have HK := Aside0.mk hskip
  have HC := Aside0.mk hcall
  have HN := Aside0.mk hn
  have HI := Aside0.mk h0
  clear hS hB hskip hcall h0 hn hc0
  go_enter Try.func48, Try.ntmps48
  go_wp2
  go_loopw [14] (fun i wr => ∃ k : Nat, k ≤ s.l.length ∧ i = .int .i64 k ∧ Aside0 (I k wr ∧ firstN p k = none)) (fun i _ => s.l.length - (intOf i).toNat)
  case atStart => exact ⟨0, by omega, rfl, ⟨HI.out, rfl⟩⟩
  case round =>
    clear HI hlt hc
    obtain ⟨k, hk, rfl, HI⟩ := hrel
    rcases Nat.lt_or_ge k s.l.length with hlt | hge
    · have p0 : (0 : Int) ≤ (k : Int) := by omega
      have q0 : (k : Int) < (s.l.length : Int) := by omega
      obtain ⟨e, he⟩ : ∃ e, s.l[k]? = some e := ⟨_, List.getElem?_eq_getElem hlt⟩
      obtain ⟨g, cp, hv, hcp, hgl, hcell⟩ := (HS.out k wr HI.out.1).rl.at_ (fun _ => rfl) he
      injection hv with hv1 hv2 hv3
      subst hv1
      have HE := Aside0.mk he
      have hnn : wrap64 ((k : Int) + 1) = ((k + 1 : Nat) : Int) := by have := HN.out; unfold wrap64; omega
      have c0 := hcell 0 (by decide)
      have c1 := hcell 1 (by decide)
      have c2 := hcell 2 (by decide)
      have c3 := hcell 3 (by decide)
      have c4 := hcell 4 (by decide)
      have c5 := hcell 5 (by decide)
      have c6 := hcell 6 (by decide)
      have c7 := hcell 7 (by decide)
      have c8 := hcell 8 (by decide)
      have c9 := hcell 9 (by decide)
      have c10 := hcell 10 (by decide)
      have c11 := hcell 11 (by decide)
      rw [Nat.add_zero] at c0
      replace q0 := eq_true q0
      replace p0 := eq_true p0
      clear hcell he hv2 hv3
      by_cases hkd : e.k = kind
      · have HCC : Aside0 (∀ W, I k W → Calls Try.prog 49 (#[.int .i64 (k : Int), .agg (evA e)] ++ cap) W fun r W' => r = .returned (.bool (p k)) ∧ I (k + 1) W') := ⟨fun W hW => HC.out k e W HE.out hkd hW⟩
        have hkd' : (e.k == kind) = true := beq_iff_eq.2 hkd
        have HB1 : Aside0 (I k (wr.alloc (.cells (evA e) 54))) := ⟨HB.out k _ _ HI.out.1 (below_alloc (Below.refl _ _) _)⟩
        clear hkd
        cases hp : p k with
        | true =>
          rw [hp] at HCC
          go_wp2_with (go_at_call 49; (with_reducible refine (HCC.out _ HB1.out).mono ?_); rintro r w2 ⟨rfl, hI2⟩; have HI2 := Aside0.mk hI2; clear hI2)
          go_ret
          exact ⟨by rw [firstN_mk hlt hp (firstN_none HI.out.2)]; rfl, _, HI2.out⟩
        | false =>
          rw [hp] at HCC
          go_wp2_with (go_at_call 49; (with_reducible refine (HCC.out _ HB1.out).mono ?_); rintro r w2 ⟨rfl, hI2⟩; have HI2 := Aside0.mk hI2; clear hI2)
          go_roundw
          case rel => exact ⟨k + 1, by omega, by first | rw [hnn] | simp, ⟨HI2.out, by rw [firstN_succ_none HI.out.2, hp]; rfl⟩⟩
          case measure => first | (rw [hnn]; simp [intOf]; omega) | (simp [intOf]; omega)
      · have hkd' : (e.k == kind) = false := beq_eq_false_iff_ne.2 hkd
        have HB1 := Aside0.mk (HK.out k e wr HE.out hkd HI.out.1)
        clear hkd
        go_wp2
        go_roundw
        case rel => exact ⟨k + 1, by omega, by first | rw [hnn] | simp, ⟨HB.out (k + 1) _ _ HB1.out.1 (below_alloc (Below.refl _ _) _), by rw [firstN_succ_none HI.out.2, HB1.out.2]; rfl⟩⟩
        case measure => first | (rw [hnn]; simp [intOf]; omega) | (simp [intOf]; omega)
    · have q0 : ((k : Int) < (s.l.length : Int)) = False := eq_false (by omega)
      have hkl : k = s.l.length := by omega
      have HKL := Aside0.mk hkl
      clear hkl
      go_wp2
      go_ret
      exact ⟨by rw [← HKL.out, HI.out.2]; rfl, _, HI.out.1⟩
set_option maxHeartbeats 4000000 in
set_option maxRecDepth 100000 in
theorem first_early {B b n m1 m2 : Nat} {s : Story} {vl vv vc : Value} (cap : Array Value) (kind : Int) (p : Nat → Bool) (I : Nat → World → Prop) (hn : s.l.length ≤ 1000000)
    (hS : ∀ i W, I i W → StIs W B b n s vl vv vc m1 m2)
    (hB : ∀ i W W', I i W → Below W.heap.size W W' → I i W')
    (hskip : ∀ (i : Nat) e W, s.l[i]? = some e → e.k ≠ kind → I i W → I (i + 1) W ∧ p i = false)
    (hcall : ∀ (i : Nat) e W, s.l[i]? = some e → e.k = kind → I i W → Calls Try.prog 51 (#[.int .i64 (i : Int), .agg (evA e)] ++ cap) W fun r W' => r = .returned (.bool (p i)) ∧ I (i + 1) W') (w : World) (h0 : I 0 w) :
    Calls Try.prog 48 #[.pointer (some ⟨b, 0, none⟩), .int .i64 kind, .func (.func 51) #[] cap] w (FirstPost p s.l.length I) := by
  have hu97 := Try.underlying97
  have hu54 := Try.underlying54
  obtain ⟨A0, c0, rfl, hc0⟩ := (hS 0 w h0).rl.form
  have hlt := (hS 0 w h0).lt
  have hc := fun i => (hS 0 w h0).cell i
  have HS := Aside0.mk hS
  have HB := Aside0.mk hB
  have HK := Aside0.mk hskip
  have HC := Aside0.mk hcall
  have HN := Aside0.mk hn
  have HI := Aside0.mk h0
  clear hS hB hskip hcall h0 hn hc0
  go_enter Try.func48, Try.ntmps48
  go_wp2
  go_loopw [14] (fun i wr => ∃ k : Nat, k ≤ s.l.length ∧ i = .int .i64 k ∧ Aside0 (I k wr ∧ firstN p k = none)) (fun i _ => s.l.length - (intOf i).toNat)
  case atStart => exact ⟨0, by omega, rfl, ⟨HI.out, rfl⟩⟩
  case round =>
    clear HI hlt hc
    obtain ⟨k, hk, rfl, HI⟩ := hrel
    rcases Nat.lt_or_ge k s.l.length with hlt | hge
    · have p0 : (0 : Int) ≤ (k : Int) := by omega
      have q0 : (k : Int) < (s.l.length : Int) := by omega
      obtain ⟨e, he⟩ : ∃ e, s.l[k]? = some e := ⟨_, List.getElem?_eq_getElem hlt⟩
      obtain ⟨g, cp, hv, hcp, hgl, hcell⟩ := (HS.out k wr HI.out.1).rl.at_ (fun _ => rfl) he
      injection hv with hv1 hv2 hv3
      subst hv1
      have HE := Aside0.mk he
      have hnn : wrap64 ((k : Int) + 1) = ((k + 1 : Nat) : Int) := by have := HN.out; unfold wrap64; omega
      have c0 := hcell 0 (by decide)
      have c1 := hcell 1 (by decide)
      have c2 := hcell 2 (by decide)
      have c3 := hcell 3 (by decide)
      have c4 := hcell 4 (by decide)
      have c5 := hcell 5 (by decide)
      have c6 := hcell 6 (by decide)
      have c7 := hcell 7 (by decide)
      have c8 := hcell 8 (by decide)
      have c9 := hcell 9 (by decide)
      have c10 := hcell 10 (by decide)
      have c11 := hcell 11 (by decide)
      rw [Nat.add_zero] at c0
      replace q0 := eq_true q0
      replace p0 := eq_true p0
      clear hcell he hv2 hv3
      by_cases hkd : e.k = kind
      · have HCC : Aside0 (∀ W, I k W → Calls Try.prog 51 (#[.int .i64 (k : Int), .agg (evA e)] ++ cap) W fun r W' => r = .returned (.bool (p k)) ∧ I (k + 1) W') := ⟨fun W hW => HC.out k e W HE.out hkd hW⟩
        have hkd' : (e.k == kind) = true := beq_iff_eq.2 hkd
        have HB1 : Aside0 (I k (wr.alloc (.cells (evA e) 54))) := ⟨HB.out k _ _ HI.out.1 (below_alloc (Below.refl _ _) _)⟩
        clear hkd
        cases hp : p k with
        | true =>
          rw [hp] at HCC
          go_wp2_with (go_at_call 51; (with_reducible refine (HCC.out _ HB1.out).mono ?_); rintro r w2 ⟨rfl, hI2⟩; have HI2 := Aside0.mk hI2; clear hI2)
          go_ret
          exact ⟨by rw [firstN_mk hlt hp (firstN_none HI.out.2)]; rfl, _, HI2.out⟩
        | false =>
          rw [hp] at HCC
          go_wp2_with (go_at_call 51; (with_reducible refine (HCC.out _ HB1.out).mono ?_); rintro r w2 ⟨rfl, hI2⟩; have HI2 := Aside0.mk hI2; clear hI2)
          go_roundw
          case rel => exact ⟨k + 1, by omega, by first | rw [hnn] | simp, ⟨HI2.out, by rw [firstN_succ_none HI.out.2, hp]; rfl⟩⟩
          case measure => first | (rw [hnn]; simp [intOf]; omega) | (simp [intOf]; omega)
      · have hkd' : (e.k == kind) = false := beq_eq_false_iff_ne.2 hkd
        have HB1 := Aside0.mk (HK.out k e wr HE.out hkd HI.out.1)
        clear hkd
        go_wp2
        go_roundw
        case rel => exact ⟨k + 1, by omega, by first | rw [hnn] | simp, ⟨HB.out (k + 1) _ _ HB1.out.1 (below_alloc (Below.refl _ _) _), by rw [firstN_succ_none HI.out.2, HB1.out.2]; rfl⟩⟩
        case measure => first | (rw [hnn]; simp [intOf]; omega) | (simp [intOf]; omega)
    · have q0 : ((k : Int) < (s.l.length : Int)) = False := eq_false (by omega)
      have hkl : k = s.l.length := by omega
      have HKL := Aside0.mk hkl
      clear hkl
      go_wp2
      go_ret
      exact ⟨by rw [← HKL.out, HI.out.2]; rfl, _, HI.out.1⟩
set_option maxHeartbeats 4000000 in
set_option maxRecDepth 100000 in
theorem first_wrong {B b n m1 m2 : Nat} {s : Story} {vl vv vc : Value} (cap : Array Value) (kind : Int) (p : Nat → Bool) (I : Nat → World → Prop) (hn : s.l.length ≤ 1000000)
    (hS : ∀ i W, I i W → StIs W B b n s vl vv vc m1 m2)
    (hB : ∀ i W W', I i W → Below W.heap.size W W' → I i W')
    (hskip : ∀ (i : Nat) e W, s.l[i]? = some e → e.k ≠ kind → I i W → I (i + 1) W ∧ p i = false)
    (hcall : ∀ (i : Nat) e W, s.l[i]? = some e → e.k = kind → I i W → Calls Try.prog 53 (#[.int .i64 (i : Int), .agg (evA e)] ++ cap) W fun r W' => r = .returned (.bool (p i)) ∧ I (i + 1) W') (w : World) (h0 : I 0 w) :
    Calls Try.prog 48 #[.pointer (some ⟨b, 0, none⟩), .int .i64 kind, .func (.func 53) #[] cap] w (FirstPost p s.l.length I) := by
  have hu97 := Try.underlying97
  have hu54 := Try.underlying54
  obtain ⟨A0, c0, rfl, hc0⟩ := (hS 0 w h0).rl.form
  have hlt := (hS 0 w h0).lt
  have hc := fun i => (hS 0 w h0).cell i
  have HS := Aside0.mk hS
  have HB := Aside0.mk hB
  have HK := Aside0.mk hskip
  have HC := Aside0.mk hcall
  have HN := Aside0.mk hn
  have HI := Aside0.mk h0
  clear hS hB hskip hcall h0 hn hc0
  go_enter Try.func48, Try.ntmps48
  go_wp2
  go_loopw [14] (fun i wr => ∃ k : Nat, k ≤ s.l.length ∧ i = .int .i64 k ∧ Aside0 (I k wr ∧ firstN p k = none)) (fun i _ => s.l.length - (intOf i).toNat)
  case atStart => exact ⟨0, by omega, rfl, ⟨HI.out, rfl⟩⟩
  case round =>
    clear HI hlt hc
    obtain ⟨k, hk, rfl, HI⟩ := hrel
    rcases Nat.lt_or_ge k s.l.length with hlt | hge
    · have p0 : (0 : Int) ≤ (k : Int) := by omega
      have q0 : (k : Int) < (s.l.length : Int) := by omega
      obtain ⟨e, he⟩ : ∃ e, s.l[k]? = some e := ⟨_, List.getElem?_eq_getElem hlt⟩
      obtain ⟨g, cp, hv, hcp, hgl, hcell⟩ := (HS.out k wr HI.out.1).rl.at_ (fun _ => rfl) he
      injection hv with hv1 hv2 hv3
      subst hv1
      have HE := Aside0.mk he
      have hnn : wrap64 ((k : Int) + 1) = ((k + 1 : Nat) : Int) := by have := HN.out; unfold wrap64; omega
      have c0 := hcell 0 (by decide)
      have c1 := hcell 1 (by decide)
      have c2 := hcell 2 (by decide)
      have c3 := hcell 3 (by decide)
      have c4 := hcell 4 (by decide)
      have c5 := hcell 5 (by decide)
      have c6 := hcell 6 (by decide)
      have c7 := hcell 7 (by decide)
      have c8 := hcell 8 (by decide)
      have c9 := hcell 9 (by decide)
      have c10 := hcell 10 (by decide)
      have c11 := hcell 11 (by decide)
      rw [Nat.add_zero] at c0
      replace q0 := eq_true q0
      replace p0 := eq_true p0
      clear hcell he hv2 hv3
      by_cases hkd : e.k = kind
      · have HCC : Aside0 (∀ W, I k W → Calls Try.prog 53 (#[.int .i64 (k : Int), .agg (evA e)] ++ cap) W fun r W' => r = .returned (.bool (p k)) ∧ I (k + 1) W') := ⟨fun W hW => HC.out k e W HE.out hkd hW⟩
        have hkd' : (e.k == kind) = true := beq_iff_eq.2 hkd
        have HB1 : Aside0 (I k (wr.alloc (.cells (evA e) 54))) := ⟨HB.out k _ _ HI.out.1 (below_alloc (Below.refl _ _) _)⟩
        clear hkd
        cases hp : p k with
        | true =>
          rw [hp] at HCC
          go_wp2_with (go_at_call 53; (with_reducible refine (HCC.out _ HB1.out).mono ?_); rintro r w2 ⟨rfl, hI2⟩; have HI2 := Aside0.mk hI2; clear hI2)
          go_ret
          exact ⟨by rw [firstN_mk hlt hp (firstN_none HI.out.2)]; rfl, _, HI2.out⟩
        | false =>
          rw [hp] at HCC
          go_wp2_with (go_at_call 53; (with_reducible refine (HCC.out _ HB1.out).mono ?_); rintro r w2 ⟨rfl, hI2⟩; have HI2 := Aside0.mk hI2; clear hI2)
          go_roundw
          case rel => exact ⟨k + 1, by omega, by first | rw [hnn] | simp, ⟨HI2.out, by rw [firstN_succ_none HI.out.2, hp]; rfl⟩⟩
          case measure => first | (rw [hnn]; simp [intOf]; omega) | (simp [intOf]; omega)
      · have hkd' : (e.k == kind) = false := beq_eq_false_iff_ne.2 hkd
        have HB1 := Aside0.mk (HK.out k e wr HE.out hkd HI.out.1)
        clear hkd
        go_wp2
        go_roundw
        case rel => exact ⟨k + 1, by omega, by first | rw [hnn] | simp, ⟨HB.out (k + 1) _ _ HB1.out.1 (below_alloc (Below.refl _ _) _), by rw [firstN_succ_none HI.out.2, HB1.out.2]; rfl⟩⟩
        case measure => first | (rw [hnn]; simp [intOf]; omega) | (simp [intOf]; omega)
    · have q0 : ((k : Int) < (s.l.length : Int)) = False := eq_false (by omega)
      have hkl : k = s.l.length := by omega
      have HKL := Aside0.mk hkl
      clear hkl
      go_wp2
      go_ret
      exact ⟨by rw [← HKL.out, HI.out.2]; rfl, _, HI.out.1⟩
end Go.Proofs.Ythniclbmpeklmaa.Au
end
section
namespace Go.Proofs.Ythniclbmpeklmaa.Au
open Go.RowKit Go.Maps Go.Proofs.YthniclbmpeklmaaW.PrintWords Go.Proofs.YthniclbmpeklmaaW.PrintLast Go.Proofs.YthniclbmpeklmaaW.PrintMore Go.Proofs.Ythniclbmpeklmaa.Mp
set_option linter.unusedVariables false
set_option linter.unusedSimpArgs false
/-- What the closures of Wrong see. -/
structure Jw (W : World) (B b n m1 m2 sb ib eb i : Nat) (s : Story) (vl vv vc : Value) (e : Ev) : Prop where
  st : StIs W B b n s vl vv vc m1 m2
  sb_ : W.heap[sb]? = some (.cells #[.pointer (some ⟨b, 0, none⟩)] 87 (0, 0))
  ib_ : W.heap[ib]? = some (.cells #[.int .i64 (i : Int)] 3 (0, 0))
  eb_ : W.heap[eb]? = some (.cells (evA e) 54 (0, 0))
theorem Jw.below {W W' : World} {B b n m1 m2 sb ib eb i : Nat} {s : Story} {vl vv vc : Value} {e : Ev} (h : Jw W B b n m1 m2 sb ib eb i s vl vv vc e) (hb : Below W.heap.size W W') : Jw W' B b n m1 m2 sb ib eb i s vl vv vc e :=
  ⟨h.st.below hb, blk_below h.sb_ hb, blk_below h.ib_ hb, blk_below h.eb_ hb⟩
set_option maxHeartbeats 4000000 in
set_option maxRecDepth 100000 in
theorem wrong_any {B b n m1 m2 sb : Nat} {s : Story} {vl vv vc : Value} (i : Nat) (e : Ev) (w : World) (hB : StIs w B b n s vl vv vc m1 m2) (hsb : w.heap[sb]? = some (.cells #[.pointer (some ⟨b, 0, none⟩)] 87 (0, 0))) (hi : i < s.l.length) (hl : s.calls.length ≤ 1000000) :
    Calls Try.prog 53 #[.int .i64 (i : Int), .agg (evA e), .pointer (some ⟨sb, 0, none⟩)] w fun r w' => r = .returned (.bool (wrongC s i e)) ∧ Below w.heap.size w w' := by
  have hu97 := Try.underlying97
  have hmf : ∀ (fn : Fn) (first cap : Array Value) (w : World), (Instr.makeFunc fn first cap).run Try.prog w = .ok (.func fn first cap) w := fun _ _ _ _ => rfl
  have HJ := Aside0.mk (show Jw ((w.alloc (.cells #[.int .i64 (i : Int)] 3)).alloc (.cells (evA e) 54)) B b n m1 m2 sb w.heap.size (w.heap.size + 1) i s vl vv vc e from ⟨(hB.alloc _).alloc _, blk_alloc (blk_alloc hsb _) _, blk_alloc (blk_new _ _) _, two_alloc _ _ _⟩)
  have CS : Aside0 (∀ W, Jw W B b n m1 m2 sb w.heap.size (w.heap.size + 1) i s vl vv vc e → Calls Try.prog 54 #[vc, .func (.func 55) #[] #[.pointer (some ⟨w.heap.size, 0, none⟩), .pointer (some ⟨w.heap.size + 1, 0, none⟩), .pointer (some ⟨sb, 0, none⟩)]] W fun r w' => r = .returned (.bool (wrongC s i e)) ∧ Below W.heap.size W w') :=
    ⟨fun W hJ => some_wrong _ (wrongC1 s i e) (fun W => Jw W B b n m1 m2 sb w.heap.size (w.heap.size + 1) i s vl vv vc e) W hJ.st.rc hl hJ (fun _ _ h hb => h.below hb) (fun q W' _ h => wrong1_any i e q W' h.st h.sb_ h.ib_ h.eb_ hi)⟩
  have HBL := Aside0.mk (below_alloc (below_alloc (Below.refl w.heap.size w) (.cells #[.int .i64 (i : Int)] 3)) (.cells (evA e) 54))
  have hlt := hB.lt
  have hls := blk_lt hsb
  have hc := fun i => hB.cell i
  have hcs := fun i => blk_cell hsb i
  clear hB hsb hi hl
  go_enter Try.func53, Try.ntmps53
  go_wp2_with (go_at_call 54; (with_reducible refine (CS.out _ HJ.out).mono ?_); rintro r w2 ⟨rfl, hb⟩; have HB2 := Aside0.mk (below_step HBL.out hb); clear hb)
  go_ret
  exact ⟨rfl, HB2.out⟩
/-- What Early and Wrong ask of a place. -/
def earlyF (g : Nat → Ev) (n : Nat) (i : Nat) : Bool := (g i).k == 4 && earlyC (storyN g n) i (g i)
def wrongF (g : Nat → Ev) (n : Nat) (i : Nat) : Bool := (g i).k == 4 && wrongC (storyN g n) i (g i)
theorem early_eq (g : Nat → Ev) (n : Nat) (hn : (n : Int) < noEnd) : firstN (earlyF g n) n = firstN (earlyP g) n := firstN_congr fun i hi => by
  unfold earlyF
  by_cases hk : (g i).k = 4
  · rw [beq_iff_eq.2 hk, Bool.true_and, early_is (inv_all g n hn) hi hk]
  · unfold earlyP; rw [beq_eq_false_iff_ne.2 hk]; rfl
theorem wrong_eq (g : Nat → Ev) (n : Nat) (hn : (n : Int) < noEnd) : firstN (wrongF g n) n = firstN (wrongP g) n := firstN_congr fun i hi => by
  unfold wrongF
  by_cases hk : (g i).k = 4
  · rw [beq_iff_eq.2 hk, Bool.true_and, wrong_is (inv_all g n hn) hi hk]
  · unfold wrongP; rw [beq_eq_false_iff_ne.2 hk]; rfl
/-- A story and the block of its pointer. -/
structure Js (w W : World) (b n m1 m2 sb : Nat) (s : Story) (vl vv vc : Value) : Prop where
  st : StIs W w.heap.size b n s vl vv vc m1 m2
  sb_ : W.heap[sb]? = some (.cells #[.pointer (some ⟨b, 0, none⟩)] 87 (0, 0))
  below : Below w.heap.size w W
theorem Js.step {w W W' : World} {b n m1 m2 sb : Nat} {s : Story} {vl vv vc : Value} (h : Js w W b n m1 m2 sb s vl vv vc) (hb : Below W.heap.size W W') : Js w W' b n m1 m2 sb s vl vv vc := ⟨h.st.below hb, blk_below h.sb_ hb, below_step h.below hb⟩
theorem wf_g {l : List Ev} (hwf : ∀ e ∈ l, wfE e) {i : Nat} (hi : i < l.length) : wfE (gOf l i) := by
  rw [g_at (List.getElem?_eq_getElem hi)]
  unfold clE
  split
  · exact hwf _ (List.getElem_mem hi)
  · exact ⟨by decide, by decide, by decide, by decide, by decide⟩
theorem get_l {l : List Ev} (hn : l.length ≤ 1000000) {i : Nat} {e : Ev} (h : (storyN (gOf l) l.length).l[i]? = some e) : i < l.length ∧ e = gOf l i := by
  have INV := inv_all (gOf l) l.length (by unfold noEnd; omega)
  have hi : i < l.length := by have := (List.getElem?_eq_some_iff.1 h).1; rw [INV.len] at this; exact this
  exact ⟨hi, Option.some.inj (h.symm.trans (INV.l i hi))⟩
theorem early_clo {l : List Ev} (hn : l.length ≤ 1000000) (hwf : ∀ e ∈ l, wfE e) {w W : World} {b m1 m2 sb : Nat} {vl vv vc : Value} (i : Nat) (e : Ev) (he : (storyN (gOf l) l.length).l[i]? = some e) (hk : e.k = 4) (h : Js w W b l.length m1 m2 sb (storyN (gOf l) l.length) vl vv vc) :
    Calls Try.prog 51 (#[.int .i64 (i : Int), .agg (evA e)] ++ #[.pointer (some ⟨sb, 0, none⟩)]) W fun r W' => r = .returned (.bool (earlyF (gOf l) l.length i)) ∧ Js w W' b l.length m1 m2 sb (storyN (gOf l) l.length) vl vv vc := by
  have INV := inv_all (gOf l) l.length (by unfold noEnd; omega)
  obtain ⟨hi, heq⟩ := get_l hn he
  have hwe : wfE e := by rw [heq]; exact wf_g hwf hi
  have hp : earlyF (gOf l) l.length i = earlyC (storyN (gOf l) l.length) i e := by unfold earlyF; rw [← heq, beq_iff_eq.2 hk, Bool.true_and]
  have ha : (#[.int .i64 (i : Int), .agg (evA e)] ++ #[.pointer (some ⟨sb, 0, none⟩)] : Array Value) = #[.int .i64 (i : Int), .agg (evA e), .pointer (some ⟨sb, 0, none⟩)] := by simp
  have hat1 : ∀ h j, (storyN (gOf l) l.length).at_ h = some j → ∃ x, (storyN (gOf l) l.length).lives[j]? = some x := fun h j q => by obtain ⟨x, hx, _⟩ := INV.v.at1 h j q; exact ⟨x, hx⟩
  have hcl := early_any i e W h.st h.sb_ (keyH _ _ hwe.2.1 hwe.2.2.1) (by omega) hat1
  rw [ha, hp]
  generalize storyN (gOf l) l.length = s at hcl h ⊢
  refine hcl.mono ?_
  rintro r W' ⟨hr, hb⟩
  exact ⟨hr, h.step hb⟩
theorem early_first {l : List Ev} (hn : l.length ≤ 1000000) (hwf : ∀ e ∈ l, wfE e) {w W : World} {b m1 m2 sb : Nat} {vl vv vc : Value} (hJ : Js w W b l.length m1 m2 sb (storyN (gOf l) l.length) vl vv vc) :
    Calls Try.prog 48 #[.pointer (some ⟨b, 0, none⟩), .int .i64 4, .func (.func 51) #[] #[.pointer (some ⟨sb, 0, none⟩)]] W (FirstPost (earlyF (gOf l) l.length) l.length (fun _ W' => Js w W' b l.length m1 m2 sb (storyN (gOf l) l.length) vl vv vc)) := by
  have INV := inv_all (gOf l) l.length (by unfold noEnd; omega)
  have h := first_early #[.pointer (some ⟨sb, 0, none⟩)] 4 (earlyF (gOf l) l.length) (fun _ W' => Js w W' b l.length m1 m2 sb (storyN (gOf l) l.length) vl vv vc) (by rw [INV.len]; exact hn) (fun _ _ h => h.st) (fun _ _ _ h hb => h.step hb)
      (fun i e W he hk h => ⟨h, by unfold earlyF; rw [← (get_l hn he).2, beq_eq_false_iff_ne.2 hk]; rfl⟩)
      (fun i e W he hk h => early_clo hn hwf i e he hk h) W hJ
  rw [INV.len] at h
  exact h
set_option maxHeartbeats 4000000 in
set_option maxRecDepth 100000 in
theorem early_top (A1 : Option Addr) (c1 : Nat) (l : List Ev) (hn : l.length ≤ 1000000) (w : World) (hin : ∀ (i : Nat) e, l[i]? = some e → EvAt w A1 i e) (hwf : ∀ e ∈ l, wfE e) :
    Calls Try.prog 19 #[.slice A1 l.length c1] w fun r w' => r = .returned (.int .i64 (earlyI (gOf l) l.length)) ∧ Below w.heap.size w w' := by
  have hmf : ∀ (fn : Fn) (first cap : Array Value) (w : World), (Instr.makeFunc fn first cap).run Try.prog w = .ok (.func fn first cap) w := fun _ _ _ _ => rfl
  have CR := Aside0.mk (read_any A1 c1 l hn w hin hwf)
  have CF : Aside0 (∀ W b m1 m2 sb vl vv vc, Js w W b l.length m1 m2 sb (storyN (gOf l) l.length) vl vv vc → Calls Try.prog 48 #[.pointer (some ⟨b, 0, none⟩), .int .i64 4, .func (.func 51) #[] #[.pointer (some ⟨sb, 0, none⟩)]] W (FirstPost (earlyF (gOf l) l.length) l.length (fun _ W' => Js w W' b l.length m1 m2 sb (storyN (gOf l) l.length) vl vv vc))) := ⟨fun W b m1 m2 sb vl vv vc hJ => early_first hn hwf hJ⟩
  have HE := Aside0.mk (show oI (firstN (earlyF (gOf l) l.length) l.length) = earlyI (gOf l) l.length by unfold earlyI; rw [early_eq (gOf l) l.length (by unfold noEnd; omega)])
  clear hin hwf
  go_enter Try.func19, Try.ntmps19
  go_wp2_with (first
    | (go_at_call 47; (with_reducible refine CR.out.mono ?_); rintro r w2 ⟨b, m1, m2, vl, vv, vc, rfl, hS, hb⟩; have HJ := Aside0.mk (show Js w (w2.alloc (.cells #[.pointer (some ⟨b, 0, none⟩)] 87)) b l.length m1 m2 w2.heap.size _ vl vv vc from ⟨hS.alloc _, blk_new _ _, below_alloc hb _⟩); clear hS hb)
    | (go_at_call 48; (with_reducible refine (CF.out _ b m1 m2 w2.heap.size vl vv vc HJ.out).mono ?_); rintro r w3 ⟨rfl, k3, hJ3⟩; have HB3 := Aside0.mk hJ3.below; clear hJ3))
  go_ret
  exact ⟨by rw [← HE.out]; rfl, HB3.out⟩
theorem wrong_clo {l : List Ev} (hn : l.length ≤ 1000000) (hwf : ∀ e ∈ l, wfE e) {w W : World} {b m1 m2 sb : Nat} {vl vv vc : Value} (i : Nat) (e : Ev) (he : (storyN (gOf l) l.length).l[i]? = some e) (hk : e.k = 4) (h : Js w W b l.length m1 m2 sb (storyN (gOf l) l.length) vl vv vc) :
    Calls Try.prog 53 (#[.int .i64 (i : Int), .agg (evA e)] ++ #[.pointer (some ⟨sb, 0, none⟩)]) W fun r W' => r = .returned (.bool (wrongF (gOf l) l.length i)) ∧ Js w W' b l.length m1 m2 sb (storyN (gOf l) l.length) vl vv vc := by
  have INV := inv_all (gOf l) l.length (by unfold noEnd; omega)
  obtain ⟨hi, heq⟩ := get_l hn he
  have hwe : wfE e := by rw [heq]; exact wf_g hwf hi
  have hp : wrongF (gOf l) l.length i = wrongC (storyN (gOf l) l.length) i e := by unfold wrongF; rw [← heq, beq_iff_eq.2 hk, Bool.true_and]
  have ha : (#[.int .i64 (i : Int), .agg (evA e)] ++ #[.pointer (some ⟨sb, 0, none⟩)] : Array Value) = #[.int .i64 (i : Int), .agg (evA e), .pointer (some ⟨sb, 0, none⟩)] := by simp
  have hat1 : ∀ h j, (storyN (gOf l) l.length).at_ h = some j → ∃ x, (storyN (gOf l) l.length).lives[j]? = some x := fun h j q => by obtain ⟨x, hx, _⟩ := INV.v.at1 h j q; exact ⟨x, hx⟩
  have hcl := wrong_any i e W h.st h.sb_ (by rw [INV.len]; exact hi) (calls_len _ _ _ hn (Nat.le_refl _))
  rw [ha, hp]
  generalize storyN (gOf l) l.length = s at hcl h ⊢
  refine hcl.mono ?_
  rintro r W' ⟨hr, hb⟩
  exact ⟨hr, h.step hb⟩
theorem wrong_first {l : List Ev} (hn : l.length ≤ 1000000) (hwf : ∀ e ∈ l, wfE e) {w W : World} {b m1 m2 sb : Nat} {vl vv vc : Value} (hJ : Js w W b l.length m1 m2 sb (storyN (gOf l) l.length) vl vv vc) :
    Calls Try.prog 48 #[.pointer (some ⟨b, 0, none⟩), .int .i64 4, .func (.func 53) #[] #[.pointer (some ⟨sb, 0, none⟩)]] W (FirstPost (wrongF (gOf l) l.length) l.length (fun _ W' => Js w W' b l.length m1 m2 sb (storyN (gOf l) l.length) vl vv vc)) := by
  have INV := inv_all (gOf l) l.length (by unfold noEnd; omega)
  have h := first_wrong #[.pointer (some ⟨sb, 0, none⟩)] 4 (wrongF (gOf l) l.length) (fun _ W' => Js w W' b l.length m1 m2 sb (storyN (gOf l) l.length) vl vv vc) (by rw [INV.len]; exact hn) (fun _ _ h => h.st) (fun _ _ _ h hb => h.step hb)
      (fun i e W he hk h => ⟨h, by unfold wrongF; rw [← (get_l hn he).2, beq_eq_false_iff_ne.2 hk]; rfl⟩)
      (fun i e W he hk h => wrong_clo hn hwf i e he hk h) W hJ
  rw [INV.len] at h
  exact h
set_option maxHeartbeats 4000000 in
set_option maxRecDepth 100000 in
theorem wrong_top (A1 : Option Addr) (c1 : Nat) (l : List Ev) (hn : l.length ≤ 1000000) (w : World) (hin : ∀ (i : Nat) e, l[i]? = some e → EvAt w A1 i e) (hwf : ∀ e ∈ l, wfE e) :
    Calls Try.prog 21 #[.slice A1 l.length c1] w fun r w' => r = .returned (.int .i64 (wrongI (gOf l) l.length)) ∧ Below w.heap.size w w' := by
  have hmf : ∀ (fn : Fn) (first cap : Array Value) (w : World), (Instr.makeFunc fn first cap).run Try.prog w = .ok (.func fn first cap) w := fun _ _ _ _ => rfl
  have CR := Aside0.mk (read_any A1 c1 l hn w hin hwf)
  have CF : Aside0 (∀ W b m1 m2 sb vl vv vc, Js w W b l.length m1 m2 sb (storyN (gOf l) l.length) vl vv vc → Calls Try.prog 48 #[.pointer (some ⟨b, 0, none⟩), .int .i64 4, .func (.func 53) #[] #[.pointer (some ⟨sb, 0, none⟩)]] W (FirstPost (wrongF (gOf l) l.length) l.length (fun _ W' => Js w W' b l.length m1 m2 sb (storyN (gOf l) l.length) vl vv vc))) := ⟨fun W b m1 m2 sb vl vv vc hJ => wrong_first hn hwf hJ⟩
  have HE := Aside0.mk (show oI (firstN (wrongF (gOf l) l.length) l.length) = wrongI (gOf l) l.length by unfold wrongI; rw [wrong_eq (gOf l) l.length (by unfold noEnd; omega)])
  clear hin hwf
  go_enter Try.func21, Try.ntmps21
  go_wp2_with (first
    | (go_at_call 47; (with_reducible refine CR.out.mono ?_); rintro r w2 ⟨b, m1, m2, vl, vv, vc, rfl, hS, hb⟩; have HJ := Aside0.mk (show Js w (w2.alloc (.cells #[.pointer (some ⟨b, 0, none⟩)] 87)) b l.length m1 m2 w2.heap.size _ vl vv vc from ⟨hS.alloc _, blk_new _ _, below_alloc hb _⟩); clear hS hb)
    | (go_at_call 48; (with_reducible refine (CF.out _ b m1 m2 w2.heap.size vl vv vc HJ.out).mono ?_); rintro r w3 ⟨rfl, k3, hJ3⟩; have HB3 := Aside0.mk hJ3.below; clear hJ3))
  go_ret
  exact ⟨by rw [← HE.out]; rfl, HB3.out⟩
end Go.Proofs.Ythniclbmpeklmaa.Au
end
section
namespace Go.Proofs.Ythniclbmpeklmaa.Au
open Go.RowKit Go.Maps Go.Proofs.YthniclbmpeklmaaW.PrintWords Go.Proofs.YthniclbmpeklmaaW.PrintLast Go.Proofs.YthniclbmpeklmaaW.PrintMore Go.Proofs.Ythniclbmpeklmaa.Mp
set_option linter.unusedVariables false
set_option linter.unusedSimpArgs false
/-- A map of counts. -/
def cV (cnt : Ha → Nat) : Ha → Option Value := fun h => if cnt h = 0 then none else some (.int .i64 (cnt h : Nat))
theorem cV_at (cnt : Ha → Nat) (h : Ha) : (cV cnt h).getD (.int .i64 0) = .int .i64 (cnt h : Nat) := by
  unfold cV
  by_cases e : cnt h = 0
  · rw [if_pos e, e]; rfl
  · rw [if_neg e]; rfl
def inc (cnt : Ha → Nat) (h : Ha) : Ha → Nat := fun x => if x = h then cnt x + 1 else cnt x
theorem cV_inc (cnt : Ha → Nat) (h : Ha) : (fun l => if l = h then some (.int .i64 ((cnt h : Nat) + 1 : Int)) else cV cnt l) = cV (inc cnt h) := by
  funext l
  unfold cV inc
  by_cases e : l = h
  · subst e; simp
  · simp [e]
theorem lawHK : WideMaps.KeyLaw Try.prog 34 := deep_law_laid laidOut_ (m := 3) (by decide) (of_decide_eq_true (by kernel_rfl)) (by kernel_rfl) (by kernel_rfl)
theorem look_same {w : World} {mf z : Nat} {f : Ha → Option Value} {hn hg : Int} {v : Value} (h : MapIs haV Try.prog 34 w mf z f) {kl : Lit} (hk : keyOf Try.prog 34 (haV (hn, hg)) = some kl) (hv : (f (hn, hg)).getD (.int .i64 0) = v) :
    (Instr.lookup 86 (.map (some mf)) (.agg #[.int .i64 hn, .int .i64 hg]) false).run Try.prog w = .ok v w := by
  have := h.look lawH Try.underlying86 (zeroI w) (x := (hn, hg)) hk
  rw [hv] at this
  exact this
theorem look_c {w : World} {mf z : Nat} {cnt : Ha → Nat} (h : MapIs haV Try.prog 34 w mf z (cV cnt)) {hn hg : Int} {kl : Lit} (hk : keyOf Try.prog 34 (haV (hn, hg)) = some kl) (W : World) (hb : W.heap[mf]? = w.heap[mf]?) :
    (Instr.lookup 86 (.map (some mf)) (.agg #[.int .i64 hn, .int .i64 hg]) false).run Try.prog W = .ok (.int .i64 (cnt (hn, hg) : Nat)) W := look_same (h.move hb) hk (cV_at cnt (hn, hg))
theorem grown_drew {w w1 : World} {r : Option Nat} (h : w.grownBy w1 r) : w.grownBy w1.drew r := ⟨h.os, h.tape, h.output, h.size, h.block⟩
def twiceR.T1 : Bool × List (List Nat × List Nat) := (true, [([], []), ([], []), ([1], [1]), ([0, 2], [0, 2]), ([3], [3]), ([0, 2, 0, 1, 2], [0, 2]), ([5], [5]), ([0, 6, 4, 5, 0, 1, 2, 3, 4, 5, 6], [0, 4, 6])])
def twiceR.B1 : List Nat := [0, 0, 2, 7, 15, 7, 39, 127]
theorem twiceR.tab1 : rtab .any (opsOf Try.f49 1) = twiceR.T1 := by kernel_rfl
theorem twiceR.bits1 : waitsOk twiceR.T1.2 twiceR.B1 = true := by kernel_rfl
/-- The counts in memory. -/
structure Ct (W : World) (fb mf z : Nat) (cnt : Ha → Nat) : Prop where
  fb_ : W.heap[fb]? = some (.cells #[.map (some mf)] 86 (0, 0))
  mf_ : MapIs haV Try.prog 34 W mf z (cV cnt)
set_option maxHeartbeats 4000000 in
set_option maxRecDepth 100000 in
theorem twice_clo1 {fb mf z : Nat} {cnt : Ha → Nat} (i : Nat) (e : Ev) (w : World) (hC : Ct w fb mf z cnt) (hw : ∃ kl, keyOf Try.prog 34 (haV e.h) = some kl) (hz : z ≤ 1000000) (hcb : cnt e.h ≤ 1000000) :
    Calls Try.prog 49 #[.int .i64 (i : Int), .agg (evA e), .pointer (some ⟨fb, 0, none⟩)] w fun r w' => r = .returned (.bool (decide (cnt e.h + 1 > 1))) ∧ (∃ z', z' ≤ z + 1 ∧ Ct w' fb mf z' (inc cnt e.h)) ∧ w.grownBy w' (some mf) := by
  have hu54 := Try.underlying54
  have hu34 := Try.underlying34
  obtain ⟨kl, hkl⟩ := hw
  have HM1 := Aside0.mk (hC.mf_.move (w' := w.alloc (.cells (evA e) 54)) (Below.heap_alloc w _ mf hC.mf_.lt))
  have HF1 := Aside0.mk (blk_alloc hC.fb_ (.cells (evA e) 54))
  have HE1 := Aside0.mk (blk_new w (.cells (evA e) 54))
  have HZ := Aside0.mk hz
  have HCB := Aside0.mk hcb
  obtain ⟨_, _, qm⟩ := HM1.out.block
  have HNF := Aside0.mk (map_ne HF1.out qm)
  have HNE := Aside0.mk (map_ne HE1.out qm)
  have hlf := blk_lt hC.fb_
  clear hC hz hcb qm
  have hww : wrap64 ((cnt e.h : Nat) + 1) = ((cnt e.h : Nat) + 1 : Int) := by have := HCB.out; unfold wrap64; omega
  have HWW := Aside0.mk hww
  clear hww
  go_enter Try.func49, Try.ntmps49
  go_upto_region 1 with (fail)
  refine start_ (n := 8) (S := (fun w' => (∀ i, w'.cell? ⟨fb, i, none⟩ = (#[.map (some mf)] : Array Value)[i]?) ∧ (∀ i, w'.cell? ⟨w.heap.size, i, none⟩ = (evA e)[i]?) ∧ (Instr.lookup 86 (.map (some mf)) (.agg #[.int .i64 e.hn, .int .i64 e.hg]) false).run Try.prog w' = .ok (.int .i64 (cnt e.h : Nat)) w')) (ds := [7]) #[false, false, false, false, false, false, false, false] (by kernel_rfl) rfl rfl ⟨fun i => blk_cell HF1.out i, fun i => blk_cell HE1.out i, look_c HM1.out hkl _ rfl⟩ (fun hHeld => ?_)
  refine with_tabW twiceR.tab1 twiceR.bits1 (fun HT_ HW_ => ?_)
  have HM3 := Aside0.mk (HM1.out.move (w' := (w.alloc (.cells (evA e) 54)).drew) rfl)
  have HF3 := Aside0.mk (blk_drew HF1.out)
  have HE3 := Aside0.mk (blk_drew HE1.out)
  have HG3 := Aside0.mk (grown_drew (World.grownBy_alloc w (.cells (evA e) 54) (some mf)))
  generalize (w.alloc (.cells (evA e) 54)).drew = w3 at HM3 HF3 HE3 HG3 hHeld ⊢
  refine pure_ (i := 1) (N := (some 7)) (v := ?_) (a' := ?_) #[false, true, false, false, false, false, false, false] rfl rfl (any_of HT_.out (by kernel_rfl)) (fun _ _ _ h => h) (Or.inl ⟨by rfl, ?_⟩) ?_ ?_
  rotate_left
  · intro w'
    go_simp
    with_reducible rfl
  rotate_left
  · simp only [Act.put, List.setIfInBounds_toArray, List.set_cons_zero, List.set_cons_succ, i64_w, i32_w]
    rfl
  refine take_ (i := 0) (N := (some 6)) (v := ?_) (a' := ?_) #[true, true, false, false, false, false, false, false] rfl rfl (take_ofW HT_.out HW_.out (by kernel_rfl)) (fun _ _ _ h => h) (Or.inl ⟨by rfl, ?_⟩) hHeld ?_ ?_
  rotate_left
  · rintro w' ⟨s0, s1, s2⟩
    go_simp
    with_reducible rfl
  rotate_left
  · simp only [Act.put, List.setIfInBounds_toArray, List.set_cons_zero, List.set_cons_succ, i64_w, i32_w]
    rfl
  refine take_ (i := 2) (N := (some 8)) (v := ?_) (a' := ?_) #[true, true, true, false, false, false, false, false] rfl rfl (take_ofW HT_.out HW_.out (by kernel_rfl)) (fun _ _ _ h => h) (Or.inl ⟨by rfl, ?_⟩) hHeld ?_ ?_
  rotate_left
  · rintro w' ⟨s0, s1, s2⟩
    go_simp
    with_reducible rfl
  rotate_left
  · simp only [Act.put, List.setIfInBounds_toArray, List.set_cons_zero, List.set_cons_succ, i64_w, i32_w]
    rfl
  refine take_ (i := 3) (N := (some 9)) (v := ?_) (a' := ?_) #[true, true, true, true, false, false, false, false] rfl rfl (take_ofW HT_.out HW_.out (by kernel_rfl)) (fun _ _ _ h => h) (Or.inl ⟨by rfl, ?_⟩) hHeld ?_ ?_
  rotate_left
  · rintro w' ⟨s0, s1, s2⟩
    go_simp
    with_reducible rfl
  rotate_left
  · simp only [Act.put, List.setIfInBounds_toArray, List.set_cons_zero, List.set_cons_succ, i64_w, i32_w]
    rfl
  refine pure_ (i := 4) (N := (some 10)) (v := ?_) (a' := ?_) #[true, true, true, true, true, false, false, false] rfl rfl (any_of HT_.out (by kernel_rfl)) (fun _ _ _ h => h) (Or.inl ⟨by rfl, ?_⟩) ?_ ?_
  rotate_left
  · intro w'
    go_simp
    with_reducible rfl
  rotate_left
  · simp only [Act.put, List.setIfInBounds_toArray, List.set_cons_zero, List.set_cons_succ, i64_w, i32_w]
    rfl
  refine one_ (i := 5) (N := (some 11)) #[true, true, true, true, true, true, false, false] rfl rfl (one_of HT_.out (by kernel_rfl)) (by decide) (fun K hK => ?_)
  obtain ⟨v0, st, w4, hrun, hg, ⟨s1, f1, hm1, hf1⟩, hst⟩ := HM3.out.entry ha_inj lawHK Try.underlying86 (fun u => zeroI u) (by unfold maxLen; have := HZ.out; omega) (x := e.h) hkl
  have HST := Aside0.mk hst
  have HG4 := Aside0.mk hg
  have HF4 := Aside0.mk (blk_grown HF3.out hg (fun q => HNF.out (Option.some.inj q)))
  have HE4 := Aside0.mk (blk_grown HE3.out hg (fun q => HNE.out (Option.some.inj q)))
  have HL4 := Aside0.mk (look_same hm1 hkl (hf1.trans (cV_at cnt e.h)))
  clear hst hg hm1 hf1
  refine value_ (by rfl) rfl (v := .tuple #[v0, goInt st]) (w1 := w4) (by first | (simp [execOp, Act.eval, hrun, Result.andThen]; done) | (go_simp; done)) ?_
  clear hrun
  refine hK.out _ _ ⟨fun i => blk_cell HF4.out i, fun i => blk_cell HE4.out i, HL4.out⟩ (fun hHeld => ?_)
  clear hK K
  refine norm_ (a' := ?_) ?_ ?_
  rotate_left
  · show Act.put _ (some 11) _ = _
    simp only [Act.put, List.setIfInBounds_toArray, List.set_cons_zero, List.set_cons_succ, i64_w, i32_w]
    rfl
  refine pure_ (i := 6) (N := (some 12)) (v := ?_) (a' := ?_) #[true, true, true, true, true, true, true, false] rfl rfl (any_of HT_.out (by kernel_rfl)) (fun _ _ _ h => h) (Or.inl ⟨by rfl, ?_⟩) ?_ ?_
  rotate_left
  · intro w'
    go_simp
    with_reducible rfl
  rotate_left
  · simp only [Act.put, List.setIfInBounds_toArray, List.set_cons_zero, List.set_cons_succ, i64_w, i32_w]
    rfl
  refine last_ (i := 7) (N := none) #[true, true, true, true, true, true, true, true] rfl rfl (one_of HT_.out (by kernel_rfl)) (by decide) (fun K hK => ?_)
  obtain ⟨w5, hrun, hm5, hg5⟩ := HST.out w4 (.int .i64 (wrap64 ((cnt e.h : Nat) + 1))) rfl
  have HM5 := Aside0.mk hm5
  have HG5 := Aside0.mk (HG4.out.trans hg5)
  have HF5 := Aside0.mk (blk_grown HF4.out hg5 (fun q => HNF.out (Option.some.inj q)))
  have HE5 := Aside0.mk (blk_grown HE4.out hg5 (fun q => HNE.out (Option.some.inj q)))
  clear hm5 hg5
  unfold goInt at hrun
  refine skip_ (by rfl) rfl (w1 := w5) (by first | (simp [execOp, Act.eval, hrun, Result.andThen]; done) | (go_simp; done)) ?_
  clear hrun
  refine hK.out _ _ ?_
  clear hK K
  refine done_ (done_of HT_.out (by kernel_rfl)) ?_
  have hm5 := HM5.out
  rw [HWW.out, cV_inc] at hm5
  have HMM := Aside0.mk hm5
  have hl5 := look_c hm5 hkl w5 rfl
  have hlf5 := blk_lt HF5.out
  have hle5 := blk_lt HE5.out
  have hcf := fun i => blk_cell HF5.out i
  have hce := fun i => blk_cell HE5.out i
  clear hm5 HM5 hHeld HT_ HW_ hlf
  have hv : decide (((inc cnt e.h (e.hn, e.hg) : Nat) : Int) > 1) = decide (cnt e.h + 1 > 1) := by
    have : inc cnt e.h (e.hn, e.hg) = cnt e.h + 1 := by unfold inc; rw [if_pos rfl]
    rw [this]
    by_cases q : cnt e.h + 1 > 1
    · rw [decide_eq_true q]; exact decide_eq_true (by omega)
    · rw [decide_eq_false q]; exact decide_eq_false (by omega)
  have HV := Aside0.mk hv
  clear hv
  go_wp2
  go_ret
  exact ⟨by have := HV.out; simpa using congrArg (fun x => Ending.returned (Value.bool x)) this, ⟨_, by split <;> omega, HF5.out, HMM.out⟩, HG3.out.trans HG5.out⟩
/-- How often something fired ahead of a place. -/
def cntN (g : Nat → Ev) : Nat → Ha → Nat
  | 0 => fun _ => 0
  | n + 1 => if (g n).k = 4 then inc (cntN g n) (g n).h else cntN g n
theorem cntN_le (g : Nat → Ev) (n : Nat) (h : Ha) : cntN g n h ≤ n := by
  induction n with
  | zero => exact Nat.le_refl _
  | succ n ih =>
    unfold cntN
    split
    · unfold inc; split <;> omega
    · omega
theorem cntN_pos (g : Nat → Ev) (n : Nat) (h : Ha) : 0 < cntN g n h ↔ ∃ j, j < n ∧ (g j).k = 4 ∧ (g j).h = h := by
  induction n with
  | zero => exact ⟨fun q => by simp [cntN] at q, fun ⟨j, q, _⟩ => by omega⟩
  | succ n ih =>
    have up : (∃ j, j < n ∧ (g j).k = 4 ∧ (g j).h = h) → ∃ j, j < n + 1 ∧ (g j).k = 4 ∧ (g j).h = h := fun ⟨j, q⟩ => ⟨j, by omega, q.2⟩
    unfold cntN
    by_cases hk : (g n).k = 4
    · rw [if_pos hk]
      unfold inc
      by_cases e : h = (g n).h
      · rw [if_pos e]; exact ⟨fun _ => ⟨n, by omega, hk, e.symm⟩, fun _ => by omega⟩
      · rw [if_neg e, ih]
        exact ⟨up, fun ⟨j, q1, q2, q3⟩ => ⟨j, by
          rcases Nat.lt_or_ge j n with z | z
          · exact z
          · obtain rfl : j = n := by omega
            exact absurd q3.symm e, q2, q3⟩⟩
    · rw [if_neg hk, ih]
      exact ⟨up, fun ⟨j, q1, q2, q3⟩ => ⟨j, by
        rcases Nat.lt_or_ge j n with z | z
        · exact z
        · obtain rfl : j = n := by omega
          exact absurd q2 hk, q2, q3⟩⟩
def twiceF (g : Nat → Ev) (i : Nat) : Bool := (g i).k == 4 && decide (cntN g i (g i).h + 1 > 1)
theorem twice_eq (g : Nat → Ev) (n : Nat) : firstN (twiceF g) n = firstN (twiceP g) n := firstN_congr fun i hi => by
  unfold twiceF twiceP
  congr 1
  rw [Bool.eq_iff_iff, decide_eq_true_eq, anyN_true]
  have := cntN_pos g i (g i).h
  constructor
  · intro q
    obtain ⟨j, h1, h2, h3⟩ := this.1 (by omega)
    exact ⟨j, h1, by simp [h2, h3]⟩
  · rintro ⟨j, h1, h2⟩
    simp only [Bool.and_eq_true, beq_iff_eq, decide_eq_true_eq] at h2
    have := this.2 ⟨j, h1, h2.1, h2.2⟩
    omega
/-- A story and the counts. -/
structure Jt (w W : World) (B b n m1 m2 fb mf k : Nat) (s : Story) (vl vv vc : Value) (cnt : Ha → Nat) : Prop where
  st : StIs W B b n s vl vv vc m1 m2
  ct : ∃ z, z ≤ k ∧ Ct W fb mf z cnt
  below : Below w.heap.size w W
  hm : w.heap.size ≤ mf
  h1 : mf ≠ m1
  h2 : mf ≠ m2
section
variable {w W W1 : World} {B b n m1 m2 fb mf k : Nat} {s : Story} {vl vv vc : Value} {cnt cnt' : Ha → Nat}
theorem Ct.below {z : Nat} (h : Ct W fb mf z cnt) (hb : Below W.heap.size W W1) : Ct W1 fb mf z cnt := ⟨blk_below h.fb_ hb, h.mf_.move (hb.block _ h.mf_.lt)⟩
theorem Jt.step (h : Jt w W B b n m1 m2 fb mf k s vl vv vc cnt) (hb : Below W.heap.size W W1) : Jt w W1 B b n m1 m2 fb mf k s vl vv vc cnt := by
  obtain ⟨z, hz, hc⟩ := h.ct
  exact ⟨h.st.below hb, ⟨z, hz, hc.below hb⟩, below_step h.below hb, h.hm, h.h1, h.h2⟩
theorem Jt.up (h : Jt w W B b n m1 m2 fb mf k s vl vv vc cnt) : Jt w W B b n m1 m2 fb mf (k + 1) s vl vv vc cnt := by
  obtain ⟨z, hz, hc⟩ := h.ct
  exact ⟨h.st, ⟨z, by omega, hc⟩, h.below, h.hm, h.h1, h.h2⟩
theorem StIs.map_apart (h : StIs W B b n s vl vv vc m1 m2) {es : Array MapEntry} {cl : Nat} (q : W.heap[mf]? = some (.map es cl)) (hg : W.grownBy W1 (some mf)) (h1 : mf ≠ m1) (h2 : mf ≠ m2) : StIs W1 B b n s vl vv vc m1 m2 := by
  obtain ⟨z1, hz1, hm1⟩ := h.ma
  obtain ⟨z2, hz2, hm2⟩ := h.mo
  have row : ∀ {α : Type} {T k : Nat} {A : α → Array Value} {v : Value} {l : List α}, RowIs W B T k A v l → RowIs W1 B T k A v l := by
    intro α T k A v l r
    refine r.kept hg ?_
    cases hv : v.ownBlock with
    | none => exact .inl rfl
    | some g => exact .inr (fun z => by obtain ⟨cur, hc⟩ := r.own hv; exact map_ne hc q (Option.some.inj z))
  exact ⟨blk_grown h.blk hg (fun z => map_ne h.blk q (Option.some.inj z)), row h.rl, row h.rv, row h.rc, ⟨z1, hz1, hm1.move (hg.block m1 hm1.lt (fun z => h1 (Option.some.inj z).symm))⟩, ⟨z2, hz2, hm2.move (hg.block m2 hm2.lt (fun z => h2 (Option.some.inj z).symm))⟩, h.hb, h.h1, h.h2, h.m12⟩
end
theorem twice_clo {l : List Ev} (hn : l.length ≤ 1000000) (hwf : ∀ e ∈ l, wfE e) {w W : World} {B b m1 m2 fb mf : Nat} {vl vv vc : Value} (i : Nat) (e : Ev) (he : (storyN (gOf l) l.length).l[i]? = some e) (hk : e.k = 4) (h : Jt w W B b l.length m1 m2 fb mf i (storyN (gOf l) l.length) vl vv vc (cntN (gOf l) i)) :
    Calls Try.prog 49 (#[.int .i64 (i : Int), .agg (evA e)] ++ #[.pointer (some ⟨fb, 0, none⟩)]) W fun r W' => r = .returned (.bool (twiceF (gOf l) i)) ∧ Jt w W' B b l.length m1 m2 fb mf (i + 1) (storyN (gOf l) l.length) vl vv vc (cntN (gOf l) (i + 1)) := by
  obtain ⟨hi, heq⟩ := get_l hn he
  have hwe : wfE e := by rw [heq]; exact wf_g hwf hi
  have hp : twiceF (gOf l) i = decide (cntN (gOf l) i e.h + 1 > 1) := by unfold twiceF; rw [← heq, beq_iff_eq.2 hk, Bool.true_and]
  have hc1 : cntN (gOf l) (i + 1) = inc (cntN (gOf l) i) e.h := by rw [cntN, ← heq, if_pos hk]
  have ha : (#[.int .i64 (i : Int), .agg (evA e)] ++ #[.pointer (some ⟨fb, 0, none⟩)] : Array Value) = #[.int .i64 (i : Int), .agg (evA e), .pointer (some ⟨fb, 0, none⟩)] := by simp
  obtain ⟨z, hz, hct⟩ := h.ct
  have hcl := twice_clo1 i e W hct (keyH _ _ hwe.2.1 hwe.2.2.1) (by omega) (by have := cntN_le (gOf l) i e.h; omega)
  rw [ha, hp, hc1]
  generalize storyN (gOf l) l.length = s at h ⊢
  generalize cntN (gOf l) i = cnt at hcl h hct ⊢
  refine hcl.mono ?_
  rintro r W' ⟨hr, ⟨z', hz', hct'⟩, hg⟩
  obtain ⟨_, _, q⟩ := hct.mf_.block
  exact ⟨hr, h.st.map_apart q hg h.h1 h.h2, ⟨z', by omega, hct'⟩, h.below.grown hg h.below.size (fun j hj => by cases hj; exact h.hm), h.hm, h.h1, h.h2⟩
theorem twice_first {l : List Ev} (hn : l.length ≤ 1000000) (hwf : ∀ e ∈ l, wfE e) {w W : World} {B b m1 m2 fb mf : Nat} {vl vv vc : Value} (hJ : Jt w W B b l.length m1 m2 fb mf 0 (storyN (gOf l) l.length) vl vv vc (cntN (gOf l) 0)) :
    Calls Try.prog 48 #[.pointer (some ⟨b, 0, none⟩), .int .i64 4, .func (.func 49) #[] #[.pointer (some ⟨fb, 0, none⟩)]] W (FirstPost (twiceF (gOf l)) l.length (fun k W' => Jt w W' B b l.length m1 m2 fb mf k (storyN (gOf l) l.length) vl vv vc (cntN (gOf l) k))) := by
  have INV := inv_all (gOf l) l.length (by unfold noEnd; omega)
  have h := Au.first_twice #[.pointer (some ⟨fb, 0, none⟩)] 4 (twiceF (gOf l)) (fun k W' => Jt w W' B b l.length m1 m2 fb mf k (storyN (gOf l) l.length) vl vv vc (cntN (gOf l) k)) (by rw [INV.len]; exact hn) (fun _ _ h => h.st) (fun _ _ _ h hb => h.step hb)
      (fun i e W he hk h => ⟨by rw [show cntN (gOf l) (i + 1) = cntN (gOf l) i by rw [cntN, ← (get_l hn he).2, if_neg hk]]; exact h.up, by unfold twiceF; rw [← (get_l hn he).2, beq_eq_false_iff_ne.2 hk]; rfl⟩)
      (fun i e W he hk h => twice_clo hn hwf i e he hk h) W hJ
  rw [INV.len] at h
  exact h
set_option maxHeartbeats 4000000 in
set_option maxRecDepth 100000 in
theorem twice_top (A1 : Option Addr) (c1 : Nat) (l : List Ev) (hn : l.length ≤ 1000000) (w : World) (hin : ∀ (i : Nat) e, l[i]? = some e → EvAt w A1 i e) (hwf : ∀ e ∈ l, wfE e) :
    Calls Try.prog 17 #[.slice A1 l.length c1] w fun r w' => r = .returned (.int .i64 (twiceI (gOf l) l.length)) ∧ Below w.heap.size w w' := by
  have hmf : ∀ (fn : Fn) (first cap : Array Value) (w : World), (Instr.makeFunc fn first cap).run Try.prog w = .ok (.func fn first cap) w := fun _ _ _ _ => rfl
  have hmm := @run_makeMap Try.prog
  have HB0 := Aside0.mk (below_alloc (below_alloc (Below.refl w.heap.size w) (.map #[] 0)) (.cells #[.map (some w.heap.size)] 86))
  have HC0 : Aside0 (Ct ((w.alloc (.map #[] 0)).alloc (.cells #[.map (some w.heap.size)] 86)) (w.heap.size + 1) w.heap.size 0 (fun _ => 0)) := ⟨two_alloc _ _ _, (MapIs.made (c := haV) w Try.prog 34).move (by rw [Below.heap_alloc _ _ _ (by simp)])⟩
  have CR := Aside0.mk (read_any A1 c1 l hn ((w.alloc (.map #[] 0)).alloc (.cells #[.map (some w.heap.size)] 86)) (fun i e he => (hin i e he).below HB0.out) hwf)
  have CF : Aside0 (∀ W B b m1 m2 fb mf vl vv vc, Jt w W B b l.length m1 m2 fb mf 0 (storyN (gOf l) l.length) vl vv vc (cntN (gOf l) 0) → Calls Try.prog 48 #[.pointer (some ⟨b, 0, none⟩), .int .i64 4, .func (.func 49) #[] #[.pointer (some ⟨fb, 0, none⟩)]] W (FirstPost (twiceF (gOf l)) l.length (fun k W' => Jt w W' B b l.length m1 m2 fb mf k (storyN (gOf l) l.length) vl vv vc (cntN (gOf l) k)))) := ⟨fun W B b m1 m2 fb mf vl vv vc hJ => twice_first hn hwf hJ⟩
  have HE := Aside0.mk (show oI (firstN (twiceF (gOf l)) l.length) = twiceI (gOf l) l.length by unfold twiceI; rw [twice_eq])
  clear hin hwf
  go_enter Try.func17, Try.ntmps17
  go_wp2_with (first
    | (go_at_call 47; (with_reducible refine CR.out.mono ?_); rintro r w2 ⟨b, m1, m2, vl, vv, vc, rfl, hS, hb⟩; have HJ := Aside0.mk (show Jt w w2 _ b l.length m1 m2 (w.heap.size + 1) w.heap.size 0 _ vl vv vc (cntN (gOf l) 0) from ⟨hS, ⟨0, Nat.le_refl _, HC0.out.below hb⟩, below_step HB0.out hb, Nat.le_refl _, by have := hS.h1; simp at this; omega, by have := hS.h2; simp at this; omega⟩); clear hS hb)
    | (go_at_call 48; (with_reducible refine (CF.out _ _ b m1 m2 (w.heap.size + 1) w.heap.size vl vv vc HJ.out).mono ?_); rintro r w3 ⟨rfl, k3, hJ3⟩; have HB3 := Aside0.mk hJ3.below; clear hJ3))
  go_ret
  exact ⟨by rw [← HE.out]; rfl, HB3.out⟩
/-- Do an event's numbers fit? -/
def wfB (e : Ev) : Bool := (Lit.int .i64 e.wk).wf && ((Lit.int .i64 e.hn).wf && ((Lit.int .i64 e.hg).wf && ((Lit.int .i64 e.nn).wf && (Lit.int .i64 e.ng).wf)))
theorem wfE_of {e : Ev} (h : wfB e = true) : wfE e := by
  unfold wfB at h
  simp only [Bool.and_eq_true] at h
  exact h
end Go.Proofs.Ythniclbmpeklmaa.Au
end
