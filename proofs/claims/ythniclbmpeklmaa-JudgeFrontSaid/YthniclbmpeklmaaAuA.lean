/- What is proved: appending to a row of a story, storing into its maps and rows: what becomes of the story in memory. -/
import Derived.Test.YthniclbmpeklmaaAuS
import Derived.Deep.AppendLies
import Derived.Test.YthniclbmpeklmaaWLast
import Derived.Test.YthniclbmpeklmaaWTab
namespace Go.Proofs.Ythniclbmpeklmaa.Au
open Go.RowKit Go.Maps Go.Proofs.YthniclbmpeklmaaW.PrintWords Go.Proofs.YthniclbmpeklmaaW.PrintLast Go.Proofs.YthniclbmpeklmaaW.PrintMore Go.Proofs.Ythniclbmpeklmaa.Mp
set_option linter.unusedVariables false
set_option linter.unusedSimpArgs false
theorem litsH (d : Nat) (x y : Int) (hx : (Lit.int .i64 x).wf = true) (hy : (Lit.int .i64 y).wf = true) : Try.prog.keyLits (d + 2) 34 [.int .i64 x, .int .i64 y] = some [.int .i64 x, .int .i64 y] := by
  have h34 := Try.underlying34
  have h3 := Try.underlying3
  have c34 : Try.prog.cellsOf 34 = 2 := by kernel_rfl
  have c3 : Try.prog.cellsOf 3 = 1 := by kernel_rfl
  simp [Program.keyLits, h34, h3, c34, c3, hx, hy]
theorem keyH (x y : Int) (hx : (Lit.int .i64 x).wf = true) (hy : (Lit.int .i64 y).wf = true) : ∃ kl, keyOf Try.prog 34 (haV (x, y)) = some kl := by
  have h34 := Try.underlying34
  have c34 : Try.prog.cellsOf 34 = 2 := by kernel_rfl
  have hk : Try.prog.keyType 34 = true := by kernel_rfl
  have hs : Try.prog.types.size = (Try.prog.types.size - 1) + 1 := by kernel_rfl
  have hf : (haV (x, y)).formed Try.prog 34 = true := by simp [Value.formed, h34, c34]
  refine ⟨.string (keyBytes [.int .i64 x, .int .i64 y]), ?_⟩
  unfold keyOf
  rw [h34]
  simp only [hk, hf, Bool.and_self, if_true]
  rw [show (haV (x, y)).cells.toList = [.int .i64 x, .int .i64 y] from rfl, hs, litsH _ x y hx hy]
  rfl
section
variable {α : Type} {W : World} {B T k : Nat} {A : α → Array Value} {v : Value} {l : List α} {o : Oper} {a : Act} {K : Act → World → Prop} {Q : Exit → Act → World → Prop} {ops : Array Oper} {rest : List Oper}
theorem RowIs.append_wp (S : Nat) (bytes : Nat) (z : Value) (p q : Operand) (hS : Try.prog.underlying S = some (.slice T)) (hinfo : (Try.prog.info? T).map (fun i => (i.zero, i.size, i.bytes)) = some (some z, k, bytes)) (hz : z.cells.size = k) (hk : 0 < k)
    (ho : o.op = .call { callee := .builtin .append, args := #[p, q], argTypes := #[S, S] }) (h : RowIs W B T k A v l) (x : α) (hx : (A x).size = k) (h1 : ∀ u ∈ (A x).toList, u.oneCell' = true) (hp : a.eval p = v) (hq : a.eval q = .slice (some ⟨W.heap.size, 0, none⟩) 1 1)
    (hl : l.length ≤ 1000000) (hb : bytes ≤ 1000) (hB : B ≤ W.heap.size)
    (hK : ∀ g cap w6, RowIs w6 B T k A (.slice (some ⟨g, 0, none⟩) (l.length + 1) cap) (l ++ [x]) → (W.alloc (.cells (A x) T)).grownBy w6 v.ownBlock → (v.ownBlock = some g ∨ g = W.heap.size + 1) → K (a.put o.dst (.slice (some ⟨g, 0, none⟩) (l.length + 1) cap)) w6) :
    o.wp Try.prog a (W.alloc (.cells (A x) T)) K Q := by
  obtain ⟨i0, hi0, hz0, hz1, hz2⟩ := info_parts hinfo
  have hr : (W.alloc (.cells (A x) T)).ownsRow B T k v l.length (l.flatMap fun x => (A x).toList) := pw_own_below h (below_alloc (Below.refl _ _) _)
  have hbb : (l.length + 1) * bytes ≤ 1000001 * 1000 := Nat.mul_le_mul (by omega) hb
  refine wp_append_lies _ p q _ ho B T i0 z k bytes hS hi0 hz0 hz1 hz2 hz hk v l.length _ hp hr ⟨W.heap.size, 0, none⟩ 1 1 (A x).toList hq (by simp [hx]) (World.news_of_block (cs := A x) (t := T) (fr := (0, 0)) (heap_alloc_new W _)) h1 (by omega) (by unfold maxLen; omega) (by omega) (by simp; omega) (W.heap.size + 1) (by simp) ?_
  intro g cap w6 hown hgrow hat hlt
  refine hK g cap w6 ?_ hgrow hat
  unfold RowIs
  rw [List.length_append, List.flatMap_append]
  simpa using hown
theorem RowIs.append_wpl (hgd : o.guard = none) (S : Nat) (bytes : Nat) (z : Value) (p q : Operand) (hS : Try.prog.underlying S = some (.slice T)) (hinfo : (Try.prog.info? T).map (fun i => (i.zero, i.size, i.bytes)) = some (some z, k, bytes)) (hz : z.cells.size = k) (hk : 0 < k)
    (ho : o.op = .call { callee := .builtin .append, args := #[p, q], argTypes := #[S, S] }) (h : RowIs W B T k A v l) (x : α) (hx : (A x).size = k) (h1 : ∀ u ∈ (A x).toList, u.oneCell' = true) (hp : a.eval p = v) (hq : a.eval q = .slice (some ⟨W.heap.size, 0, none⟩) 1 1)
    (hl : l.length ≤ 1000000) (hb : bytes ≤ 1000) (hB : B ≤ W.heap.size)
    (hK : ∀ g cap w6, RowIs w6 B T k A (.slice (some ⟨g, 0, none⟩) (l.length + 1) cap) (l ++ [x]) → (W.alloc (.cells (A x) T)).grownBy w6 v.ownBlock → (v.ownBlock = some g ∨ g = W.heap.size + 1) → wpList Try.prog ops Q rest (a.put o.dst (.slice (some ⟨g, 0, none⟩) (l.length + 1) cap)) w6) :
    wpList Try.prog ops Q (o :: rest) a (W.alloc (.cells (A x) T)) :=
  wpList_plain hgd fun _ hK' => RowIs.append_wp S bytes z p q hS hinfo hz hk ho h x hx h1 hp hq hl hb hB fun g cap w6 h2 h3 h4 => hK' _ _ (hK g cap w6 h2 h3 h4)
theorem if_wp {P : Program} {E : Prop} (hgd : o.guard = none) (h : o.wp P a W K Q) : if Region.wanted o (yielded ops a.tmps) = true then Oper.wp P o a W K Q else E := by
  rw [if_pos (by simp [Region.wanted, hgd])]
  exact h
end
section
variable {w W W1 : World} {B b n m1 m2 : Nat} {s : Story} {vl vv vc : Value}
/-- A row has grown: the others, the maps and the head stay. -/
theorem StIs.others {T k : Nat} {β : Type} {A : β → Array Value} {v : Value} {l : List β} (h : StIs W B b n s vl vv vc m1 m2) (r : RowIs W B T k A v l) (hg : W.grownBy W1 v.ownBlock) (hT : 97 ≠ T) :
    W1.heap[b]? = some (.cells (stA vl vv vc m1 m2) 97 (0, 0)) ∧ (54 ≠ T → RowIs W1 B 54 12 evA vl s.l) ∧ (99 ≠ T → RowIs W1 B 99 6 lfA vv s.lives) ∧ (103 ≠ T → RowIs W1 B 103 15 clA vc s.calls) ∧
      (∃ z, z ≤ n ∧ MapIs haV Try.prog 34 W1 m1 z (nV s.at_)) ∧ (∃ z, z ≤ n ∧ MapIs (Value.int .i64) Try.prog 3 W1 m2 z (nV s.opn)) := by
  obtain ⟨z1, hz1, hm1⟩ := h.ma
  obtain ⟨z2, hz2, hm2⟩ := h.mo
  obtain ⟨_, _, q1⟩ := hm1.block
  obtain ⟨_, _, q2⟩ := hm2.block
  have ne_map : ∀ (g : Nat) es cl, W.heap[g]? = some (.map es cl) → some g ≠ v.ownBlock := fun g es cl hq q => by
    obtain ⟨cur, hc⟩ := r.own q.symm
    exact map_ne hc hq rfl
  have ne_typ : ∀ (g t : Nat) cs, W.heap[g]? = some (.cells cs t (0, 0)) → t ≠ T → some g ≠ v.ownBlock := fun g t cs hq ht q => by
    obtain ⟨cur, hc⟩ := r.own q.symm
    exact types_ne hq hc ht rfl
  have row : ∀ {α : Type} {T' k : Nat} {A : α → Array Value} {v : Value} {l : List α}, RowIs W B T' k A v l → T' ≠ T → RowIs W1 B T' k A v l := by
    intro α T' k A v' l r' ht
    refine r'.kept hg ?_
    cases hv : v'.ownBlock with
    | none => exact .inl rfl
    | some g => exact .inr (fun q => by obtain ⟨cur, hc⟩ := r'.own hv; exact ne_typ g _ _ hc ht q)
  exact ⟨blk_grown h.blk hg (ne_typ _ _ _ h.blk hT), row h.rl, row h.rv, row h.rc, ⟨z1, hz1, hm1.move (hg.block m1 hm1.lt (ne_map _ _ _ q1))⟩, ⟨z2, hz2, hm2.move (hg.block m2 hm2.lt (ne_map _ _ _ q2))⟩⟩
/-- The head's cell turned: rows and maps stay. -/
theorem head_set {j : Nat} {u : Value} {cs : Array Value} (hb : W.heap[b]? = some (.cells cs 97 (0, 0))) {T k : Nat} {α : Type} {A : α → Array Value} {v : Value} {l : List α} (r : RowIs W B T k A v l) (ht : 97 ≠ T) : RowIs (W.setCell ⟨b, j, none⟩ u) B T k A v l :=
  r.far (fun hv => by obtain ⟨cur', hg'⟩ := r.own hv; exact types_ne hb hg' ht rfl) u
theorem head_map {j : Nat} {u : Value} {cs : Array Value} (hb : W.heap[b]? = some (.cells cs 97 (0, 0))) {κ : Type} [DecidableEq κ] {c : κ → Value} {k m z : Nat} {f : κ → Option Value} (h : MapIs c Try.prog k W m z f) : MapIs c Try.prog k (W.setCell ⟨b, j, none⟩ u) m z f := by
  obtain ⟨_, _, q⟩ := h.block
  exact h.move (Below.heap_setCell _ _ _ _ (map_ne hb q).symm)
theorem StIs.app_l {x : Ev} {v' : Value} (h : StIs W B b n s vl vv vc m1 m2) (hown : RowIs W1 B 54 12 evA v' (s.l ++ [x])) (hg : W.grownBy W1 vl.ownBlock) :
    W1.heap[b]? = some (.cells (stA vl vv vc m1 m2) 97 (0, 0)) ∧ StIs (W1.setCell ⟨b, 0, none⟩ v') B b n { s with l := s.l ++ [x] } v' vv vc m1 m2 := by
  obtain ⟨hb, _, h2, h3, ⟨z1, hz1, hm1⟩, ⟨z2, hz2, hm2⟩⟩ := h.others h.rl hg (by decide)
  exact ⟨hb, ⟨blk_set hb 0 v', head_set hb hown (by decide), head_set hb (h2 (by decide)) (by decide), head_set hb (h3 (by decide)) (by decide), ⟨z1, hz1, head_map hb hm1⟩, ⟨z2, hz2, head_map hb hm2⟩, h.hb, h.h1, h.h2, h.m12⟩⟩
theorem StIs.app_c {x : Cl} {v' : Value} (h : StIs W B b n s vl vv vc m1 m2) (hown : RowIs W1 B 103 15 clA v' (s.calls ++ [x])) (hg : W.grownBy W1 vc.ownBlock) :
    W1.heap[b]? = some (.cells (stA vl vv vc m1 m2) 97 (0, 0)) ∧ StIs (W1.setCell ⟨b, 3, none⟩ v') B b n { s with calls := s.calls ++ [x] } vl vv v' m1 m2 := by
  obtain ⟨hb, h1, h2, _, ⟨z1, hz1, hm1⟩, ⟨z2, hz2, hm2⟩⟩ := h.others h.rc hg (by decide)
  exact ⟨hb, ⟨blk_set hb 3 v', head_set hb (h1 (by decide)) (by decide), head_set hb (h2 (by decide)) (by decide), head_set hb hown (by decide), ⟨z1, hz1, head_map hb hm1⟩, ⟨z2, hz2, head_map hb hm2⟩, h.hb, h.h1, h.h2, h.m12⟩⟩
theorem StIs.sto_o {f' : Int → Option Nat} {z' : Nat} (h : StIs W B b n s vl vv vc m1 m2) (hm : MapIs (Value.int .i64) Try.prog 3 W1 m2 z' (nV f')) (hz : z' ≤ n + 1) (hg : W.grownBy W1 (some m2)) : StIs W1 B b (n + 1) { s with opn := f' } vl vv vc m1 m2 := by
  obtain ⟨z1, hz1, hm1⟩ := h.ma
  obtain ⟨z2, hz2, hm2⟩ := h.mo
  obtain ⟨_, _, q2⟩ := hm2.block
  have row : ∀ {α : Type} {T k : Nat} {A : α → Array Value} {v : Value} {l : List α}, RowIs W B T k A v l → RowIs W1 B T k A v l := by
    intro α T k A v l r
    refine r.kept hg ?_
    cases hv : v.ownBlock with
    | none => exact .inl rfl
    | some g => exact .inr (fun q => by obtain ⟨cur, hc⟩ := r.own hv; exact map_ne hc q2 (Option.some.inj q))
  exact ⟨blk_grown h.blk hg (fun q => map_ne h.blk q2 (Option.some.inj q)), row h.rl, row h.rv, row h.rc, ⟨z1, by omega, hm1.move (hg.block m1 hm1.lt (fun q => h.m12 (Option.some.inj q)))⟩, ⟨z', hz, hm⟩, h.hb, h.h1, h.h2, h.m12⟩
theorem StIs.put_c {g cap k : Nat} {q : Cl} (i : Int) (h : StIs W B b n s vl vv (.slice (some ⟨g, 0, none⟩) s.calls.length cap) m1 m2) (hq : s.calls[k]? = some q) :
    StIs (W.setCell ⟨g, k * 15 + 14, none⟩ (.int .i64 i)) B b n { s with calls := s.calls.set k { q with en := i } } vl vv (.slice (some ⟨g, 0, none⟩) s.calls.length cap) m1 m2 := by
  obtain ⟨cur, hg⟩ := h.rc.own (show (Value.slice (some ⟨g, 0, none⟩) s.calls.length cap).ownBlock = some g from rfl)
  obtain ⟨z1, hz1, hm1⟩ := h.ma
  obtain ⟨z2, hz2, hm2⟩ := h.mo
  obtain ⟨_, _, q1⟩ := hm1.block
  obtain ⟨_, _, q2⟩ := hm2.block
  have row : ∀ {α : Type} {T k : Nat} {A : α → Array Value} {v : Value} {l : List α}, RowIs W B T k A v l → 103 ≠ T → v.ownBlock ≠ some g := fun r ht hv => by
    obtain ⟨cur', hg'⟩ := r.own hv
    exact types_ne hg hg' ht rfl
  have hput := h.rc.put (fun _ => rfl) (i := k) (j := 14) (x' := { q with en := i }) (u := .int .i64 i) hq (by decide) rfl
  rw [List.length_set] at hput
  exact ⟨blk_far h.blk (types_ne hg h.blk (by decide)).symm _, h.rl.far (row h.rl (by decide)) _, h.rv.far (row h.rv (by decide)) _, hput, ⟨z1, hz1, hm1.move (Below.heap_setCell _ _ _ _ (map_ne hg q1).symm)⟩, ⟨z2, hz2, hm2.move (Below.heap_setCell _ _ _ _ (map_ne hg q2).symm)⟩, h.hb, h.h1, h.h2, h.m12⟩
end
theorem ev_info : (Try.prog.info? 54).map (fun i => (i.zero, i.size, i.bytes)) = some (some (.agg (evA zeroE)), 12, 96) := by kernel_rfl
theorem cl_info : (Try.prog.info? 103).map (fun i => (i.zero, i.size, i.bytes)) = some (some (.agg (clA ⟨zeroE, 0, 0, 0⟩)), 15, 120) := by kernel_rfl
/-- A look-up in the map of the workers. -/
theorem look_o {w : World} {m2 z : Nat} {f : Int → Option Nat} (h : MapIs (Value.int .i64) Try.prog 3 w m2 z (nV f)) {x : Int} (hx : (Lit.int .i64 x).wf = true) (W : World) (hb : W.heap[m2]? = w.heap[m2]?) :
    (Instr.lookup 95 (.map (some m2)) (.int .i64 x) true).run Try.prog W = .ok (.tuple #[.int .i64 (((f x).map (fun j => (j : Int))).getD 0), .bool (f x).isSome]) W := by
  have := (h.move hb).look_ok lawI Try.underlying95 (zeroI W) (x := x) (keyOf_int_mk Try.underlying3 hx)
  rw [this]
  unfold nV
  cases f x <;> rfl
theorem nV_updW (f : Int → Option Nat) (x : Int) (j : Nat) : (fun l => if l = x then some (.int .i64 (j : Int)) else nV f l) = nV (updW f x j) := by
  funext l
  unfold nV updW
  by_cases e : l = x <;> simp [e]
end Go.Proofs.Ythniclbmpeklmaa.Au
