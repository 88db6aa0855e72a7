/- What is proved: round.Batches gives the times at which some deadlines are due, each once, rising; the slice has at most a million numbers. -/
import Derived.Test.YthljanmfanppdaaKUpx1
import Derived.Test.YthljanmfanppdaaShS
import Derived.Maps.RangeWalk
import Derived.Maps.OwnSet
import Derived.Maps.AppendAt
import Derived.Sort.OwnSorted
import Derived.Sort.OwnSortedInts
import Derived.Shelf.Sort.Plain
namespace Go.Proofs.Ythljanmfanppdaa.Rb
open Go.RowKit Go.Maps Go.Sort Go.Proofs.YthljanmfanppdaaW.PrintWords Go.Proofs.YthljanmfanppdaaW.PrintLast Go.Proofs.YthljanmfanppdaaW.PrintMore Go.Proofs.Ythljanmfanppdaa.KUp
set_option linter.unusedVariables false
set_option linter.unusedSimpArgs false
/-- When a deadline is due. -/
def upI (d s : Int) : Int := (round_Up.f d s).getD 0
theorem up_wrap (d s : Int) : ∃ z, round_Up.f d s = some (wrap64 z) := by
  unfold round_Up.f round_clock.f
  simp only [Option.bind_some]
  have h : ¬ wrap64 (mn (mx s 0) 1073741823 + 1) = 0 := by unfold mn mx wrap64; split <;> split <;> omega
  rw [if_neg h]
  exact ⟨_, rfl⟩
theorem up_some (d s : Int) : round_Up.f d s = some (upI d s) := by
  obtain ⟨z, h⟩ := up_wrap d s
  unfold upI
  rw [h]
  rfl
theorem up_wf (d s : Int) : (Lit.int .i64 (upI d s)).wf = true := by
  obtain ⟨z, h⟩ := up_wrap d s
  unfold upI
  rw [h]
  exact wrap64_wf z
/-- A number into a rising row, once. -/
def insU (x : Int) : List Int → List Int
  | [] => [x]
  | y :: ys => if x < y then x :: y :: ys else if x = y then y :: ys else y :: insU x ys
/-- The times at which deadlines are due, each once, rising. -/
def ups (l : List Int) (s : Int) : List Int := l.map (upI · s)
def bat (l : List Int) (s : Int) : List Int := (ups l s).foldl (fun acc x => insU x acc) []
theorem mem_insU {x z : Int} : ∀ {l : List Int}, z ∈ insU x l ↔ z = x ∨ z ∈ l
  | [] => by simp [insU]
  | y :: ys => by
    unfold insU
    split
    · simp
    · split
      · rename_i h; subst h; simp
      · rw [List.mem_cons, mem_insU, List.mem_cons]
        constructor
        · rintro (h | h | h)
          · exact .inr (.inl h)
          · exact .inl h
          · exact .inr (.inr h)
        · rintro (h | h | h)
          · exact .inr (.inl h)
          · exact .inl h
          · exact .inr (.inr h)
theorem sort_insU {x : Int} : ∀ {l : List Int}, l.Pairwise (· < ·) → (insU x l).Pairwise (· < ·)
  | [], _ => by simp [insU]
  | y :: ys, h => by
    obtain ⟨h1, h2⟩ := List.pairwise_cons.1 h
    unfold insU
    split
    · rename_i hx
      refine List.pairwise_cons.2 ⟨fun z hz => ?_, h⟩
      rcases List.mem_cons.1 hz with rfl | hz
      · exact hx
      · exact Int.lt_trans hx (h1 z hz)
    · split
      · exact h
      · rename_i hx hy
        refine List.pairwise_cons.2 ⟨fun z hz => ?_, sort_insU h2⟩
        rcases mem_insU.1 hz with rfl | hz
        · omega
        · exact h1 z hz
theorem fold_insU : ∀ (l acc : List Int), acc.Pairwise (· < ·) → (l.foldl (fun acc x => insU x acc) acc).Pairwise (· < ·) ∧ ∀ z, z ∈ l.foldl (fun acc x => insU x acc) acc ↔ z ∈ l ∨ z ∈ acc
  | [], acc, h => ⟨h, fun z => by simp⟩
  | x :: l, acc, h => by
    obtain ⟨h1, h2⟩ := fold_insU l (insU x acc) (sort_insU h)
    refine ⟨h1, fun z => ?_⟩
    show z ∈ l.foldl (fun acc x => insU x acc) (insU x acc) ↔ _
    rw [h2, mem_insU, List.mem_cons]
    constructor
    · rintro (h | h | h)
      · exact .inl (.inr h)
      · exact .inl (.inl h)
      · exact .inr h
    · rintro ((h | h) | h)
      · exact .inr (.inl h)
      · exact .inl h
      · exact .inr (.inr h)
theorem bat_sorted (l : List Int) (s : Int) : (bat l s).Pairwise (· < ·) := (fold_insU _ [] List.Pairwise.nil).1
theorem mem_bat {l : List Int} {s z : Int} : z ∈ bat l s ↔ z ∈ ups l s := by
  have := (fold_insU (ups l s) [] List.Pairwise.nil).2 z
  simpa [bat] using this
/-- Two rising rows of the same numbers are one. -/
theorem rising_ext : ∀ {a b : List Int}, a.Pairwise (· < ·) → b.Pairwise (· < ·) → (∀ z, z ∈ a ↔ z ∈ b) → a = b
  | [], [], _, _, _ => rfl
  | [], y :: b, _, _, h => absurd ((h y).2 (List.mem_cons_self ..)) (by simp)
  | x :: a, [], _, _, h => absurd ((h x).1 (List.mem_cons_self ..)) (by simp)
  | x :: a, y :: b, ha, hb, h => by
    obtain ⟨a1, a2⟩ := List.pairwise_cons.1 ha
    obtain ⟨b1, b2⟩ := List.pairwise_cons.1 hb
    have hxy : x = y := by
      rcases List.mem_cons.1 ((h x).1 (List.mem_cons_self ..)) with e | e
      · exact e
      · rcases List.mem_cons.1 ((h y).2 (List.mem_cons_self ..)) with e' | e'
        · exact e'.symm
        · have := a1 y e'
          have := b1 x e
          omega
    subst hxy
    rw [rising_ext a2 b2 fun z => ⟨fun hz => ?_, fun hz => ?_⟩]
    · rcases List.mem_cons.1 ((h z).1 (List.mem_cons_of_mem _ hz)) with e | e
      · have := a1 z hz; omega
      · exact e
    · rcases List.mem_cons.1 ((h z).2 (List.mem_cons_of_mem _ hz)) with e | e
      · have := b1 z hz; omega
      · exact e
/-- The numbers that were met, sorted. -/
theorem sorted_bat {l ss : List Int} {s : Int} (hn : ss.Nodup) (hm : ∀ z, z ∈ ss ↔ z ∈ ups l s) : (ss.mergeSort fun x y => decide (x ≤ y)) = bat l s := by
  have hp : (ss.mergeSort fun x y => decide (x ≤ y)).Perm ss := List.mergeSort_perm _ _
  refine rising_ext ?_ (bat_sorted l s) fun z => by rw [hp.mem_iff, hm, mem_bat]
  have hs : (ss.mergeSort fun x y => decide (x ≤ y)).Pairwise (fun a b => decide (a ≤ b) = true) := List.pairwise_mergeSort (fun a b c h1 h2 => by simp at *; omega) (fun a b => by simp; omega) ss
  have hd : (ss.mergeSort fun x y => decide (x ≤ y)).Nodup := hp.nodup_iff.2 hn
  refine (List.pairwise_and_iff.2 ⟨hs, hd⟩).imp ?_
  intro a b h
  have h1 := of_decide_eq_true h.1
  have h2 := h.2
  omega

/-- A map's keys are the numbers of a list. -/
def KeysIn (D : DataW Unit) (L : List Int) : Prop := ∀ x, (Lit.int .i64 x).wf = true → (has D (.int .i64 x) = true ↔ x ∈ L)
/-- What was collected: of a map's keys those that are no more to come. -/
def Coll (D : DataW Unit) (left : Lit → Bool) (ss : List Int) : Prop := ss.Nodup ∧ (∀ x ∈ ss, (Lit.int .i64 x).wf = true) ∧ ∀ x, (Lit.int .i64 x).wf = true → (x ∈ ss ↔ has D (.int .i64 x) = true ∧ left (.int .i64 x) = false)
theorem Coll.start (D : DataW Unit) : Coll D (has D) [] := ⟨List.nodup_nil, fun _ h => (by cases h), fun x _ => by cases has D (.int .i64 x) <;> simp⟩
theorem Coll.step {D : DataW Unit} {left : Lit → Bool} {ss : List Int} {y : DataW Unit} (h : Coll D left ss) {x : Int} (hx : (Lit.int .i64 x).wf = true) (hlk : left (.int .i64 x) = true) (hat : ∀ zd, D.atKey (.int .i64 x) zd = y) : Coll D (fun z => left z && !z.sameKey (.int .i64 x)) (ss ++ [x]) := by
  have hhas : has D (.int .i64 x) = true := has_true_of_atKey hat
  have hnew : x ∉ ss := fun hm => by have := ((h.2.2 x hx).1 hm).2; rw [hlk] at this; cases this
  refine ⟨List.nodup_append.2 ⟨h.1, by simp, fun a ha b hb => by simp at hb; subst hb; exact fun e => hnew (e ▸ ha)⟩, fun a ha => ?_, fun y hy => ?_⟩
  · rcases List.mem_append.1 ha with q | q
    · exact h.2.1 a q
    · rw [List.mem_singleton.1 q]; exact hx
  · by_cases e : y = x
    · subst e; simp [hhas, Lit.sameKey]
    · simp [h.2.2 y hy, e, Lit.sameKey]
theorem Coll.done {D : DataW Unit} {left : Lit → Bool} {ss L : List Int} (h : Coll D left ss) (hk : KeysIn D L) (hL : ∀ x ∈ L, (Lit.int .i64 x).wf = true) (hl : ∀ kl, left kl = false) : ∀ z, z ∈ ss ↔ z ∈ L := fun z =>
  ⟨fun hz => (hk z (h.2.1 z hz)).1 ((h.2.2 z (h.2.1 z hz)).1 hz).1, fun hz => (h.2.2 z (hL z hz)).2 ⟨(hk z (hL z hz)).2 hz, hl _⟩⟩
theorem ups_wf (l : List Int) (s : Int) : ∀ x ∈ ups l s, (Lit.int .i64 x).wf = true := by
  intro x hx
  obtain ⟨d, -, rfl⟩ := List.mem_map.1 hx
  exact up_wf d s
theorem law3 : Keyed Try.prog 3 := int_keyed Try.underlying3
theorem zero3 (w : World) : (zeroValue 3).run Try.prog w = .ok (.int .i64 0) w := by kernel_rfl
theorem info3 : (Try.prog.info? 3).map (fun i => (i.zero, i.size, i.bytes)) = some (some (.int .i64 0), 1, 8) := by kernel_rfl
theorem om_move {R : Value → Option (DataW Unit × List MemPlace)} {w w1 : World} {b n : Nat} {D : DataW Unit} (h : w.ownsMap Try.prog 3 R b n D) (hb : Below w.heap.size w w1) : w1.ownsMap Try.prog 3 R b n D := by
  have hl := h.lt
  obtain ⟨es, clock, h1, h2⟩ := h
  exact ⟨es, clock, (hb.block b hl).trans h1, h2⟩
theorem KeysIn.start (R : Value → Option (DataW Unit × List MemPlace)) : KeysIn (.map []) [] := fun x _ => by simp [Maps.has]
theorem KeysIn.step {D : DataW Unit} {L : List Int} {R : Value → Option (DataW Unit × List MemPlace)} {w : World} {b n : Nat} (h : KeysIn D L) (ho : w.ownsMap Try.prog 3 R b n D) {u : Int} (hu : (Lit.int .i64 u).wf = true) (d : DataW Unit) :
    KeysIn (D.put (.int .i64 u) d) (L ++ [u]) := fun x hx => by
  have hT := ho.tidy law3
  have hk := law3.key (keyOf_int_mk Try.underlying3 hu)
  rw [List.mem_append, List.mem_singleton]
  by_cases e : x = u
  · subst e
    exact ⟨fun _ => .inr rfl, fun _ => has_put_same hT.isMap hk _⟩
  · have hne : (Lit.int .i64 x : Lit) ≠ .int .i64 u := fun q => e (by injection q)
    rw [has_put_other hne, h x hx]
    exact ⟨.inl, fun q => q.resolve_right e⟩
theorem take_ups {l : List Int} {s : Int} {k : Nat} (h : k < l.length) : ups (l.take (k + 1)) s = ups (l.take k) s ++ [upI (l[k]) s] := by
  rw [List.take_succ_eq_append_getElem h, ups, List.map_append]
  rfl
theorem row_ne_map {R : Value → Option (DataW Unit × List MemPlace)} {w : World} {base e size m b n : Nat} {v : Value} {xs : List Value} {D : DataW Unit} (h : w.ownsRow base e size v m xs) (hm : w.ownsMap Try.prog 3 R b n D) : some b ≠ v.ownBlock := by
  obtain ⟨es, clock, hb', _⟩ := hm
  rcases h.2 with ⟨rfl, _⟩ | ⟨g, cap, cur, rfl, _, hb, _⟩
  · simp [Value.ownBlock]
  · intro e1
    have : b = g := by simpa [Value.ownBlock] using e1
    subst this
    rw [hb'] at hb
    cases hb
def BatPost (l : List Int) (s : Int) (w : World) (e : Ending) (w' : World) : Prop := ∃ v0_ : Value, e = .returned v0_ ∧ Kd.R (Kd.int .i64) 3 w' w.heap.size (fun _ => True) v0_ (bat l s) ∧ Below w.heap.size w w'
set_option maxRecDepth 100000 in
set_option maxHeartbeats 4000000 in
theorem batches_any (A0 : Option Addr) (c0 : Nat) (l0 : List Int) (s : Int) (w : World) (hr0 : Kd.C (Kd.int .i64) w A0 l0.length l0) (hc0 : l0.length ≤ c0) (hsz : l0.length ≤ 1000000) :
    Calls Try.prog 55 #[.slice A0 l0.length c0, .int .i64 s] w (BatPost l0 s w) := by
  obtain ⟨i0, hi, hz0, hz1, hz2⟩ := info_parts info3
  have HR := Aside0.mk hr0
  clear hr0
  have hmm := @run_makeMap Try.prog
  go_enter Try.func55, Try.ntmps55
  go_wp2
  go_loopw [13] (fun i wr => ∃ (k : Nat) (D : DataW Unit), k ≤ l0.length ∧ i = .int .i64 k ∧ wr.ownsMap Try.prog 3 (plainElem Try.prog 3) w.heap.size k D ∧ KeysIn D (ups (l0.take k) s) ∧ Below w.heap.size w wr) (fun i _ => l0.length - (intOf i).toNat)
  case atStart => exact ⟨0, .map [], Nat.zero_le _, rfl, World.ownsMap_made _ _ _ _, by simpa [ups] using KeysIn.start (plainElem Try.prog 3), (Below.refl _ _).alloc (Nat.le_refl _) _⟩
  case round =>
    obtain ⟨k, D, hk, rfl, hown, hkeys, hnx⟩ := hrel
    by_cases hlt : k < l0.length
    · obtain ⟨ad, hA, hcell⟩ := Kd.at_int (Kd.C_below HR.out hnx) (k : Int) (by omega) (by omega)
      have hrd : Go.Proofs.YthljanmfanppdaaW.PrintWords.rd l0 (k : Int) = l0[k] := by
        show l0.getD k 0 = l0[k]
        simp [List.getD, hlt]
      rw [hrd] at hcell
      obtain ⟨d, hd⟩ : ∃ d, d = l0[k] := ⟨_, rfl⟩
      rw [← hd] at hcell
      obtain ⟨u, hu⟩ : ∃ u, u = upI d s := ⟨_, rfl⟩
      have hwu : (Lit.int .i64 u).wf = true := hu ▸ up_wf d s
      have CU := Aside0.mk (fun W => round_Up.calls d s u W (hu ▸ up_some d s))
      have HS := Aside0.mk (hkeys.step hown hwu)
      have HU := Aside0.mk (show ups (l0.take (k + 1)) s = ups (l0.take k) s ++ [u] by rw [take_ups hlt, hu, hd])
      have HN := Aside0.mk hnx
      have HO := Aside0.mk hown
      have HK := Aside0.mk hwu
      clear hkeys hrd hd hu hnx hown hwu
      rw [show ((k : Int)).toNat = k from rfl] at hcell
      subst hA
      go_wp2_with (first
        | (go_at_call 18; (with_reducible refine (CU.out _).mono ?_); rintro e w1 ⟨rfl, hb⟩; have HO1 := Aside0.mk (om_move HO.out hb); have HN1 := Aside0.mk (below_step HN.out hb); clear hb)
        | (at_lookup; refine wpList_lookup_own_int _ rfl _ _ 115 rfl 3 3 .i64 law3 Try.underlying115 Try.underlying3 (zero3 _) w.heap.size k _ rfl HO1.out _ _ rfl (keyOf_int_mk Try.underlying3 HK.out) ?_; intro c hat hwc; clear hat)
        | (at_mapUpdate; refine wpList_mapUpdate_own _ rfl _ _ _ 115 rfl 3 3 law3 Try.underlying115 _ w.heap.size k _ rfl HO1.out (by unfold maxLen; omega) _ _ _ rfl rfl (keyOf_int_mk Try.underlying3 HK.out) _ [] (plainElem_int Try.underlying3 (wrap64_wf _)) ?_; intro w2 hown2 hgrow2)
        | go_in)
      go_roundw
      case rel => exact ⟨k + 1, _, by omega, by go_num, hown2, HU.out ▸ HS.out _, HN1.out.grown hgrow2 (below_size HN1.out) (fun j hj => by cases hj; exact Nat.le_refl _)⟩
      case measure => simp [intOf]; omega
    · have hkl : k = l0.length := by omega
      have HKY := Aside0.mk (show KeysIn D (ups l0 s) by rw [← List.take_length (l := l0), ← hkl]; exact hkeys)
      have hs0 : Maps.size D ≤ 1000000 := Nat.le_trans hown.size_le (by omega)
      have HN := Aside0.mk hnx
      have HO := Aside0.mk hown
      clear hkeys hnx hown hkl
      go_wp2_with (first
        | (at_range; refine wpList_range_own _ rfl _ 115 rfl 3 3 law3 Try.underlying115 _ w.heap.size k D rfl HO.out ?_; intro w0 hrg0 hg0 hs0)
        | go_in)
      have HN0 := Aside0.mk (HN.out.grown hg0 (below_size HN.out) (fun j hj => by cases hj))
      have hwl := Aside0.mk (below_size HN.out)
      clear hs0 HN HO hg0
      go_frame
      go_loopw [8] (fun v w2 => ∃ (left : Lit → Bool) (cnt : Nat) (ss : List Int), w2.ranges Try.prog 3 (plainElem Try.prog 3) w.heap.size wr.heap.size k D left cnt ∧ Aside0 (ss.length + cnt ≤ Maps.size D) ∧ Aside0 (w2.ownsRow w.heap.size 3 1 v ss.length (ss.map (Value.int .i64))) ∧ Aside0 (Coll D left ss) ∧ Aside0 (Below w.heap.size w w2))
        (fun _ w2 => w2.rangeLeft w.heap.size wr.heap.size)
      case atStart => exact ⟨_, _, [], hrg0, ⟨by simp⟩, ⟨own_nil _ _ _ _⟩, ⟨Coll.start D⟩, HN0⟩
      case round =>
        obtain ⟨left, cnt, ss, hrg, hcs, hrow, hC, hnx⟩ := hrel
        go_wp2_with (first
          | (at_next; refine wpList_next_ranges_ii _ rfl _ rfl 3 3 .i64 .i64 law3 Try.underlying3 Try.underlying3 w.heap.size _ k _ _ _ rfl hrg ?_ ?_)
          | go_in)
        · intro hc0 hl0
          have HM := Aside0.mk (hC.out.done HKY.out (ups_wf l0 s) hl0)
          have HSB := Aside0.mk (sorted_bat hC.out.1 HM.out)
          have hnod := hC.out.1
          clear hl0 hC
          rcases hrow.out.2 with ⟨rfl, hnil⟩ | ⟨g, cap, cur, rfl, hbase, hb, h1, h2, h3, h4⟩
          · obtain rfl : ss = [] := by
              cases ss with
              | nil => rfl
              | cons x ss => simp at hnil
            have CS := Aside0.mk (fun W => Try.slices_Sort_int_none none 0 W)
            clear hnil
            go_wp2_with (go_at_call 77; (with_reducible refine (CS.out _).mono ?_); rintro e w1 ⟨rfl, rfl⟩)
            go_ret
            refine ⟨_, rfl, ?_, hnx.out⟩
            rw [← HSB.out, show (([] : List Int).mergeSort fun x y => decide (x ≤ y)) = [] by simp]
            exact Kd.R_nil _ _ _ _ _
          · have hH : Holds (Value.int .i64) wr g 0 ss.toArray := holds_of_blockI hb (by simpa using h4)
            have hgl : g < wr.heap.size := (Array.getElem?_eq_some_iff.1 hb).1
            have hsl : ss.length < 4611686018427387904 := by have := hcs.out; omega
            have CS := Aside0.mk (Try.slices_Sort_int g 0 cap ss wr hH hgl hsl)
            have HB1 := Aside0.mk hb
            have HH := Aside0.mk (And.intro hbase (And.intro h1 (And.intro h2 h3)))
            clear hb hbase h1 h2 h3 h4 hH hgl hsl
            go_wp2_with (go_at_call 77; (with_reducible refine CS.out.mono ?_); rintro e w1 ⟨rfl, nn, os, rfl⟩)
            go_ret
            have hrs := ownsRow_sortedI (os := os) (n := nn) (ts := ss.mergeSort fun x y => decide (x ≤ y)) (by simp) HH.out.1 HB1.out HH.out.2.1 HH.out.2.2.1 (by simpa using HH.out.2.2.2)
            refine ⟨_, rfl, ?_, hnx.out.grown (grownBy_sortedI _) (below_size hnx.out) (fun j hj => by cases hj; exact HH.out.1)⟩
            rw [← HSB.out]
            exact Kd.R_of_own (enc := Value.int .i64) (by simpa [encs] using hrs) (fun _ _ => trivial)
        · intro x c w3 cnt3 hwx hwc hlx hat hrg3 hlt3 hg3 hs3 hen
          have hrow3 := Aside0.mk (hrow.out.kept hg3 (Or.inr (row_ne_iter hrow.out hrg).symm))
          have hC3 := Aside0.mk (hC.out.step hwx hlx hat)
          have hN3 := Aside0.mk (hnx.out.grown hg3 (below_size hnx.out) (fun j hj => by cases hj; exact hwl.out))
          have hne := Aside0.mk (row_ne_iter hrow.out hrg)
          have hcs3 := Aside0.mk (show ss.length + 1 + cnt3 ≤ Maps.size D by have := hcs.out; omega)
          have hbb := Aside0.mk (show ss.length + 1 ≤ 1000000 by have := hcs3.out; omega)
          have hsz3 := Aside0.mk (below_size hN3.out)
          have hlow := Aside0.mk (row_ne_map hrow.out hrg.owns)
          have hleft := Aside0.mk (And.intro hrg.left_eq hlt3)
          clear hrow hC hnx hcs hat hg3 hs3 hlx hwc hwx hlt3 hrg
          go_wp2_with (first
            | (at_builtin; refine wpList_append_own _ rfl _ _ 29 rfl w.heap.size 3 i0 (.int .i64 0) 1 8 Try.underlying29 hi hz0 hz1 hz2 rfl (by decide) _ _ _ rfl (hrow3.out.alloc _) ⟨w3.heap.size, 0, none⟩ 1 1 [.int .i64 x] rfl rfl (cell_one_new _ _ _) (by simp [Value.oneCell']) (by unfold maxLen; have := hbb.out; omega) (by have := hbb.out; omega) (by have := hsz3.out; simp; omega) ?_; intro v' w4 hown' hg4 hnil4; go_frame)
            | go_in)
          have hrg4 := (hrg3.alloc _).kept hg4 hlow.out hne.out
          go_roundw
          case rel => exact ⟨_, cnt3, ss ++ [x], hrg4, ⟨by have := hcs3.out; simp; omega⟩, ⟨by simpa using hown'⟩, hC3, ⟨((hN3.out).alloc hsz3.out _).grown hg4 (by have := hsz3.out; simp; omega) (fun j hj => (hrow3.out.lt j hj).1)⟩⟩
          case measure => rw [hrg4.left_eq, hleft.out.1]; exact hleft.out.2
end Go.Proofs.Ythljanmfanppdaa.Rb
