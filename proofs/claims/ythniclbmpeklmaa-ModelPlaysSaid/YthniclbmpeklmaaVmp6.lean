/- What is proved: a part of the way to the statement ModelPlaysSaid: JrD, MoP, JrQ, JrS, MoQ, MoI, MoR, Krow; no conditions. Put together by a program of this session (claimv.py). -/
import Derived.Laws.CopyRow
import Derived.ChangeArms
import Derived.WideShapes
import Derived.OpenShut
import Derived.Deep.Slices
import Derived.Test.YthniclbmpeklmaaVmp5
section
set_option maxHeartbeats 4000000
set_option maxRecDepth 100000
namespace Go.Proofs.Ythniclbmpeklmaa.KJf
open Go.RowKit Go.Proofs.YthniclbmpeklmaaW.PrintWords Go.Proofs.YthniclbmpeklmaaW.PrintLast Go.Proofs.YthniclbmpeklmaaW.PrintMore Go.Proofs.Ythniclbmpeklmaa.Ju
open Go.Proofs.Ythniclbmpeklmaa.Au (evA types_ne)
open Go.Proofs.YthniclbmpeklmaaW.PrintWords renaming Ev → PE
set_option linter.unusedVariables false
set_option linter.unusedSimpArgs false
abbrev KR (W : World) (B : Nat) (v : Value) (L : List S127) : Prop := Kd.R k127 127 W B (fun _ => True) v L
theorem KR.keep {W W1 : World} {B : Nat} {v : Value} {L : List S127} (h : KR W B v L) (hk : ∀ (g : Nat) (cs : Array Value), W.heap[g]? = some (.cells cs 127 (0, 0)) → W1.heap[g]? = W.heap[g]?) : KR W1 B v L :=
 Kd.R_mono (Kd.R_move (Kd.R_bound h) (fun k hkk => by
  obtain ⟨_, _, _, q, hq, cells, hc⟩ := hkk
  have e : q = 127 := by
   have : q ∈ [127] := hq
   simpa using this
  rw [e] at hc
  exact hk k cells hc)) (fun _ _ => trivial)
theorem KR.C {W : World} {B : Nat} {A : Option Addr} {c : Nat} {L : List S127} (h : KR W B (.slice A L.length c) L) : Kd.C k127 W A L.length L ∧ L.length ≤ c := by
 obtain ⟨_, hC⟩ := Kd.R_reads' h
 exact ⟨hC.2, hC.1⟩
structure Rj (B : Nat) (w W : World) (clk : Int) (v : Value) (L : List S127) (e : Au.Ev) : Prop where
 below : Below w.heap.size w W
 b : W.heap[w.heap.size]? = some (.cells #[.int .i64 clk, v] 43 (0, 0))
 e_ : W.heap[w.heap.size + 1]? = some (.cells (evA e) 50 (0, 0))
 r : ∃ rs : Array Value, rs.size = 2 ∧ W.heap[w.heap.size + 1 + 1]? = some (.cells rs 43 (0, 0))
 kr : KR W B v L
section
variable {B : Nat} {w W W1 : World} {clk : Int} {v : Value} {L : List S127} {e : Au.Ev}
theorem Rj.start (h : KR w B v L) (clk : Int) (e : Au.Ev) : Rj B w (((w.alloc (.cells #[.int .i64 clk, v] 43)).alloc (.cells (evA e) 50)).alloc (.cells #[.int .i64 0, .slice none 0 0] 43)) clk v L e :=
 ⟨below_alloc (below_alloc (below_alloc (Below.refl _ _) _) _) _, blk_alloc (blk_alloc (blk_new _ _) _) _, blk_alloc (by have q := blk_new (w.alloc (.cells #[.int .i64 clk, v] 43)) (.cells (evA e) 50); rw [show (w.alloc (.cells #[.int .i64 clk, v] 43)).heap.size = w.heap.size + 1 by simp] at q; exact q) _,
  ⟨_, rfl, by have q := blk_new ((w.alloc (.cells #[.int .i64 clk, v] 43)).alloc (.cells (evA e) 50)) (.cells #[.int .i64 0, .slice none 0 0] 43); rw [show ((w.alloc (.cells #[.int .i64 clk, v] 43)).alloc (.cells (evA e) 50)).heap.size = w.heap.size + 1 + 1 by simp] at q; exact q⟩, Kd.R_below h (below_alloc (below_alloc (below_alloc (Below.refl _ _) _) _) _)⟩
theorem Rj.step (h : Rj B w W clk v L e) (hb : Below W.heap.size W W1) : Rj B w W1 clk v L e := by
 obtain ⟨rs, h1, h2⟩ := h.r
 exact ⟨below_step h.below hb, blk_below h.b hb, blk_below h.e_ hb, ⟨rs, h1, blk_below h2 hb⟩, Kd.R_below h.kr hb⟩
theorem Rj.alloc (h : Rj B w W clk v L e) (o : Obj) : Rj B w (W.alloc o) clk v L e := h.step (below_alloc (Below.refl _ _) o)
theorem Rj.drew (h : Rj B w W clk v L e) : Rj B w W.drew clk v L e := h.step (below_drew (Below.refl _ _))
theorem Rj.tick (h : Rj B w W clk v L e) (t : Int) : Rj B w (W.setCell ⟨w.heap.size, 0, none⟩ (.int .i64 t)) t v L e := by
 obtain ⟨rs, h1, h2⟩ := h.r
 exact ⟨below_set h.below (Nat.le_refl _), blk_put h.b 0 _ rfl, (Below.heap_setCell _ _ _ _ (by simp)).trans h.e_, ⟨rs, h1, (Below.heap_setCell _ _ _ _ (by simp; omega)).trans h2⟩, h.kr.keep fun g cs hg => Below.heap_setCell _ _ _ _ (types_ne hg h.b (by decide))⟩
end
def RdPost (B : Nat) (w : World) (p : Rm × Int) (r : Ending) (w' : World) : Prop := ∃ v1, r = .returned (.tuple #[.agg #[.int .i64 p.1.clk, v1], .int .i64 p.2]) ∧ KR w' B v1 p.1.L ∧ Below w.heap.size w w'
theorem stat_calls {B : Nat} {W : World} {clk : Int} {A : Option Addr} {c : Nat} {L : List S127} (h : KR W B (.slice A L.length c) L) (hn : L.length ≤ 100000) (x y : Int) : Calls Try.prog 35 #[.agg #[.int .i64 clk, .slice A L.length c], .agg #[.int .i64 x, .int .i64 y]] W fun r w' => r = .returned (.int .i64 (statR L (x, y))) ∧ Below W.heap.size W w' := by
 obtain ⟨k, hk⟩ := PE.rounds (stat_is L (by omega) clk (x, y))
 exact knellref12_Status.calls k clk A c L x y _ W h.C.1 h.C.2 hk
theorem find_calls {B : Nat} {W : World} {clk : Int} {A : Option Addr} {c : Nat} {L : List S127} (h : KR W B (.slice A L.length c) L) (hn : L.length ≤ 100000) (x y : Int) : Calls Try.prog 68 #[.agg #[.int .i64 clk, .slice A L.length c], .agg #[.int .i64 x, .int .i64 y]] W fun r w' => r = .returned (.int .i64 (findR L (x, y))) ∧ Below W.heap.size W w' := by
 obtain ⟨k, hk⟩ := PE.rounds (find_is L (by omega) clk (x, y))
 exact knellref12_Find.calls k clk A c L x y _ W h.C.1 h.C.2 hk
theorem free_calls {B : Nat} {W : World} {clk : Int} {A : Option Addr} {c : Nat} {L : List S127} (h : KR W B (.slice A L.length c) L) (hn : L.length ≤ 100000) (x y : Int) : Calls Try.prog 80 #[.agg #[.int .i64 clk, .slice A L.length c], .agg #[.int .i64 x, .int .i64 y]] W fun r w' => r = .returned (.bool (freeR L (x, y))) ∧ Below W.heap.size W w' := by
 obtain ⟨k, hk⟩ := PE.rounds (free_is L (by omega) clk (x, y))
 exact knellref12_free.calls k clk A c L x y _ W h.C.1 h.C.2 hk
theorem turn_calls {B : Nat} {W : World} {clk : Int} {A : Option Addr} {c : Nat} {L : List S127} (h : KR W B (.slice A L.length c) L) (hB : B ≤ W.heap.size) (hn : L.length ≤ 100000) (x y s : Int) (nd : (L.map S127.h).Nodup) (hx : ∃ z ∈ L, z.h = (x, y)) : Calls Try.prog 79 #[.agg #[.int .i64 clk, .slice A L.length c], .agg #[.int .i64 x, .int .i64 y], .int .i64 s] W fun r w' => ∃ A1 c1, r = .returned (.agg #[.int .i64 clk, .slice A1 (turnR L (x, y) s).length c1]) ∧ KR w' B (.slice A1 (turnR L (x, y) s).length c1) (turnR L (x, y) s) ∧ Below W.heap.size W w' := by
 obtain ⟨k, hk⟩ := PE.rounds (turn_is L (by omega) clk (x, y) s nd hx)
 refine (knellref12_turn.calls k clk A c L x y s _ _ W h.C.1 h.C.2 hk).mono ?_
 rintro r w' ⟨v1, h1, h2, h3⟩
 obtain ⟨A1, c1, rfl⟩ := Kd.R_slice h2
 exact ⟨A1, c1, h1, Kd.R_lower h2 hB, h3⟩
theorem arm_calls {B : Nat} {W : World} {clk : Int} {A : Option Addr} {c : Nat} {L : List S127} (h : KR W B (.slice A L.length c) L) (hB : B ≤ W.heap.size) (hn : L.length ≤ 100000) (x y d : Int) : Calls Try.prog 81 #[.agg #[.int .i64 clk, .slice A L.length c], .agg #[.int .i64 x, .int .i64 y], .int .i64 d] W fun r w' => ∃ A1 c1, r = .returned (.agg #[.int .i64 clk, .slice A1 (armR L (x, y) d).length c1]) ∧ KR w' B (.slice A1 (armR L (x, y) d).length c1) (armR L (x, y) d) ∧ Below W.heap.size W w' := by
 refine (knellref12_arm.calls clk A c L x y d _ _ W h.C.1 h.C.2 (arm_is L (by omega) clk (x, y) d)).mono ?_
 rintro r w' ⟨v1, h1, h2, h3⟩
 obtain ⟨A1, c1, rfl⟩ := Kd.R_slice h2
 exact ⟨A1, c1, h1, Kd.R_lower h2 hB, h3⟩
theorem rright_run (e : Au.Ev) (W : World) : Calls Try.prog 62 #[.agg (evA e)] W fun r w' => r = .returned (.bool (rightJ e)) ∧ Below W.heap.size W w' := Ev.right_any e.k e.wk e.op e.hn e.hg e.nn e.ng e.t e.a e.u e.y e.er W
theorem stat_ex {L : List S127} {h : Au.Ha} (hs : statR L h = 1) : ∃ z ∈ L, z.h = h := by
 unfold statR at hs
 cases hf : L.find? (isH h) with
 | none => rw [hf] at hs; simp at hs
 | some z => exact ⟨z, List.mem_of_find?_eq_some hf, isH_iff.1 (by have := List.find?_some hf; simpa using this)⟩
structure Nj (B : Nat) (w W : World) (clk : Int) (v : Value) (L : List S127) (e : Au.Ev) (nb : Nat) (vn : Value) (Ln : List S127) : Prop where
 rj : Rj B w W clk v L e
 nb_ : W.heap[nb]? = some (.cells #[.int .i64 clk, vn] 43 (0, 0))
 lt : w.heap.size + 1 + 1 < nb
 kn : KR W B vn Ln
section
variable {B : Nat} {w W W1 : World} {clk : Int} {v vn : Value} {L Ln : List S127} {e : Au.Ev} {nb : Nat}
theorem Nj.start (h : Rj B w W clk v L e) : Nj B w (W.alloc (.cells #[.int .i64 clk, v] 43)) clk v L e W.heap.size v L := ⟨h.alloc _, blk_new _ _, by obtain ⟨_, _, q⟩ := h.r; exact blk_lt q, (h.alloc _).kr⟩
theorem Nj.step (h : Nj B w W clk v L e nb vn Ln) (hb : Below W.heap.size W W1) : Nj B w W1 clk v L e nb vn Ln := ⟨h.rj.step hb, blk_below h.nb_ hb, h.lt, Kd.R_below h.kn hb⟩
theorem Nj.drew (h : Nj B w W clk v L e nb vn Ln) : Nj B w W.drew clk v L e nb vn Ln := h.step (below_drew (Below.refl _ _))
theorem Nj.next (h : Nj B w W clk v L e nb vn Ln) (hb : Below W.heap.size W W1) {v1 : Value} {L1 : List S127} (hk : KR W1 B v1 L1) : Nj B w ((W1.setCell ⟨nb, 0, none⟩ (.int .i64 clk)).setCell ⟨nb, 1, none⟩ v1) clk v L e nb v1 L1 := by
 have h1 := h.step hb
 have hlt := h.lt
 have far : ∀ g, g ≠ nb → ((W1.setCell ⟨nb, 0, none⟩ (.int .i64 clk)).setCell ⟨nb, 1, none⟩ v1).heap[g]? = W1.heap[g]? := fun g hg => (Below.heap_setCell _ _ _ _ hg).trans (Below.heap_setCell _ _ _ _ hg)
 have ft : ∀ (g : Nat) (cs : Array Value), W1.heap[g]? = some (.cells cs 127 (0, 0)) → ((W1.setCell ⟨nb, 0, none⟩ (.int .i64 clk)).setCell ⟨nb, 1, none⟩ v1).heap[g]? = W1.heap[g]? := fun g cs hg => far g (types_ne hg h1.nb_ (by decide))
 obtain ⟨rs, q1, q2⟩ := h1.rj.r
 exact ⟨⟨below_set (below_set h1.rj.below (by omega)) (by omega), (far _ (by omega)).trans h1.rj.b, (far _ (by omega)).trans h1.rj.e_, ⟨rs, q1, (far _ (by omega)).trans q2⟩, h1.rj.kr.keep ft⟩, blk_put (blk_put h1.nb_ 0 _ rfl) 1 _ rfl, hlt, hk.keep ft⟩
end
theorem find_ex {L : List S127} {h : Au.Ha} (hs : statR L h = 1) : ∃ (i : Nat) (hi : i < L.length), findR L h = (i : Int) ∧ (L[i]).f2 = dlR L h := by
 unfold statR at hs
 unfold findR dlR
 cases hf : L.findIdx? (isH h) with
 | none => rw [(find_no hf).1] at hs; simp at hs
 | some i =>
  obtain ⟨hi, h1, h2, _⟩ := find_at hf
  rw [h2]
  exact ⟨i, hi, rfl, rfl⟩
theorem row_dl {W : World} {B : Nat} {A : Option Addr} {c : Nat} {L : List S127} (h : KR W B (.slice A L.length c) L) (i : Nat) (hi : i < L.length) : ∃ g, A = some ⟨g, 0, none⟩ ∧ g < W.heap.size ∧ W.cell? ⟨g, i * 4 + 3, none⟩ = some (.int .i64 (L[i]).f2) := by
 obtain ⟨_, inner, ho, hr⟩ := h
 rcases ho.2 with ⟨_, hn⟩ | ⟨g, cap, cur, hv, _, hg, _⟩
 ·omega
 ·injection hv with hA _ _
  obtain ⟨ad, hA2, hc⟩ := (KR.C ⟨fun _ _ => trivial, inner, ho, hr⟩).1.2.2 (by omega)
  obtain ⟨cs, _, hk, hcc⟩ := hc i _ (List.getElem?_eq_getElem hi)
  rw [hA] at hA2
  obtain rfl := Option.some.inj hA2
  refine ⟨g, hA, blk_lt hg, ?_⟩
  obtain rfl := k127_open hk
  have hq := hcc 3 _ rfl
  have hsz : k127.sz = 4 := rfl
  have had : (⟨g, 0, none⟩ : Addr).add (i * 4 + 3) = ⟨g, i * 4 + 3, none⟩ := by simp [Addr.add]
  rw [hsz, had] at hq
  exact hq
def rdR.T10 : Bool × List (List Nat × List Nat) := (true, [([], []), ([0], [0]), ([1], [1]), ([2], [2]), ([3, 2], [2, 3]), ([2], [2]), ([2], [2]), ([6, 2], [2, 6]), ([5, 7, 2, 2], [2, 5, 7]), ([4, 8, 2], [2, 4, 8]), ([9, 2], [2, 9]), ([10, 2], [2, 10]), ([2], [2]), ([12, 2], [2, 12]), ([11, 13, 2], [2, 11, 13]), ([2, 14], [2, 14]), ([15, 8], [15]), ([16], [16]), ([17, 16], [16, 17]), ([16], [16]), ([19, 16], [16, 19]), ([18, 20, 16], [16, 18, 20]), ([16, 21], [16, 21])])
def rdR.B10 : List Nat := [0, 1, 3, 7, 15, 7, 7, 71, 231, 511, 1023, 2047, 7, 4103, 16383, 32767, 65535, 131071, 262143, 131071, 655359, 2097151, 4194303]
theorem rdR.tab10 : rtab .any (opsOf Try.f45 10) = rdR.T10 := by kernel_rfl
theorem rdR.bits10 : waitsOk rdR.T10.2 rdR.B10 = true := by kernel_rfl
def rdR.T30 : Bool × List (List Nat × List Nat) := (true, [([], []), ([], []), ([1], [1]), ([0, 2], [0, 2]), ([], []), ([4], [4]), ([], []), ([6], [6]), ([3, 5, 7, 3], [3, 5, 7]), ([8, 8, 0, 1, 2, 3, 4, 5, 6, 7, 8], [8])])
def rdR.B30 : List Nat := [0, 0, 2, 7, 0, 16, 0, 64, 255, 511]
theorem rdR.tab30 : rtab .any (opsOf Try.f45 30) = rdR.T30 := by kernel_rfl
theorem rdR.bits30 : waitsOk rdR.T30.2 rdR.B30 = true := by kernel_rfl
theorem rdo_wrong {w : World} {B : Nat} (m : Rm) (v : Value) (e : Au.Ev) (hn : m.L.length ≤ 90000) (nd : (m.L.map S127.h).Nodup) (hB : B ≤ w.heap.size) (h : KR w B v m.L) (hr : rightJ e = false) :
  Calls Try.prog 45 #[.agg #[.int .i64 m.clk, v], .agg (evA e)] w (RdPost B w (rdoF m e)) := by
 have hu0 := Try.underlying43
 have hu1 := Try.underlying36
 have hu2 := Try.underlying50
 have hu3 := Try.underlying127
 have HF := Aside0.mk (show rdoF m e = (m, 8) by unfold rdoF; rw [if_pos (.inl hr)])
 have hr0 := hr
 obtain ⟨A, c, rfl⟩ := Kd.R_slice h
 have CR := Aside0.mk (fun W => rright_run e W)
 have CS : Aside0 (∀ W, KR W B (.slice A m.L.length c) m.L → Calls Try.prog 35 #[.agg #[.int .i64 m.clk, .slice A m.L.length c], .agg #[.int .i64 e.hn, .int .i64 e.hg]] W fun r w' => r = .returned (.int .i64 (statR m.L e.h)) ∧ Below W.heap.size W w') := ⟨fun W hW => stat_calls hW (by omega) e.hn e.hg⟩
 have HN := Aside0.mk hn
 have HND := Aside0.mk nd
 have HB := Aside0.mk hB
 have HJ := Aside0.mk (Rj.start h m.clk e)
 clear hn nd hB h hr
 have hcb := fun i => blk_cell HJ.out.b i
 have hce := fun i => blk_cell HJ.out.e_ i
 have hlb := blk_lt HJ.out.b
 have hle := blk_lt HJ.out.e_
 have hlr := (by obtain ⟨_, _, q⟩ := HJ.out.r; exact blk_lt q : w.heap.size + 1 + 1 < _)
 obtain ⟨sv, hsv⟩ : ∃ sv, statR m.L e.h = sv := ⟨_, rfl⟩
 try rw [hsv] at CS
 try rw [hsv] at qs
 clear hsv
 go_enter Try.func45, Try.ntmps45
 rw [hr0] at CR
 go_upto_region 2 with (first | (go_at_call 62; (with_reducible refine (CR.out _).mono ?_); rintro r w2 ⟨rfl, hb⟩; have HJ2 := Aside0.mk (HJ.out.step hb); clear hb hcb hce hlb hle hlr HJ; have HJ := HJ2; clear HJ2; have hcb := fun i => blk_cell HJ.out.b i; have hce := fun i => blk_cell HJ.out.e_ i; have hlb := blk_lt HJ.out.b; have hle := blk_lt HJ.out.e_; have hlr := (by obtain ⟨_, _, q⟩ := HJ.out.r; exact blk_lt q : w.heap.size + 1 + 1 < _)) | (go_at_call 35; (with_reducible refine (CS.out _ HJ.out.kr).mono ?_); rintro r w3 ⟨rfl, hb⟩; have HJ2 := Aside0.mk (HJ.out.step hb); clear hb hcb hce hlb hle hlr HJ; have HJ := HJ2; clear HJ2; have hcb := fun i => blk_cell HJ.out.b i; have hce := fun i => blk_cell HJ.out.e_ i; have hlb := blk_lt HJ.out.b; have hle := blk_lt HJ.out.e_; have hlr := (by obtain ⟨_, _, q⟩ := HJ.out.r; exact blk_lt q : w.heap.size + 1 + 1 < _)))
 obtain ⟨rs, hrs, hrr⟩ := HJ.out.r
 obtain ⟨x0, x1, rfl⟩ : ∃ x0 x1, rs = #[x0, x1] := by rcases rs with ⟨_ | ⟨x0, _ | ⟨x1, _ | _⟩⟩⟩ <;> simp at hrs; exact ⟨_, _, rfl⟩
 have hcr := fun i => blk_cell hrr i
 have hfr := fun i => blk_frozen hrr i
 clear hrs
 go_wp2
 have HE := Aside0.mk (show KR _ B (.slice A m.L.length c) m.L from KR.keep (KR.keep HJ.out.kr (W1 := World.setCell _ ⟨w.heap.size + 1 + 1, 0, none⟩ (.int .i64 m.clk)) fun g cs hg => Below.heap_setCell _ _ _ _ (types_ne hg hrr (by decide))) (W1 := World.setCell (World.setCell _ ⟨w.heap.size + 1 + 1, 0, none⟩ (.int .i64 m.clk)) ⟨w.heap.size + 1 + 1, 1, none⟩ (.slice A m.L.length c)) fun g cs hg => Below.heap_setCell _ _ _ _ (types_ne hg (blk_put hrr 0 _ rfl) (by decide)))
 have HBL := Aside0.mk (below_set (g := w.heap.size + 1 + 1) (j := 1) (v := .slice A m.L.length c) (below_set (g := w.heap.size + 1 + 1) (j := 0) (v := .int .i64 m.clk) HJ.out.below (by omega)) (by omega))
 unfold RdPost
 rw [HF.out]
 exact bodyPost_ret (v := .tuple #[.agg #[.int .i64 m.clk, .slice A m.L.length c], .int .i64 8]) (by simp [results, Try.results45, asAddr, go_sem, hu0, hcr, hlr]) rfl ⟨_, rfl, HE.out, HBL.out⟩
theorem rdo_two {w : World} {B : Nat} (m : Rm) (v : Value) (e : Au.Ev) (hn : m.L.length ≤ 90000) (nd : (m.L.map S127.h).Nodup) (hB : B ≤ w.heap.size) (h : KR w B v m.L) (hr : rightJ e = true) (hk : e.k = 2) :
  Calls Try.prog 45 #[.agg #[.int .i64 m.clk, v], .agg (evA e)] w (RdPost B w (rdoF m e)) := by
 have hu0 := Try.underlying43
 have hu1 := Try.underlying36
 have hu2 := Try.underlying50
 have hu3 := Try.underlying127
 have HF := Aside0.mk (show rdoF m e = (m, 8) by unfold rdoF; rw [if_pos (by omega)])
 have qk1 : (e.k == 1) = false := beq_eq_false_iff_ne.2 (by omega)
 have qk2 : (e.k == 2) = true := beq_iff_eq.2 (hk)
 have qk4 : (e.k == 4) = false := beq_eq_false_iff_ne.2 (by omega)
 have qk5 : (e.k == 5) = false := beq_eq_false_iff_ne.2 (by omega)
 obtain ⟨A, c, rfl⟩ := Kd.R_slice h
 have CR := Aside0.mk (fun W => rright_run e W)
 have CS : Aside0 (∀ W, KR W B (.slice A m.L.length c) m.L → Calls Try.prog 35 #[.agg #[.int .i64 m.clk, .slice A m.L.length c], .agg #[.int .i64 e.hn, .int .i64 e.hg]] W fun r w' => r = .returned (.int .i64 (statR m.L e.h)) ∧ Below W.heap.size W w') := ⟨fun W hW => stat_calls hW (by omega) e.hn e.hg⟩
 have HN := Aside0.mk hn
 have HND := Aside0.mk nd
 have HB := Aside0.mk hB
 have HJ := Aside0.mk (Rj.start h m.clk e)
 rw [hr] at CR
 clear hn nd hB h hr hk
 have hcb := fun i => blk_cell HJ.out.b i
 have hce := fun i => blk_cell HJ.out.e_ i
 have hlb := blk_lt HJ.out.b
 have hle := blk_lt HJ.out.e_
 have hlr := (by obtain ⟨_, _, q⟩ := HJ.out.r; exact blk_lt q : w.heap.size + 1 + 1 < _)
 obtain ⟨sv, hsv⟩ : ∃ sv, statR m.L e.h = sv := ⟨_, rfl⟩
 try rw [hsv] at CS
 try rw [hsv] at qs
 clear hsv
 go_enter Try.func45, Try.ntmps45
 go_upto_region 2 with (first | (go_at_call 62; (with_reducible refine (CR.out _).mono ?_); rintro r w2 ⟨rfl, hb⟩; have HJ2 := Aside0.mk (HJ.out.step hb); clear hb hcb hce hlb hle hlr HJ; have HJ := HJ2; clear HJ2; have hcb := fun i => blk_cell HJ.out.b i; have hce := fun i => blk_cell HJ.out.e_ i; have hlb := blk_lt HJ.out.b; have hle := blk_lt HJ.out.e_; have hlr := (by obtain ⟨_, _, q⟩ := HJ.out.r; exact blk_lt q : w.heap.size + 1 + 1 < _)) | (go_at_call 35; (with_reducible refine (CS.out _ HJ.out.kr).mono ?_); rintro r w3 ⟨rfl, hb⟩; have HJ2 := Aside0.mk (HJ.out.step hb); clear hb hcb hce hlb hle hlr HJ; have HJ := HJ2; clear HJ2; have hcb := fun i => blk_cell HJ.out.b i; have hce := fun i => blk_cell HJ.out.e_ i; have hlb := blk_lt HJ.out.b; have hle := blk_lt HJ.out.e_; have hlr := (by obtain ⟨_, _, q⟩ := HJ.out.r; exact blk_lt q : w.heap.size + 1 + 1 < _)))
 obtain ⟨rs, hrs, hrr⟩ := HJ.out.r
 obtain ⟨x0, x1, rfl⟩ : ∃ x0 x1, rs = #[x0, x1] := by rcases rs with ⟨_ | ⟨x0, _ | ⟨x1, _ | _⟩⟩⟩ <;> simp at hrs; exact ⟨_, _, rfl⟩
 have hcr := fun i => blk_cell hrr i
 have hfr := fun i => blk_frozen hrr i
 clear hrs
 go_wp2
 have HE := Aside0.mk (show KR _ B (.slice A m.L.length c) m.L from KR.keep (KR.keep HJ.out.kr (W1 := World.setCell _ ⟨w.heap.size + 1 + 1, 0, none⟩ (.int .i64 m.clk)) fun g cs hg => Below.heap_setCell _ _ _ _ (types_ne hg hrr (by decide))) (W1 := World.setCell (World.setCell _ ⟨w.heap.size + 1 + 1, 0, none⟩ (.int .i64 m.clk)) ⟨w.heap.size + 1 + 1, 1, none⟩ (.slice A m.L.length c)) fun g cs hg => Below.heap_setCell _ _ _ _ (types_ne hg (blk_put hrr 0 _ rfl) (by decide)))
 have HBL := Aside0.mk (below_set (g := w.heap.size + 1 + 1) (j := 1) (v := .slice A m.L.length c) (below_set (g := w.heap.size + 1 + 1) (j := 0) (v := .int .i64 m.clk) HJ.out.below (by omega)) (by omega))
 unfold RdPost
 rw [HF.out]
 exact bodyPost_ret (v := .tuple #[.agg #[.int .i64 m.clk, .slice A m.L.length c], .int .i64 8]) (by simp [results, Try.results45, asAddr, go_sem, hu0, hcr, hlr]) rfl ⟨_, rfl, HE.out, HBL.out⟩
theorem rdo_five {w : World} {B : Nat} (m : Rm) (v : Value) (e : Au.Ev) (hn : m.L.length ≤ 90000) (nd : (m.L.map S127.h).Nodup) (hB : B ≤ w.heap.size) (h : KR w B v m.L) (hr : rightJ e = true) (hk : e.k = 5) :
  Calls Try.prog 45 #[.agg #[.int .i64 m.clk, v], .agg (evA e)] w (RdPost B w (rdoF m e)) := by
 have hu0 := Try.underlying43
 have hu1 := Try.underlying36
 have hu2 := Try.underlying50
 have hu3 := Try.underlying127
 have HF := Aside0.mk (show rdoF m e = (m, 8) by unfold rdoF; rw [if_pos (by omega)])
 have qk1 : (e.k == 1) = false := beq_eq_false_iff_ne.2 (by omega)
 have qk2 : (e.k == 2) = false := beq_eq_false_iff_ne.2 (by omega)
 have qk4 : (e.k == 4) = false := beq_eq_false_iff_ne.2 (by omega)
 have qk5 : (e.k == 5) = true := beq_iff_eq.2 (hk)
 obtain ⟨A, c, rfl⟩ := Kd.R_slice h
 have CR := Aside0.mk (fun W => rright_run e W)
 have CS : Aside0 (∀ W, KR W B (.slice A m.L.length c) m.L → Calls Try.prog 35 #[.agg #[.int .i64 m.clk, .slice A m.L.length c], .agg #[.int .i64 e.hn, .int .i64 e.hg]] W fun r w' => r = .returned (.int .i64 (statR m.L e.h)) ∧ Below W.heap.size W w') := ⟨fun W hW => stat_calls hW (by omega) e.hn e.hg⟩
 have HN := Aside0.mk hn
 have HND := Aside0.mk nd
 have HB := Aside0.mk hB
 have HJ := Aside0.mk (Rj.start h m.clk e)
 rw [hr] at CR
 clear hn nd hB h hr hk
 have hcb := fun i => blk_cell HJ.out.b i
 have hce := fun i => blk_cell HJ.out.e_ i
 have hlb := blk_lt HJ.out.b
 have hle := blk_lt HJ.out.e_
 have hlr := (by obtain ⟨_, _, q⟩ := HJ.out.r; exact blk_lt q : w.heap.size + 1 + 1 < _)
 obtain ⟨sv, hsv⟩ : ∃ sv, statR m.L e.h = sv := ⟨_, rfl⟩
 try rw [hsv] at CS
 try rw [hsv] at qs
 clear hsv
 go_enter Try.func45, Try.ntmps45
 go_upto_region 2 with (first | (go_at_call 62; (with_reducible refine (CR.out _).mono ?_); rintro r w2 ⟨rfl, hb⟩; have HJ2 := Aside0.mk (HJ.out.step hb); clear hb hcb hce hlb hle hlr HJ; have HJ := HJ2; clear HJ2; have hcb := fun i => blk_cell HJ.out.b i; have hce := fun i => blk_cell HJ.out.e_ i; have hlb := blk_lt HJ.out.b; have hle := blk_lt HJ.out.e_; have hlr := (by obtain ⟨_, _, q⟩ := HJ.out.r; exact blk_lt q : w.heap.size + 1 + 1 < _)) | (go_at_call 35; (with_reducible refine (CS.out _ HJ.out.kr).mono ?_); rintro r w3 ⟨rfl, hb⟩; have HJ2 := Aside0.mk (HJ.out.step hb); clear hb hcb hce hlb hle hlr HJ; have HJ := HJ2; clear HJ2; have hcb := fun i => blk_cell HJ.out.b i; have hce := fun i => blk_cell HJ.out.e_ i; have hlb := blk_lt HJ.out.b; have hle := blk_lt HJ.out.e_; have hlr := (by obtain ⟨_, _, q⟩ := HJ.out.r; exact blk_lt q : w.heap.size + 1 + 1 < _)))
 obtain ⟨rs, hrs, hrr⟩ := HJ.out.r
 obtain ⟨x0, x1, rfl⟩ : ∃ x0 x1, rs = #[x0, x1] := by rcases rs with ⟨_ | ⟨x0, _ | ⟨x1, _ | _⟩⟩⟩ <;> simp at hrs; exact ⟨_, _, rfl⟩
 have hcr := fun i => blk_cell hrr i
 have hfr := fun i => blk_frozen hrr i
 clear hrs
 go_wp2
 have HE := Aside0.mk (show KR _ B (.slice A m.L.length c) m.L from KR.keep (KR.keep HJ.out.kr (W1 := World.setCell _ ⟨w.heap.size + 1 + 1, 0, none⟩ (.int .i64 m.clk)) fun g cs hg => Below.heap_setCell _ _ _ _ (types_ne hg hrr (by decide))) (W1 := World.setCell (World.setCell _ ⟨w.heap.size + 1 + 1, 0, none⟩ (.int .i64 m.clk)) ⟨w.heap.size + 1 + 1, 1, none⟩ (.slice A m.L.length c)) fun g cs hg => Below.heap_setCell _ _ _ _ (types_ne hg (blk_put hrr 0 _ rfl) (by decide)))
 have HBL := Aside0.mk (below_set (g := w.heap.size + 1 + 1) (j := 1) (v := .slice A m.L.length c) (below_set (g := w.heap.size + 1 + 1) (j := 0) (v := .int .i64 m.clk) HJ.out.below (by omega)) (by omega))
 unfold RdPost
 rw [HF.out]
 exact bodyPost_ret (v := .tuple #[.agg #[.int .i64 m.clk, .slice A m.L.length c], .int .i64 8]) (by simp [results, Try.results45, asAddr, go_sem, hu0, hcr, hlr]) rfl ⟨_, rfl, HE.out, HBL.out⟩
theorem rdo_tick_no {w : World} {B : Nat} (m : Rm) (v : Value) (e : Au.Ev) (hn : m.L.length ≤ 90000) (nd : (m.L.map S127.h).Nodup) (hB : B ≤ w.heap.size) (h : KR w B v m.L) (hr : rightJ e = true) (hk : e.k = 1) (ht : ¬ e.t = wrap64 (m.clk + 1)) :
  Calls Try.prog 45 #[.agg #[.int .i64 m.clk, v], .agg (evA e)] w (RdPost B w (rdoF m e)) := by
 have hu0 := Try.underlying43
 have hu1 := Try.underlying36
 have hu2 := Try.underlying50
 have hu3 := Try.underlying127
 have HF := Aside0.mk (show rdoF m e = (m, 6) by unfold rdoF; rw [if_neg (by rw [hr]; simp; omega), if_pos hk, if_neg ht])
 have qk1 : (e.k == 1) = true := beq_iff_eq.2 (hk)
 have qk2 : (e.k == 2) = false := beq_eq_false_iff_ne.2 (by omega)
 have qk4 : (e.k == 4) = false := beq_eq_false_iff_ne.2 (by omega)
 have qk5 : (e.k == 5) = false := beq_eq_false_iff_ne.2 (by omega)
 have t0 : (e.t != wrap64 (m.clk + 1)) = true := bne_iff_ne.2 (ht)
 obtain ⟨A, c, rfl⟩ := Kd.R_slice h
 have CR := Aside0.mk (fun W => rright_run e W)
 have CS : Aside0 (∀ W, KR W B (.slice A m.L.length c) m.L → Calls Try.prog 35 #[.agg #[.int .i64 m.clk, .slice A m.L.length c], .agg #[.int .i64 e.hn, .int .i64 e.hg]] W fun r w' => r = .returned (.int .i64 (statR m.L e.h)) ∧ Below W.heap.size W w') := ⟨fun W hW => stat_calls hW (by omega) e.hn e.hg⟩
 have HN := Aside0.mk hn
 have HND := Aside0.mk nd
 have HB := Aside0.mk hB
 have HJ := Aside0.mk (Rj.start h m.clk e)
 rw [hr] at CR
 clear hn nd hB h hr hk ht
 have hcb := fun i => blk_cell HJ.out.b i
 have hce := fun i => blk_cell HJ.out.e_ i
 have hlb := blk_lt HJ.out.b
 have hle := blk_lt HJ.out.e_
 have hlr := (by obtain ⟨_, _, q⟩ := HJ.out.r; exact blk_lt q : w.heap.size + 1 + 1 < _)
 obtain ⟨sv, hsv⟩ : ∃ sv, statR m.L e.h = sv := ⟨_, rfl⟩
 try rw [hsv] at CS
 try rw [hsv] at qs
 clear hsv
 go_enter Try.func45, Try.ntmps45
 go_upto_region 6 with (first | (go_at_call 62; (with_reducible refine (CR.out _).mono ?_); rintro r w2 ⟨rfl, hb⟩; have HJ2 := Aside0.mk (HJ.out.step hb); clear hb hcb hce hlb hle hlr HJ; have HJ := HJ2; clear HJ2; have hcb := fun i => blk_cell HJ.out.b i; have hce := fun i => blk_cell HJ.out.e_ i; have hlb := blk_lt HJ.out.b; have hle := blk_lt HJ.out.e_; have hlr := (by obtain ⟨_, _, q⟩ := HJ.out.r; exact blk_lt q : w.heap.size + 1 + 1 < _)) | (go_at_call 35; (with_reducible refine (CS.out _ HJ.out.kr).mono ?_); rintro r w3 ⟨rfl, hb⟩; have HJ2 := Aside0.mk (HJ.out.step hb); clear hb hcb hce hlb hle hlr HJ; have HJ := HJ2; clear HJ2; have hcb := fun i => blk_cell HJ.out.b i; have hce := fun i => blk_cell HJ.out.e_ i; have hlb := blk_lt HJ.out.b; have hle := blk_lt HJ.out.e_; have hlr := (by obtain ⟨_, _, q⟩ := HJ.out.r; exact blk_lt q : w.heap.size + 1 + 1 < _)))
 obtain ⟨rs, hrs, hrr⟩ := HJ.out.r
 obtain ⟨x0, x1, rfl⟩ : ∃ x0 x1, rs = #[x0, x1] := by rcases rs with ⟨_ | ⟨x0, _ | ⟨x1, _ | _⟩⟩⟩ <;> simp at hrs; exact ⟨_, _, rfl⟩
 have hcr := fun i => blk_cell hrr i
 have hfr := fun i => blk_frozen hrr i
 clear hrs
 go_wp2
 have HE := Aside0.mk (show KR _ B (.slice A m.L.length c) m.L from KR.keep (KR.keep HJ.out.kr (W1 := World.setCell _ ⟨w.heap.size + 1 + 1, 0, none⟩ (.int .i64 m.clk)) fun g cs hg => Below.heap_setCell _ _ _ _ (types_ne hg hrr (by decide))) (W1 := World.setCell (World.setCell _ ⟨w.heap.size + 1 + 1, 0, none⟩ (.int .i64 m.clk)) ⟨w.heap.size + 1 + 1, 1, none⟩ (.slice A m.L.length c)) fun g cs hg => Below.heap_setCell _ _ _ _ (types_ne hg (blk_put hrr 0 _ rfl) (by decide)))
 have HBL := Aside0.mk (below_set (g := w.heap.size + 1 + 1) (j := 1) (v := .slice A m.L.length c) (below_set (g := w.heap.size + 1 + 1) (j := 0) (v := .int .i64 m.clk) HJ.out.below (by omega)) (by omega))
 unfold RdPost
 rw [HF.out]
 exact bodyPost_ret (v := .tuple #[.agg #[.int .i64 m.clk, .slice A m.L.length c], .int .i64 6]) (by simp [results, Try.results45, asAddr, go_sem, hu0, hcr, hlr]) rfl ⟨_, rfl, HE.out, HBL.out⟩
theorem rdo_tick {w : World} {B : Nat} (m : Rm) (v : Value) (e : Au.Ev) (hn : m.L.length ≤ 90000) (nd : (m.L.map S127.h).Nodup) (hB : B ≤ w.heap.size) (h : KR w B v m.L) (hr : rightJ e = true) (hk : e.k = 1) (ht : e.t = wrap64 (m.clk + 1)) :
  Calls Try.prog 45 #[.agg #[.int .i64 m.clk, v], .agg (evA e)] w (RdPost B w (rdoF m e)) := by
 have hu0 := Try.underlying43
 have hu1 := Try.underlying36
 have hu2 := Try.underlying50
 have hu3 := Try.underlying127
 have HF := Aside0.mk (show rdoF m e = ({ m with clk := e.t }, 0) by unfold rdoF; rw [if_neg (by rw [hr]; simp; omega), if_pos hk, if_pos ht])
 have qk1 : (e.k == 1) = true := beq_iff_eq.2 (hk)
 have qk2 : (e.k == 2) = false := beq_eq_false_iff_ne.2 (by omega)
 have qk4 : (e.k == 4) = false := beq_eq_false_iff_ne.2 (by omega)
 have qk5 : (e.k == 5) = false := beq_eq_false_iff_ne.2 (by omega)
 have t0 : (e.t != wrap64 (m.clk + 1)) = false := bne_eq_false_iff_eq.2 (ht)
 obtain ⟨A, c, rfl⟩ := Kd.R_slice h
 have CR := Aside0.mk (fun W => rright_run e W)
 have CS : Aside0 (∀ W, KR W B (.slice A m.L.length c) m.L → Calls Try.prog 35 #[.agg #[.int .i64 m.clk, .slice A m.L.length c], .agg #[.int .i64 e.hn, .int .i64 e.hg]] W fun r w' => r = .returned (.int .i64 (statR m.L e.h)) ∧ Below W.heap.size W w') := ⟨fun W hW => stat_calls hW (by omega) e.hn e.hg⟩
 have HN := Aside0.mk hn
 have HND := Aside0.mk nd
 have HB := Aside0.mk hB
 have HJ := Aside0.mk (Rj.start h m.clk e)
 rw [hr] at CR
 clear hn nd hB h hr hk ht
 have hcb := fun i => blk_cell HJ.out.b i
 have hce := fun i => blk_cell HJ.out.e_ i
 have hlb := blk_lt HJ.out.b
 have hle := blk_lt HJ.out.e_
 have hlr := (by obtain ⟨_, _, q⟩ := HJ.out.r; exact blk_lt q : w.heap.size + 1 + 1 < _)
 obtain ⟨sv, hsv⟩ : ∃ sv, statR m.L e.h = sv := ⟨_, rfl⟩
 try rw [hsv] at CS
 try rw [hsv] at qs
 clear hsv
 go_enter Try.func45, Try.ntmps45
 go_upto_region 7 with (first | (go_at_call 62; (with_reducible refine (CR.out _).mono ?_); rintro r w2 ⟨rfl, hb⟩; have HJ2 := Aside0.mk (HJ.out.step hb); clear hb hcb hce hlb hle hlr HJ; have HJ := HJ2; clear HJ2; have hcb := fun i => blk_cell HJ.out.b i; have hce := fun i => blk_cell HJ.out.e_ i; have hlb := blk_lt HJ.out.b; have hle := blk_lt HJ.out.e_; have hlr := (by obtain ⟨_, _, q⟩ := HJ.out.r; exact blk_lt q : w.heap.size + 1 + 1 < _)) | (go_at_call 35; (with_reducible refine (CS.out _ HJ.out.kr).mono ?_); rintro r w3 ⟨rfl, hb⟩; have HJ2 := Aside0.mk (HJ.out.step hb); clear hb hcb hce hlb hle hlr HJ; have HJ := HJ2; clear HJ2; have hcb := fun i => blk_cell HJ.out.b i; have hce := fun i => blk_cell HJ.out.e_ i; have hlb := blk_lt HJ.out.b; have hle := blk_lt HJ.out.e_; have hlr := (by obtain ⟨_, _, q⟩ := HJ.out.r; exact blk_lt q : w.heap.size + 1 + 1 < _)))
 have hfb := fun i => blk_frozen HJ.out.b i
 go_upto_region 8 with (fail)
 have HT := Aside0.mk (HJ.out.tick e.t)
 clear hcb hce hlb hle hlr hfb HJ
 have hcb := fun i => blk_cell HT.out.b i
 have hce := fun i => blk_cell HT.out.e_ i
 have hlb := blk_lt HT.out.b
 have hle := blk_lt HT.out.e_
 have hlr := (by obtain ⟨_, _, q⟩ := HT.out.r; exact blk_lt q : w.heap.size + 1 + 1 < _)
 obtain ⟨rs, hrs, hrr⟩ := HT.out.r
 obtain ⟨x0, x1, rfl⟩ : ∃ x0 x1, rs = #[x0, x1] := by rcases rs with ⟨_ | ⟨x0, _ | ⟨x1, _ | _⟩⟩⟩ <;> simp at hrs; exact ⟨_, _, rfl⟩
 have hcr := fun i => blk_cell hrr i
 have hfr := fun i => blk_frozen hrr i
 clear hrs
 go_wp2
 have HE := Aside0.mk (show KR _ B (.slice A m.L.length c) m.L from KR.keep (KR.keep HT.out.kr (W1 := World.setCell _ ⟨w.heap.size + 1 + 1, 0, none⟩ (.int .i64 e.t)) fun g cs hg => Below.heap_setCell _ _ _ _ (types_ne hg hrr (by decide))) (W1 := World.setCell (World.setCell _ ⟨w.heap.size + 1 + 1, 0, none⟩ (.int .i64 e.t)) ⟨w.heap.size + 1 + 1, 1, none⟩ (.slice A m.L.length c)) fun g cs hg => Below.heap_setCell _ _ _ _ (types_ne hg (blk_put hrr 0 _ rfl) (by decide)))
 have HBL := Aside0.mk (below_set (g := w.heap.size + 1 + 1) (j := 1) (v := .slice A m.L.length c) (below_set (g := w.heap.size + 1 + 1) (j := 0) (v := .int .i64 e.t) HT.out.below (by omega)) (by omega))
 unfold RdPost
 rw [HF.out]
 exact bodyPost_ret (v := .tuple #[.agg #[.int .i64 e.t, .slice A m.L.length c], .int .i64 0]) (by simp [results, Try.results45, asAddr, go_sem, hu0, hcr, hlr]) rfl ⟨_, rfl, HE.out, HBL.out⟩
theorem rdo_fire_no {w : World} {B : Nat} (m : Rm) (v : Value) (e : Au.Ev) (hn : m.L.length ≤ 90000) (nd : (m.L.map S127.h).Nodup) (hB : B ≤ w.heap.size) (h : KR w B v m.L) (hr : rightJ e = true) (hk : e.k = 4) (ha : ¬ statR m.L e.h = 1) :
  Calls Try.prog 45 #[.agg #[.int .i64 m.clk, v], .agg (evA e)] w (RdPost B w (rdoF m e)) := by
 have hu0 := Try.underlying43
 have hu1 := Try.underlying36
 have hu2 := Try.underlying50
 have hu3 := Try.underlying127
 have HF := Aside0.mk (show rdoF m e = (m, 6) by unfold rdoF; rw [if_neg (by rw [hr]; simp; omega), if_neg (by omega), if_pos hk, if_neg (fun q => ha q.1)])
 have qk1 : (e.k == 1) = false := beq_eq_false_iff_ne.2 (by omega)
 have qk2 : (e.k == 2) = false := beq_eq_false_iff_ne.2 (by omega)
 have qk4 : (e.k == 4) = true := beq_iff_eq.2 (hk)
 have qk5 : (e.k == 5) = false := beq_eq_false_iff_ne.2 (by omega)
 have qs : (statR m.L e.h == 1) = false := beq_eq_false_iff_ne.2 (ha)
 obtain ⟨A, c, rfl⟩ := Kd.R_slice h
 have CR := Aside0.mk (fun W => rright_run e W)
 have CS : Aside0 (∀ W, KR W B (.slice A m.L.length c) m.L → Calls Try.prog 35 #[.agg #[.int .i64 m.clk, .slice A m.L.length c], .agg #[.int .i64 e.hn, .int .i64 e.hg]] W fun r w' => r = .returned (.int .i64 (statR m.L e.h)) ∧ Below W.heap.size W w') := ⟨fun W hW => stat_calls hW (by omega) e.hn e.hg⟩
 have HN := Aside0.mk hn
 have HND := Aside0.mk nd
 have HB := Aside0.mk hB
 have HJ := Aside0.mk (Rj.start h m.clk e)
 rw [hr] at CR
 clear hn nd hB h hr hk ha
 have hcb := fun i => blk_cell HJ.out.b i
 have hce := fun i => blk_cell HJ.out.e_ i
 have hlb := blk_lt HJ.out.b
 have hle := blk_lt HJ.out.e_
 have hlr := (by obtain ⟨_, _, q⟩ := HJ.out.r; exact blk_lt q : w.heap.size + 1 + 1 < _)
 obtain ⟨sv, hsv⟩ : ∃ sv, statR m.L e.h = sv := ⟨_, rfl⟩
 try rw [hsv] at CS
 try rw [hsv] at qs
 clear hsv
 go_enter Try.func45, Try.ntmps45
 go_upto_region 10 with (first | (go_at_call 62; (with_reducible refine (CR.out _).mono ?_); rintro r w2 ⟨rfl, hb⟩; have HJ2 := Aside0.mk (HJ.out.step hb); clear hb hcb hce hlb hle hlr HJ; have HJ := HJ2; clear HJ2; have hcb := fun i => blk_cell HJ.out.b i; have hce := fun i => blk_cell HJ.out.e_ i; have hlb := blk_lt HJ.out.b; have hle := blk_lt HJ.out.e_; have hlr := (by obtain ⟨_, _, q⟩ := HJ.out.r; exact blk_lt q : w.heap.size + 1 + 1 < _)) | (go_at_call 35; (with_reducible refine (CS.out _ HJ.out.kr).mono ?_); rintro r w3 ⟨rfl, hb⟩; have HJ2 := Aside0.mk (HJ.out.step hb); clear hb hcb hce hlb hle hlr HJ; have HJ := HJ2; clear HJ2; have hcb := fun i => blk_cell HJ.out.b i; have hce := fun i => blk_cell HJ.out.e_ i; have hlb := blk_lt HJ.out.b; have hle := blk_lt HJ.out.e_; have hlr := (by obtain ⟨_, _, q⟩ := HJ.out.r; exact blk_lt q : w.heap.size + 1 + 1 < _)))
 refine gen_world' (fun W => Rj B w W m.clk (.slice A m.L.length c) m.L e) (by exact HJ.out) fun w4 Hw4 => ?_
 have HJw4 := Aside0.mk Hw4
 clear Hw4 HJ
 clear hcb hce hlb hle hlr
 refine start_ (n := 23) (S := (fun w' => (∀ i, w'.cell? ⟨w.heap.size, i, none⟩ = (#[.int .i64 m.clk, .slice A m.L.length c] : Array Value)[i]?) ∧ (∀ i, w'.cell? ⟨w.heap.size + 1, i, none⟩ = (evA e)[i]?))) (ds := []) #[ff,ff,ff,ff,ff,ff,ff,ff,ff,ff,ff,ff,ff,ff,ff,ff,ff,ff,ff,ff,ff,ff,ff] (by kernel_rfl) rfl rfl ⟨fun i => blk_cell HJw4.out.drew.b i, fun i => blk_cell HJw4.out.drew.e_ i⟩ (fun hHeld => ?_)
 refine with_tabW rdR.tab10 rdR.bits10 (fun HT_ HW_ => ?_)
 have HJ := Aside0.mk HJw4.out.drew
 generalize w4.drew = w5 at HJ hHeld ⊢
 have hlb := blk_lt HJ.out.b
 have hle := blk_lt HJ.out.e_
 have hlr := (by obtain ⟨_, _, q⟩ := HJ.out.r; exact blk_lt q : w.heap.size + 1 + 1 < _)
 refine pure_ (i := 0) (N := (some 45)) (v := ?_) (a' := ?_) #[tt,ff,ff,ff,ff,ff,ff,ff,ff,ff,ff,ff,ff,ff,ff,ff,ff,ff,ff,ff,ff,ff,ff] rfl rfl (any_of HT_.out (by kernel_rfl)) (fun _ _ _ h => h) (Or.inl ⟨by rfl, ?_⟩) ?_ ?_
 rotate_left
 ·intro w'
  go_simp
  with_reducible rfl
 rotate_left
 ·simp only [Act.put, sQ0, sQ1, sQ2, i64_w]
  rfl
 refine pure_ (i := 1) (N := (some 46)) (v := ?_) (a' := ?_) #[tt,tt,ff,ff,ff,ff,ff,ff,ff,ff,ff,ff,ff,ff,ff,ff,ff,ff,ff,ff,ff,ff,ff] rfl rfl (any_of HT_.out (by kernel_rfl)) (fun _ _ _ h => h) (Or.inl ⟨by rfl, ?_⟩) ?_ ?_
 rotate_left
 ·intro w'
  go_simp
  with_reducible rfl
 rotate_left
 ·simp only [Act.put, sQ0, sQ1, sQ2, i64_w]
  rfl
 refine pure_ (i := 2) (N := (some 47)) (v := ?_) (a' := ?_) #[tt,tt,tt,ff,ff,ff,ff,ff,ff,ff,ff,ff,ff,ff,ff,ff,ff,ff,ff,ff,ff,ff,ff] rfl rfl (any_of HT_.out (by kernel_rfl)) (fun _ _ _ h => h) (Or.inl ⟨by rfl, ?_⟩) ?_ ?_
 rotate_left
 ·intro w'
  go_simp
  with_reducible rfl
 rotate_left
 ·simp only [Act.put, sQ0, sQ1, sQ2, i64_w]
  rfl
 refine pure_ (i := 3) (N := (some 48)) (v := undef) (a' := ?_) #[tt,tt,tt,tt,ff,ff,ff,ff,ff,ff,ff,ff,ff,ff,ff,ff,ff,ff,ff,ff,ff,ff,ff] rfl rfl (any_of HT_.out (by kernel_rfl)) (fun _ _ _ h => h) (Or.inr ⟨by rfl, rfl⟩) ?_ ?_
 rotate_left
 ·simp only [Act.put, sQ0, sQ1, sQ2, i64_w]
  rfl
 refine pure_ (i := 4) (N := (some 49)) (v := undef) (a' := ?_) #[tt,tt,tt,tt,tt,ff,ff,ff,ff,ff,ff,ff,ff,ff,ff,ff,ff,ff,ff,ff,ff,ff,ff] rfl rfl (any_of HT_.out (by kernel_rfl)) (fun _ _ _ h => h) (Or.inr ⟨by rfl, rfl⟩) ?_ ?_
 rotate_left
 ·simp only [Act.put, sQ0, sQ1, sQ2, i64_w]
  rfl
 refine pure_ (i := 5) (N := (some 50)) (v := undef) (a' := ?_) #[tt,tt,tt,tt,tt,tt,ff,ff,ff,ff,ff,ff,ff,ff,ff,ff,ff,ff,ff,ff,ff,ff,ff] rfl rfl (any_of HT_.out (by kernel_rfl)) (fun _ _ _ h => h) (Or.inr ⟨by rfl, rfl⟩) ?_ ?_
 rotate_left
 ·simp only [Act.put, sQ0, sQ1, sQ2, i64_w]
  rfl
 refine pure_ (i := 6) (N := (some 51)) (v := undef) (a' := ?_) #[tt,tt,tt,tt,tt,tt,tt,ff,ff,ff,ff,ff,ff,ff,ff,ff,ff,ff,ff,ff,ff,ff,ff] rfl rfl (any_of HT_.out (by kernel_rfl)) (fun _ _ _ h => h) (Or.inr ⟨by rfl, rfl⟩) ?_ ?_
 rotate_left
 ·simp only [Act.put, sQ0, sQ1, sQ2, i64_w]
  rfl
 refine pure_ (i := 7) (N := (some 52)) (v := undef) (a' := ?_) #[tt,tt,tt,tt,tt,tt,tt,tt,ff,ff,ff,ff,ff,ff,ff,ff,ff,ff,ff,ff,ff,ff,ff] rfl rfl (any_of HT_.out (by kernel_rfl)) (fun _ _ _ h => h) (Or.inr ⟨by rfl, rfl⟩) ?_ ?_
 rotate_left
 ·simp only [Act.put, sQ0, sQ1, sQ2, i64_w]
  rfl
 refine pure_ (i := 8) (N := (some 53)) (v := undef) (a' := ?_) #[tt,tt,tt,tt,tt,tt,tt,tt,tt,ff,ff,ff,ff,ff,ff,ff,ff,ff,ff,ff,ff,ff,ff] rfl rfl (any_of HT_.out (by kernel_rfl)) (fun _ _ _ h => h) (Or.inr ⟨by rfl, rfl⟩) ?_ ?_
 rotate_left
 ·simp only [Act.put, sQ0, sQ1, sQ2, i64_w]
  rfl
 refine pure_ (i := 9) (N := (some 54)) (v := undef) (a' := ?_) #[tt,tt,tt,tt,tt,tt,tt,tt,tt,tt,ff,ff,ff,ff,ff,ff,ff,ff,ff,ff,ff,ff,ff] rfl rfl (any_of HT_.out (by kernel_rfl)) (fun _ _ _ h => h) (Or.inr ⟨by rfl, rfl⟩) ?_ ?_
 rotate_left
 ·simp only [Act.put, sQ0, sQ1, sQ2, i64_w]
  rfl
 refine pure_ (i := 10) (N := (some 55)) (v := undef) (a' := ?_) #[tt,tt,tt,tt,tt,tt,tt,tt,tt,tt,tt,ff,ff,ff,ff,ff,ff,ff,ff,ff,ff,ff,ff] rfl rfl (any_of HT_.out (by kernel_rfl)) (fun _ _ _ h => h) (Or.inr ⟨by rfl, rfl⟩) ?_ ?_
 rotate_left
 ·simp only [Act.put, sQ0, sQ1, sQ2, i64_w]
  rfl
 refine pure_ (i := 11) (N := (some 56)) (v := undef) (a' := ?_) #[tt,tt,tt,tt,tt,tt,tt,tt,tt,tt,tt,tt,ff,ff,ff,ff,ff,ff,ff,ff,ff,ff,ff] rfl rfl (any_of HT_.out (by kernel_rfl)) (fun _ _ _ h => h) (Or.inr ⟨by rfl, rfl⟩) ?_ ?_
 rotate_left
 ·simp only [Act.put, sQ0, sQ1, sQ2, i64_w]
  rfl
 refine pure_ (i := 12) (N := (some 57)) (v := undef) (a' := ?_) #[tt,tt,tt,tt,tt,tt,tt,tt,tt,tt,tt,tt,tt,ff,ff,ff,ff,ff,ff,ff,ff,ff,ff] rfl rfl (any_of HT_.out (by kernel_rfl)) (fun _ _ _ h => h) (Or.inr ⟨by rfl, rfl⟩) ?_ ?_
 rotate_left
 ·simp only [Act.put, sQ0, sQ1, sQ2, i64_w]
  rfl
 refine pure_ (i := 13) (N := (some 58)) (v := undef) (a' := ?_) #[tt,tt,tt,tt,tt,tt,tt,tt,tt,tt,tt,tt,tt,tt,ff,ff,ff,ff,ff,ff,ff,ff,ff] rfl rfl (any_of HT_.out (by kernel_rfl)) (fun _ _ _ h => h) (Or.inr ⟨by rfl, rfl⟩) ?_ ?_
 rotate_left
 ·simp only [Act.put, sQ0, sQ1, sQ2, i64_w]
  rfl
 refine pure_ (i := 14) (N := (some 59)) (v := undef) (a' := ?_) #[tt,tt,tt,tt,tt,tt,tt,tt,tt,tt,tt,tt,tt,tt,tt,ff,ff,ff,ff,ff,ff,ff,ff] rfl rfl (any_of HT_.out (by kernel_rfl)) (fun _ _ _ h => h) (Or.inr ⟨by rfl, rfl⟩) ?_ ?_
 rotate_left
 ·simp only [Act.put, sQ0, sQ1, sQ2, i64_w]
  rfl
 refine pure_ (i := 15) (N := (some 60)) (v := ?_) (a' := ?_) #[tt,tt,tt,tt,tt,tt,tt,tt,tt,tt,tt,tt,tt,tt,tt,tt,ff,ff,ff,ff,ff,ff,ff] rfl rfl (any_of HT_.out (by kernel_rfl)) (fun _ _ _ h => h) (Or.inl ⟨by rfl, ?_⟩) ?_ ?_
 rotate_left
 ·intro w'
  go_simp
  with_reducible rfl
 rotate_left
 ·simp only [Act.put, sQ0, sQ1, sQ2, i64_w]
  rfl
 refine pure_ (i := 16) (N := (some 61)) (v := ?_) (a' := ?_) #[tt,tt,tt,tt,tt,tt,tt,tt,tt,tt,tt,tt,tt,tt,tt,tt,tt,ff,ff,ff,ff,ff,ff] rfl rfl (any_of HT_.out (by kernel_rfl)) (fun _ _ _ h => h) (Or.inl ⟨by rfl, ?_⟩) ?_ ?_
 rotate_left
 ·intro w'
  go_simp
  with_reducible rfl
 rotate_left
 ·simp only [Act.put, sQ0, sQ1, sQ2, i64_w]
  rfl
 refine pure_ (i := 17) (N := (some 62)) (v := undef) (a' := ?_) #[tt,tt,tt,tt,tt,tt,tt,tt,tt,tt,tt,tt,tt,tt,tt,tt,tt,tt,ff,ff,ff,ff,ff] rfl rfl (any_of HT_.out (by kernel_rfl)) (fun _ _ _ h => h) (Or.inr ⟨by rfl, rfl⟩) ?_ ?_
 rotate_left
 ·simp only [Act.put, sQ0, sQ1, sQ2, i64_w]
  rfl
 refine pure_ (i := 18) (N := (some 63)) (v := undef) (a' := ?_) #[tt,tt,tt,tt,tt,tt,tt,tt,tt,tt,tt,tt,tt,tt,tt,tt,tt,tt,tt,ff,ff,ff,ff] rfl rfl (any_of HT_.out (by kernel_rfl)) (fun _ _ _ h => h) (Or.inr ⟨by rfl, rfl⟩) ?_ ?_
 rotate_left
 ·simp only [Act.put, sQ0, sQ1, sQ2, i64_w]
  rfl
 refine pure_ (i := 19) (N := (some 64)) (v := undef) (a' := ?_) #[tt,tt,tt,tt,tt,tt,tt,tt,tt,tt,tt,tt,tt,tt,tt,tt,tt,tt,tt,tt,ff,ff,ff] rfl rfl (any_of HT_.out (by kernel_rfl)) (fun _ _ _ h => h) (Or.inr ⟨by rfl, rfl⟩) ?_ ?_
 rotate_left
 ·simp only [Act.put, sQ0, sQ1, sQ2, i64_w]
  rfl
 refine pure_ (i := 20) (N := (some 65)) (v := undef) (a' := ?_) #[tt,tt,tt,tt,tt,tt,tt,tt,tt,tt,tt,tt,tt,tt,tt,tt,tt,tt,tt,tt,tt,ff,ff] rfl rfl (any_of HT_.out (by kernel_rfl)) (fun _ _ _ h => h) (Or.inr ⟨by rfl, rfl⟩) ?_ ?_
 rotate_left
 ·simp only [Act.put, sQ0, sQ1, sQ2, i64_w]
  rfl
 refine pure_ (i := 21) (N := (some 66)) (v := undef) (a' := ?_) #[tt,tt,tt,tt,tt,tt,tt,tt,tt,tt,tt,tt,tt,tt,tt,tt,tt,tt,tt,tt,tt,tt,ff] rfl rfl (any_of HT_.out (by kernel_rfl)) (fun _ _ _ h => h) (Or.inr ⟨by rfl, rfl⟩) ?_ ?_
 rotate_left
 ·simp only [Act.put, sQ0, sQ1, sQ2, i64_w]
  rfl
 refine pure_ (i := 22) (N := (some 67)) (v := ?_) (a' := ?_) #[tt,tt,tt,tt,tt,tt,tt,tt,tt,tt,tt,tt,tt,tt,tt,tt,tt,tt,tt,tt,tt,tt,tt] rfl rfl (any_of HT_.out (by kernel_rfl)) (fun _ _ _ h => h) (Or.inl ⟨by rfl, ?_⟩) ?_ ?_
 rotate_left
 ·intro w'
  go_simp
  with_reducible rfl
 rotate_left
 ·simp only [Act.put, sQ0, sQ1, sQ2, i64_w]
  rfl
 refine done_ (done_of HT_.out (by kernel_rfl)) ?_
 clear hHeld
 clear hlb hle hlr
 have hcb := fun i => blk_cell HJ.out.b i
 have hce := fun i => blk_cell HJ.out.e_ i
 have hlb := blk_lt HJ.out.b
 have hle := blk_lt HJ.out.e_
 have hlr := (by obtain ⟨_, _, q⟩ := HJ.out.r; exact blk_lt q : w.heap.size + 1 + 1 < _)
 go_upto_region 11 with (fail)
 obtain ⟨rs, hrs, hrr⟩ := HJ.out.r
 obtain ⟨x0, x1, rfl⟩ : ∃ x0 x1, rs = #[x0, x1] := by rcases rs with ⟨_ | ⟨x0, _ | ⟨x1, _ | _⟩⟩⟩ <;> simp at hrs; exact ⟨_, _, rfl⟩
 have hcr := fun i => blk_cell hrr i
 have hfr := fun i => blk_frozen hrr i
 clear hrs
 go_wp2
 have HE := Aside0.mk (show KR _ B (.slice A m.L.length c) m.L from KR.keep (KR.keep HJ.out.kr (W1 := World.setCell _ ⟨w.heap.size + 1 + 1, 0, none⟩ (.int .i64 m.clk)) fun g cs hg => Below.heap_setCell _ _ _ _ (types_ne hg hrr (by decide))) (W1 := World.setCell (World.setCell _ ⟨w.heap.size + 1 + 1, 0, none⟩ (.int .i64 m.clk)) ⟨w.heap.size + 1 + 1, 1, none⟩ (.slice A m.L.length c)) fun g cs hg => Below.heap_setCell _ _ _ _ (types_ne hg (blk_put hrr 0 _ rfl) (by decide)))
 have HBL := Aside0.mk (below_set (g := w.heap.size + 1 + 1) (j := 1) (v := .slice A m.L.length c) (below_set (g := w.heap.size + 1 + 1) (j := 0) (v := .int .i64 m.clk) HJ.out.below (by omega)) (by omega))
 unfold RdPost
 rw [HF.out]
 exact bodyPost_ret (v := .tuple #[.agg #[.int .i64 m.clk, .slice A m.L.length c], .int .i64 6]) (by simp [results, Try.results45, asAddr, go_sem, hu0, hcr, hlr]) rfl ⟨_, rfl, HE.out, HBL.out⟩
theorem rdo_fire_early {w : World} {B : Nat} (m : Rm) (v : Value) (e : Au.Ev) (hn : m.L.length ≤ 90000) (nd : (m.L.map S127.h).Nodup) (hB : B ≤ w.heap.size) (h : KR w B v m.L) (hr : rightJ e = true) (hk : e.k = 4) (ha : statR m.L e.h = 1) (hd : ¬ dlR m.L e.h ≤ e.t) :
  Calls Try.prog 45 #[.agg #[.int .i64 m.clk, v], .agg (evA e)] w (RdPost B w (rdoF m e)) := by
 have hu0 := Try.underlying43
 have hu1 := Try.underlying36
 have hu2 := Try.underlying50
 have hu3 := Try.underlying127
 have HF := Aside0.mk (show rdoF m e = (m, 6) by unfold rdoF; rw [if_neg (by rw [hr]; simp; omega), if_neg (by omega), if_pos hk, if_neg (fun q => hd q.2.1)])
 have qk1 : (e.k == 1) = false := beq_eq_false_iff_ne.2 (by omega)
 have qk2 : (e.k == 2) = false := beq_eq_false_iff_ne.2 (by omega)
 have qk4 : (e.k == 4) = true := beq_iff_eq.2 (hk)
 have qk5 : (e.k == 5) = false := beq_eq_false_iff_ne.2 (by omega)
 have qs : (statR m.L e.h == 1) = true := beq_iff_eq.2 (ha)
 have f1 : decide (dlR m.L e.h > e.t) = true := decide_eq_true (by omega)
 obtain ⟨A, c, rfl⟩ := Kd.R_slice h
 have CR := Aside0.mk (fun W => rright_run e W)
 have CS : Aside0 (∀ W, KR W B (.slice A m.L.length c) m.L → Calls Try.prog 35 #[.agg #[.int .i64 m.clk, .slice A m.L.length c], .agg #[.int .i64 e.hn, .int .i64 e.hg]] W fun r w' => r = .returned (.int .i64 (statR m.L e.h)) ∧ Below W.heap.size W w') := ⟨fun W hW => stat_calls hW (by omega) e.hn e.hg⟩
 have HN := Aside0.mk hn
 have HND := Aside0.mk nd
 have HB := Aside0.mk hB
 have HJ := Aside0.mk (Rj.start h m.clk e)
 rw [hr] at CR
 have CFi : Aside0 (∀ W, KR W B (.slice A m.L.length c) m.L → Calls Try.prog 68 #[.agg #[.int .i64 m.clk, .slice A m.L.length c], .agg #[.int .i64 e.hn, .int .i64 e.hg]] W fun r w' => r = .returned (.int .i64 (findR m.L e.h)) ∧ Below W.heap.size W w') := ⟨fun W hW => find_calls hW (by omega) e.hn e.hg⟩
 obtain ⟨fi, hfi, hfr0, hfx⟩ := find_ex ha
 rw [hfr0] at CFi
 obtain ⟨gg, rfl, hgl, hgc⟩ := row_dl h fi hfi
 have HGC := Aside0.mk hgc
 have HGL := Aside0.mk hgl
 have p0 := eq_true (show (0 : Int) ≤ (fi : Int) by omega)
 have p1 := eq_true (show (fi : Int) < (m.L.length : Int) by omega)
 clear hgc hgl hfr0
 rw [hfx] at HGC
 obtain ⟨dl, hdl⟩ : ∃ d, dlR m.L e.h = d := ⟨_, rfl⟩
 rw [hdl] at HGC
 try rw [hdl] at f1
 clear hdl hfx
 clear hn nd hB h hr hk ha hd
 have hcb := fun i => blk_cell HJ.out.b i
 have hce := fun i => blk_cell HJ.out.e_ i
 have hlb := blk_lt HJ.out.b
 have hle := blk_lt HJ.out.e_
 have hlr := (by obtain ⟨_, _, q⟩ := HJ.out.r; exact blk_lt q : w.heap.size + 1 + 1 < _)
 obtain ⟨sv, hsv⟩ : ∃ sv, statR m.L e.h = sv := ⟨_, rfl⟩
 try rw [hsv] at CS
 try rw [hsv] at qs
 clear hsv
 go_enter Try.func45, Try.ntmps45
 go_upto_region 10 with (first | (go_at_call 62; (with_reducible refine (CR.out _).mono ?_); rintro r w2 ⟨rfl, hb⟩; have HJ2 := Aside0.mk (HJ.out.step hb); clear hb hcb hce hlb hle hlr HJ; have HJ := HJ2; clear HJ2; have hcb := fun i => blk_cell HJ.out.b i; have hce := fun i => blk_cell HJ.out.e_ i; have hlb := blk_lt HJ.out.b; have hle := blk_lt HJ.out.e_; have hlr := (by obtain ⟨_, _, q⟩ := HJ.out.r; exact blk_lt q : w.heap.size + 1 + 1 < _)) | (go_at_call 35; (with_reducible refine (CS.out _ HJ.out.kr).mono ?_); rintro r w3 ⟨rfl, hb⟩; have HJ2 := Aside0.mk (HJ.out.step hb); clear hb hcb hce hlb hle hlr HJ; have HJ := HJ2; clear HJ2; have hcb := fun i => blk_cell HJ.out.b i; have hce := fun i => blk_cell HJ.out.e_ i; have hlb := blk_lt HJ.out.b; have hle := blk_lt HJ.out.e_; have hlr := (by obtain ⟨_, _, q⟩ := HJ.out.r; exact blk_lt q : w.heap.size + 1 + 1 < _)))
 refine gen_world' (fun W => Rj B w W m.clk (.slice (some ⟨gg, 0, none⟩) m.L.length c) m.L e) (by exact HJ.out) fun w4 Hw4 => ?_
 have HJw4 := Aside0.mk Hw4
 clear Hw4 HJ
 clear hcb hce hlb hle hlr
 have hdc := pw_cell_below (below_drew HJw4.out.below) HGC.out
 refine start_ (n := 23) (S := (fun w' => (∀ i, w'.cell? ⟨w.heap.size, i, none⟩ = (#[.int .i64 m.clk, .slice (some ⟨gg, 0, none⟩) m.L.length c] : Array Value)[i]?) ∧ (∀ i, w'.cell? ⟨w.heap.size + 1, i, none⟩ = (evA e)[i]?) ∧ w'.cell? ⟨gg, fi * 4 + 3, none⟩ = some (.int .i64 dl))) (ds := []) #[ff,ff,ff,ff,ff,ff,ff,ff,ff,ff,ff,ff,ff,ff,ff,ff,ff,ff,ff,ff,ff,ff,ff] (by kernel_rfl) rfl rfl ⟨fun i => blk_cell HJw4.out.drew.b i, fun i => blk_cell HJw4.out.drew.e_ i, hdc⟩ (fun hHeld => ?_)
 refine with_tabW rdR.tab10 rdR.bits10 (fun HT_ HW_ => ?_)
 have HJ := Aside0.mk HJw4.out.drew
 have HAD := Aside0.mk (show w4.drew.cell? ⟨gg, fi * 4 + 3, none⟩ = some (.int .i64 dl) from hdc)
 generalize w4.drew = w5 at HJ hHeld HAD ⊢
 have hlb := blk_lt HJ.out.b
 have hle := blk_lt HJ.out.e_
 have hlr := (by obtain ⟨_, _, q⟩ := HJ.out.r; exact blk_lt q : w.heap.size + 1 + 1 < _)
 refine pure_ (i := 0) (N := (some 45)) (v := ?_) (a' := ?_) #[tt,ff,ff,ff,ff,ff,ff,ff,ff,ff,ff,ff,ff,ff,ff,ff,ff,ff,ff,ff,ff,ff,ff] rfl rfl (any_of HT_.out (by kernel_rfl)) (fun _ _ _ h => h) (Or.inl ⟨by rfl, ?_⟩) ?_ ?_
 rotate_left
 ·intro w'
  go_simp
  with_reducible rfl
 rotate_left
 ·simp only [Act.put, sQ0, sQ1, sQ2, i64_w]
  rfl
 refine pure_ (i := 1) (N := (some 46)) (v := ?_) (a' := ?_) #[tt,tt,ff,ff,ff,ff,ff,ff,ff,ff,ff,ff,ff,ff,ff,ff,ff,ff,ff,ff,ff,ff,ff] rfl rfl (any_of HT_.out (by kernel_rfl)) (fun _ _ _ h => h) (Or.inl ⟨by rfl, ?_⟩) ?_ ?_
 rotate_left
 ·intro w'
  go_simp
  with_reducible rfl
 rotate_left
 ·simp only [Act.put, sQ0, sQ1, sQ2, i64_w]
  rfl
 refine pure_ (i := 2) (N := (some 47)) (v := ?_) (a' := ?_) #[tt,tt,tt,ff,ff,ff,ff,ff,ff,ff,ff,ff,ff,ff,ff,ff,ff,ff,ff,ff,ff,ff,ff] rfl rfl (any_of HT_.out (by kernel_rfl)) (fun _ _ _ h => h) (Or.inl ⟨by rfl, ?_⟩) ?_ ?_
 rotate_left
 ·intro w'
  go_simp
  with_reducible rfl
 rotate_left
 ·simp only [Act.put, sQ0, sQ1, sQ2, i64_w]
  rfl
 refine pure_ (i := 3) (N := (some 48)) (v := ?_) (a' := ?_) #[tt,tt,tt,tt,ff,ff,ff,ff,ff,ff,ff,ff,ff,ff,ff,ff,ff,ff,ff,ff,ff,ff,ff] rfl rfl (any_of HT_.out (by kernel_rfl)) (fun _ _ _ h => h) (Or.inl ⟨by rfl, ?_⟩) ?_ ?_
 rotate_left
 ·intro w'
  go_simp
  with_reducible rfl
 rotate_left
 ·simp only [Act.put, sQ0, sQ1, sQ2, i64_w]
  rfl
 refine pure_ (i := 6) (N := (some 51)) (v := ?_) (a' := ?_) #[tt,tt,tt,tt,ff,ff,tt,ff,ff,ff,ff,ff,ff,ff,ff,ff,ff,ff,ff,ff,ff,ff,ff] rfl rfl (any_of HT_.out (by kernel_rfl)) (fun _ _ _ h => h) (Or.inl ⟨by rfl, ?_⟩) ?_ ?_
 rotate_left
 ·intro w'
  go_simp
  with_reducible rfl
 rotate_left
 ·simp only [Act.put, sQ0, sQ1, sQ2, i64_w]
  rfl
 refine pure_ (i := 12) (N := (some 57)) (v := ?_) (a' := ?_) #[tt,tt,tt,tt,ff,ff,tt,ff,ff,ff,ff,ff,tt,ff,ff,ff,ff,ff,ff,ff,ff,ff,ff] rfl rfl (any_of HT_.out (by kernel_rfl)) (fun _ _ _ h => h) (Or.inl ⟨by rfl, ?_⟩) ?_ ?_
 rotate_left
 ·intro w'
  go_simp
  with_reducible rfl
 rotate_left
 ·simp only [Act.put, sQ0, sQ1, sQ2, i64_w]
  rfl
 refine take_ (i := 4) (N := (some 49)) (v := ?_) (a' := ?_) #[tt,tt,tt,tt,tt,ff,tt,ff,ff,ff,ff,ff,tt,ff,ff,ff,ff,ff,ff,ff,ff,ff,ff] rfl rfl (take_ofW HT_.out HW_.out (by kernel_rfl)) (fun _ _ _ h => h) (Or.inl ⟨by rfl, ?_⟩) hHeld ?_ ?_
 rotate_left
 ·rintro w' ⟨s0, s1, s2⟩
  go_simp
  with_reducible rfl
 rotate_left
 ·simp only [Act.put, sQ0, sQ1, sQ2, i64_w]
  rfl
 refine take_ (i := 5) (N := (some 50)) (v := ?_) (a' := ?_) #[tt,tt,tt,tt,tt,tt,tt,ff,ff,ff,ff,ff,tt,ff,ff,ff,ff,ff,ff,ff,ff,ff,ff] rfl rfl (take_ofW HT_.out HW_.out (by kernel_rfl)) (fun _ _ _ h => h) (Or.inl ⟨by rfl, ?_⟩) hHeld ?_ ?_
 rotate_left
 ·rintro w' ⟨s0, s1, s2⟩
  go_simp
  with_reducible rfl
 rotate_left
 ·simp only [Act.put, sQ0, sQ1, sQ2, i64_w]
  rfl
 refine take_ (i := 7) (N := (some 52)) (v := ?_) (a' := ?_) #[tt,tt,tt,tt,tt,tt,tt,tt,ff,ff,ff,ff,tt,ff,ff,ff,ff,ff,ff,ff,ff,ff,ff] rfl rfl (take_ofW HT_.out HW_.out (by kernel_rfl)) (fun _ _ _ h => h) (Or.inl ⟨by rfl, ?_⟩) hHeld ?_ ?_
 rotate_left
 ·rintro w' ⟨s0, s1, s2⟩
  go_simp
  with_reducible rfl
 rotate_left
 ·simp only [Act.put, sQ0, sQ1, sQ2, i64_w]
  rfl
 refine take_ (i := 13) (N := (some 58)) (v := ?_) (a' := ?_) #[tt,tt,tt,tt,tt,tt,tt,tt,ff,ff,ff,ff,tt,tt,ff,ff,ff,ff,ff,ff,ff,ff,ff] rfl rfl (take_ofW HT_.out HW_.out (by kernel_rfl)) (fun _ _ _ h => h) (Or.inl ⟨by rfl, ?_⟩) hHeld ?_ ?_
 rotate_left
 ·rintro w' ⟨s0, s1, s2⟩
  go_simp
  with_reducible rfl
 rotate_left
 ·simp only [Act.put, sQ0, sQ1, sQ2, i64_w]
  rfl
 refine one_ (i := 8) (N := (some 53)) #[tt,tt,tt,tt,tt,tt,tt,tt,tt,ff,ff,ff,tt,tt,ff,ff,ff,ff,ff,ff,ff,ff,ff] rfl rfl (one_of HT_.out (by kernel_rfl)) (by decide) (fun K hK => ?_)
 refine call_ (f := 68) #[.agg #[.int .i64 m.clk, .slice (some ⟨gg, 0, none⟩) m.L.length c], .agg #[.int .i64 e.hn, .int .i64 e.hg]] (by rfl) rfl (by go_simp <;> rfl) ?_
 refine (CFi.out w5 HJ.out.kr).mono ?_
 rintro r w6 ⟨rfl, hb⟩
 refine ⟨_, rfl, ?_⟩
 have HJ6 := Aside0.mk (HJ.out.step hb)
 have HA6 := Aside0.mk (pw_cell_below hb HAD.out)
 clear hb
 refine hK.out _ _ ⟨fun i => blk_cell HJ6.out.b i, fun i => blk_cell HJ6.out.e_ i, HA6.out⟩ (fun hHeld => ?_)
 clear hK K
 refine norm_ (a' := ?_) ?_ ?_
 rotate_left
 ·show Act.put _ (some 53) _ = _
  simp only [Act.put, sQ0, sQ1, sQ2, i64_w]
  rfl
 refine pure_ (i := 9) (N := (some 54)) (v := ?_) (a' := ?_) #[tt,tt,tt,tt,tt,tt,tt,tt,tt,tt,ff,ff,tt,tt,ff,ff,ff,ff,ff,ff,ff,ff,ff] rfl rfl (any_of HT_.out (by kernel_rfl)) (fun _ _ _ h => h) (Or.inl ⟨by rfl, ?_⟩) ?_ ?_
 rotate_left
 ·intro w'
  go_simp
  with_reducible rfl
 rotate_left
 ·simp only [Act.put, sQ0, sQ1, sQ2, i64_w]
  rfl
 refine pure_ (i := 10) (N := (some 55)) (v := ?_) (a' := ?_) #[tt,tt,tt,tt,tt,tt,tt,tt,tt,tt,tt,ff,tt,tt,ff,ff,ff,ff,ff,ff,ff,ff,ff] rfl rfl (any_of HT_.out (by kernel_rfl)) (fun _ _ _ h => h) (Or.inl ⟨by rfl, ?_⟩) ?_ ?_
 rotate_left
 ·intro w'
  go_simp
  with_reducible rfl
 rotate_left
 ·simp only [Act.put, sQ0, sQ1, sQ2, i64_w]
  rfl
 refine take_ (i := 11) (N := (some 56)) (v := ?_) (a' := ?_) #[tt,tt,tt,tt,tt,tt,tt,tt,tt,tt,tt,tt,tt,tt,ff,ff,ff,ff,ff,ff,ff,ff,ff] rfl rfl (take_ofW HT_.out HW_.out (by kernel_rfl)) (fun _ _ _ h => h) (Or.inl ⟨by rfl, ?_⟩) hHeld ?_ ?_
 rotate_left
 ·rintro w' ⟨s0, s1, s2⟩
  go_simp
  with_reducible rfl
 rotate_left
 ·simp only [Act.put, sQ0, sQ1, sQ2, i64_w]
  rfl
 refine pure_ (i := 14) (N := (some 59)) (v := ?_) (a' := ?_) #[tt,tt,tt,tt,tt,tt,tt,tt,tt,tt,tt,tt,tt,tt,tt,ff,ff,ff,ff,ff,ff,ff,ff] rfl rfl (any_of HT_.out (by kernel_rfl)) (fun _ _ _ h => h) (Or.inl ⟨by rfl, ?_⟩) ?_ ?_
 rotate_left
 ·intro w'
  go_simp
  with_reducible rfl
 rotate_left
 ·simp only [Act.put, sQ0, sQ1, sQ2, i64_w]
  rfl
 refine pure_ (i := 15) (N := (some 60)) (v := ?_) (a' := ?_) #[tt,tt,tt,tt,tt,tt,tt,tt,tt,tt,tt,tt,tt,tt,tt,tt,ff,ff,ff,ff,ff,ff,ff] rfl rfl (any_of HT_.out (by kernel_rfl)) (fun _ _ _ h => h) (Or.inl ⟨by rfl, ?_⟩) ?_ ?_
 rotate_left
 ·intro w'
  go_simp
  with_reducible rfl
 rotate_left
 ·simp only [Act.put, sQ0, sQ1, sQ2, i64_w]
  rfl
 refine pure_ (i := 16) (N := (some 61)) (v := ?_) (a' := ?_) #[tt,tt,tt,tt,tt,tt,tt,tt,tt,tt,tt,tt,tt,tt,tt,tt,tt,ff,ff,ff,ff,ff,ff] rfl rfl (any_of HT_.out (by kernel_rfl)) (fun _ _ _ h => h) (Or.inl ⟨by rfl, ?_⟩) ?_ ?_
 rotate_left
 ·intro w'
  go_simp
  with_reducible rfl
 rotate_left
 ·simp only [Act.put, sQ0, sQ1, sQ2, i64_w]
  rfl
 refine pure_ (i := 17) (N := (some 62)) (v := undef) (a' := ?_) #[tt,tt,tt,tt,tt,tt,tt,tt,tt,tt,tt,tt,tt,tt,tt,tt,tt,tt,ff,ff,ff,ff,ff] rfl rfl (any_of HT_.out (by kernel_rfl)) (fun _ _ _ h => h) (Or.inr ⟨by rfl, rfl⟩) ?_ ?_
 rotate_left
 ·simp only [Act.put, sQ0, sQ1, sQ2, i64_w]
  rfl
 refine pure_ (i := 18) (N := (some 63)) (v := undef) (a' := ?_) #[tt,tt,tt,tt,tt,tt,tt,tt,tt,tt,tt,tt,tt,tt,tt,tt,tt,tt,tt,ff,ff,ff,ff] rfl rfl (any_of HT_.out (by kernel_rfl)) (fun _ _ _ h => h) (Or.inr ⟨by rfl, rfl⟩) ?_ ?_
 rotate_left
 ·simp only [Act.put, sQ0, sQ1, sQ2, i64_w]
  rfl
 refine pure_ (i := 19) (N := (some 64)) (v := undef) (a' := ?_) #[tt,tt,tt,tt,tt,tt,tt,tt,tt,tt,tt,tt,tt,tt,tt,tt,tt,tt,tt,tt,ff,ff,ff] rfl rfl (any_of HT_.out (by kernel_rfl)) (fun _ _ _ h => h) (Or.inr ⟨by rfl, rfl⟩) ?_ ?_
 rotate_left
 ·simp only [Act.put, sQ0, sQ1, sQ2, i64_w]
  rfl
 refine pure_ (i := 20) (N := (some 65)) (v := undef) (a' := ?_) #[tt,tt,tt,tt,tt,tt,tt,tt,tt,tt,tt,tt,tt,tt,tt,tt,tt,tt,tt,tt,tt,ff,ff] rfl rfl (any_of HT_.out (by kernel_rfl)) (fun _ _ _ h => h) (Or.inr ⟨by rfl, rfl⟩) ?_ ?_
 rotate_left
 ·simp only [Act.put, sQ0, sQ1, sQ2, i64_w]
  rfl
 refine pure_ (i := 21) (N := (some 66)) (v := undef) (a' := ?_) #[tt,tt,tt,tt,tt,tt,tt,tt,tt,tt,tt,tt,tt,tt,tt,tt,tt,tt,tt,tt,tt,tt,ff] rfl rfl (any_of HT_.out (by kernel_rfl)) (fun _ _ _ h => h) (Or.inr ⟨by rfl, rfl⟩) ?_ ?_
 rotate_left
 ·simp only [Act.put, sQ0, sQ1, sQ2, i64_w]
  rfl
 refine pure_ (i := 22) (N := (some 67)) (v := ?_) (a' := ?_) #[tt,tt,tt,tt,tt,tt,tt,tt,tt,tt,tt,tt,tt,tt,tt,tt,tt,tt,tt,tt,tt,tt,tt] rfl rfl (any_of HT_.out (by kernel_rfl)) (fun _ _ _ h => h) (Or.inl ⟨by rfl, ?_⟩) ?_ ?_
 rotate_left
 ·intro w'
  go_simp
  with_reducible rfl
 rotate_left
 ·simp only [Act.put, sQ0, sQ1, sQ2, i64_w]
  rfl
 refine done_ (done_of HT_.out (by kernel_rfl)) ?_
 clear hHeld
 clear hlb hle hlr
 clear HJ
 have HJ := HJ6
 have hcb := fun i => blk_cell HJ.out.b i
 have hce := fun i => blk_cell HJ.out.e_ i
 have hlb := blk_lt HJ.out.b
 have hle := blk_lt HJ.out.e_
 have hlr := (by obtain ⟨_, _, q⟩ := HJ.out.r; exact blk_lt q : w.heap.size + 1 + 1 < _)
 go_upto_region 11 with (fail)
 obtain ⟨rs, hrs, hrr⟩ := HJ.out.r
 obtain ⟨x0, x1, rfl⟩ : ∃ x0 x1, rs = #[x0, x1] := by rcases rs with ⟨_ | ⟨x0, _ | ⟨x1, _ | _⟩⟩⟩ <;> simp at hrs; exact ⟨_, _, rfl⟩
 have hcr := fun i => blk_cell hrr i
 have hfr := fun i => blk_frozen hrr i
 clear hrs
 go_wp2
 have HE := Aside0.mk (show KR _ B (.slice (some ⟨gg, 0, none⟩) m.L.length c) m.L from KR.keep (KR.keep HJ.out.kr (W1 := World.setCell _ ⟨w.heap.size + 1 + 1, 0, none⟩ (.int .i64 m.clk)) fun g cs hg => Below.heap_setCell _ _ _ _ (types_ne hg hrr (by decide))) (W1 := World.setCell (World.setCell _ ⟨w.heap.size + 1 + 1, 0, none⟩ (.int .i64 m.clk)) ⟨w.heap.size + 1 + 1, 1, none⟩ (.slice (some ⟨gg, 0, none⟩) m.L.length c)) fun g cs hg => Below.heap_setCell _ _ _ _ (types_ne hg (blk_put hrr 0 _ rfl) (by decide)))
 have HBL := Aside0.mk (below_set (g := w.heap.size + 1 + 1) (j := 1) (v := .slice (some ⟨gg, 0, none⟩) m.L.length c) (below_set (g := w.heap.size + 1 + 1) (j := 0) (v := .int .i64 m.clk) HJ.out.below (by omega)) (by omega))
 unfold RdPost
 rw [HF.out]
 exact bodyPost_ret (v := .tuple #[.agg #[.int .i64 m.clk, .slice (some ⟨gg, 0, none⟩) m.L.length c], .int .i64 6]) (by simp [results, Try.results45, asAddr, go_sem, hu0, hcr, hlr]) rfl ⟨_, rfl, HE.out, HBL.out⟩
theorem rdo_fire_late {w : World} {B : Nat} (m : Rm) (v : Value) (e : Au.Ev) (hn : m.L.length ≤ 90000) (nd : (m.L.map S127.h).Nodup) (hB : B ≤ w.heap.size) (h : KR w B v m.L) (hr : rightJ e = true) (hk : e.k = 4) (ha : statR m.L e.h = 1) (hd : dlR m.L e.h ≤ e.t) (hc : ¬ e.t ≤ m.clk) :
  Calls Try.prog 45 #[.agg #[.int .i64 m.clk, v], .agg (evA e)] w (RdPost B w (rdoF m e)) := by
 have hu0 := Try.underlying43
 have hu1 := Try.underlying36
 have hu2 := Try.underlying50
 have hu3 := Try.underlying127
 have HF := Aside0.mk (show rdoF m e = (m, 6) by unfold rdoF; rw [if_neg (by rw [hr]; simp; omega), if_neg (by omega), if_pos hk, if_neg (fun q => hc q.2.2)])
 have qk1 : (e.k == 1) = false := beq_eq_false_iff_ne.2 (by omega)
 have qk2 : (e.k == 2) = false := beq_eq_false_iff_ne.2 (by omega)
 have qk4 : (e.k == 4) = true := beq_iff_eq.2 (hk)
 have qk5 : (e.k == 5) = false := beq_eq_false_iff_ne.2 (by omega)
 have qs : (statR m.L e.h == 1) = true := beq_iff_eq.2 (ha)
 have f1 : decide (dlR m.L e.h > e.t) = false := decide_eq_false (by omega)
 have f2 : decide (e.t > m.clk) = true := decide_eq_true (by omega)
 obtain ⟨A, c, rfl⟩ := Kd.R_slice h
 have CR := Aside0.mk (fun W => rright_run e W)
 have CS : Aside0 (∀ W, KR W B (.slice A m.L.length c) m.L → Calls Try.prog 35 #[.agg #[.int .i64 m.clk, .slice A m.L.length c], .agg #[.int .i64 e.hn, .int .i64 e.hg]] W fun r w' => r = .returned (.int .i64 (statR m.L e.h)) ∧ Below W.heap.size W w') := ⟨fun W hW => stat_calls hW (by omega) e.hn e.hg⟩
 have HN := Aside0.mk hn
 have HND := Aside0.mk nd
 have HB := Aside0.mk hB
 have HJ := Aside0.mk (Rj.start h m.clk e)
 rw [hr] at CR
 have CFi : Aside0 (∀ W, KR W B (.slice A m.L.length c) m.L → Calls Try.prog 68 #[.agg #[.int .i64 m.clk, .slice A m.L.length c], .agg #[.int .i64 e.hn, .int .i64 e.hg]] W fun r w' => r = .returned (.int .i64 (findR m.L e.h)) ∧ Below W.heap.size W w') := ⟨fun W hW => find_calls hW (by omega) e.hn e.hg⟩
 obtain ⟨fi, hfi, hfr0, hfx⟩ := find_ex ha
 rw [hfr0] at CFi
 obtain ⟨gg, rfl, hgl, hgc⟩ := row_dl h fi hfi
 have HGC := Aside0.mk hgc
 have HGL := Aside0.mk hgl
 have p0 := eq_true (show (0 : Int) ≤ (fi : Int) by omega)
 have p1 := eq_true (show (fi : Int) < (m.L.length : Int) by omega)
 clear hgc hgl hfr0
 rw [hfx] at HGC
 obtain ⟨dl, hdl⟩ : ∃ d, dlR m.L e.h = d := ⟨_, rfl⟩
 rw [hdl] at HGC
 try rw [hdl] at f1
 clear hdl hfx
 clear hn nd hB h hr hk ha hd hc
 have hcb := fun i => blk_cell HJ.out.b i
 have hce := fun i => blk_cell HJ.out.e_ i
 have hlb := blk_lt HJ.out.b
 have hle := blk_lt HJ.out.e_
 have hlr := (by obtain ⟨_, _, q⟩ := HJ.out.r; exact blk_lt q : w.heap.size + 1 + 1 < _)
 obtain ⟨sv, hsv⟩ : ∃ sv, statR m.L e.h = sv := ⟨_, rfl⟩
 try rw [hsv] at CS
 try rw [hsv] at qs
 clear hsv
 go_enter Try.func45, Try.ntmps45
 go_upto_region 10 with (first | (go_at_call 62; (with_reducible refine (CR.out _).mono ?_); rintro r w2 ⟨rfl, hb⟩; have HJ2 := Aside0.mk (HJ.out.step hb); clear hb hcb hce hlb hle hlr HJ; have HJ := HJ2; clear HJ2; have hcb := fun i => blk_cell HJ.out.b i; have hce := fun i => blk_cell HJ.out.e_ i; have hlb := blk_lt HJ.out.b; have hle := blk_lt HJ.out.e_; have hlr := (by obtain ⟨_, _, q⟩ := HJ.out.r; exact blk_lt q : w.heap.size + 1 + 1 < _)) | (go_at_call 35; (with_reducible refine (CS.out _ HJ.out.kr).mono ?_); rintro r w3 ⟨rfl, hb⟩; have HJ2 := Aside0.mk (HJ.out.step hb); clear hb hcb hce hlb hle hlr HJ; have HJ := HJ2; clear HJ2; have hcb := fun i => blk_cell HJ.out.b i; have hce := fun i => blk_cell HJ.out.e_ i; have hlb := blk_lt HJ.out.b; have hle := blk_lt HJ.out.e_; have hlr := (by obtain ⟨_, _, q⟩ := HJ.out.r; exact blk_lt q : w.heap.size + 1 + 1 < _)))
 refine gen_world' (fun W => Rj B w W m.clk (.slice (some ⟨gg, 0, none⟩) m.L.length c) m.L e) (by exact HJ.out) fun w4 Hw4 => ?_
 have HJw4 := Aside0.mk Hw4
 clear Hw4 HJ
 clear hcb hce hlb hle hlr
 have hdc := pw_cell_below (below_drew HJw4.out.below) HGC.out
 refine start_ (n := 23) (S := (fun w' => (∀ i, w'.cell? ⟨w.heap.size, i, none⟩ = (#[.int .i64 m.clk, .slice (some ⟨gg, 0, none⟩) m.L.length c] : Array Value)[i]?) ∧ (∀ i, w'.cell? ⟨w.heap.size + 1, i, none⟩ = (evA e)[i]?) ∧ w'.cell? ⟨gg, fi * 4 + 3, none⟩ = some (.int .i64 dl))) (ds := []) #[ff,ff,ff,ff,ff,ff,ff,ff,ff,ff,ff,ff,ff,ff,ff,ff,ff,ff,ff,ff,ff,ff,ff] (by kernel_rfl) rfl rfl ⟨fun i => blk_cell HJw4.out.drew.b i, fun i => blk_cell HJw4.out.drew.e_ i, hdc⟩ (fun hHeld => ?_)
 refine with_tabW rdR.tab10 rdR.bits10 (fun HT_ HW_ => ?_)
 have HJ := Aside0.mk HJw4.out.drew
 have HAD := Aside0.mk (show w4.drew.cell? ⟨gg, fi * 4 + 3, none⟩ = some (.int .i64 dl) from hdc)
 generalize w4.drew = w5 at HJ hHeld HAD ⊢
 have hlb := blk_lt HJ.out.b
 have hle := blk_lt HJ.out.e_
 have hlr := (by obtain ⟨_, _, q⟩ := HJ.out.r; exact blk_lt q : w.heap.size + 1 + 1 < _)
 refine pure_ (i := 0) (N := (some 45)) (v := ?_) (a' := ?_) #[tt,ff,ff,ff,ff,ff,ff,ff,ff,ff,ff,ff,ff,ff,ff,ff,ff,ff,ff,ff,ff,ff,ff] rfl rfl (any_of HT_.out (by kernel_rfl)) (fun _ _ _ h => h) (Or.inl ⟨by rfl, ?_⟩) ?_ ?_
 rotate_left
 ·intro w'
  go_simp
  with_reducible rfl
 rotate_left
 ·simp only [Act.put, sQ0, sQ1, sQ2, i64_w]
  rfl
 refine pure_ (i := 1) (N := (some 46)) (v := ?_) (a' := ?_) #[tt,tt,ff,ff,ff,ff,ff,ff,ff,ff,ff,ff,ff,ff,ff,ff,ff,ff,ff,ff,ff,ff,ff] rfl rfl (any_of HT_.out (by kernel_rfl)) (fun _ _ _ h => h) (Or.inl ⟨by rfl, ?_⟩) ?_ ?_
 rotate_left
 ·intro w'
  go_simp
  with_reducible rfl
 rotate_left
 ·simp only [Act.put, sQ0, sQ1, sQ2, i64_w]
  rfl
 refine pure_ (i := 2) (N := (some 47)) (v := ?_) (a' := ?_) #[tt,tt,tt,ff,ff,ff,ff,ff,ff,ff,ff,ff,ff,ff,ff,ff,ff,ff,ff,ff,ff,ff,ff] rfl rfl (any_of HT_.out (by kernel_rfl)) (fun _ _ _ h => h) (Or.inl ⟨by rfl, ?_⟩) ?_ ?_
 rotate_left
 ·intro w'
  go_simp
  with_reducible rfl
 rotate_left
 ·simp only [Act.put, sQ0, sQ1, sQ2, i64_w]
  rfl
 refine pure_ (i := 3) (N := (some 48)) (v := ?_) (a' := ?_) #[tt,tt,tt,tt,ff,ff,ff,ff,ff,ff,ff,ff,ff,ff,ff,ff,ff,ff,ff,ff,ff,ff,ff] rfl rfl (any_of HT_.out (by kernel_rfl)) (fun _ _ _ h => h) (Or.inl ⟨by rfl, ?_⟩) ?_ ?_
 rotate_left
 ·intro w'
  go_simp
  with_reducible rfl
 rotate_left
 ·simp only [Act.put, sQ0, sQ1, sQ2, i64_w]
  rfl
 refine pure_ (i := 6) (N := (some 51)) (v := ?_) (a' := ?_) #[tt,tt,tt,tt,ff,ff,tt,ff,ff,ff,ff,ff,ff,ff,ff,ff,ff,ff,ff,ff,ff,ff,ff] rfl rfl (any_of HT_.out (by kernel_rfl)) (fun _ _ _ h => h) (Or.inl ⟨by rfl, ?_⟩) ?_ ?_
 rotate_left
 ·intro w'
  go_simp
  with_reducible rfl
 rotate_left
 ·simp only [Act.put, sQ0, sQ1, sQ2, i64_w]
  rfl
 refine pure_ (i := 12) (N := (some 57)) (v := ?_) (a' := ?_) #[tt,tt,tt,tt,ff,ff,tt,ff,ff,ff,ff,ff,tt,ff,ff,ff,ff,ff,ff,ff,ff,ff,ff] rfl rfl (any_of HT_.out (by kernel_rfl)) (fun _ _ _ h => h) (Or.inl ⟨by rfl, ?_⟩) ?_ ?_
 rotate_left
 ·intro w'
  go_simp
  with_reducible rfl
 rotate_left
 ·simp only [Act.put, sQ0, sQ1, sQ2, i64_w]
  rfl
 refine take_ (i := 4) (N := (some 49)) (v := ?_) (a' := ?_) #[tt,tt,tt,tt,tt,ff,tt,ff,ff,ff,ff,ff,tt,ff,ff,ff,ff,ff,ff,ff,ff,ff,ff] rfl rfl (take_ofW HT_.out HW_.out (by kernel_rfl)) (fun _ _ _ h => h) (Or.inl ⟨by rfl, ?_⟩) hHeld ?_ ?_
 rotate_left
 ·rintro w' ⟨s0, s1, s2⟩
  go_simp
  with_reducible rfl
 rotate_left
 ·simp only [Act.put, sQ0, sQ1, sQ2, i64_w]
  rfl
 refine take_ (i := 5) (N := (some 50)) (v := ?_) (a' := ?_) #[tt,tt,tt,tt,tt,tt,tt,ff,ff,ff,ff,ff,tt,ff,ff,ff,ff,ff,ff,ff,ff,ff,ff] rfl rfl (take_ofW HT_.out HW_.out (by kernel_rfl)) (fun _ _ _ h => h) (Or.inl ⟨by rfl, ?_⟩) hHeld ?_ ?_
 rotate_left
 ·rintro w' ⟨s0, s1, s2⟩
  go_simp
  with_reducible rfl
 rotate_left
 ·simp only [Act.put, sQ0, sQ1, sQ2, i64_w]
  rfl
 refine take_ (i := 7) (N := (some 52)) (v := ?_) (a' := ?_) #[tt,tt,tt,tt,tt,tt,tt,tt,ff,ff,ff,ff,tt,ff,ff,ff,ff,ff,ff,ff,ff,ff,ff] rfl rfl (take_ofW HT_.out HW_.out (by kernel_rfl)) (fun _ _ _ h => h) (Or.inl ⟨by rfl, ?_⟩) hHeld ?_ ?_
 rotate_left
 ·rintro w' ⟨s0, s1, s2⟩
  go_simp
  with_reducible rfl
 rotate_left
 ·simp only [Act.put, sQ0, sQ1, sQ2, i64_w]
  rfl
 refine take_ (i := 13) (N := (some 58)) (v := ?_) (a' := ?_) #[tt,tt,tt,tt,tt,tt,tt,tt,ff,ff,ff,ff,tt,tt,ff,ff,ff,ff,ff,ff,ff,ff,ff] rfl rfl (take_ofW HT_.out HW_.out (by kernel_rfl)) (fun _ _ _ h => h) (Or.inl ⟨by rfl, ?_⟩) hHeld ?_ ?_
 rotate_left
 ·rintro w' ⟨s0, s1, s2⟩
  go_simp
  with_reducible rfl
 rotate_left
 ·simp only [Act.put, sQ0, sQ1, sQ2, i64_w]
  rfl
 refine one_ (i := 8) (N := (some 53)) #[tt,tt,tt,tt,tt,tt,tt,tt,tt,ff,ff,ff,tt,tt,ff,ff,ff,ff,ff,ff,ff,ff,ff] rfl rfl (one_of HT_.out (by kernel_rfl)) (by decide) (fun K hK => ?_)
 refine call_ (f := 68) #[.agg #[.int .i64 m.clk, .slice (some ⟨gg, 0, none⟩) m.L.length c], .agg #[.int .i64 e.hn, .int .i64 e.hg]] (by rfl) rfl (by go_simp <;> rfl) ?_
 refine (CFi.out w5 HJ.out.kr).mono ?_
 rintro r w6 ⟨rfl, hb⟩
 refine ⟨_, rfl, ?_⟩
 have HJ6 := Aside0.mk (HJ.out.step hb)
 have HA6 := Aside0.mk (pw_cell_below hb HAD.out)
 clear hb
 refine hK.out _ _ ⟨fun i => blk_cell HJ6.out.b i, fun i => blk_cell HJ6.out.e_ i, HA6.out⟩ (fun hHeld => ?_)
 clear hK K
 refine norm_ (a' := ?_) ?_ ?_
 rotate_left
 ·show Act.put _ (some 53) _ = _
  simp only [Act.put, sQ0, sQ1, sQ2, i64_w]
  rfl
 refine pure_ (i := 9) (N := (some 54)) (v := ?_) (a' := ?_) #[tt,tt,tt,tt,tt,tt,tt,tt,tt,tt,ff,ff,tt,tt,ff,ff,ff,ff,ff,ff,ff,ff,ff] rfl rfl (any_of HT_.out (by kernel_rfl)) (fun _ _ _ h => h) (Or.inl ⟨by rfl, ?_⟩) ?_ ?_
 rotate_left
 ·intro w'
  go_simp
  with_reducible rfl
 rotate_left
 ·simp only [Act.put, sQ0, sQ1, sQ2, i64_w]
  rfl
 refine pure_ (i := 10) (N := (some 55)) (v := ?_) (a' := ?_) #[tt,tt,tt,tt,tt,tt,tt,tt,tt,tt,tt,ff,tt,tt,ff,ff,ff,ff,ff,ff,ff,ff,ff] rfl rfl (any_of HT_.out (by kernel_rfl)) (fun _ _ _ h => h) (Or.inl ⟨by rfl, ?_⟩) ?_ ?_
 rotate_left
 ·intro w'
  go_simp
  with_reducible rfl
 rotate_left
 ·simp only [Act.put, sQ0, sQ1, sQ2, i64_w]
  rfl
 refine take_ (i := 11) (N := (some 56)) (v := ?_) (a' := ?_) #[tt,tt,tt,tt,tt,tt,tt,tt,tt,tt,tt,tt,tt,tt,ff,ff,ff,ff,ff,ff,ff,ff,ff] rfl rfl (take_ofW HT_.out HW_.out (by kernel_rfl)) (fun _ _ _ h => h) (Or.inl ⟨by rfl, ?_⟩) hHeld ?_ ?_
 rotate_left
 ·rintro w' ⟨s0, s1, s2⟩
  go_simp
  with_reducible rfl
 rotate_left
 ·simp only [Act.put, sQ0, sQ1, sQ2, i64_w]
  rfl
 refine pure_ (i := 14) (N := (some 59)) (v := ?_) (a' := ?_) #[tt,tt,tt,tt,tt,tt,tt,tt,tt,tt,tt,tt,tt,tt,tt,ff,ff,ff,ff,ff,ff,ff,ff] rfl rfl (any_of HT_.out (by kernel_rfl)) (fun _ _ _ h => h) (Or.inl ⟨by rfl, ?_⟩) ?_ ?_
 rotate_left
 ·intro w'
  go_simp
  with_reducible rfl
 rotate_left
 ·simp only [Act.put, sQ0, sQ1, sQ2, i64_w]
  rfl
 refine pure_ (i := 15) (N := (some 60)) (v := ?_) (a' := ?_) #[tt,tt,tt,tt,tt,tt,tt,tt,tt,tt,tt,tt,tt,tt,tt,tt,ff,ff,ff,ff,ff,ff,ff] rfl rfl (any_of HT_.out (by kernel_rfl)) (fun _ _ _ h => h) (Or.inl ⟨by rfl, ?_⟩) ?_ ?_
 rotate_left
 ·intro w'
  go_simp
  with_reducible rfl
 rotate_left
 ·simp only [Act.put, sQ0, sQ1, sQ2, i64_w]
  rfl
 refine pure_ (i := 16) (N := (some 61)) (v := ?_) (a' := ?_) #[tt,tt,tt,tt,tt,tt,tt,tt,tt,tt,tt,tt,tt,tt,tt,tt,tt,ff,ff,ff,ff,ff,ff] rfl rfl (any_of HT_.out (by kernel_rfl)) (fun _ _ _ h => h) (Or.inl ⟨by rfl, ?_⟩) ?_ ?_
 rotate_left
 ·intro w'
  go_simp
  with_reducible rfl
 rotate_left
 ·simp only [Act.put, sQ0, sQ1, sQ2, i64_w]
  rfl
 refine pure_ (i := 17) (N := (some 62)) (v := ?_) (a' := ?_) #[tt,tt,tt,tt,tt,tt,tt,tt,tt,tt,tt,tt,tt,tt,tt,tt,tt,tt,ff,ff,ff,ff,ff] rfl rfl (any_of HT_.out (by kernel_rfl)) (fun _ _ _ h => h) (Or.inl ⟨by rfl, ?_⟩) ?_ ?_
 rotate_left
 ·intro w'
  go_simp
  with_reducible rfl
 rotate_left
 ·simp only [Act.put, sQ0, sQ1, sQ2, i64_w]
  rfl
 refine pure_ (i := 19) (N := (some 64)) (v := ?_) (a' := ?_) #[tt,tt,tt,tt,tt,tt,tt,tt,tt,tt,tt,tt,tt,tt,tt,tt,tt,tt,ff,tt,ff,ff,ff] rfl rfl (any_of HT_.out (by kernel_rfl)) (fun _ _ _ h => h) (Or.inl ⟨by rfl, ?_⟩) ?_ ?_
 rotate_left
 ·intro w'
  go_simp
  with_reducible rfl
 rotate_left
 ·simp only [Act.put, sQ0, sQ1, sQ2, i64_w]
  rfl
 refine take_ (i := 18) (N := (some 63)) (v := ?_) (a' := ?_) #[tt,tt,tt,tt,tt,tt,tt,tt,tt,tt,tt,tt,tt,tt,tt,tt,tt,tt,tt,tt,ff,ff,ff] rfl rfl (take_ofW HT_.out HW_.out (by kernel_rfl)) (fun _ _ _ h => h) (Or.inl ⟨by rfl, ?_⟩) hHeld ?_ ?_
 rotate_left
 ·rintro w' ⟨s0, s1, s2⟩
  go_simp
  with_reducible rfl
 rotate_left
 ·simp only [Act.put, sQ0, sQ1, sQ2, i64_w]
  rfl
 refine take_ (i := 20) (N := (some 65)) (v := ?_) (a' := ?_) #[tt,tt,tt,tt,tt,tt,tt,tt,tt,tt,tt,tt,tt,tt,tt,tt,tt,tt,tt,tt,tt,ff,ff] rfl rfl (take_ofW HT_.out HW_.out (by kernel_rfl)) (fun _ _ _ h => h) (Or.inl ⟨by rfl, ?_⟩) hHeld ?_ ?_
 rotate_left
 ·rintro w' ⟨s0, s1, s2⟩
  go_simp
  with_reducible rfl
 rotate_left
 ·simp only [Act.put, sQ0, sQ1, sQ2, i64_w]
  rfl
 refine pure_ (i := 21) (N := (some 66)) (v := ?_) (a' := ?_) #[tt,tt,tt,tt,tt,tt,tt,tt,tt,tt,tt,tt,tt,tt,tt,tt,tt,tt,tt,tt,tt,tt,ff] rfl rfl (any_of HT_.out (by kernel_rfl)) (fun _ _ _ h => h) (Or.inl ⟨by rfl, ?_⟩) ?_ ?_
 rotate_left
 ·intro w'
  go_simp
  with_reducible rfl
 rotate_left
 ·simp only [Act.put, sQ0, sQ1, sQ2, i64_w]
  rfl
 refine pure_ (i := 22) (N := (some 67)) (v := ?_) (a' := ?_) #[tt,tt,tt,tt,tt,tt,tt,tt,tt,tt,tt,tt,tt,tt,tt,tt,tt,tt,tt,tt,tt,tt,tt] rfl rfl (any_of HT_.out (by kernel_rfl)) (fun _ _ _ h => h) (Or.inl ⟨by rfl, ?_⟩) ?_ ?_
 rotate_left
 ·intro w'
  go_simp
  with_reducible rfl
 rotate_left
 ·simp only [Act.put, sQ0, sQ1, sQ2, i64_w]
  rfl
 refine done_ (done_of HT_.out (by kernel_rfl)) ?_
 clear hHeld
 clear hlb hle hlr
 clear HJ
 have HJ := HJ6
 have hcb := fun i => blk_cell HJ.out.b i
 have hce := fun i => blk_cell HJ.out.e_ i
 have hlb := blk_lt HJ.out.b
 have hle := blk_lt HJ.out.e_
 have hlr := (by obtain ⟨_, _, q⟩ := HJ.out.r; exact blk_lt q : w.heap.size + 1 + 1 < _)
 go_upto_region 11 with (fail)
 obtain ⟨rs, hrs, hrr⟩ := HJ.out.r
 obtain ⟨x0, x1, rfl⟩ : ∃ x0 x1, rs = #[x0, x1] := by rcases rs with ⟨_ | ⟨x0, _ | ⟨x1, _ | _⟩⟩⟩ <;> simp at hrs; exact ⟨_, _, rfl⟩
 have hcr := fun i => blk_cell hrr i
 have hfr := fun i => blk_frozen hrr i
 clear hrs
 go_wp2
 have HE := Aside0.mk (show KR _ B (.slice (some ⟨gg, 0, none⟩) m.L.length c) m.L from KR.keep (KR.keep HJ.out.kr (W1 := World.setCell _ ⟨w.heap.size + 1 + 1, 0, none⟩ (.int .i64 m.clk)) fun g cs hg => Below.heap_setCell _ _ _ _ (types_ne hg hrr (by decide))) (W1 := World.setCell (World.setCell _ ⟨w.heap.size + 1 + 1, 0, none⟩ (.int .i64 m.clk)) ⟨w.heap.size + 1 + 1, 1, none⟩ (.slice (some ⟨gg, 0, none⟩) m.L.length c)) fun g cs hg => Below.heap_setCell _ _ _ _ (types_ne hg (blk_put hrr 0 _ rfl) (by decide)))
 have HBL := Aside0.mk (below_set (g := w.heap.size + 1 + 1) (j := 1) (v := .slice (some ⟨gg, 0, none⟩) m.L.length c) (below_set (g := w.heap.size + 1 + 1) (j := 0) (v := .int .i64 m.clk) HJ.out.below (by omega)) (by omega))
 unfold RdPost
 rw [HF.out]
 exact bodyPost_ret (v := .tuple #[.agg #[.int .i64 m.clk, .slice (some ⟨gg, 0, none⟩) m.L.length c], .int .i64 6]) (by simp [results, Try.results45, asAddr, go_sem, hu0, hcr, hlr]) rfl ⟨_, rfl, HE.out, HBL.out⟩
theorem rdo_fire {w : World} {B : Nat} (m : Rm) (v : Value) (e : Au.Ev) (hn : m.L.length ≤ 90000) (nd : (m.L.map S127.h).Nodup) (hB : B ≤ w.heap.size) (h : KR w B v m.L) (hr : rightJ e = true) (hk : e.k = 4) (ha : statR m.L e.h = 1) (hd : dlR m.L e.h ≤ e.t) (hc : e.t ≤ m.clk) :
  Calls Try.prog 45 #[.agg #[.int .i64 m.clk, v], .agg (evA e)] w (RdPost B w (rdoF m e)) := by
 have hu0 := Try.underlying43
 have hu1 := Try.underlying36
 have hu2 := Try.underlying50
 have hu3 := Try.underlying127
 have HF := Aside0.mk (show rdoF m e = ({ m with L := turnR m.L e.h 2 }, 0) by unfold rdoF; rw [if_neg (by rw [hr]; simp; omega), if_neg (by omega), if_pos hk, if_pos ⟨ha, hd, hc⟩])
 have qk1 : (e.k == 1) = false := beq_eq_false_iff_ne.2 (by omega)
 have qk2 : (e.k == 2) = false := beq_eq_false_iff_ne.2 (by omega)
 have qk4 : (e.k == 4) = true := beq_iff_eq.2 (hk)
 have qk5 : (e.k == 5) = false := beq_eq_false_iff_ne.2 (by omega)
 have qs : (statR m.L e.h == 1) = true := beq_iff_eq.2 (ha)
 have f1 : decide (dlR m.L e.h > e.t) = false := decide_eq_false (by omega)
 have f2 : decide (e.t > m.clk) = false := decide_eq_false (by omega)
 obtain ⟨A, c, rfl⟩ := Kd.R_slice h
 have CR := Aside0.mk (fun W => rright_run e W)
 have CS : Aside0 (∀ W, KR W B (.slice A m.L.length c) m.L → Calls Try.prog 35 #[.agg #[.int .i64 m.clk, .slice A m.L.length c], .agg #[.int .i64 e.hn, .int .i64 e.hg]] W fun r w' => r = .returned (.int .i64 (statR m.L e.h)) ∧ Below W.heap.size W w') := ⟨fun W hW => stat_calls hW (by omega) e.hn e.hg⟩
 have HN := Aside0.mk hn
 have HND := Aside0.mk nd
 have HB := Aside0.mk hB
 have HJ := Aside0.mk (Rj.start h m.clk e)
 rw [hr] at CR
 have CFi : Aside0 (∀ W, KR W B (.slice A m.L.length c) m.L → Calls Try.prog 68 #[.agg #[.int .i64 m.clk, .slice A m.L.length c], .agg #[.int .i64 e.hn, .int .i64 e.hg]] W fun r w' => r = .returned (.int .i64 (findR m.L e.h)) ∧ Below W.heap.size W w') := ⟨fun W hW => find_calls hW (by omega) e.hn e.hg⟩
 obtain ⟨fi, hfi, hfr0, hfx⟩ := find_ex ha
 rw [hfr0] at CFi
 obtain ⟨gg, rfl, hgl, hgc⟩ := row_dl h fi hfi
 have HGC := Aside0.mk hgc
 have HGL := Aside0.mk hgl
 have p0 := eq_true (show (0 : Int) ≤ (fi : Int) by omega)
 have p1 := eq_true (show (fi : Int) < (m.L.length : Int) by omega)
 clear hgc hgl hfr0
 rw [hfx] at HGC
 obtain ⟨dl, hdl⟩ : ∃ d, dlR m.L e.h = d := ⟨_, rfl⟩
 rw [hdl] at HGC
 try rw [hdl] at f1
 clear hdl hfx
 have CT : Aside0 (∀ W, Rj B w W m.clk (.slice (some ⟨gg, 0, none⟩) m.L.length c) m.L e → Calls Try.prog 79 #[.agg #[.int .i64 m.clk, .slice (some ⟨gg, 0, none⟩) m.L.length c], .agg #[.int .i64 e.hn, .int .i64 e.hg], .int .i64 2] W fun r w' => ∃ A1 c1, r = .returned (.agg #[.int .i64 m.clk, .slice A1 (turnR m.L e.h 2).length c1]) ∧ KR w' B (.slice A1 (turnR m.L e.h 2).length c1) (turnR m.L e.h 2) ∧ Below W.heap.size W w') := ⟨fun W hW => turn_calls hW.kr (by have := hW.below.size; omega) (by omega) e.hn e.hg 2 nd (stat_ex ha)⟩
 clear hn nd hB h hr hk ha hd hc
 have hcb := fun i => blk_cell HJ.out.b i
 have hce := fun i => blk_cell HJ.out.e_ i
 have hlb := blk_lt HJ.out.b
 have hle := blk_lt HJ.out.e_
 have hlr := (by obtain ⟨_, _, q⟩ := HJ.out.r; exact blk_lt q : w.heap.size + 1 + 1 < _)
 obtain ⟨sv, hsv⟩ : ∃ sv, statR m.L e.h = sv := ⟨_, rfl⟩
 try rw [hsv] at CS
 try rw [hsv] at qs
 clear hsv
 go_enter Try.func45, Try.ntmps45
 go_upto_region 10 with (first | (go_at_call 62; (with_reducible refine (CR.out _).mono ?_); rintro r w2 ⟨rfl, hb⟩; have HJ2 := Aside0.mk (HJ.out.step hb); clear hb hcb hce hlb hle hlr HJ; have HJ := HJ2; clear HJ2; have hcb := fun i => blk_cell HJ.out.b i; have hce := fun i => blk_cell HJ.out.e_ i; have hlb := blk_lt HJ.out.b; have hle := blk_lt HJ.out.e_; have hlr := (by obtain ⟨_, _, q⟩ := HJ.out.r; exact blk_lt q : w.heap.size + 1 + 1 < _)) | (go_at_call 35; (with_reducible refine (CS.out _ HJ.out.kr).mono ?_); rintro r w3 ⟨rfl, hb⟩; have HJ2 := Aside0.mk (HJ.out.step hb); clear hb hcb hce hlb hle hlr HJ; have HJ := HJ2; clear HJ2; have hcb := fun i => blk_cell HJ.out.b i; have hce := fun i => blk_cell HJ.out.e_ i; have hlb := blk_lt HJ.out.b; have hle := blk_lt HJ.out.e_; have hlr := (by obtain ⟨_, _, q⟩ := HJ.out.r; exact blk_lt q : w.heap.size + 1 + 1 < _)))
 refine gen_world' (fun W => Rj B w W m.clk (.slice (some ⟨gg, 0, none⟩) m.L.length c) m.L e) (by exact HJ.out) fun w4 Hw4 => ?_
 have HJw4 := Aside0.mk Hw4
 clear Hw4 HJ
 clear hcb hce hlb hle hlr
 have hdc := pw_cell_below (below_drew HJw4.out.below) HGC.out
 refine start_ (n := 23) (S := (fun w' => (∀ i, w'.cell? ⟨w.heap.size, i, none⟩ = (#[.int .i64 m.clk, .slice (some ⟨gg, 0, none⟩) m.L.length c] : Array Value)[i]?) ∧ (∀ i, w'.cell? ⟨w.heap.size + 1, i, none⟩ = (evA e)[i]?) ∧ w'.cell? ⟨gg, fi * 4 + 3, none⟩ = some (.int .i64 dl))) (ds := []) #[ff,ff,ff,ff,ff,ff,ff,ff,ff,ff,ff,ff,ff,ff,ff,ff,ff,ff,ff,ff,ff,ff,ff] (by kernel_rfl) rfl rfl ⟨fun i => blk_cell HJw4.out.drew.b i, fun i => blk_cell HJw4.out.drew.e_ i, hdc⟩ (fun hHeld => ?_)
 refine with_tabW rdR.tab10 rdR.bits10 (fun HT_ HW_ => ?_)
 have HJ := Aside0.mk HJw4.out.drew
 have HAD := Aside0.mk (show w4.drew.cell? ⟨gg, fi * 4 + 3, none⟩ = some (.int .i64 dl) from hdc)
 generalize w4.drew = w5 at HJ hHeld HAD ⊢
 have hlb := blk_lt HJ.out.b
 have hle := blk_lt HJ.out.e_
 have hlr := (by obtain ⟨_, _, q⟩ := HJ.out.r; exact blk_lt q : w.heap.size + 1 + 1 < _)
 refine pure_ (i := 0) (N := (some 45)) (v := ?_) (a' := ?_) #[tt,ff,ff,ff,ff,ff,ff,ff,ff,ff,ff,ff,ff,ff,ff,ff,ff,ff,ff,ff,ff,ff,ff] rfl rfl (any_of HT_.out (by kernel_rfl)) (fun _ _ _ h => h) (Or.inl ⟨by rfl, ?_⟩) ?_ ?_
 rotate_left
 ·intro w'
  go_simp
  with_reducible rfl
 rotate_left
 ·simp only [Act.put, sQ0, sQ1, sQ2, i64_w]
  rfl
 refine pure_ (i := 1) (N := (some 46)) (v := ?_) (a' := ?_) #[tt,tt,ff,ff,ff,ff,ff,ff,ff,ff,ff,ff,ff,ff,ff,ff,ff,ff,ff,ff,ff,ff,ff] rfl rfl (any_of HT_.out (by kernel_rfl)) (fun _ _ _ h => h) (Or.inl ⟨by rfl, ?_⟩) ?_ ?_
 rotate_left
 ·intro w'
  go_simp
  with_reducible rfl
 rotate_left
 ·simp only [Act.put, sQ0, sQ1, sQ2, i64_w]
  rfl
 refine pure_ (i := 2) (N := (some 47)) (v := ?_) (a' := ?_) #[tt,tt,tt,ff,ff,ff,ff,ff,ff,ff,ff,ff,ff,ff,ff,ff,ff,ff,ff,ff,ff,ff,ff] rfl rfl (any_of HT_.out (by kernel_rfl)) (fun _ _ _ h => h) (Or.inl ⟨by rfl, ?_⟩) ?_ ?_
 rotate_left
 ·intro w'
  go_simp
  with_reducible rfl
 rotate_left
 ·simp only [Act.put, sQ0, sQ1, sQ2, i64_w]
  rfl
 refine pure_ (i := 3) (N := (some 48)) (v := ?_) (a' := ?_) #[tt,tt,tt,tt,ff,ff,ff,ff,ff,ff,ff,ff,ff,ff,ff,ff,ff,ff,ff,ff,ff,ff,ff] rfl rfl (any_of HT_.out (by kernel_rfl)) (fun _ _ _ h => h) (Or.inl ⟨by rfl, ?_⟩) ?_ ?_
 rotate_left
 ·intro w'
  go_simp
  with_reducible rfl
 rotate_left
 ·simp only [Act.put, sQ0, sQ1, sQ2, i64_w]
  rfl
 refine pure_ (i := 6) (N := (some 51)) (v := ?_) (a' := ?_) #[tt,tt,tt,tt,ff,ff,tt,ff,ff,ff,ff,ff,ff,ff,ff,ff,ff,ff,ff,ff,ff,ff,ff] rfl rfl (any_of HT_.out (by kernel_rfl)) (fun _ _ _ h => h) (Or.inl ⟨by rfl, ?_⟩) ?_ ?_
 rotate_left
 ·intro w'
  go_simp
  with_reducible rfl
 rotate_left
 ·simp only [Act.put, sQ0, sQ1, sQ2, i64_w]
  rfl
 refine pure_ (i := 12) (N := (some 57)) (v := ?_) (a' := ?_) #[tt,tt,tt,tt,ff,ff,tt,ff,ff,ff,ff,ff,tt,ff,ff,ff,ff,ff,ff,ff,ff,ff,ff] rfl rfl (any_of HT_.out (by kernel_rfl)) (fun _ _ _ h => h) (Or.inl ⟨by rfl, ?_⟩) ?_ ?_
 rotate_left
 ·intro w'
  go_simp
  with_reducible rfl
 rotate_left
 ·simp only [Act.put, sQ0, sQ1, sQ2, i64_w]
  rfl
 refine take_ (i := 4) (N := (some 49)) (v := ?_) (a' := ?_) #[tt,tt,tt,tt,tt,ff,tt,ff,ff,ff,ff,ff,tt,ff,ff,ff,ff,ff,ff,ff,ff,ff,ff] rfl rfl (take_ofW HT_.out HW_.out (by kernel_rfl)) (fun _ _ _ h => h) (Or.inl ⟨by rfl, ?_⟩) hHeld ?_ ?_
 rotate_left
 ·rintro w' ⟨s0, s1, s2⟩
  go_simp
  with_reducible rfl
 rotate_left
 ·simp only [Act.put, sQ0, sQ1, sQ2, i64_w]
  rfl
 refine take_ (i := 5) (N := (some 50)) (v := ?_) (a' := ?_) #[tt,tt,tt,tt,tt,tt,tt,ff,ff,ff,ff,ff,tt,ff,ff,ff,ff,ff,ff,ff,ff,ff,ff] rfl rfl (take_ofW HT_.out HW_.out (by kernel_rfl)) (fun _ _ _ h => h) (Or.inl ⟨by rfl, ?_⟩) hHeld ?_ ?_
 rotate_left
 ·rintro w' ⟨s0, s1, s2⟩
  go_simp
  with_reducible rfl
 rotate_left
 ·simp only [Act.put, sQ0, sQ1, sQ2, i64_w]
  rfl
 refine take_ (i := 7) (N := (some 52)) (v := ?_) (a' := ?_) #[tt,tt,tt,tt,tt,tt,tt,tt,ff,ff,ff,ff,tt,ff,ff,ff,ff,ff,ff,ff,ff,ff,ff] rfl rfl (take_ofW HT_.out HW_.out (by kernel_rfl)) (fun _ _ _ h => h) (Or.inl ⟨by rfl, ?_⟩) hHeld ?_ ?_
 rotate_left
 ·rintro w' ⟨s0, s1, s2⟩
  go_simp
  with_reducible rfl
 rotate_left
 ·simp only [Act.put, sQ0, sQ1, sQ2, i64_w]
  rfl
 refine take_ (i := 13) (N := (some 58)) (v := ?_) (a' := ?_) #[tt,tt,tt,tt,tt,tt,tt,tt,ff,ff,ff,ff,tt,tt,ff,ff,ff,ff,ff,ff,ff,ff,ff] rfl rfl (take_ofW HT_.out HW_.out (by kernel_rfl)) (fun _ _ _ h => h) (Or.inl ⟨by rfl, ?_⟩) hHeld ?_ ?_
 rotate_left
 ·rintro w' ⟨s0, s1, s2⟩
  go_simp
  with_reducible rfl
 rotate_left
 ·simp only [Act.put, sQ0, sQ1, sQ2, i64_w]
  rfl
 refine one_ (i := 8) (N := (some 53)) #[tt,tt,tt,tt,tt,tt,tt,tt,tt,ff,ff,ff,tt,tt,ff,ff,ff,ff,ff,ff,ff,ff,ff] rfl rfl (one_of HT_.out (by kernel_rfl)) (by decide) (fun K hK => ?_)
 refine call_ (f := 68) #[.agg #[.int .i64 m.clk, .slice (some ⟨gg, 0, none⟩) m.L.length c], .agg #[.int .i64 e.hn, .int .i64 e.hg]] (by rfl) rfl (by go_simp <;> rfl) ?_
 refine (CFi.out w5 HJ.out.kr).mono ?_
 rintro r w6 ⟨rfl, hb⟩
 refine ⟨_, rfl, ?_⟩
 have HJ6 := Aside0.mk (HJ.out.step hb)
 have HA6 := Aside0.mk (pw_cell_below hb HAD.out)
 clear hb
 refine hK.out _ _ ⟨fun i => blk_cell HJ6.out.b i, fun i => blk_cell HJ6.out.e_ i, HA6.out⟩ (fun hHeld => ?_)
 clear hK K
 refine norm_ (a' := ?_) ?_ ?_
 rotate_left
 ·show Act.put _ (some 53) _ = _
  simp only [Act.put, sQ0, sQ1, sQ2, i64_w]
  rfl
 refine pure_ (i := 9) (N := (some 54)) (v := ?_) (a' := ?_) #[tt,tt,tt,tt,tt,tt,tt,tt,tt,tt,ff,ff,tt,tt,ff,ff,ff,ff,ff,ff,ff,ff,ff] rfl rfl (any_of HT_.out (by kernel_rfl)) (fun _ _ _ h => h) (Or.inl ⟨by rfl, ?_⟩) ?_ ?_
 rotate_left
 ·intro w'
  go_simp
  with_reducible rfl
 rotate_left
 ·simp only [Act.put, sQ0, sQ1, sQ2, i64_w]
  rfl
 refine pure_ (i := 10) (N := (some 55)) (v := ?_) (a' := ?_) #[tt,tt,tt,tt,tt,tt,tt,tt,tt,tt,tt,ff,tt,tt,ff,ff,ff,ff,ff,ff,ff,ff,ff] rfl rfl (any_of HT_.out (by kernel_rfl)) (fun _ _ _ h => h) (Or.inl ⟨by rfl, ?_⟩) ?_ ?_
 rotate_left
 ·intro w'
  go_simp
  with_reducible rfl
 rotate_left
 ·simp only [Act.put, sQ0, sQ1, sQ2, i64_w]
  rfl
 refine take_ (i := 11) (N := (some 56)) (v := ?_) (a' := ?_) #[tt,tt,tt,tt,tt,tt,tt,tt,tt,tt,tt,tt,tt,tt,ff,ff,ff,ff,ff,ff,ff,ff,ff] rfl rfl (take_ofW HT_.out HW_.out (by kernel_rfl)) (fun _ _ _ h => h) (Or.inl ⟨by rfl, ?_⟩) hHeld ?_ ?_
 rotate_left
 ·rintro w' ⟨s0, s1, s2⟩
  go_simp
  with_reducible rfl
 rotate_left
 ·simp only [Act.put, sQ0, sQ1, sQ2, i64_w]
  rfl
 refine pure_ (i := 14) (N := (some 59)) (v := ?_) (a' := ?_) #[tt,tt,tt,tt,tt,tt,tt,tt,tt,tt,tt,tt,tt,tt,tt,ff,ff,ff,ff,ff,ff,ff,ff] rfl rfl (any_of HT_.out (by kernel_rfl)) (fun _ _ _ h => h) (Or.inl ⟨by rfl, ?_⟩) ?_ ?_
 rotate_left
 ·intro w'
  go_simp
  with_reducible rfl
 rotate_left
 ·simp only [Act.put, sQ0, sQ1, sQ2, i64_w]
  rfl
 refine pure_ (i := 15) (N := (some 60)) (v := ?_) (a' := ?_) #[tt,tt,tt,tt,tt,tt,tt,tt,tt,tt,tt,tt,tt,tt,tt,tt,ff,ff,ff,ff,ff,ff,ff] rfl rfl (any_of HT_.out (by kernel_rfl)) (fun _ _ _ h => h) (Or.inl ⟨by rfl, ?_⟩) ?_ ?_
 rotate_left
 ·intro w'
  go_simp
  with_reducible rfl
 rotate_left
 ·simp only [Act.put, sQ0, sQ1, sQ2, i64_w]
  rfl
 refine pure_ (i := 16) (N := (some 61)) (v := ?_) (a' := ?_) #[tt,tt,tt,tt,tt,tt,tt,tt,tt,tt,tt,tt,tt,tt,tt,tt,tt,ff,ff,ff,ff,ff,ff] rfl rfl (any_of HT_.out (by kernel_rfl)) (fun _ _ _ h => h) (Or.inl ⟨by rfl, ?_⟩) ?_ ?_
 rotate_left
 ·intro w'
  go_simp
  with_reducible rfl
 rotate_left
 ·simp only [Act.put, sQ0, sQ1, sQ2, i64_w]
  rfl
 refine pure_ (i := 17) (N := (some 62)) (v := ?_) (a' := ?_) #[tt,tt,tt,tt,tt,tt,tt,tt,tt,tt,tt,tt,tt,tt,tt,tt,tt,tt,ff,ff,ff,ff,ff] rfl rfl (any_of HT_.out (by kernel_rfl)) (fun _ _ _ h => h) (Or.inl ⟨by rfl, ?_⟩) ?_ ?_
 rotate_left
 ·intro w'
  go_simp
  with_reducible rfl
 rotate_left
 ·simp only [Act.put, sQ0, sQ1, sQ2, i64_w]
  rfl
 refine pure_ (i := 19) (N := (some 64)) (v := ?_) (a' := ?_) #[tt,tt,tt,tt,tt,tt,tt,tt,tt,tt,tt,tt,tt,tt,tt,tt,tt,tt,ff,tt,ff,ff,ff] rfl rfl (any_of HT_.out (by kernel_rfl)) (fun _ _ _ h => h) (Or.inl ⟨by rfl, ?_⟩) ?_ ?_
 rotate_left
 ·intro w'
  go_simp
  with_reducible rfl
 rotate_left
 ·simp only [Act.put, sQ0, sQ1, sQ2, i64_w]
  rfl
 refine take_ (i := 18) (N := (some 63)) (v := ?_) (a' := ?_) #[tt,tt,tt,tt,tt,tt,tt,tt,tt,tt,tt,tt,tt,tt,tt,tt,tt,tt,tt,tt,ff,ff,ff] rfl rfl (take_ofW HT_.out HW_.out (by kernel_rfl)) (fun _ _ _ h => h) (Or.inl ⟨by rfl, ?_⟩) hHeld ?_ ?_
 rotate_left
 ·rintro w' ⟨s0, s1, s2⟩
  go_simp
  with_reducible rfl
 rotate_left
 ·simp only [Act.put, sQ0, sQ1, sQ2, i64_w]
  rfl
 refine take_ (i := 20) (N := (some 65)) (v := ?_) (a' := ?_) #[tt,tt,tt,tt,tt,tt,tt,tt,tt,tt,tt,tt,tt,tt,tt,tt,tt,tt,tt,tt,tt,ff,ff] rfl rfl (take_ofW HT_.out HW_.out (by kernel_rfl)) (fun _ _ _ h => h) (Or.inl ⟨by rfl, ?_⟩) hHeld ?_ ?_
 rotate_left
 ·rintro w' ⟨s0, s1, s2⟩
  go_simp
  with_reducible rfl
 rotate_left
 ·simp only [Act.put, sQ0, sQ1, sQ2, i64_w]
  rfl
 refine pure_ (i := 21) (N := (some 66)) (v := ?_) (a' := ?_) #[tt,tt,tt,tt,tt,tt,tt,tt,tt,tt,tt,tt,tt,tt,tt,tt,tt,tt,tt,tt,tt,tt,ff] rfl rfl (any_of HT_.out (by kernel_rfl)) (fun _ _ _ h => h) (Or.inl ⟨by rfl, ?_⟩) ?_ ?_
 rotate_left
 ·intro w'
  go_simp
  with_reducible rfl
 rotate_left
 ·simp only [Act.put, sQ0, sQ1, sQ2, i64_w]
  rfl
 refine pure_ (i := 22) (N := (some 67)) (v := ?_) (a' := ?_) #[tt,tt,tt,tt,tt,tt,tt,tt,tt,tt,tt,tt,tt,tt,tt,tt,tt,tt,tt,tt,tt,tt,tt] rfl rfl (any_of HT_.out (by kernel_rfl)) (fun _ _ _ h => h) (Or.inl ⟨by rfl, ?_⟩) ?_ ?_
 rotate_left
 ·intro w'
  go_simp
  with_reducible rfl
 rotate_left
 ·simp only [Act.put, sQ0, sQ1, sQ2, i64_w]
  rfl
 refine done_ (done_of HT_.out (by kernel_rfl)) ?_
 clear hHeld
 clear hlb hle hlr
 clear HJ
 have HJ := HJ6
 have hcb := fun i => blk_cell HJ.out.b i
 have hce := fun i => blk_cell HJ.out.e_ i
 have hlb := blk_lt HJ.out.b
 have hle := blk_lt HJ.out.e_
 have hlr := (by obtain ⟨_, _, q⟩ := HJ.out.r; exact blk_lt q : w.heap.size + 1 + 1 < _)
 have LT := Aside0.mk True.intro
 go_wp2_with (first | (go_at_call 79; (with_reducible refine (CT.out _ HJ.out).mono ?_); rintro r w7 ⟨A1, c1, rfl, hk1, hb⟩; have HK1 := Aside0.mk hk1; have HJ7 := Aside0.mk (HJ.out.step hb); clear hb hk1 hcb hce hlb hle hlr; have hcb := fun i => blk_cell HJ7.out.b i; have hce := fun i => blk_cell HJ7.out.e_ i; have hlb := blk_lt HJ7.out.b; have hle := blk_lt HJ7.out.e_; have hlr := (by obtain ⟨_, _, q⟩ := HJ7.out.r; exact blk_lt q : w.heap.size + 1 + 1 < _); obtain ⟨rs, hrs, hrr⟩ := HJ7.out.r; obtain ⟨x0, x1, rfl⟩ : ∃ x0 x1, rs = #[x0, x1] := (by rcases rs with ⟨_ | ⟨x0, _ | ⟨x1, _ | _⟩⟩⟩ <;> simp at hrs; exact ⟨_, _, rfl⟩); have hcr := fun i => blk_cell hrr i; have hfr := fun i => blk_frozen hrr i; clear hrs))
 have HE := Aside0.mk (show KR _ B (.slice A1 (turnR m.L e.h 2).length c1) (turnR m.L e.h 2) from KR.keep (KR.keep HK1.out (W1 := World.setCell _ ⟨w.heap.size + 1 + 1, 0, none⟩ (.int .i64 m.clk)) fun g cs hg => Below.heap_setCell _ _ _ _ (types_ne hg hrr (by decide))) (W1 := World.setCell (World.setCell _ ⟨w.heap.size + 1 + 1, 0, none⟩ (.int .i64 m.clk)) ⟨w.heap.size + 1 + 1, 1, none⟩ (.slice A1 (turnR m.L e.h 2).length c1)) fun g cs hg => Below.heap_setCell _ _ _ _ (types_ne hg (blk_put hrr 0 _ rfl) (by decide)))
 have HBL := Aside0.mk (below_set (g := w.heap.size + 1 + 1) (j := 1) (v := .slice A1 (turnR m.L e.h 2).length c1) (below_set (g := w.heap.size + 1 + 1) (j := 0) (v := .int .i64 m.clk) HJ7.out.below (by omega)) (by omega))
 unfold RdPost
 rw [HF.out]
 exact bodyPost_ret (v := .tuple #[.agg #[.int .i64 m.clk, .slice A1 (turnR m.L e.h 2).length c1], .int .i64 0]) (by simp [results, Try.results45, asAddr, go_sem, hu0, hcr, hlr]) rfl ⟨_, rfl, HE.out, HBL.out⟩
theorem rdo_start_err {w : World} {B : Nat} (m : Rm) (v : Value) (e : Au.Ev) (hn : m.L.length ≤ 90000) (nd : (m.L.map S127.h).Nodup) (hB : B ≤ w.heap.size) (h : KR w B v m.L) (hr : rightJ e = true) (hk : e.k = 3) (ho : e.op = 1) (he : ¬ e.er = 0) :
  Calls Try.prog 45 #[.agg #[.int .i64 m.clk, v], .agg (evA e)] w (RdPost B w (rdoF m e)) := by
 have hu0 := Try.underlying43
 have hu1 := Try.underlying36
 have hu2 := Try.underlying50
 have hu3 := Try.underlying127
 have HF := Aside0.mk (show rdoF m e = (m, 0) by unfold rdoF; rw [if_neg (by rw [hr]; simp; omega), if_neg (by omega), if_neg (by omega)]; unfold rpF; rw [if_pos ho, if_neg he])
 have qk1 : (e.k == 1) = false := beq_eq_false_iff_ne.2 (by omega)
 have qk2 : (e.k == 2) = false := beq_eq_false_iff_ne.2 (by omega)
 have qk4 : (e.k == 4) = false := beq_eq_false_iff_ne.2 (by omega)
 have qk5 : (e.k == 5) = false := beq_eq_false_iff_ne.2 (by omega)
 have qp1 : (e.op == 1) = true := beq_iff_eq.2 (ho)
 have qp2 : (e.op == 2) = false := beq_eq_false_iff_ne.2 (by omega)
 have qp3 : (e.op == 3) = false := beq_eq_false_iff_ne.2 (by omega)
 have qp4 : (e.op == 4) = false := beq_eq_false_iff_ne.2 (by omega)
 have qr0 : (e.er == 0) = false := beq_eq_false_iff_ne.2 (he)
 obtain ⟨A, c, rfl⟩ := Kd.R_slice h
 have CR := Aside0.mk (fun W => rright_run e W)
 have CS : Aside0 (∀ W, KR W B (.slice A m.L.length c) m.L → Calls Try.prog 35 #[.agg #[.int .i64 m.clk, .slice A m.L.length c], .agg #[.int .i64 e.hn, .int .i64 e.hg]] W fun r w' => r = .returned (.int .i64 (statR m.L e.h)) ∧ Below W.heap.size W w') := ⟨fun W hW => stat_calls hW (by omega) e.hn e.hg⟩
 have HN := Aside0.mk hn
 have HND := Aside0.mk nd
 have HB := Aside0.mk hB
 have HJ := Aside0.mk (Rj.start h m.clk e)
 rw [hr] at CR
 clear hn nd hB h hr hk ho he
 have hcb := fun i => blk_cell HJ.out.b i
 have hce := fun i => blk_cell HJ.out.e_ i
 have hlb := blk_lt HJ.out.b
 have hle := blk_lt HJ.out.e_
 have hlr := (by obtain ⟨_, _, q⟩ := HJ.out.r; exact blk_lt q : w.heap.size + 1 + 1 < _)
 obtain ⟨sv, hsv⟩ : ∃ sv, statR m.L e.h = sv := ⟨_, rfl⟩
 try rw [hsv] at CS
 try rw [hsv] at qs
 clear hsv
 go_enter Try.func45, Try.ntmps45
 go_upto_region 14 with (first | (go_at_call 62; (with_reducible refine (CR.out _).mono ?_); rintro r w2 ⟨rfl, hb⟩; have HJ2 := Aside0.mk (HJ.out.step hb); clear hb hcb hce hlb hle hlr HJ; have HJ := HJ2; clear HJ2; have hcb := fun i => blk_cell HJ.out.b i; have hce := fun i => blk_cell HJ.out.e_ i; have hlb := blk_lt HJ.out.b; have hle := blk_lt HJ.out.e_; have hlr := (by obtain ⟨_, _, q⟩ := HJ.out.r; exact blk_lt q : w.heap.size + 1 + 1 < _)) | (go_at_call 35; (with_reducible refine (CS.out _ HJ.out.kr).mono ?_); rintro r w3 ⟨rfl, hb⟩; have HJ2 := Aside0.mk (HJ.out.step hb); clear hb hcb hce hlb hle hlr HJ; have HJ := HJ2; clear HJ2; have hcb := fun i => blk_cell HJ.out.b i; have hce := fun i => blk_cell HJ.out.e_ i; have hlb := blk_lt HJ.out.b; have hle := blk_lt HJ.out.e_; have hlr := (by obtain ⟨_, _, q⟩ := HJ.out.r; exact blk_lt q : w.heap.size + 1 + 1 < _)))
 go_upto_region 15 with (fail)
 obtain ⟨nb, hnb⟩ : ∃ nb, w3.heap.size = nb := ⟨_, rfl⟩
 refine gen_world' (fun W => Nj B w W m.clk (.slice A m.L.length c) m.L e nb (.slice A m.L.length c) m.L) (by rw [← hnb]; exact Nj.start HJ.out) fun w4 H4 => ?_
 have HN4 := Aside0.mk H4
 have HJ4 := Aside0.mk H4.rj
 clear H4 HJ
 clear hcb hce hlb hle hlr
 have hcb := fun i => blk_cell HJ4.out.b i
 have hce := fun i => blk_cell HJ4.out.e_ i
 have hlb := blk_lt HJ4.out.b
 have hle := blk_lt HJ4.out.e_
 have hlr := (by obtain ⟨_, _, q⟩ := HJ4.out.r; exact blk_lt q : w.heap.size + 1 + 1 < _)
 have hcn := fun i => blk_cell HN4.out.nb_ i
 have hln := blk_lt HN4.out.nb_
 have hfn := fun i => blk_frozen HN4.out.nb_ i
 go_upto_region 38 with (fail)
 obtain ⟨rs, hrs, hrr⟩ := HN4.out.rj.r
 obtain ⟨x0, x1, rfl⟩ : ∃ x0 x1, rs = #[x0, x1] := by rcases rs with ⟨_ | ⟨x0, _ | ⟨x1, _ | _⟩⟩⟩ <;> simp at hrs; exact ⟨_, _, rfl⟩
 have hcr := fun i => blk_cell hrr i
 have hfr := fun i => blk_frozen hrr i
 clear hrs
 go_wp2
 have HE := Aside0.mk (show KR _ B (.slice A m.L.length c) m.L from KR.keep (KR.keep HN4.out.kn (W1 := World.setCell _ ⟨w.heap.size + 1 + 1, 0, none⟩ (.int .i64 m.clk)) fun g cs hg => Below.heap_setCell _ _ _ _ (types_ne hg hrr (by decide))) (W1 := World.setCell (World.setCell _ ⟨w.heap.size + 1 + 1, 0, none⟩ (.int .i64 m.clk)) ⟨w.heap.size + 1 + 1, 1, none⟩ (.slice A m.L.length c)) fun g cs hg => Below.heap_setCell _ _ _ _ (types_ne hg (blk_put hrr 0 _ rfl) (by decide)))
 have HBL := Aside0.mk (below_set (g := w.heap.size + 1 + 1) (j := 1) (v := .slice A m.L.length c) (below_set (g := w.heap.size + 1 + 1) (j := 0) (v := .int .i64 m.clk) HN4.out.rj.below (by omega)) (by omega))
 unfold RdPost
 rw [HF.out]
 exact bodyPost_ret (v := .tuple #[.agg #[.int .i64 m.clk, .slice A m.L.length c], .int .i64 0]) (by simp [results, Try.results45, asAddr, go_sem, hu0, hcr, hlr]) rfl ⟨_, rfl, HE.out, HBL.out⟩
theorem rdo_rearm_else {w : World} {B : Nat} (m : Rm) (v : Value) (e : Au.Ev) (hn : m.L.length ≤ 90000) (nd : (m.L.map S127.h).Nodup) (hB : B ≤ w.heap.size) (h : KR w B v m.L) (hr : rightJ e = true) (hk : e.k = 3) (ho : e.op = 3) (he : ¬ e.er = 0) (he4 : ¬ e.er = 4) :
  Calls Try.prog 45 #[.agg #[.int .i64 m.clk, v], .agg (evA e)] w (RdPost B w (rdoF m e)) := by
 have hu0 := Try.underlying43
 have hu1 := Try.underlying36
 have hu2 := Try.underlying50
 have hu3 := Try.underlying127
 have HF := Aside0.mk (show rdoF m e = (m, 0) by unfold rdoF; rw [if_neg (by rw [hr]; simp; omega), if_neg (by omega), if_neg (by omega)]; unfold rpF; rw [if_neg (by omega), if_neg (by omega), if_pos ho, if_neg he4, if_neg he])
 have qk1 : (e.k == 1) = false := beq_eq_false_iff_ne.2 (by omega)
 have qk2 : (e.k == 2) = false := beq_eq_false_iff_ne.2 (by omega)
 have qk4 : (e.k == 4) = false := beq_eq_false_iff_ne.2 (by omega)
 have qk5 : (e.k == 5) = false := beq_eq_false_iff_ne.2 (by omega)
 have qp1 : (e.op == 1) = false := beq_eq_false_iff_ne.2 (by omega)
 have qp2 : (e.op == 2) = false := beq_eq_false_iff_ne.2 (by omega)
 have qp3 : (e.op == 3) = true := beq_iff_eq.2 (ho)
 have qp4 : (e.op == 4) = false := beq_eq_false_iff_ne.2 (by omega)
 have qr0 : (e.er == 0) = false := beq_eq_false_iff_ne.2 (he)
 have qr4 : (e.er == 4) = false := beq_eq_false_iff_ne.2 (he4)
 obtain ⟨A, c, rfl⟩ := Kd.R_slice h
 have CR := Aside0.mk (fun W => rright_run e W)
 have CS : Aside0 (∀ W, KR W B (.slice A m.L.length c) m.L → Calls Try.prog 35 #[.agg #[.int .i64 m.clk, .slice A m.L.length c], .agg #[.int .i64 e.hn, .int .i64 e.hg]] W fun r w' => r = .returned (.int .i64 (statR m.L e.h)) ∧ Below W.heap.size W w') := ⟨fun W hW => stat_calls hW (by omega) e.hn e.hg⟩
 have HN := Aside0.mk hn
 have HND := Aside0.mk nd
 have HB := Aside0.mk hB
 have HJ := Aside0.mk (Rj.start h m.clk e)
 rw [hr] at CR
 clear hn nd hB h hr hk ho he he4
 have hcb := fun i => blk_cell HJ.out.b i
 have hce := fun i => blk_cell HJ.out.e_ i
 have hlb := blk_lt HJ.out.b
 have hle := blk_lt HJ.out.e_
 have hlr := (by obtain ⟨_, _, q⟩ := HJ.out.r; exact blk_lt q : w.heap.size + 1 + 1 < _)
 obtain ⟨sv, hsv⟩ : ∃ sv, statR m.L e.h = sv := ⟨_, rfl⟩
 try rw [hsv] at CS
 try rw [hsv] at qs
 clear hsv
 go_enter Try.func45, Try.ntmps45
 go_upto_region 14 with (first | (go_at_call 62; (with_reducible refine (CR.out _).mono ?_); rintro r w2 ⟨rfl, hb⟩; have HJ2 := Aside0.mk (HJ.out.step hb); clear hb hcb hce hlb hle hlr HJ; have HJ := HJ2; clear HJ2; have hcb := fun i => blk_cell HJ.out.b i; have hce := fun i => blk_cell HJ.out.e_ i; have hlb := blk_lt HJ.out.b; have hle := blk_lt HJ.out.e_; have hlr := (by obtain ⟨_, _, q⟩ := HJ.out.r; exact blk_lt q : w.heap.size + 1 + 1 < _)) | (go_at_call 35; (with_reducible refine (CS.out _ HJ.out.kr).mono ?_); rintro r w3 ⟨rfl, hb⟩; have HJ2 := Aside0.mk (HJ.out.step hb); clear hb hcb hce hlb hle hlr HJ; have HJ := HJ2; clear HJ2; have hcb := fun i => blk_cell HJ.out.b i; have hce := fun i => blk_cell HJ.out.e_ i; have hlb := blk_lt HJ.out.b; have hle := blk_lt HJ.out.e_; have hlr := (by obtain ⟨_, _, q⟩ := HJ.out.r; exact blk_lt q : w.heap.size + 1 + 1 < _)))
 go_upto_region 15 with (fail)
 obtain ⟨nb, hnb⟩ : ∃ nb, w3.heap.size = nb := ⟨_, rfl⟩
 refine gen_world' (fun W => Nj B w W m.clk (.slice A m.L.length c) m.L e nb (.slice A m.L.length c) m.L) (by rw [← hnb]; exact Nj.start HJ.out) fun w4 H4 => ?_
 have HN4 := Aside0.mk H4
 have HJ4 := Aside0.mk H4.rj
 clear H4 HJ
 clear hcb hce hlb hle hlr
 have hcb := fun i => blk_cell HJ4.out.b i
 have hce := fun i => blk_cell HJ4.out.e_ i
 have hlb := blk_lt HJ4.out.b
 have hle := blk_lt HJ4.out.e_
 have hlr := (by obtain ⟨_, _, q⟩ := HJ4.out.r; exact blk_lt q : w.heap.size + 1 + 1 < _)
 have hcn := fun i => blk_cell HN4.out.nb_ i
 have hln := blk_lt HN4.out.nb_
 have hfn := fun i => blk_frozen HN4.out.nb_ i
 go_upto_region 38 with (fail)
 obtain ⟨rs, hrs, hrr⟩ := HN4.out.rj.r
 obtain ⟨x0, x1, rfl⟩ : ∃ x0 x1, rs = #[x0, x1] := by rcases rs with ⟨_ | ⟨x0, _ | ⟨x1, _ | _⟩⟩⟩ <;> simp at hrs; exact ⟨_, _, rfl⟩
 have hcr := fun i => blk_cell hrr i
 have hfr := fun i => blk_frozen hrr i
 clear hrs
 go_wp2
 have HE := Aside0.mk (show KR _ B (.slice A m.L.length c) m.L from KR.keep (KR.keep HN4.out.kn (W1 := World.setCell _ ⟨w.heap.size + 1 + 1, 0, none⟩ (.int .i64 m.clk)) fun g cs hg => Below.heap_setCell _ _ _ _ (types_ne hg hrr (by decide))) (W1 := World.setCell (World.setCell _ ⟨w.heap.size + 1 + 1, 0, none⟩ (.int .i64 m.clk)) ⟨w.heap.size + 1 + 1, 1, none⟩ (.slice A m.L.length c)) fun g cs hg => Below.heap_setCell _ _ _ _ (types_ne hg (blk_put hrr 0 _ rfl) (by decide)))
 have HBL := Aside0.mk (below_set (g := w.heap.size + 1 + 1) (j := 1) (v := .slice A m.L.length c) (below_set (g := w.heap.size + 1 + 1) (j := 0) (v := .int .i64 m.clk) HN4.out.rj.below (by omega)) (by omega))
 unfold RdPost
 rw [HF.out]
 exact bodyPost_ret (v := .tuple #[.agg #[.int .i64 m.clk, .slice A m.L.length c], .int .i64 0]) (by simp [results, Try.results45, asAddr, go_sem, hu0, hcr, hlr]) rfl ⟨_, rfl, HE.out, HBL.out⟩
theorem rdo_rearm_stale_no {w : World} {B : Nat} (m : Rm) (v : Value) (e : Au.Ev) (hn : m.L.length ≤ 90000) (nd : (m.L.map S127.h).Nodup) (hB : B ≤ w.heap.size) (h : KR w B v m.L) (hr : rightJ e = true) (hk : e.k = 3) (ho : e.op = 3) (he : e.er = 4) (ha : statR m.L e.h = 1) :
  Calls Try.prog 45 #[.agg #[.int .i64 m.clk, v], .agg (evA e)] w (RdPost B w (rdoF m e)) := by
 have hu0 := Try.underlying43
 have hu1 := Try.underlying36
 have hu2 := Try.underlying50
 have hu3 := Try.underlying127
 have HF := Aside0.mk (show rdoF m e = (m, 6) by unfold rdoF; rw [if_neg (by rw [hr]; simp; omega), if_neg (by omega), if_neg (by omega)]; unfold rpF; rw [if_neg (by omega), if_neg (by omega), if_pos ho, if_pos he, if_pos ha])
 have qk1 : (e.k == 1) = false := beq_eq_false_iff_ne.2 (by omega)
 have qk2 : (e.k == 2) = false := beq_eq_false_iff_ne.2 (by omega)
 have qk4 : (e.k == 4) = false := beq_eq_false_iff_ne.2 (by omega)
 have qk5 : (e.k == 5) = false := beq_eq_false_iff_ne.2 (by omega)
 have qp1 : (e.op == 1) = false := beq_eq_false_iff_ne.2 (by omega)
 have qp2 : (e.op == 2) = false := beq_eq_false_iff_ne.2 (by omega)
 have qp3 : (e.op == 3) = true := beq_iff_eq.2 (ho)
 have qp4 : (e.op == 4) = false := beq_eq_false_iff_ne.2 (by omega)
 have qr0 : (e.er == 0) = false := beq_eq_false_iff_ne.2 (by omega)
 have qr4 : (e.er == 4) = true := beq_iff_eq.2 (he)
 have qs : (statR m.L e.h == 1) = true := beq_iff_eq.2 (ha)
 obtain ⟨A, c, rfl⟩ := Kd.R_slice h
 have CR := Aside0.mk (fun W => rright_run e W)
 have CS : Aside0 (∀ W, KR W B (.slice A m.L.length c) m.L → Calls Try.prog 35 #[.agg #[.int .i64 m.clk, .slice A m.L.length c], .agg #[.int .i64 e.hn, .int .i64 e.hg]] W fun r w' => r = .returned (.int .i64 (statR m.L e.h)) ∧ Below W.heap.size W w') := ⟨fun W hW => stat_calls hW (by omega) e.hn e.hg⟩
 have HN := Aside0.mk hn
 have HND := Aside0.mk nd
 have HB := Aside0.mk hB
 have HJ := Aside0.mk (Rj.start h m.clk e)
 rw [hr] at CR
 clear hn nd hB h hr hk ho he ha
 have hcb := fun i => blk_cell HJ.out.b i
 have hce := fun i => blk_cell HJ.out.e_ i
 have hlb := blk_lt HJ.out.b
 have hle := blk_lt HJ.out.e_
 have hlr := (by obtain ⟨_, _, q⟩ := HJ.out.r; exact blk_lt q : w.heap.size + 1 + 1 < _)
 obtain ⟨sv, hsv⟩ : ∃ sv, statR m.L e.h = sv := ⟨_, rfl⟩
 try rw [hsv] at CS
 try rw [hsv] at qs
 clear hsv
 go_enter Try.func45, Try.ntmps45
 go_upto_region 14 with (first | (go_at_call 62; (with_reducible refine (CR.out _).mono ?_); rintro r w2 ⟨rfl, hb⟩; have HJ2 := Aside0.mk (HJ.out.step hb); clear hb hcb hce hlb hle hlr HJ; have HJ := HJ2; clear HJ2; have hcb := fun i => blk_cell HJ.out.b i; have hce := fun i => blk_cell HJ.out.e_ i; have hlb := blk_lt HJ.out.b; have hle := blk_lt HJ.out.e_; have hlr := (by obtain ⟨_, _, q⟩ := HJ.out.r; exact blk_lt q : w.heap.size + 1 + 1 < _)) | (go_at_call 35; (with_reducible refine (CS.out _ HJ.out.kr).mono ?_); rintro r w3 ⟨rfl, hb⟩; have HJ2 := Aside0.mk (HJ.out.step hb); clear hb hcb hce hlb hle hlr HJ; have HJ := HJ2; clear HJ2; have hcb := fun i => blk_cell HJ.out.b i; have hce := fun i => blk_cell HJ.out.e_ i; have hlb := blk_lt HJ.out.b; have hle := blk_lt HJ.out.e_; have hlr := (by obtain ⟨_, _, q⟩ := HJ.out.r; exact blk_lt q : w.heap.size + 1 + 1 < _)))
 go_upto_region 15 with (fail)
 obtain ⟨nb, hnb⟩ : ∃ nb, w3.heap.size = nb := ⟨_, rfl⟩
 refine gen_world' (fun W => Nj B w W m.clk (.slice A m.L.length c) m.L e nb (.slice A m.L.length c) m.L) (by rw [← hnb]; exact Nj.start HJ.out) fun w4 H4 => ?_
 have HN4 := Aside0.mk H4
 have HJ4 := Aside0.mk H4.rj
 clear H4 HJ
 clear hcb hce hlb hle hlr
 have hcb := fun i => blk_cell HJ4.out.b i
 have hce := fun i => blk_cell HJ4.out.e_ i
 have hlb := blk_lt HJ4.out.b
 have hle := blk_lt HJ4.out.e_
 have hlr := (by obtain ⟨_, _, q⟩ := HJ4.out.r; exact blk_lt q : w.heap.size + 1 + 1 < _)
 have hcn := fun i => blk_cell HN4.out.nb_ i
 have hln := blk_lt HN4.out.nb_
 have hfn := fun i => blk_frozen HN4.out.nb_ i
 go_upto_region 37 with (fail)
 obtain ⟨rs, hrs, hrr⟩ := HJ4.out.r
 obtain ⟨x0, x1, rfl⟩ : ∃ x0 x1, rs = #[x0, x1] := by rcases rs with ⟨_ | ⟨x0, _ | ⟨x1, _ | _⟩⟩⟩ <;> simp at hrs; exact ⟨_, _, rfl⟩
 have hcr := fun i => blk_cell hrr i
 have hfr := fun i => blk_frozen hrr i
 clear hrs
 go_wp2
 have HE := Aside0.mk (show KR _ B (.slice A m.L.length c) m.L from KR.keep (KR.keep HJ4.out.kr (W1 := World.setCell _ ⟨w.heap.size + 1 + 1, 0, none⟩ (.int .i64 m.clk)) fun g cs hg => Below.heap_setCell _ _ _ _ (types_ne hg hrr (by decide))) (W1 := World.setCell (World.setCell _ ⟨w.heap.size + 1 + 1, 0, none⟩ (.int .i64 m.clk)) ⟨w.heap.size + 1 + 1, 1, none⟩ (.slice A m.L.length c)) fun g cs hg => Below.heap_setCell _ _ _ _ (types_ne hg (blk_put hrr 0 _ rfl) (by decide)))
 have HBL := Aside0.mk (below_set (g := w.heap.size + 1 + 1) (j := 1) (v := .slice A m.L.length c) (below_set (g := w.heap.size + 1 + 1) (j := 0) (v := .int .i64 m.clk) HJ4.out.below (by omega)) (by omega))
 unfold RdPost
 rw [HF.out]
 exact bodyPost_ret (v := .tuple #[.agg #[.int .i64 m.clk, .slice A m.L.length c], .int .i64 6]) (by simp [results, Try.results45, asAddr, go_sem, hu0, hcr, hlr]) rfl ⟨_, rfl, HE.out, HBL.out⟩
theorem rdo_rearm_stale {w : World} {B : Nat} (m : Rm) (v : Value) (e : Au.Ev) (hn : m.L.length ≤ 90000) (nd : (m.L.map S127.h).Nodup) (hB : B ≤ w.heap.size) (h : KR w B v m.L) (hr : rightJ e = true) (hk : e.k = 3) (ho : e.op = 3) (he : e.er = 4) (ha : ¬ statR m.L e.h = 1) :
  Calls Try.prog 45 #[.agg #[.int .i64 m.clk, v], .agg (evA e)] w (RdPost B w (rdoF m e)) := by
 have hu0 := Try.underlying43
 have hu1 := Try.underlying36
 have hu2 := Try.underlying50
 have hu3 := Try.underlying127
 have HF := Aside0.mk (show rdoF m e = (m, 0) by unfold rdoF; rw [if_neg (by rw [hr]; simp; omega), if_neg (by omega), if_neg (by omega)]; unfold rpF; rw [if_neg (by omega), if_neg (by omega), if_pos ho, if_pos he, if_neg ha])
 have qk1 : (e.k == 1) = false := beq_eq_false_iff_ne.2 (by omega)
 have qk2 : (e.k == 2) = false := beq_eq_false_iff_ne.2 (by omega)
 have qk4 : (e.k == 4) = false := beq_eq_false_iff_ne.2 (by omega)
 have qk5 : (e.k == 5) = false := beq_eq_false_iff_ne.2 (by omega)
 have qp1 : (e.op == 1) = false := beq_eq_false_iff_ne.2 (by omega)
 have qp2 : (e.op == 2) = false := beq_eq_false_iff_ne.2 (by omega)
 have qp3 : (e.op == 3) = true := beq_iff_eq.2 (ho)
 have qp4 : (e.op == 4) = false := beq_eq_false_iff_ne.2 (by omega)
 have qr0 : (e.er == 0) = false := beq_eq_false_iff_ne.2 (by omega)
 have qr4 : (e.er == 4) = true := beq_iff_eq.2 (he)
 have qs : (statR m.L e.h == 1) = false := beq_eq_false_iff_ne.2 (ha)
 obtain ⟨A, c, rfl⟩ := Kd.R_slice h
 have CR := Aside0.mk (fun W => rright_run e W)
 have CS : Aside0 (∀ W, KR W B (.slice A m.L.length c) m.L → Calls Try.prog 35 #[.agg #[.int .i64 m.clk, .slice A m.L.length c], .agg #[.int .i64 e.hn, .int .i64 e.hg]] W fun r w' => r = .returned (.int .i64 (statR m.L e.h)) ∧ Below W.heap.size W w') := ⟨fun W hW => stat_calls hW (by omega) e.hn e.hg⟩
 have HN := Aside0.mk hn
 have HND := Aside0.mk nd
 have HB := Aside0.mk hB
 have HJ := Aside0.mk (Rj.start h m.clk e)
 rw [hr] at CR
 clear hn nd hB h hr hk ho he ha
 have hcb := fun i => blk_cell HJ.out.b i
 have hce := fun i => blk_cell HJ.out.e_ i
 have hlb := blk_lt HJ.out.b
 have hle := blk_lt HJ.out.e_
 have hlr := (by obtain ⟨_, _, q⟩ := HJ.out.r; exact blk_lt q : w.heap.size + 1 + 1 < _)
 obtain ⟨sv, hsv⟩ : ∃ sv, statR m.L e.h = sv := ⟨_, rfl⟩
 try rw [hsv] at CS
 try rw [hsv] at qs
 clear hsv
 go_enter Try.func45, Try.ntmps45
 go_upto_region 14 with (first | (go_at_call 62; (with_reducible refine (CR.out _).mono ?_); rintro r w2 ⟨rfl, hb⟩; have HJ2 := Aside0.mk (HJ.out.step hb); clear hb hcb hce hlb hle hlr HJ; have HJ := HJ2; clear HJ2; have hcb := fun i => blk_cell HJ.out.b i; have hce := fun i => blk_cell HJ.out.e_ i; have hlb := blk_lt HJ.out.b; have hle := blk_lt HJ.out.e_; have hlr := (by obtain ⟨_, _, q⟩ := HJ.out.r; exact blk_lt q : w.heap.size + 1 + 1 < _)) | (go_at_call 35; (with_reducible refine (CS.out _ HJ.out.kr).mono ?_); rintro r w3 ⟨rfl, hb⟩; have HJ2 := Aside0.mk (HJ.out.step hb); clear hb hcb hce hlb hle hlr HJ; have HJ := HJ2; clear HJ2; have hcb := fun i => blk_cell HJ.out.b i; have hce := fun i => blk_cell HJ.out.e_ i; have hlb := blk_lt HJ.out.b; have hle := blk_lt HJ.out.e_; have hlr := (by obtain ⟨_, _, q⟩ := HJ.out.r; exact blk_lt q : w.heap.size + 1 + 1 < _)))
 go_upto_region 15 with (fail)
 obtain ⟨nb, hnb⟩ : ∃ nb, w3.heap.size = nb := ⟨_, rfl⟩
 refine gen_world' (fun W => Nj B w W m.clk (.slice A m.L.length c) m.L e nb (.slice A m.L.length c) m.L) (by rw [← hnb]; exact Nj.start HJ.out) fun w4 H4 => ?_
 have HN4 := Aside0.mk H4
 have HJ4 := Aside0.mk H4.rj
 clear H4 HJ
 clear hcb hce hlb hle hlr
 have hcb := fun i => blk_cell HJ4.out.b i
 have hce := fun i => blk_cell HJ4.out.e_ i
 have hlb := blk_lt HJ4.out.b
 have hle := blk_lt HJ4.out.e_
 have hlr := (by obtain ⟨_, _, q⟩ := HJ4.out.r; exact blk_lt q : w.heap.size + 1 + 1 < _)
 have hcn := fun i => blk_cell HN4.out.nb_ i
 have hln := blk_lt HN4.out.nb_
 have hfn := fun i => blk_frozen HN4.out.nb_ i
 go_upto_region 38 with (fail)
 obtain ⟨rs, hrs, hrr⟩ := HN4.out.rj.r
 obtain ⟨x0, x1, rfl⟩ : ∃ x0 x1, rs = #[x0, x1] := by rcases rs with ⟨_ | ⟨x0, _ | ⟨x1, _ | _⟩⟩⟩ <;> simp at hrs; exact ⟨_, _, rfl⟩
 have hcr := fun i => blk_cell hrr i
 have hfr := fun i => blk_frozen hrr i
 clear hrs
 go_wp2
 have HE := Aside0.mk (show KR _ B (.slice A m.L.length c) m.L from KR.keep (KR.keep HN4.out.kn (W1 := World.setCell _ ⟨w.heap.size + 1 + 1, 0, none⟩ (.int .i64 m.clk)) fun g cs hg => Below.heap_setCell _ _ _ _ (types_ne hg hrr (by decide))) (W1 := World.setCell (World.setCell _ ⟨w.heap.size + 1 + 1, 0, none⟩ (.int .i64 m.clk)) ⟨w.heap.size + 1 + 1, 1, none⟩ (.slice A m.L.length c)) fun g cs hg => Below.heap_setCell _ _ _ _ (types_ne hg (blk_put hrr 0 _ rfl) (by decide)))
 have HBL := Aside0.mk (below_set (g := w.heap.size + 1 + 1) (j := 1) (v := .slice A m.L.length c) (below_set (g := w.heap.size + 1 + 1) (j := 0) (v := .int .i64 m.clk) HN4.out.rj.below (by omega)) (by omega))
 unfold RdPost
 rw [HF.out]
 exact bodyPost_ret (v := .tuple #[.agg #[.int .i64 m.clk, .slice A m.L.length c], .int .i64 0]) (by simp [results, Try.results45, asAddr, go_sem, hu0, hcr, hlr]) rfl ⟨_, rfl, HE.out, HBL.out⟩
theorem rdo_migrate_else {w : World} {B : Nat} (m : Rm) (v : Value) (e : Au.Ev) (hn : m.L.length ≤ 90000) (nd : (m.L.map S127.h).Nodup) (hB : B ≤ w.heap.size) (h : KR w B v m.L) (hr : rightJ e = true) (hk : e.k = 3) (ho : e.op = 4) (he : ¬ e.er = 0) (he4 : ¬ e.er = 4) :
  Calls Try.prog 45 #[.agg #[.int .i64 m.clk, v], .agg (evA e)] w (RdPost B w (rdoF m e)) := by
 have hu0 := Try.underlying43
 have hu1 := Try.underlying36
 have hu2 := Try.underlying50
 have hu3 := Try.underlying127
 have HF := Aside0.mk (show rdoF m e = (m, 0) by unfold rdoF; rw [if_neg (by rw [hr]; simp; omega), if_neg (by omega), if_neg (by omega)]; unfold rpF; rw [if_neg (by omega), if_neg (by omega), if_neg (by omega), if_neg he4, if_neg he])
 have qk1 : (e.k == 1) = false := beq_eq_false_iff_ne.2 (by omega)
 have qk2 : (e.k == 2) = false := beq_eq_false_iff_ne.2 (by omega)
 have qk4 : (e.k == 4) = false := beq_eq_false_iff_ne.2 (by omega)
 have qk5 : (e.k == 5) = false := beq_eq_false_iff_ne.2 (by omega)
 have qp1 : (e.op == 1) = false := beq_eq_false_iff_ne.2 (by omega)
 have qp2 : (e.op == 2) = false := beq_eq_false_iff_ne.2 (by omega)
 have qp3 : (e.op == 3) = false := beq_eq_false_iff_ne.2 (by omega)
 have qp4 : (e.op == 4) = true := beq_iff_eq.2 (ho)
 have qr0 : (e.er == 0) = false := beq_eq_false_iff_ne.2 (he)
 have qr4 : (e.er == 4) = false := beq_eq_false_iff_ne.2 (he4)
 obtain ⟨A, c, rfl⟩ := Kd.R_slice h
 have CR := Aside0.mk (fun W => rright_run e W)
 have CS : Aside0 (∀ W, KR W B (.slice A m.L.length c) m.L → Calls Try.prog 35 #[.agg #[.int .i64 m.clk, .slice A m.L.length c], .agg #[.int .i64 e.hn, .int .i64 e.hg]] W fun r w' => r = .returned (.int .i64 (statR m.L e.h)) ∧ Below W.heap.size W w') := ⟨fun W hW => stat_calls hW (by omega) e.hn e.hg⟩
 have HN := Aside0.mk hn
 have HND := Aside0.mk nd
 have HB := Aside0.mk hB
 have HJ := Aside0.mk (Rj.start h m.clk e)
 rw [hr] at CR
 clear hn nd hB h hr hk ho he he4
 have hcb := fun i => blk_cell HJ.out.b i
 have hce := fun i => blk_cell HJ.out.e_ i
 have hlb := blk_lt HJ.out.b
 have hle := blk_lt HJ.out.e_
 have hlr := (by obtain ⟨_, _, q⟩ := HJ.out.r; exact blk_lt q : w.heap.size + 1 + 1 < _)
 obtain ⟨sv, hsv⟩ : ∃ sv, statR m.L e.h = sv := ⟨_, rfl⟩
 try rw [hsv] at CS
 try rw [hsv] at qs
 clear hsv
 go_enter Try.func45, Try.ntmps45
 go_upto_region 14 with (first | (go_at_call 62; (with_reducible refine (CR.out _).mono ?_); rintro r w2 ⟨rfl, hb⟩; have HJ2 := Aside0.mk (HJ.out.step hb); clear hb hcb hce hlb hle hlr HJ; have HJ := HJ2; clear HJ2; have hcb := fun i => blk_cell HJ.out.b i; have hce := fun i => blk_cell HJ.out.e_ i; have hlb := blk_lt HJ.out.b; have hle := blk_lt HJ.out.e_; have hlr := (by obtain ⟨_, _, q⟩ := HJ.out.r; exact blk_lt q : w.heap.size + 1 + 1 < _)) | (go_at_call 35; (with_reducible refine (CS.out _ HJ.out.kr).mono ?_); rintro r w3 ⟨rfl, hb⟩; have HJ2 := Aside0.mk (HJ.out.step hb); clear hb hcb hce hlb hle hlr HJ; have HJ := HJ2; clear HJ2; have hcb := fun i => blk_cell HJ.out.b i; have hce := fun i => blk_cell HJ.out.e_ i; have hlb := blk_lt HJ.out.b; have hle := blk_lt HJ.out.e_; have hlr := (by obtain ⟨_, _, q⟩ := HJ.out.r; exact blk_lt q : w.heap.size + 1 + 1 < _)))
 go_upto_region 15 with (fail)
 obtain ⟨nb, hnb⟩ : ∃ nb, w3.heap.size = nb := ⟨_, rfl⟩
 refine gen_world' (fun W => Nj B w W m.clk (.slice A m.L.length c) m.L e nb (.slice A m.L.length c) m.L) (by rw [← hnb]; exact Nj.start HJ.out) fun w4 H4 => ?_
 have HN4 := Aside0.mk H4
 have HJ4 := Aside0.mk H4.rj
 clear H4 HJ
 clear hcb hce hlb hle hlr
 have hcb := fun i => blk_cell HJ4.out.b i
 have hce := fun i => blk_cell HJ4.out.e_ i
 have hlb := blk_lt HJ4.out.b
 have hle := blk_lt HJ4.out.e_
 have hlr := (by obtain ⟨_, _, q⟩ := HJ4.out.r; exact blk_lt q : w.heap.size + 1 + 1 < _)
 have hcn := fun i => blk_cell HN4.out.nb_ i
 have hln := blk_lt HN4.out.nb_
 have hfn := fun i => blk_frozen HN4.out.nb_ i
 go_upto_region 38 with (fail)
 obtain ⟨rs, hrs, hrr⟩ := HN4.out.rj.r
 obtain ⟨x0, x1, rfl⟩ : ∃ x0 x1, rs = #[x0, x1] := by rcases rs with ⟨_ | ⟨x0, _ | ⟨x1, _ | _⟩⟩⟩ <;> simp at hrs; exact ⟨_, _, rfl⟩
 have hcr := fun i => blk_cell hrr i
 have hfr := fun i => blk_frozen hrr i
 clear hrs
 go_wp2
 have HE := Aside0.mk (show KR _ B (.slice A m.L.length c) m.L from KR.keep (KR.keep HN4.out.kn (W1 := World.setCell _ ⟨w.heap.size + 1 + 1, 0, none⟩ (.int .i64 m.clk)) fun g cs hg => Below.heap_setCell _ _ _ _ (types_ne hg hrr (by decide))) (W1 := World.setCell (World.setCell _ ⟨w.heap.size + 1 + 1, 0, none⟩ (.int .i64 m.clk)) ⟨w.heap.size + 1 + 1, 1, none⟩ (.slice A m.L.length c)) fun g cs hg => Below.heap_setCell _ _ _ _ (types_ne hg (blk_put hrr 0 _ rfl) (by decide)))
 have HBL := Aside0.mk (below_set (g := w.heap.size + 1 + 1) (j := 1) (v := .slice A m.L.length c) (below_set (g := w.heap.size + 1 + 1) (j := 0) (v := .int .i64 m.clk) HN4.out.rj.below (by omega)) (by omega))
 unfold RdPost
 rw [HF.out]
 exact bodyPost_ret (v := .tuple #[.agg #[.int .i64 m.clk, .slice A m.L.length c], .int .i64 0]) (by simp [results, Try.results45, asAddr, go_sem, hu0, hcr, hlr]) rfl ⟨_, rfl, HE.out, HBL.out⟩
theorem rdo_migrate_stale_no {w : World} {B : Nat} (m : Rm) (v : Value) (e : Au.Ev) (hn : m.L.length ≤ 90000) (nd : (m.L.map S127.h).Nodup) (hB : B ≤ w.heap.size) (h : KR w B v m.L) (hr : rightJ e = true) (hk : e.k = 3) (ho : e.op = 4) (he : e.er = 4) (ha : statR m.L e.h = 1) :
  Calls Try.prog 45 #[.agg #[.int .i64 m.clk, v], .agg (evA e)] w (RdPost B w (rdoF m e)) := by
 have hu0 := Try.underlying43
 have hu1 := Try.underlying36
 have hu2 := Try.underlying50
 have hu3 := Try.underlying127
 have HF := Aside0.mk (show rdoF m e = (m, 6) by unfold rdoF; rw [if_neg (by rw [hr]; simp; omega), if_neg (by omega), if_neg (by omega)]; unfold rpF; rw [if_neg (by omega), if_neg (by omega), if_neg (by omega), if_pos he, if_pos ha])
 have qk1 : (e.k == 1) = false := beq_eq_false_iff_ne.2 (by omega)
 have qk2 : (e.k == 2) = false := beq_eq_false_iff_ne.2 (by omega)
 have qk4 : (e.k == 4) = false := beq_eq_false_iff_ne.2 (by omega)
 have qk5 : (e.k == 5) = false := beq_eq_false_iff_ne.2 (by omega)
 have qp1 : (e.op == 1) = false := beq_eq_false_iff_ne.2 (by omega)
 have qp2 : (e.op == 2) = false := beq_eq_false_iff_ne.2 (by omega)
 have qp3 : (e.op == 3) = false := beq_eq_false_iff_ne.2 (by omega)
 have qp4 : (e.op == 4) = true := beq_iff_eq.2 (ho)
 have qr0 : (e.er == 0) = false := beq_eq_false_iff_ne.2 (by omega)
 have qr4 : (e.er == 4) = true := beq_iff_eq.2 (he)
 have qs : (statR m.L e.h == 1) = true := beq_iff_eq.2 (ha)
 obtain ⟨A, c, rfl⟩ := Kd.R_slice h
 have CR := Aside0.mk (fun W => rright_run e W)
 have CS : Aside0 (∀ W, KR W B (.slice A m.L.length c) m.L → Calls Try.prog 35 #[.agg #[.int .i64 m.clk, .slice A m.L.length c], .agg #[.int .i64 e.hn, .int .i64 e.hg]] W fun r w' => r = .returned (.int .i64 (statR m.L e.h)) ∧ Below W.heap.size W w') := ⟨fun W hW => stat_calls hW (by omega) e.hn e.hg⟩
 have HN := Aside0.mk hn
 have HND := Aside0.mk nd
 have HB := Aside0.mk hB
 have HJ := Aside0.mk (Rj.start h m.clk e)
 rw [hr] at CR
 clear hn nd hB h hr hk ho he ha
 have hcb := fun i => blk_cell HJ.out.b i
 have hce := fun i => blk_cell HJ.out.e_ i
 have hlb := blk_lt HJ.out.b
 have hle := blk_lt HJ.out.e_
 have hlr := (by obtain ⟨_, _, q⟩ := HJ.out.r; exact blk_lt q : w.heap.size + 1 + 1 < _)
 obtain ⟨sv, hsv⟩ : ∃ sv, statR m.L e.h = sv := ⟨_, rfl⟩
 try rw [hsv] at CS
 try rw [hsv] at qs
 clear hsv
 go_enter Try.func45, Try.ntmps45
 go_upto_region 14 with (first | (go_at_call 62; (with_reducible refine (CR.out _).mono ?_); rintro r w2 ⟨rfl, hb⟩; have HJ2 := Aside0.mk (HJ.out.step hb); clear hb hcb hce hlb hle hlr HJ; have HJ := HJ2; clear HJ2; have hcb := fun i => blk_cell HJ.out.b i; have hce := fun i => blk_cell HJ.out.e_ i; have hlb := blk_lt HJ.out.b; have hle := blk_lt HJ.out.e_; have hlr := (by obtain ⟨_, _, q⟩ := HJ.out.r; exact blk_lt q : w.heap.size + 1 + 1 < _)) | (go_at_call 35; (with_reducible refine (CS.out _ HJ.out.kr).mono ?_); rintro r w3 ⟨rfl, hb⟩; have HJ2 := Aside0.mk (HJ.out.step hb); clear hb hcb hce hlb hle hlr HJ; have HJ := HJ2; clear HJ2; have hcb := fun i => blk_cell HJ.out.b i; have hce := fun i => blk_cell HJ.out.e_ i; have hlb := blk_lt HJ.out.b; have hle := blk_lt HJ.out.e_; have hlr := (by obtain ⟨_, _, q⟩ := HJ.out.r; exact blk_lt q : w.heap.size + 1 + 1 < _)))
 go_upto_region 15 with (fail)
 obtain ⟨nb, hnb⟩ : ∃ nb, w3.heap.size = nb := ⟨_, rfl⟩
 refine gen_world' (fun W => Nj B w W m.clk (.slice A m.L.length c) m.L e nb (.slice A m.L.length c) m.L) (by rw [← hnb]; exact Nj.start HJ.out) fun w4 H4 => ?_
 have HN4 := Aside0.mk H4
 have HJ4 := Aside0.mk H4.rj
 clear H4 HJ
 clear hcb hce hlb hle hlr
 have hcb := fun i => blk_cell HJ4.out.b i
 have hce := fun i => blk_cell HJ4.out.e_ i
 have hlb := blk_lt HJ4.out.b
 have hle := blk_lt HJ4.out.e_
 have hlr := (by obtain ⟨_, _, q⟩ := HJ4.out.r; exact blk_lt q : w.heap.size + 1 + 1 < _)
 have hcn := fun i => blk_cell HN4.out.nb_ i
 have hln := blk_lt HN4.out.nb_
 have hfn := fun i => blk_frozen HN4.out.nb_ i
 go_upto_region 37 with (fail)
 obtain ⟨rs, hrs, hrr⟩ := HJ4.out.r
 obtain ⟨x0, x1, rfl⟩ : ∃ x0 x1, rs = #[x0, x1] := by rcases rs with ⟨_ | ⟨x0, _ | ⟨x1, _ | _⟩⟩⟩ <;> simp at hrs; exact ⟨_, _, rfl⟩
 have hcr := fun i => blk_cell hrr i
 have hfr := fun i => blk_frozen hrr i
 clear hrs
 go_wp2
 have HE := Aside0.mk (show KR _ B (.slice A m.L.length c) m.L from KR.keep (KR.keep HJ4.out.kr (W1 := World.setCell _ ⟨w.heap.size + 1 + 1, 0, none⟩ (.int .i64 m.clk)) fun g cs hg => Below.heap_setCell _ _ _ _ (types_ne hg hrr (by decide))) (W1 := World.setCell (World.setCell _ ⟨w.heap.size + 1 + 1, 0, none⟩ (.int .i64 m.clk)) ⟨w.heap.size + 1 + 1, 1, none⟩ (.slice A m.L.length c)) fun g cs hg => Below.heap_setCell _ _ _ _ (types_ne hg (blk_put hrr 0 _ rfl) (by decide)))
 have HBL := Aside0.mk (below_set (g := w.heap.size + 1 + 1) (j := 1) (v := .slice A m.L.length c) (below_set (g := w.heap.size + 1 + 1) (j := 0) (v := .int .i64 m.clk) HJ4.out.below (by omega)) (by omega))
 unfold RdPost
 rw [HF.out]
 exact bodyPost_ret (v := .tuple #[.agg #[.int .i64 m.clk, .slice A m.L.length c], .int .i64 6]) (by simp [results, Try.results45, asAddr, go_sem, hu0, hcr, hlr]) rfl ⟨_, rfl, HE.out, HBL.out⟩
theorem rdo_migrate_stale {w : World} {B : Nat} (m : Rm) (v : Value) (e : Au.Ev) (hn : m.L.length ≤ 90000) (nd : (m.L.map S127.h).Nodup) (hB : B ≤ w.heap.size) (h : KR w B v m.L) (hr : rightJ e = true) (hk : e.k = 3) (ho : e.op = 4) (he : e.er = 4) (ha : ¬ statR m.L e.h = 1) :
  Calls Try.prog 45 #[.agg #[.int .i64 m.clk, v], .agg (evA e)] w (RdPost B w (rdoF m e)) := by
 have hu0 := Try.underlying43
 have hu1 := Try.underlying36
 have hu2 := Try.underlying50
 have hu3 := Try.underlying127
 have HF := Aside0.mk (show rdoF m e = (m, 0) by unfold rdoF; rw [if_neg (by rw [hr]; simp; omega), if_neg (by omega), if_neg (by omega)]; unfold rpF; rw [if_neg (by omega), if_neg (by omega), if_neg (by omega), if_pos he, if_neg ha])
 have qk1 : (e.k == 1) = false := beq_eq_false_iff_ne.2 (by omega)
 have qk2 : (e.k == 2) = false := beq_eq_false_iff_ne.2 (by omega)
 have qk4 : (e.k == 4) = false := beq_eq_false_iff_ne.2 (by omega)
 have qk5 : (e.k == 5) = false := beq_eq_false_iff_ne.2 (by omega)
 have qp1 : (e.op == 1) = false := beq_eq_false_iff_ne.2 (by omega)
 have qp2 : (e.op == 2) = false := beq_eq_false_iff_ne.2 (by omega)
 have qp3 : (e.op == 3) = false := beq_eq_false_iff_ne.2 (by omega)
 have qp4 : (e.op == 4) = true := beq_iff_eq.2 (ho)
 have qr0 : (e.er == 0) = false := beq_eq_false_iff_ne.2 (by omega)
 have qr4 : (e.er == 4) = true := beq_iff_eq.2 (he)
 have qs : (statR m.L e.h == 1) = false := beq_eq_false_iff_ne.2 (ha)
 obtain ⟨A, c, rfl⟩ := Kd.R_slice h
 have CR := Aside0.mk (fun W => rright_run e W)
 have CS : Aside0 (∀ W, KR W B (.slice A m.L.length c) m.L → Calls Try.prog 35 #[.agg #[.int .i64 m.clk, .slice A m.L.length c], .agg #[.int .i64 e.hn, .int .i64 e.hg]] W fun r w' => r = .returned (.int .i64 (statR m.L e.h)) ∧ Below W.heap.size W w') := ⟨fun W hW => stat_calls hW (by omega) e.hn e.hg⟩
 have HN := Aside0.mk hn
 have HND := Aside0.mk nd
 have HB := Aside0.mk hB
 have HJ := Aside0.mk (Rj.start h m.clk e)
 rw [hr] at CR
 clear hn nd hB h hr hk ho he ha
 have hcb := fun i => blk_cell HJ.out.b i
 have hce := fun i => blk_cell HJ.out.e_ i
 have hlb := blk_lt HJ.out.b
 have hle := blk_lt HJ.out.e_
 have hlr := (by obtain ⟨_, _, q⟩ := HJ.out.r; exact blk_lt q : w.heap.size + 1 + 1 < _)
 obtain ⟨sv, hsv⟩ : ∃ sv, statR m.L e.h = sv := ⟨_, rfl⟩
 try rw [hsv] at CS
 try rw [hsv] at qs
 clear hsv
 go_enter Try.func45, Try.ntmps45
 go_upto_region 14 with (first | (go_at_call 62; (with_reducible refine (CR.out _).mono ?_); rintro r w2 ⟨rfl, hb⟩; have HJ2 := Aside0.mk (HJ.out.step hb); clear hb hcb hce hlb hle hlr HJ; have HJ := HJ2; clear HJ2; have hcb := fun i => blk_cell HJ.out.b i; have hce := fun i => blk_cell HJ.out.e_ i; have hlb := blk_lt HJ.out.b; have hle := blk_lt HJ.out.e_; have hlr := (by obtain ⟨_, _, q⟩ := HJ.out.r; exact blk_lt q : w.heap.size + 1 + 1 < _)) | (go_at_call 35; (with_reducible refine (CS.out _ HJ.out.kr).mono ?_); rintro r w3 ⟨rfl, hb⟩; have HJ2 := Aside0.mk (HJ.out.step hb); clear hb hcb hce hlb hle hlr HJ; have HJ := HJ2; clear HJ2; have hcb := fun i => blk_cell HJ.out.b i; have hce := fun i => blk_cell HJ.out.e_ i; have hlb := blk_lt HJ.out.b; have hle := blk_lt HJ.out.e_; have hlr := (by obtain ⟨_, _, q⟩ := HJ.out.r; exact blk_lt q : w.heap.size + 1 + 1 < _)))
 go_upto_region 15 with (fail)
 obtain ⟨nb, hnb⟩ : ∃ nb, w3.heap.size = nb := ⟨_, rfl⟩
 refine gen_world' (fun W => Nj B w W m.clk (.slice A m.L.length c) m.L e nb (.slice A m.L.length c) m.L) (by rw [← hnb]; exact Nj.start HJ.out) fun w4 H4 => ?_
 have HN4 := Aside0.mk H4
 have HJ4 := Aside0.mk H4.rj
 clear H4 HJ
 clear hcb hce hlb hle hlr
 have hcb := fun i => blk_cell HJ4.out.b i
 have hce := fun i => blk_cell HJ4.out.e_ i
 have hlb := blk_lt HJ4.out.b
 have hle := blk_lt HJ4.out.e_
 have hlr := (by obtain ⟨_, _, q⟩ := HJ4.out.r; exact blk_lt q : w.heap.size + 1 + 1 < _)
 have hcn := fun i => blk_cell HN4.out.nb_ i
 have hln := blk_lt HN4.out.nb_
 have hfn := fun i => blk_frozen HN4.out.nb_ i
 go_upto_region 38 with (fail)
 obtain ⟨rs, hrs, hrr⟩ := HN4.out.rj.r
 obtain ⟨x0, x1, rfl⟩ : ∃ x0 x1, rs = #[x0, x1] := by rcases rs with ⟨_ | ⟨x0, _ | ⟨x1, _ | _⟩⟩⟩ <;> simp at hrs; exact ⟨_, _, rfl⟩
 have hcr := fun i => blk_cell hrr i
 have hfr := fun i => blk_frozen hrr i
 clear hrs
 go_wp2
 have HE := Aside0.mk (show KR _ B (.slice A m.L.length c) m.L from KR.keep (KR.keep HN4.out.kn (W1 := World.setCell _ ⟨w.heap.size + 1 + 1, 0, none⟩ (.int .i64 m.clk)) fun g cs hg => Below.heap_setCell _ _ _ _ (types_ne hg hrr (by decide))) (W1 := World.setCell (World.setCell _ ⟨w.heap.size + 1 + 1, 0, none⟩ (.int .i64 m.clk)) ⟨w.heap.size + 1 + 1, 1, none⟩ (.slice A m.L.length c)) fun g cs hg => Below.heap_setCell _ _ _ _ (types_ne hg (blk_put hrr 0 _ rfl) (by decide)))
 have HBL := Aside0.mk (below_set (g := w.heap.size + 1 + 1) (j := 1) (v := .slice A m.L.length c) (below_set (g := w.heap.size + 1 + 1) (j := 0) (v := .int .i64 m.clk) HN4.out.rj.below (by omega)) (by omega))
 unfold RdPost
 rw [HF.out]
 exact bodyPost_ret (v := .tuple #[.agg #[.int .i64 m.clk, .slice A m.L.length c], .int .i64 0]) (by simp [results, Try.results45, asAddr, go_sem, hu0, hcr, hlr]) rfl ⟨_, rfl, HE.out, HBL.out⟩
theorem rdo_migrate {w : World} {B : Nat} (m : Rm) (v : Value) (e : Au.Ev) (hn : m.L.length ≤ 90000) (nd : (m.L.map S127.h).Nodup) (hB : B ≤ w.heap.size) (h : KR w B v m.L) (hr : rightJ e = true) (hk : e.k = 3) (ho : e.op = 4) (he : e.er = 0) (ha : statR m.L e.h = 1) :
  Calls Try.prog 45 #[.agg #[.int .i64 m.clk, v], .agg (evA e)] w (RdPost B w (rdoF m e)) := by
 have hu0 := Try.underlying43
 have hu1 := Try.underlying36
 have hu2 := Try.underlying50
 have hu3 := Try.underlying127
 have HF := Aside0.mk (show rdoF m e = (m, 0) by unfold rdoF; rw [if_neg (by rw [hr]; simp; omega), if_neg (by omega), if_neg (by omega)]; unfold rpF; rw [if_neg (by omega), if_neg (by omega), if_neg (by omega), if_neg (by omega), if_pos he, if_pos ha])
 have qk1 : (e.k == 1) = false := beq_eq_false_iff_ne.2 (by omega)
 have qk2 : (e.k == 2) = false := beq_eq_false_iff_ne.2 (by omega)
 have qk4 : (e.k == 4) = false := beq_eq_false_iff_ne.2 (by omega)
 have qk5 : (e.k == 5) = false := beq_eq_false_iff_ne.2 (by omega)
 have qp1 : (e.op == 1) = false := beq_eq_false_iff_ne.2 (by omega)
 have qp2 : (e.op == 2) = false := beq_eq_false_iff_ne.2 (by omega)
 have qp3 : (e.op == 3) = false := beq_eq_false_iff_ne.2 (by omega)
 have qp4 : (e.op == 4) = true := beq_iff_eq.2 (ho)
 have qr0 : (e.er == 0) = true := beq_iff_eq.2 (he)
 have qr4 : (e.er == 4) = false := beq_eq_false_iff_ne.2 (by omega)
 have qs : (statR m.L e.h == 1) = true := beq_iff_eq.2 (ha)
 obtain ⟨A, c, rfl⟩ := Kd.R_slice h
 have CR := Aside0.mk (fun W => rright_run e W)
 have CS : Aside0 (∀ W, KR W B (.slice A m.L.length c) m.L → Calls Try.prog 35 #[.agg #[.int .i64 m.clk, .slice A m.L.length c], .agg #[.int .i64 e.hn, .int .i64 e.hg]] W fun r w' => r = .returned (.int .i64 (statR m.L e.h)) ∧ Below W.heap.size W w') := ⟨fun W hW => stat_calls hW (by omega) e.hn e.hg⟩
 have HN := Aside0.mk hn
 have HND := Aside0.mk nd
 have HB := Aside0.mk hB
 have HJ := Aside0.mk (Rj.start h m.clk e)
 rw [hr] at CR
 clear hn nd hB h hr hk ho he ha
 have hcb := fun i => blk_cell HJ.out.b i
 have hce := fun i => blk_cell HJ.out.e_ i
 have hlb := blk_lt HJ.out.b
 have hle := blk_lt HJ.out.e_
 have hlr := (by obtain ⟨_, _, q⟩ := HJ.out.r; exact blk_lt q : w.heap.size + 1 + 1 < _)
 obtain ⟨sv, hsv⟩ : ∃ sv, statR m.L e.h = sv := ⟨_, rfl⟩
 try rw [hsv] at CS
 try rw [hsv] at qs
 clear hsv
 go_enter Try.func45, Try.ntmps45
 go_upto_region 14 with (first | (go_at_call 62; (with_reducible refine (CR.out _).mono ?_); rintro r w2 ⟨rfl, hb⟩; have HJ2 := Aside0.mk (HJ.out.step hb); clear hb hcb hce hlb hle hlr HJ; have HJ := HJ2; clear HJ2; have hcb := fun i => blk_cell HJ.out.b i; have hce := fun i => blk_cell HJ.out.e_ i; have hlb := blk_lt HJ.out.b; have hle := blk_lt HJ.out.e_; have hlr := (by obtain ⟨_, _, q⟩ := HJ.out.r; exact blk_lt q : w.heap.size + 1 + 1 < _)) | (go_at_call 35; (with_reducible refine (CS.out _ HJ.out.kr).mono ?_); rintro r w3 ⟨rfl, hb⟩; have HJ2 := Aside0.mk (HJ.out.step hb); clear hb hcb hce hlb hle hlr HJ; have HJ := HJ2; clear HJ2; have hcb := fun i => blk_cell HJ.out.b i; have hce := fun i => blk_cell HJ.out.e_ i; have hlb := blk_lt HJ.out.b; have hle := blk_lt HJ.out.e_; have hlr := (by obtain ⟨_, _, q⟩ := HJ.out.r; exact blk_lt q : w.heap.size + 1 + 1 < _)))
 go_upto_region 15 with (fail)
 obtain ⟨nb, hnb⟩ : ∃ nb, w3.heap.size = nb := ⟨_, rfl⟩
 refine gen_world' (fun W => Nj B w W m.clk (.slice A m.L.length c) m.L e nb (.slice A m.L.length c) m.L) (by rw [← hnb]; exact Nj.start HJ.out) fun w4 H4 => ?_
 have HN4 := Aside0.mk H4
 have HJ4 := Aside0.mk H4.rj
 clear H4 HJ
 clear hcb hce hlb hle hlr
 have hcb := fun i => blk_cell HJ4.out.b i
 have hce := fun i => blk_cell HJ4.out.e_ i
 have hlb := blk_lt HJ4.out.b
 have hle := blk_lt HJ4.out.e_
 have hlr := (by obtain ⟨_, _, q⟩ := HJ4.out.r; exact blk_lt q : w.heap.size + 1 + 1 < _)
 have hcn := fun i => blk_cell HN4.out.nb_ i
 have hln := blk_lt HN4.out.nb_
 have hfn := fun i => blk_frozen HN4.out.nb_ i
 go_upto_region 38 with (fail)
 obtain ⟨rs, hrs, hrr⟩ := HN4.out.rj.r
 obtain ⟨x0, x1, rfl⟩ : ∃ x0 x1, rs = #[x0, x1] := by rcases rs with ⟨_ | ⟨x0, _ | ⟨x1, _ | _⟩⟩⟩ <;> simp at hrs; exact ⟨_, _, rfl⟩
 have hcr := fun i => blk_cell hrr i
 have hfr := fun i => blk_frozen hrr i
 clear hrs
 go_wp2
 have HE := Aside0.mk (show KR _ B (.slice A m.L.length c) m.L from KR.keep (KR.keep HN4.out.kn (W1 := World.setCell _ ⟨w.heap.size + 1 + 1, 0, none⟩ (.int .i64 m.clk)) fun g cs hg => Below.heap_setCell _ _ _ _ (types_ne hg hrr (by decide))) (W1 := World.setCell (World.setCell _ ⟨w.heap.size + 1 + 1, 0, none⟩ (.int .i64 m.clk)) ⟨w.heap.size + 1 + 1, 1, none⟩ (.slice A m.L.length c)) fun g cs hg => Below.heap_setCell _ _ _ _ (types_ne hg (blk_put hrr 0 _ rfl) (by decide)))
 have HBL := Aside0.mk (below_set (g := w.heap.size + 1 + 1) (j := 1) (v := .slice A m.L.length c) (below_set (g := w.heap.size + 1 + 1) (j := 0) (v := .int .i64 m.clk) HN4.out.rj.below (by omega)) (by omega))
 unfold RdPost
 rw [HF.out]
 exact bodyPost_ret (v := .tuple #[.agg #[.int .i64 m.clk, .slice A m.L.length c], .int .i64 0]) (by simp [results, Try.results45, asAddr, go_sem, hu0, hcr, hlr]) rfl ⟨_, rfl, HE.out, HBL.out⟩
theorem rdo_migrate_no {w : World} {B : Nat} (m : Rm) (v : Value) (e : Au.Ev) (hn : m.L.length ≤ 90000) (nd : (m.L.map S127.h).Nodup) (hB : B ≤ w.heap.size) (h : KR w B v m.L) (hr : rightJ e = true) (hk : e.k = 3) (ho : e.op = 4) (he : e.er = 0) (ha : ¬ statR m.L e.h = 1) :
  Calls Try.prog 45 #[.agg #[.int .i64 m.clk, v], .agg (evA e)] w (RdPost B w (rdoF m e)) := by
 have hu0 := Try.underlying43
 have hu1 := Try.underlying36
 have hu2 := Try.underlying50
 have hu3 := Try.underlying127
 have HF := Aside0.mk (show rdoF m e = (m, 6) by unfold rdoF; rw [if_neg (by rw [hr]; simp; omega), if_neg (by omega), if_neg (by omega)]; unfold rpF; rw [if_neg (by omega), if_neg (by omega), if_neg (by omega), if_neg (by omega), if_pos he, if_neg ha])
 have qk1 : (e.k == 1) = false := beq_eq_false_iff_ne.2 (by omega)
 have qk2 : (e.k == 2) = false := beq_eq_false_iff_ne.2 (by omega)
 have qk4 : (e.k == 4) = false := beq_eq_false_iff_ne.2 (by omega)
 have qk5 : (e.k == 5) = false := beq_eq_false_iff_ne.2 (by omega)
 have qp1 : (e.op == 1) = false := beq_eq_false_iff_ne.2 (by omega)
 have qp2 : (e.op == 2) = false := beq_eq_false_iff_ne.2 (by omega)
 have qp3 : (e.op == 3) = false := beq_eq_false_iff_ne.2 (by omega)
 have qp4 : (e.op == 4) = true := beq_iff_eq.2 (ho)
 have qr0 : (e.er == 0) = true := beq_iff_eq.2 (he)
 have qr4 : (e.er == 4) = false := beq_eq_false_iff_ne.2 (by omega)
 have qs : (statR m.L e.h == 1) = false := beq_eq_false_iff_ne.2 (ha)
 obtain ⟨A, c, rfl⟩ := Kd.R_slice h
 have CR := Aside0.mk (fun W => rright_run e W)
 have CS : Aside0 (∀ W, KR W B (.slice A m.L.length c) m.L → Calls Try.prog 35 #[.agg #[.int .i64 m.clk, .slice A m.L.length c], .agg #[.int .i64 e.hn, .int .i64 e.hg]] W fun r w' => r = .returned (.int .i64 (statR m.L e.h)) ∧ Below W.heap.size W w') := ⟨fun W hW => stat_calls hW (by omega) e.hn e.hg⟩
 have HN := Aside0.mk hn
 have HND := Aside0.mk nd
 have HB := Aside0.mk hB
 have HJ := Aside0.mk (Rj.start h m.clk e)
 rw [hr] at CR
 clear hn nd hB h hr hk ho he ha
 have hcb := fun i => blk_cell HJ.out.b i
 have hce := fun i => blk_cell HJ.out.e_ i
 have hlb := blk_lt HJ.out.b
 have hle := blk_lt HJ.out.e_
 have hlr := (by obtain ⟨_, _, q⟩ := HJ.out.r; exact blk_lt q : w.heap.size + 1 + 1 < _)
 obtain ⟨sv, hsv⟩ : ∃ sv, statR m.L e.h = sv := ⟨_, rfl⟩
 try rw [hsv] at CS
 try rw [hsv] at qs
 clear hsv
 go_enter Try.func45, Try.ntmps45
 go_upto_region 14 with (first | (go_at_call 62; (with_reducible refine (CR.out _).mono ?_); rintro r w2 ⟨rfl, hb⟩; have HJ2 := Aside0.mk (HJ.out.step hb); clear hb hcb hce hlb hle hlr HJ; have HJ := HJ2; clear HJ2; have hcb := fun i => blk_cell HJ.out.b i; have hce := fun i => blk_cell HJ.out.e_ i; have hlb := blk_lt HJ.out.b; have hle := blk_lt HJ.out.e_; have hlr := (by obtain ⟨_, _, q⟩ := HJ.out.r; exact blk_lt q : w.heap.size + 1 + 1 < _)) | (go_at_call 35; (with_reducible refine (CS.out _ HJ.out.kr).mono ?_); rintro r w3 ⟨rfl, hb⟩; have HJ2 := Aside0.mk (HJ.out.step hb); clear hb hcb hce hlb hle hlr HJ; have HJ := HJ2; clear HJ2; have hcb := fun i => blk_cell HJ.out.b i; have hce := fun i => blk_cell HJ.out.e_ i; have hlb := blk_lt HJ.out.b; have hle := blk_lt HJ.out.e_; have hlr := (by obtain ⟨_, _, q⟩ := HJ.out.r; exact blk_lt q : w.heap.size + 1 + 1 < _)))
 go_upto_region 15 with (fail)
 obtain ⟨nb, hnb⟩ : ∃ nb, w3.heap.size = nb := ⟨_, rfl⟩
 refine gen_world' (fun W => Nj B w W m.clk (.slice A m.L.length c) m.L e nb (.slice A m.L.length c) m.L) (by rw [← hnb]; exact Nj.start HJ.out) fun w4 H4 => ?_
 have HN4 := Aside0.mk H4
 have HJ4 := Aside0.mk H4.rj
 clear H4 HJ
 clear hcb hce hlb hle hlr
 have hcb := fun i => blk_cell HJ4.out.b i
 have hce := fun i => blk_cell HJ4.out.e_ i
 have hlb := blk_lt HJ4.out.b
 have hle := blk_lt HJ4.out.e_
 have hlr := (by obtain ⟨_, _, q⟩ := HJ4.out.r; exact blk_lt q : w.heap.size + 1 + 1 < _)
 have hcn := fun i => blk_cell HN4.out.nb_ i
 have hln := blk_lt HN4.out.nb_
 have hfn := fun i => blk_frozen HN4.out.nb_ i
 go_upto_region 37 with (fail)
 obtain ⟨rs, hrs, hrr⟩ := HJ4.out.r
 obtain ⟨x0, x1, rfl⟩ : ∃ x0 x1, rs = #[x0, x1] := by rcases rs with ⟨_ | ⟨x0, _ | ⟨x1, _ | _⟩⟩⟩ <;> simp at hrs; exact ⟨_, _, rfl⟩
 have hcr := fun i => blk_cell hrr i
 have hfr := fun i => blk_frozen hrr i
 clear hrs
 go_wp2
 have HE := Aside0.mk (show KR _ B (.slice A m.L.length c) m.L from KR.keep (KR.keep HJ4.out.kr (W1 := World.setCell _ ⟨w.heap.size + 1 + 1, 0, none⟩ (.int .i64 m.clk)) fun g cs hg => Below.heap_setCell _ _ _ _ (types_ne hg hrr (by decide))) (W1 := World.setCell (World.setCell _ ⟨w.heap.size + 1 + 1, 0, none⟩ (.int .i64 m.clk)) ⟨w.heap.size + 1 + 1, 1, none⟩ (.slice A m.L.length c)) fun g cs hg => Below.heap_setCell _ _ _ _ (types_ne hg (blk_put hrr 0 _ rfl) (by decide)))
 have HBL := Aside0.mk (below_set (g := w.heap.size + 1 + 1) (j := 1) (v := .slice A m.L.length c) (below_set (g := w.heap.size + 1 + 1) (j := 0) (v := .int .i64 m.clk) HJ4.out.below (by omega)) (by omega))
 unfold RdPost
 rw [HF.out]
 exact bodyPost_ret (v := .tuple #[.agg #[.int .i64 m.clk, .slice A m.L.length c], .int .i64 6]) (by simp [results, Try.results45, asAddr, go_sem, hu0, hcr, hlr]) rfl ⟨_, rfl, HE.out, HBL.out⟩
theorem rdo_cancel_11 {w : World} {B : Nat} (m : Rm) (v : Value) (e : Au.Ev) (hn : m.L.length ≤ 90000) (nd : (m.L.map S127.h).Nodup) (hB : B ≤ w.heap.size) (h : KR w B v m.L) (hr : rightJ e = true) (hk : e.k = 3) (ho : e.op = 2) (hy : e.y = true) (ha : statR m.L e.h = 1) :
  Calls Try.prog 45 #[.agg #[.int .i64 m.clk, v], .agg (evA e)] w (RdPost B w (rdoF m e)) := by
 have hu0 := Try.underlying43
 have hu1 := Try.underlying36
 have hu2 := Try.underlying50
 have hu3 := Try.underlying127
 have HF := Aside0.mk (show rdoF m e = ({ m with L := turnR m.L e.h 3 }, 0) by unfold rdoF; rw [if_neg (by rw [hr]; simp; omega), if_neg (by omega), if_neg (by omega)]; unfold rpF; rw [if_neg (by omega), if_pos ho, if_pos (by simp [ha, hy]), if_pos hy])
 have qk1 : (e.k == 1) = false := beq_eq_false_iff_ne.2 (by omega)
 have qk2 : (e.k == 2) = false := beq_eq_false_iff_ne.2 (by omega)
 have qk4 : (e.k == 4) = false := beq_eq_false_iff_ne.2 (by omega)
 have qk5 : (e.k == 5) = false := beq_eq_false_iff_ne.2 (by omega)
 have qp1 : (e.op == 1) = false := beq_eq_false_iff_ne.2 (by omega)
 have qp2 : (e.op == 2) = true := beq_iff_eq.2 (ho)
 have qp3 : (e.op == 3) = false := beq_eq_false_iff_ne.2 (by omega)
 have qp4 : (e.op == 4) = false := beq_eq_false_iff_ne.2 (by omega)
 have qs : (statR m.L e.h == 1) = true := beq_iff_eq.2 (ha)
 have HY := Aside0.mk hy
 obtain ⟨A, c, rfl⟩ := Kd.R_slice h
 have CR := Aside0.mk (fun W => rright_run e W)
 have CS : Aside0 (∀ W, KR W B (.slice A m.L.length c) m.L → Calls Try.prog 35 #[.agg #[.int .i64 m.clk, .slice A m.L.length c], .agg #[.int .i64 e.hn, .int .i64 e.hg]] W fun r w' => r = .returned (.int .i64 (statR m.L e.h)) ∧ Below W.heap.size W w') := ⟨fun W hW => stat_calls hW (by omega) e.hn e.hg⟩
 have HN := Aside0.mk hn
 have HND := Aside0.mk nd
 have HB := Aside0.mk hB
 have HJ := Aside0.mk (Rj.start h m.clk e)
 rw [hr] at CR
 have CT : Aside0 (∀ W, Rj B w W m.clk (.slice A m.L.length c) m.L e → Calls Try.prog 79 #[.agg #[.int .i64 m.clk, .slice A m.L.length c], .agg #[.int .i64 e.hn, .int .i64 e.hg], .int .i64 3] W fun r w' => ∃ A1 c1, r = .returned (.agg #[.int .i64 m.clk, .slice A1 (turnR m.L e.h 3).length c1]) ∧ KR w' B (.slice A1 (turnR m.L e.h 3).length c1) (turnR m.L e.h 3) ∧ Below W.heap.size W w') := ⟨fun W hW => turn_calls hW.kr (by have := hW.below.size; omega) (by omega) e.hn e.hg 3 nd (stat_ex ha)⟩
 clear hn nd hB h hr hk ho hy ha
 have hcb := fun i => blk_cell HJ.out.b i
 have hce := fun i => blk_cell HJ.out.e_ i
 have hlb := blk_lt HJ.out.b
 have hle := blk_lt HJ.out.e_
 have hlr := (by obtain ⟨_, _, q⟩ := HJ.out.r; exact blk_lt q : w.heap.size + 1 + 1 < _)
 obtain ⟨sv, hsv⟩ : ∃ sv, statR m.L e.h = sv := ⟨_, rfl⟩
 try rw [hsv] at CS
 try rw [hsv] at qs
 clear hsv
 go_enter Try.func45, Try.ntmps45
 go_upto_region 14 with (first | (go_at_call 62; (with_reducible refine (CR.out _).mono ?_); rintro r w2 ⟨rfl, hb⟩; have HJ2 := Aside0.mk (HJ.out.step hb); clear hb hcb hce hlb hle hlr HJ; have HJ := HJ2; clear HJ2; have hcb := fun i => blk_cell HJ.out.b i; have hce := fun i => blk_cell HJ.out.e_ i; have hlb := blk_lt HJ.out.b; have hle := blk_lt HJ.out.e_; have hlr := (by obtain ⟨_, _, q⟩ := HJ.out.r; exact blk_lt q : w.heap.size + 1 + 1 < _)) | (go_at_call 35; (with_reducible refine (CS.out _ HJ.out.kr).mono ?_); rintro r w3 ⟨rfl, hb⟩; have HJ2 := Aside0.mk (HJ.out.step hb); clear hb hcb hce hlb hle hlr HJ; have HJ := HJ2; clear HJ2; have hcb := fun i => blk_cell HJ.out.b i; have hce := fun i => blk_cell HJ.out.e_ i; have hlb := blk_lt HJ.out.b; have hle := blk_lt HJ.out.e_; have hlr := (by obtain ⟨_, _, q⟩ := HJ.out.r; exact blk_lt q : w.heap.size + 1 + 1 < _)))
 go_upto_region 15 with (fail)
 obtain ⟨nb, hnb⟩ : ∃ nb, w3.heap.size = nb := ⟨_, rfl⟩
 refine gen_world' (fun W => Nj B w W m.clk (.slice A m.L.length c) m.L e nb (.slice A m.L.length c) m.L) (by rw [← hnb]; exact Nj.start HJ.out) fun w4 H4 => ?_
 have HN4 := Aside0.mk H4
 have HJ4 := Aside0.mk H4.rj
 clear H4 HJ
 clear hcb hce hlb hle hlr
 have hcb := fun i => blk_cell HJ4.out.b i
 have hce := fun i => blk_cell HJ4.out.e_ i
 have hlb := blk_lt HJ4.out.b
 have hle := blk_lt HJ4.out.e_
 have hlr := (by obtain ⟨_, _, q⟩ := HJ4.out.r; exact blk_lt q : w.heap.size + 1 + 1 < _)
 have hcn := fun i => blk_cell HN4.out.nb_ i
 have hln := blk_lt HN4.out.nb_
 have hfn := fun i => blk_frozen HN4.out.nb_ i
 have y0 := HY.out
 go_upto_region 36 with (first | (go_at_call 79; (with_reducible refine (CT.out _ HJ4.out).mono ?_); rintro r w7 ⟨A1, c1, rfl, hk1, hb⟩; have HN7 := Aside0.mk (HN4.out.next hb hk1); have hcn7 := fun i => blk_cell (HN4.out.step hb).nb_ i; have hfn7 := fun i => blk_frozen (HN4.out.step hb).nb_ i; have hln7 := blk_lt (HN4.out.step hb).nb_; clear hb hk1 hcn hln hfn hcb hce hlb hle hlr))
 clear hcn7 hfn7 hln7
 have hcb := fun i => blk_cell HN7.out.rj.b i
 have hce := fun i => blk_cell HN7.out.rj.e_ i
 have hlb := blk_lt HN7.out.rj.b
 have hle := blk_lt HN7.out.rj.e_
 have hlr := (by obtain ⟨_, _, q⟩ := HN7.out.rj.r; exact blk_lt q : w.heap.size + 1 + 1 < _)
 have hcn := fun i => blk_cell HN7.out.nb_ i
 have hln := blk_lt HN7.out.nb_
 go_upto_region 38 with (fail)
 obtain ⟨rs, hrs, hrr⟩ := HN7.out.rj.r
 obtain ⟨x0, x1, rfl⟩ : ∃ x0 x1, rs = #[x0, x1] := by rcases rs with ⟨_ | ⟨x0, _ | ⟨x1, _ | _⟩⟩⟩ <;> simp at hrs; exact ⟨_, _, rfl⟩
 have hcr := fun i => blk_cell hrr i
 have hfr := fun i => blk_frozen hrr i
 clear hrs
 go_wp2
 have HE := Aside0.mk (show KR _ B (.slice A1 (turnR m.L e.h 3).length c1) (turnR m.L e.h 3) from KR.keep (KR.keep HN7.out.kn (W1 := World.setCell _ ⟨w.heap.size + 1 + 1, 0, none⟩ (.int .i64 m.clk)) fun g cs hg => Below.heap_setCell _ _ _ _ (types_ne hg hrr (by decide))) (W1 := World.setCell (World.setCell _ ⟨w.heap.size + 1 + 1, 0, none⟩ (.int .i64 m.clk)) ⟨w.heap.size + 1 + 1, 1, none⟩ (.slice A1 (turnR m.L e.h 3).length c1)) fun g cs hg => Below.heap_setCell _ _ _ _ (types_ne hg (blk_put hrr 0 _ rfl) (by decide)))
 have HBL := Aside0.mk (below_set (g := w.heap.size + 1 + 1) (j := 1) (v := .slice A1 (turnR m.L e.h 3).length c1) (below_set (g := w.heap.size + 1 + 1) (j := 0) (v := .int .i64 m.clk) HN7.out.rj.below (by omega)) (by omega))
 unfold RdPost
 rw [HF.out]
 exact bodyPost_ret (v := .tuple #[.agg #[.int .i64 m.clk, .slice A1 (turnR m.L e.h 3).length c1], .int .i64 0]) (by simp [results, Try.results45, asAddr, go_sem, hu0, hcr, hlr]) rfl ⟨_, rfl, HE.out, HBL.out⟩
theorem rdo_cancel_10 {w : World} {B : Nat} (m : Rm) (v : Value) (e : Au.Ev) (hn : m.L.length ≤ 90000) (nd : (m.L.map S127.h).Nodup) (hB : B ≤ w.heap.size) (h : KR w B v m.L) (hr : rightJ e = true) (hk : e.k = 3) (ho : e.op = 2) (hy : e.y = false) (ha : statR m.L e.h = 1) :
  Calls Try.prog 45 #[.agg #[.int .i64 m.clk, v], .agg (evA e)] w (RdPost B w (rdoF m e)) := by
 have hu0 := Try.underlying43
 have hu1 := Try.underlying36
 have hu2 := Try.underlying50
 have hu3 := Try.underlying127
 have HF := Aside0.mk (show rdoF m e = (m, 6) by unfold rdoF; rw [if_neg (by rw [hr]; simp; omega), if_neg (by omega), if_neg (by omega)]; unfold rpF; rw [if_neg (by omega), if_pos ho, if_neg (by simp [ha, hy])])
 have qk1 : (e.k == 1) = false := beq_eq_false_iff_ne.2 (by omega)
 have qk2 : (e.k == 2) = false := beq_eq_false_iff_ne.2 (by omega)
 have qk4 : (e.k == 4) = false := beq_eq_false_iff_ne.2 (by omega)
 have qk5 : (e.k == 5) = false := beq_eq_false_iff_ne.2 (by omega)
 have qp1 : (e.op == 1) = false := beq_eq_false_iff_ne.2 (by omega)
 have qp2 : (e.op == 2) = true := beq_iff_eq.2 (ho)
 have qp3 : (e.op == 3) = false := beq_eq_false_iff_ne.2 (by omega)
 have qp4 : (e.op == 4) = false := beq_eq_false_iff_ne.2 (by omega)
 have qs : (statR m.L e.h == 1) = true := beq_iff_eq.2 (ha)
 have HY := Aside0.mk hy
 obtain ⟨A, c, rfl⟩ := Kd.R_slice h
 have CR := Aside0.mk (fun W => rright_run e W)
 have CS : Aside0 (∀ W, KR W B (.slice A m.L.length c) m.L → Calls Try.prog 35 #[.agg #[.int .i64 m.clk, .slice A m.L.length c], .agg #[.int .i64 e.hn, .int .i64 e.hg]] W fun r w' => r = .returned (.int .i64 (statR m.L e.h)) ∧ Below W.heap.size W w') := ⟨fun W hW => stat_calls hW (by omega) e.hn e.hg⟩
 have HN := Aside0.mk hn
 have HND := Aside0.mk nd
 have HB := Aside0.mk hB
 have HJ := Aside0.mk (Rj.start h m.clk e)
 rw [hr] at CR
 clear hn nd hB h hr hk ho hy ha
 have hcb := fun i => blk_cell HJ.out.b i
 have hce := fun i => blk_cell HJ.out.e_ i
 have hlb := blk_lt HJ.out.b
 have hle := blk_lt HJ.out.e_
 have hlr := (by obtain ⟨_, _, q⟩ := HJ.out.r; exact blk_lt q : w.heap.size + 1 + 1 < _)
 obtain ⟨sv, hsv⟩ : ∃ sv, statR m.L e.h = sv := ⟨_, rfl⟩
 try rw [hsv] at CS
 try rw [hsv] at qs
 clear hsv
 go_enter Try.func45, Try.ntmps45
 go_upto_region 14 with (first | (go_at_call 62; (with_reducible refine (CR.out _).mono ?_); rintro r w2 ⟨rfl, hb⟩; have HJ2 := Aside0.mk (HJ.out.step hb); clear hb hcb hce hlb hle hlr HJ; have HJ := HJ2; clear HJ2; have hcb := fun i => blk_cell HJ.out.b i; have hce := fun i => blk_cell HJ.out.e_ i; have hlb := blk_lt HJ.out.b; have hle := blk_lt HJ.out.e_; have hlr := (by obtain ⟨_, _, q⟩ := HJ.out.r; exact blk_lt q : w.heap.size + 1 + 1 < _)) | (go_at_call 35; (with_reducible refine (CS.out _ HJ.out.kr).mono ?_); rintro r w3 ⟨rfl, hb⟩; have HJ2 := Aside0.mk (HJ.out.step hb); clear hb hcb hce hlb hle hlr HJ; have HJ := HJ2; clear HJ2; have hcb := fun i => blk_cell HJ.out.b i; have hce := fun i => blk_cell HJ.out.e_ i; have hlb := blk_lt HJ.out.b; have hle := blk_lt HJ.out.e_; have hlr := (by obtain ⟨_, _, q⟩ := HJ.out.r; exact blk_lt q : w.heap.size + 1 + 1 < _)))
 go_upto_region 15 with (fail)
 obtain ⟨nb, hnb⟩ : ∃ nb, w3.heap.size = nb := ⟨_, rfl⟩
 refine gen_world' (fun W => Nj B w W m.clk (.slice A m.L.length c) m.L e nb (.slice A m.L.length c) m.L) (by rw [← hnb]; exact Nj.start HJ.out) fun w4 H4 => ?_
 have HN4 := Aside0.mk H4
 have HJ4 := Aside0.mk H4.rj
 clear H4 HJ
 clear hcb hce hlb hle hlr
 have hcb := fun i => blk_cell HJ4.out.b i
 have hce := fun i => blk_cell HJ4.out.e_ i
 have hlb := blk_lt HJ4.out.b
 have hle := blk_lt HJ4.out.e_
 have hlr := (by obtain ⟨_, _, q⟩ := HJ4.out.r; exact blk_lt q : w.heap.size + 1 + 1 < _)
 have hcn := fun i => blk_cell HN4.out.nb_ i
 have hln := blk_lt HN4.out.nb_
 have hfn := fun i => blk_frozen HN4.out.nb_ i
 have y0 := HY.out
 go_upto_region 37 with (fail)
 obtain ⟨rs, hrs, hrr⟩ := HJ4.out.r
 obtain ⟨x0, x1, rfl⟩ : ∃ x0 x1, rs = #[x0, x1] := by rcases rs with ⟨_ | ⟨x0, _ | ⟨x1, _ | _⟩⟩⟩ <;> simp at hrs; exact ⟨_, _, rfl⟩
 have hcr := fun i => blk_cell hrr i
 have hfr := fun i => blk_frozen hrr i
 clear hrs
 go_wp2
 have HE := Aside0.mk (show KR _ B (.slice A m.L.length c) m.L from KR.keep (KR.keep HJ4.out.kr (W1 := World.setCell _ ⟨w.heap.size + 1 + 1, 0, none⟩ (.int .i64 m.clk)) fun g cs hg => Below.heap_setCell _ _ _ _ (types_ne hg hrr (by decide))) (W1 := World.setCell (World.setCell _ ⟨w.heap.size + 1 + 1, 0, none⟩ (.int .i64 m.clk)) ⟨w.heap.size + 1 + 1, 1, none⟩ (.slice A m.L.length c)) fun g cs hg => Below.heap_setCell _ _ _ _ (types_ne hg (blk_put hrr 0 _ rfl) (by decide)))
 have HBL := Aside0.mk (below_set (g := w.heap.size + 1 + 1) (j := 1) (v := .slice A m.L.length c) (below_set (g := w.heap.size + 1 + 1) (j := 0) (v := .int .i64 m.clk) HJ4.out.below (by omega)) (by omega))
 unfold RdPost
 rw [HF.out]
 exact bodyPost_ret (v := .tuple #[.agg #[.int .i64 m.clk, .slice A m.L.length c], .int .i64 6]) (by simp [results, Try.results45, asAddr, go_sem, hu0, hcr, hlr]) rfl ⟨_, rfl, HE.out, HBL.out⟩
theorem rdo_cancel_01 {w : World} {B : Nat} (m : Rm) (v : Value) (e : Au.Ev) (hn : m.L.length ≤ 90000) (nd : (m.L.map S127.h).Nodup) (hB : B ≤ w.heap.size) (h : KR w B v m.L) (hr : rightJ e = true) (hk : e.k = 3) (ho : e.op = 2) (hy : e.y = true) (ha : ¬ statR m.L e.h = 1) :
  Calls Try.prog 45 #[.agg #[.int .i64 m.clk, v], .agg (evA e)] w (RdPost B w (rdoF m e)) := by
 have hu0 := Try.underlying43
 have hu1 := Try.underlying36
 have hu2 := Try.underlying50
 have hu3 := Try.underlying127
 have HF := Aside0.mk (show rdoF m e = (m, 6) by unfold rdoF; rw [if_neg (by rw [hr]; simp; omega), if_neg (by omega), if_neg (by omega)]; unfold rpF; rw [if_neg (by omega), if_pos ho, if_neg (by simp [ha, hy])])
 have qk1 : (e.k == 1) = false := beq_eq_false_iff_ne.2 (by omega)
 have qk2 : (e.k == 2) = false := beq_eq_false_iff_ne.2 (by omega)
 have qk4 : (e.k == 4) = false := beq_eq_false_iff_ne.2 (by omega)
 have qk5 : (e.k == 5) = false := beq_eq_false_iff_ne.2 (by omega)
 have qp1 : (e.op == 1) = false := beq_eq_false_iff_ne.2 (by omega)
 have qp2 : (e.op == 2) = true := beq_iff_eq.2 (ho)
 have qp3 : (e.op == 3) = false := beq_eq_false_iff_ne.2 (by omega)
 have qp4 : (e.op == 4) = false := beq_eq_false_iff_ne.2 (by omega)
 have qs : (statR m.L e.h == 1) = false := beq_eq_false_iff_ne.2 (ha)
 have HY := Aside0.mk hy
 obtain ⟨A, c, rfl⟩ := Kd.R_slice h
 have CR := Aside0.mk (fun W => rright_run e W)
 have CS : Aside0 (∀ W, KR W B (.slice A m.L.length c) m.L → Calls Try.prog 35 #[.agg #[.int .i64 m.clk, .slice A m.L.length c], .agg #[.int .i64 e.hn, .int .i64 e.hg]] W fun r w' => r = .returned (.int .i64 (statR m.L e.h)) ∧ Below W.heap.size W w') := ⟨fun W hW => stat_calls hW (by omega) e.hn e.hg⟩
 have HN := Aside0.mk hn
 have HND := Aside0.mk nd
 have HB := Aside0.mk hB
 have HJ := Aside0.mk (Rj.start h m.clk e)
 rw [hr] at CR
 clear hn nd hB h hr hk ho hy ha
 have hcb := fun i => blk_cell HJ.out.b i
 have hce := fun i => blk_cell HJ.out.e_ i
 have hlb := blk_lt HJ.out.b
 have hle := blk_lt HJ.out.e_
 have hlr := (by obtain ⟨_, _, q⟩ := HJ.out.r; exact blk_lt q : w.heap.size + 1 + 1 < _)
 obtain ⟨sv, hsv⟩ : ∃ sv, statR m.L e.h = sv := ⟨_, rfl⟩
 try rw [hsv] at CS
 try rw [hsv] at qs
 clear hsv
 go_enter Try.func45, Try.ntmps45
 go_upto_region 14 with (first | (go_at_call 62; (with_reducible refine (CR.out _).mono ?_); rintro r w2 ⟨rfl, hb⟩; have HJ2 := Aside0.mk (HJ.out.step hb); clear hb hcb hce hlb hle hlr HJ; have HJ := HJ2; clear HJ2; have hcb := fun i => blk_cell HJ.out.b i; have hce := fun i => blk_cell HJ.out.e_ i; have hlb := blk_lt HJ.out.b; have hle := blk_lt HJ.out.e_; have hlr := (by obtain ⟨_, _, q⟩ := HJ.out.r; exact blk_lt q : w.heap.size + 1 + 1 < _)) | (go_at_call 35; (with_reducible refine (CS.out _ HJ.out.kr).mono ?_); rintro r w3 ⟨rfl, hb⟩; have HJ2 := Aside0.mk (HJ.out.step hb); clear hb hcb hce hlb hle hlr HJ; have HJ := HJ2; clear HJ2; have hcb := fun i => blk_cell HJ.out.b i; have hce := fun i => blk_cell HJ.out.e_ i; have hlb := blk_lt HJ.out.b; have hle := blk_lt HJ.out.e_; have hlr := (by obtain ⟨_, _, q⟩ := HJ.out.r; exact blk_lt q : w.heap.size + 1 + 1 < _)))
 go_upto_region 15 with (fail)
 obtain ⟨nb, hnb⟩ : ∃ nb, w3.heap.size = nb := ⟨_, rfl⟩
 refine gen_world' (fun W => Nj B w W m.clk (.slice A m.L.length c) m.L e nb (.slice A m.L.length c) m.L) (by rw [← hnb]; exact Nj.start HJ.out) fun w4 H4 => ?_
 have HN4 := Aside0.mk H4
 have HJ4 := Aside0.mk H4.rj
 clear H4 HJ
 clear hcb hce hlb hle hlr
 have hcb := fun i => blk_cell HJ4.out.b i
 have hce := fun i => blk_cell HJ4.out.e_ i
 have hlb := blk_lt HJ4.out.b
 have hle := blk_lt HJ4.out.e_
 have hlr := (by obtain ⟨_, _, q⟩ := HJ4.out.r; exact blk_lt q : w.heap.size + 1 + 1 < _)
 have hcn := fun i => blk_cell HN4.out.nb_ i
 have hln := blk_lt HN4.out.nb_
 have hfn := fun i => blk_frozen HN4.out.nb_ i
 have y0 := HY.out
 go_upto_region 37 with (fail)
 obtain ⟨rs, hrs, hrr⟩ := HJ4.out.r
 obtain ⟨x0, x1, rfl⟩ : ∃ x0 x1, rs = #[x0, x1] := by rcases rs with ⟨_ | ⟨x0, _ | ⟨x1, _ | _⟩⟩⟩ <;> simp at hrs; exact ⟨_, _, rfl⟩
 have hcr := fun i => blk_cell hrr i
 have hfr := fun i => blk_frozen hrr i
 clear hrs
 go_wp2
 have HE := Aside0.mk (show KR _ B (.slice A m.L.length c) m.L from KR.keep (KR.keep HJ4.out.kr (W1 := World.setCell _ ⟨w.heap.size + 1 + 1, 0, none⟩ (.int .i64 m.clk)) fun g cs hg => Below.heap_setCell _ _ _ _ (types_ne hg hrr (by decide))) (W1 := World.setCell (World.setCell _ ⟨w.heap.size + 1 + 1, 0, none⟩ (.int .i64 m.clk)) ⟨w.heap.size + 1 + 1, 1, none⟩ (.slice A m.L.length c)) fun g cs hg => Below.heap_setCell _ _ _ _ (types_ne hg (blk_put hrr 0 _ rfl) (by decide)))
 have HBL := Aside0.mk (below_set (g := w.heap.size + 1 + 1) (j := 1) (v := .slice A m.L.length c) (below_set (g := w.heap.size + 1 + 1) (j := 0) (v := .int .i64 m.clk) HJ4.out.below (by omega)) (by omega))
 unfold RdPost
 rw [HF.out]
 exact bodyPost_ret (v := .tuple #[.agg #[.int .i64 m.clk, .slice A m.L.length c], .int .i64 6]) (by simp [results, Try.results45, asAddr, go_sem, hu0, hcr, hlr]) rfl ⟨_, rfl, HE.out, HBL.out⟩
theorem rdo_cancel_00 {w : World} {B : Nat} (m : Rm) (v : Value) (e : Au.Ev) (hn : m.L.length ≤ 90000) (nd : (m.L.map S127.h).Nodup) (hB : B ≤ w.heap.size) (h : KR w B v m.L) (hr : rightJ e = true) (hk : e.k = 3) (ho : e.op = 2) (hy : e.y = false) (ha : ¬ statR m.L e.h = 1) :
  Calls Try.prog 45 #[.agg #[.int .i64 m.clk, v], .agg (evA e)] w (RdPost B w (rdoF m e)) := by
 have hu0 := Try.underlying43
 have hu1 := Try.underlying36
 have hu2 := Try.underlying50
 have hu3 := Try.underlying127
 have HF := Aside0.mk (show rdoF m e = (m, 0) by unfold rdoF; rw [if_neg (by rw [hr]; simp; omega), if_neg (by omega), if_neg (by omega)]; unfold rpF; rw [if_neg (by omega), if_pos ho, if_pos (by simp [ha, hy]), if_neg (by simp [hy])])
 have qk1 : (e.k == 1) = false := beq_eq_false_iff_ne.2 (by omega)
 have qk2 : (e.k == 2) = false := beq_eq_false_iff_ne.2 (by omega)
 have qk4 : (e.k == 4) = false := beq_eq_false_iff_ne.2 (by omega)
 have qk5 : (e.k == 5) = false := beq_eq_false_iff_ne.2 (by omega)
 have qp1 : (e.op == 1) = false := beq_eq_false_iff_ne.2 (by omega)
 have qp2 : (e.op == 2) = true := beq_iff_eq.2 (ho)
 have qp3 : (e.op == 3) = false := beq_eq_false_iff_ne.2 (by omega)
 have qp4 : (e.op == 4) = false := beq_eq_false_iff_ne.2 (by omega)
 have qs : (statR m.L e.h == 1) = false := beq_eq_false_iff_ne.2 (ha)
 have HY := Aside0.mk hy
 obtain ⟨A, c, rfl⟩ := Kd.R_slice h
 have CR := Aside0.mk (fun W => rright_run e W)
 have CS : Aside0 (∀ W, KR W B (.slice A m.L.length c) m.L → Calls Try.prog 35 #[.agg #[.int .i64 m.clk, .slice A m.L.length c], .agg #[.int .i64 e.hn, .int .i64 e.hg]] W fun r w' => r = .returned (.int .i64 (statR m.L e.h)) ∧ Below W.heap.size W w') := ⟨fun W hW => stat_calls hW (by omega) e.hn e.hg⟩
 have HN := Aside0.mk hn
 have HND := Aside0.mk nd
 have HB := Aside0.mk hB
 have HJ := Aside0.mk (Rj.start h m.clk e)
 rw [hr] at CR
 clear hn nd hB h hr hk ho hy ha
 have hcb := fun i => blk_cell HJ.out.b i
 have hce := fun i => blk_cell HJ.out.e_ i
 have hlb := blk_lt HJ.out.b
 have hle := blk_lt HJ.out.e_
 have hlr := (by obtain ⟨_, _, q⟩ := HJ.out.r; exact blk_lt q : w.heap.size + 1 + 1 < _)
 obtain ⟨sv, hsv⟩ : ∃ sv, statR m.L e.h = sv := ⟨_, rfl⟩
 try rw [hsv] at CS
 try rw [hsv] at qs
 clear hsv
 go_enter Try.func45, Try.ntmps45
 go_upto_region 14 with (first | (go_at_call 62; (with_reducible refine (CR.out _).mono ?_); rintro r w2 ⟨rfl, hb⟩; have HJ2 := Aside0.mk (HJ.out.step hb); clear hb hcb hce hlb hle hlr HJ; have HJ := HJ2; clear HJ2; have hcb := fun i => blk_cell HJ.out.b i; have hce := fun i => blk_cell HJ.out.e_ i; have hlb := blk_lt HJ.out.b; have hle := blk_lt HJ.out.e_; have hlr := (by obtain ⟨_, _, q⟩ := HJ.out.r; exact blk_lt q : w.heap.size + 1 + 1 < _)) | (go_at_call 35; (with_reducible refine (CS.out _ HJ.out.kr).mono ?_); rintro r w3 ⟨rfl, hb⟩; have HJ2 := Aside0.mk (HJ.out.step hb); clear hb hcb hce hlb hle hlr HJ; have HJ := HJ2; clear HJ2; have hcb := fun i => blk_cell HJ.out.b i; have hce := fun i => blk_cell HJ.out.e_ i; have hlb := blk_lt HJ.out.b; have hle := blk_lt HJ.out.e_; have hlr := (by obtain ⟨_, _, q⟩ := HJ.out.r; exact blk_lt q : w.heap.size + 1 + 1 < _)))
 go_upto_region 15 with (fail)
 obtain ⟨nb, hnb⟩ : ∃ nb, w3.heap.size = nb := ⟨_, rfl⟩
 refine gen_world' (fun W => Nj B w W m.clk (.slice A m.L.length c) m.L e nb (.slice A m.L.length c) m.L) (by rw [← hnb]; exact Nj.start HJ.out) fun w4 H4 => ?_
 have HN4 := Aside0.mk H4
 have HJ4 := Aside0.mk H4.rj
 clear H4 HJ
 clear hcb hce hlb hle hlr
 have hcb := fun i => blk_cell HJ4.out.b i
 have hce := fun i => blk_cell HJ4.out.e_ i
 have hlb := blk_lt HJ4.out.b
 have hle := blk_lt HJ4.out.e_
 have hlr := (by obtain ⟨_, _, q⟩ := HJ4.out.r; exact blk_lt q : w.heap.size + 1 + 1 < _)
 have hcn := fun i => blk_cell HN4.out.nb_ i
 have hln := blk_lt HN4.out.nb_
 have hfn := fun i => blk_frozen HN4.out.nb_ i
 have y0 := HY.out
 go_upto_region 38 with (fail)
 obtain ⟨rs, hrs, hrr⟩ := HN4.out.rj.r
 obtain ⟨x0, x1, rfl⟩ : ∃ x0 x1, rs = #[x0, x1] := by rcases rs with ⟨_ | ⟨x0, _ | ⟨x1, _ | _⟩⟩⟩ <;> simp at hrs; exact ⟨_, _, rfl⟩
 have hcr := fun i => blk_cell hrr i
 have hfr := fun i => blk_frozen hrr i
 clear hrs
 go_wp2
 have HE := Aside0.mk (show KR _ B (.slice A m.L.length c) m.L from KR.keep (KR.keep HN4.out.kn (W1 := World.setCell _ ⟨w.heap.size + 1 + 1, 0, none⟩ (.int .i64 m.clk)) fun g cs hg => Below.heap_setCell _ _ _ _ (types_ne hg hrr (by decide))) (W1 := World.setCell (World.setCell _ ⟨w.heap.size + 1 + 1, 0, none⟩ (.int .i64 m.clk)) ⟨w.heap.size + 1 + 1, 1, none⟩ (.slice A m.L.length c)) fun g cs hg => Below.heap_setCell _ _ _ _ (types_ne hg (blk_put hrr 0 _ rfl) (by decide)))
 have HBL := Aside0.mk (below_set (g := w.heap.size + 1 + 1) (j := 1) (v := .slice A m.L.length c) (below_set (g := w.heap.size + 1 + 1) (j := 0) (v := .int .i64 m.clk) HN4.out.rj.below (by omega)) (by omega))
 unfold RdPost
 rw [HF.out]
 exact bodyPost_ret (v := .tuple #[.agg #[.int .i64 m.clk, .slice A m.L.length c], .int .i64 0]) (by simp [results, Try.results45, asAddr, go_sem, hu0, hcr, hlr]) rfl ⟨_, rfl, HE.out, HBL.out⟩
theorem rdo_start {w : World} {B : Nat} (m : Rm) (v : Value) (e : Au.Ev) (hn : m.L.length ≤ 90000) (nd : (m.L.map S127.h).Nodup) (hB : B ≤ w.heap.size) (h : KR w B v m.L) (hr : rightJ e = true) (hk : e.k = 3) (ho : e.op = 1) (he : e.er = 0) (hf : freeR m.L e.new = true) :
  Calls Try.prog 45 #[.agg #[.int .i64 m.clk, v], .agg (evA e)] w (RdPost B w (rdoF m e)) := by
 have hu0 := Try.underlying43
 have hu1 := Try.underlying36
 have hu2 := Try.underlying50
 have hu3 := Try.underlying127
 have HF := Aside0.mk (show rdoF m e = ({ m with L := armR m.L e.new e.t }, 0) by unfold rdoF; rw [if_neg (by rw [hr]; simp; omega), if_neg (by omega), if_neg (by omega)]; unfold rpF; rw [if_pos ho, if_pos he, if_pos hf])
 have qk1 : (e.k == 1) = false := beq_eq_false_iff_ne.2 (by omega)
 have qk2 : (e.k == 2) = false := beq_eq_false_iff_ne.2 (by omega)
 have qk4 : (e.k == 4) = false := beq_eq_false_iff_ne.2 (by omega)
 have qk5 : (e.k == 5) = false := beq_eq_false_iff_ne.2 (by omega)
 have qp1 : (e.op == 1) = true := beq_iff_eq.2 (ho)
 have qp2 : (e.op == 2) = false := beq_eq_false_iff_ne.2 (by omega)
 have qp3 : (e.op == 3) = false := beq_eq_false_iff_ne.2 (by omega)
 have qp4 : (e.op == 4) = false := beq_eq_false_iff_ne.2 (by omega)
 have qr0 : (e.er == 0) = true := beq_iff_eq.2 (he)
 have qr4 : (e.er == 4) = false := beq_eq_false_iff_ne.2 (by omega)
 obtain ⟨A, c, rfl⟩ := Kd.R_slice h
 have CR := Aside0.mk (fun W => rright_run e W)
 have CS : Aside0 (∀ W, KR W B (.slice A m.L.length c) m.L → Calls Try.prog 35 #[.agg #[.int .i64 m.clk, .slice A m.L.length c], .agg #[.int .i64 e.hn, .int .i64 e.hg]] W fun r w' => r = .returned (.int .i64 (statR m.L e.h)) ∧ Below W.heap.size W w') := ⟨fun W hW => stat_calls hW (by omega) e.hn e.hg⟩
 have HN := Aside0.mk hn
 have HND := Aside0.mk nd
 have HB := Aside0.mk hB
 have HJ := Aside0.mk (Rj.start h m.clk e)
 rw [hr] at CR
 have CF : Aside0 (∀ W, Rj B w W m.clk (.slice A m.L.length c) m.L e → Calls Try.prog 80 #[.agg #[.int .i64 m.clk, .slice A m.L.length c], .agg #[.int .i64 e.nn, .int .i64 e.ng]] W fun r w' => r = .returned (.bool true) ∧ Below W.heap.size W w') := ⟨fun W hW => by have := free_calls (clk := m.clk) hW.kr (by omega) e.nn e.ng; rw [show freeR m.L (e.nn, e.ng) = true from hf] at this; exact this⟩
 have CA : Aside0 (∀ W, Rj B w W m.clk (.slice A m.L.length c) m.L e → Calls Try.prog 81 #[.agg #[.int .i64 m.clk, .slice A m.L.length c], .agg #[.int .i64 e.nn, .int .i64 e.ng], .int .i64 e.t] W fun r w' => ∃ A1 c1, r = .returned (.agg #[.int .i64 m.clk, .slice A1 (armR m.L e.new e.t).length c1]) ∧ KR w' B (.slice A1 (armR m.L e.new e.t).length c1) (armR m.L e.new e.t) ∧ Below W.heap.size W w') := ⟨fun W hW => arm_calls hW.kr (by have := hW.below.size; omega) (by omega) e.nn e.ng e.t⟩
 clear hn nd hB h hr hk ho he hf
 have hcb := fun i => blk_cell HJ.out.b i
 have hce := fun i => blk_cell HJ.out.e_ i
 have hlb := blk_lt HJ.out.b
 have hle := blk_lt HJ.out.e_
 have hlr := (by obtain ⟨_, _, q⟩ := HJ.out.r; exact blk_lt q : w.heap.size + 1 + 1 < _)
 obtain ⟨sv, hsv⟩ : ∃ sv, statR m.L e.h = sv := ⟨_, rfl⟩
 try rw [hsv] at CS
 try rw [hsv] at qs
 clear hsv
 go_enter Try.func45, Try.ntmps45
 go_upto_region 14 with (first | (go_at_call 62; (with_reducible refine (CR.out _).mono ?_); rintro r w2 ⟨rfl, hb⟩; have HJ2 := Aside0.mk (HJ.out.step hb); clear hb hcb hce hlb hle hlr HJ; have HJ := HJ2; clear HJ2; have hcb := fun i => blk_cell HJ.out.b i; have hce := fun i => blk_cell HJ.out.e_ i; have hlb := blk_lt HJ.out.b; have hle := blk_lt HJ.out.e_; have hlr := (by obtain ⟨_, _, q⟩ := HJ.out.r; exact blk_lt q : w.heap.size + 1 + 1 < _)) | (go_at_call 35; (with_reducible refine (CS.out _ HJ.out.kr).mono ?_); rintro r w3 ⟨rfl, hb⟩; have HJ2 := Aside0.mk (HJ.out.step hb); clear hb hcb hce hlb hle hlr HJ; have HJ := HJ2; clear HJ2; have hcb := fun i => blk_cell HJ.out.b i; have hce := fun i => blk_cell HJ.out.e_ i; have hlb := blk_lt HJ.out.b; have hle := blk_lt HJ.out.e_; have hlr := (by obtain ⟨_, _, q⟩ := HJ.out.r; exact blk_lt q : w.heap.size + 1 + 1 < _)))
 go_upto_region 15 with (fail)
 obtain ⟨nb, hnb⟩ : ∃ nb, w3.heap.size = nb := ⟨_, rfl⟩
 refine gen_world' (fun W => Nj B w W m.clk (.slice A m.L.length c) m.L e nb (.slice A m.L.length c) m.L) (by rw [← hnb]; exact Nj.start HJ.out) fun w4 H4 => ?_
 have HN4 := Aside0.mk H4
 have HJ4 := Aside0.mk H4.rj
 clear H4 HJ
 clear hcb hce hlb hle hlr
 have hcb := fun i => blk_cell HJ4.out.b i
 have hce := fun i => blk_cell HJ4.out.e_ i
 have hlb := blk_lt HJ4.out.b
 have hle := blk_lt HJ4.out.e_
 have hlr := (by obtain ⟨_, _, q⟩ := HJ4.out.r; exact blk_lt q : w.heap.size + 1 + 1 < _)
 have hcn := fun i => blk_cell HN4.out.nb_ i
 have hln := blk_lt HN4.out.nb_
 have hfn := fun i => blk_frozen HN4.out.nb_ i
 go_upto_region 36 with (first | (go_at_call 80; (with_reducible refine (CF.out _ HJ4.out).mono ?_); rintro r w5 ⟨rfl, hb⟩; have HN5 := Aside0.mk (HN4.out.step hb); have HJ5 := Aside0.mk (HJ4.out.step hb); clear hb hcn hln hfn hcb hce hlb hle hlr; have hcb := fun i => blk_cell HJ5.out.b i; have hce := fun i => blk_cell HJ5.out.e_ i; have hlb := blk_lt HJ5.out.b; have hle := blk_lt HJ5.out.e_; have hlr := (by obtain ⟨_, _, q⟩ := HJ5.out.r; exact blk_lt q : w.heap.size + 1 + 1 < _)) | (go_at_call 81; (with_reducible refine (CA.out _ HJ5.out).mono ?_); rintro r w7 ⟨A2, c2, rfl, hk1, hb⟩; have HN7 := Aside0.mk (HN5.out.next hb hk1); have hcn7 := fun i => blk_cell (HN5.out.step hb).nb_ i; have hfn7 := fun i => blk_frozen (HN5.out.step hb).nb_ i; have hln7 := blk_lt (HN5.out.step hb).nb_; clear hb hk1 hcb hce hlb hle hlr))
 clear hcn7 hfn7 hln7
 have hcb := fun i => blk_cell HN7.out.rj.b i
 have hce := fun i => blk_cell HN7.out.rj.e_ i
 have hlb := blk_lt HN7.out.rj.b
 have hle := blk_lt HN7.out.rj.e_
 have hlr := (by obtain ⟨_, _, q⟩ := HN7.out.rj.r; exact blk_lt q : w.heap.size + 1 + 1 < _)
 have hcn := fun i => blk_cell HN7.out.nb_ i
 have hln := blk_lt HN7.out.nb_
 go_upto_region 38 with (fail)
 obtain ⟨rs, hrs, hrr⟩ := HN7.out.rj.r
 obtain ⟨x0, x1, rfl⟩ : ∃ x0 x1, rs = #[x0, x1] := by rcases rs with ⟨_ | ⟨x0, _ | ⟨x1, _ | _⟩⟩⟩ <;> simp at hrs; exact ⟨_, _, rfl⟩
 have hcr := fun i => blk_cell hrr i
 have hfr := fun i => blk_frozen hrr i
 clear hrs
 go_wp2
 have HE := Aside0.mk (show KR _ B (.slice A2 (armR m.L e.new e.t).length c2) (armR m.L e.new e.t) from KR.keep (KR.keep HN7.out.kn (W1 := World.setCell _ ⟨w.heap.size + 1 + 1, 0, none⟩ (.int .i64 m.clk)) fun g cs hg => Below.heap_setCell _ _ _ _ (types_ne hg hrr (by decide))) (W1 := World.setCell (World.setCell _ ⟨w.heap.size + 1 + 1, 0, none⟩ (.int .i64 m.clk)) ⟨w.heap.size + 1 + 1, 1, none⟩ (.slice A2 (armR m.L e.new e.t).length c2)) fun g cs hg => Below.heap_setCell _ _ _ _ (types_ne hg (blk_put hrr 0 _ rfl) (by decide)))
 have HBL := Aside0.mk (below_set (g := w.heap.size + 1 + 1) (j := 1) (v := .slice A2 (armR m.L e.new e.t).length c2) (below_set (g := w.heap.size + 1 + 1) (j := 0) (v := .int .i64 m.clk) HN7.out.rj.below (by omega)) (by omega))
 unfold RdPost
 rw [HF.out]
 exact bodyPost_ret (v := .tuple #[.agg #[.int .i64 m.clk, .slice A2 (armR m.L e.new e.t).length c2], .int .i64 0]) (by simp [results, Try.results45, asAddr, go_sem, hu0, hcr, hlr]) rfl ⟨_, rfl, HE.out, HBL.out⟩
theorem rdo_start_no {w : World} {B : Nat} (m : Rm) (v : Value) (e : Au.Ev) (hn : m.L.length ≤ 90000) (nd : (m.L.map S127.h).Nodup) (hB : B ≤ w.heap.size) (h : KR w B v m.L) (hr : rightJ e = true) (hk : e.k = 3) (ho : e.op = 1) (he : e.er = 0) (hf : freeR m.L e.new = false) :
  Calls Try.prog 45 #[.agg #[.int .i64 m.clk, v], .agg (evA e)] w (RdPost B w (rdoF m e)) := by
 have hu0 := Try.underlying43
 have hu1 := Try.underlying36
 have hu2 := Try.underlying50
 have hu3 := Try.underlying127
 have HF := Aside0.mk (show rdoF m e = (m, 6) by unfold rdoF; rw [if_neg (by rw [hr]; simp; omega), if_neg (by omega), if_neg (by omega)]; unfold rpF; rw [if_pos ho, if_pos he, if_neg (by rw [hf]; simp)])
 have qk1 : (e.k == 1) = false := beq_eq_false_iff_ne.2 (by omega)
 have qk2 : (e.k == 2) = false := beq_eq_false_iff_ne.2 (by omega)
 have qk4 : (e.k == 4) = false := beq_eq_false_iff_ne.2 (by omega)
 have qk5 : (e.k == 5) = false := beq_eq_false_iff_ne.2 (by omega)
 have qp1 : (e.op == 1) = true := beq_iff_eq.2 (ho)
 have qp2 : (e.op == 2) = false := beq_eq_false_iff_ne.2 (by omega)
 have qp3 : (e.op == 3) = false := beq_eq_false_iff_ne.2 (by omega)
 have qp4 : (e.op == 4) = false := beq_eq_false_iff_ne.2 (by omega)
 have qr0 : (e.er == 0) = true := beq_iff_eq.2 (he)
 have qr4 : (e.er == 4) = false := beq_eq_false_iff_ne.2 (by omega)
 obtain ⟨A, c, rfl⟩ := Kd.R_slice h
 have CR := Aside0.mk (fun W => rright_run e W)
 have CS : Aside0 (∀ W, KR W B (.slice A m.L.length c) m.L → Calls Try.prog 35 #[.agg #[.int .i64 m.clk, .slice A m.L.length c], .agg #[.int .i64 e.hn, .int .i64 e.hg]] W fun r w' => r = .returned (.int .i64 (statR m.L e.h)) ∧ Below W.heap.size W w') := ⟨fun W hW => stat_calls hW (by omega) e.hn e.hg⟩
 have HN := Aside0.mk hn
 have HND := Aside0.mk nd
 have HB := Aside0.mk hB
 have HJ := Aside0.mk (Rj.start h m.clk e)
 rw [hr] at CR
 have CF : Aside0 (∀ W, Rj B w W m.clk (.slice A m.L.length c) m.L e → Calls Try.prog 80 #[.agg #[.int .i64 m.clk, .slice A m.L.length c], .agg #[.int .i64 e.nn, .int .i64 e.ng]] W fun r w' => r = .returned (.bool false) ∧ Below W.heap.size W w') := ⟨fun W hW => by have := free_calls (clk := m.clk) hW.kr (by omega) e.nn e.ng; rw [show freeR m.L (e.nn, e.ng) = false from hf] at this; exact this⟩
 have CA : Aside0 (∀ W, Rj B w W m.clk (.slice A m.L.length c) m.L e → Calls Try.prog 81 #[.agg #[.int .i64 m.clk, .slice A m.L.length c], .agg #[.int .i64 e.nn, .int .i64 e.ng], .int .i64 e.t] W fun r w' => ∃ A1 c1, r = .returned (.agg #[.int .i64 m.clk, .slice A1 (armR m.L e.new e.t).length c1]) ∧ KR w' B (.slice A1 (armR m.L e.new e.t).length c1) (armR m.L e.new e.t) ∧ Below W.heap.size W w') := ⟨fun W hW => arm_calls hW.kr (by have := hW.below.size; omega) (by omega) e.nn e.ng e.t⟩
 clear hn nd hB h hr hk ho he hf
 have hcb := fun i => blk_cell HJ.out.b i
 have hce := fun i => blk_cell HJ.out.e_ i
 have hlb := blk_lt HJ.out.b
 have hle := blk_lt HJ.out.e_
 have hlr := (by obtain ⟨_, _, q⟩ := HJ.out.r; exact blk_lt q : w.heap.size + 1 + 1 < _)
 obtain ⟨sv, hsv⟩ : ∃ sv, statR m.L e.h = sv := ⟨_, rfl⟩
 try rw [hsv] at CS
 try rw [hsv] at qs
 clear hsv
 go_enter Try.func45, Try.ntmps45
 go_upto_region 14 with (first | (go_at_call 62; (with_reducible refine (CR.out _).mono ?_); rintro r w2 ⟨rfl, hb⟩; have HJ2 := Aside0.mk (HJ.out.step hb); clear hb hcb hce hlb hle hlr HJ; have HJ := HJ2; clear HJ2; have hcb := fun i => blk_cell HJ.out.b i; have hce := fun i => blk_cell HJ.out.e_ i; have hlb := blk_lt HJ.out.b; have hle := blk_lt HJ.out.e_; have hlr := (by obtain ⟨_, _, q⟩ := HJ.out.r; exact blk_lt q : w.heap.size + 1 + 1 < _)) | (go_at_call 35; (with_reducible refine (CS.out _ HJ.out.kr).mono ?_); rintro r w3 ⟨rfl, hb⟩; have HJ2 := Aside0.mk (HJ.out.step hb); clear hb hcb hce hlb hle hlr HJ; have HJ := HJ2; clear HJ2; have hcb := fun i => blk_cell HJ.out.b i; have hce := fun i => blk_cell HJ.out.e_ i; have hlb := blk_lt HJ.out.b; have hle := blk_lt HJ.out.e_; have hlr := (by obtain ⟨_, _, q⟩ := HJ.out.r; exact blk_lt q : w.heap.size + 1 + 1 < _)))
 go_upto_region 15 with (fail)
 obtain ⟨nb, hnb⟩ : ∃ nb, w3.heap.size = nb := ⟨_, rfl⟩
 refine gen_world' (fun W => Nj B w W m.clk (.slice A m.L.length c) m.L e nb (.slice A m.L.length c) m.L) (by rw [← hnb]; exact Nj.start HJ.out) fun w4 H4 => ?_
 have HN4 := Aside0.mk H4
 have HJ4 := Aside0.mk H4.rj
 clear H4 HJ
 clear hcb hce hlb hle hlr
 have hcb := fun i => blk_cell HJ4.out.b i
 have hce := fun i => blk_cell HJ4.out.e_ i
 have hlb := blk_lt HJ4.out.b
 have hle := blk_lt HJ4.out.e_
 have hlr := (by obtain ⟨_, _, q⟩ := HJ4.out.r; exact blk_lt q : w.heap.size + 1 + 1 < _)
 have hcn := fun i => blk_cell HN4.out.nb_ i
 have hln := blk_lt HN4.out.nb_
 have hfn := fun i => blk_frozen HN4.out.nb_ i
 go_upto_region 36 with (first | (go_at_call 80; (with_reducible refine (CF.out _ HJ4.out).mono ?_); rintro r w5 ⟨rfl, hb⟩; have HN5 := Aside0.mk (HN4.out.step hb); have HJ5 := Aside0.mk (HJ4.out.step hb); clear hb hcn hln hfn hcb hce hlb hle hlr; have hcb := fun i => blk_cell HJ5.out.b i; have hce := fun i => blk_cell HJ5.out.e_ i; have hlb := blk_lt HJ5.out.b; have hle := blk_lt HJ5.out.e_; have hlr := (by obtain ⟨_, _, q⟩ := HJ5.out.r; exact blk_lt q : w.heap.size + 1 + 1 < _)) | (go_at_call 81; (with_reducible refine (CA.out _ HJ5.out).mono ?_); rintro r w7 ⟨A2, c2, rfl, hk1, hb⟩; have HN7 := Aside0.mk (HN5.out.next hb hk1); have hcn7 := fun i => blk_cell (HN5.out.step hb).nb_ i; have hfn7 := fun i => blk_frozen (HN5.out.step hb).nb_ i; have hln7 := blk_lt (HN5.out.step hb).nb_; clear hb hk1 hcb hce hlb hle hlr))
 clear hcn7 hfn7 hln7
 have hcb := fun i => blk_cell HN7.out.rj.b i
 have hce := fun i => blk_cell HN7.out.rj.e_ i
 have hlb := blk_lt HN7.out.rj.b
 have hle := blk_lt HN7.out.rj.e_
 have hlr := (by obtain ⟨_, _, q⟩ := HN7.out.rj.r; exact blk_lt q : w.heap.size + 1 + 1 < _)
 have hcn := fun i => blk_cell HN7.out.nb_ i
 have hln := blk_lt HN7.out.nb_
 go_upto_region 37 with (fail)
 obtain ⟨rs, hrs, hrr⟩ := HN7.out.rj.r
 obtain ⟨x0, x1, rfl⟩ : ∃ x0 x1, rs = #[x0, x1] := by rcases rs with ⟨_ | ⟨x0, _ | ⟨x1, _ | _⟩⟩⟩ <;> simp at hrs; exact ⟨_, _, rfl⟩
 have hcr := fun i => blk_cell hrr i
 have hfr := fun i => blk_frozen hrr i
 clear hrs
 go_wp2
 have HE := Aside0.mk (show KR _ B (.slice A m.L.length c) m.L from KR.keep (KR.keep HN7.out.rj.kr (W1 := World.setCell _ ⟨w.heap.size + 1 + 1, 0, none⟩ (.int .i64 m.clk)) fun g cs hg => Below.heap_setCell _ _ _ _ (types_ne hg hrr (by decide))) (W1 := World.setCell (World.setCell _ ⟨w.heap.size + 1 + 1, 0, none⟩ (.int .i64 m.clk)) ⟨w.heap.size + 1 + 1, 1, none⟩ (.slice A m.L.length c)) fun g cs hg => Below.heap_setCell _ _ _ _ (types_ne hg (blk_put hrr 0 _ rfl) (by decide)))
 have HBL := Aside0.mk (below_set (g := w.heap.size + 1 + 1) (j := 1) (v := .slice A m.L.length c) (below_set (g := w.heap.size + 1 + 1) (j := 0) (v := .int .i64 m.clk) HN7.out.rj.below (by omega)) (by omega))
 unfold RdPost
 rw [HF.out]
 exact bodyPost_ret (v := .tuple #[.agg #[.int .i64 m.clk, .slice A m.L.length c], .int .i64 6]) (by simp [results, Try.results45, asAddr, go_sem, hu0, hcr, hlr]) rfl ⟨_, rfl, HE.out, HBL.out⟩
theorem rdo_rearm_no_a {w : World} {B : Nat} (m : Rm) (v : Value) (e : Au.Ev) (hn : m.L.length ≤ 90000) (nd : (m.L.map S127.h).Nodup) (hB : B ≤ w.heap.size) (h : KR w B v m.L) (hr : rightJ e = true) (hk : e.k = 3) (ho : e.op = 3) (he : e.er = 0) (ha : ¬ statR m.L e.h = 1) :
  Calls Try.prog 45 #[.agg #[.int .i64 m.clk, v], .agg (evA e)] w (RdPost B w (rdoF m e)) := by
 have hu0 := Try.underlying43
 have hu1 := Try.underlying36
 have hu2 := Try.underlying50
 have hu3 := Try.underlying127
 have HF := Aside0.mk (show rdoF m e = (m, 6) by unfold rdoF; rw [if_neg (by rw [hr]; simp; omega), if_neg (by omega), if_neg (by omega)]; unfold rpF; rw [if_neg (by omega), if_neg (by omega), if_pos ho, if_neg (by omega), if_pos he, if_neg (fun q => ha q.1)])
 have qk1 : (e.k == 1) = false := beq_eq_false_iff_ne.2 (by omega)
 have qk2 : (e.k == 2) = false := beq_eq_false_iff_ne.2 (by omega)
 have qk4 : (e.k == 4) = false := beq_eq_false_iff_ne.2 (by omega)
 have qk5 : (e.k == 5) = false := beq_eq_false_iff_ne.2 (by omega)
 have qp1 : (e.op == 1) = false := beq_eq_false_iff_ne.2 (by omega)
 have qp2 : (e.op == 2) = false := beq_eq_false_iff_ne.2 (by omega)
 have qp3 : (e.op == 3) = true := beq_iff_eq.2 (ho)
 have qp4 : (e.op == 4) = false := beq_eq_false_iff_ne.2 (by omega)
 have qr0 : (e.er == 0) = true := beq_iff_eq.2 (he)
 have qr4 : (e.er == 4) = false := beq_eq_false_iff_ne.2 (by omega)
 have qs : (statR m.L e.h == 1) = false := beq_eq_false_iff_ne.2 (ha)
 obtain ⟨A, c, rfl⟩ := Kd.R_slice h
 have CR := Aside0.mk (fun W => rright_run e W)
 have CS : Aside0 (∀ W, KR W B (.slice A m.L.length c) m.L → Calls Try.prog 35 #[.agg #[.int .i64 m.clk, .slice A m.L.length c], .agg #[.int .i64 e.hn, .int .i64 e.hg]] W fun r w' => r = .returned (.int .i64 (statR m.L e.h)) ∧ Below W.heap.size W w') := ⟨fun W hW => stat_calls hW (by omega) e.hn e.hg⟩
 have HN := Aside0.mk hn
 have HND := Aside0.mk nd
 have HB := Aside0.mk hB
 have HJ := Aside0.mk (Rj.start h m.clk e)
 rw [hr] at CR
 clear hn nd hB h hr hk ho he ha
 have hcb := fun i => blk_cell HJ.out.b i
 have hce := fun i => blk_cell HJ.out.e_ i
 have hlb := blk_lt HJ.out.b
 have hle := blk_lt HJ.out.e_
 have hlr := (by obtain ⟨_, _, q⟩ := HJ.out.r; exact blk_lt q : w.heap.size + 1 + 1 < _)
 obtain ⟨sv, hsv⟩ : ∃ sv, statR m.L e.h = sv := ⟨_, rfl⟩
 try rw [hsv] at CS
 try rw [hsv] at qs
 clear hsv
 go_enter Try.func45, Try.ntmps45
 go_upto_region 14 with (first | (go_at_call 62; (with_reducible refine (CR.out _).mono ?_); rintro r w2 ⟨rfl, hb⟩; have HJ2 := Aside0.mk (HJ.out.step hb); clear hb hcb hce hlb hle hlr HJ; have HJ := HJ2; clear HJ2; have hcb := fun i => blk_cell HJ.out.b i; have hce := fun i => blk_cell HJ.out.e_ i; have hlb := blk_lt HJ.out.b; have hle := blk_lt HJ.out.e_; have hlr := (by obtain ⟨_, _, q⟩ := HJ.out.r; exact blk_lt q : w.heap.size + 1 + 1 < _)) | (go_at_call 35; (with_reducible refine (CS.out _ HJ.out.kr).mono ?_); rintro r w3 ⟨rfl, hb⟩; have HJ2 := Aside0.mk (HJ.out.step hb); clear hb hcb hce hlb hle hlr HJ; have HJ := HJ2; clear HJ2; have hcb := fun i => blk_cell HJ.out.b i; have hce := fun i => blk_cell HJ.out.e_ i; have hlb := blk_lt HJ.out.b; have hle := blk_lt HJ.out.e_; have hlr := (by obtain ⟨_, _, q⟩ := HJ.out.r; exact blk_lt q : w.heap.size + 1 + 1 < _)))
 go_upto_region 15 with (fail)
 obtain ⟨nb, hnb⟩ : ∃ nb, w3.heap.size = nb := ⟨_, rfl⟩
 refine gen_world' (fun W => Nj B w W m.clk (.slice A m.L.length c) m.L e nb (.slice A m.L.length c) m.L) (by rw [← hnb]; exact Nj.start HJ.out) fun w4 H4 => ?_
 have HN4 := Aside0.mk H4
 have HJ4 := Aside0.mk H4.rj
 clear H4 HJ
 clear hcb hce hlb hle hlr
 have hcb := fun i => blk_cell HJ4.out.b i
 have hce := fun i => blk_cell HJ4.out.e_ i
 have hlb := blk_lt HJ4.out.b
 have hle := blk_lt HJ4.out.e_
 have hlr := (by obtain ⟨_, _, q⟩ := HJ4.out.r; exact blk_lt q : w.heap.size + 1 + 1 < _)
 have hcn := fun i => blk_cell HN4.out.nb_ i
 have hln := blk_lt HN4.out.nb_
 have hfn := fun i => blk_frozen HN4.out.nb_ i
 go_upto_region 37 with (fail)
 obtain ⟨rs, hrs, hrr⟩ := HJ4.out.r
 obtain ⟨x0, x1, rfl⟩ : ∃ x0 x1, rs = #[x0, x1] := by rcases rs with ⟨_ | ⟨x0, _ | ⟨x1, _ | _⟩⟩⟩ <;> simp at hrs; exact ⟨_, _, rfl⟩
 have hcr := fun i => blk_cell hrr i
 have hfr := fun i => blk_frozen hrr i
 clear hrs
 go_wp2
 have HE := Aside0.mk (show KR _ B (.slice A m.L.length c) m.L from KR.keep (KR.keep HJ4.out.kr (W1 := World.setCell _ ⟨w.heap.size + 1 + 1, 0, none⟩ (.int .i64 m.clk)) fun g cs hg => Below.heap_setCell _ _ _ _ (types_ne hg hrr (by decide))) (W1 := World.setCell (World.setCell _ ⟨w.heap.size + 1 + 1, 0, none⟩ (.int .i64 m.clk)) ⟨w.heap.size + 1 + 1, 1, none⟩ (.slice A m.L.length c)) fun g cs hg => Below.heap_setCell _ _ _ _ (types_ne hg (blk_put hrr 0 _ rfl) (by decide)))
 have HBL := Aside0.mk (below_set (g := w.heap.size + 1 + 1) (j := 1) (v := .slice A m.L.length c) (below_set (g := w.heap.size + 1 + 1) (j := 0) (v := .int .i64 m.clk) HJ4.out.below (by omega)) (by omega))
 unfold RdPost
 rw [HF.out]
 exact bodyPost_ret (v := .tuple #[.agg #[.int .i64 m.clk, .slice A m.L.length c], .int .i64 6]) (by simp [results, Try.results45, asAddr, go_sem, hu0, hcr, hlr]) rfl ⟨_, rfl, HE.out, HBL.out⟩
theorem rdo_rearm_no_n {w : World} {B : Nat} (m : Rm) (v : Value) (e : Au.Ev) (hn : m.L.length ≤ 90000) (nd : (m.L.map S127.h).Nodup) (hB : B ≤ w.heap.size) (h : KR w B v m.L) (hr : rightJ e = true) (hk : e.k = 3) (ho : e.op = 3) (he : e.er = 0) (ha : statR m.L e.h = 1) (hx : ¬ e.nn = e.hn) :
  Calls Try.prog 45 #[.agg #[.int .i64 m.clk, v], .agg (evA e)] w (RdPost B w (rdoF m e)) := by
 have hu0 := Try.underlying43
 have hu1 := Try.underlying36
 have hu2 := Try.underlying50
 have hu3 := Try.underlying127
 have HF := Aside0.mk (show rdoF m e = (m, 6) by unfold rdoF; rw [if_neg (by rw [hr]; simp; omega), if_neg (by omega), if_neg (by omega)]; unfold rpF; rw [if_neg (by omega), if_neg (by omega), if_pos ho, if_neg (by omega), if_pos he, if_neg (fun q => hx q.2.1)])
 have qk1 : (e.k == 1) = false := beq_eq_false_iff_ne.2 (by omega)
 have qk2 : (e.k == 2) = false := beq_eq_false_iff_ne.2 (by omega)
 have qk4 : (e.k == 4) = false := beq_eq_false_iff_ne.2 (by omega)
 have qk5 : (e.k == 5) = false := beq_eq_false_iff_ne.2 (by omega)
 have qp1 : (e.op == 1) = false := beq_eq_false_iff_ne.2 (by omega)
 have qp2 : (e.op == 2) = false := beq_eq_false_iff_ne.2 (by omega)
 have qp3 : (e.op == 3) = true := beq_iff_eq.2 (ho)
 have qp4 : (e.op == 4) = false := beq_eq_false_iff_ne.2 (by omega)
 have qr0 : (e.er == 0) = true := beq_iff_eq.2 (he)
 have qr4 : (e.er == 4) = false := beq_eq_false_iff_ne.2 (by omega)
 have qs : (statR m.L e.h == 1) = true := beq_iff_eq.2 (ha)
 have x0 : (e.nn == e.hn) = false := beq_eq_false_iff_ne.2 (hx)
 obtain ⟨A, c, rfl⟩ := Kd.R_slice h
 have CR := Aside0.mk (fun W => rright_run e W)
 have CS : Aside0 (∀ W, KR W B (.slice A m.L.length c) m.L → Calls Try.prog 35 #[.agg #[.int .i64 m.clk, .slice A m.L.length c], .agg #[.int .i64 e.hn, .int .i64 e.hg]] W fun r w' => r = .returned (.int .i64 (statR m.L e.h)) ∧ Below W.heap.size W w') := ⟨fun W hW => stat_calls hW (by omega) e.hn e.hg⟩
 have HN := Aside0.mk hn
 have HND := Aside0.mk nd
 have HB := Aside0.mk hB
 have HJ := Aside0.mk (Rj.start h m.clk e)
 rw [hr] at CR
 clear hn nd hB h hr hk ho he ha hx
 have hcb := fun i => blk_cell HJ.out.b i
 have hce := fun i => blk_cell HJ.out.e_ i
 have hlb := blk_lt HJ.out.b
 have hle := blk_lt HJ.out.e_
 have hlr := (by obtain ⟨_, _, q⟩ := HJ.out.r; exact blk_lt q : w.heap.size + 1 + 1 < _)
 obtain ⟨sv, hsv⟩ : ∃ sv, statR m.L e.h = sv := ⟨_, rfl⟩
 try rw [hsv] at CS
 try rw [hsv] at qs
 clear hsv
 go_enter Try.func45, Try.ntmps45
 go_upto_region 14 with (first | (go_at_call 62; (with_reducible refine (CR.out _).mono ?_); rintro r w2 ⟨rfl, hb⟩; have HJ2 := Aside0.mk (HJ.out.step hb); clear hb hcb hce hlb hle hlr HJ; have HJ := HJ2; clear HJ2; have hcb := fun i => blk_cell HJ.out.b i; have hce := fun i => blk_cell HJ.out.e_ i; have hlb := blk_lt HJ.out.b; have hle := blk_lt HJ.out.e_; have hlr := (by obtain ⟨_, _, q⟩ := HJ.out.r; exact blk_lt q : w.heap.size + 1 + 1 < _)) | (go_at_call 35; (with_reducible refine (CS.out _ HJ.out.kr).mono ?_); rintro r w3 ⟨rfl, hb⟩; have HJ2 := Aside0.mk (HJ.out.step hb); clear hb hcb hce hlb hle hlr HJ; have HJ := HJ2; clear HJ2; have hcb := fun i => blk_cell HJ.out.b i; have hce := fun i => blk_cell HJ.out.e_ i; have hlb := blk_lt HJ.out.b; have hle := blk_lt HJ.out.e_; have hlr := (by obtain ⟨_, _, q⟩ := HJ.out.r; exact blk_lt q : w.heap.size + 1 + 1 < _)))
 go_upto_region 15 with (fail)
 obtain ⟨nb, hnb⟩ : ∃ nb, w3.heap.size = nb := ⟨_, rfl⟩
 refine gen_world' (fun W => Nj B w W m.clk (.slice A m.L.length c) m.L e nb (.slice A m.L.length c) m.L) (by rw [← hnb]; exact Nj.start HJ.out) fun w4 H4 => ?_
 have HN4 := Aside0.mk H4
 have HJ4 := Aside0.mk H4.rj
 clear H4 HJ
 clear hcb hce hlb hle hlr
 have hcb := fun i => blk_cell HJ4.out.b i
 have hce := fun i => blk_cell HJ4.out.e_ i
 have hlb := blk_lt HJ4.out.b
 have hle := blk_lt HJ4.out.e_
 have hlr := (by obtain ⟨_, _, q⟩ := HJ4.out.r; exact blk_lt q : w.heap.size + 1 + 1 < _)
 have hcn := fun i => blk_cell HN4.out.nb_ i
 have hln := blk_lt HN4.out.nb_
 have hfn := fun i => blk_frozen HN4.out.nb_ i
 go_upto_region 37 with (fail)
 obtain ⟨rs, hrs, hrr⟩ := HJ4.out.r
 obtain ⟨x0, x1, rfl⟩ : ∃ x0 x1, rs = #[x0, x1] := by rcases rs with ⟨_ | ⟨x0, _ | ⟨x1, _ | _⟩⟩⟩ <;> simp at hrs; exact ⟨_, _, rfl⟩
 have hcr := fun i => blk_cell hrr i
 have hfr := fun i => blk_frozen hrr i
 clear hrs
 go_wp2
 have HE := Aside0.mk (show KR _ B (.slice A m.L.length c) m.L from KR.keep (KR.keep HJ4.out.kr (W1 := World.setCell _ ⟨w.heap.size + 1 + 1, 0, none⟩ (.int .i64 m.clk)) fun g cs hg => Below.heap_setCell _ _ _ _ (types_ne hg hrr (by decide))) (W1 := World.setCell (World.setCell _ ⟨w.heap.size + 1 + 1, 0, none⟩ (.int .i64 m.clk)) ⟨w.heap.size + 1 + 1, 1, none⟩ (.slice A m.L.length c)) fun g cs hg => Below.heap_setCell _ _ _ _ (types_ne hg (blk_put hrr 0 _ rfl) (by decide)))
 have HBL := Aside0.mk (below_set (g := w.heap.size + 1 + 1) (j := 1) (v := .slice A m.L.length c) (below_set (g := w.heap.size + 1 + 1) (j := 0) (v := .int .i64 m.clk) HJ4.out.below (by omega)) (by omega))
 unfold RdPost
 rw [HF.out]
 exact bodyPost_ret (v := .tuple #[.agg #[.int .i64 m.clk, .slice A m.L.length c], .int .i64 6]) (by simp [results, Try.results45, asAddr, go_sem, hu0, hcr, hlr]) rfl ⟨_, rfl, HE.out, HBL.out⟩
theorem rdo_rearm_no_g {w : World} {B : Nat} (m : Rm) (v : Value) (e : Au.Ev) (hn : m.L.length ≤ 90000) (nd : (m.L.map S127.h).Nodup) (hB : B ≤ w.heap.size) (h : KR w B v m.L) (hr : rightJ e = true) (hk : e.k = 3) (ho : e.op = 3) (he : e.er = 0) (ha : statR m.L e.h = 1) (hx : e.nn = e.hn) (hz : ¬ e.ng = wrap64 (e.hg + 1)) :
  Calls Try.prog 45 #[.agg #[.int .i64 m.clk, v], .agg (evA e)] w (RdPost B w (rdoF m e)) := by
 have hu0 := Try.underlying43
 have hu1 := Try.underlying36
 have hu2 := Try.underlying50
 have hu3 := Try.underlying127
 have HF := Aside0.mk (show rdoF m e = (m, 6) by unfold rdoF; rw [if_neg (by rw [hr]; simp; omega), if_neg (by omega), if_neg (by omega)]; unfold rpF; rw [if_neg (by omega), if_neg (by omega), if_pos ho, if_neg (by omega), if_pos he, if_neg (fun q => hz q.2.2)])
 have qk1 : (e.k == 1) = false := beq_eq_false_iff_ne.2 (by omega)
 have qk2 : (e.k == 2) = false := beq_eq_false_iff_ne.2 (by omega)
 have qk4 : (e.k == 4) = false := beq_eq_false_iff_ne.2 (by omega)
 have qk5 : (e.k == 5) = false := beq_eq_false_iff_ne.2 (by omega)
 have qp1 : (e.op == 1) = false := beq_eq_false_iff_ne.2 (by omega)
 have qp2 : (e.op == 2) = false := beq_eq_false_iff_ne.2 (by omega)
 have qp3 : (e.op == 3) = true := beq_iff_eq.2 (ho)
 have qp4 : (e.op == 4) = false := beq_eq_false_iff_ne.2 (by omega)
 have qr0 : (e.er == 0) = true := beq_iff_eq.2 (he)
 have qr4 : (e.er == 4) = false := beq_eq_false_iff_ne.2 (by omega)
 have qs : (statR m.L e.h == 1) = true := beq_iff_eq.2 (ha)
 have x0 : (e.nn == e.hn) = true := beq_iff_eq.2 (hx)
 have z0 : (e.ng == wrap64 (e.hg + 1)) = false := beq_eq_false_iff_ne.2 (hz)
 obtain ⟨A, c, rfl⟩ := Kd.R_slice h
 have CR := Aside0.mk (fun W => rright_run e W)
 have CS : Aside0 (∀ W, KR W B (.slice A m.L.length c) m.L → Calls Try.prog 35 #[.agg #[.int .i64 m.clk, .slice A m.L.length c], .agg #[.int .i64 e.hn, .int .i64 e.hg]] W fun r w' => r = .returned (.int .i64 (statR m.L e.h)) ∧ Below W.heap.size W w') := ⟨fun W hW => stat_calls hW (by omega) e.hn e.hg⟩
 have HN := Aside0.mk hn
 have HND := Aside0.mk nd
 have HB := Aside0.mk hB
 have HJ := Aside0.mk (Rj.start h m.clk e)
 rw [hr] at CR
 clear hn nd hB h hr hk ho he ha hx hz
 have hcb := fun i => blk_cell HJ.out.b i
 have hce := fun i => blk_cell HJ.out.e_ i
 have hlb := blk_lt HJ.out.b
 have hle := blk_lt HJ.out.e_
 have hlr := (by obtain ⟨_, _, q⟩ := HJ.out.r; exact blk_lt q : w.heap.size + 1 + 1 < _)
 obtain ⟨sv, hsv⟩ : ∃ sv, statR m.L e.h = sv := ⟨_, rfl⟩
 try rw [hsv] at CS
 try rw [hsv] at qs
 clear hsv
 go_enter Try.func45, Try.ntmps45
 go_upto_region 14 with (first | (go_at_call 62; (with_reducible refine (CR.out _).mono ?_); rintro r w2 ⟨rfl, hb⟩; have HJ2 := Aside0.mk (HJ.out.step hb); clear hb hcb hce hlb hle hlr HJ; have HJ := HJ2; clear HJ2; have hcb := fun i => blk_cell HJ.out.b i; have hce := fun i => blk_cell HJ.out.e_ i; have hlb := blk_lt HJ.out.b; have hle := blk_lt HJ.out.e_; have hlr := (by obtain ⟨_, _, q⟩ := HJ.out.r; exact blk_lt q : w.heap.size + 1 + 1 < _)) | (go_at_call 35; (with_reducible refine (CS.out _ HJ.out.kr).mono ?_); rintro r w3 ⟨rfl, hb⟩; have HJ2 := Aside0.mk (HJ.out.step hb); clear hb hcb hce hlb hle hlr HJ; have HJ := HJ2; clear HJ2; have hcb := fun i => blk_cell HJ.out.b i; have hce := fun i => blk_cell HJ.out.e_ i; have hlb := blk_lt HJ.out.b; have hle := blk_lt HJ.out.e_; have hlr := (by obtain ⟨_, _, q⟩ := HJ.out.r; exact blk_lt q : w.heap.size + 1 + 1 < _)))
 go_upto_region 15 with (fail)
 obtain ⟨nb, hnb⟩ : ∃ nb, w3.heap.size = nb := ⟨_, rfl⟩
 refine gen_world' (fun W => Nj B w W m.clk (.slice A m.L.length c) m.L e nb (.slice A m.L.length c) m.L) (by rw [← hnb]; exact Nj.start HJ.out) fun w4 H4 => ?_
 have HN4 := Aside0.mk H4
 have HJ4 := Aside0.mk H4.rj
 clear H4 HJ
 clear hcb hce hlb hle hlr
 have hcb := fun i => blk_cell HJ4.out.b i
 have hce := fun i => blk_cell HJ4.out.e_ i
 have hlb := blk_lt HJ4.out.b
 have hle := blk_lt HJ4.out.e_
 have hlr := (by obtain ⟨_, _, q⟩ := HJ4.out.r; exact blk_lt q : w.heap.size + 1 + 1 < _)
 have hcn := fun i => blk_cell HN4.out.nb_ i
 have hln := blk_lt HN4.out.nb_
 have hfn := fun i => blk_frozen HN4.out.nb_ i
 go_upto_region 37 with (fail)
 obtain ⟨rs, hrs, hrr⟩ := HJ4.out.r
 obtain ⟨x0, x1, rfl⟩ : ∃ x0 x1, rs = #[x0, x1] := by rcases rs with ⟨_ | ⟨x0, _ | ⟨x1, _ | _⟩⟩⟩ <;> simp at hrs; exact ⟨_, _, rfl⟩
 have hcr := fun i => blk_cell hrr i
 have hfr := fun i => blk_frozen hrr i
 clear hrs
 go_wp2
 have HE := Aside0.mk (show KR _ B (.slice A m.L.length c) m.L from KR.keep (KR.keep HJ4.out.kr (W1 := World.setCell _ ⟨w.heap.size + 1 + 1, 0, none⟩ (.int .i64 m.clk)) fun g cs hg => Below.heap_setCell _ _ _ _ (types_ne hg hrr (by decide))) (W1 := World.setCell (World.setCell _ ⟨w.heap.size + 1 + 1, 0, none⟩ (.int .i64 m.clk)) ⟨w.heap.size + 1 + 1, 1, none⟩ (.slice A m.L.length c)) fun g cs hg => Below.heap_setCell _ _ _ _ (types_ne hg (blk_put hrr 0 _ rfl) (by decide)))
 have HBL := Aside0.mk (below_set (g := w.heap.size + 1 + 1) (j := 1) (v := .slice A m.L.length c) (below_set (g := w.heap.size + 1 + 1) (j := 0) (v := .int .i64 m.clk) HJ4.out.below (by omega)) (by omega))
 unfold RdPost
 rw [HF.out]
 exact bodyPost_ret (v := .tuple #[.agg #[.int .i64 m.clk, .slice A m.L.length c], .int .i64 6]) (by simp [results, Try.results45, asAddr, go_sem, hu0, hcr, hlr]) rfl ⟨_, rfl, HE.out, HBL.out⟩
theorem rdo_rearm {w : World} {B : Nat} (m : Rm) (v : Value) (e : Au.Ev) (hn : m.L.length ≤ 90000) (nd : (m.L.map S127.h).Nodup) (hB : B ≤ w.heap.size) (h : KR w B v m.L) (hr : rightJ e = true) (hk : e.k = 3) (ho : e.op = 3) (he : e.er = 0) (ha : statR m.L e.h = 1) (hx : e.nn = e.hn) (hz : e.ng = wrap64 (e.hg + 1)) :
  Calls Try.prog 45 #[.agg #[.int .i64 m.clk, v], .agg (evA e)] w (RdPost B w (rdoF m e)) := by
 have hu0 := Try.underlying43
 have hu1 := Try.underlying36
 have hu2 := Try.underlying50
 have hu3 := Try.underlying127
 have HF := Aside0.mk (show rdoF m e = ({ m with L := armR (turnR m.L e.h 4) e.new e.t }, 0) by unfold rdoF; rw [if_neg (by rw [hr]; simp; omega), if_neg (by omega), if_neg (by omega)]; unfold rpF; rw [if_neg (by omega), if_neg (by omega), if_pos ho, if_neg (by omega), if_pos he, if_pos ⟨ha, hx, hz⟩])
 have qk1 : (e.k == 1) = false := beq_eq_false_iff_ne.2 (by omega)
 have qk2 : (e.k == 2) = false := beq_eq_false_iff_ne.2 (by omega)
 have qk4 : (e.k == 4) = false := beq_eq_false_iff_ne.2 (by omega)
 have qk5 : (e.k == 5) = false := beq_eq_false_iff_ne.2 (by omega)
 have qp1 : (e.op == 1) = false := beq_eq_false_iff_ne.2 (by omega)
 have qp2 : (e.op == 2) = false := beq_eq_false_iff_ne.2 (by omega)
 have qp3 : (e.op == 3) = true := beq_iff_eq.2 (ho)
 have qp4 : (e.op == 4) = false := beq_eq_false_iff_ne.2 (by omega)
 have qr0 : (e.er == 0) = true := beq_iff_eq.2 (he)
 have qr4 : (e.er == 4) = false := beq_eq_false_iff_ne.2 (by omega)
 have qs : (statR m.L e.h == 1) = true := beq_iff_eq.2 (ha)
 have x0 : (e.nn == e.hn) = true := beq_iff_eq.2 (hx)
 have z0 : (e.ng == wrap64 (e.hg + 1)) = true := beq_iff_eq.2 (hz)
 obtain ⟨A, c, rfl⟩ := Kd.R_slice h
 have CR := Aside0.mk (fun W => rright_run e W)
 have CS : Aside0 (∀ W, KR W B (.slice A m.L.length c) m.L → Calls Try.prog 35 #[.agg #[.int .i64 m.clk, .slice A m.L.length c], .agg #[.int .i64 e.hn, .int .i64 e.hg]] W fun r w' => r = .returned (.int .i64 (statR m.L e.h)) ∧ Below W.heap.size W w') := ⟨fun W hW => stat_calls hW (by omega) e.hn e.hg⟩
 have HN := Aside0.mk hn
 have HND := Aside0.mk nd
 have HB := Aside0.mk hB
 have HJ := Aside0.mk (Rj.start h m.clk e)
 rw [hr] at CR
 have CT : Aside0 (∀ W, Rj B w W m.clk (.slice A m.L.length c) m.L e → Calls Try.prog 79 #[.agg #[.int .i64 m.clk, .slice A m.L.length c], .agg #[.int .i64 e.hn, .int .i64 e.hg], .int .i64 4] W fun r w' => ∃ A1 c1, r = .returned (.agg #[.int .i64 m.clk, .slice A1 (turnR m.L e.h 4).length c1]) ∧ KR w' B (.slice A1 (turnR m.L e.h 4).length c1) (turnR m.L e.h 4) ∧ Below W.heap.size W w') := ⟨fun W hW => turn_calls hW.kr (by have := hW.below.size; omega) (by omega) e.hn e.hg 4 nd (stat_ex ha)⟩
 have CA : Aside0 (∀ W A1 c1, KR W B (.slice A1 (turnR m.L e.h 4).length c1) (turnR m.L e.h 4) → w.heap.size ≤ W.heap.size → Calls Try.prog 81 #[.agg #[.int .i64 m.clk, .slice A1 (turnR m.L e.h 4).length c1], .agg #[.int .i64 e.nn, .int .i64 e.ng], .int .i64 e.t] W fun r w' => ∃ A2 c2, r = .returned (.agg #[.int .i64 m.clk, .slice A2 (armR (turnR m.L e.h 4) e.new e.t).length c2]) ∧ KR w' B (.slice A2 (armR (turnR m.L e.h 4) e.new e.t).length c2) (armR (turnR m.L e.h 4) e.new e.t) ∧ Below W.heap.size W w') := ⟨fun W A1 c1 hW hz => arm_calls hW (by omega) (by unfold turnR; rw [List.length_map]; omega) e.nn e.ng e.t⟩
 clear hn nd hB h hr hk ho he ha hx hz
 have hcb := fun i => blk_cell HJ.out.b i
 have hce := fun i => blk_cell HJ.out.e_ i
 have hlb := blk_lt HJ.out.b
 have hle := blk_lt HJ.out.e_
 have hlr := (by obtain ⟨_, _, q⟩ := HJ.out.r; exact blk_lt q : w.heap.size + 1 + 1 < _)
 obtain ⟨sv, hsv⟩ : ∃ sv, statR m.L e.h = sv := ⟨_, rfl⟩
 try rw [hsv] at CS
 try rw [hsv] at qs
 clear hsv
 go_enter Try.func45, Try.ntmps45
 go_upto_region 14 with (first | (go_at_call 62; (with_reducible refine (CR.out _).mono ?_); rintro r w2 ⟨rfl, hb⟩; have HJ2 := Aside0.mk (HJ.out.step hb); clear hb hcb hce hlb hle hlr HJ; have HJ := HJ2; clear HJ2; have hcb := fun i => blk_cell HJ.out.b i; have hce := fun i => blk_cell HJ.out.e_ i; have hlb := blk_lt HJ.out.b; have hle := blk_lt HJ.out.e_; have hlr := (by obtain ⟨_, _, q⟩ := HJ.out.r; exact blk_lt q : w.heap.size + 1 + 1 < _)) | (go_at_call 35; (with_reducible refine (CS.out _ HJ.out.kr).mono ?_); rintro r w3 ⟨rfl, hb⟩; have HJ2 := Aside0.mk (HJ.out.step hb); clear hb hcb hce hlb hle hlr HJ; have HJ := HJ2; clear HJ2; have hcb := fun i => blk_cell HJ.out.b i; have hce := fun i => blk_cell HJ.out.e_ i; have hlb := blk_lt HJ.out.b; have hle := blk_lt HJ.out.e_; have hlr := (by obtain ⟨_, _, q⟩ := HJ.out.r; exact blk_lt q : w.heap.size + 1 + 1 < _)))
 go_upto_region 15 with (fail)
 obtain ⟨nb, hnb⟩ : ∃ nb, w3.heap.size = nb := ⟨_, rfl⟩
 refine gen_world' (fun W => Nj B w W m.clk (.slice A m.L.length c) m.L e nb (.slice A m.L.length c) m.L) (by rw [← hnb]; exact Nj.start HJ.out) fun w4 H4 => ?_
 have HN4 := Aside0.mk H4
 have HJ4 := Aside0.mk H4.rj
 clear H4 HJ
 clear hcb hce hlb hle hlr
 have hcb := fun i => blk_cell HJ4.out.b i
 have hce := fun i => blk_cell HJ4.out.e_ i
 have hlb := blk_lt HJ4.out.b
 have hle := blk_lt HJ4.out.e_
 have hlr := (by obtain ⟨_, _, q⟩ := HJ4.out.r; exact blk_lt q : w.heap.size + 1 + 1 < _)
 have hcn := fun i => blk_cell HN4.out.nb_ i
 have hln := blk_lt HN4.out.nb_
 have hfn := fun i => blk_frozen HN4.out.nb_ i
 go_upto_region 30 with (fail)
 refine start_ (n := 10) (S := (fun w' => (∀ i, w'.cell? ⟨w.heap.size, i, none⟩ = (#[.int .i64 m.clk, .slice A m.L.length c] : Array Value)[i]?) ∧ (∀ i, w'.cell? ⟨w.heap.size + 1, i, none⟩ = (evA e)[i]?) ∧ (∀ i, w'.cell? ⟨nb, i, none⟩ = (#[.int .i64 m.clk, .slice A m.L.length c] : Array Value)[i]?) ∧ (∀ i, w'.frozen? ⟨nb, i, none⟩ = false))) (ds := [9]) #[ff,ff,ff,ff,ff,ff,ff,ff,ff,ff] (by kernel_rfl) rfl rfl ⟨fun i => blk_cell HN4.out.drew.rj.b i, fun i => blk_cell HN4.out.drew.rj.e_ i, fun i => blk_cell HN4.out.drew.nb_ i, fun i => blk_frozen HN4.out.drew.nb_ i⟩ (fun hHeld => ?_)
 refine with_tabW rdR.tab30 rdR.bits30 (fun HT_ HW_ => ?_)
 have HN5 := Aside0.mk HN4.out.drew
 generalize w4.drew = w5 at HN5 hHeld ⊢
 clear HN4 HJ4 hcn hln hfn
 clear hcb hce hlb hle hlr
 have hlb := blk_lt HN5.out.rj.b
 have hle := blk_lt HN5.out.rj.e_
 have hlr := (by obtain ⟨_, _, q⟩ := HN5.out.rj.r; exact blk_lt q : w.heap.size + 1 + 1 < _)
 have hln := blk_lt HN5.out.nb_
 refine pure_ (i := 1) (N := (some 138)) (v := ?_) (a' := ?_) #[ff,tt,ff,ff,ff,ff,ff,ff,ff,ff] rfl rfl (any_of HT_.out (by kernel_rfl)) (fun _ _ _ h => h) (Or.inl ⟨by rfl, ?_⟩) ?_ ?_
 rotate_left
 ·intro w'
  go_simp
  with_reducible rfl
 rotate_left
 ·simp only [Act.put, sQ0, sQ1, sQ2, i64_w]
  rfl
 refine pure_ (i := 4) (N := (some 141)) (v := ?_) (a' := ?_) #[ff,tt,ff,ff,tt,ff,ff,ff,ff,ff] rfl rfl (any_of HT_.out (by kernel_rfl)) (fun _ _ _ h => h) (Or.inl ⟨by rfl, ?_⟩) ?_ ?_
 rotate_left
 ·intro w'
  go_simp
  with_reducible rfl
 rotate_left
 ·simp only [Act.put, sQ0, sQ1, sQ2, i64_w]
  rfl
 refine pure_ (i := 6) (N := (some 143)) (v := ?_) (a' := ?_) #[ff,tt,ff,ff,tt,ff,tt,ff,ff,ff] rfl rfl (any_of HT_.out (by kernel_rfl)) (fun _ _ _ h => h) (Or.inl ⟨by rfl, ?_⟩) ?_ ?_
 rotate_left
 ·intro w'
  go_simp
  with_reducible rfl
 rotate_left
 ·simp only [Act.put, sQ0, sQ1, sQ2, i64_w]
  rfl
 refine take_ (i := 0) (N := (some 137)) (v := ?_) (a' := ?_) #[tt,tt,ff,ff,tt,ff,tt,ff,ff,ff] rfl rfl (take_ofW HT_.out HW_.out (by kernel_rfl)) (fun _ _ _ h => h) (Or.inl ⟨by rfl, ?_⟩) hHeld ?_ ?_
 rotate_left
 ·rintro w' ⟨s0, s1, s2, s3⟩
  go_simp
  with_reducible rfl
 rotate_left
 ·simp only [Act.put, sQ0, sQ1, sQ2, i64_w]
  rfl
 refine take_ (i := 2) (N := (some 139)) (v := ?_) (a' := ?_) #[tt,tt,tt,ff,tt,ff,tt,ff,ff,ff] rfl rfl (take_ofW HT_.out HW_.out (by kernel_rfl)) (fun _ _ _ h => h) (Or.inl ⟨by rfl, ?_⟩) hHeld ?_ ?_
 rotate_left
 ·rintro w' ⟨s0, s1, s2, s3⟩
  go_simp
  with_reducible rfl
 rotate_left
 ·simp only [Act.put, sQ0, sQ1, sQ2, i64_w]
  rfl
 refine take_ (i := 5) (N := (some 142)) (v := ?_) (a' := ?_) #[tt,tt,tt,ff,tt,tt,tt,ff,ff,ff] rfl rfl (take_ofW HT_.out HW_.out (by kernel_rfl)) (fun _ _ _ h => h) (Or.inl ⟨by rfl, ?_⟩) hHeld ?_ ?_
 rotate_left
 ·rintro w' ⟨s0, s1, s2, s3⟩
  go_simp
  with_reducible rfl
 rotate_left
 ·simp only [Act.put, sQ0, sQ1, sQ2, i64_w]
  rfl
 refine take_ (i := 7) (N := (some 144)) (v := ?_) (a' := ?_) #[tt,tt,tt,ff,tt,tt,tt,tt,ff,ff] rfl rfl (take_ofW HT_.out HW_.out (by kernel_rfl)) (fun _ _ _ h => h) (Or.inl ⟨by rfl, ?_⟩) hHeld ?_ ?_
 rotate_left
 ·rintro w' ⟨s0, s1, s2, s3⟩
  go_simp
  with_reducible rfl
 rotate_left
 ·simp only [Act.put, sQ0, sQ1, sQ2, i64_w]
  rfl
 refine one_ (i := 3) (N := (some 140)) #[tt,tt,tt,tt,tt,tt,tt,tt,ff,ff] rfl rfl (one_of HT_.out (by kernel_rfl)) (by decide) (fun K hK => ?_)
 refine call_ (f := 79) #[.agg #[.int .i64 m.clk, .slice A m.L.length c], .agg #[.int .i64 e.hn, .int .i64 e.hg], .int .i64 4] (by rfl) rfl (by go_simp <;> rfl) ?_
 refine (CT.out w5 HN5.out.rj).mono ?_
 rintro r w6 ⟨A1, c1, rfl, hk1, hb⟩
 refine ⟨_, rfl, ?_⟩
 have HK1 := Aside0.mk hk1
 have HN6 := Aside0.mk (HN5.out.step hb)
 clear hb hk1
 refine hK.out _ _ ⟨fun i => blk_cell HN6.out.rj.b i, fun i => blk_cell HN6.out.rj.e_ i, fun i => blk_cell HN6.out.nb_ i, fun i => blk_frozen HN6.out.nb_ i⟩ (fun hHeld => ?_)
 clear hK K
 refine norm_ (a' := ?_) ?_ ?_
 rotate_left
 ·show Act.put _ (some 140) _ = _
  simp only [Act.put, sQ0, sQ1, sQ2, i64_w]
  rfl
 refine one_ (i := 8) (N := (some 145)) #[tt,tt,tt,tt,tt,tt,tt,tt,tt,ff] rfl rfl (one_of HT_.out (by kernel_rfl)) (by decide) (fun K hK => ?_)
 refine call_ (f := 81) #[.agg #[.int .i64 m.clk, .slice A1 (turnR m.L e.h 4).length c1], .agg #[.int .i64 e.nn, .int .i64 e.ng], .int .i64 e.t] (by rfl) rfl (by go_simp <;> rfl) ?_
 refine (CA.out w6 A1 c1 HK1.out HN6.out.rj.below.size).mono ?_
 rintro r w7 ⟨A2, c2, rfl, hk2, hb⟩
 refine ⟨_, rfl, ?_⟩
 have HN7 := Aside0.mk (HN6.out.next hb hk2)
 have HN6B := Aside0.mk (HN6.out.step hb)
 clear hb hk2
 refine hK.out _ _ ⟨fun i => blk_cell HN6B.out.rj.b i, fun i => blk_cell HN6B.out.rj.e_ i, fun i => blk_cell HN6B.out.nb_ i, fun i => blk_frozen HN6B.out.nb_ i⟩ (fun hHeld => ?_)
 clear hK K
 refine norm_ (a' := ?_) ?_ ?_
 rotate_left
 ·show Act.put _ (some 145) _ = _
  simp only [Act.put, sQ0, sQ1, sQ2, i64_w]
  rfl
 refine last_ (i := 9) (N := none) #[tt,tt,tt,tt,tt,tt,tt,tt,tt,tt] rfl rfl (one_of HT_.out (by kernel_rfl)) (by decide) (fun K hK => ?_)
 refine skip_ (by rfl) rfl (w1 := (w7.setCell ⟨nb, 0, none⟩ (.int .i64 m.clk)).setCell ⟨nb, 1, none⟩ (.slice A2 (armR (turnR m.L e.h 4) e.new e.t).length c2)) (by have q0 := hHeld.2.2.1; have q1 := hHeld.2.2.2; have q2 := blk_lt HN6B.out.nb_; go_simp <;> rfl) ?_
 refine hK.out _ _ ?_
 clear hK K
 refine done_ (done_of HT_.out (by kernel_rfl)) ?_
 clear hlb hle hlr hln
 clear hHeld
 have hcb := fun i => blk_cell HN7.out.rj.b i
 have hce := fun i => blk_cell HN7.out.rj.e_ i
 have hlb := blk_lt HN7.out.rj.b
 have hle := blk_lt HN7.out.rj.e_
 have hlr := (by obtain ⟨_, _, q⟩ := HN7.out.rj.r; exact blk_lt q : w.heap.size + 1 + 1 < _)
 have hcn := fun i => blk_cell HN7.out.nb_ i
 have hln := blk_lt HN7.out.nb_
 go_upto_region 38 with (fail)
 obtain ⟨rs, hrs, hrr⟩ := HN7.out.rj.r
 obtain ⟨x0, x1, rfl⟩ : ∃ x0 x1, rs = #[x0, x1] := by rcases rs with ⟨_ | ⟨x0, _ | ⟨x1, _ | _⟩⟩⟩ <;> simp at hrs; exact ⟨_, _, rfl⟩
 have hcr := fun i => blk_cell hrr i
 have hfr := fun i => blk_frozen hrr i
 clear hrs
 go_wp2
 have HE := Aside0.mk (show KR _ B (.slice A2 (armR (turnR m.L e.h 4) e.new e.t).length c2) (armR (turnR m.L e.h 4) e.new e.t) from KR.keep (KR.keep HN7.out.kn (W1 := World.setCell _ ⟨w.heap.size + 1 + 1, 0, none⟩ (.int .i64 m.clk)) fun g cs hg => Below.heap_setCell _ _ _ _ (types_ne hg hrr (by decide))) (W1 := World.setCell (World.setCell _ ⟨w.heap.size + 1 + 1, 0, none⟩ (.int .i64 m.clk)) ⟨w.heap.size + 1 + 1, 1, none⟩ (.slice A2 (armR (turnR m.L e.h 4) e.new e.t).length c2)) fun g cs hg => Below.heap_setCell _ _ _ _ (types_ne hg (blk_put hrr 0 _ rfl) (by decide)))
 have HBL := Aside0.mk (below_set (g := w.heap.size + 1 + 1) (j := 1) (v := .slice A2 (armR (turnR m.L e.h 4) e.new e.t).length c2) (below_set (g := w.heap.size + 1 + 1) (j := 0) (v := .int .i64 m.clk) HN7.out.rj.below (by omega)) (by omega))
 unfold RdPost
 rw [HF.out]
 exact bodyPost_ret (v := .tuple #[.agg #[.int .i64 m.clk, .slice A2 (armR (turnR m.L e.h 4) e.new e.t).length c2], .int .i64 0]) (by simp [results, Try.results45, asAddr, go_sem, hu0, hcr, hlr]) rfl ⟨_, rfl, HE.out, HBL.out⟩
end Go.Proofs.Ythniclbmpeklmaa.KJf
end
section
namespace Go.Proofs.Ythniclbmpeklmaa.KJf
open Go.RowKit Go.Maps Go.Proofs.YthniclbmpeklmaaW.PrintWords Go.Proofs.YthniclbmpeklmaaW.PrintLast Go.Proofs.YthniclbmpeklmaaW.PrintMore Go.Proofs.Ythniclbmpeklmaa.Ju Go.Proofs.Ythniclbmpeklmaa.Mo
open Go.Proofs.Ythniclbmpeklmaa.Au (Ha RowIs types_ne evA Fr)
open Go.Proofs.YthniclbmpeklmaaW.PrintWords renaming Ev → PE
set_option linter.unusedVariables false
set_option linter.unusedSimpArgs false
attribute [local go_sem high] eqTm
theorem rarmeds_any {W : World} {B : Nat} {clk : Int} {A : Option Addr} {c : Nat} {L : List S127} (h : KR W B (.slice A L.length c) L) (hn : L.length ≤ 1000000) : Calls Try.prog 82 #[.agg #[.int .i64 clk, .slice A L.length c]] W fun r w' => ∃ v, r = .returned v ∧ KR w' W.heap.size v (armedsR L) ∧ Below W.heap.size W w' := by
 obtain ⟨k, hk⟩ := PE.rounds (armeds_is clk L hn)
 exact knellref12_Armeds.calls k clk A c L _ W h.C.1 h.C.2 hk
theorem rleast_any {W : World} {B : Nat} {clk : Int} {A : Option Addr} {c : Nat} {L : List S127} (h : KR W B (.slice A L.length c) L) (hn : L.length ≤ 1000000) : Calls Try.prog 83 #[.agg #[.int .i64 clk, .slice A L.length c]] W fun r w' => r = .returned (.int .i64 (L.foldl leastS (-1))) ∧ Below W.heap.size W w' := by
 obtain ⟨k, hk⟩ := PE.rounds (least_is clk L hn)
 exact knellref12_Least.calls k clk A c L _ W h.C.1 h.C.2 hk
structure Iw (w W : World) (B b n m1 m2 : Nat) (m : Md) (r : Rm) (A : Option Addr) (c ib : Nat) : Prop where
 md : MdIs W B b n m m1 m2
 kr : KR W B (.slice A r.L.length c) r.L
 ib_ : W.heap[ib]? = some (.cells #[.int .i64 r.clk, .slice A r.L.length c] 43 (0, 0))
 bel : Below w.heap.size w W
theorem Iw.step {w W W1 : World} {B b n m1 m2 : Nat} {m : Md} {r : Rm} {A : Option Addr} {c ib : Nat} (h : Iw w W B b n m1 m2 m r A c ib) (hb : Below W.heap.size W W1) : Iw w W1 B b n m1 m2 m r A c ib := ⟨h.md.below hb, Kd.R_below h.kr hb, blk_below h.ib_ hb, below_step h.bel hb⟩
structure Iv (w W : World) (B b n m1 m2 : Nat) (m : Md) (r : Rm) (A : Option Addr) (c ib : Nat) (A2 : Option Addr) (c2 : Nat) (A3 : Option Addr) (c3 : Nat) (R : List S127) : Prop where
 iw : Iw w W B b n m1 m2 m r A c ib
 row : RowIs W w.heap.size 81 3 tmA (.slice A2 R.length c2) (R.map tmOf)
 ka : KR W w.heap.size (.slice A3 R.length c3) R
theorem Iv.step {w W W1 : World} {B b n m1 m2 : Nat} {m : Md} {r : Rm} {A : Option Addr} {c ib : Nat} {A2 : Option Addr} {c2 : Nat} {A3 : Option Addr} {c3 : Nat} {R : List S127} (h : Iv w W B b n m1 m2 m r A c ib A2 c2 A3 c3 R) (hb : Below W.heap.size W W1) : Iv w W1 B b n m1 m2 m r A c ib A2 c2 A3 c3 R := ⟨h.iw.step hb, pw_own_below h.row hb, Kd.R_below h.ka hb⟩
def miR.T1 : Bool × List (List Nat × List Nat) := (true, [([], []), ([0], [0]), ([], []), ([2, 1], [2]), ([1, 3, 0, 1], [1]), ([3, 4, 0, 1, 2, 3, 4], [3])])
def miR.B1 : List Nat := [0, 1, 0, 7, 15, 31]
theorem miR.tab1 : rtab .any (opsOf Try.f46 1) = miR.T1 := by kernel_rfl
theorem miR.bits1 : waitsOk miR.T1.2 miR.B1 = true := by kernel_rfl
def miR.T2 : Bool × List (List Nat × List Nat) := (true, [([], []), ([0], [0]), ([], []), ([2], [2]), ([1, 3], [1, 3]), ([4], [4]), ([5], [5]), ([6, 5, 5], [5, 6]), ([5], [5]), ([8, 5], [5, 8]), ([7, 9, 5], [5, 7, 9]), ([5, 10], [5, 10]), ([11, 7], [11]), ([12], [12]), ([13, 12, 12], [12, 13]), ([12], [12]), ([15, 14, 12], [12, 15]), ([14, 16, 12], [12, 14, 16]), ([12, 17], [12, 17])])
def miR.B2 : List Nat := [0, 1, 0, 4, 15, 31, 63, 127, 63, 319, 1023, 2047, 4095, 8191, 16383, 8191, 65535, 131071, 262143]
theorem miR.tab2 : rtab .any (opsOf Try.f46 2) = miR.T2 := by kernel_rfl
theorem miR.bits2 : waitsOk miR.T2.2 miR.B2 = true := by kernel_rfl
def miR.T7 : Bool × List (List Nat × List Nat) := (true, [([], []), ([], []), ([0, 1], [0, 1]), ([2], [2]), ([], []), ([4], [4]), ([5], [5]), ([], []), ([7], [7]), ([6, 8], [6, 8]), ([3, 9], [3, 9])])
def miR.B7 : List Nat := [0, 0, 3, 7, 0, 16, 48, 0, 128, 496, 1023]
theorem miR.tab7 : rtab .any (opsOf Try.f46 7) = miR.T7 := by kernel_rfl
theorem miR.bits7 : waitsOk miR.T7.2 miR.B7 = true := by kernel_rfl
def miR.T13 : Bool × List (List Nat × List Nat) := (true, [([], []), ([], []), ([1], [1]), ([2], [2]), ([0, 3, 3], [0, 3]), ([], []), ([5], [5]), ([4, 6], [4, 6])])
def miR.B13 : List Nat := [0, 0, 2, 6, 15, 0, 32, 127]
theorem miR.tab13 : rtab .any (opsOf Try.f46 13) = miR.T13 := by kernel_rfl
theorem miR.bits13 : waitsOk miR.T13.2 miR.B13 = true := by kernel_rfl
set_option maxHeartbeats 20000000 in
set_option maxRecDepth 100000 in
theorem is_any {w : World} {B b n m1 m2 : Nat} {m : Md} (h : MdIs w B b n m m1 m2) (hn : n ≤ 1000000) {r : Rm} {A : Option Addr} {c : Nat} (hr : KR w B (.slice A r.L.length c) r.L) (hs : Sim m r) (hok : MOk m) (hw : ∀ x ∈ r.L, wfH x.h) (hl : r.L.length ≤ 90000) :
  Calls Try.prog 46 #[pA b, .agg #[.int .i64 r.clk, .slice A r.L.length c]] w fun rr w' => rr = .returned (.bool true) ∧ Below w.heap.size w w' := by
 have hu0 := Try.underlying43
 have hu1 := Try.underlying127
 have hu2 := Try.underlying36
 have hu3 := Try.underlying81
 have hu4 := Try.underlying78
 have hu5 := Try.underlying41
 have hu6 := Try.underlying34
 obtain ⟨R, hR⟩ : ∃ R, armedsR r.L = R := ⟨_, rfl⟩
 have HR := Aside0.mk hR
 have HRA := Aside0.mk (hR ▸ armeds_arm hs hw)
 have HLS := Aside0.mk (hR ▸ least_arm r.L (fun x hx h1 => (by obtain ⟨d, q1, q2⟩ := hs.on x hx; rw [h1] at q1; rw [← q2 h1]; exact hok.nn _ _ q1)))
 have HN := Aside0.mk hn
 have HL := Aside0.mk hl
 have HSM := Aside0.mk hs
 have HWH := Aside0.mk hw
 have HRM := Aside0.mk (fun y => hR ▸ armeds_mem r.L y)
 have HRL := Aside0.mk (show R.length ≤ 1000000 by have := armeds_le r.L; rw [hR] at this; omega)
 have hck : m.clk = r.clk := hs.clk
 have COH := Aside0.mk (fun x y W => of_ha x y W)
 have HI0 := Aside0.mk (show Iw w (w.alloc (.cells #[.int .i64 r.clk, .slice A r.L.length c] 43)) B b n m1 m2 m r A c w.heap.size from ⟨h.alloc _, Kd.R_below hr (below_alloc (Below.refl _ _) _), blk_new _ _, below_alloc (Below.refl _ _) _⟩)
 clear h hr hs hok hw hn hl hR
 go_enter Try.func46, Try.ntmps46
 go_upto_region 1 with (fail)
 obtain ⟨W0, hW0⟩ : ∃ W, w.alloc (.cells #[.int .i64 r.clk, .slice A r.L.length c] 43) = W := ⟨_, rfl⟩
 obtain ⟨ib, hib⟩ : ∃ i, w.heap.size = i := ⟨_, rfl⟩
 have HI : Aside0 (Iw w W0 B b n m1 m2 m r A c ib) := ⟨hib ▸ hW0 ▸ HI0.out⟩
 simp only [hW0, hib] at ⊢
 clear HI0 hW0 hib
 refine start_ (n := 6) (S := (fun w' => ∀ i, w'.cell? ⟨ib, i, none⟩ = (#[.int .i64 r.clk, .slice A r.L.length c] : Array Value)[i]?)) (ds := []) #[ff,ff,ff,ff,ff,ff] (by kernel_rfl) rfl rfl (fun i => blk_cell (blk_below HI.out.ib_ (below_drew (Below.refl _ _))) i) (fun hHeld => ?_)
 refine with_tabW miR.tab1 miR.bits1 (fun HT_ HW_ => ?_)
 have H3 := Aside0.mk (HI.out.step (below_drew (Below.refl _ _)))
 generalize World.drew _ = w3 at H3 hHeld ⊢
 refine pure_ (i := 0) (N := (some 11)) (v := ?_) (a' := ?_) #[tt,ff,ff,ff,ff,ff] rfl rfl (any_of HT_.out (by kernel_rfl)) (fun _ _ _ h => h) (Or.inl ⟨by rfl, ?_⟩) ?_ ?_
 rotate_left
 ·intro w'
  go_simp
  with_reducible rfl
 rotate_left
 ·simp only [Act.put, sQ0, sQ1, sQ2, i64_w]
  rfl
 refine take_ (i := 2) (N := (some 13)) (v := ?_) (a' := ?_) #[tt,ff,tt,ff,ff,ff] rfl rfl (take_ofW HT_.out HW_.out (by kernel_rfl)) (fun _ _ _ h => h) (Or.inl ⟨by rfl, ?_⟩) hHeld ?_ ?_
 rotate_left
 ·rintro w' s0
  go_simp
  with_reducible rfl
 rotate_left
 ·simp only [Act.put, sQ0, sQ1, sQ2, i64_w]
  rfl
 refine one_ (i := 1) (N := (some 12)) #[tt,tt,tt,ff,ff,ff] rfl rfl (one_of HT_.out (by kernel_rfl)) (by decide) (fun K hK => ?_)
 refine call_ (f := 42) #[pA b] (by rfl) rfl (by go_simp <;> rfl) ?_
 refine (armed_any H3.out.md HN.out).mono ?_
 rintro rr w4 ⟨v, La, rfl, hR, hA, hL, hb⟩
 obtain ⟨A2, c2, hv, hc2⟩ := hR.form
 obtain rfl : La = R.map tmOf := armed_uniq hA HRA.out
 rw [List.length_map] at hv
 subst hv
 refine ⟨_, rfl, ?_⟩
 have H4 := Aside0.mk (And.intro (H3.out.step hb) (row_lower hR H3.out.bel.size))
 clear hR hA hL hb hc2
 refine hK.out _ _ (fun i => blk_cell H4.out.1.ib_ i) (fun hHeld => ?_)
 clear hK K
 refine norm_ (a' := ?_) ?_ ?_
 rotate_left
 ·show Act.put _ (some 12) _ = _
  simp only [Act.put, sQ0, sQ1, sQ2, i64_w]
  rfl
 refine one_ (i := 3) (N := (some 14)) #[tt,tt,tt,tt,ff,ff] rfl rfl (one_of HT_.out (by kernel_rfl)) (by decide) (fun K hK => ?_)
 refine call_ (f := 82) #[.agg #[.int .i64 r.clk, .slice A r.L.length c]] (by rfl) rfl (by go_simp <;> rfl) ?_
 refine (rarmeds_any H4.out.1.kr (by have := HL.out; omega)).mono ?_
 rintro rr w5 ⟨v, rfl, hk, hb⟩
 rw [HR.out] at hk
 obtain ⟨A3, c3, rfl⟩ := Kd.R_slice hk
 refine ⟨_, rfl, ?_⟩
 have H5 := Aside0.mk (show Iv w w5 B b n m1 m2 m r A c ib A2 c2 A3 c3 R from ⟨H4.out.1.step hb, pw_own_below H4.out.2 hb, Kd.R_lower hk H4.out.1.bel.size⟩)
 clear hk hb
 refine hK.out _ _ (fun i => blk_cell H5.out.iw.ib_ i) (fun hHeld => ?_)
 clear hK K
 refine norm_ (a' := ?_) ?_ ?_
 rotate_left
 ·show Act.put _ (some 14) _ = _
  simp only [Act.put, sQ0, sQ1, sQ2, i64_w]
  rfl
 refine pure_ (i := 4) (N := (some 5)) (v := ?_) (a' := ?_) #[tt,tt,tt,tt,tt,ff] rfl rfl (any_of HT_.out (by kernel_rfl)) (fun _ _ _ h => h) (Or.inl ⟨by rfl, ?_⟩) ?_ ?_
 rotate_left
 ·intro w'
  go_simp
  with_reducible rfl
 rotate_left
 ·simp only [Act.put, sQ0, sQ1, sQ2, i64_w]
  rfl
 refine pure_ (i := 5) (N := (some 6)) (v := ?_) (a' := ?_) #[tt,tt,tt,tt,tt,tt] rfl rfl (any_of HT_.out (by kernel_rfl)) (fun _ _ _ h => h) (Or.inl ⟨by rfl, ?_⟩) ?_ ?_
 rotate_left
 ·intro w'
  go_simp
  with_reducible rfl
 rotate_left
 ·simp only [Act.put, sQ0, sQ1, sQ2, i64_w]
  rfl
 refine done_ (done_of HT_.out (by kernel_rfl)) ?_
 clear hHeld
 go_upto_region 2 with (fail)
 have e1 : ((R.length : Int) != (R.length : Int)) = false := by simp
 have e2 : (m.clk != r.clk) = false := by rw [hck]; simp
 have e3 : (r.L.foldl leastS (-1) != r.L.foldl leastS (-1)) = false := by simp
 refine start_ (n := 19) (S := (fun w' => ∀ i, w'.cell? ⟨ib, i, none⟩ = (#[.int .i64 r.clk, .slice A r.L.length c] : Array Value)[i]?)) (ds := []) #[ff,ff,ff,ff,ff,ff,ff,ff,ff,ff,ff,ff,ff,ff,ff,ff,ff,ff,ff] (by kernel_rfl) rfl rfl (fun i => blk_cell (blk_below H5.out.iw.ib_ (below_drew (Below.refl _ _))) i) (fun hHeld => ?_)
 refine with_tabW miR.tab2 miR.bits2 (fun HT_ HW_ => ?_)
 have H6 := Aside0.mk (H5.out.step (below_drew (Below.refl _ _)))
 generalize World.drew _ = w6 at H6 hHeld ⊢
 refine pure_ (i := 0) (N := (some 15)) (v := ?_) (a' := ?_) #[tt,ff,ff,ff,ff,ff,ff,ff,ff,ff,ff,ff,ff,ff,ff,ff,ff,ff,ff] rfl rfl (any_of HT_.out (by kernel_rfl)) (fun _ _ _ h => h) (Or.inl ⟨by rfl, ?_⟩) ?_ ?_
 rotate_left
 ·intro w'
  go_simp
  with_reducible rfl
 rotate_left
 ·simp only [Act.put, sQ0, sQ1, sQ2, i64_w]
  rfl
 refine pure_ (i := 1) (N := (some 16)) (v := ?_) (a' := ?_) #[tt,tt,ff,ff,ff,ff,ff,ff,ff,ff,ff,ff,ff,ff,ff,ff,ff,ff,ff] rfl rfl (any_of HT_.out (by kernel_rfl)) (fun _ _ _ h => h) (Or.inl ⟨by rfl, ?_⟩) ?_ ?_
 rotate_left
 ·intro w'
  go_simp
  with_reducible rfl
 rotate_left
 ·simp only [Act.put, sQ0, sQ1, sQ2, i64_w]
  rfl
 refine pure_ (i := 2) (N := (some 17)) (v := ?_) (a' := ?_) #[tt,tt,tt,ff,ff,ff,ff,ff,ff,ff,ff,ff,ff,ff,ff,ff,ff,ff,ff] rfl rfl (any_of HT_.out (by kernel_rfl)) (fun _ _ _ h => h) (Or.inl ⟨by rfl, ?_⟩) ?_ ?_
 rotate_left
 ·intro w'
  go_simp
  with_reducible rfl
 rotate_left
 ·simp only [Act.put, sQ0, sQ1, sQ2, i64_w]
  rfl
 refine pure_ (i := 3) (N := (some 18)) (v := ?_) (a' := ?_) #[tt,tt,tt,tt,ff,ff,ff,ff,ff,ff,ff,ff,ff,ff,ff,ff,ff,ff,ff] rfl rfl (any_of HT_.out (by kernel_rfl)) (fun _ _ _ h => h) (Or.inl ⟨by rfl, ?_⟩) ?_ ?_
 rotate_left
 ·intro w'
  go_simp
  with_reducible rfl
 rotate_left
 ·simp only [Act.put, sQ0, sQ1, sQ2, i64_w]
  rfl
 refine pure_ (i := 4) (N := (some 19)) (v := ?_) (a' := ?_) #[tt,tt,tt,tt,tt,ff,ff,ff,ff,ff,ff,ff,ff,ff,ff,ff,ff,ff,ff] rfl rfl (any_of HT_.out (by kernel_rfl)) (fun _ _ _ h => h) (Or.inl ⟨by rfl, ?_⟩) ?_ ?_
 rotate_left
 ·intro w'
  go_simp
  with_reducible rfl
 rotate_left
 ·simp only [Act.put, sQ0, sQ1, sQ2, i64_w]
  rfl
 refine pure_ (i := 5) (N := (some 20)) (v := ?_) (a' := ?_) #[tt,tt,tt,tt,tt,tt,ff,ff,ff,ff,ff,ff,ff,ff,ff,ff,ff,ff,ff] rfl rfl (any_of HT_.out (by kernel_rfl)) (fun _ _ _ h => h) (Or.inl ⟨by rfl, ?_⟩) ?_ ?_
 rotate_left
 ·intro w'
  go_simp
  with_reducible rfl
 rotate_left
 ·simp only [Act.put, sQ0, sQ1, sQ2, i64_w]
  rfl
 refine pure_ (i := 6) (N := (some 21)) (v := ?_) (a' := ?_) #[tt,tt,tt,tt,tt,tt,tt,ff,ff,ff,ff,ff,ff,ff,ff,ff,ff,ff,ff] rfl rfl (any_of HT_.out (by kernel_rfl)) (fun _ _ _ h => h) (Or.inl ⟨by rfl, ?_⟩) ?_ ?_
 rotate_left
 ·intro w'
  go_simp
  with_reducible rfl
 rotate_left
 ·simp only [Act.put, sQ0, sQ1, sQ2, i64_w]
  rfl
 refine pure_ (i := 8) (N := (some 23)) (v := ?_) (a' := ?_) #[tt,tt,tt,tt,tt,tt,tt,ff,tt,ff,ff,ff,ff,ff,ff,ff,ff,ff,ff] rfl rfl (any_of HT_.out (by kernel_rfl)) (fun _ _ _ h => h) (Or.inl ⟨by rfl, ?_⟩) ?_ ?_
 rotate_left
 ·intro w'
  go_simp
  with_reducible rfl
 rotate_left
 ·simp only [Act.put, sQ0, sQ1, sQ2, i64_w]
  rfl
 refine take_ (i := 9) (N := (some 24)) (v := ?_) (a' := ?_) #[tt,tt,tt,tt,tt,tt,tt,ff,tt,tt,ff,ff,ff,ff,ff,ff,ff,ff,ff] rfl rfl (take_ofW HT_.out HW_.out (by kernel_rfl)) (fun _ _ _ h => h) (Or.inl ⟨by rfl, ?_⟩) hHeld ?_ ?_
 rotate_left
 ·rintro w' s0
  go_simp
  with_reducible rfl
 rotate_left
 ·simp only [Act.put, sQ0, sQ1, sQ2, i64_w]
  rfl
 refine one_ (i := 7) (N := (some 22)) #[tt,tt,tt,tt,tt,tt,tt,tt,tt,tt,ff,ff,ff,ff,ff,ff,ff,ff,ff] rfl rfl (one_of HT_.out (by kernel_rfl)) (by decide) (fun K hK => ?_)
 refine call_ (f := 41) #[pA b] (by rfl) rfl (by go_simp <;> rfl) ?_
 refine (model_clock H6.out.iw.md).mono ?_
 rintro rr w7 ⟨rfl, rfl⟩
 refine ⟨_, rfl, ?_⟩
 refine hK.out _ _ (fun i => blk_cell H6.out.iw.ib_ i) (fun hHeld => ?_)
 clear hK K
 refine norm_ (a' := ?_) ?_ ?_
 rotate_left
 ·show Act.put _ (some 22) _ = _
  simp only [Act.put, sQ0, sQ1, sQ2, i64_w]
  rfl
 refine pure_ (i := 10) (N := (some 25)) (v := ?_) (a' := ?_) #[tt,tt,tt,tt,tt,tt,tt,tt,tt,tt,tt,ff,ff,ff,ff,ff,ff,ff,ff] rfl rfl (any_of HT_.out (by kernel_rfl)) (fun _ _ _ h => h) (Or.inl ⟨by rfl, ?_⟩) ?_ ?_
 rotate_left
 ·intro w'
  go_simp
  with_reducible rfl
 rotate_left
 ·simp only [Act.put, sQ0, sQ1, sQ2, i64_w]
  rfl
 refine pure_ (i := 11) (N := (some 26)) (v := ?_) (a' := ?_) #[tt,tt,tt,tt,tt,tt,tt,tt,tt,tt,tt,tt,ff,ff,ff,ff,ff,ff,ff] rfl rfl (any_of HT_.out (by kernel_rfl)) (fun _ _ _ h => h) (Or.inl ⟨by rfl, ?_⟩) ?_ ?_
 rotate_left
 ·intro w'
  go_simp
  with_reducible rfl
 rotate_left
 ·simp only [Act.put, sQ0, sQ1, sQ2, i64_w]
  rfl
 refine pure_ (i := 12) (N := (some 27)) (v := ?_) (a' := ?_) #[tt,tt,tt,tt,tt,tt,tt,tt,tt,tt,tt,tt,tt,ff,ff,ff,ff,ff,ff] rfl rfl (any_of HT_.out (by kernel_rfl)) (fun _ _ _ h => h) (Or.inl ⟨by rfl, ?_⟩) ?_ ?_
 rotate_left
 ·intro w'
  go_simp
  with_reducible rfl
 rotate_left
 ·simp only [Act.put, sQ0, sQ1, sQ2, i64_w]
  rfl
 refine pure_ (i := 13) (N := (some 28)) (v := ?_) (a' := ?_) #[tt,tt,tt,tt,tt,tt,tt,tt,tt,tt,tt,tt,tt,tt,ff,ff,ff,ff,ff] rfl rfl (any_of HT_.out (by kernel_rfl)) (fun _ _ _ h => h) (Or.inl ⟨by rfl, ?_⟩) ?_ ?_
 rotate_left
 ·intro w'
  go_simp
  with_reducible rfl
 rotate_left
 ·simp only [Act.put, sQ0, sQ1, sQ2, i64_w]
  rfl
 refine take_ (i := 15) (N := (some 30)) (v := ?_) (a' := ?_) #[tt,tt,tt,tt,tt,tt,tt,tt,tt,tt,tt,tt,tt,tt,ff,tt,ff,ff,ff] rfl rfl (take_ofW HT_.out HW_.out (by kernel_rfl)) (fun _ _ _ h => h) (Or.inl ⟨by rfl, ?_⟩) hHeld ?_ ?_
 rotate_left
 ·rintro w' s0
  go_simp
  with_reducible rfl
 rotate_left
 ·simp only [Act.put, sQ0, sQ1, sQ2, i64_w]
  rfl
 refine one_ (i := 14) (N := (some 29)) #[tt,tt,tt,tt,tt,tt,tt,tt,tt,tt,tt,tt,tt,tt,tt,tt,ff,ff,ff] rfl rfl (one_of HT_.out (by kernel_rfl)) (by decide) (fun K hK => ?_)
 refine call_ (f := 44) #[pA b] (by rfl) rfl (by go_simp <;> rfl) ?_
 refine (least_any H6.out.iw.md HN.out).mono ?_
 rintro rr w7 ⟨d, La, rfl, hA, hl, hb⟩
 obtain rfl : d = r.L.foldl leastS (-1) := least_uniq hl (by rw [armed_uniq hA HRA.out]; exact HLS.out)
 refine ⟨_, rfl, ?_⟩
 have H7 := Aside0.mk (H6.out.step hb)
 clear hA hl hb
 refine hK.out _ _ (fun i => blk_cell H7.out.iw.ib_ i) (fun hHeld => ?_)
 clear hK K
 refine norm_ (a' := ?_) ?_ ?_
 rotate_left
 ·show Act.put _ (some 29) _ = _
  simp only [Act.put, sQ0, sQ1, sQ2, i64_w]
  rfl
 refine one_ (i := 16) (N := (some 31)) #[tt,tt,tt,tt,tt,tt,tt,tt,tt,tt,tt,tt,tt,tt,tt,tt,tt,ff,ff] rfl rfl (one_of HT_.out (by kernel_rfl)) (by decide) (fun K hK => ?_)
 refine call_ (f := 83) #[.agg #[.int .i64 r.clk, .slice A r.L.length c]] (by rfl) rfl (by go_simp <;> rfl) ?_
 refine (rleast_any H7.out.iw.kr (by have := HL.out; omega)).mono ?_
 rintro rr w8 ⟨rfl, hb⟩
 refine ⟨_, rfl, ?_⟩
 have H8 := Aside0.mk (H7.out.step hb)
 clear hb
 refine hK.out _ _ (fun i => blk_cell H8.out.iw.ib_ i) (fun hHeld => ?_)
 clear hK K
 refine norm_ (a' := ?_) ?_ ?_
 rotate_left
 ·show Act.put _ (some 31) _ = _
  simp only [Act.put, sQ0, sQ1, sQ2, i64_w]
  rfl
 refine pure_ (i := 17) (N := (some 32)) (v := ?_) (a' := ?_) #[tt,tt,tt,tt,tt,tt,tt,tt,tt,tt,tt,tt,tt,tt,tt,tt,tt,tt,ff] rfl rfl (any_of HT_.out (by kernel_rfl)) (fun _ _ _ h => h) (Or.inl ⟨by rfl, ?_⟩) ?_ ?_
 rotate_left
 ·intro w'
  go_simp
  with_reducible rfl
 rotate_left
 ·simp only [Act.put, sQ0, sQ1, sQ2, i64_w]
  rfl
 refine pure_ (i := 18) (N := (some 33)) (v := ?_) (a' := ?_) #[tt,tt,tt,tt,tt,tt,tt,tt,tt,tt,tt,tt,tt,tt,tt,tt,tt,tt,tt] rfl rfl (any_of HT_.out (by kernel_rfl)) (fun _ _ _ h => h) (Or.inl ⟨by rfl, ?_⟩) ?_ ?_
 rotate_left
 ·intro w'
  go_simp
  with_reducible rfl
 rotate_left
 ·simp only [Act.put, sQ0, sQ1, sQ2, i64_w]
  rfl
 refine done_ (done_of HT_.out (by kernel_rfl)) ?_
 clear hHeld
 go_wp2
 have HK1 := H8
 go_loopw [36] (fun v wq => ∃ j : Nat, j ≤ R.length ∧ v = .int .i64 j ∧ Aside0 (Iv w wq B b n m1 m2 m r A c ib A2 c2 A3 c3 R)) (fun v _ => R.length - (intOf v).toNat)
 case atStart => exact ⟨0, by omega, rfl, HK1⟩
 case round =>
  clear HK1 H8
  obtain ⟨j, hj, rfl, HJ⟩ := hrel
  rcases Nat.lt_or_ge j R.length with hjl | hjg
  ·have pj : (0 : Int) ≤ (j : Int) := by omega
   have qj : ((j : Int) < (R.length : Int)) = True := eq_true (by omega)
   have hjj : wrap64 ((j : Int) + 1) = ((j + 1 : Nat) : Int) := by have := HRL.out; unfold wrap64; omega
   obtain ⟨ad, e, d0, d1, d2, d3⟩ := at_T127 (KR.C HJ.out.ka).1 (j : Int) (by omega) (by omega)
   subst e
   obtain ⟨y, hy⟩ : ∃ y, R[j]? = some y := ⟨_, List.getElem?_eq_getElem hjl⟩
   have hrd : rd_T127 R (j : Int) = y := by rw [rd127 hjl]; exact Option.some.inj ((List.getElem?_eq_getElem hjl).symm.trans hy)
   rw [hrd] at d0 d1 d2 d3
   simp only [Int.toNat_natCast] at d0 d1 d2 d3
   clear hrd
   obtain ⟨gr, cp, hv, hcp, hgl, hcell⟩ := HJ.out.row.at_ (fun _ => rfl) (show (R.map tmOf)[j]? = some (tmOf y) by rw [List.getElem?_map, hy]; rfl)
   injection hv with hv1 hv2 hv3
   subst hv1
   have t0 := hcell 0 (by decide)
   have t1 := hcell 1 (by decide)
   have t2 := hcell 2 (by decide)
   rw [Nat.add_zero] at t0
   have t0 : wr.cell? ⟨gr, j * 3, none⟩ = some (.int .i64 y.f0.f0) := t0
   have t1 : wr.cell? ⟨gr, j * 3 + 1, none⟩ = some (.int .i64 y.f0.f1) := t1
   have t2 : wr.cell? ⟨gr, j * 3 + 2, none⟩ = some (.int .i64 y.f2) := t2
   have HJL := Aside0.mk hjl
   clear hcell hcp hv2 hv3 hy hjl hj
   replace pj := eq_true pj
   go_upto_region 7 with (fail)
   have HT0 := Aside0.mk (And.intro (HJ.out.step (below_alloc (Below.refl _ _) (.cells #[.int .i64 y.f0.f0, .int .i64 y.f0.f1, .int .i64 y.f1, .int .i64 y.f2] 127))) (blk_new wr (.cells #[.int .i64 y.f0.f0, .int .i64 y.f0.f1, .int .i64 y.f1, .int .i64 y.f2] 127)))
   have HE0 := Aside0.mk (And.intro (pw_cell_below (below_alloc (Below.refl wr.heap.size wr) (.cells #[.int .i64 y.f0.f0, .int .i64 y.f0.f1, .int .i64 y.f1, .int .i64 y.f2] 127)) t0) (And.intro (pw_cell_below (below_alloc (Below.refl wr.heap.size wr) (.cells #[.int .i64 y.f0.f0, .int .i64 y.f0.f1, .int .i64 y.f1, .int .i64 y.f2] 127)) t1) (pw_cell_below (below_alloc (Below.refl wr.heap.size wr) (.cells #[.int .i64 y.f0.f0, .int .i64 y.f0.f1, .int .i64 y.f1, .int .i64 y.f2] 127)) t2)))
   obtain ⟨W3, hW3⟩ : ∃ W, wr.alloc (.cells #[.int .i64 y.f0.f0, .int .i64 y.f0.f1, .int .i64 y.f1, .int .i64 y.f2] 127) = W := ⟨_, rfl⟩
   obtain ⟨fb, hfb⟩ : ∃ t, wr.heap.size = t := ⟨_, rfl⟩
   have HT : Aside0 (Iv w W3 B b n m1 m2 m r A c ib (some ⟨gr, 0, none⟩) c2 (some ad) c3 R ∧ W3.heap[fb]? = some (.cells #[.int .i64 y.f0.f0, .int .i64 y.f0.f1, .int .i64 y.f1, .int .i64 y.f2] 127 (0, 0))) := ⟨hfb ▸ hW3 ▸ HT0.out⟩
   have HE : Aside0 ((W3.cell? ⟨gr, j * 3, none⟩ = some (.int .i64 y.f0.f0)) ∧ (W3.cell? ⟨gr, j * 3 + 1, none⟩ = some (.int .i64 y.f0.f1)) ∧ (W3.cell? ⟨gr, j * 3 + 2, none⟩ = some (.int .i64 y.f2))) := ⟨hW3 ▸ HE0.out⟩
   simp only [hW3, hfb] at ⊢
   clear HT0 HE0 hW3 hfb d0 d1 d2 d3 t0 t1 t2
   refine start_ (n := 11) (S := (fun w' => (∀ i, w'.cell? ⟨fb, i, none⟩ = (#[.int .i64 y.f0.f0, .int .i64 y.f0.f1, .int .i64 y.f1, .int .i64 y.f2] : Array Value)[i]?) ∧ (w'.cell? ⟨gr, j * 3, none⟩ = some (.int .i64 y.f0.f0)) ∧ (w'.cell? ⟨gr, j * 3 + 1, none⟩ = some (.int .i64 y.f0.f1)) ∧ (w'.cell? ⟨gr, j * 3 + 2, none⟩ = some (.int .i64 y.f2)))) (ds := []) #[ff,ff,ff,ff,ff,ff,ff,ff,ff,ff,ff] (by kernel_rfl) rfl rfl ⟨fun i => blk_cell (blk_below HT.out.2 (below_drew (Below.refl W3.heap.size W3))) i, pw_cell_below (below_drew (Below.refl W3.heap.size W3)) HE.out.1, pw_cell_below (below_drew (Below.refl W3.heap.size W3)) HE.out.2.1, pw_cell_below (below_drew (Below.refl W3.heap.size W3)) HE.out.2.2⟩ (fun hHeld => ?_)
   refine with_tabW miR.tab7 miR.bits7 (fun HT_ HW_ => ?_)
   have H3 := Aside0.mk (And.intro (HT.out.1.step (below_drew (Below.refl _ _))) (blk_below HT.out.2 (below_drew (Below.refl _ _))))
   have HE3 := Aside0.mk (And.intro (pw_cell_below (below_drew (Below.refl W3.heap.size W3)) HE.out.1) (And.intro (pw_cell_below (below_drew (Below.refl W3.heap.size W3)) HE.out.2.1) (pw_cell_below (below_drew (Below.refl W3.heap.size W3)) HE.out.2.2)))
   generalize W3.drew = w7 at H3 HE3 hHeld ⊢
   refine pure_ (i := 0) (N := (some 41)) (v := ?_) (a' := ?_) #[tt,ff,ff,ff,ff,ff,ff,ff,ff,ff,ff] rfl rfl (any_of HT_.out (by kernel_rfl)) (fun _ _ _ h => h) (Or.inl ⟨by rfl, ?_⟩) ?_ ?_
   rotate_left
   ·intro w'
    go_simp
    with_reducible rfl
   rotate_left
   ·simp only [Act.put, sQ0, sQ1, sQ2, i64_w]
    rfl
   refine pure_ (i := 1) (N := (some 42)) (v := ?_) (a' := ?_) #[tt,tt,ff,ff,ff,ff,ff,ff,ff,ff,ff] rfl rfl (any_of HT_.out (by kernel_rfl)) (fun _ _ _ h => h) (Or.inl ⟨by rfl, ?_⟩) ?_ ?_
   rotate_left
   ·intro w'
    go_simp
    with_reducible rfl
   rotate_left
   ·simp only [Act.put, sQ0, sQ1, sQ2, i64_w]
    rfl
   refine pure_ (i := 2) (N := (some 43)) (v := ?_) (a' := ?_) #[tt,tt,tt,ff,ff,ff,ff,ff,ff,ff,ff] rfl rfl (any_of HT_.out (by kernel_rfl)) (fun _ _ _ h => h) (Or.inl ⟨by rfl, ?_⟩) ?_ ?_
   rotate_left
   ·intro w'
    go_simp
    with_reducible rfl
   rotate_left
   ·simp only [Act.put, sQ0, sQ1, sQ2, i64_w]
    rfl
   refine pure_ (i := 4) (N := (some 45)) (v := ?_) (a' := ?_) #[tt,tt,tt,ff,tt,ff,ff,ff,ff,ff,ff] rfl rfl (any_of HT_.out (by kernel_rfl)) (fun _ _ _ h => h) (Or.inl ⟨by rfl, ?_⟩) ?_ ?_
   rotate_left
   ·intro w'
    go_simp
    with_reducible rfl
   rotate_left
   ·simp only [Act.put, sQ0, sQ1, sQ2, i64_w]
    rfl
   refine pure_ (i := 7) (N := (some 48)) (v := ?_) (a' := ?_) #[tt,tt,tt,ff,tt,ff,ff,tt,ff,ff,ff] rfl rfl (any_of HT_.out (by kernel_rfl)) (fun _ _ _ h => h) (Or.inl ⟨by rfl, ?_⟩) ?_ ?_
   rotate_left
   ·intro w'
    go_simp
    with_reducible rfl
   rotate_left
   ·simp only [Act.put, sQ0, sQ1, sQ2, i64_w]
    rfl
   refine take_ (i := 3) (N := (some 44)) (v := ?_) (a' := ?_) #[tt,tt,tt,tt,tt,ff,ff,tt,ff,ff,ff] rfl rfl (take_ofW HT_.out HW_.out (by kernel_rfl)) (fun _ _ _ h => h) (Or.inl ⟨by rfl, ?_⟩) hHeld ?_ ?_
   rotate_left
   ·rintro w' ⟨s0, s1, s2, s3⟩
    go_simp
    with_reducible rfl
   rotate_left
   ·simp only [Act.put, sQ0, sQ1, sQ2, i64_w]
    rfl
   refine take_ (i := 5) (N := (some 46)) (v := ?_) (a' := ?_) #[tt,tt,tt,tt,tt,tt,ff,tt,ff,ff,ff] rfl rfl (take_ofW HT_.out HW_.out (by kernel_rfl)) (fun _ _ _ h => h) (Or.inl ⟨by rfl, ?_⟩) hHeld ?_ ?_
   rotate_left
   ·rintro w' ⟨s0, s1, s2, s3⟩
    go_simp
    with_reducible rfl
   rotate_left
   ·simp only [Act.put, sQ0, sQ1, sQ2, i64_w]
    rfl
   refine take_ (i := 8) (N := (some 49)) (v := ?_) (a' := ?_) #[tt,tt,tt,tt,tt,tt,ff,tt,tt,ff,ff] rfl rfl (take_ofW HT_.out HW_.out (by kernel_rfl)) (fun _ _ _ h => h) (Or.inl ⟨by rfl, ?_⟩) hHeld ?_ ?_
   rotate_left
   ·rintro w' ⟨s0, s1, s2, s3⟩
    go_simp
    with_reducible rfl
   rotate_left
   ·simp only [Act.put, sQ0, sQ1, sQ2, i64_w]
    rfl
   refine one_ (i := 6) (N := (some 47)) #[tt,tt,tt,tt,tt,tt,tt,tt,tt,ff,ff] rfl rfl (one_of HT_.out (by kernel_rfl)) (by decide) (fun K hK => ?_)
   refine call_ (f := 34) #[.agg #[.int .i64 y.f0.f0, .int .i64 y.f0.f1]] (by rfl) rfl (by go_simp <;> rfl) ?_
   refine (COH.out _ _ w7).mono ?_
   rintro rr w8 ⟨rfl, hb⟩
   refine ⟨_, rfl, ?_⟩
   have H4 := Aside0.mk (And.intro (H3.out.1.step hb) (blk_below H3.out.2 hb))
   have HE4 := Aside0.mk (And.intro (pw_cell_below hb HE3.out.1) (And.intro (pw_cell_below hb HE3.out.2.1) (pw_cell_below hb HE3.out.2.2)))
   clear hb
   refine hK.out _ _ ⟨fun i => blk_cell H4.out.2 i, HE4.out⟩ (fun hHeld => ?_)
   clear hK K
   refine norm_ (a' := ?_) ?_ ?_
   rotate_left
   ·show Act.put _ (some 47) _ = _
    simp only [Act.put, sQ0, sQ1, sQ2, i64_w]
    rfl
   refine pure_ (i := 9) (N := (some 50)) (v := ?_) (a' := ?_) #[tt,tt,tt,tt,tt,tt,tt,tt,tt,tt,ff] rfl rfl (any_of HT_.out (by kernel_rfl)) (fun _ _ _ h => h) (Or.inl ⟨by rfl, ?_⟩) ?_ ?_
   rotate_left
   ·intro w'
    go_simp
    with_reducible rfl
   rotate_left
   ·simp only [Act.put, sQ0, sQ1, sQ2, i64_w]
    rfl
   refine pure_ (i := 10) (N := (some 51)) (v := ?_) (a' := ?_) #[tt,tt,tt,tt,tt,tt,tt,tt,tt,tt,tt] rfl rfl (any_of HT_.out (by kernel_rfl)) (fun _ _ _ h => h) (Or.inl ⟨by rfl, ?_⟩) ?_ ?_
   rotate_left
   ·intro w'
    go_simp
    with_reducible rfl
   rotate_left
   ·simp only [Act.put, sQ0, sQ1, sQ2, i64_w]
    rfl
   refine done_ (done_of HT_.out (by kernel_rfl)) ?_
   clear hHeld
   go_wp2
   go_roundw
   case rel => exact ⟨j + 1, by have := HJL.out; omega, by first | rw [hjj] | simp, ⟨H4.out.1⟩⟩
   case measure => have := HJL.out; first | (rw [hjj]; simp [intOf]; omega) | (simp [intOf]; omega)
  ·have qj : ((j : Int) < (R.length : Int)) = False := eq_false (by omega)
   clear hj hjg
   have hcb := fun i => blk_cell HJ.out.iw.ib_ i
   have hlb := blk_lt HJ.out.iw.ib_
   go_wp2
   have HK0 := Aside0.mk HJ.out
   clear hcb hlb
   go_loopw [56] (fun v wq => ∃ j : Nat, j ≤ r.L.length ∧ v = .int .i64 j ∧ Aside0 (Iv w wq B b n m1 m2 m r A c ib A2 c2 A3 c3 R)) (fun v _ => r.L.length - (intOf v).toNat)
   case atStart => exact ⟨0, by omega, rfl, HK0⟩
   case round =>
    clear HK0 HJ
    obtain ⟨j, hj, rfl, HJ⟩ := hrel
    rcases Nat.lt_or_ge j r.L.length with hjl | hjg
    ·have pj : (0 : Int) ≤ (j : Int) := by omega
     have qj : ((j : Int) < (r.L.length : Int)) = True := eq_true (by omega)
     have hjj : wrap64 ((j : Int) + 1) = ((j + 1 : Nat) : Int) := by have := HL.out; unfold wrap64; omega
     obtain ⟨ad, e, d0, d1, d2, d3⟩ := at_T127 (KR.C HJ.out.iw.kr).1 (j : Int) (by omega) (by omega)
     subst e
     obtain ⟨y, hy⟩ : ∃ y, r.L[j]? = some y := ⟨_, List.getElem?_eq_getElem hjl⟩
     have hrd : rd_T127 r.L (j : Int) = y := by rw [rd127 hjl]; exact Option.some.inj ((List.getElem?_eq_getElem hjl).symm.trans hy)
     rw [hrd] at d0 d1 d2 d3
     simp only [Int.toNat_natCast] at d0 d1 d2 d3
     clear hrd
     have hmy := List.mem_of_getElem? hy
     obtain ⟨dd, ho1, _⟩ := HSM.out.on y hmy
     have hwy := HWH.out y hmy
     have CST : Aside0 (∀ W, MdIs W B b n m m1 m2 → Calls Try.prog 33 #[pA b, .agg #[.int .i64 y.f0.f0, .int .i64 y.f0.f1]] W fun r w' => r = .returned (.int .i64 y.f1) ∧ Below W.heap.size W w') := ⟨fun W hW => by have q := model_status y.f0.f0 y.f0.f1 hwy.1 hwy.2 hW; rw [show m.st (y.f0.f0, y.f0.f1) = y.f1 by unfold Md.st; rw [show ((y.f0.f0, y.f0.f1) : Ha) = y.h from rfl, ho1]; rfl] at q; exact q⟩
     have g9 : (y.f1 != y.f1) = false := by simp
     have HJL := Aside0.mk hjl
     clear hmy ho1 hwy hy hjl hj
     replace pj := eq_true pj
     go_upto_region 13 with (fail)
     have HT0 := Aside0.mk (And.intro (HJ.out.step (below_alloc (Below.refl _ _) (.cells #[.int .i64 y.f0.f0, .int .i64 y.f0.f1, .int .i64 y.f1, .int .i64 y.f2] 127))) (blk_new wr (.cells #[.int .i64 y.f0.f0, .int .i64 y.f0.f1, .int .i64 y.f1, .int .i64 y.f2] 127)))
     obtain ⟨W3, hW3⟩ : ∃ W, wr.alloc (.cells #[.int .i64 y.f0.f0, .int .i64 y.f0.f1, .int .i64 y.f1, .int .i64 y.f2] 127) = W := ⟨_, rfl⟩
     obtain ⟨fb, hfb⟩ : ∃ t, wr.heap.size = t := ⟨_, rfl⟩
     have HT : Aside0 (Iv w W3 B b n m1 m2 m r (some ad) c ib A2 c2 A3 c3 R ∧ W3.heap[fb]? = some (.cells #[.int .i64 y.f0.f0, .int .i64 y.f0.f1, .int .i64 y.f1, .int .i64 y.f2] 127 (0, 0))) := ⟨hfb ▸ hW3 ▸ HT0.out⟩
     simp only [hW3, hfb] at ⊢
     clear HT0 hW3 hfb d0 d1 d2 d3
     refine start_ (n := 8) (S := (fun w' => ∀ i, w'.cell? ⟨fb, i, none⟩ = (#[.int .i64 y.f0.f0, .int .i64 y.f0.f1, .int .i64 y.f1, .int .i64 y.f2] : Array Value)[i]?)) (ds := []) #[ff,ff,ff,ff,ff,ff,ff,ff] (by kernel_rfl) rfl rfl (fun i => blk_cell (blk_below HT.out.2 (below_drew (Below.refl W3.heap.size W3))) i) (fun hHeld => ?_)
     refine with_tabW miR.tab13 miR.bits13 (fun HT_ HW_ => ?_)
     have H3 := Aside0.mk (And.intro (HT.out.1.step (below_drew (Below.refl _ _))) (blk_below HT.out.2 (below_drew (Below.refl _ _))))
     generalize W3.drew = w7 at H3 hHeld ⊢
     refine pure_ (i := 0) (N := (some 60)) (v := ?_) (a' := ?_) #[tt,ff,ff,ff,ff,ff,ff,ff] rfl rfl (any_of HT_.out (by kernel_rfl)) (fun _ _ _ h => h) (Or.inl ⟨by rfl, ?_⟩) ?_ ?_
     rotate_left
     ·intro w'
      go_simp
      with_reducible rfl
     rotate_left
     ·simp only [Act.put, sQ0, sQ1, sQ2, i64_w]
      rfl
     refine pure_ (i := 1) (N := (some 61)) (v := ?_) (a' := ?_) #[tt,tt,ff,ff,ff,ff,ff,ff] rfl rfl (any_of HT_.out (by kernel_rfl)) (fun _ _ _ h => h) (Or.inl ⟨by rfl, ?_⟩) ?_ ?_
     rotate_left
     ·intro w'
      go_simp
      with_reducible rfl
     rotate_left
     ·simp only [Act.put, sQ0, sQ1, sQ2, i64_w]
      rfl
     refine pure_ (i := 5) (N := (some 65)) (v := ?_) (a' := ?_) #[tt,tt,ff,ff,ff,tt,ff,ff] rfl rfl (any_of HT_.out (by kernel_rfl)) (fun _ _ _ h => h) (Or.inl ⟨by rfl, ?_⟩) ?_ ?_
     rotate_left
     ·intro w'
      go_simp
      with_reducible rfl
     rotate_left
     ·simp only [Act.put, sQ0, sQ1, sQ2, i64_w]
      rfl
     refine take_ (i := 2) (N := (some 62)) (v := ?_) (a' := ?_) #[tt,tt,tt,ff,ff,tt,ff,ff] rfl rfl (take_ofW HT_.out HW_.out (by kernel_rfl)) (fun _ _ _ h => h) (Or.inl ⟨by rfl, ?_⟩) hHeld ?_ ?_
     rotate_left
     ·rintro w' s0
      go_simp
      with_reducible rfl
     rotate_left
     ·simp only [Act.put, sQ0, sQ1, sQ2, i64_w]
      rfl
     refine take_ (i := 6) (N := (some 66)) (v := ?_) (a' := ?_) #[tt,tt,tt,ff,ff,tt,tt,ff] rfl rfl (take_ofW HT_.out HW_.out (by kernel_rfl)) (fun _ _ _ h => h) (Or.inl ⟨by rfl, ?_⟩) hHeld ?_ ?_
     rotate_left
     ·rintro w' s0
      go_simp
      with_reducible rfl
     rotate_left
     ·simp only [Act.put, sQ0, sQ1, sQ2, i64_w]
      rfl
     refine one_ (i := 3) (N := (some 63)) #[tt,tt,tt,tt,ff,tt,tt,ff] rfl rfl (one_of HT_.out (by kernel_rfl)) (by decide) (fun K hK => ?_)
     refine call_ (f := 34) #[.agg #[.int .i64 y.f0.f0, .int .i64 y.f0.f1]] (by rfl) rfl (by go_simp <;> rfl) ?_
     refine (COH.out _ _ w7).mono ?_
     rintro rr w8 ⟨rfl, hb⟩
     refine ⟨_, rfl, ?_⟩
     have H4 := Aside0.mk (And.intro (H3.out.1.step hb) (blk_below H3.out.2 hb))
     clear hb
     refine hK.out _ _ (fun i => blk_cell H4.out.2 i) (fun hHeld => ?_)
     clear hK K
     refine norm_ (a' := ?_) ?_ ?_
     rotate_left
     ·show Act.put _ (some 63) _ = _
      simp only [Act.put, sQ0, sQ1, sQ2, i64_w]
      rfl
     refine one_ (i := 4) (N := (some 64)) #[tt,tt,tt,tt,tt,tt,tt,ff] rfl rfl (one_of HT_.out (by kernel_rfl)) (by decide) (fun K hK => ?_)
     refine call_ (f := 33) #[pA b, .agg #[.int .i64 y.f0.f0, .int .i64 y.f0.f1]] (by rfl) rfl (by go_simp <;> rfl) ?_
     refine (CST.out w8 H4.out.1.iw.md).mono ?_
     rintro rr w9 ⟨rfl, hb⟩
     refine ⟨_, rfl, ?_⟩
     have H5 := Aside0.mk (And.intro (H4.out.1.step hb) (blk_below H4.out.2 hb))
     clear hb
     refine hK.out _ _ (fun i => blk_cell H5.out.2 i) (fun hHeld => ?_)
     clear hK K
     refine norm_ (a' := ?_) ?_ ?_
     rotate_left
     ·show Act.put _ (some 64) _ = _
      simp only [Act.put, sQ0, sQ1, sQ2, i64_w]
      rfl
     refine pure_ (i := 7) (N := (some 67)) (v := ?_) (a' := ?_) #[tt,tt,tt,tt,tt,tt,tt,tt] rfl rfl (any_of HT_.out (by kernel_rfl)) (fun _ _ _ h => h) (Or.inl ⟨by rfl, ?_⟩) ?_ ?_
     rotate_left
     ·intro w'
      go_simp
      with_reducible rfl
     rotate_left
     ·simp only [Act.put, sQ0, sQ1, sQ2, i64_w]
      rfl
     refine done_ (done_of HT_.out (by kernel_rfl)) ?_
     clear hHeld
     go_wp2
     go_roundw
     case rel => exact ⟨j + 1, by have := HJL.out; omega, by first | rw [hjj] | simp, ⟨H5.out.1⟩⟩
     case measure => have := HJL.out; first | (rw [hjj]; simp [intOf]; omega) | (simp [intOf]; omega)
    ·have qj : ((j : Int) < (r.L.length : Int)) = False := eq_false (by omega)
     clear hj hjg
     go_wp2
     go_ret
     exact ⟨rfl, HJ.out.iw.bel⟩
end Go.Proofs.Ythniclbmpeklmaa.KJf
end
section
namespace Go.Proofs.Ythniclbmpeklmaa.KJf
open Go.RowKit Go.Proofs.YthniclbmpeklmaaW.PrintWords Go.Proofs.Ythniclbmpeklmaa.Ju
open Go.Proofs.YthniclbmpeklmaaW.PrintWords renaming Ev → PE
set_option linter.unusedVariables false
set_option linter.unusedSimpArgs false
structure Rb where
 m : Rm
 W : List S66
theorem rdo_len {m : Rm} {e : Au.Ev} : (rdoF m e).1.L.length ≤ m.L.length + 1 := by
 unfold rdoF rpF armR turnR
 repeat' split
 all_goals (simp)
section
variable {n : Nat} {b : Be} {r : Rb}
end
end Go.Proofs.Ythniclbmpeklmaa.KJf
end
section
namespace Go.Proofs.Ythniclbmpeklmaa.KJf
open Go.RowKit Go.Proofs.YthniclbmpeklmaaW.PrintWords Go.Proofs.YthniclbmpeklmaaW.PrintLast Go.Proofs.YthniclbmpeklmaaW.PrintMore Go.Proofs.Ythniclbmpeklmaa.Ju
open Go.Proofs.Ythniclbmpeklmaa.Au (evA types_ne RowIs flat_len flat_get)
open Go.Proofs.YthniclbmpeklmaaW.PrintWords renaming Ev → PE
set_option linter.unusedVariables false
set_option linter.unusedSimpArgs false
section
variable {P : Program}
end
theorem rdo_any {w : World} {B : Nat} (m : Rm) (v : Value) (e : Au.Ev) (hn : m.L.length ≤ 90000) (nd : (m.L.map S127.h).Nodup) (hB : B ≤ w.heap.size) (h : KR w B v m.L) :
  Calls Try.prog 45 #[.agg #[.int .i64 m.clk, v], .agg (evA e)] w (RdPost B w (rdoF m e)) := by
 cases hr : rightJ e with
 | false => exact rdo_wrong m v e hn nd hB h hr
 | true =>
  rcases right_k hr with hk | hk | hk | hk | hk
  ·by_cases ht : e.t = wrap64 (m.clk + 1)
   ·exact rdo_tick m v e hn nd hB h hr hk ht
   ·exact rdo_tick_no m v e hn nd hB h hr hk ht
  ·exact rdo_two m v e hn nd hB h hr hk
  ·obtain ⟨o1, o4, _, _⟩ := right_op hr hk
   by_cases ho : e.op = 1
   ·by_cases he : e.er = 0
    ·cases hf : freeR m.L e.new with
     | true => exact rdo_start m v e hn nd hB h hr hk ho he hf
     | false => exact rdo_start_no m v e hn nd hB h hr hk ho he hf
    ·exact rdo_start_err m v e hn nd hB h hr hk ho he
   by_cases ho2 : e.op = 2
   ·cases hy : e.y with
    | true =>
     by_cases ha : statR m.L e.h = 1
     ·exact rdo_cancel_11 m v e hn nd hB h hr hk ho2 hy ha
     ·exact rdo_cancel_01 m v e hn nd hB h hr hk ho2 hy ha
    | false =>
     by_cases ha : statR m.L e.h = 1
     ·exact rdo_cancel_10 m v e hn nd hB h hr hk ho2 hy ha
     ·exact rdo_cancel_00 m v e hn nd hB h hr hk ho2 hy ha
   by_cases ho3 : e.op = 3
   ·by_cases he4 : e.er = 4
    ·by_cases ha : statR m.L e.h = 1
     ·exact rdo_rearm_stale_no m v e hn nd hB h hr hk ho3 he4 ha
     ·exact rdo_rearm_stale m v e hn nd hB h hr hk ho3 he4 ha
    by_cases he : e.er = 0
    ·by_cases ha : statR m.L e.h = 1
     ·by_cases hx : e.nn = e.hn
      ·by_cases hz : e.ng = wrap64 (e.hg + 1)
       ·exact rdo_rearm m v e hn nd hB h hr hk ho3 he ha hx hz
       ·exact rdo_rearm_no_g m v e hn nd hB h hr hk ho3 he ha hx hz
      ·exact rdo_rearm_no_n m v e hn nd hB h hr hk ho3 he ha hx
     ·exact rdo_rearm_no_a m v e hn nd hB h hr hk ho3 he ha
    ·exact rdo_rearm_else m v e hn nd hB h hr hk ho3 he he4
   have ho4 : e.op = 4 := by omega
   by_cases he4 : e.er = 4
   ·by_cases ha : statR m.L e.h = 1
    ·exact rdo_migrate_stale_no m v e hn nd hB h hr hk ho4 he4 ha
    ·exact rdo_migrate_stale m v e hn nd hB h hr hk ho4 he4 ha
   by_cases he : e.er = 0
   ·by_cases ha : statR m.L e.h = 1
    ·exact rdo_migrate m v e hn nd hB h hr hk ho4 he ha
    ·exact rdo_migrate_no m v e hn nd hB h hr hk ho4 he ha
   ·exact rdo_migrate_else m v e hn nd hB h hr hk ho4 he he4
  ·by_cases ha : statR m.L e.h = 1
   ·by_cases hd : dlR m.L e.h ≤ e.t
    ·by_cases hc : e.t ≤ m.clk
     ·exact rdo_fire m v e hn nd hB h hr hk ha hd hc
     ·exact rdo_fire_late m v e hn nd hB h hr hk ha hd hc
    ·exact rdo_fire_early m v e hn nd hB h hr hk ha hd
   ·exact rdo_fire_no m v e hn nd hB h hr hk ha
  ·exact rdo_five m v e hn nd hB h hr hk
end Go.Proofs.Ythniclbmpeklmaa.KJf
end
section
namespace Go.Proofs.Ythniclbmpeklmaa.KJf
open Go.RowKit Go.Maps Go.Proofs.YthniclbmpeklmaaW.PrintWords Go.Proofs.YthniclbmpeklmaaW.PrintLast Go.Proofs.YthniclbmpeklmaaW.PrintMore Go.Proofs.Ythniclbmpeklmaa.Ju Go.Proofs.Ythniclbmpeklmaa.Mo
open Go.Proofs.Ythniclbmpeklmaa.Au (Ha RowIs types_ne evA Fr)
open Go.Proofs.YthniclbmpeklmaaW.PrintWords renaming Ev → PE
set_option linter.unusedVariables false
set_option linter.unusedSimpArgs false
def RWf (r : Rm) : Prop := ∀ x ∈ r.L, wfH x.h
theorem RWf.step {r : Rm} (h : RWf r) {e : Au.Ev} (hw : wfJ e) : RWf (rdoF r e).1 := by
 have ht : ∀ (L : List S127) (x : Ha) (s : Int), (∀ y ∈ L, wfH y.h) → ∀ y ∈ turnR L x s, wfH y.h := fun L x s hL y hy => by
  obtain ⟨z, hz, rfl⟩ := List.mem_map.1 hy
  have := hL z hz
  split <;> exact this
 have ha : ∀ (L : List S127) (d : Int), (∀ y ∈ L, wfH y.h) → ∀ y ∈ armR L e.new d, wfH y.h := fun L d hL y hy => by
  rcases List.mem_append.1 hy with q | q
  ·exact hL y q
  ·rw [List.mem_singleton.1 q]; exact hw.1.2.2
 unfold RWf rdoF rpF
 repeat' split
 all_goals first
  | exact h
  | exact ht _ _ _ h
  | exact ha _ _ h
  | exact ha _ _ (ht _ _ _ h)
structure Pw (w W : World) (b m1 m2 n : Nat) (m : Md) (nb ab : Nat) (r : Rm) (A : Option Addr) (c : Nat) (x y : Int) : Prop where
 mw : Mw w W b m1 m2 n m
 kr : KR W w.heap.size (.slice A r.L.length c) r.L
 nb_ : W.heap[nb]? = some (.cells #[.int .i64 r.clk, .slice A r.L.length c] 43 (0, 0))
 ab_ : W.heap[ab]? = some (.cells #[.int .i64 x, .int .i64 y] 36 (0, 0))
 ln : w.heap.size ≤ nb
section
variable {w W W1 : World} {b m1 m2 n : Nat} {m : Md} {nb ab : Nat} {r : Rm} {A : Option Addr} {c : Nat} {x y : Int}
theorem Pw.step (h : Pw w W b m1 m2 n m nb ab r A c x y) (hb : Below W.heap.size W W1) : Pw w W1 b m1 m2 n m nb ab r A c x y := ⟨h.mw.step hb, Kd.R_below h.kr hb, blk_below h.nb_ hb, blk_below h.ab_ hb, h.ln⟩
theorem Pw.put (h : Pw w W b m1 m2 n m nb ab r A c x y) {r1 : Rm} {A1_ : Option Addr} {c1_ : Nat} (hk : KR W w.heap.size (.slice A1_ r1.L.length c1_) r1.L) : Pw w (W.setRow nb #[.int .i64 r1.clk, .slice A1_ r1.L.length c1_]) b m1 m2 n m nb ab r1 A1_ c1_ x y := by
 have far : ∀ q, q ≠ nb → (W.setRow nb #[.int .i64 r1.clk, .slice A1_ r1.L.length c1_]).heap[q]? = W.heap[q]? := fun q hq => setRow_other W _ q _ hq
 refine ⟨⟨h.mw.md.move fun g _ e => far g ?_, below_setRow h.mw.bel h.ln _, h.mw.ok⟩, hk.keep fun g cs hg => far g (types_ne hg h.nb_ (by decide)), setRow_heap _ _ _ _ _ _ h.nb_, (far _ (types_ne h.ab_ h.nb_ (by decide))).trans h.ab_, h.ln⟩
 rcases e with e | e | e
 ·rw [e]; exact types_ne h.mw.md.blk h.nb_ (by decide)
 ·obtain ⟨z, _, hz⟩ := h.mw.md.mf; obtain ⟨_, _, hq⟩ := hz.block; rw [e]; exact fun q => Go.Proofs.Ythniclbmpeklmaa.Au.map_ne h.nb_ hq q.symm
 ·obtain ⟨z, _, hz⟩ := h.mw.md.ml; obtain ⟨_, _, hq⟩ := hz.block; rw [e]; exact fun q => Go.Proofs.Ythniclbmpeklmaa.Au.map_ne h.nb_ hq q.symm
theorem Pw.doing (h : Pw w W b m1 m2 n m nb ab r A c x y) (hn : n + 1 ≤ 1000000) {e : Au.Ev} (hw : wfJ e) {yb : Nat} (hy : W.heap[yb]? = some (.cells (evA e) 50 (0, 0))) :
  Calls Try.prog 43 #[pA b, .agg (evA e)] W fun rr w' => rr = .returned (.int .i64 (doF m e).2) ∧ Pw w w' b m1 m2 (n + 3) (doF m e).1 nb ab r A c x y ∧ w'.heap[yb]? = some (.cells (evA e) 50 (0, 0)) :=
 (h.mw.doing hn hw).mono fun _ _ ⟨h1, h2, h3⟩ => ⟨h1, ⟨h2, h.kr.keep fun g cs hg => (fr_cells h3 h.mw.md hg (by decide)).trans hg.symm, fr_cells h3 h.mw.md h.nb_ (by decide), fr_cells h3 h.mw.md h.ab_ (by decide), h.ln⟩, fr_cells h3 h.mw.md hy (by decide)⟩
theorem Pw.cells (h : Pw w W b m1 m2 n m nb ab r A c x y) {yb : Nat} {e : Au.Ev} (hy : W.heap[yb]? = some (.cells (evA e) 50 (0, 0))) : (∀ i, W.cell? ⟨yb, i, none⟩ = (evA e)[i]?) ∧ (∀ i, W.cell? ⟨nb, i, none⟩ = (#[.int .i64 r.clk, .slice A r.L.length c] : Array Value)[i]?) ∧ (∀ i, W.cell? ⟨ab, i, none⟩ = (#[.int .i64 x, .int .i64 y] : Array Value)[i]?) := ⟨fun i => blk_cell hy i, fun i => blk_cell h.nb_ i, fun i => blk_cell h.ab_ i⟩
end
def mpR.T12 : Bool × List (List Nat × List Nat) := (true, [([], []), ([], []), ([1], [1]), ([0, 2, 2], [0, 2]), ([], []), ([3, 4], [3, 4]), ([5, 3], [5]), ([6], [6]), ([6], [6]), ([7, 8, 6, 6], [6, 7, 8]), ([9, 6], [6, 9]), ([6, 10], [6, 10]), ([11, 9], [11]), ([12], [12]), ([12], [12]), ([14, 12, 12], [12, 14]), ([13, 15, 15, 12], [12, 13, 15]), ([12], [12]), ([12], [12]), ([17, 18, 16, 12], [12, 17, 18]), ([16, 19, 12], [12, 16, 19]), ([12, 20], [12, 20])])
def mpR.B12 : List Nat := [0, 0, 2, 7, 0, 31, 63, 127, 127, 511, 1023, 2047, 4095, 8191, 8191, 24575, 65535, 8191, 8191, 524287, 1048575, 2097151]
theorem mpR.tab12 : rtab .any (opsOf Try.f14 12) = mpR.T12 := by kernel_rfl
theorem mpR.bits12 : waitsOk mpR.T12.2 mpR.B12 = true := by kernel_rfl
set_option maxHeartbeats 20000000 in
set_option maxRecDepth 100000 in
theorem mplays_long (A1 : Option Addr) (n c1 : Nat) (hn : 60 < n) (x y : Int) (w : World) :
  Calls Try.prog 14 #[.slice A1 n c1, .agg #[.int .i64 x, .int .i64 y]] w fun r w' => r = .returned (.bool true) ∧ Below w.heap.size w w' := by
 have CS := Aside0.mk (fun W => speaks12 W)
 have hn' : decide ((n : Int) > 60) = true := by simp; omega
 clear hn
 go_enter Try.func14, Try.ntmps14
 go_wp2_with (first | (go_at_call 39; (with_reducible refine (CS.out _).mono ?_); rintro r w2 ⟨rfl, hb⟩; have n3 := Aside0.mk (below_step n1.out hb); clear hb n1; have n1 := n3) | (go_at_call 39; go_loud ((with_reducible refine (CS.out _).mono ?_); rintro r w1 ⟨rfl, hb⟩; have n1 := Aside0.mk (show Below w.heap.size w w1 from below_step (below_alloc (Below.refl _ _) _) hb); have n2 := Aside0.mk ((hb.block w.heap.size (by simp)).trans (heap_alloc_new w (.cells #[.int .i64 x, .int .i64 y] 36))); clear hb)))
 go_ret
 exact ⟨rfl, n1.out⟩
set_option maxHeartbeats 20000000 in
set_option maxRecDepth 100000 in
theorem mplays_main (A1 : Option Addr) (c1 : Nat) (l : List Au.Ev) (hn : l.length ≤ 60) (x y : Int) (hx : (Lit.int .i64 x).wf = true) (hy : (Lit.int .i64 y).wf = true) (w : World) (hin : ∀ (i : Nat) e, l[i]? = some e → EvIn w A1 i e) (hwf : ∀ e ∈ l, wfJ e) :
  Calls Try.prog 14 #[.slice A1 l.length c1, .agg #[.int .i64 x, .int .i64 y]] w fun r w' => r = .returned (.bool true) ∧ Below w.heap.size w w' := by
 have hu0 := Try.underlying43
 have hu2 := Try.underlying50
 have hu4 := Try.underlying22
 have hu7 := Try.underlying36
 have CS := Aside0.mk (fun W => speaks12 W)
 have CN := Aside0.mk (fun W => model_new W)
 have CO := Aside0.mk (fun e W => of_ev e W)
 have COH := Aside0.mk (fun x y W => of_ha x y W)
 have HIN := Aside0.mk hin
 have HWF := Aside0.mk hwf
 have HN := Aside0.mk hn
 have HXY := Aside0.mk (And.intro hx hy)
 have hn' : decide ((l.length : Int) > 60) = false := by simp; omega
 clear hin hwf hn hx hy
 go_enter Try.func14, Try.ntmps14
 go_upto_region 6 with (first | (go_at_call 39; go_loud ((with_reducible refine (CS.out _).mono ?_); rintro r w1 ⟨rfl, hb⟩; have n1 := Aside0.mk (show Below w.heap.size w w1 from below_step (below_alloc (Below.refl _ _) _) hb); have n2 := Aside0.mk ((hb.block w.heap.size (by simp)).trans (heap_alloc_new w (.cells #[.int .i64 x, .int .i64 y] 36))); clear hb)) | (go_at_call 40; (with_reducible refine (CN.out _).mono ?_); rintro r w2 ⟨rfl, hmd, hb⟩; have HM0 := Aside0.mk (show Mw w w2 (w1.heap.size + 1 + 1) w1.heap.size (w1.heap.size + 1) 0 md0 from ⟨MdIs.lower hmd n1.out.size, below_step n1.out hb, MOk0⟩); have n3 := Aside0.mk ((hb.block _ (blk_lt n2.out)).trans n2.out); clear hmd hb n1 n2))
 obtain ⟨b, hb⟩ : ∃ b, w1.heap.size + 1 + 1 = b := ⟨_, rfl⟩
 obtain ⟨m2, hm2⟩ : ∃ b, w1.heap.size + 1 = b := ⟨_, rfl⟩
 obtain ⟨m1, hm1⟩ : ∃ b, w1.heap.size = b := ⟨_, rfl⟩
 rw [hb, hm2, hm1] at HM0
 try rw [hb]
 clear hb hm2 hm1
 have HP0 := Aside0.mk (show Pw w (w2.alloc (.cells #[.int .i64 0, .slice none 0 0] 43)) b m1 m2 (3 * 0) md0 w2.heap.size w.heap.size ⟨0, []⟩ none 0 x y from ⟨HM0.out.alloc _, ⟨fun _ _ => trivial, [], ⟨rfl, .inl ⟨rfl, rfl⟩⟩, Reps.none _ _⟩, blk_new _ _, blk_alloc n3.out _, HM0.out.bel.size⟩)
 go_wp2
 obtain ⟨nb, hnb⟩ : ∃ b, w2.heap.size = b := ⟨_, rfl⟩
 rw [hnb] at HP0
 try rw [hnb]
 clear hnb
 go_loopw [25] (fun i wr => ∃ k : Nat, k ≤ l.length ∧ i = .int .i64 k ∧ Aside0 (∃ m r A c, Pw w wr b m1 m2 (3 * k) m nb w.heap.size r A c x y ∧ Sim m r ∧ RWf r ∧ r.L.length ≤ k)) (fun i _ => l.length - (intOf i).toNat)
 case atStart => exact ⟨0, by omega, rfl, ⟨md0, ⟨0, []⟩, none, 0, HP0.out, Sim0, fun x hx => (by cases hx), Nat.le_refl _⟩⟩
 case round =>
  clear HM0 HP0 n3
  obtain ⟨k, hk, rfl, HI0⟩ := hrel
  rcases Nat.lt_or_ge k l.length with hlt | hge
  ·obtain ⟨m, r, A, c, hi⟩ := HI0.out
   have HI := Aside0.mk hi
   clear hi HI0
   have p0 : (0 : Int) ≤ (k : Int) := by omega
   have q0 : (k : Int) < (l.length : Int) := by omega
   obtain ⟨e, he⟩ : ∃ e, l[k]? = some e := ⟨_, List.getElem?_eq_getElem hlt⟩
   have HW := Aside0.mk (HWF.out e (Go.Proofs.Ythniclbmpeklmaa.Au.get_mem he))
   obtain ⟨ad, rfl, d0, d1, d2, d3, d4, d5, d6, d7, d8, d9, d10, d11⟩ := (HIN.out k e he).below HI.out.1.mw.bel
   have hnn : wrap64 ((k : Int) + 1) = ((k + 1 : Nat) : Int) := by have := HN.out; unfold wrap64; omega
   have HKL := Aside0.mk hlt
   have HK60 := Aside0.mk (show 3 * k + 3 ≤ 1000 by have := HN.out; omega)
   clear he hlt
   replace q0 := eq_true q0
   replace p0 := eq_true p0
   have hst := HI.out.2.1.step e HW.out.1.2.1
   have hrw := HI.out.2.2.1.step HW.out
   have hle := rdo_len (m := r) (e := e)
   have hCR := fun (W : World) (hW : Pw w W b m1 m2 (3 * k) m nb w.heap.size r A c x y) => rdo_any (B := w.heap.size) r (.slice A r.L.length c) e (by have := HI.out.2.2.2; have := HK60.out; omega) HI.out.2.1.nd hW.mw.bel.size hW.kr
   obtain ⟨⟨r1, cc⟩, hrr⟩ : ∃ p, rdoF r e = p := ⟨_, rfl⟩
   rw [hrr] at hst hrw hle hCR
   simp only at hst hrw hle
   obtain ⟨hcc, hsim⟩ := hst
   subst hcc
   have CRD : Aside0 (∀ W, Pw w W b m1 m2 (3 * k) m nb w.heap.size r A c x y → Calls Try.prog 45 #[.agg #[.int .i64 r.clk, .slice A r.L.length c], .agg (evA e)] W fun rr w' => ∃ A1_ c1_, rr = .returned (.tuple #[.agg #[.int .i64 r1.clk, .slice A1_ r1.L.length c1_], .int .i64 (doF m e).2]) ∧ KR w' w.heap.size (.slice A1_ r1.L.length c1_) r1.L ∧ Below W.heap.size W w') := ⟨fun W hW => (hCR W hW).mono fun rr w' ⟨v1, q1, q2, q3⟩ => by obtain ⟨A1_, c1_, rfl⟩ := Kd.R_slice q2; exact ⟨A1_, c1_, q1, q2, q3⟩⟩
   have HS := Aside0.mk (And.intro hsim (And.intro hrw (show r1.L.length ≤ k + 1 by have := HI.out.2.2.2; omega)))
   obtain ⟨cd, hcd⟩ : ∃ q, (doF m e).2 = q := ⟨_, rfl⟩
   have HCD := Aside0.mk hcd
   obtain ⟨st, hss⟩ : ∃ q, statR r1.L (x, y) = q := ⟨_, rfl⟩
   have HSS := Aside0.mk hss
   rw [hcd] at CRD
   clear hCR hsim hrw hle hrr hcd hss
   have g1 : (cd != cd) = false := by simp
   have g3 : (st != st) = false := by simp
   have HY := Aside0.mk (And.intro (HI.out.1.step (below_alloc (Below.refl _ _) (.cells (evA e) 50))) (blk_new wr (.cells (evA e) 50)))
   have hcy := fun i => blk_cell HY.out.2 i
   have hcb := fun i => blk_cell HY.out.1.nb_ i
   go_wp2_with (first | (go_at_call 45; go_loud ((with_reducible refine (CRD.out _ HY.out.1).mono ?_); rintro rr w4 ⟨A1_, c1_, rfl, hk1, hb1⟩; have HY2 := Aside0.mk (And.intro (HY.out.1.step hb1) (blk_below HY.out.2 hb1)); have HK1 := Aside0.mk hk1; clear hcy hcb hk1 hb1)) | ((with_reducible refine gate_store (t := 43) (p := 9) rfl ?_); go_loud (refine wpList_store_row rfl 43 _ _ rfl (w4.heap.size) #[.int .i64 r1.clk, .slice A1_ r1.L.length c1_] rfl rfl 43 _ (blk_new w4 (.cells #[.int .i64 0, .slice none 0 0] 43)) (by kernel_rfl) rfl (by simp [Value.oneCell']) ?_; have hb5 : Below w4.heap.size w4 ((w4.alloc (.cells #[.int .i64 0, .slice none 0 0] 43)).setRow w4.heap.size #[.int .i64 r1.clk, .slice A1_ r1.L.length c1_]) := below_setRow (below_alloc (Below.refl _ _) _) (Nat.le_refl _) _; have HY3 := Aside0.mk (And.intro (HY2.out.1.step hb5) (blk_below HY2.out.2 hb5)); have HK2 := Aside0.mk (Kd.R_below HK1.out hb5); have h13 := Aside0.mk (setRow_heap (w4.alloc (.cells #[.int .i64 0, .slice none 0 0] 43)) w4.heap.size _ #[.int .i64 r1.clk, .slice A1_ r1.L.length c1_] 43 _ (blk_new w4 _)); have hc13 := fun i => blk_cell h13.out i; clear hb5)) | ((with_reducible refine gate_store (t := 43) (p := 6) rfl ?_); go_loud (refine wpList_store_row rfl 43 _ _ rfl (nb) #[.int .i64 r1.clk, .slice A1_ r1.L.length c1_] rfl rfl 43 _ HY3.out.1.nb_ (by kernel_rfl) rfl (by simp [Value.oneCell']) ?_; have HY4 := Aside0.mk (And.intro (HY3.out.1.put HK2.out) ((setRow_other ((w4.alloc (.cells #[.int .i64 0, .slice none 0 0] 43)).setRow w4.heap.size #[.int .i64 r1.clk, .slice A1_ r1.L.length c1_]) nb wr.heap.size #[.int .i64 r1.clk, .slice A1_ r1.L.length c1_] (types_ne HY3.out.2 HY3.out.1.nb_ (by decide))).trans HY3.out.2)); clear hc13)))
   refine start_ (n := 22) (S := (fun w' => (∀ i, w'.cell? ⟨wr.heap.size, i, none⟩ = (evA e)[i]?) ∧ (∀ i, w'.cell? ⟨nb, i, none⟩ = (#[.int .i64 r1.clk, .slice A1_ r1.L.length c1_] : Array Value)[i]?) ∧ (∀ i, w'.cell? ⟨w.heap.size, i, none⟩ = (#[.int .i64 x, .int .i64 y] : Array Value)[i]?))) (ds := []) #[ff,ff,ff,ff,ff,ff,ff,ff,ff,ff,ff,ff,ff,ff,ff,ff,ff,ff,ff,ff,ff,ff] (by kernel_rfl) rfl rfl ((HY4.out.1.step (below_drew (Below.refl _ _))).cells (blk_below HY4.out.2 (below_drew (Below.refl _ _)))) (fun hHeld => ?_)
   refine with_tabW mpR.tab12 mpR.bits12 (fun HT_ HW_ => ?_)
   have H6 : Aside0 (Pw w _ b m1 m2 (3 * k) m nb w.heap.size r1 A1_ c1_ x y ∧ _) := Aside0.mk (And.intro (HY4.out.1.step (below_drew (Below.refl _ _))) (blk_below HY4.out.2 (below_drew (Below.refl _ _))))
   generalize (((w4.alloc (.cells #[.int .i64 0, .slice none 0 0] 43)).setRow w4.heap.size #[.int .i64 r1.clk, .slice A1_ r1.L.length c1_]).setRow nb #[.int .i64 r1.clk, .slice A1_ r1.L.length c1_]).drew = w6 at H6 hHeld ⊢
   refine pure_ (i := 0) (N := (some 36)) (v := ?_) (a' := ?_) #[tt,ff,ff,ff,ff,ff,ff,ff,ff,ff,ff,ff,ff,ff,ff,ff,ff,ff,ff,ff,ff,ff] rfl rfl (any_of HT_.out (by kernel_rfl)) (fun _ _ _ h => h) (Or.inl ⟨by rfl, ?_⟩) ?_ ?_
   rotate_left
   ·intro w'
    go_simp
    with_reducible rfl
   rotate_left
   ·simp only [Act.put, sQ0, sQ1, sQ2, i64_w]
    rfl
   refine pure_ (i := 4) (N := (some 40)) (v := ?_) (a' := ?_) #[tt,ff,ff,ff,tt,ff,ff,ff,ff,ff,ff,ff,ff,ff,ff,ff,ff,ff,ff,ff,ff,ff] rfl rfl (any_of HT_.out (by kernel_rfl)) (fun _ _ _ h => h) (Or.inl ⟨by rfl, ?_⟩) ?_ ?_
   rotate_left
   ·intro w'
    go_simp
    with_reducible rfl
   rotate_left
   ·simp only [Act.put, sQ0, sQ1, sQ2, i64_w]
    rfl
   refine take_ (i := 1) (N := (some 37)) (v := ?_) (a' := ?_) #[tt,tt,ff,ff,tt,ff,ff,ff,ff,ff,ff,ff,ff,ff,ff,ff,ff,ff,ff,ff,ff,ff] rfl rfl (take_ofW HT_.out HW_.out (by kernel_rfl)) (fun _ _ _ h => h) (Or.inl ⟨by rfl, ?_⟩) hHeld ?_ ?_
   rotate_left
   ·rintro w' ⟨s0, s1, s2⟩
    go_simp
    with_reducible rfl
   rotate_left
   ·simp only [Act.put, sQ0, sQ1, sQ2, i64_w]
    rfl
   refine one_ (i := 2) (N := (some 38)) #[tt,tt,tt,ff,tt,ff,ff,ff,ff,ff,ff,ff,ff,ff,ff,ff,ff,ff,ff,ff,ff,ff] rfl rfl (one_of HT_.out (by kernel_rfl)) (by decide) (fun K hK => ?_)
   refine call_ (f := 30) #[.agg (evA e)] (by rfl) rfl (by go_simp <;> rfl) ?_
   refine (CO.out e w6).mono ?_
   rintro rr w7 ⟨rfl, hb⟩
   refine ⟨_, rfl, ?_⟩
   have H7 := Aside0.mk (And.intro (H6.out.1.step hb) (blk_below H6.out.2 hb))
   clear hb
   refine hK.out _ _ (H7.out.1.cells H7.out.2) (fun hHeld => ?_)
   clear hK K
   refine norm_ (a' := ?_) ?_ ?_
   rotate_left
   ·show Act.put _ (some 38) _ = _
    simp only [Act.put, sQ0, sQ1, sQ2, i64_w]
    rfl
   refine one_ (i := 3) (N := (some 39)) #[tt,tt,tt,tt,tt,ff,ff,ff,ff,ff,ff,ff,ff,ff,ff,ff,ff,ff,ff,ff,ff,ff] rfl rfl (one_of HT_.out (by kernel_rfl)) (by decide) (fun K hK => ?_)
   refine call_ (f := 43) #[pA b, .agg (evA e)] (by rfl) rfl (by go_simp <;> rfl) ?_
   have hdo := H7.out.1.doing (by have := HK60.out; omega) HW.out H7.out.2
   rw [HCD.out] at hdo
   refine hdo.mono ?_
   clear hdo
   rintro rr w8 ⟨rfl, hq⟩
   refine ⟨_, rfl, ?_⟩
   have H8 := Aside0.mk hq
   clear hq
   refine hK.out _ _ (H8.out.1.cells H8.out.2) (fun hHeld => ?_)
   clear hK K
   refine norm_ (a' := ?_) ?_ ?_
   rotate_left
   ·show Act.put _ (some 39) _ = _
    simp only [Act.put, sQ0, sQ1, sQ2, i64_w]
    rfl
   refine pure_ (i := 5) (N := (some 41)) (v := ?_) (a' := ?_) #[tt,tt,tt,tt,tt,tt,ff,ff,ff,ff,ff,ff,ff,ff,ff,ff,ff,ff,ff,ff,ff,ff] rfl rfl (any_of HT_.out (by kernel_rfl)) (fun _ _ _ h => h) (Or.inl ⟨by rfl, ?_⟩) ?_ ?_
   rotate_left
   ·intro w'
    go_simp
    with_reducible rfl
   rotate_left
   ·simp only [Act.put, sQ0, sQ1, sQ2, i64_w]
    rfl
   refine pure_ (i := 6) (N := (some 42)) (v := ?_) (a' := ?_) #[tt,tt,tt,tt,tt,tt,tt,ff,ff,ff,ff,ff,ff,ff,ff,ff,ff,ff,ff,ff,ff,ff] rfl rfl (any_of HT_.out (by kernel_rfl)) (fun _ _ _ h => h) (Or.inl ⟨by rfl, ?_⟩) ?_ ?_
   rotate_left
   ·intro w'
    go_simp
    with_reducible rfl
   rotate_left
   ·simp only [Act.put, sQ0, sQ1, sQ2, i64_w]
    rfl
   refine pure_ (i := 7) (N := (some 43)) (v := ?_) (a' := ?_) #[tt,tt,tt,tt,tt,tt,tt,tt,ff,ff,ff,ff,ff,ff,ff,ff,ff,ff,ff,ff,ff,ff] rfl rfl (any_of HT_.out (by kernel_rfl)) (fun _ _ _ h => h) (Or.inl ⟨by rfl, ?_⟩) ?_ ?_
   rotate_left
   ·intro w'
    go_simp
    with_reducible rfl
   rotate_left
   ·simp only [Act.put, sQ0, sQ1, sQ2, i64_w]
    rfl
   refine take_ (i := 8) (N := (some 44)) (v := ?_) (a' := ?_) #[tt,tt,tt,tt,tt,tt,tt,tt,tt,ff,ff,ff,ff,ff,ff,ff,ff,ff,ff,ff,ff,ff] rfl rfl (take_ofW HT_.out HW_.out (by kernel_rfl)) (fun _ _ _ h => h) (Or.inl ⟨by rfl, ?_⟩) hHeld ?_ ?_
   rotate_left
   ·rintro w' ⟨s0, s1, s2⟩
    go_simp
    with_reducible rfl
   rotate_left
   ·simp only [Act.put, sQ0, sQ1, sQ2, i64_w]
    rfl
   refine one_ (i := 9) (N := (some 45)) #[tt,tt,tt,tt,tt,tt,tt,tt,tt,tt,ff,ff,ff,ff,ff,ff,ff,ff,ff,ff,ff,ff] rfl rfl (one_of HT_.out (by kernel_rfl)) (by decide) (fun K hK => ?_)
   refine call_ (f := 46) #[pA b, .agg #[.int .i64 r1.clk, .slice A1_ r1.L.length c1_]] (by rfl) rfl (by go_simp <;> rfl) ?_
   refine (is_any H8.out.1.mw.md (by have := HK60.out; omega) H8.out.1.kr HS.out.1 H8.out.1.mw.ok HS.out.2.1 (by have := HS.out.2.2; have := HK60.out; omega)).mono ?_
   rintro rr w9 ⟨rfl, hb⟩
   refine ⟨_, rfl, ?_⟩
   have H9 := Aside0.mk (And.intro (H8.out.1.step hb) (blk_below H8.out.2 hb))
   clear hb
   refine hK.out _ _ (H9.out.1.cells H9.out.2) (fun hHeld => ?_)
   clear hK K
   refine norm_ (a' := ?_) ?_ ?_
   rotate_left
   ·show Act.put _ (some 45) _ = _
    simp only [Act.put, sQ0, sQ1, sQ2, i64_w]
    rfl
   refine pure_ (i := 10) (N := (some 46)) (v := ?_) (a' := ?_) #[tt,tt,tt,tt,tt,tt,tt,tt,tt,tt,tt,ff,ff,ff,ff,ff,ff,ff,ff,ff,ff,ff] rfl rfl (any_of HT_.out (by kernel_rfl)) (fun _ _ _ h => h) (Or.inl ⟨by rfl, ?_⟩) ?_ ?_
   rotate_left
   ·intro w'
    go_simp
    with_reducible rfl
   rotate_left
   ·simp only [Act.put, sQ0, sQ1, sQ2, i64_w]
    rfl
   refine pure_ (i := 11) (N := (some 47)) (v := ?_) (a' := ?_) #[tt,tt,tt,tt,tt,tt,tt,tt,tt,tt,tt,tt,ff,ff,ff,ff,ff,ff,ff,ff,ff,ff] rfl rfl (any_of HT_.out (by kernel_rfl)) (fun _ _ _ h => h) (Or.inl ⟨by rfl, ?_⟩) ?_ ?_
   rotate_left
   ·intro w'
    go_simp
    with_reducible rfl
   rotate_left
   ·simp only [Act.put, sQ0, sQ1, sQ2, i64_w]
    rfl
   refine pure_ (i := 12) (N := (some 48)) (v := ?_) (a' := ?_) #[tt,tt,tt,tt,tt,tt,tt,tt,tt,tt,tt,tt,tt,ff,ff,ff,ff,ff,ff,ff,ff,ff] rfl rfl (any_of HT_.out (by kernel_rfl)) (fun _ _ _ h => h) (Or.inl ⟨by rfl, ?_⟩) ?_ ?_
   rotate_left
   ·intro w'
    go_simp
    with_reducible rfl
   rotate_left
   ·simp only [Act.put, sQ0, sQ1, sQ2, i64_w]
    rfl
   refine pure_ (i := 13) (N := (some 49)) (v := ?_) (a' := ?_) #[tt,tt,tt,tt,tt,tt,tt,tt,tt,tt,tt,tt,tt,tt,ff,ff,ff,ff,ff,ff,ff,ff] rfl rfl (any_of HT_.out (by kernel_rfl)) (fun _ _ _ h => h) (Or.inl ⟨by rfl, ?_⟩) ?_ ?_
   rotate_left
   ·intro w'
    go_simp
    with_reducible rfl
   rotate_left
   ·simp only [Act.put, sQ0, sQ1, sQ2, i64_w]
    rfl
   refine take_ (i := 14) (N := (some 50)) (v := ?_) (a' := ?_) #[tt,tt,tt,tt,tt,tt,tt,tt,tt,tt,tt,tt,tt,tt,tt,ff,ff,ff,ff,ff,ff,ff] rfl rfl (take_ofW HT_.out HW_.out (by kernel_rfl)) (fun _ _ _ h => h) (Or.inl ⟨by rfl, ?_⟩) hHeld ?_ ?_
   rotate_left
   ·rintro w' ⟨s0, s1, s2⟩
    go_simp
    with_reducible rfl
   rotate_left
   ·simp only [Act.put, sQ0, sQ1, sQ2, i64_w]
    rfl
   refine take_ (i := 17) (N := (some 53)) (v := ?_) (a' := ?_) #[tt,tt,tt,tt,tt,tt,tt,tt,tt,tt,tt,tt,tt,tt,tt,ff,ff,tt,ff,ff,ff,ff] rfl rfl (take_ofW HT_.out HW_.out (by kernel_rfl)) (fun _ _ _ h => h) (Or.inl ⟨by rfl, ?_⟩) hHeld ?_ ?_
   rotate_left
   ·rintro w' ⟨s0, s1, s2⟩
    go_simp
    with_reducible rfl
   rotate_left
   ·simp only [Act.put, sQ0, sQ1, sQ2, i64_w]
    rfl
   refine take_ (i := 18) (N := (some 54)) (v := ?_) (a' := ?_) #[tt,tt,tt,tt,tt,tt,tt,tt,tt,tt,tt,tt,tt,tt,tt,ff,ff,tt,tt,ff,ff,ff] rfl rfl (take_ofW HT_.out HW_.out (by kernel_rfl)) (fun _ _ _ h => h) (Or.inl ⟨by rfl, ?_⟩) hHeld ?_ ?_
   rotate_left
   ·rintro w' ⟨s0, s1, s2⟩
    go_simp
    with_reducible rfl
   rotate_left
   ·simp only [Act.put, sQ0, sQ1, sQ2, i64_w]
    rfl
   refine one_ (i := 15) (N := (some 51)) #[tt,tt,tt,tt,tt,tt,tt,tt,tt,tt,tt,tt,tt,tt,tt,tt,ff,tt,tt,ff,ff,ff] rfl rfl (one_of HT_.out (by kernel_rfl)) (by decide) (fun K hK => ?_)
   refine call_ (f := 34) #[.agg #[.int .i64 x, .int .i64 y]] (by rfl) rfl (by go_simp <;> rfl) ?_
   refine (COH.out x y w9).mono ?_
   rintro rr w10 ⟨rfl, hb⟩
   refine ⟨_, rfl, ?_⟩
   have H10 := Aside0.mk (And.intro (H9.out.1.step hb) (blk_below H9.out.2 hb))
   clear hb
   refine hK.out _ _ (H10.out.1.cells H10.out.2) (fun hHeld => ?_)
   clear hK K
   refine norm_ (a' := ?_) ?_ ?_
   rotate_left
   ·show Act.put _ (some 51) _ = _
    simp only [Act.put, sQ0, sQ1, sQ2, i64_w]
    rfl
   refine one_ (i := 16) (N := (some 52)) #[tt,tt,tt,tt,tt,tt,tt,tt,tt,tt,tt,tt,tt,tt,tt,tt,tt,tt,tt,ff,ff,ff] rfl rfl (one_of HT_.out (by kernel_rfl)) (by decide) (fun K hK => ?_)
   refine call_ (f := 33) #[pA b, .agg #[.int .i64 x, .int .i64 y]] (by rfl) rfl (by go_simp <;> rfl) ?_
   have hst := model_status x y HXY.out.1 HXY.out.2 H10.out.1.mw.md
   rw [(HS.out.1.st (x, y)).1, HSS.out] at hst
   refine hst.mono ?_
   clear hst
   rintro rr w11 ⟨rfl, hb⟩
   refine ⟨_, rfl, ?_⟩
   have H11 := Aside0.mk (And.intro (H10.out.1.step hb) (blk_below H10.out.2 hb))
   clear hb
   refine hK.out _ _ (H11.out.1.cells H11.out.2) (fun hHeld => ?_)
   clear hK K
   refine norm_ (a' := ?_) ?_ ?_
   rotate_left
   ·show Act.put _ (some 52) _ = _
    simp only [Act.put, sQ0, sQ1, sQ2, i64_w]
    rfl
   refine one_ (i := 19) (N := (some 55)) #[tt,tt,tt,tt,tt,tt,tt,tt,tt,tt,tt,tt,tt,tt,tt,tt,tt,tt,tt,tt,ff,ff] rfl rfl (one_of HT_.out (by kernel_rfl)) (by decide) (fun K hK => ?_)
   refine call_ (f := 35) #[.agg #[.int .i64 r1.clk, .slice A1_ r1.L.length c1_], .agg #[.int .i64 x, .int .i64 y]] (by rfl) rfl (by go_simp <;> rfl) ?_
   have hst := stat_calls (clk := r1.clk) H11.out.1.kr (by have := HS.out.2.2; have := HK60.out; omega) x y
   rw [HSS.out] at hst
   refine hst.mono ?_
   clear hst
   rintro rr w12 ⟨rfl, hb⟩
   refine ⟨_, rfl, ?_⟩
   have H12 := Aside0.mk (And.intro (H11.out.1.step hb) (blk_below H11.out.2 hb))
   clear hb
   refine hK.out _ _ (H12.out.1.cells H12.out.2) (fun hHeld => ?_)
   clear hK K
   refine norm_ (a' := ?_) ?_ ?_
   rotate_left
   ·show Act.put _ (some 55) _ = _
    simp only [Act.put, sQ0, sQ1, sQ2, i64_w]
    rfl
   refine pure_ (i := 20) (N := (some 56)) (v := ?_) (a' := ?_) #[tt,tt,tt,tt,tt,tt,tt,tt,tt,tt,tt,tt,tt,tt,tt,tt,tt,tt,tt,tt,tt,ff] rfl rfl (any_of HT_.out (by kernel_rfl)) (fun _ _ _ h => h) (Or.inl ⟨by rfl, ?_⟩) ?_ ?_
   rotate_left
   ·intro w'
    go_simp
    with_reducible rfl
   rotate_left
   ·simp only [Act.put, sQ0, sQ1, sQ2, i64_w]
    rfl
   refine pure_ (i := 21) (N := (some 57)) (v := ?_) (a' := ?_) #[tt,tt,tt,tt,tt,tt,tt,tt,tt,tt,tt,tt,tt,tt,tt,tt,tt,tt,tt,tt,tt,tt] rfl rfl (any_of HT_.out (by kernel_rfl)) (fun _ _ _ h => h) (Or.inl ⟨by rfl, ?_⟩) ?_ ?_
   rotate_left
   ·intro w'
    go_simp
    with_reducible rfl
   rotate_left
   ·simp only [Act.put, sQ0, sQ1, sQ2, i64_w]
    rfl
   refine done_ (done_of HT_.out (by kernel_rfl)) ?_
   clear hHeld
   go_wp2
   go_roundw
   case rel => exact ⟨k + 1, by have := HKL.out; omega, by first | rw [hnn] | simp, ⟨_, r1, A1_, c1_, by rw [show 3 * (k + 1) = 3 * k + 3 by omega]; exact H12.out.1, HS.out.1, HS.out.2.1, HS.out.2.2⟩⟩
   case measure => have := HKL.out; first | (rw [hnn]; simp [intOf]; omega) | (simp [intOf]; omega)
  ·have q0 : ((k : Int) < (l.length : Int)) = False := eq_false (by omega)
   have HBL : Aside0 (Below w.heap.size w wr) := ⟨by obtain ⟨_, _, _, _, this, _⟩ := HI0.out; exact this.mw.bel⟩
   clear hk hge HI0
   go_wp2
   go_ret
   exact ⟨rfl, HBL.out⟩
end Go.Proofs.Ythniclbmpeklmaa.KJf
end
section
namespace Go.Proofs.Ythniclbmpeklmaa.KJf
open Go.RowKit Go.Proofs.YthniclbmpeklmaaW.PrintWords Go.Proofs.Ythniclbmpeklmaa.Ju
set_option linter.unusedVariables false
def toEv (x : S50) : Au.Ev := ⟨x.f0, x.f1, x.f2, x.f3.f0, x.f3.f1, x.f4.f0, x.f4.f1, x.f5, x.f6, x.f7, x.f8, x.f9⟩
theorem evs_in {A1 : Option Addr} {l1 : List S50} {w : World} (hr1 : Kd.C k50 w A1 l1.length l1) (i : Nat) (e : Au.Ev) (he : (l1.map toEv)[i]? = some e) : EvIn w A1 i e := by
 rw [List.getElem?_map] at he
 obtain ⟨z, hz, rfl⟩ := Option.map_eq_some_iff.1 he
 have hi : i < l1.length := (List.getElem?_eq_some_iff.1 hz).1
 have hrd : rd_T50 l1 (i : Int) = z := by
  show l1.getD i z50 = z
  rw [List.getD_eq_getElem?_getD, hz]; rfl
 have hat := at_T50 hr1 (i : Int) (by omega) (by omega)
 rw [hrd] at hat
 exact hat
theorem evs_wf {l1 : List S50} (hw : ∀ x ∈ l1, wfB' (toEv x) = true) (e : Au.Ev) (he : e ∈ l1.map toEv) : wfJ e := by
 obtain ⟨z, hz, rfl⟩ := List.mem_map.1 he
 exact wfJ_of (hw z hz)
end Go.Proofs.Ythniclbmpeklmaa.KJf
end
section
namespace Go.Proofs.Ythniclbmpeklmaa.KJf
open Go.RowKit Go.Proofs.YthniclbmpeklmaaW.PrintWords Go.Proofs.Ythniclbmpeklmaa.Ju
set_option linter.unusedVariables false
def knelllaw12_ModelPlays.f (l1 : List S50) (x y : Int) : Option Bool := if (∀ e ∈ l1, wfB' (toEv e) = true) ∧ (Lit.int .i64 x).wf = true ∧ (Lit.int .i64 y).wf = true then some true else none
theorem knelllaw12_ModelPlays.calls (A1 : Option Addr) (q1 : Nat) (l1 : List S50) (x y : Int) (r : Bool) (w : World) (hr1 : Kd.C k50 w A1 l1.length l1) (hc1 : l1.length ≤ q1)
  (h : knelllaw12_ModelPlays.f l1 x y = some r) :
  Calls Try.prog 14 #[.slice A1 l1.length q1, .agg #[.int .i64 x, .int .i64 y]] w fun e w' => e = .returned (.bool r) ∧ Below w.heap.size w w' := by
 unfold knelllaw12_ModelPlays.f at h
 split at h
 ·rename_i hw
  obtain rfl := Option.some.inj h
  rcases Nat.lt_or_ge 60 l1.length with hn | hn
  ·exact mplays_long A1 _ q1 hn x y w
  ·have q := mplays_main A1 q1 (l1.map toEv) (by rw [List.length_map]; exact hn) x y hw.2.1 hw.2.2 w (evs_in hr1) (evs_wf hw.1)
   rw [List.length_map] at q
   exact q
 ·cases h
theorem ModelPlays (l1 : List S50) (x y : Int) (hw : ∀ e ∈ l1, wfB' (toEv e) = true) (hx : (Lit.int .i64 x).wf = true) (hy : (Lit.int .i64 y).wf = true) : knelllaw12_ModelPlays.f l1 x y = some true := if_pos ⟨hw, hx, hy⟩
end Go.Proofs.Ythniclbmpeklmaa.KJf
end
section
namespace Go.Proofs.Ythniclbmpeklmaa.Krow
open Go.ChangeShapes Go.WideShapes Go.Deep Go.Proofs.YthniclbmpeklmaaW.PrintWords
inductive Leaf where
 | int (k : IntKind)
 | bool
def Leaf.ok : Leaf → Value → Prop
 | .int k, v => ∃ n, v = .int k n ∧ (Lit.int k n).wf = true
 | .bool, v => ∃ b, v = .bool b
def Leaves : List Leaf → List Value → Prop
 | [], [] => True
 | l :: ls, v :: vs => l.ok v ∧ Leaves ls vs
 | _, _ => False
theorem Leaves.length : ∀ {ls : List Leaf} {vs : List Value}, Leaves ls vs → vs.length = ls.length
 | [], [], _ => rfl
 | _ :: _, _ :: _, h => by simp [Leaves.length h.2]
theorem Leaves.append : ∀ {a b : List Leaf} {vs ws : List Value}, Leaves a vs → Leaves b ws → Leaves (a ++ b) (vs ++ ws)
 | [], _, [], _, _, h => h
 | _ :: _, _, _ :: _, _, h, h' => ⟨h.1, Leaves.append h.2 h'⟩
theorem Leaves.int {k : IntKind} {ls : List Leaf} {vs : List Value} (h : Leaves (.int k :: ls) vs) : ∃ n r, vs = .int k n :: r ∧ (Lit.int k n).wf = true ∧ Leaves ls r := by
 match vs, h with
 | _ :: r, ⟨⟨n, rfl, hw⟩, h⟩ => exact ⟨n, r, rfl, hw, h⟩
theorem Leaves.boole {ls : List Leaf} {vs : List Value} (h : Leaves (.bool :: ls) vs) : ∃ b r, vs = .bool b :: r ∧ Leaves ls r := by
 match vs, h with
 | _ :: r, ⟨⟨b, rfl⟩, h⟩ => exact ⟨b, r, rfl, h⟩
theorem Leaves.nil {vs : List Value} (h : Leaves [] vs) : vs = [] := by
 match vs, h with
 | [], _ => rfl
theorem collect {α : Type} {p : Nat → α → Prop} {len : Nat} (key : ∀ i, i < len → ∃ x : α, p i x) : ∃ l : List α, l.length = len ∧ ∀ i x, l[i]? = some x → p i x := by
 induction len with
 | zero => exact ⟨[], rfl, fun i x h => by simp at h⟩
 | succ len ih =>
  obtain ⟨l, hl, hx⟩ := ih (fun i hi => key i (by omega))
  obtain ⟨x, hp⟩ := key len (by omega)
  refine ⟨l ++ [x], by simp [hl], fun i y hy => ?_⟩
  by_cases hi : i < len
  ·rw [List.getElem?_append_left (by omega)] at hy
   exact hx i y hy
  ·rw [List.getElem?_append_right (by omega)] at hy
   have : i - l.length = 0 := by
    have := (List.getElem?_eq_some_iff.1 hy).1
    simp at this
    omega
   rw [this] at hy
   obtain rfl : x = y := by simpa using hy
   obtain rfl : i = len := by omega
   exact hp
def fieldsOf (f : TypeId → Option (List Leaf)) (P : Program) : List Field → Nat → Option (List Leaf)
 | [], _ => some []
 | x :: r, off => (f x.type).bind fun ls => if x.offset = off ∧ P.cellsOf x.type = ls.length then (fieldsOf f P r (off + ls.length)).map (ls ++ ·) else none
def plainOf (P : Program) : Nat → TypeId → Option (List Leaf)
 | 0, _ => none
 | n + 1, t => match P.underlying t with
  | some (.int k) => some [.int k]
  | some .bool => some [.bool]
  | some (.struct fs) => (fieldsOf (plainOf P n) P fs.toList 0).bind fun ls => if P.cellsOf t = ls.length then some ls else none
  | some (.array m e) => (plainOf P n e).bind fun ls => if P.cellsOf e = ls.length ∧ P.cellsOf t = m * ls.length then some ((List.replicate m ls).flatten) else none
  | _ => none
section
variable {H : Type} {enc : TypeId × Value → H} {P : Program} {w : World} {base : Nat} {spare : Nat → Bool} {held : Bool}
theorem fields_leaves {n : Nat} (ih : ∀ (t : TypeId) (ls : List Leaf) (fuel : Nat) (cs : List Value) (x : DataW H × List MemPlace), plainOf P n t = some ls → DataW.trod enc P w base spare held fuel t cs = some x → Leaves ls cs) (cs : List Value) (m : Nat) :
  ∀ (fs : List Field) (off : Nat) (ls : List Leaf), (∀ (i : Nat) (f : Field), fs[i]? = some f → ∃ x, DataW.trod enc P w base spare held m f.type ((cs.drop f.offset).take (P.cellsOf f.type)) = some x) →
   fieldsOf (plainOf P n) P fs off = some ls → Leaves ls ((cs.drop off).take ls.length) := by
 intro fs
 induction fs with
 | nil =>
  intro off ls _ h
  simp only [fieldsOf, Option.some.injEq] at h
  subst h
  simp [Leaves]
 | cons f r ihr =>
  intro off ls hx h
  simp only [fieldsOf] at h
  obtain ⟨l1, h1, h⟩ := Option.bind_eq_some_iff.1 h
  by_cases hc : f.offset = off ∧ P.cellsOf f.type = l1.length
  ·rw [if_pos hc] at h
   obtain ⟨l2, h2, rfl⟩ := Option.map_eq_some_iff.1 h
   obtain ⟨x, hx0⟩ := hx 0 f rfl
   rw [hc.1, hc.2] at hx0
   have a1 := ih f.type l1 m _ x h1 hx0
   have a2 := ihr (off + l1.length) l2 (fun i g hg => hx (i + 1) g hg) h2
   have e : (cs.drop off).take (l1 ++ l2).length = (cs.drop off).take l1.length ++ (cs.drop (off + l1.length)).take l2.length := by
    rw [List.length_append, List.take_add, List.drop_drop]
   rw [e]
   exact a1.append a2
  ·rw [if_neg hc] at h
   cases h
theorem blocks_leaves (ls : List Leaf) (cs : List Value) : ∀ (m off : Nat), (∀ i, i < m → Leaves ls ((cs.drop ((off + i) * ls.length)).take ls.length)) → Leaves ((List.replicate m ls).flatten) ((cs.drop (off * ls.length)).take (m * ls.length)) := by
 intro m
 induction m with
 | zero => intro off _; simp [Leaves]
 | succ m ih =>
  intro off h
  have a1 := h 0 (by omega)
  have a2 := ih (off + 1) (fun i hi => by have := h (i + 1) (by omega); rw [show off + 1 + i = off + (i + 1) by omega]; exact this)
  rw [Nat.add_zero] at a1
  rw [List.replicate_succ, List.flatten_cons, show (m + 1) * ls.length = ls.length + m * ls.length by rw [Nat.add_mul]; omega, List.take_add, List.drop_drop, show off * ls.length + ls.length = (off + 1) * ls.length by rw [Nat.add_mul]; omega]
  exact a1.append a2
theorem plain_trod : ∀ (n : Nat) (t : TypeId) (ls : List Leaf) (fuel : Nat) (cs : List Value) (x : DataW H × List MemPlace), plainOf P n t = some ls → DataW.trod enc P w base spare held fuel t cs = some x → Leaves ls cs := by
 intro n
 induction n with
 | zero => intro t ls fuel cs x h; cases h
 | succ n ih =>
  intro t ls fuel cs x h hx
  unfold plainOf at h
  split at h
  ·rename_i k hu
   obtain rfl := Option.some.inj h
   obtain ⟨a, rfl, _, hw⟩ := DataW.trod_int hu hx
   exact ⟨⟨a, rfl, hw⟩, trivial⟩
  ·rename_i hu
   obtain rfl := Option.some.inj h
   obtain ⟨b, rfl, _⟩ := DataW.trod_bool hu hx
   exact ⟨⟨b, rfl⟩, trivial⟩
  ·rename_i fs hu
   obtain ⟨l, h1, h⟩ := Option.bind_eq_some_iff.1 h
   by_cases hc : P.cellsOf t = l.length
   ·rw [if_pos hc] at h
    obtain rfl := Option.some.inj h
    obtain ⟨xs, m, _, _, hl, hlen, hf⟩ := DataW.trod_struct hu hx
    have := fields_leaves ih cs m fs.toList 0 l (fun i f hi => by
     have hi' : fs[i]? = some f := by simpa using hi
     rw [hf i f hi']
     have : i < xs.length := by rw [hlen]; exact (Array.getElem?_eq_some_iff.1 hi').1
     exact ⟨_, List.getElem?_eq_getElem this⟩) h1
    rw [List.drop_zero, List.take_of_length_le (by omega)] at this
    exact this
   ·rw [if_neg hc] at h
    cases h
  ·rename_i m e hu
   obtain ⟨l, h1, h⟩ := Option.bind_eq_some_iff.1 h
   by_cases hc : P.cellsOf e = l.length ∧ P.cellsOf t = m * l.length
   ·rw [if_pos hc] at h
    obtain rfl := Option.some.inj h
    obtain ⟨xs, q, _, _, hl, hlen, hf⟩ := DataW.trod_array hu hx
    have := blocks_leaves l cs m 0 (fun i hi => by
     have h2 := hf i hi
     rw [List.getElem?_eq_getElem (by omega), hc.1] at h2
     rw [Nat.zero_add]
     exact ih e l q _ _ h1 h2)
    rw [Nat.zero_mul, List.drop_zero, List.take_of_length_le (by omega)] at this
    exact this
   ·rw [if_neg hc] at h
    cases h
  ·cases h
theorem open_plain {r : Reach} {b0 : Nat} {t : TypeId} {v : Value} {d : DataW H} {ps : List MemPlace} {n : Nat} {ls : List Leaf} (hp : plainOf P n t = some ls) (ha : (match P.underlying t with | some (.struct _) | some (.array _ _) => true | _ => false) = true)
  (hv : Value.okWide P w r b0 t v) (h : DataW.Trod enc P w base spare held t v d ps) : ∃ cs : List Value, v = .agg cs.toArray ∧ Leaves ls cs := by
 obtain ⟨fuel, hf⟩ := h
 unfold Value.okWide at hv
 have key : ∃ cs, v = .agg cs := by
  split at hv
  ·obtain ⟨cs, h1, _⟩ := hv; exact ⟨cs, h1⟩
  ·obtain ⟨cs, h1, _⟩ := hv; exact ⟨cs, h1⟩
  ·rename_i h1 h2
   split at ha
   ·rename_i fs he; exact absurd he (h1 fs)
   ·rename_i a e he; exact absurd he (h2 a e)
   ·cases ha
 obtain ⟨cs, rfl⟩ := key
 have h2 := plain_trod n t ls fuel _ _ hp hf
 exact ⟨cs.toList, by simp, by simpa [Value.cells] using h2⟩
theorem open_rows {α : Type} (D : Kd α) (good : α → Prop) {r : Reach} {b0 : Nat} {t e : TypeId} {v : Value} {d : DataW H} {ps : List MemPlace} {n : Nat} {ls : List Leaf} (hu : P.underlying t = some (.slice e)) (hp : plainOf P n e = some ls) (hc : P.cellsOf e = ls.length) (hsz : D.sz = ls.length)
  (mk : ∀ cs : List Value, Leaves ls cs → ∃ x : α, D.K w x cs ∧ good x)
  (hv : Value.okWide P w r b0 t v) (h : DataW.Trod enc P w base spare held t v d ps) :
  ∃ (A : Option Addr) (c : Nat) (l : List α), v = .slice A l.length c ∧ l.length ≤ c ∧ l.length ≤ 9223372036854775807 ∧ Kd.C D w A l.length l ∧ ∀ x ∈ l, good x := by
 obtain ⟨A, len, cap, rfl⟩ := okWide_slice hu hv
 obtain ⟨fuel, hf⟩ := h
 rcases open_slice hu hf with ⟨hcs, _⟩ | ⟨a, len', cap', m, q, Ds, Pl, hcs, _, hl, hm, hmm, _, hi⟩
 ·simp [Value.cells] at hcs
  obtain ⟨rfl, rfl, rfl⟩ := hcs
  exact ⟨none, 0, [], rfl, Nat.le_refl _, by simp, ⟨rfl, by simp, fun h => absurd h (by simp)⟩, by simp⟩
 ·simp [Value.cells] at hcs
  obtain ⟨rfl, rfl, rfl⟩ := hcs
  have hlm : len ≤ m := by
   rw [hmm]
   split
   ·exact hl
   ·exact Nat.le_refl _
  have key : ∀ i, i < len → ∃ (x : α) (cs : List Value), D.K w x cs ∧ good x ∧ cs.length = ls.length ∧ ∀ j u, cs[j]? = some u → w.cell? (a.add (i * ls.length + j)) = some u := by
   intro i hil
   obtain ⟨cs', h1, h2⟩ := hi i (by omega)
   rw [hc] at h1
   obtain ⟨_, hlen, hcell⟩ := World.cells?_some h1
   obtain ⟨x, hx, hg⟩ := mk cs' (plain_trod n e ls q cs' _ hp h2)
   refine ⟨x, cs', hx, hg, hlen, fun j u hu => ?_⟩
   have hj : j < ls.length := by rw [← hlen]; exact (List.getElem?_eq_some_iff.1 hu).1
   rw [← Go.Deep.add_add, hcell j hj, hu]
  have ch := collect key
  obtain ⟨l, rfl, hx⟩ := ch
  have hm' : cap ≤ 9223372036854775807 := hm
  refine ⟨some a, cap, l, rfl, hl, by omega, ⟨rfl, by omega, fun _ => ⟨a, rfl, fun j p hj => ?_⟩⟩, fun x hxl => ?_⟩
  ·obtain ⟨cs, h1, _, h3, h4⟩ := hx j p hj
   refine ⟨cs, by rw [h3, hsz], h1, ?_⟩
   rw [hsz]
   exact h4
  ·obtain ⟨i, hi⟩ := List.mem_iff_getElem?.1 hxl
   obtain ⟨_, _, h2, _⟩ := hx i x hi
   exact h2
end
end Go.Proofs.Ythniclbmpeklmaa.Krow
end
