/- What is proved: a part of the way to the statement JudgePlaysSaid: JrD, JrS, JrT, JrR; no conditions. Put together by a program of this session (claimv.py). -/
import Derived.Laws.CopyRow
import Derived.Test.YthniclbmpeklmaaVjp5
section
set_option maxHeartbeats 4000000
set_option maxRecDepth 100000
namespace Go.Proofs.Ythniclbmpeklmaa.KJf
open Go.RowKit Go.Proofs.YthniclbmpeklmaaW.PrintWords Go.Proofs.YthniclbmpeklmaaW.PrintLast Go.Proofs.YthniclbmpeklmaaW.PrintMore Go.Proofs.Ythniclbmpeklmaa.Ju
open Go.Proofs.Ythniclbmpeklmaa.Au (evA types_ne)
open Go.Proofs.YthniclbmpeklmaaW.PrintWords renaming Ev → PE
set_option linter.unusedVariables false
set_option linter.unusedSimpArgs false
abbrev KR (W : World) (B : Nat) (v : Value) (L : List S127) : Prop := Kd.R k127 127 W B (fun _ => True) v L
theorem KR.keep {W W1 : World} {B : Nat} {v : Value} {L : List S127} (h : KR W B v L) (hk : ∀ (g : Nat) (cs : Array Value), W.heap[g]? = some (.cells cs 127 (0, 0)) → W1.heap[g]? = W.heap[g]?) : KR W1 B v L :=
 Kd.R_mono (Kd.R_move (Kd.R_bound h) (fun k hkk => by
  obtain ⟨_, _, _, q, hq, cells, hc⟩ := hkk
  have e : q = 127 := by
   have : q ∈ [127] := hq
   simpa using this
  rw [e] at hc
  exact hk k cells hc)) (fun _ _ => trivial)
theorem KR.C {W : World} {B : Nat} {A : Option Addr} {c : Nat} {L : List S127} (h : KR W B (.slice A L.length c) L) : Kd.C k127 W A L.length L ∧ L.length ≤ c := by
 obtain ⟨_, hC⟩ := Kd.R_reads' h
 exact ⟨hC.2, hC.1⟩
structure Rj (B : Nat) (w W : World) (clk : Int) (v : Value) (L : List S127) (e : Au.Ev) : Prop where
 below : Below w.heap.size w W
 b : W.heap[w.heap.size]? = some (.cells #[.int .i64 clk, v] 43 (0, 0))
 e_ : W.heap[w.heap.size + 1]? = some (.cells (evA e) 50 (0, 0))
 r : ∃ rs : Array Value, rs.size = 2 ∧ W.heap[w.heap.size + 1 + 1]? = some (.cells rs 43 (0, 0))
 kr : KR W B v L
section
variable {B : Nat} {w W W1 : World} {clk : Int} {v : Value} {L : List S127} {e : Au.Ev}
theorem Rj.start (h : KR w B v L) (clk : Int) (e : Au.Ev) : Rj B w (((w.alloc (.cells #[.int .i64 clk, v] 43)).alloc (.cells (evA e) 50)).alloc (.cells #[.int .i64 0, .slice none 0 0] 43)) clk v L e :=
 ⟨below_alloc (below_alloc (below_alloc (Below.refl _ _) _) _) _, blk_alloc (blk_alloc (blk_new _ _) _) _, blk_alloc (by have q := blk_new (w.alloc (.cells #[.int .i64 clk, v] 43)) (.cells (evA e) 50); rw [show (w.alloc (.cells #[.int .i64 clk, v] 43)).heap.size = w.heap.size + 1 by simp] at q; exact q) _,
  ⟨_, rfl, by have q := blk_new ((w.alloc (.cells #[.int .i64 clk, v] 43)).alloc (.cells (evA e) 50)) (.cells #[.int .i64 0, .slice none 0 0] 43); rw [show ((w.alloc (.cells #[.int .i64 clk, v] 43)).alloc (.cells (evA e) 50)).heap.size = w.heap.size + 1 + 1 by simp] at q; exact q⟩, Kd.R_below h (below_alloc (below_alloc (below_alloc (Below.refl _ _) _) _) _)⟩
theorem Rj.step (h : Rj B w W clk v L e) (hb : Below W.heap.size W W1) : Rj B w W1 clk v L e := by
 obtain ⟨rs, h1, h2⟩ := h.r
 exact ⟨below_step h.below hb, blk_below h.b hb, blk_below h.e_ hb, ⟨rs, h1, blk_below h2 hb⟩, Kd.R_below h.kr hb⟩
theorem Rj.alloc (h : Rj B w W clk v L e) (o : Obj) : Rj B w (W.alloc o) clk v L e := h.step (below_alloc (Below.refl _ _) o)
theorem Rj.drew (h : Rj B w W clk v L e) : Rj B w W.drew clk v L e := h.step (below_drew (Below.refl _ _))
theorem Rj.tick (h : Rj B w W clk v L e) (t : Int) : Rj B w (W.setCell ⟨w.heap.size, 0, none⟩ (.int .i64 t)) t v L e := by
 obtain ⟨rs, h1, h2⟩ := h.r
 exact ⟨below_set h.below (Nat.le_refl _), blk_put h.b 0 _ rfl, (Below.heap_setCell _ _ _ _ (by simp)).trans h.e_, ⟨rs, h1, (Below.heap_setCell _ _ _ _ (by simp; omega)).trans h2⟩, h.kr.keep fun g cs hg => Below.heap_setCell _ _ _ _ (types_ne hg h.b (by decide))⟩
end
def RdPost (B : Nat) (w : World) (p : Rm × Int) (r : Ending) (w' : World) : Prop := ∃ v1, r = .returned (.tuple #[.agg #[.int .i64 p.1.clk, v1], .int .i64 p.2]) ∧ KR w' B v1 p.1.L ∧ Below w.heap.size w w'
theorem stat_calls {B : Nat} {W : World} {clk : Int} {A : Option Addr} {c : Nat} {L : List S127} (h : KR W B (.slice A L.length c) L) (hn : L.length ≤ 100000) (x y : Int) : Calls Try.prog 35 #[.agg #[.int .i64 clk, .slice A L.length c], .agg #[.int .i64 x, .int .i64 y]] W fun r w' => r = .returned (.int .i64 (statR L (x, y))) ∧ Below W.heap.size W w' := by
 obtain ⟨k, hk⟩ := PE.rounds (stat_is L (by omega) clk (x, y))
 exact knellref12_Status.calls k clk A c L x y _ W h.C.1 h.C.2 hk
theorem find_calls {B : Nat} {W : World} {clk : Int} {A : Option Addr} {c : Nat} {L : List S127} (h : KR W B (.slice A L.length c) L) (hn : L.length ≤ 100000) (x y : Int) : Calls Try.prog 68 #[.agg #[.int .i64 clk, .slice A L.length c], .agg #[.int .i64 x, .int .i64 y]] W fun r w' => r = .returned (.int .i64 (findR L (x, y))) ∧ Below W.heap.size W w' := by
 obtain ⟨k, hk⟩ := PE.rounds (find_is L (by omega) clk (x, y))
 exact knellref12_Find.calls k clk A c L x y _ W h.C.1 h.C.2 hk
theorem free_calls {B : Nat} {W : World} {clk : Int} {A : Option Addr} {c : Nat} {L : List S127} (h : KR W B (.slice A L.length c) L) (hn : L.length ≤ 100000) (x y : Int) : Calls Try.prog 80 #[.agg #[.int .i64 clk, .slice A L.length c], .agg #[.int .i64 x, .int .i64 y]] W fun r w' => r = .returned (.bool (freeR L (x, y))) ∧ Below W.heap.size W w' := by
 obtain ⟨k, hk⟩ := PE.rounds (free_is L (by omega) clk (x, y))
 exact knellref12_free.calls k clk A c L x y _ W h.C.1 h.C.2 hk
theorem turn_calls {B : Nat} {W : World} {clk : Int} {A : Option Addr} {c : Nat} {L : List S127} (h : KR W B (.slice A L.length c) L) (hB : B ≤ W.heap.size) (hn : L.length ≤ 100000) (x y s : Int) (nd : (L.map S127.h).Nodup) (hx : ∃ z ∈ L, z.h = (x, y)) : Calls Try.prog 79 #[.agg #[.int .i64 clk, .slice A L.length c], .agg #[.int .i64 x, .int .i64 y], .int .i64 s] W fun r w' => ∃ A1 c1, r = .returned (.agg #[.int .i64 clk, .slice A1 (turnR L (x, y) s).length c1]) ∧ KR w' B (.slice A1 (turnR L (x, y) s).length c1) (turnR L (x, y) s) ∧ Below W.heap.size W w' := by
 obtain ⟨k, hk⟩ := PE.rounds (turn_is L (by omega) clk (x, y) s nd hx)
 refine (knellref12_turn.calls k clk A c L x y s _ _ W h.C.1 h.C.2 hk).mono ?_
 rintro r w' ⟨v1, h1, h2, h3⟩
 obtain ⟨A1, c1, rfl⟩ := Kd.R_slice h2
 exact ⟨A1, c1, h1, Kd.R_lower h2 hB, h3⟩
theorem arm_calls {B : Nat} {W : World} {clk : Int} {A : Option Addr} {c : Nat} {L : List S127} (h : KR W B (.slice A L.length c) L) (hB : B ≤ W.heap.size) (hn : L.length ≤ 100000) (x y d : Int) : Calls Try.prog 81 #[.agg #[.int .i64 clk, .slice A L.length c], .agg #[.int .i64 x, .int .i64 y], .int .i64 d] W fun r w' => ∃ A1 c1, r = .returned (.agg #[.int .i64 clk, .slice A1 (armR L (x, y) d).length c1]) ∧ KR w' B (.slice A1 (armR L (x, y) d).length c1) (armR L (x, y) d) ∧ Below W.heap.size W w' := by
 refine (knellref12_arm.calls clk A c L x y d _ _ W h.C.1 h.C.2 (arm_is L (by omega) clk (x, y) d)).mono ?_
 rintro r w' ⟨v1, h1, h2, h3⟩
 obtain ⟨A1, c1, rfl⟩ := Kd.R_slice h2
 exact ⟨A1, c1, h1, Kd.R_lower h2 hB, h3⟩
theorem rright_run (e : Au.Ev) (W : World) : Calls Try.prog 62 #[.agg (evA e)] W fun r w' => r = .returned (.bool (rightJ e)) ∧ Below W.heap.size W w' := Ev.right_any e.k e.wk e.op e.hn e.hg e.nn e.ng e.t e.a e.u e.y e.er W
theorem stat_ex {L : List S127} {h : Au.Ha} (hs : statR L h = 1) : ∃ z ∈ L, z.h = h := by
 unfold statR at hs
 cases hf : L.find? (isH h) with
 | none => rw [hf] at hs; simp at hs
 | some z => exact ⟨z, List.mem_of_find?_eq_some hf, isH_iff.1 (by have := List.find?_some hf; simpa using this)⟩
structure Nj (B : Nat) (w W : World) (clk : Int) (v : Value) (L : List S127) (e : Au.Ev) (nb : Nat) (vn : Value) (Ln : List S127) : Prop where
 rj : Rj B w W clk v L e
 nb_ : W.heap[nb]? = some (.cells #[.int .i64 clk, vn] 43 (0, 0))
 lt : w.heap.size + 1 + 1 < nb
 kn : KR W B vn Ln
section
variable {B : Nat} {w W W1 : World} {clk : Int} {v vn : Value} {L Ln : List S127} {e : Au.Ev} {nb : Nat}
theorem Nj.start (h : Rj B w W clk v L e) : Nj B w (W.alloc (.cells #[.int .i64 clk, v] 43)) clk v L e W.heap.size v L := ⟨h.alloc _, blk_new _ _, by obtain ⟨_, _, q⟩ := h.r; exact blk_lt q, (h.alloc _).kr⟩
theorem Nj.step (h : Nj B w W clk v L e nb vn Ln) (hb : Below W.heap.size W W1) : Nj B w W1 clk v L e nb vn Ln := ⟨h.rj.step hb, blk_below h.nb_ hb, h.lt, Kd.R_below h.kn hb⟩
theorem Nj.drew (h : Nj B w W clk v L e nb vn Ln) : Nj B w W.drew clk v L e nb vn Ln := h.step (below_drew (Below.refl _ _))
theorem Nj.next (h : Nj B w W clk v L e nb vn Ln) (hb : Below W.heap.size W W1) {v1 : Value} {L1 : List S127} (hk : KR W1 B v1 L1) : Nj B w ((W1.setCell ⟨nb, 0, none⟩ (.int .i64 clk)).setCell ⟨nb, 1, none⟩ v1) clk v L e nb v1 L1 := by
 have h1 := h.step hb
 have hlt := h.lt
 have far : ∀ g, g ≠ nb → ((W1.setCell ⟨nb, 0, none⟩ (.int .i64 clk)).setCell ⟨nb, 1, none⟩ v1).heap[g]? = W1.heap[g]? := fun g hg => (Below.heap_setCell _ _ _ _ hg).trans (Below.heap_setCell _ _ _ _ hg)
 have ft : ∀ (g : Nat) (cs : Array Value), W1.heap[g]? = some (.cells cs 127 (0, 0)) → ((W1.setCell ⟨nb, 0, none⟩ (.int .i64 clk)).setCell ⟨nb, 1, none⟩ v1).heap[g]? = W1.heap[g]? := fun g cs hg => far g (types_ne hg h1.nb_ (by decide))
 obtain ⟨rs, q1, q2⟩ := h1.rj.r
 exact ⟨⟨below_set (below_set h1.rj.below (by omega)) (by omega), (far _ (by omega)).trans h1.rj.b, (far _ (by omega)).trans h1.rj.e_, ⟨rs, q1, (far _ (by omega)).trans q2⟩, h1.rj.kr.keep ft⟩, blk_put (blk_put h1.nb_ 0 _ rfl) 1 _ rfl, hlt, hk.keep ft⟩
end
theorem find_ex {L : List S127} {h : Au.Ha} (hs : statR L h = 1) : ∃ (i : Nat) (hi : i < L.length), findR L h = (i : Int) ∧ (L[i]).f2 = dlR L h := by
 unfold statR at hs
 unfold findR dlR
 cases hf : L.findIdx? (isH h) with
 | none => rw [(find_no hf).1] at hs; simp at hs
 | some i =>
  obtain ⟨hi, h1, h2, _⟩ := find_at hf
  rw [h2]
  exact ⟨i, hi, rfl, rfl⟩
theorem row_dl {W : World} {B : Nat} {A : Option Addr} {c : Nat} {L : List S127} (h : KR W B (.slice A L.length c) L) (i : Nat) (hi : i < L.length) : ∃ g, A = some ⟨g, 0, none⟩ ∧ g < W.heap.size ∧ W.cell? ⟨g, i * 4 + 3, none⟩ = some (.int .i64 (L[i]).f2) := by
 obtain ⟨_, inner, ho, hr⟩ := h
 rcases ho.2 with ⟨_, hn⟩ | ⟨g, cap, cur, hv, _, hg, _⟩
 ·omega
 ·injection hv with hA _ _
  obtain ⟨ad, hA2, hc⟩ := (KR.C ⟨fun _ _ => trivial, inner, ho, hr⟩).1.2.2 (by omega)
  obtain ⟨cs, _, hk, hcc⟩ := hc i _ (List.getElem?_eq_getElem hi)
  rw [hA] at hA2
  obtain rfl := Option.some.inj hA2
  refine ⟨g, hA, blk_lt hg, ?_⟩
  obtain rfl := k127_open hk
  have hq := hcc 3 _ rfl
  have hsz : k127.sz = 4 := rfl
  have had : (⟨g, 0, none⟩ : Addr).add (i * 4 + 3) = ⟨g, i * 4 + 3, none⟩ := by simp [Addr.add]
  rw [hsz, had] at hq
  exact hq
def rdR.T10 : Bool × List (List Nat × List Nat) := (true, [([], []), ([0], [0]), ([1], [1]), ([2], [2]), ([3, 2], [2, 3]), ([2], [2]), ([2], [2]), ([6, 2], [2, 6]), ([5, 7, 2, 2], [2, 5, 7]), ([4, 8, 2], [2, 4, 8]), ([9, 2], [2, 9]), ([10, 2], [2, 10]), ([2], [2]), ([12, 2], [2, 12]), ([11, 13, 2], [2, 11, 13]), ([2, 14], [2, 14]), ([15, 8], [15]), ([16], [16]), ([17, 16], [16, 17]), ([16], [16]), ([19, 16], [16, 19]), ([18, 20, 16], [16, 18, 20]), ([16, 21], [16, 21])])
def rdR.B10 : List Nat := [0, 1, 3, 7, 15, 7, 7, 71, 231, 511, 1023, 2047, 7, 4103, 16383, 32767, 65535, 131071, 262143, 131071, 655359, 2097151, 4194303]
theorem rdR.tab10 : rtab .any (opsOf Try.f45 10) = rdR.T10 := by kernel_rfl
theorem rdR.bits10 : waitsOk rdR.T10.2 rdR.B10 = true := by kernel_rfl
def rdR.T30 : Bool × List (List Nat × List Nat) := (true, [([], []), ([], []), ([1], [1]), ([0, 2], [0, 2]), ([], []), ([4], [4]), ([], []), ([6], [6]), ([3, 5, 7, 3], [3, 5, 7]), ([8, 8, 0, 1, 2, 3, 4, 5, 6, 7, 8], [8])])
def rdR.B30 : List Nat := [0, 0, 2, 7, 0, 16, 0, 64, 255, 511]
theorem rdR.tab30 : rtab .any (opsOf Try.f45 30) = rdR.T30 := by kernel_rfl
theorem rdR.bits30 : waitsOk rdR.T30.2 rdR.B30 = true := by kernel_rfl
theorem rdo_wrong {w : World} {B : Nat} (m : Rm) (v : Value) (e : Au.Ev) (hn : m.L.length ≤ 90000) (nd : (m.L.map S127.h).Nodup) (hB : B ≤ w.heap.size) (h : KR w B v m.L) (hr : rightJ e = false) :
  Calls Try.prog 45 #[.agg #[.int .i64 m.clk, v], .agg (evA e)] w (RdPost B w (rdoF m e)) := by
 have hu0 := Try.underlying43
 have hu1 := Try.underlying36
 have hu2 := Try.underlying50
 have hu3 := Try.underlying127
 have HF := Aside0.mk (show rdoF m e = (m, 8) by unfold rdoF; rw [if_pos (.inl hr)])
 have hr0 := hr
 obtain ⟨A, c, rfl⟩ := Kd.R_slice h
 have CR := Aside0.mk (fun W => rright_run e W)
 have CS : Aside0 (∀ W, KR W B (.slice A m.L.length c) m.L → Calls Try.prog 35 #[.agg #[.int .i64 m.clk, .slice A m.L.length c], .agg #[.int .i64 e.hn, .int .i64 e.hg]] W fun r w' => r = .returned (.int .i64 (statR m.L e.h)) ∧ Below W.heap.size W w') := ⟨fun W hW => stat_calls hW (by omega) e.hn e.hg⟩
 have HN := Aside0.mk hn
 have HND := Aside0.mk nd
 have HB := Aside0.mk hB
 have HJ := Aside0.mk (Rj.start h m.clk e)
 clear hn nd hB h hr
 have hcb := fun i => blk_cell HJ.out.b i
 have hce := fun i => blk_cell HJ.out.e_ i
 have hlb := blk_lt HJ.out.b
 have hle := blk_lt HJ.out.e_
 have hlr := (by obtain ⟨_, _, q⟩ := HJ.out.r; exact blk_lt q : w.heap.size + 1 + 1 < _)
 obtain ⟨sv, hsv⟩ : ∃ sv, statR m.L e.h = sv := ⟨_, rfl⟩
 try rw [hsv] at CS
 try rw [hsv] at qs
 clear hsv
 go_enter Try.func45, Try.ntmps45
 rw [hr0] at CR
 go_upto_region 2 with (first | (go_at_call 62; (with_reducible refine (CR.out _).mono ?_); rintro r w2 ⟨rfl, hb⟩; have HJ2 := Aside0.mk (HJ.out.step hb); clear hb hcb hce hlb hle hlr HJ; have HJ := HJ2; clear HJ2; have hcb := fun i => blk_cell HJ.out.b i; have hce := fun i => blk_cell HJ.out.e_ i; have hlb := blk_lt HJ.out.b; have hle := blk_lt HJ.out.e_; have hlr := (by obtain ⟨_, _, q⟩ := HJ.out.r; exact blk_lt q : w.heap.size + 1 + 1 < _)) | (go_at_call 35; (with_reducible refine (CS.out _ HJ.out.kr).mono ?_); rintro r w3 ⟨rfl, hb⟩; have HJ2 := Aside0.mk (HJ.out.step hb); clear hb hcb hce hlb hle hlr HJ; have HJ := HJ2; clear HJ2; have hcb := fun i => blk_cell HJ.out.b i; have hce := fun i => blk_cell HJ.out.e_ i; have hlb := blk_lt HJ.out.b; have hle := blk_lt HJ.out.e_; have hlr := (by obtain ⟨_, _, q⟩ := HJ.out.r; exact blk_lt q : w.heap.size + 1 + 1 < _)))
 obtain ⟨rs, hrs, hrr⟩ := HJ.out.r
 obtain ⟨x0, x1, rfl⟩ : ∃ x0 x1, rs = #[x0, x1] := by rcases rs with ⟨_ | ⟨x0, _ | ⟨x1, _ | _⟩⟩⟩ <;> simp at hrs; exact ⟨_, _, rfl⟩
 have hcr := fun i => blk_cell hrr i
 have hfr := fun i => blk_frozen hrr i
 clear hrs
 go_wp2
 have HE := Aside0.mk (show KR _ B (.slice A m.L.length c) m.L from KR.keep (KR.keep HJ.out.kr (W1 := World.setCell _ ⟨w.heap.size + 1 + 1, 0, none⟩ (.int .i64 m.clk)) fun g cs hg => Below.heap_setCell _ _ _ _ (types_ne hg hrr (by decide))) (W1 := World.setCell (World.setCell _ ⟨w.heap.size + 1 + 1, 0, none⟩ (.int .i64 m.clk)) ⟨w.heap.size + 1 + 1, 1, none⟩ (.slice A m.L.length c)) fun g cs hg => Below.heap_setCell _ _ _ _ (types_ne hg (blk_put hrr 0 _ rfl) (by decide)))
 have HBL := Aside0.mk (below_set (g := w.heap.size + 1 + 1) (j := 1) (v := .slice A m.L.length c) (below_set (g := w.heap.size + 1 + 1) (j := 0) (v := .int .i64 m.clk) HJ.out.below (by omega)) (by omega))
 unfold RdPost
 rw [HF.out]
 exact bodyPost_ret (v := .tuple #[.agg #[.int .i64 m.clk, .slice A m.L.length c], .int .i64 8]) (by simp [results, Try.results45, asAddr, go_sem, hu0, hcr, hlr]) rfl ⟨_, rfl, HE.out, HBL.out⟩
theorem rdo_two {w : World} {B : Nat} (m : Rm) (v : Value) (e : Au.Ev) (hn : m.L.length ≤ 90000) (nd : (m.L.map S127.h).Nodup) (hB : B ≤ w.heap.size) (h : KR w B v m.L) (hr : rightJ e = true) (hk : e.k = 2) :
  Calls Try.prog 45 #[.agg #[.int .i64 m.clk, v], .agg (evA e)] w (RdPost B w (rdoF m e)) := by
 have hu0 := Try.underlying43
 have hu1 := Try.underlying36
 have hu2 := Try.underlying50
 have hu3 := Try.underlying127
 have HF := Aside0.mk (show rdoF m e = (m, 8) by unfold rdoF; rw [if_pos (by omega)])
 have qk1 : (e.k == 1) = false := beq_eq_false_iff_ne.2 (by omega)
 have qk2 : (e.k == 2) = true := beq_iff_eq.2 (hk)
 have qk4 : (e.k == 4) = false := beq_eq_false_iff_ne.2 (by omega)
 have qk5 : (e.k == 5) = false := beq_eq_false_iff_ne.2 (by omega)
 obtain ⟨A, c, rfl⟩ := Kd.R_slice h
 have CR := Aside0.mk (fun W => rright_run e W)
 have CS : Aside0 (∀ W, KR W B (.slice A m.L.length c) m.L → Calls Try.prog 35 #[.agg #[.int .i64 m.clk, .slice A m.L.length c], .agg #[.int .i64 e.hn, .int .i64 e.hg]] W fun r w' => r = .returned (.int .i64 (statR m.L e.h)) ∧ Below W.heap.size W w') := ⟨fun W hW => stat_calls hW (by omega) e.hn e.hg⟩
 have HN := Aside0.mk hn
 have HND := Aside0.mk nd
 have HB := Aside0.mk hB
 have HJ := Aside0.mk (Rj.start h m.clk e)
 rw [hr] at CR
 clear hn nd hB h hr hk
 have hcb := fun i => blk_cell HJ.out.b i
 have hce := fun i => blk_cell HJ.out.e_ i
 have hlb := blk_lt HJ.out.b
 have hle := blk_lt HJ.out.e_
 have hlr := (by obtain ⟨_, _, q⟩ := HJ.out.r; exact blk_lt q : w.heap.size + 1 + 1 < _)
 obtain ⟨sv, hsv⟩ : ∃ sv, statR m.L e.h = sv := ⟨_, rfl⟩
 try rw [hsv] at CS
 try rw [hsv] at qs
 clear hsv
 go_enter Try.func45, Try.ntmps45
 go_upto_region 2 with (first | (go_at_call 62; (with_reducible refine (CR.out _).mono ?_); rintro r w2 ⟨rfl, hb⟩; have HJ2 := Aside0.mk (HJ.out.step hb); clear hb hcb hce hlb hle hlr HJ; have HJ := HJ2; clear HJ2; have hcb := fun i => blk_cell HJ.out.b i; have hce := fun i => blk_cell HJ.out.e_ i; have hlb := blk_lt HJ.out.b; have hle := blk_lt HJ.out.e_; have hlr := (by obtain ⟨_, _, q⟩ := HJ.out.r; exact blk_lt q : w.heap.size + 1 + 1 < _)) | (go_at_call 35; (with_reducible refine (CS.out _ HJ.out.kr).mono ?_); rintro r w3 ⟨rfl, hb⟩; have HJ2 := Aside0.mk (HJ.out.step hb); clear hb hcb hce hlb hle hlr HJ; have HJ := HJ2; clear HJ2; have hcb := fun i => blk_cell HJ.out.b i; have hce := fun i => blk_cell HJ.out.e_ i; have hlb := blk_lt HJ.out.b; have hle := blk_lt HJ.out.e_; have hlr := (by obtain ⟨_, _, q⟩ := HJ.out.r; exact blk_lt q : w.heap.size + 1 + 1 < _)))
 obtain ⟨rs, hrs, hrr⟩ := HJ.out.r
 obtain ⟨x0, x1, rfl⟩ : ∃ x0 x1, rs = #[x0, x1] := by rcases rs with ⟨_ | ⟨x0, _ | ⟨x1, _ | _⟩⟩⟩ <;> simp at hrs; exact ⟨_, _, rfl⟩
 have hcr := fun i => blk_cell hrr i
 have hfr := fun i => blk_frozen hrr i
 clear hrs
 go_wp2
 have HE := Aside0.mk (show KR _ B (.slice A m.L.length c) m.L from KR.keep (KR.keep HJ.out.kr (W1 := World.setCell _ ⟨w.heap.size + 1 + 1, 0, none⟩ (.int .i64 m.clk)) fun g cs hg => Below.heap_setCell _ _ _ _ (types_ne hg hrr (by decide))) (W1 := World.setCell (World.setCell _ ⟨w.heap.size + 1 + 1, 0, none⟩ (.int .i64 m.clk)) ⟨w.heap.size + 1 + 1, 1, none⟩ (.slice A m.L.length c)) fun g cs hg => Below.heap_setCell _ _ _ _ (types_ne hg (blk_put hrr 0 _ rfl) (by decide)))
 have HBL := Aside0.mk (below_set (g := w.heap.size + 1 + 1) (j := 1) (v := .slice A m.L.length c) (below_set (g := w.heap.size + 1 + 1) (j := 0) (v := .int .i64 m.clk) HJ.out.below (by omega)) (by omega))
 unfold RdPost
 rw [HF.out]
 exact bodyPost_ret (v := .tuple #[.agg #[.int .i64 m.clk, .slice A m.L.length c], .int .i64 8]) (by simp [results, Try.results45, asAddr, go_sem, hu0, hcr, hlr]) rfl ⟨_, rfl, HE.out, HBL.out⟩
theorem rdo_five {w : World} {B : Nat} (m : Rm) (v : Value) (e : Au.Ev) (hn : m.L.length ≤ 90000) (nd : (m.L.map S127.h).Nodup) (hB : B ≤ w.heap.size) (h : KR w B v m.L) (hr : rightJ e = true) (hk : e.k = 5) :
  Calls Try.prog 45 #[.agg #[.int .i64 m.clk, v], .agg (evA e)] w (RdPost B w (rdoF m e)) := by
 have hu0 := Try.underlying43
 have hu1 := Try.underlying36
 have hu2 := Try.underlying50
 have hu3 := Try.underlying127
 have HF := Aside0.mk (show rdoF m e = (m, 8) by unfold rdoF; rw [if_pos (by omega)])
 have qk1 : (e.k == 1) = false := beq_eq_false_iff_ne.2 (by omega)
 have qk2 : (e.k == 2) = false := beq_eq_false_iff_ne.2 (by omega)
 have qk4 : (e.k == 4) = false := beq_eq_false_iff_ne.2 (by omega)
 have qk5 : (e.k == 5) = true := beq_iff_eq.2 (hk)
 obtain ⟨A, c, rfl⟩ := Kd.R_slice h
 have CR := Aside0.mk (fun W => rright_run e W)
 have CS : Aside0 (∀ W, KR W B (.slice A m.L.length c) m.L → Calls Try.prog 35 #[.agg #[.int .i64 m.clk, .slice A m.L.length c], .agg #[.int .i64 e.hn, .int .i64 e.hg]] W fun r w' => r = .returned (.int .i64 (statR m.L e.h)) ∧ Below W.heap.size W w') := ⟨fun W hW => stat_calls hW (by omega) e.hn e.hg⟩
 have HN := Aside0.mk hn
 have HND := Aside0.mk nd
 have HB := Aside0.mk hB
 have HJ := Aside0.mk (Rj.start h m.clk e)
 rw [hr] at CR
 clear hn nd hB h hr hk
 have hcb := fun i => blk_cell HJ.out.b i
 have hce := fun i => blk_cell HJ.out.e_ i
 have hlb := blk_lt HJ.out.b
 have hle := blk_lt HJ.out.e_
 have hlr := (by obtain ⟨_, _, q⟩ := HJ.out.r; exact blk_lt q : w.heap.size + 1 + 1 < _)
 obtain ⟨sv, hsv⟩ : ∃ sv, statR m.L e.h = sv := ⟨_, rfl⟩
 try rw [hsv] at CS
 try rw [hsv] at qs
 clear hsv
 go_enter Try.func45, Try.ntmps45
 go_upto_region 2 with (first | (go_at_call 62; (with_reducible refine (CR.out _).mono ?_); rintro r w2 ⟨rfl, hb⟩; have HJ2 := Aside0.mk (HJ.out.step hb); clear hb hcb hce hlb hle hlr HJ; have HJ := HJ2; clear HJ2; have hcb := fun i => blk_cell HJ.out.b i; have hce := fun i => blk_cell HJ.out.e_ i; have hlb := blk_lt HJ.out.b; have hle := blk_lt HJ.out.e_; have hlr := (by obtain ⟨_, _, q⟩ := HJ.out.r; exact blk_lt q : w.heap.size + 1 + 1 < _)) | (go_at_call 35; (with_reducible refine (CS.out _ HJ.out.kr).mono ?_); rintro r w3 ⟨rfl, hb⟩; have HJ2 := Aside0.mk (HJ.out.step hb); clear hb hcb hce hlb hle hlr HJ; have HJ := HJ2; clear HJ2; have hcb := fun i => blk_cell HJ.out.b i; have hce := fun i => blk_cell HJ.out.e_ i; have hlb := blk_lt HJ.out.b; have hle := blk_lt HJ.out.e_; have hlr := (by obtain ⟨_, _, q⟩ := HJ.out.r; exact blk_lt q : w.heap.size + 1 + 1 < _)))
 obtain ⟨rs, hrs, hrr⟩ := HJ.out.r
 obtain ⟨x0, x1, rfl⟩ : ∃ x0 x1, rs = #[x0, x1] := by rcases rs with ⟨_ | ⟨x0, _ | ⟨x1, _ | _⟩⟩⟩ <;> simp at hrs; exact ⟨_, _, rfl⟩
 have hcr := fun i => blk_cell hrr i
 have hfr := fun i => blk_frozen hrr i
 clear hrs
 go_wp2
 have HE := Aside0.mk (show KR _ B (.slice A m.L.length c) m.L from KR.keep (KR.keep HJ.out.kr (W1 := World.setCell _ ⟨w.heap.size + 1 + 1, 0, none⟩ (.int .i64 m.clk)) fun g cs hg => Below.heap_setCell _ _ _ _ (types_ne hg hrr (by decide))) (W1 := World.setCell (World.setCell _ ⟨w.heap.size + 1 + 1, 0, none⟩ (.int .i64 m.clk)) ⟨w.heap.size + 1 + 1, 1, none⟩ (.slice A m.L.length c)) fun g cs hg => Below.heap_setCell _ _ _ _ (types_ne hg (blk_put hrr 0 _ rfl) (by decide)))
 have HBL := Aside0.mk (below_set (g := w.heap.size + 1 + 1) (j := 1) (v := .slice A m.L.length c) (below_set (g := w.heap.size + 1 + 1) (j := 0) (v := .int .i64 m.clk) HJ.out.below (by omega)) (by omega))
 unfold RdPost
 rw [HF.out]
 exact bodyPost_ret (v := .tuple #[.agg #[.int .i64 m.clk, .slice A m.L.length c], .int .i64 8]) (by simp [results, Try.results45, asAddr, go_sem, hu0, hcr, hlr]) rfl ⟨_, rfl, HE.out, HBL.out⟩
theorem rdo_tick_no {w : World} {B : Nat} (m : Rm) (v : Value) (e : Au.Ev) (hn : m.L.length ≤ 90000) (nd : (m.L.map S127.h).Nodup) (hB : B ≤ w.heap.size) (h : KR w B v m.L) (hr : rightJ e = true) (hk : e.k = 1) (ht : ¬ e.t = wrap64 (m.clk + 1)) :
  Calls Try.prog 45 #[.agg #[.int .i64 m.clk, v], .agg (evA e)] w (RdPost B w (rdoF m e)) := by
 have hu0 := Try.underlying43
 have hu1 := Try.underlying36
 have hu2 := Try.underlying50
 have hu3 := Try.underlying127
 have HF := Aside0.mk (show rdoF m e = (m, 6) by unfold rdoF; rw [if_neg (by rw [hr]; simp; omega), if_pos hk, if_neg ht])
 have qk1 : (e.k == 1) = true := beq_iff_eq.2 (hk)
 have qk2 : (e.k == 2) = false := beq_eq_false_iff_ne.2 (by omega)
 have qk4 : (e.k == 4) = false := beq_eq_false_iff_ne.2 (by omega)
 have qk5 : (e.k == 5) = false := beq_eq_false_iff_ne.2 (by omega)
 have t0 : (e.t != wrap64 (m.clk + 1)) = true := bne_iff_ne.2 (ht)
 obtain ⟨A, c, rfl⟩ := Kd.R_slice h
 have CR := Aside0.mk (fun W => rright_run e W)
 have CS : Aside0 (∀ W, KR W B (.slice A m.L.length c) m.L → Calls Try.prog 35 #[.agg #[.int .i64 m.clk, .slice A m.L.length c], .agg #[.int .i64 e.hn, .int .i64 e.hg]] W fun r w' => r = .returned (.int .i64 (statR m.L e.h)) ∧ Below W.heap.size W w') := ⟨fun W hW => stat_calls hW (by omega) e.hn e.hg⟩
 have HN := Aside0.mk hn
 have HND := Aside0.mk nd
 have HB := Aside0.mk hB
 have HJ := Aside0.mk (Rj.start h m.clk e)
 rw [hr] at CR
 clear hn nd hB h hr hk ht
 have hcb := fun i => blk_cell HJ.out.b i
 have hce := fun i => blk_cell HJ.out.e_ i
 have hlb := blk_lt HJ.out.b
 have hle := blk_lt HJ.out.e_
 have hlr := (by obtain ⟨_, _, q⟩ := HJ.out.r; exact blk_lt q : w.heap.size + 1 + 1 < _)
 obtain ⟨sv, hsv⟩ : ∃ sv, statR m.L e.h = sv := ⟨_, rfl⟩
 try rw [hsv] at CS
 try rw [hsv] at qs
 clear hsv
 go_enter Try.func45, Try.ntmps45
 go_upto_region 6 with (first | (go_at_call 62; (with_reducible refine (CR.out _).mono ?_); rintro r w2 ⟨rfl, hb⟩; have HJ2 := Aside0.mk (HJ.out.step hb); clear hb hcb hce hlb hle hlr HJ; have HJ := HJ2; clear HJ2; have hcb := fun i => blk_cell HJ.out.b i; have hce := fun i => blk_cell HJ.out.e_ i; have hlb := blk_lt HJ.out.b; have hle := blk_lt HJ.out.e_; have hlr := (by obtain ⟨_, _, q⟩ := HJ.out.r; exact blk_lt q : w.heap.size + 1 + 1 < _)) | (go_at_call 35; (with_reducible refine (CS.out _ HJ.out.kr).mono ?_); rintro r w3 ⟨rfl, hb⟩; have HJ2 := Aside0.mk (HJ.out.step hb); clear hb hcb hce hlb hle hlr HJ; have HJ := HJ2; clear HJ2; have hcb := fun i => blk_cell HJ.out.b i; have hce := fun i => blk_cell HJ.out.e_ i; have hlb := blk_lt HJ.out.b; have hle := blk_lt HJ.out.e_; have hlr := (by obtain ⟨_, _, q⟩ := HJ.out.r; exact blk_lt q : w.heap.size + 1 + 1 < _)))
 obtain ⟨rs, hrs, hrr⟩ := HJ.out.r
 obtain ⟨x0, x1, rfl⟩ : ∃ x0 x1, rs = #[x0, x1] := by rcases rs with ⟨_ | ⟨x0, _ | ⟨x1, _ | _⟩⟩⟩ <;> simp at hrs; exact ⟨_, _, rfl⟩
 have hcr := fun i => blk_cell hrr i
 have hfr := fun i => blk_frozen hrr i
 clear hrs
 go_wp2
 have HE := Aside0.mk (show KR _ B (.slice A m.L.length c) m.L from KR.keep (KR.keep HJ.out.kr (W1 := World.setCell _ ⟨w.heap.size + 1 + 1, 0, none⟩ (.int .i64 m.clk)) fun g cs hg => Below.heap_setCell _ _ _ _ (types_ne hg hrr (by decide))) (W1 := World.setCell (World.setCell _ ⟨w.heap.size + 1 + 1, 0, none⟩ (.int .i64 m.clk)) ⟨w.heap.size + 1 + 1, 1, none⟩ (.slice A m.L.length c)) fun g cs hg => Below.heap_setCell _ _ _ _ (types_ne hg (blk_put hrr 0 _ rfl) (by decide)))
 have HBL := Aside0.mk (below_set (g := w.heap.size + 1 + 1) (j := 1) (v := .slice A m.L.length c) (below_set (g := w.heap.size + 1 + 1) (j := 0) (v := .int .i64 m.clk) HJ.out.below (by omega)) (by omega))
 unfold RdPost
 rw [HF.out]
 exact bodyPost_ret (v := .tuple #[.agg #[.int .i64 m.clk, .slice A m.L.length c], .int .i64 6]) (by simp [results, Try.results45, asAddr, go_sem, hu0, hcr, hlr]) rfl ⟨_, rfl, HE.out, HBL.out⟩
theorem rdo_tick {w : World} {B : Nat} (m : Rm) (v : Value) (e : Au.Ev) (hn : m.L.length ≤ 90000) (nd : (m.L.map S127.h).Nodup) (hB : B ≤ w.heap.size) (h : KR w B v m.L) (hr : rightJ e = true) (hk : e.k = 1) (ht : e.t = wrap64 (m.clk + 1)) :
  Calls Try.prog 45 #[.agg #[.int .i64 m.clk, v], .agg (evA e)] w (RdPost B w (rdoF m e)) := by
 have hu0 := Try.underlying43
 have hu1 := Try.underlying36
 have hu2 := Try.underlying50
 have hu3 := Try.underlying127
 have HF := Aside0.mk (show rdoF m e = ({ m with clk := e.t }, 0) by unfold rdoF; rw [if_neg (by rw [hr]; simp; omega), if_pos hk, if_pos ht])
 have qk1 : (e.k == 1) = true := beq_iff_eq.2 (hk)
 have qk2 : (e.k == 2) = false := beq_eq_false_iff_ne.2 (by omega)
 have qk4 : (e.k == 4) = false := beq_eq_false_iff_ne.2 (by omega)
 have qk5 : (e.k == 5) = false := beq_eq_false_iff_ne.2 (by omega)
 have t0 : (e.t != wrap64 (m.clk + 1)) = false := bne_eq_false_iff_eq.2 (ht)
 obtain ⟨A, c, rfl⟩ := Kd.R_slice h
 have CR := Aside0.mk (fun W => rright_run e W)
 have CS : Aside0 (∀ W, KR W B (.slice A m.L.length c) m.L → Calls Try.prog 35 #[.agg #[.int .i64 m.clk, .slice A m.L.length c], .agg #[.int .i64 e.hn, .int .i64 e.hg]] W fun r w' => r = .returned (.int .i64 (statR m.L e.h)) ∧ Below W.heap.size W w') := ⟨fun W hW => stat_calls hW (by omega) e.hn e.hg⟩
 have HN := Aside0.mk hn
 have HND := Aside0.mk nd
 have HB := Aside0.mk hB
 have HJ := Aside0.mk (Rj.start h m.clk e)
 rw [hr] at CR
 clear hn nd hB h hr hk ht
 have hcb := fun i => blk_cell HJ.out.b i
 have hce := fun i => blk_cell HJ.out.e_ i
 have hlb := blk_lt HJ.out.b
 have hle := blk_lt HJ.out.e_
 have hlr := (by obtain ⟨_, _, q⟩ := HJ.out.r; exact blk_lt q : w.heap.size + 1 + 1 < _)
 obtain ⟨sv, hsv⟩ : ∃ sv, statR m.L e.h = sv := ⟨_, rfl⟩
 try rw [hsv] at CS
 try rw [hsv] at qs
 clear hsv
 go_enter Try.func45, Try.ntmps45
 go_upto_region 7 with (first | (go_at_call 62; (with_reducible refine (CR.out _).mono ?_); rintro r w2 ⟨rfl, hb⟩; have HJ2 := Aside0.mk (HJ.out.step hb); clear hb hcb hce hlb hle hlr HJ; have HJ := HJ2; clear HJ2; have hcb := fun i => blk_cell HJ.out.b i; have hce := fun i => blk_cell HJ.out.e_ i; have hlb := blk_lt HJ.out.b; have hle := blk_lt HJ.out.e_; have hlr := (by obtain ⟨_, _, q⟩ := HJ.out.r; exact blk_lt q : w.heap.size + 1 + 1 < _)) | (go_at_call 35; (with_reducible refine (CS.out _ HJ.out.kr).mono ?_); rintro r w3 ⟨rfl, hb⟩; have HJ2 := Aside0.mk (HJ.out.step hb); clear hb hcb hce hlb hle hlr HJ; have HJ := HJ2; clear HJ2; have hcb := fun i => blk_cell HJ.out.b i; have hce := fun i => blk_cell HJ.out.e_ i; have hlb := blk_lt HJ.out.b; have hle := blk_lt HJ.out.e_; have hlr := (by obtain ⟨_, _, q⟩ := HJ.out.r; exact blk_lt q : w.heap.size + 1 + 1 < _)))
 have hfb := fun i => blk_frozen HJ.out.b i
 go_upto_region 8 with (fail)
 have HT := Aside0.mk (HJ.out.tick e.t)
 clear hcb hce hlb hle hlr hfb HJ
 have hcb := fun i => blk_cell HT.out.b i
 have hce := fun i => blk_cell HT.out.e_ i
 have hlb := blk_lt HT.out.b
 have hle := blk_lt HT.out.e_
 have hlr := (by obtain ⟨_, _, q⟩ := HT.out.r; exact blk_lt q : w.heap.size + 1 + 1 < _)
 obtain ⟨rs, hrs, hrr⟩ := HT.out.r
 obtain ⟨x0, x1, rfl⟩ : ∃ x0 x1, rs = #[x0, x1] := by rcases rs with ⟨_ | ⟨x0, _ | ⟨x1, _ | _⟩⟩⟩ <;> simp at hrs; exact ⟨_, _, rfl⟩
 have hcr := fun i => blk_cell hrr i
 have hfr := fun i => blk_frozen hrr i
 clear hrs
 go_wp2
 have HE := Aside0.mk (show KR _ B (.slice A m.L.length c) m.L from KR.keep (KR.keep HT.out.kr (W1 := World.setCell _ ⟨w.heap.size + 1 + 1, 0, none⟩ (.int .i64 e.t)) fun g cs hg => Below.heap_setCell _ _ _ _ (types_ne hg hrr (by decide))) (W1 := World.setCell (World.setCell _ ⟨w.heap.size + 1 + 1, 0, none⟩ (.int .i64 e.t)) ⟨w.heap.size + 1 + 1, 1, none⟩ (.slice A m.L.length c)) fun g cs hg => Below.heap_setCell _ _ _ _ (types_ne hg (blk_put hrr 0 _ rfl) (by decide)))
 have HBL := Aside0.mk (below_set (g := w.heap.size + 1 + 1) (j := 1) (v := .slice A m.L.length c) (below_set (g := w.heap.size + 1 + 1) (j := 0) (v := .int .i64 e.t) HT.out.below (by omega)) (by omega))
 unfold RdPost
 rw [HF.out]
 exact bodyPost_ret (v := .tuple #[.agg #[.int .i64 e.t, .slice A m.L.length c], .int .i64 0]) (by simp [results, Try.results45, asAddr, go_sem, hu0, hcr, hlr]) rfl ⟨_, rfl, HE.out, HBL.out⟩
theorem rdo_fire_no {w : World} {B : Nat} (m : Rm) (v : Value) (e : Au.Ev) (hn : m.L.length ≤ 90000) (nd : (m.L.map S127.h).Nodup) (hB : B ≤ w.heap.size) (h : KR w B v m.L) (hr : rightJ e = true) (hk : e.k = 4) (ha : ¬ statR m.L e.h = 1) :
  Calls Try.prog 45 #[.agg #[.int .i64 m.clk, v], .agg (evA e)] w (RdPost B w (rdoF m e)) := by
 have hu0 := Try.underlying43
 have hu1 := Try.underlying36
 have hu2 := Try.underlying50
 have hu3 := Try.underlying127
 have HF := Aside0.mk (show rdoF m e = (m, 6) by unfold rdoF; rw [if_neg (by rw [hr]; simp; omega), if_neg (by omega), if_pos hk, if_neg (fun q => ha q.1)])
 have qk1 : (e.k == 1) = false := beq_eq_false_iff_ne.2 (by omega)
 have qk2 : (e.k == 2) = false := beq_eq_false_iff_ne.2 (by omega)
 have qk4 : (e.k == 4) = true := beq_iff_eq.2 (hk)
 have qk5 : (e.k == 5) = false := beq_eq_false_iff_ne.2 (by omega)
 have qs : (statR m.L e.h == 1) = false := beq_eq_false_iff_ne.2 (ha)
 obtain ⟨A, c, rfl⟩ := Kd.R_slice h
 have CR := Aside0.mk (fun W => rright_run e W)
 have CS : Aside0 (∀ W, KR W B (.slice A m.L.length c) m.L → Calls Try.prog 35 #[.agg #[.int .i64 m.clk, .slice A m.L.length c], .agg #[.int .i64 e.hn, .int .i64 e.hg]] W fun r w' => r = .returned (.int .i64 (statR m.L e.h)) ∧ Below W.heap.size W w') := ⟨fun W hW => stat_calls hW (by omega) e.hn e.hg⟩
 have HN := Aside0.mk hn
 have HND := Aside0.mk nd
 have HB := Aside0.mk hB
 have HJ := Aside0.mk (Rj.start h m.clk e)
 rw [hr] at CR
 clear hn nd hB h hr hk ha
 have hcb := fun i => blk_cell HJ.out.b i
 have hce := fun i => blk_cell HJ.out.e_ i
 have hlb := blk_lt HJ.out.b
 have hle := blk_lt HJ.out.e_
 have hlr := (by obtain ⟨_, _, q⟩ := HJ.out.r; exact blk_lt q : w.heap.size + 1 + 1 < _)
 obtain ⟨sv, hsv⟩ : ∃ sv, statR m.L e.h = sv := ⟨_, rfl⟩
 try rw [hsv] at CS
 try rw [hsv] at qs
 clear hsv
 go_enter Try.func45, Try.ntmps45
 go_upto_region 10 with (first | (go_at_call 62; (with_reducible refine (CR.out _).mono ?_); rintro r w2 ⟨rfl, hb⟩; have HJ2 := Aside0.mk (HJ.out.step hb); clear hb hcb hce hlb hle hlr HJ; have HJ := HJ2; clear HJ2; have hcb := fun i => blk_cell HJ.out.b i; have hce := fun i => blk_cell HJ.out.e_ i; have hlb := blk_lt HJ.out.b; have hle := blk_lt HJ.out.e_; have hlr := (by obtain ⟨_, _, q⟩ := HJ.out.r; exact blk_lt q : w.heap.size + 1 + 1 < _)) | (go_at_call 35; (with_reducible refine (CS.out _ HJ.out.kr).mono ?_); rintro r w3 ⟨rfl, hb⟩; have HJ2 := Aside0.mk (HJ.out.step hb); clear hb hcb hce hlb hle hlr HJ; have HJ := HJ2; clear HJ2; have hcb := fun i => blk_cell HJ.out.b i; have hce := fun i => blk_cell HJ.out.e_ i; have hlb := blk_lt HJ.out.b; have hle := blk_lt HJ.out.e_; have hlr := (by obtain ⟨_, _, q⟩ := HJ.out.r; exact blk_lt q : w.heap.size + 1 + 1 < _)))
 refine gen_world' (fun W => Rj B w W m.clk (.slice A m.L.length c) m.L e) (by exact HJ.out) fun w4 Hw4 => ?_
 have HJw4 := Aside0.mk Hw4
 clear Hw4 HJ
 clear hcb hce hlb hle hlr
 refine start_ (n := 23) (S := (fun w' => (∀ i, w'.cell? ⟨w.heap.size, i, none⟩ = (#[.int .i64 m.clk, .slice A m.L.length c] : Array Value)[i]?) ∧ (∀ i, w'.cell? ⟨w.heap.size + 1, i, none⟩ = (evA e)[i]?))) (ds := []) #[ff,ff,ff,ff,ff,ff,ff,ff,ff,ff,ff,ff,ff,ff,ff,ff,ff,ff,ff,ff,ff,ff,ff] (by kernel_rfl) rfl rfl ⟨fun i => blk_cell HJw4.out.drew.b i, fun i => blk_cell HJw4.out.drew.e_ i⟩ (fun hHeld => ?_)
 refine with_tabW rdR.tab10 rdR.bits10 (fun HT_ HW_ => ?_)
 have HJ := Aside0.mk HJw4.out.drew
 generalize w4.drew = w5 at HJ hHeld ⊢
 have hlb := blk_lt HJ.out.b
 have hle := blk_lt HJ.out.e_
 have hlr := (by obtain ⟨_, _, q⟩ := HJ.out.r; exact blk_lt q : w.heap.size + 1 + 1 < _)
 refine pure_ (i := 0) (N := (some 45)) (v := ?_) (a' := ?_) #[tt,ff,ff,ff,ff,ff,ff,ff,ff,ff,ff,ff,ff,ff,ff,ff,ff,ff,ff,ff,ff,ff,ff] rfl rfl (any_of HT_.out (by kernel_rfl)) (fun _ _ _ h => h) (Or.inl ⟨by rfl, ?_⟩) ?_ ?_
 rotate_left
 ·intro w'
  go_simp
  with_reducible rfl
 rotate_left
 ·simp only [Act.put, sQ0, sQ1, sQ2, i64_w]
  rfl
 refine pure_ (i := 1) (N := (some 46)) (v := ?_) (a' := ?_) #[tt,tt,ff,ff,ff,ff,ff,ff,ff,ff,ff,ff,ff,ff,ff,ff,ff,ff,ff,ff,ff,ff,ff] rfl rfl (any_of HT_.out (by kernel_rfl)) (fun _ _ _ h => h) (Or.inl ⟨by rfl, ?_⟩) ?_ ?_
 rotate_left
 ·intro w'
  go_simp
  with_reducible rfl
 rotate_left
 ·simp only [Act.put, sQ0, sQ1, sQ2, i64_w]
  rfl
 refine pure_ (i := 2) (N := (some 47)) (v := ?_) (a' := ?_) #[tt,tt,tt,ff,ff,ff,ff,ff,ff,ff,ff,ff,ff,ff,ff,ff,ff,ff,ff,ff,ff,ff,ff] rfl rfl (any_of HT_.out (by kernel_rfl)) (fun _ _ _ h => h) (Or.inl ⟨by rfl, ?_⟩) ?_ ?_
 rotate_left
 ·intro w'
  go_simp
  with_reducible rfl
 rotate_left
 ·simp only [Act.put, sQ0, sQ1, sQ2, i64_w]
  rfl
 refine pure_ (i := 3) (N := (some 48)) (v := undef) (a' := ?_) #[tt,tt,tt,tt,ff,ff,ff,ff,ff,ff,ff,ff,ff,ff,ff,ff,ff,ff,ff,ff,ff,ff,ff] rfl rfl (any_of HT_.out (by kernel_rfl)) (fun _ _ _ h => h) (Or.inr ⟨by rfl, rfl⟩) ?_ ?_
 rotate_left
 ·simp only [Act.put, sQ0, sQ1, sQ2, i64_w]
  rfl
 refine pure_ (i := 4) (N := (some 49)) (v := undef) (a' := ?_) #[tt,tt,tt,tt,tt,ff,ff,ff,ff,ff,ff,ff,ff,ff,ff,ff,ff,ff,ff,ff,ff,ff,ff] rfl rfl (any_of HT_.out (by kernel_rfl)) (fun _ _ _ h => h) (Or.inr ⟨by rfl, rfl⟩) ?_ ?_
 rotate_left
 ·simp only [Act.put, sQ0, sQ1, sQ2, i64_w]
  rfl
 refine pure_ (i := 5) (N := (some 50)) (v := undef) (a' := ?_) #[tt,tt,tt,tt,tt,tt,ff,ff,ff,ff,ff,ff,ff,ff,ff,ff,ff,ff,ff,ff,ff,ff,ff] rfl rfl (any_of HT_.out (by kernel_rfl)) (fun _ _ _ h => h) (Or.inr ⟨by rfl, rfl⟩) ?_ ?_
 rotate_left
 ·simp only [Act.put, sQ0, sQ1, sQ2, i64_w]
  rfl
 refine pure_ (i := 6) (N := (some 51)) (v := undef) (a' := ?_) #[tt,tt,tt,tt,tt,tt,tt,ff,ff,ff,ff,ff,ff,ff,ff,ff,ff,ff,ff,ff,ff,ff,ff] rfl rfl (any_of HT_.out (by kernel_rfl)) (fun _ _ _ h => h) (Or.inr ⟨by rfl, rfl⟩) ?_ ?_
 rotate_left
 ·simp only [Act.put, sQ0, sQ1, sQ2, i64_w]
  rfl
 refine pure_ (i := 7) (N := (some 52)) (v := undef) (a' := ?_) #[tt,tt,tt,tt,tt,tt,tt,tt,ff,ff,ff,ff,ff,ff,ff,ff,ff,ff,ff,ff,ff,ff,ff] rfl rfl (any_of HT_.out (by kernel_rfl)) (fun _ _ _ h => h) (Or.inr ⟨by rfl, rfl⟩) ?_ ?_
 rotate_left
 ·simp only [Act.put, sQ0, sQ1, sQ2, i64_w]
  rfl
 refine pure_ (i := 8) (N := (some 53)) (v := undef) (a' := ?_) #[tt,tt,tt,tt,tt,tt,tt,tt,tt,ff,ff,ff,ff,ff,ff,ff,ff,ff,ff,ff,ff,ff,ff] rfl rfl (any_of HT_.out (by kernel_rfl)) (fun _ _ _ h => h) (Or.inr ⟨by rfl, rfl⟩) ?_ ?_
 rotate_left
 ·simp only [Act.put, sQ0, sQ1, sQ2, i64_w]
  rfl
 refine pure_ (i := 9) (N := (some 54)) (v := undef) (a' := ?_) #[tt,tt,tt,tt,tt,tt,tt,tt,tt,tt,ff,ff,ff,ff,ff,ff,ff,ff,ff,ff,ff,ff,ff] rfl rfl (any_of HT_.out (by kernel_rfl)) (fun _ _ _ h => h) (Or.inr ⟨by rfl, rfl⟩) ?_ ?_
 rotate_left
 ·simp only [Act.put, sQ0, sQ1, sQ2, i64_w]
  rfl
 refine pure_ (i := 10) (N := (some 55)) (v := undef) (a' := ?_) #[tt,tt,tt,tt,tt,tt,tt,tt,tt,tt,tt,ff,ff,ff,ff,ff,ff,ff,ff,ff,ff,ff,ff] rfl rfl (any_of HT_.out (by kernel_rfl)) (fun _ _ _ h => h) (Or.inr ⟨by rfl, rfl⟩) ?_ ?_
 rotate_left
 ·simp only [Act.put, sQ0, sQ1, sQ2, i64_w]
  rfl
 refine pure_ (i := 11) (N := (some 56)) (v := undef) (a' := ?_) #[tt,tt,tt,tt,tt,tt,tt,tt,tt,tt,tt,tt,ff,ff,ff,ff,ff,ff,ff,ff,ff,ff,ff] rfl rfl (any_of HT_.out (by kernel_rfl)) (fun _ _ _ h => h) (Or.inr ⟨by rfl, rfl⟩) ?_ ?_
 rotate_left
 ·simp only [Act.put, sQ0, sQ1, sQ2, i64_w]
  rfl
 refine pure_ (i := 12) (N := (some 57)) (v := undef) (a' := ?_) #[tt,tt,tt,tt,tt,tt,tt,tt,tt,tt,tt,tt,tt,ff,ff,ff,ff,ff,ff,ff,ff,ff,ff] rfl rfl (any_of HT_.out (by kernel_rfl)) (fun _ _ _ h => h) (Or.inr ⟨by rfl, rfl⟩) ?_ ?_
 rotate_left
 ·simp only [Act.put, sQ0, sQ1, sQ2, i64_w]
  rfl
 refine pure_ (i := 13) (N := (some 58)) (v := undef) (a' := ?_) #[tt,tt,tt,tt,tt,tt,tt,tt,tt,tt,tt,tt,tt,tt,ff,ff,ff,ff,ff,ff,ff,ff,ff] rfl rfl (any_of HT_.out (by kernel_rfl)) (fun _ _ _ h => h) (Or.inr ⟨by rfl, rfl⟩) ?_ ?_
 rotate_left
 ·simp only [Act.put, sQ0, sQ1, sQ2, i64_w]
  rfl
 refine pure_ (i := 14) (N := (some 59)) (v := undef) (a' := ?_) #[tt,tt,tt,tt,tt,tt,tt,tt,tt,tt,tt,tt,tt,tt,tt,ff,ff,ff,ff,ff,ff,ff,ff] rfl rfl (any_of HT_.out (by kernel_rfl)) (fun _ _ _ h => h) (Or.inr ⟨by rfl, rfl⟩) ?_ ?_
 rotate_left
 ·simp only [Act.put, sQ0, sQ1, sQ2, i64_w]
  rfl
 refine pure_ (i := 15) (N := (some 60)) (v := ?_) (a' := ?_) #[tt,tt,tt,tt,tt,tt,tt,tt,tt,tt,tt,tt,tt,tt,tt,tt,ff,ff,ff,ff,ff,ff,ff] rfl rfl (any_of HT_.out (by kernel_rfl)) (fun _ _ _ h => h) (Or.inl ⟨by rfl, ?_⟩) ?_ ?_
 rotate_left
 ·intro w'
  go_simp
  with_reducible rfl
 rotate_left
 ·simp only [Act.put, sQ0, sQ1, sQ2, i64_w]
  rfl
 refine pure_ (i := 16) (N := (some 61)) (v := ?_) (a' := ?_) #[tt,tt,tt,tt,tt,tt,tt,tt,tt,tt,tt,tt,tt,tt,tt,tt,tt,ff,ff,ff,ff,ff,ff] rfl rfl (any_of HT_.out (by kernel_rfl)) (fun _ _ _ h => h) (Or.inl ⟨by rfl, ?_⟩) ?_ ?_
 rotate_left
 ·intro w'
  go_simp
  with_reducible rfl
 rotate_left
 ·simp only [Act.put, sQ0, sQ1, sQ2, i64_w]
  rfl
 refine pure_ (i := 17) (N := (some 62)) (v := undef) (a' := ?_) #[tt,tt,tt,tt,tt,tt,tt,tt,tt,tt,tt,tt,tt,tt,tt,tt,tt,tt,ff,ff,ff,ff,ff] rfl rfl (any_of HT_.out (by kernel_rfl)) (fun _ _ _ h => h) (Or.inr ⟨by rfl, rfl⟩) ?_ ?_
 rotate_left
 ·simp only [Act.put, sQ0, sQ1, sQ2, i64_w]
  rfl
 refine pure_ (i := 18) (N := (some 63)) (v := undef) (a' := ?_) #[tt,tt,tt,tt,tt,tt,tt,tt,tt,tt,tt,tt,tt,tt,tt,tt,tt,tt,tt,ff,ff,ff,ff] rfl rfl (any_of HT_.out (by kernel_rfl)) (fun _ _ _ h => h) (Or.inr ⟨by rfl, rfl⟩) ?_ ?_
 rotate_left
 ·simp only [Act.put, sQ0, sQ1, sQ2, i64_w]
  rfl
 refine pure_ (i := 19) (N := (some 64)) (v := undef) (a' := ?_) #[tt,tt,tt,tt,tt,tt,tt,tt,tt,tt,tt,tt,tt,tt,tt,tt,tt,tt,tt,tt,ff,ff,ff] rfl rfl (any_of HT_.out (by kernel_rfl)) (fun _ _ _ h => h) (Or.inr ⟨by rfl, rfl⟩) ?_ ?_
 rotate_left
 ·simp only [Act.put, sQ0, sQ1, sQ2, i64_w]
  rfl
 refine pure_ (i := 20) (N := (some 65)) (v := undef) (a' := ?_) #[tt,tt,tt,tt,tt,tt,tt,tt,tt,tt,tt,tt,tt,tt,tt,tt,tt,tt,tt,tt,tt,ff,ff] rfl rfl (any_of HT_.out (by kernel_rfl)) (fun _ _ _ h => h) (Or.inr ⟨by rfl, rfl⟩) ?_ ?_
 rotate_left
 ·simp only [Act.put, sQ0, sQ1, sQ2, i64_w]
  rfl
 refine pure_ (i := 21) (N := (some 66)) (v := undef) (a' := ?_) #[tt,tt,tt,tt,tt,tt,tt,tt,tt,tt,tt,tt,tt,tt,tt,tt,tt,tt,tt,tt,tt,tt,ff] rfl rfl (any_of HT_.out (by kernel_rfl)) (fun _ _ _ h => h) (Or.inr ⟨by rfl, rfl⟩) ?_ ?_
 rotate_left
 ·simp only [Act.put, sQ0, sQ1, sQ2, i64_w]
  rfl
 refine pure_ (i := 22) (N := (some 67)) (v := ?_) (a' := ?_) #[tt,tt,tt,tt,tt,tt,tt,tt,tt,tt,tt,tt,tt,tt,tt,tt,tt,tt,tt,tt,tt,tt,tt] rfl rfl (any_of HT_.out (by kernel_rfl)) (fun _ _ _ h => h) (Or.inl ⟨by rfl, ?_⟩) ?_ ?_
 rotate_left
 ·intro w'
  go_simp
  with_reducible rfl
 rotate_left
 ·simp only [Act.put, sQ0, sQ1, sQ2, i64_w]
  rfl
 refine done_ (done_of HT_.out (by kernel_rfl)) ?_
 clear hHeld
 clear hlb hle hlr
 have hcb := fun i => blk_cell HJ.out.b i
 have hce := fun i => blk_cell HJ.out.e_ i
 have hlb := blk_lt HJ.out.b
 have hle := blk_lt HJ.out.e_
 have hlr := (by obtain ⟨_, _, q⟩ := HJ.out.r; exact blk_lt q : w.heap.size + 1 + 1 < _)
 go_upto_region 11 with (fail)
 obtain ⟨rs, hrs, hrr⟩ := HJ.out.r
 obtain ⟨x0, x1, rfl⟩ : ∃ x0 x1, rs = #[x0, x1] := by rcases rs with ⟨_ | ⟨x0, _ | ⟨x1, _ | _⟩⟩⟩ <;> simp at hrs; exact ⟨_, _, rfl⟩
 have hcr := fun i => blk_cell hrr i
 have hfr := fun i => blk_frozen hrr i
 clear hrs
 go_wp2
 have HE := Aside0.mk (show KR _ B (.slice A m.L.length c) m.L from KR.keep (KR.keep HJ.out.kr (W1 := World.setCell _ ⟨w.heap.size + 1 + 1, 0, none⟩ (.int .i64 m.clk)) fun g cs hg => Below.heap_setCell _ _ _ _ (types_ne hg hrr (by decide))) (W1 := World.setCell (World.setCell _ ⟨w.heap.size + 1 + 1, 0, none⟩ (.int .i64 m.clk)) ⟨w.heap.size + 1 + 1, 1, none⟩ (.slice A m.L.length c)) fun g cs hg => Below.heap_setCell _ _ _ _ (types_ne hg (blk_put hrr 0 _ rfl) (by decide)))
 have HBL := Aside0.mk (below_set (g := w.heap.size + 1 + 1) (j := 1) (v := .slice A m.L.length c) (below_set (g := w.heap.size + 1 + 1) (j := 0) (v := .int .i64 m.clk) HJ.out.below (by omega)) (by omega))
 unfold RdPost
 rw [HF.out]
 exact bodyPost_ret (v := .tuple #[.agg #[.int .i64 m.clk, .slice A m.L.length c], .int .i64 6]) (by simp [results, Try.results45, asAddr, go_sem, hu0, hcr, hlr]) rfl ⟨_, rfl, HE.out, HBL.out⟩
theorem rdo_fire_early {w : World} {B : Nat} (m : Rm) (v : Value) (e : Au.Ev) (hn : m.L.length ≤ 90000) (nd : (m.L.map S127.h).Nodup) (hB : B ≤ w.heap.size) (h : KR w B v m.L) (hr : rightJ e = true) (hk : e.k = 4) (ha : statR m.L e.h = 1) (hd : ¬ dlR m.L e.h ≤ e.t) :
  Calls Try.prog 45 #[.agg #[.int .i64 m.clk, v], .agg (evA e)] w (RdPost B w (rdoF m e)) := by
 have hu0 := Try.underlying43
 have hu1 := Try.underlying36
 have hu2 := Try.underlying50
 have hu3 := Try.underlying127
 have HF := Aside0.mk (show rdoF m e = (m, 6) by unfold rdoF; rw [if_neg (by rw [hr]; simp; omega), if_neg (by omega), if_pos hk, if_neg (fun q => hd q.2.1)])
 have qk1 : (e.k == 1) = false := beq_eq_false_iff_ne.2 (by omega)
 have qk2 : (e.k == 2) = false := beq_eq_false_iff_ne.2 (by omega)
 have qk4 : (e.k == 4) = true := beq_iff_eq.2 (hk)
 have qk5 : (e.k == 5) = false := beq_eq_false_iff_ne.2 (by omega)
 have qs : (statR m.L e.h == 1) = true := beq_iff_eq.2 (ha)
 have f1 : decide (dlR m.L e.h > e.t) = true := decide_eq_true (by omega)
 obtain ⟨A, c, rfl⟩ := Kd.R_slice h
 have CR := Aside0.mk (fun W => rright_run e W)
 have CS : Aside0 (∀ W, KR W B (.slice A m.L.length c) m.L → Calls Try.prog 35 #[.agg #[.int .i64 m.clk, .slice A m.L.length c], .agg #[.int .i64 e.hn, .int .i64 e.hg]] W fun r w' => r = .returned (.int .i64 (statR m.L e.h)) ∧ Below W.heap.size W w') := ⟨fun W hW => stat_calls hW (by omega) e.hn e.hg⟩
 have HN := Aside0.mk hn
 have HND := Aside0.mk nd
 have HB := Aside0.mk hB
 have HJ := Aside0.mk (Rj.start h m.clk e)
 rw [hr] at CR
 have CFi : Aside0 (∀ W, KR W B (.slice A m.L.length c) m.L → Calls Try.prog 68 #[.agg #[.int .i64 m.clk, .slice A m.L.length c], .agg #[.int .i64 e.hn, .int .i64 e.hg]] W fun r w' => r = .returned (.int .i64 (findR m.L e.h)) ∧ Below W.heap.size W w') := ⟨fun W hW => find_calls hW (by omega) e.hn e.hg⟩
 obtain ⟨fi, hfi, hfr0, hfx⟩ := find_ex ha
 rw [hfr0] at CFi
 obtain ⟨gg, rfl, hgl, hgc⟩ := row_dl h fi hfi
 have HGC := Aside0.mk hgc
 have HGL := Aside0.mk hgl
 have p0 := eq_true (show (0 : Int) ≤ (fi : Int) by omega)
 have p1 := eq_true (show (fi : Int) < (m.L.length : Int) by omega)
 clear hgc hgl hfr0
 rw [hfx] at HGC
 obtain ⟨dl, hdl⟩ : ∃ d, dlR m.L e.h = d := ⟨_, rfl⟩
 rw [hdl] at HGC
 try rw [hdl] at f1
 clear hdl hfx
 clear hn nd hB h hr hk ha hd
 have hcb := fun i => blk_cell HJ.out.b i
 have hce := fun i => blk_cell HJ.out.e_ i
 have hlb := blk_lt HJ.out.b
 have hle := blk_lt HJ.out.e_
 have hlr := (by obtain ⟨_, _, q⟩ := HJ.out.r; exact blk_lt q : w.heap.size + 1 + 1 < _)
 obtain ⟨sv, hsv⟩ : ∃ sv, statR m.L e.h = sv := ⟨_, rfl⟩
 try rw [hsv] at CS
 try rw [hsv] at qs
 clear hsv
 go_enter Try.func45, Try.ntmps45
 go_upto_region 10 with (first | (go_at_call 62; (with_reducible refine (CR.out _).mono ?_); rintro r w2 ⟨rfl, hb⟩; have HJ2 := Aside0.mk (HJ.out.step hb); clear hb hcb hce hlb hle hlr HJ; have HJ := HJ2; clear HJ2; have hcb := fun i => blk_cell HJ.out.b i; have hce := fun i => blk_cell HJ.out.e_ i; have hlb := blk_lt HJ.out.b; have hle := blk_lt HJ.out.e_; have hlr := (by obtain ⟨_, _, q⟩ := HJ.out.r; exact blk_lt q : w.heap.size + 1 + 1 < _)) | (go_at_call 35; (with_reducible refine (CS.out _ HJ.out.kr).mono ?_); rintro r w3 ⟨rfl, hb⟩; have HJ2 := Aside0.mk (HJ.out.step hb); clear hb hcb hce hlb hle hlr HJ; have HJ := HJ2; clear HJ2; have hcb := fun i => blk_cell HJ.out.b i; have hce := fun i => blk_cell HJ.out.e_ i; have hlb := blk_lt HJ.out.b; have hle := blk_lt HJ.out.e_; have hlr := (by obtain ⟨_, _, q⟩ := HJ.out.r; exact blk_lt q : w.heap.size + 1 + 1 < _)))
 refine gen_world' (fun W => Rj B w W m.clk (.slice (some ⟨gg, 0, none⟩) m.L.length c) m.L e) (by exact HJ.out) fun w4 Hw4 => ?_
 have HJw4 := Aside0.mk Hw4
 clear Hw4 HJ
 clear hcb hce hlb hle hlr
 have hdc := pw_cell_below (below_drew HJw4.out.below) HGC.out
 refine start_ (n := 23) (S := (fun w' => (∀ i, w'.cell? ⟨w.heap.size, i, none⟩ = (#[.int .i64 m.clk, .slice (some ⟨gg, 0, none⟩) m.L.length c] : Array Value)[i]?) ∧ (∀ i, w'.cell? ⟨w.heap.size + 1, i, none⟩ = (evA e)[i]?) ∧ w'.cell? ⟨gg, fi * 4 + 3, none⟩ = some (.int .i64 dl))) (ds := []) #[ff,ff,ff,ff,ff,ff,ff,ff,ff,ff,ff,ff,ff,ff,ff,ff,ff,ff,ff,ff,ff,ff,ff] (by kernel_rfl) rfl rfl ⟨fun i => blk_cell HJw4.out.drew.b i, fun i => blk_cell HJw4.out.drew.e_ i, hdc⟩ (fun hHeld => ?_)
 refine with_tabW rdR.tab10 rdR.bits10 (fun HT_ HW_ => ?_)
 have HJ := Aside0.mk HJw4.out.drew
 have HAD := Aside0.mk (show w4.drew.cell? ⟨gg, fi * 4 + 3, none⟩ = some (.int .i64 dl) from hdc)
 generalize w4.drew = w5 at HJ hHeld HAD ⊢
 have hlb := blk_lt HJ.out.b
 have hle := blk_lt HJ.out.e_
 have hlr := (by obtain ⟨_, _, q⟩ := HJ.out.r; exact blk_lt q : w.heap.size + 1 + 1 < _)
 refine pure_ (i := 0) (N := (some 45)) (v := ?_) (a' := ?_) #[tt,ff,ff,ff,ff,ff,ff,ff,ff,ff,ff,ff,ff,ff,ff,ff,ff,ff,ff,ff,ff,ff,ff] rfl rfl (any_of HT_.out (by kernel_rfl)) (fun _ _ _ h => h) (Or.inl ⟨by rfl, ?_⟩) ?_ ?_
 rotate_left
 ·intro w'
  go_simp
  with_reducible rfl
 rotate_left
 ·simp only [Act.put, sQ0, sQ1, sQ2, i64_w]
  rfl
 refine pure_ (i := 1) (N := (some 46)) (v := ?_) (a' := ?_) #[tt,tt,ff,ff,ff,ff,ff,ff,ff,ff,ff,ff,ff,ff,ff,ff,ff,ff,ff,ff,ff,ff,ff] rfl rfl (any_of HT_.out (by kernel_rfl)) (fun _ _ _ h => h) (Or.inl ⟨by rfl, ?_⟩) ?_ ?_
 rotate_left
 ·intro w'
  go_simp
  with_reducible rfl
 rotate_left
 ·simp only [Act.put, sQ0, sQ1, sQ2, i64_w]
  rfl
 refine pure_ (i := 2) (N := (some 47)) (v := ?_) (a' := ?_) #[tt,tt,tt,ff,ff,ff,ff,ff,ff,ff,ff,ff,ff,ff,ff,ff,ff,ff,ff,ff,ff,ff,ff] rfl rfl (any_of HT_.out (by kernel_rfl)) (fun _ _ _ h => h) (Or.inl ⟨by rfl, ?_⟩) ?_ ?_
 rotate_left
 ·intro w'
  go_simp
  with_reducible rfl
 rotate_left
 ·simp only [Act.put, sQ0, sQ1, sQ2, i64_w]
  rfl
 refine pure_ (i := 3) (N := (some 48)) (v := ?_) (a' := ?_) #[tt,tt,tt,tt,ff,ff,ff,ff,ff,ff,ff,ff,ff,ff,ff,ff,ff,ff,ff,ff,ff,ff,ff] rfl rfl (any_of HT_.out (by kernel_rfl)) (fun _ _ _ h => h) (Or.inl ⟨by rfl, ?_⟩) ?_ ?_
 rotate_left
 ·intro w'
  go_simp
  with_reducible rfl
 rotate_left
 ·simp only [Act.put, sQ0, sQ1, sQ2, i64_w]
  rfl
 refine pure_ (i := 6) (N := (some 51)) (v := ?_) (a' := ?_) #[tt,tt,tt,tt,ff,ff,tt,ff,ff,ff,ff,ff,ff,ff,ff,ff,ff,ff,ff,ff,ff,ff,ff] rfl rfl (any_of HT_.out (by kernel_rfl)) (fun _ _ _ h => h) (Or.inl ⟨by rfl, ?_⟩) ?_ ?_
 rotate_left
 ·intro w'
  go_simp
  with_reducible rfl
 rotate_left
 ·simp only [Act.put, sQ0, sQ1, sQ2, i64_w]
  rfl
 refine pure_ (i := 12) (N := (some 57)) (v := ?_) (a' := ?_) #[tt,tt,tt,tt,ff,ff,tt,ff,ff,ff,ff,ff,tt,ff,ff,ff,ff,ff,ff,ff,ff,ff,ff] rfl rfl (any_of HT_.out (by kernel_rfl)) (fun _ _ _ h => h) (Or.inl ⟨by rfl, ?_⟩) ?_ ?_
 rotate_left
 ·intro w'
  go_simp
  with_reducible rfl
 rotate_left
 ·simp only [Act.put, sQ0, sQ1, sQ2, i64_w]
  rfl
 refine take_ (i := 4) (N := (some 49)) (v := ?_) (a' := ?_) #[tt,tt,tt,tt,tt,ff,tt,ff,ff,ff,ff,ff,tt,ff,ff,ff,ff,ff,ff,ff,ff,ff,ff] rfl rfl (take_ofW HT_.out HW_.out (by kernel_rfl)) (fun _ _ _ h => h) (Or.inl ⟨by rfl, ?_⟩) hHeld ?_ ?_
 rotate_left
 ·rintro w' ⟨s0, s1, s2⟩
  go_simp
  with_reducible rfl
 rotate_left
 ·simp only [Act.put, sQ0, sQ1, sQ2, i64_w]
  rfl
 refine take_ (i := 5) (N := (some 50)) (v := ?_) (a' := ?_) #[tt,tt,tt,tt,tt,tt,tt,ff,ff,ff,ff,ff,tt,ff,ff,ff,ff,ff,ff,ff,ff,ff,ff] rfl rfl (take_ofW HT_.out HW_.out (by kernel_rfl)) (fun _ _ _ h => h) (Or.inl ⟨by rfl, ?_⟩) hHeld ?_ ?_
 rotate_left
 ·rintro w' ⟨s0, s1, s2⟩
  go_simp
  with_reducible rfl
 rotate_left
 ·simp only [Act.put, sQ0, sQ1, sQ2, i64_w]
  rfl
 refine take_ (i := 7) (N := (some 52)) (v := ?_) (a' := ?_) #[tt,tt,tt,tt,tt,tt,tt,tt,ff,ff,ff,ff,tt,ff,ff,ff,ff,ff,ff,ff,ff,ff,ff] rfl rfl (take_ofW HT_.out HW_.out (by kernel_rfl)) (fun _ _ _ h => h) (Or.inl ⟨by rfl, ?_⟩) hHeld ?_ ?_
 rotate_left
 ·rintro w' ⟨s0, s1, s2⟩
  go_simp
  with_reducible rfl
 rotate_left
 ·simp only [Act.put, sQ0, sQ1, sQ2, i64_w]
  rfl
 refine take_ (i := 13) (N := (some 58)) (v := ?_) (a' := ?_) #[tt,tt,tt,tt,tt,tt,tt,tt,ff,ff,ff,ff,tt,tt,ff,ff,ff,ff,ff,ff,ff,ff,ff] rfl rfl (take_ofW HT_.out HW_.out (by kernel_rfl)) (fun _ _ _ h => h) (Or.inl ⟨by rfl, ?_⟩) hHeld ?_ ?_
 rotate_left
 ·rintro w' ⟨s0, s1, s2⟩
  go_simp
  with_reducible rfl
 rotate_left
 ·simp only [Act.put, sQ0, sQ1, sQ2, i64_w]
  rfl
 refine one_ (i := 8) (N := (some 53)) #[tt,tt,tt,tt,tt,tt,tt,tt,tt,ff,ff,ff,tt,tt,ff,ff,ff,ff,ff,ff,ff,ff,ff] rfl rfl (one_of HT_.out (by kernel_rfl)) (by decide) (fun K hK => ?_)
 refine call_ (f := 68) #[.agg #[.int .i64 m.clk, .slice (some ⟨gg, 0, none⟩) m.L.length c], .agg #[.int .i64 e.hn, .int .i64 e.hg]] (by rfl) rfl (by go_simp <;> rfl) ?_
 refine (CFi.out w5 HJ.out.kr).mono ?_
 rintro r w6 ⟨rfl, hb⟩
 refine ⟨_, rfl, ?_⟩
 have HJ6 := Aside0.mk (HJ.out.step hb)
 have HA6 := Aside0.mk (pw_cell_below hb HAD.out)
 clear hb
 refine hK.out _ _ ⟨fun i => blk_cell HJ6.out.b i, fun i => blk_cell HJ6.out.e_ i, HA6.out⟩ (fun hHeld => ?_)
 clear hK K
 refine norm_ (a' := ?_) ?_ ?_
 rotate_left
 ·show Act.put _ (some 53) _ = _
  simp only [Act.put, sQ0, sQ1, sQ2, i64_w]
  rfl
 refine pure_ (i := 9) (N := (some 54)) (v := ?_) (a' := ?_) #[tt,tt,tt,tt,tt,tt,tt,tt,tt,tt,ff,ff,tt,tt,ff,ff,ff,ff,ff,ff,ff,ff,ff] rfl rfl (any_of HT_.out (by kernel_rfl)) (fun _ _ _ h => h) (Or.inl ⟨by rfl, ?_⟩) ?_ ?_
 rotate_left
 ·intro w'
  go_simp
  with_reducible rfl
 rotate_left
 ·simp only [Act.put, sQ0, sQ1, sQ2, i64_w]
  rfl
 refine pure_ (i := 10) (N := (some 55)) (v := ?_) (a' := ?_) #[tt,tt,tt,tt,tt,tt,tt,tt,tt,tt,tt,ff,tt,tt,ff,ff,ff,ff,ff,ff,ff,ff,ff] rfl rfl (any_of HT_.out (by kernel_rfl)) (fun _ _ _ h => h) (Or.inl ⟨by rfl, ?_⟩) ?_ ?_
 rotate_left
 ·intro w'
  go_simp
  with_reducible rfl
 rotate_left
 ·simp only [Act.put, sQ0, sQ1, sQ2, i64_w]
  rfl
 refine take_ (i := 11) (N := (some 56)) (v := ?_) (a' := ?_) #[tt,tt,tt,tt,tt,tt,tt,tt,tt,tt,tt,tt,tt,tt,ff,ff,ff,ff,ff,ff,ff,ff,ff] rfl rfl (take_ofW HT_.out HW_.out (by kernel_rfl)) (fun _ _ _ h => h) (Or.inl ⟨by rfl, ?_⟩) hHeld ?_ ?_
 rotate_left
 ·rintro w' ⟨s0, s1, s2⟩
  go_simp
  with_reducible rfl
 rotate_left
 ·simp only [Act.put, sQ0, sQ1, sQ2, i64_w]
  rfl
 refine pure_ (i := 14) (N := (some 59)) (v := ?_) (a' := ?_) #[tt,tt,tt,tt,tt,tt,tt,tt,tt,tt,tt,tt,tt,tt,tt,ff,ff,ff,ff,ff,ff,ff,ff] rfl rfl (any_of HT_.out (by kernel_rfl)) (fun _ _ _ h => h) (Or.inl ⟨by rfl, ?_⟩) ?_ ?_
 rotate_left
 ·intro w'
  go_simp
  with_reducible rfl
 rotate_left
 ·simp only [Act.put, sQ0, sQ1, sQ2, i64_w]
  rfl
 refine pure_ (i := 15) (N := (some 60)) (v := ?_) (a' := ?_) #[tt,tt,tt,tt,tt,tt,tt,tt,tt,tt,tt,tt,tt,tt,tt,tt,ff,ff,ff,ff,ff,ff,ff] rfl rfl (any_of HT_.out (by kernel_rfl)) (fun _ _ _ h => h) (Or.inl ⟨by rfl, ?_⟩) ?_ ?_
 rotate_left
 ·intro w'
  go_simp
  with_reducible rfl
 rotate_left
 ·simp only [Act.put, sQ0, sQ1, sQ2, i64_w]
  rfl
 refine pure_ (i := 16) (N := (some 61)) (v := ?_) (a' := ?_) #[tt,tt,tt,tt,tt,tt,tt,tt,tt,tt,tt,tt,tt,tt,tt,tt,tt,ff,ff,ff,ff,ff,ff] rfl rfl (any_of HT_.out (by kernel_rfl)) (fun _ _ _ h => h) (Or.inl ⟨by rfl, ?_⟩) ?_ ?_
 rotate_left
 ·intro w'
  go_simp
  with_reducible rfl
 rotate_left
 ·simp only [Act.put, sQ0, sQ1, sQ2, i64_w]
  rfl
 refine pure_ (i := 17) (N := (some 62)) (v := undef) (a' := ?_) #[tt,tt,tt,tt,tt,tt,tt,tt,tt,tt,tt,tt,tt,tt,tt,tt,tt,tt,ff,ff,ff,ff,ff] rfl rfl (any_of HT_.out (by kernel_rfl)) (fun _ _ _ h => h) (Or.inr ⟨by rfl, rfl⟩) ?_ ?_
 rotate_left
 ·simp only [Act.put, sQ0, sQ1, sQ2, i64_w]
  rfl
 refine pure_ (i := 18) (N := (some 63)) (v := undef) (a' := ?_) #[tt,tt,tt,tt,tt,tt,tt,tt,tt,tt,tt,tt,tt,tt,tt,tt,tt,tt,tt,ff,ff,ff,ff] rfl rfl (any_of HT_.out (by kernel_rfl)) (fun _ _ _ h => h) (Or.inr ⟨by rfl, rfl⟩) ?_ ?_
 rotate_left
 ·simp only [Act.put, sQ0, sQ1, sQ2, i64_w]
  rfl
 refine pure_ (i := 19) (N := (some 64)) (v := undef) (a' := ?_) #[tt,tt,tt,tt,tt,tt,tt,tt,tt,tt,tt,tt,tt,tt,tt,tt,tt,tt,tt,tt,ff,ff,ff] rfl rfl (any_of HT_.out (by kernel_rfl)) (fun _ _ _ h => h) (Or.inr ⟨by rfl, rfl⟩) ?_ ?_
 rotate_left
 ·simp only [Act.put, sQ0, sQ1, sQ2, i64_w]
  rfl
 refine pure_ (i := 20) (N := (some 65)) (v := undef) (a' := ?_) #[tt,tt,tt,tt,tt,tt,tt,tt,tt,tt,tt,tt,tt,tt,tt,tt,tt,tt,tt,tt,tt,ff,ff] rfl rfl (any_of HT_.out (by kernel_rfl)) (fun _ _ _ h => h) (Or.inr ⟨by rfl, rfl⟩) ?_ ?_
 rotate_left
 ·simp only [Act.put, sQ0, sQ1, sQ2, i64_w]
  rfl
 refine pure_ (i := 21) (N := (some 66)) (v := undef) (a' := ?_) #[tt,tt,tt,tt,tt,tt,tt,tt,tt,tt,tt,tt,tt,tt,tt,tt,tt,tt,tt,tt,tt,tt,ff] rfl rfl (any_of HT_.out (by kernel_rfl)) (fun _ _ _ h => h) (Or.inr ⟨by rfl, rfl⟩) ?_ ?_
 rotate_left
 ·simp only [Act.put, sQ0, sQ1, sQ2, i64_w]
  rfl
 refine pure_ (i := 22) (N := (some 67)) (v := ?_) (a' := ?_) #[tt,tt,tt,tt,tt,tt,tt,tt,tt,tt,tt,tt,tt,tt,tt,tt,tt,tt,tt,tt,tt,tt,tt] rfl rfl (any_of HT_.out (by kernel_rfl)) (fun _ _ _ h => h) (Or.inl ⟨by rfl, ?_⟩) ?_ ?_
 rotate_left
 ·intro w'
  go_simp
  with_reducible rfl
 rotate_left
 ·simp only [Act.put, sQ0, sQ1, sQ2, i64_w]
  rfl
 refine done_ (done_of HT_.out (by kernel_rfl)) ?_
 clear hHeld
 clear hlb hle hlr
 clear HJ
 have HJ := HJ6
 have hcb := fun i => blk_cell HJ.out.b i
 have hce := fun i => blk_cell HJ.out.e_ i
 have hlb := blk_lt HJ.out.b
 have hle := blk_lt HJ.out.e_
 have hlr := (by obtain ⟨_, _, q⟩ := HJ.out.r; exact blk_lt q : w.heap.size + 1 + 1 < _)
 go_upto_region 11 with (fail)
 obtain ⟨rs, hrs, hrr⟩ := HJ.out.r
 obtain ⟨x0, x1, rfl⟩ : ∃ x0 x1, rs = #[x0, x1] := by rcases rs with ⟨_ | ⟨x0, _ | ⟨x1, _ | _⟩⟩⟩ <;> simp at hrs; exact ⟨_, _, rfl⟩
 have hcr := fun i => blk_cell hrr i
 have hfr := fun i => blk_frozen hrr i
 clear hrs
 go_wp2
 have HE := Aside0.mk (show KR _ B (.slice (some ⟨gg, 0, none⟩) m.L.length c) m.L from KR.keep (KR.keep HJ.out.kr (W1 := World.setCell _ ⟨w.heap.size + 1 + 1, 0, none⟩ (.int .i64 m.clk)) fun g cs hg => Below.heap_setCell _ _ _ _ (types_ne hg hrr (by decide))) (W1 := World.setCell (World.setCell _ ⟨w.heap.size + 1 + 1, 0, none⟩ (.int .i64 m.clk)) ⟨w.heap.size + 1 + 1, 1, none⟩ (.slice (some ⟨gg, 0, none⟩) m.L.length c)) fun g cs hg => Below.heap_setCell _ _ _ _ (types_ne hg (blk_put hrr 0 _ rfl) (by decide)))
 have HBL := Aside0.mk (below_set (g := w.heap.size + 1 + 1) (j := 1) (v := .slice (some ⟨gg, 0, none⟩) m.L.length c) (below_set (g := w.heap.size + 1 + 1) (j := 0) (v := .int .i64 m.clk) HJ.out.below (by omega)) (by omega))
 unfold RdPost
 rw [HF.out]
 exact bodyPost_ret (v := .tuple #[.agg #[.int .i64 m.clk, .slice (some ⟨gg, 0, none⟩) m.L.length c], .int .i64 6]) (by simp [results, Try.results45, asAddr, go_sem, hu0, hcr, hlr]) rfl ⟨_, rfl, HE.out, HBL.out⟩
theorem rdo_fire_late {w : World} {B : Nat} (m : Rm) (v : Value) (e : Au.Ev) (hn : m.L.length ≤ 90000) (nd : (m.L.map S127.h).Nodup) (hB : B ≤ w.heap.size) (h : KR w B v m.L) (hr : rightJ e = true) (hk : e.k = 4) (ha : statR m.L e.h = 1) (hd : dlR m.L e.h ≤ e.t) (hc : ¬ e.t ≤ m.clk) :
  Calls Try.prog 45 #[.agg #[.int .i64 m.clk, v], .agg (evA e)] w (RdPost B w (rdoF m e)) := by
 have hu0 := Try.underlying43
 have hu1 := Try.underlying36
 have hu2 := Try.underlying50
 have hu3 := Try.underlying127
 have HF := Aside0.mk (show rdoF m e = (m, 6) by unfold rdoF; rw [if_neg (by rw [hr]; simp; omega), if_neg (by omega), if_pos hk, if_neg (fun q => hc q.2.2)])
 have qk1 : (e.k == 1) = false := beq_eq_false_iff_ne.2 (by omega)
 have qk2 : (e.k == 2) = false := beq_eq_false_iff_ne.2 (by omega)
 have qk4 : (e.k == 4) = true := beq_iff_eq.2 (hk)
 have qk5 : (e.k == 5) = false := beq_eq_false_iff_ne.2 (by omega)
 have qs : (statR m.L e.h == 1) = true := beq_iff_eq.2 (ha)
 have f1 : decide (dlR m.L e.h > e.t) = false := decide_eq_false (by omega)
 have f2 : decide (e.t > m.clk) = true := decide_eq_true (by omega)
 obtain ⟨A, c, rfl⟩ := Kd.R_slice h
 have CR := Aside0.mk (fun W => rright_run e W)
 have CS : Aside0 (∀ W, KR W B (.slice A m.L.length c) m.L → Calls Try.prog 35 #[.agg #[.int .i64 m.clk, .slice A m.L.length c], .agg #[.int .i64 e.hn, .int .i64 e.hg]] W fun r w' => r = .returned (.int .i64 (statR m.L e.h)) ∧ Below W.heap.size W w') := ⟨fun W hW => stat_calls hW (by omega) e.hn e.hg⟩
 have HN := Aside0.mk hn
 have HND := Aside0.mk nd
 have HB := Aside0.mk hB
 have HJ := Aside0.mk (Rj.start h m.clk e)
 rw [hr] at CR
 have CFi : Aside0 (∀ W, KR W B (.slice A m.L.length c) m.L → Calls Try.prog 68 #[.agg #[.int .i64 m.clk, .slice A m.L.length c], .agg #[.int .i64 e.hn, .int .i64 e.hg]] W fun r w' => r = .returned (.int .i64 (findR m.L e.h)) ∧ Below W.heap.size W w') := ⟨fun W hW => find_calls hW (by omega) e.hn e.hg⟩
 obtain ⟨fi, hfi, hfr0, hfx⟩ := find_ex ha
 rw [hfr0] at CFi
 obtain ⟨gg, rfl, hgl, hgc⟩ := row_dl h fi hfi
 have HGC := Aside0.mk hgc
 have HGL := Aside0.mk hgl
 have p0 := eq_true (show (0 : Int) ≤ (fi : Int) by omega)
 have p1 := eq_true (show (fi : Int) < (m.L.length : Int) by omega)
 clear hgc hgl hfr0
 rw [hfx] at HGC
 obtain ⟨dl, hdl⟩ : ∃ d, dlR m.L e.h = d := ⟨_, rfl⟩
 rw [hdl] at HGC
 try rw [hdl] at f1
 clear hdl hfx
 clear hn nd hB h hr hk ha hd hc
 have hcb := fun i => blk_cell HJ.out.b i
 have hce := fun i => blk_cell HJ.out.e_ i
 have hlb := blk_lt HJ.out.b
 have hle := blk_lt HJ.out.e_
 have hlr := (by obtain ⟨_, _, q⟩ := HJ.out.r; exact blk_lt q : w.heap.size + 1 + 1 < _)
 obtain ⟨sv, hsv⟩ : ∃ sv, statR m.L e.h = sv := ⟨_, rfl⟩
 try rw [hsv] at CS
 try rw [hsv] at qs
 clear hsv
 go_enter Try.func45, Try.ntmps45
 go_upto_region 10 with (first | (go_at_call 62; (with_reducible refine (CR.out _).mono ?_); rintro r w2 ⟨rfl, hb⟩; have HJ2 := Aside0.mk (HJ.out.step hb); clear hb hcb hce hlb hle hlr HJ; have HJ := HJ2; clear HJ2; have hcb := fun i => blk_cell HJ.out.b i; have hce := fun i => blk_cell HJ.out.e_ i; have hlb := blk_lt HJ.out.b; have hle := blk_lt HJ.out.e_; have hlr := (by obtain ⟨_, _, q⟩ := HJ.out.r; exact blk_lt q : w.heap.size + 1 + 1 < _)) | (go_at_call 35; (with_reducible refine (CS.out _ HJ.out.kr).mono ?_); rintro r w3 ⟨rfl, hb⟩; have HJ2 := Aside0.mk (HJ.out.step hb); clear hb hcb hce hlb hle hlr HJ; have HJ := HJ2; clear HJ2; have hcb := fun i => blk_cell HJ.out.b i; have hce := fun i => blk_cell HJ.out.e_ i; have hlb := blk_lt HJ.out.b; have hle := blk_lt HJ.out.e_; have hlr := (by obtain ⟨_, _, q⟩ := HJ.out.r; exact blk_lt q : w.heap.size + 1 + 1 < _)))
 refine gen_world' (fun W => Rj B w W m.clk (.slice (some ⟨gg, 0, none⟩) m.L.length c) m.L e) (by exact HJ.out) fun w4 Hw4 => ?_
 have HJw4 := Aside0.mk Hw4
 clear Hw4 HJ
 clear hcb hce hlb hle hlr
 have hdc := pw_cell_below (below_drew HJw4.out.below) HGC.out
 refine start_ (n := 23) (S := (fun w' => (∀ i, w'.cell? ⟨w.heap.size, i, none⟩ = (#[.int .i64 m.clk, .slice (some ⟨gg, 0, none⟩) m.L.length c] : Array Value)[i]?) ∧ (∀ i, w'.cell? ⟨w.heap.size + 1, i, none⟩ = (evA e)[i]?) ∧ w'.cell? ⟨gg, fi * 4 + 3, none⟩ = some (.int .i64 dl))) (ds := []) #[ff,ff,ff,ff,ff,ff,ff,ff,ff,ff,ff,ff,ff,ff,ff,ff,ff,ff,ff,ff,ff,ff,ff] (by kernel_rfl) rfl rfl ⟨fun i => blk_cell HJw4.out.drew.b i, fun i => blk_cell HJw4.out.drew.e_ i, hdc⟩ (fun hHeld => ?_)
 refine with_tabW rdR.tab10 rdR.bits10 (fun HT_ HW_ => ?_)
 have HJ := Aside0.mk HJw4.out.drew
 have HAD := Aside0.mk (show w4.drew.cell? ⟨gg, fi * 4 + 3, none⟩ = some (.int .i64 dl) from hdc)
 generalize w4.drew = w5 at HJ hHeld HAD ⊢
 have hlb := blk_lt HJ.out.b
 have hle := blk_lt HJ.out.e_
 have hlr := (by obtain ⟨_, _, q⟩ := HJ.out.r; exact blk_lt q : w.heap.size + 1 + 1 < _)
 refine pure_ (i := 0) (N := (some 45)) (v := ?_) (a' := ?_) #[tt,ff,ff,ff,ff,ff,ff,ff,ff,ff,ff,ff,ff,ff,ff,ff,ff,ff,ff,ff,ff,ff,ff] rfl rfl (any_of HT_.out (by kernel_rfl)) (fun _ _ _ h => h) (Or.inl ⟨by rfl, ?_⟩) ?_ ?_
 rotate_left
 ·intro w'
  go_simp
  with_reducible rfl
 rotate_left
 ·simp only [Act.put, sQ0, sQ1, sQ2, i64_w]
  rfl
 refine pure_ (i := 1) (N := (some 46)) (v := ?_) (a' := ?_) #[tt,tt,ff,ff,ff,ff,ff,ff,ff,ff,ff,ff,ff,ff,ff,ff,ff,ff,ff,ff,ff,ff,ff] rfl rfl (any_of HT_.out (by kernel_rfl)) (fun _ _ _ h => h) (Or.inl ⟨by rfl, ?_⟩) ?_ ?_
 rotate_left
 ·intro w'
  go_simp
  with_reducible rfl
 rotate_left
 ·simp only [Act.put, sQ0, sQ1, sQ2, i64_w]
  rfl
 refine pure_ (i := 2) (N := (some 47)) (v := ?_) (a' := ?_) #[tt,tt,tt,ff,ff,ff,ff,ff,ff,ff,ff,ff,ff,ff,ff,ff,ff,ff,ff,ff,ff,ff,ff] rfl rfl (any_of HT_.out (by kernel_rfl)) (fun _ _ _ h => h) (Or.inl ⟨by rfl, ?_⟩) ?_ ?_
 rotate_left
 ·intro w'
  go_simp
  with_reducible rfl
 rotate_left
 ·simp only [Act.put, sQ0, sQ1, sQ2, i64_w]
  rfl
 refine pure_ (i := 3) (N := (some 48)) (v := ?_) (a' := ?_) #[tt,tt,tt,tt,ff,ff,ff,ff,ff,ff,ff,ff,ff,ff,ff,ff,ff,ff,ff,ff,ff,ff,ff] rfl rfl (any_of HT_.out (by kernel_rfl)) (fun _ _ _ h => h) (Or.inl ⟨by rfl, ?_⟩) ?_ ?_
 rotate_left
 ·intro w'
  go_simp
  with_reducible rfl
 rotate_left
 ·simp only [Act.put, sQ0, sQ1, sQ2, i64_w]
  rfl
 refine pure_ (i := 6) (N := (some 51)) (v := ?_) (a' := ?_) #[tt,tt,tt,tt,ff,ff,tt,ff,ff,ff,ff,ff,ff,ff,ff,ff,ff,ff,ff,ff,ff,ff,ff] rfl rfl (any_of HT_.out (by kernel_rfl)) (fun _ _ _ h => h) (Or.inl ⟨by rfl, ?_⟩) ?_ ?_
 rotate_left
 ·intro w'
  go_simp
  with_reducible rfl
 rotate_left
 ·simp only [Act.put, sQ0, sQ1, sQ2, i64_w]
  rfl
 refine pure_ (i := 12) (N := (some 57)) (v := ?_) (a' := ?_) #[tt,tt,tt,tt,ff,ff,tt,ff,ff,ff,ff,ff,tt,ff,ff,ff,ff,ff,ff,ff,ff,ff,ff] rfl rfl (any_of HT_.out (by kernel_rfl)) (fun _ _ _ h => h) (Or.inl ⟨by rfl, ?_⟩) ?_ ?_
 rotate_left
 ·intro w'
  go_simp
  with_reducible rfl
 rotate_left
 ·simp only [Act.put, sQ0, sQ1, sQ2, i64_w]
  rfl
 refine take_ (i := 4) (N := (some 49)) (v := ?_) (a' := ?_) #[tt,tt,tt,tt,tt,ff,tt,ff,ff,ff,ff,ff,tt,ff,ff,ff,ff,ff,ff,ff,ff,ff,ff] rfl rfl (take_ofW HT_.out HW_.out (by kernel_rfl)) (fun _ _ _ h => h) (Or.inl ⟨by rfl, ?_⟩) hHeld ?_ ?_
 rotate_left
 ·rintro w' ⟨s0, s1, s2⟩
  go_simp
  with_reducible rfl
 rotate_left
 ·simp only [Act.put, sQ0, sQ1, sQ2, i64_w]
  rfl
 refine take_ (i := 5) (N := (some 50)) (v := ?_) (a' := ?_) #[tt,tt,tt,tt,tt,tt,tt,ff,ff,ff,ff,ff,tt,ff,ff,ff,ff,ff,ff,ff,ff,ff,ff] rfl rfl (take_ofW HT_.out HW_.out (by kernel_rfl)) (fun _ _ _ h => h) (Or.inl ⟨by rfl, ?_⟩) hHeld ?_ ?_
 rotate_left
 ·rintro w' ⟨s0, s1, s2⟩
  go_simp
  with_reducible rfl
 rotate_left
 ·simp only [Act.put, sQ0, sQ1, sQ2, i64_w]
  rfl
 refine take_ (i := 7) (N := (some 52)) (v := ?_) (a' := ?_) #[tt,tt,tt,tt,tt,tt,tt,tt,ff,ff,ff,ff,tt,ff,ff,ff,ff,ff,ff,ff,ff,ff,ff] rfl rfl (take_ofW HT_.out HW_.out (by kernel_rfl)) (fun _ _ _ h => h) (Or.inl ⟨by rfl, ?_⟩) hHeld ?_ ?_
 rotate_left
 ·rintro w' ⟨s0, s1, s2⟩
  go_simp
  with_reducible rfl
 rotate_left
 ·simp only [Act.put, sQ0, sQ1, sQ2, i64_w]
  rfl
 refine take_ (i := 13) (N := (some 58)) (v := ?_) (a' := ?_) #[tt,tt,tt,tt,tt,tt,tt,tt,ff,ff,ff,ff,tt,tt,ff,ff,ff,ff,ff,ff,ff,ff,ff] rfl rfl (take_ofW HT_.out HW_.out (by kernel_rfl)) (fun _ _ _ h => h) (Or.inl ⟨by rfl, ?_⟩) hHeld ?_ ?_
 rotate_left
 ·rintro w' ⟨s0, s1, s2⟩
  go_simp
  with_reducible rfl
 rotate_left
 ·simp only [Act.put, sQ0, sQ1, sQ2, i64_w]
  rfl
 refine one_ (i := 8) (N := (some 53)) #[tt,tt,tt,tt,tt,tt,tt,tt,tt,ff,ff,ff,tt,tt,ff,ff,ff,ff,ff,ff,ff,ff,ff] rfl rfl (one_of HT_.out (by kernel_rfl)) (by decide) (fun K hK => ?_)
 refine call_ (f := 68) #[.agg #[.int .i64 m.clk, .slice (some ⟨gg, 0, none⟩) m.L.length c], .agg #[.int .i64 e.hn, .int .i64 e.hg]] (by rfl) rfl (by go_simp <;> rfl) ?_
 refine (CFi.out w5 HJ.out.kr).mono ?_
 rintro r w6 ⟨rfl, hb⟩
 refine ⟨_, rfl, ?_⟩
 have HJ6 := Aside0.mk (HJ.out.step hb)
 have HA6 := Aside0.mk (pw_cell_below hb HAD.out)
 clear hb
 refine hK.out _ _ ⟨fun i => blk_cell HJ6.out.b i, fun i => blk_cell HJ6.out.e_ i, HA6.out⟩ (fun hHeld => ?_)
 clear hK K
 refine norm_ (a' := ?_) ?_ ?_
 rotate_left
 ·show Act.put _ (some 53) _ = _
  simp only [Act.put, sQ0, sQ1, sQ2, i64_w]
  rfl
 refine pure_ (i := 9) (N := (some 54)) (v := ?_) (a' := ?_) #[tt,tt,tt,tt,tt,tt,tt,tt,tt,tt,ff,ff,tt,tt,ff,ff,ff,ff,ff,ff,ff,ff,ff] rfl rfl (any_of HT_.out (by kernel_rfl)) (fun _ _ _ h => h) (Or.inl ⟨by rfl, ?_⟩) ?_ ?_
 rotate_left
 ·intro w'
  go_simp
  with_reducible rfl
 rotate_left
 ·simp only [Act.put, sQ0, sQ1, sQ2, i64_w]
  rfl
 refine pure_ (i := 10) (N := (some 55)) (v := ?_) (a' := ?_) #[tt,tt,tt,tt,tt,tt,tt,tt,tt,tt,tt,ff,tt,tt,ff,ff,ff,ff,ff,ff,ff,ff,ff] rfl rfl (any_of HT_.out (by kernel_rfl)) (fun _ _ _ h => h) (Or.inl ⟨by rfl, ?_⟩) ?_ ?_
 rotate_left
 ·intro w'
  go_simp
  with_reducible rfl
 rotate_left
 ·simp only [Act.put, sQ0, sQ1, sQ2, i64_w]
  rfl
 refine take_ (i := 11) (N := (some 56)) (v := ?_) (a' := ?_) #[tt,tt,tt,tt,tt,tt,tt,tt,tt,tt,tt,tt,tt,tt,ff,ff,ff,ff,ff,ff,ff,ff,ff] rfl rfl (take_ofW HT_.out HW_.out (by kernel_rfl)) (fun _ _ _ h => h) (Or.inl ⟨by rfl, ?_⟩) hHeld ?_ ?_
 rotate_left
 ·rintro w' ⟨s0, s1, s2⟩
  go_simp
  with_reducible rfl
 rotate_left
 ·simp only [Act.put, sQ0, sQ1, sQ2, i64_w]
  rfl
 refine pure_ (i := 14) (N := (some 59)) (v := ?_) (a' := ?_) #[tt,tt,tt,tt,tt,tt,tt,tt,tt,tt,tt,tt,tt,tt,tt,ff,ff,ff,ff,ff,ff,ff,ff] rfl rfl (any_of HT_.out (by kernel_rfl)) (fun _ _ _ h => h) (Or.inl ⟨by rfl, ?_⟩) ?_ ?_
 rotate_left
 ·intro w'
  go_simp
  with_reducible rfl
 rotate_left
 ·simp only [Act.put, sQ0, sQ1, sQ2, i64_w]
  rfl
 refine pure_ (i := 15) (N := (some 60)) (v := ?_) (a' := ?_) #[tt,tt,tt,tt,tt,tt,tt,tt,tt,tt,tt,tt,tt,tt,tt,tt,ff,ff,ff,ff,ff,ff,ff] rfl rfl (any_of HT_.out (by kernel_rfl)) (fun _ _ _ h => h) (Or.inl ⟨by rfl, ?_⟩) ?_ ?_
 rotate_left
 ·intro w'
  go_simp
  with_reducible rfl
 rotate_left
 ·simp only [Act.put, sQ0, sQ1, sQ2, i64_w]
  rfl
 refine pure_ (i := 16) (N := (some 61)) (v := ?_) (a' := ?_) #[tt,tt,tt,tt,tt,tt,tt,tt,tt,tt,tt,tt,tt,tt,tt,tt,tt,ff,ff,ff,ff,ff,ff] rfl rfl (any_of HT_.out (by kernel_rfl)) (fun _ _ _ h => h) (Or.inl ⟨by rfl, ?_⟩) ?_ ?_
 rotate_left
 ·intro w'
  go_simp
  with_reducible rfl
 rotate_left
 ·simp only [Act.put, sQ0, sQ1, sQ2, i64_w]
  rfl
 refine pure_ (i := 17) (N := (some 62)) (v := ?_) (a' := ?_) #[tt,tt,tt,tt,tt,tt,tt,tt,tt,tt,tt,tt,tt,tt,tt,tt,tt,tt,ff,ff,ff,ff,ff] rfl rfl (any_of HT_.out (by kernel_rfl)) (fun _ _ _ h => h) (Or.inl ⟨by rfl, ?_⟩) ?_ ?_
 rotate_left
 ·intro w'
  go_simp
  with_reducible rfl
 rotate_left
 ·simp only [Act.put, sQ0, sQ1, sQ2, i64_w]
  rfl
 refine pure_ (i := 19) (N := (some 64)) (v := ?_) (a' := ?_) #[tt,tt,tt,tt,tt,tt,tt,tt,tt,tt,tt,tt,tt,tt,tt,tt,tt,tt,ff,tt,ff,ff,ff] rfl rfl (any_of HT_.out (by kernel_rfl)) (fun _ _ _ h => h) (Or.inl ⟨by rfl, ?_⟩) ?_ ?_
 rotate_left
 ·intro w'
  go_simp
  with_reducible rfl
 rotate_left
 ·simp only [Act.put, sQ0, sQ1, sQ2, i64_w]
  rfl
 refine take_ (i := 18) (N := (some 63)) (v := ?_) (a' := ?_) #[tt,tt,tt,tt,tt,tt,tt,tt,tt,tt,tt,tt,tt,tt,tt,tt,tt,tt,tt,tt,ff,ff,ff] rfl rfl (take_ofW HT_.out HW_.out (by kernel_rfl)) (fun _ _ _ h => h) (Or.inl ⟨by rfl, ?_⟩) hHeld ?_ ?_
 rotate_left
 ·rintro w' ⟨s0, s1, s2⟩
  go_simp
  with_reducible rfl
 rotate_left
 ·simp only [Act.put, sQ0, sQ1, sQ2, i64_w]
  rfl
 refine take_ (i := 20) (N := (some 65)) (v := ?_) (a' := ?_) #[tt,tt,tt,tt,tt,tt,tt,tt,tt,tt,tt,tt,tt,tt,tt,tt,tt,tt,tt,tt,tt,ff,ff] rfl rfl (take_ofW HT_.out HW_.out (by kernel_rfl)) (fun _ _ _ h => h) (Or.inl ⟨by rfl, ?_⟩) hHeld ?_ ?_
 rotate_left
 ·rintro w' ⟨s0, s1, s2⟩
  go_simp
  with_reducible rfl
 rotate_left
 ·simp only [Act.put, sQ0, sQ1, sQ2, i64_w]
  rfl
 refine pure_ (i := 21) (N := (some 66)) (v := ?_) (a' := ?_) #[tt,tt,tt,tt,tt,tt,tt,tt,tt,tt,tt,tt,tt,tt,tt,tt,tt,tt,tt,tt,tt,tt,ff] rfl rfl (any_of HT_.out (by kernel_rfl)) (fun _ _ _ h => h) (Or.inl ⟨by rfl, ?_⟩) ?_ ?_
 rotate_left
 ·intro w'
  go_simp
  with_reducible rfl
 rotate_left
 ·simp only [Act.put, sQ0, sQ1, sQ2, i64_w]
  rfl
 refine pure_ (i := 22) (N := (some 67)) (v := ?_) (a' := ?_) #[tt,tt,tt,tt,tt,tt,tt,tt,tt,tt,tt,tt,tt,tt,tt,tt,tt,tt,tt,tt,tt,tt,tt] rfl rfl (any_of HT_.out (by kernel_rfl)) (fun _ _ _ h => h) (Or.inl ⟨by rfl, ?_⟩) ?_ ?_
 rotate_left
 ·intro w'
  go_simp
  with_reducible rfl
 rotate_left
 ·simp only [Act.put, sQ0, sQ1, sQ2, i64_w]
  rfl
 refine done_ (done_of HT_.out (by kernel_rfl)) ?_
 clear hHeld
 clear hlb hle hlr
 clear HJ
 have HJ := HJ6
 have hcb := fun i => blk_cell HJ.out.b i
 have hce := fun i => blk_cell HJ.out.e_ i
 have hlb := blk_lt HJ.out.b
 have hle := blk_lt HJ.out.e_
 have hlr := (by obtain ⟨_, _, q⟩ := HJ.out.r; exact blk_lt q : w.heap.size + 1 + 1 < _)
 go_upto_region 11 with (fail)
 obtain ⟨rs, hrs, hrr⟩ := HJ.out.r
 obtain ⟨x0, x1, rfl⟩ : ∃ x0 x1, rs = #[x0, x1] := by rcases rs with ⟨_ | ⟨x0, _ | ⟨x1, _ | _⟩⟩⟩ <;> simp at hrs; exact ⟨_, _, rfl⟩
 have hcr := fun i => blk_cell hrr i
 have hfr := fun i => blk_frozen hrr i
 clear hrs
 go_wp2
 have HE := Aside0.mk (show KR _ B (.slice (some ⟨gg, 0, none⟩) m.L.length c) m.L from KR.keep (KR.keep HJ.out.kr (W1 := World.setCell _ ⟨w.heap.size + 1 + 1, 0, none⟩ (.int .i64 m.clk)) fun g cs hg => Below.heap_setCell _ _ _ _ (types_ne hg hrr (by decide))) (W1 := World.setCell (World.setCell _ ⟨w.heap.size + 1 + 1, 0, none⟩ (.int .i64 m.clk)) ⟨w.heap.size + 1 + 1, 1, none⟩ (.slice (some ⟨gg, 0, none⟩) m.L.length c)) fun g cs hg => Below.heap_setCell _ _ _ _ (types_ne hg (blk_put hrr 0 _ rfl) (by decide)))
 have HBL := Aside0.mk (below_set (g := w.heap.size + 1 + 1) (j := 1) (v := .slice (some ⟨gg, 0, none⟩) m.L.length c) (below_set (g := w.heap.size + 1 + 1) (j := 0) (v := .int .i64 m.clk) HJ.out.below (by omega)) (by omega))
 unfold RdPost
 rw [HF.out]
 exact bodyPost_ret (v := .tuple #[.agg #[.int .i64 m.clk, .slice (some ⟨gg, 0, none⟩) m.L.length c], .int .i64 6]) (by simp [results, Try.results45, asAddr, go_sem, hu0, hcr, hlr]) rfl ⟨_, rfl, HE.out, HBL.out⟩
theorem rdo_fire {w : World} {B : Nat} (m : Rm) (v : Value) (e : Au.Ev) (hn : m.L.length ≤ 90000) (nd : (m.L.map S127.h).Nodup) (hB : B ≤ w.heap.size) (h : KR w B v m.L) (hr : rightJ e = true) (hk : e.k = 4) (ha : statR m.L e.h = 1) (hd : dlR m.L e.h ≤ e.t) (hc : e.t ≤ m.clk) :
  Calls Try.prog 45 #[.agg #[.int .i64 m.clk, v], .agg (evA e)] w (RdPost B w (rdoF m e)) := by
 have hu0 := Try.underlying43
 have hu1 := Try.underlying36
 have hu2 := Try.underlying50
 have hu3 := Try.underlying127
 have HF := Aside0.mk (show rdoF m e = ({ m with L := turnR m.L e.h 2 }, 0) by unfold rdoF; rw [if_neg (by rw [hr]; simp; omega), if_neg (by omega), if_pos hk, if_pos ⟨ha, hd, hc⟩])
 have qk1 : (e.k == 1) = false := beq_eq_false_iff_ne.2 (by omega)
 have qk2 : (e.k == 2) = false := beq_eq_false_iff_ne.2 (by omega)
 have qk4 : (e.k == 4) = true := beq_iff_eq.2 (hk)
 have qk5 : (e.k == 5) = false := beq_eq_false_iff_ne.2 (by omega)
 have qs : (statR m.L e.h == 1) = true := beq_iff_eq.2 (ha)
 have f1 : decide (dlR m.L e.h > e.t) = false := decide_eq_false (by omega)
 have f2 : decide (e.t > m.clk) = false := decide_eq_false (by omega)
 obtain ⟨A, c, rfl⟩ := Kd.R_slice h
 have CR := Aside0.mk (fun W => rright_run e W)
 have CS : Aside0 (∀ W, KR W B (.slice A m.L.length c) m.L → Calls Try.prog 35 #[.agg #[.int .i64 m.clk, .slice A m.L.length c], .agg #[.int .i64 e.hn, .int .i64 e.hg]] W fun r w' => r = .returned (.int .i64 (statR m.L e.h)) ∧ Below W.heap.size W w') := ⟨fun W hW => stat_calls hW (by omega) e.hn e.hg⟩
 have HN := Aside0.mk hn
 have HND := Aside0.mk nd
 have HB := Aside0.mk hB
 have HJ := Aside0.mk (Rj.start h m.clk e)
 rw [hr] at CR
 have CFi : Aside0 (∀ W, KR W B (.slice A m.L.length c) m.L → Calls Try.prog 68 #[.agg #[.int .i64 m.clk, .slice A m.L.length c], .agg #[.int .i64 e.hn, .int .i64 e.hg]] W fun r w' => r = .returned (.int .i64 (findR m.L e.h)) ∧ Below W.heap.size W w') := ⟨fun W hW => find_calls hW (by omega) e.hn e.hg⟩
 obtain ⟨fi, hfi, hfr0, hfx⟩ := find_ex ha
 rw [hfr0] at CFi
 obtain ⟨gg, rfl, hgl, hgc⟩ := row_dl h fi hfi
 have HGC := Aside0.mk hgc
 have HGL := Aside0.mk hgl
 have p0 := eq_true (show (0 : Int) ≤ (fi : Int) by omega)
 have p1 := eq_true (show (fi : Int) < (m.L.length : Int) by omega)
 clear hgc hgl hfr0
 rw [hfx] at HGC
 obtain ⟨dl, hdl⟩ : ∃ d, dlR m.L e.h = d := ⟨_, rfl⟩
 rw [hdl] at HGC
 try rw [hdl] at f1
 clear hdl hfx
 have CT : Aside0 (∀ W, Rj B w W m.clk (.slice (some ⟨gg, 0, none⟩) m.L.length c) m.L e → Calls Try.prog 79 #[.agg #[.int .i64 m.clk, .slice (some ⟨gg, 0, none⟩) m.L.length c], .agg #[.int .i64 e.hn, .int .i64 e.hg], .int .i64 2] W fun r w' => ∃ A1 c1, r = .returned (.agg #[.int .i64 m.clk, .slice A1 (turnR m.L e.h 2).length c1]) ∧ KR w' B (.slice A1 (turnR m.L e.h 2).length c1) (turnR m.L e.h 2) ∧ Below W.heap.size W w') := ⟨fun W hW => turn_calls hW.kr (by have := hW.below.size; omega) (by omega) e.hn e.hg 2 nd (stat_ex ha)⟩
 clear hn nd hB h hr hk ha hd hc
 have hcb := fun i => blk_cell HJ.out.b i
 have hce := fun i => blk_cell HJ.out.e_ i
 have hlb := blk_lt HJ.out.b
 have hle := blk_lt HJ.out.e_
 have hlr := (by obtain ⟨_, _, q⟩ := HJ.out.r; exact blk_lt q : w.heap.size + 1 + 1 < _)
 obtain ⟨sv, hsv⟩ : ∃ sv, statR m.L e.h = sv := ⟨_, rfl⟩
 try rw [hsv] at CS
 try rw [hsv] at qs
 clear hsv
 go_enter Try.func45, Try.ntmps45
 go_upto_region 10 with (first | (go_at_call 62; (with_reducible refine (CR.out _).mono ?_); rintro r w2 ⟨rfl, hb⟩; have HJ2 := Aside0.mk (HJ.out.step hb); clear hb hcb hce hlb hle hlr HJ; have HJ := HJ2; clear HJ2; have hcb := fun i => blk_cell HJ.out.b i; have hce := fun i => blk_cell HJ.out.e_ i; have hlb := blk_lt HJ.out.b; have hle := blk_lt HJ.out.e_; have hlr := (by obtain ⟨_, _, q⟩ := HJ.out.r; exact blk_lt q : w.heap.size + 1 + 1 < _)) | (go_at_call 35; (with_reducible refine (CS.out _ HJ.out.kr).mono ?_); rintro r w3 ⟨rfl, hb⟩; have HJ2 := Aside0.mk (HJ.out.step hb); clear hb hcb hce hlb hle hlr HJ; have HJ := HJ2; clear HJ2; have hcb := fun i => blk_cell HJ.out.b i; have hce := fun i => blk_cell HJ.out.e_ i; have hlb := blk_lt HJ.out.b; have hle := blk_lt HJ.out.e_; have hlr := (by obtain ⟨_, _, q⟩ := HJ.out.r; exact blk_lt q : w.heap.size + 1 + 1 < _)))
 refine gen_world' (fun W => Rj B w W m.clk (.slice (some ⟨gg, 0, none⟩) m.L.length c) m.L e) (by exact HJ.out) fun w4 Hw4 => ?_
 have HJw4 := Aside0.mk Hw4
 clear Hw4 HJ
 clear hcb hce hlb hle hlr
 have hdc := pw_cell_below (below_drew HJw4.out.below) HGC.out
 refine start_ (n := 23) (S := (fun w' => (∀ i, w'.cell? ⟨w.heap.size, i, none⟩ = (#[.int .i64 m.clk, .slice (some ⟨gg, 0, none⟩) m.L.length c] : Array Value)[i]?) ∧ (∀ i, w'.cell? ⟨w.heap.size + 1, i, none⟩ = (evA e)[i]?) ∧ w'.cell? ⟨gg, fi * 4 + 3, none⟩ = some (.int .i64 dl))) (ds := []) #[ff,ff,ff,ff,ff,ff,ff,ff,ff,ff,ff,ff,ff,ff,ff,ff,ff,ff,ff,ff,ff,ff,ff] (by kernel_rfl) rfl rfl ⟨fun i => blk_cell HJw4.out.drew.b i, fun i => blk_cell HJw4.out.drew.e_ i, hdc⟩ (fun hHeld => ?_)
 refine with_tabW rdR.tab10 rdR.bits10 (fun HT_ HW_ => ?_)
 have HJ := Aside0.mk HJw4.out.drew
 have HAD := Aside0.mk (show w4.drew.cell? ⟨gg, fi * 4 + 3, none⟩ = some (.int .i64 dl) from hdc)
 generalize w4.drew = w5 at HJ hHeld HAD ⊢
 have hlb := blk_lt HJ.out.b
 have hle := blk_lt HJ.out.e_
 have hlr := (by obtain ⟨_, _, q⟩ := HJ.out.r; exact blk_lt q : w.heap.size + 1 + 1 < _)
 refine pure_ (i := 0) (N := (some 45)) (v := ?_) (a' := ?_) #[tt,ff,ff,ff,ff,ff,ff,ff,ff,ff,ff,ff,ff,ff,ff,ff,ff,ff,ff,ff,ff,ff,ff] rfl rfl (any_of HT_.out (by kernel_rfl)) (fun _ _ _ h => h) (Or.inl ⟨by rfl, ?_⟩) ?_ ?_
 rotate_left
 ·intro w'
  go_simp
  with_reducible rfl
 rotate_left
 ·simp only [Act.put, sQ0, sQ1, sQ2, i64_w]
  rfl
 refine pure_ (i := 1) (N := (some 46)) (v := ?_) (a' := ?_) #[tt,tt,ff,ff,ff,ff,ff,ff,ff,ff,ff,ff,ff,ff,ff,ff,ff,ff,ff,ff,ff,ff,ff] rfl rfl (any_of HT_.out (by kernel_rfl)) (fun _ _ _ h => h) (Or.inl ⟨by rfl, ?_⟩) ?_ ?_
 rotate_left
 ·intro w'
  go_simp
  with_reducible rfl
 rotate_left
 ·simp only [Act.put, sQ0, sQ1, sQ2, i64_w]
  rfl
 refine pure_ (i := 2) (N := (some 47)) (v := ?_) (a' := ?_) #[tt,tt,tt,ff,ff,ff,ff,ff,ff,ff,ff,ff,ff,ff,ff,ff,ff,ff,ff,ff,ff,ff,ff] rfl rfl (any_of HT_.out (by kernel_rfl)) (fun _ _ _ h => h) (Or.inl ⟨by rfl, ?_⟩) ?_ ?_
 rotate_left
 ·intro w'
  go_simp
  with_reducible rfl
 rotate_left
 ·simp only [Act.put, sQ0, sQ1, sQ2, i64_w]
  rfl
 refine pure_ (i := 3) (N := (some 48)) (v := ?_) (a' := ?_) #[tt,tt,tt,tt,ff,ff,ff,ff,ff,ff,ff,ff,ff,ff,ff,ff,ff,ff,ff,ff,ff,ff,ff] rfl rfl (any_of HT_.out (by kernel_rfl)) (fun _ _ _ h => h) (Or.inl ⟨by rfl, ?_⟩) ?_ ?_
 rotate_left
 ·intro w'
  go_simp
  with_reducible rfl
 rotate_left
 ·simp only [Act.put, sQ0, sQ1, sQ2, i64_w]
  rfl
 refine pure_ (i := 6) (N := (some 51)) (v := ?_) (a' := ?_) #[tt,tt,tt,tt,ff,ff,tt,ff,ff,ff,ff,ff,ff,ff,ff,ff,ff,ff,ff,ff,ff,ff,ff] rfl rfl (any_of HT_.out (by kernel_rfl)) (fun _ _ _ h => h) (Or.inl ⟨by rfl, ?_⟩) ?_ ?_
 rotate_left
 ·intro w'
  go_simp
  with_reducible rfl
 rotate_left
 ·simp only [Act.put, sQ0, sQ1, sQ2, i64_w]
  rfl
 refine pure_ (i := 12) (N := (some 57)) (v := ?_) (a' := ?_) #[tt,tt,tt,tt,ff,ff,tt,ff,ff,ff,ff,ff,tt,ff,ff,ff,ff,ff,ff,ff,ff,ff,ff] rfl rfl (any_of HT_.out (by kernel_rfl)) (fun _ _ _ h => h) (Or.inl ⟨by rfl, ?_⟩) ?_ ?_
 rotate_left
 ·intro w'
  go_simp
  with_reducible rfl
 rotate_left
 ·simp only [Act.put, sQ0, sQ1, sQ2, i64_w]
  rfl
 refine take_ (i := 4) (N := (some 49)) (v := ?_) (a' := ?_) #[tt,tt,tt,tt,tt,ff,tt,ff,ff,ff,ff,ff,tt,ff,ff,ff,ff,ff,ff,ff,ff,ff,ff] rfl rfl (take_ofW HT_.out HW_.out (by kernel_rfl)) (fun _ _ _ h => h) (Or.inl ⟨by rfl, ?_⟩) hHeld ?_ ?_
 rotate_left
 ·rintro w' ⟨s0, s1, s2⟩
  go_simp
  with_reducible rfl
 rotate_left
 ·simp only [Act.put, sQ0, sQ1, sQ2, i64_w]
  rfl
 refine take_ (i := 5) (N := (some 50)) (v := ?_) (a' := ?_) #[tt,tt,tt,tt,tt,tt,tt,ff,ff,ff,ff,ff,tt,ff,ff,ff,ff,ff,ff,ff,ff,ff,ff] rfl rfl (take_ofW HT_.out HW_.out (by kernel_rfl)) (fun _ _ _ h => h) (Or.inl ⟨by rfl, ?_⟩) hHeld ?_ ?_
 rotate_left
 ·rintro w' ⟨s0, s1, s2⟩
  go_simp
  with_reducible rfl
 rotate_left
 ·simp only [Act.put, sQ0, sQ1, sQ2, i64_w]
  rfl
 refine take_ (i := 7) (N := (some 52)) (v := ?_) (a' := ?_) #[tt,tt,tt,tt,tt,tt,tt,tt,ff,ff,ff,ff,tt,ff,ff,ff,ff,ff,ff,ff,ff,ff,ff] rfl rfl (take_ofW HT_.out HW_.out (by kernel_rfl)) (fun _ _ _ h => h) (Or.inl ⟨by rfl, ?_⟩) hHeld ?_ ?_
 rotate_left
 ·rintro w' ⟨s0, s1, s2⟩
  go_simp
  with_reducible rfl
 rotate_left
 ·simp only [Act.put, sQ0, sQ1, sQ2, i64_w]
  rfl
 refine take_ (i := 13) (N := (some 58)) (v := ?_) (a' := ?_) #[tt,tt,tt,tt,tt,tt,tt,tt,ff,ff,ff,ff,tt,tt,ff,ff,ff,ff,ff,ff,ff,ff,ff] rfl rfl (take_ofW HT_.out HW_.out (by kernel_rfl)) (fun _ _ _ h => h) (Or.inl ⟨by rfl, ?_⟩) hHeld ?_ ?_
 rotate_left
 ·rintro w' ⟨s0, s1, s2⟩
  go_simp
  with_reducible rfl
 rotate_left
 ·simp only [Act.put, sQ0, sQ1, sQ2, i64_w]
  rfl
 refine one_ (i := 8) (N := (some 53)) #[tt,tt,tt,tt,tt,tt,tt,tt,tt,ff,ff,ff,tt,tt,ff,ff,ff,ff,ff,ff,ff,ff,ff] rfl rfl (one_of HT_.out (by kernel_rfl)) (by decide) (fun K hK => ?_)
 refine call_ (f := 68) #[.agg #[.int .i64 m.clk, .slice (some ⟨gg, 0, none⟩) m.L.length c], .agg #[.int .i64 e.hn, .int .i64 e.hg]] (by rfl) rfl (by go_simp <;> rfl) ?_
 refine (CFi.out w5 HJ.out.kr).mono ?_
 rintro r w6 ⟨rfl, hb⟩
 refine ⟨_, rfl, ?_⟩
 have HJ6 := Aside0.mk (HJ.out.step hb)
 have HA6 := Aside0.mk (pw_cell_below hb HAD.out)
 clear hb
 refine hK.out _ _ ⟨fun i => blk_cell HJ6.out.b i, fun i => blk_cell HJ6.out.e_ i, HA6.out⟩ (fun hHeld => ?_)
 clear hK K
 refine norm_ (a' := ?_) ?_ ?_
 rotate_left
 ·show Act.put _ (some 53) _ = _
  simp only [Act.put, sQ0, sQ1, sQ2, i64_w]
  rfl
 refine pure_ (i := 9) (N := (some 54)) (v := ?_) (a' := ?_) #[tt,tt,tt,tt,tt,tt,tt,tt,tt,tt,ff,ff,tt,tt,ff,ff,ff,ff,ff,ff,ff,ff,ff] rfl rfl (any_of HT_.out (by kernel_rfl)) (fun _ _ _ h => h) (Or.inl ⟨by rfl, ?_⟩) ?_ ?_
 rotate_left
 ·intro w'
  go_simp
  with_reducible rfl
 rotate_left
 ·simp only [Act.put, sQ0, sQ1, sQ2, i64_w]
  rfl
 refine pure_ (i := 10) (N := (some 55)) (v := ?_) (a' := ?_) #[tt,tt,tt,tt,tt,tt,tt,tt,tt,tt,tt,ff,tt,tt,ff,ff,ff,ff,ff,ff,ff,ff,ff] rfl rfl (any_of HT_.out (by kernel_rfl)) (fun _ _ _ h => h) (Or.inl ⟨by rfl, ?_⟩) ?_ ?_
 rotate_left
 ·intro w'
  go_simp
  with_reducible rfl
 rotate_left
 ·simp only [Act.put, sQ0, sQ1, sQ2, i64_w]
  rfl
 refine take_ (i := 11) (N := (some 56)) (v := ?_) (a' := ?_) #[tt,tt,tt,tt,tt,tt,tt,tt,tt,tt,tt,tt,tt,tt,ff,ff,ff,ff,ff,ff,ff,ff,ff] rfl rfl (take_ofW HT_.out HW_.out (by kernel_rfl)) (fun _ _ _ h => h) (Or.inl ⟨by rfl, ?_⟩) hHeld ?_ ?_
 rotate_left
 ·rintro w' ⟨s0, s1, s2⟩
  go_simp
  with_reducible rfl
 rotate_left
 ·simp only [Act.put, sQ0, sQ1, sQ2, i64_w]
  rfl
 refine pure_ (i := 14) (N := (some 59)) (v := ?_) (a' := ?_) #[tt,tt,tt,tt,tt,tt,tt,tt,tt,tt,tt,tt,tt,tt,tt,ff,ff,ff,ff,ff,ff,ff,ff] rfl rfl (any_of HT_.out (by kernel_rfl)) (fun _ _ _ h => h) (Or.inl ⟨by rfl, ?_⟩) ?_ ?_
 rotate_left
 ·intro w'
  go_simp
  with_reducible rfl
 rotate_left
 ·simp only [Act.put, sQ0, sQ1, sQ2, i64_w]
  rfl
 refine pure_ (i := 15) (N := (some 60)) (v := ?_) (a' := ?_) #[tt,tt,tt,tt,tt,tt,tt,tt,tt,tt,tt,tt,tt,tt,tt,tt,ff,ff,ff,ff,ff,ff,ff] rfl rfl (any_of HT_.out (by kernel_rfl)) (fun _ _ _ h => h) (Or.inl ⟨by rfl, ?_⟩) ?_ ?_
 rotate_left
 ·intro w'
  go_simp
  with_reducible rfl
 rotate_left
 ·simp only [Act.put, sQ0, sQ1, sQ2, i64_w]
  rfl
 refine pure_ (i := 16) (N := (some 61)) (v := ?_) (a' := ?_) #[tt,tt,tt,tt,tt,tt,tt,tt,tt,tt,tt,tt,tt,tt,tt,tt,tt,ff,ff,ff,ff,ff,ff] rfl rfl (any_of HT_.out (by kernel_rfl)) (fun _ _ _ h => h) (Or.inl ⟨by rfl, ?_⟩) ?_ ?_
 rotate_left
 ·intro w'
  go_simp
  with_reducible rfl
 rotate_left
 ·simp only [Act.put, sQ0, sQ1, sQ2, i64_w]
  rfl
 refine pure_ (i := 17) (N := (some 62)) (v := ?_) (a' := ?_) #[tt,tt,tt,tt,tt,tt,tt,tt,tt,tt,tt,tt,tt,tt,tt,tt,tt,tt,ff,ff,ff,ff,ff] rfl rfl (any_of HT_.out (by kernel_rfl)) (fun _ _ _ h => h) (Or.inl ⟨by rfl, ?_⟩) ?_ ?_
 rotate_left
 ·intro w'
  go_simp
  with_reducible rfl
 rotate_left
 ·simp only [Act.put, sQ0, sQ1, sQ2, i64_w]
  rfl
 refine pure_ (i := 19) (N := (some 64)) (v := ?_) (a' := ?_) #[tt,tt,tt,tt,tt,tt,tt,tt,tt,tt,tt,tt,tt,tt,tt,tt,tt,tt,ff,tt,ff,ff,ff] rfl rfl (any_of HT_.out (by kernel_rfl)) (fun _ _ _ h => h) (Or.inl ⟨by rfl, ?_⟩) ?_ ?_
 rotate_left
 ·intro w'
  go_simp
  with_reducible rfl
 rotate_left
 ·simp only [Act.put, sQ0, sQ1, sQ2, i64_w]
  rfl
 refine take_ (i := 18) (N := (some 63)) (v := ?_) (a' := ?_) #[tt,tt,tt,tt,tt,tt,tt,tt,tt,tt,tt,tt,tt,tt,tt,tt,tt,tt,tt,tt,ff,ff,ff] rfl rfl (take_ofW HT_.out HW_.out (by kernel_rfl)) (fun _ _ _ h => h) (Or.inl ⟨by rfl, ?_⟩) hHeld ?_ ?_
 rotate_left
 ·rintro w' ⟨s0, s1, s2⟩
  go_simp
  with_reducible rfl
 rotate_left
 ·simp only [Act.put, sQ0, sQ1, sQ2, i64_w]
  rfl
 refine take_ (i := 20) (N := (some 65)) (v := ?_) (a' := ?_) #[tt,tt,tt,tt,tt,tt,tt,tt,tt,tt,tt,tt,tt,tt,tt,tt,tt,tt,tt,tt,tt,ff,ff] rfl rfl (take_ofW HT_.out HW_.out (by kernel_rfl)) (fun _ _ _ h => h) (Or.inl ⟨by rfl, ?_⟩) hHeld ?_ ?_
 rotate_left
 ·rintro w' ⟨s0, s1, s2⟩
  go_simp
  with_reducible rfl
 rotate_left
 ·simp only [Act.put, sQ0, sQ1, sQ2, i64_w]
  rfl
 refine pure_ (i := 21) (N := (some 66)) (v := ?_) (a' := ?_) #[tt,tt,tt,tt,tt,tt,tt,tt,tt,tt,tt,tt,tt,tt,tt,tt,tt,tt,tt,tt,tt,tt,ff] rfl rfl (any_of HT_.out (by kernel_rfl)) (fun _ _ _ h => h) (Or.inl ⟨by rfl, ?_⟩) ?_ ?_
 rotate_left
 ·intro w'
  go_simp
  with_reducible rfl
 rotate_left
 ·simp only [Act.put, sQ0, sQ1, sQ2, i64_w]
  rfl
 refine pure_ (i := 22) (N := (some 67)) (v := ?_) (a' := ?_) #[tt,tt,tt,tt,tt,tt,tt,tt,tt,tt,tt,tt,tt,tt,tt,tt,tt,tt,tt,tt,tt,tt,tt] rfl rfl (any_of HT_.out (by kernel_rfl)) (fun _ _ _ h => h) (Or.inl ⟨by rfl, ?_⟩) ?_ ?_
 rotate_left
 ·intro w'
  go_simp
  with_reducible rfl
 rotate_left
 ·simp only [Act.put, sQ0, sQ1, sQ2, i64_w]
  rfl
 refine done_ (done_of HT_.out (by kernel_rfl)) ?_
 clear hHeld
 clear hlb hle hlr
 clear HJ
 have HJ := HJ6
 have hcb := fun i => blk_cell HJ.out.b i
 have hce := fun i => blk_cell HJ.out.e_ i
 have hlb := blk_lt HJ.out.b
 have hle := blk_lt HJ.out.e_
 have hlr := (by obtain ⟨_, _, q⟩ := HJ.out.r; exact blk_lt q : w.heap.size + 1 + 1 < _)
 have LT := Aside0.mk True.intro
 go_wp2_with (first | (go_at_call 79; (with_reducible refine (CT.out _ HJ.out).mono ?_); rintro r w7 ⟨A1, c1, rfl, hk1, hb⟩; have HK1 := Aside0.mk hk1; have HJ7 := Aside0.mk (HJ.out.step hb); clear hb hk1 hcb hce hlb hle hlr; have hcb := fun i => blk_cell HJ7.out.b i; have hce := fun i => blk_cell HJ7.out.e_ i; have hlb := blk_lt HJ7.out.b; have hle := blk_lt HJ7.out.e_; have hlr := (by obtain ⟨_, _, q⟩ := HJ7.out.r; exact blk_lt q : w.heap.size + 1 + 1 < _); obtain ⟨rs, hrs, hrr⟩ := HJ7.out.r; obtain ⟨x0, x1, rfl⟩ : ∃ x0 x1, rs = #[x0, x1] := (by rcases rs with ⟨_ | ⟨x0, _ | ⟨x1, _ | _⟩⟩⟩ <;> simp at hrs; exact ⟨_, _, rfl⟩); have hcr := fun i => blk_cell hrr i; have hfr := fun i => blk_frozen hrr i; clear hrs))
 have HE := Aside0.mk (show KR _ B (.slice A1 (turnR m.L e.h 2).length c1) (turnR m.L e.h 2) from KR.keep (KR.keep HK1.out (W1 := World.setCell _ ⟨w.heap.size + 1 + 1, 0, none⟩ (.int .i64 m.clk)) fun g cs hg => Below.heap_setCell _ _ _ _ (types_ne hg hrr (by decide))) (W1 := World.setCell (World.setCell _ ⟨w.heap.size + 1 + 1, 0, none⟩ (.int .i64 m.clk)) ⟨w.heap.size + 1 + 1, 1, none⟩ (.slice A1 (turnR m.L e.h 2).length c1)) fun g cs hg => Below.heap_setCell _ _ _ _ (types_ne hg (blk_put hrr 0 _ rfl) (by decide)))
 have HBL := Aside0.mk (below_set (g := w.heap.size + 1 + 1) (j := 1) (v := .slice A1 (turnR m.L e.h 2).length c1) (below_set (g := w.heap.size + 1 + 1) (j := 0) (v := .int .i64 m.clk) HJ7.out.below (by omega)) (by omega))
 unfold RdPost
 rw [HF.out]
 exact bodyPost_ret (v := .tuple #[.agg #[.int .i64 m.clk, .slice A1 (turnR m.L e.h 2).length c1], .int .i64 0]) (by simp [results, Try.results45, asAddr, go_sem, hu0, hcr, hlr]) rfl ⟨_, rfl, HE.out, HBL.out⟩
theorem rdo_start_err {w : World} {B : Nat} (m : Rm) (v : Value) (e : Au.Ev) (hn : m.L.length ≤ 90000) (nd : (m.L.map S127.h).Nodup) (hB : B ≤ w.heap.size) (h : KR w B v m.L) (hr : rightJ e = true) (hk : e.k = 3) (ho : e.op = 1) (he : ¬ e.er = 0) :
  Calls Try.prog 45 #[.agg #[.int .i64 m.clk, v], .agg (evA e)] w (RdPost B w (rdoF m e)) := by
 have hu0 := Try.underlying43
 have hu1 := Try.underlying36
 have hu2 := Try.underlying50
 have hu3 := Try.underlying127
 have HF := Aside0.mk (show rdoF m e = (m, 0) by unfold rdoF; rw [if_neg (by rw [hr]; simp; omega), if_neg (by omega), if_neg (by omega)]; unfold rpF; rw [if_pos ho, if_neg he])
 have qk1 : (e.k == 1) = false := beq_eq_false_iff_ne.2 (by omega)
 have qk2 : (e.k == 2) = false := beq_eq_false_iff_ne.2 (by omega)
 have qk4 : (e.k == 4) = false := beq_eq_false_iff_ne.2 (by omega)
 have qk5 : (e.k == 5) = false := beq_eq_false_iff_ne.2 (by omega)
 have qp1 : (e.op == 1) = true := beq_iff_eq.2 (ho)
 have qp2 : (e.op == 2) = false := beq_eq_false_iff_ne.2 (by omega)
 have qp3 : (e.op == 3) = false := beq_eq_false_iff_ne.2 (by omega)
 have qp4 : (e.op == 4) = false := beq_eq_false_iff_ne.2 (by omega)
 have qr0 : (e.er == 0) = false := beq_eq_false_iff_ne.2 (he)
 obtain ⟨A, c, rfl⟩ := Kd.R_slice h
 have CR := Aside0.mk (fun W => rright_run e W)
 have CS : Aside0 (∀ W, KR W B (.slice A m.L.length c) m.L → Calls Try.prog 35 #[.agg #[.int .i64 m.clk, .slice A m.L.length c], .agg #[.int .i64 e.hn, .int .i64 e.hg]] W fun r w' => r = .returned (.int .i64 (statR m.L e.h)) ∧ Below W.heap.size W w') := ⟨fun W hW => stat_calls hW (by omega) e.hn e.hg⟩
 have HN := Aside0.mk hn
 have HND := Aside0.mk nd
 have HB := Aside0.mk hB
 have HJ := Aside0.mk (Rj.start h m.clk e)
 rw [hr] at CR
 clear hn nd hB h hr hk ho he
 have hcb := fun i => blk_cell HJ.out.b i
 have hce := fun i => blk_cell HJ.out.e_ i
 have hlb := blk_lt HJ.out.b
 have hle := blk_lt HJ.out.e_
 have hlr := (by obtain ⟨_, _, q⟩ := HJ.out.r; exact blk_lt q : w.heap.size + 1 + 1 < _)
 obtain ⟨sv, hsv⟩ : ∃ sv, statR m.L e.h = sv := ⟨_, rfl⟩
 try rw [hsv] at CS
 try rw [hsv] at qs
 clear hsv
 go_enter Try.func45, Try.ntmps45
 go_upto_region 14 with (first | (go_at_call 62; (with_reducible refine (CR.out _).mono ?_); rintro r w2 ⟨rfl, hb⟩; have HJ2 := Aside0.mk (HJ.out.step hb); clear hb hcb hce hlb hle hlr HJ; have HJ := HJ2; clear HJ2; have hcb := fun i => blk_cell HJ.out.b i; have hce := fun i => blk_cell HJ.out.e_ i; have hlb := blk_lt HJ.out.b; have hle := blk_lt HJ.out.e_; have hlr := (by obtain ⟨_, _, q⟩ := HJ.out.r; exact blk_lt q : w.heap.size + 1 + 1 < _)) | (go_at_call 35; (with_reducible refine (CS.out _ HJ.out.kr).mono ?_); rintro r w3 ⟨rfl, hb⟩; have HJ2 := Aside0.mk (HJ.out.step hb); clear hb hcb hce hlb hle hlr HJ; have HJ := HJ2; clear HJ2; have hcb := fun i => blk_cell HJ.out.b i; have hce := fun i => blk_cell HJ.out.e_ i; have hlb := blk_lt HJ.out.b; have hle := blk_lt HJ.out.e_; have hlr := (by obtain ⟨_, _, q⟩ := HJ.out.r; exact blk_lt q : w.heap.size + 1 + 1 < _)))
 go_upto_region 15 with (fail)
 obtain ⟨nb, hnb⟩ : ∃ nb, w3.heap.size = nb := ⟨_, rfl⟩
 refine gen_world' (fun W => Nj B w W m.clk (.slice A m.L.length c) m.L e nb (.slice A m.L.length c) m.L) (by rw [← hnb]; exact Nj.start HJ.out) fun w4 H4 => ?_
 have HN4 := Aside0.mk H4
 have HJ4 := Aside0.mk H4.rj
 clear H4 HJ
 clear hcb hce hlb hle hlr
 have hcb := fun i => blk_cell HJ4.out.b i
 have hce := fun i => blk_cell HJ4.out.e_ i
 have hlb := blk_lt HJ4.out.b
 have hle := blk_lt HJ4.out.e_
 have hlr := (by obtain ⟨_, _, q⟩ := HJ4.out.r; exact blk_lt q : w.heap.size + 1 + 1 < _)
 have hcn := fun i => blk_cell HN4.out.nb_ i
 have hln := blk_lt HN4.out.nb_
 have hfn := fun i => blk_frozen HN4.out.nb_ i
 go_upto_region 38 with (fail)
 obtain ⟨rs, hrs, hrr⟩ := HN4.out.rj.r
 obtain ⟨x0, x1, rfl⟩ : ∃ x0 x1, rs = #[x0, x1] := by rcases rs with ⟨_ | ⟨x0, _ | ⟨x1, _ | _⟩⟩⟩ <;> simp at hrs; exact ⟨_, _, rfl⟩
 have hcr := fun i => blk_cell hrr i
 have hfr := fun i => blk_frozen hrr i
 clear hrs
 go_wp2
 have HE := Aside0.mk (show KR _ B (.slice A m.L.length c) m.L from KR.keep (KR.keep HN4.out.kn (W1 := World.setCell _ ⟨w.heap.size + 1 + 1, 0, none⟩ (.int .i64 m.clk)) fun g cs hg => Below.heap_setCell _ _ _ _ (types_ne hg hrr (by decide))) (W1 := World.setCell (World.setCell _ ⟨w.heap.size + 1 + 1, 0, none⟩ (.int .i64 m.clk)) ⟨w.heap.size + 1 + 1, 1, none⟩ (.slice A m.L.length c)) fun g cs hg => Below.heap_setCell _ _ _ _ (types_ne hg (blk_put hrr 0 _ rfl) (by decide)))
 have HBL := Aside0.mk (below_set (g := w.heap.size + 1 + 1) (j := 1) (v := .slice A m.L.length c) (below_set (g := w.heap.size + 1 + 1) (j := 0) (v := .int .i64 m.clk) HN4.out.rj.below (by omega)) (by omega))
 unfold RdPost
 rw [HF.out]
 exact bodyPost_ret (v := .tuple #[.agg #[.int .i64 m.clk, .slice A m.L.length c], .int .i64 0]) (by simp [results, Try.results45, asAddr, go_sem, hu0, hcr, hlr]) rfl ⟨_, rfl, HE.out, HBL.out⟩
theorem rdo_rearm_else {w : World} {B : Nat} (m : Rm) (v : Value) (e : Au.Ev) (hn : m.L.length ≤ 90000) (nd : (m.L.map S127.h).Nodup) (hB : B ≤ w.heap.size) (h : KR w B v m.L) (hr : rightJ e = true) (hk : e.k = 3) (ho : e.op = 3) (he : ¬ e.er = 0) (he4 : ¬ e.er = 4) :
  Calls Try.prog 45 #[.agg #[.int .i64 m.clk, v], .agg (evA e)] w (RdPost B w (rdoF m e)) := by
 have hu0 := Try.underlying43
 have hu1 := Try.underlying36
 have hu2 := Try.underlying50
 have hu3 := Try.underlying127
 have HF := Aside0.mk (show rdoF m e = (m, 0) by unfold rdoF; rw [if_neg (by rw [hr]; simp; omega), if_neg (by omega), if_neg (by omega)]; unfold rpF; rw [if_neg (by omega), if_neg (by omega), if_pos ho, if_neg he4, if_neg he])
 have qk1 : (e.k == 1) = false := beq_eq_false_iff_ne.2 (by omega)
 have qk2 : (e.k == 2) = false := beq_eq_false_iff_ne.2 (by omega)
 have qk4 : (e.k == 4) = false := beq_eq_false_iff_ne.2 (by omega)
 have qk5 : (e.k == 5) = false := beq_eq_false_iff_ne.2 (by omega)
 have qp1 : (e.op == 1) = false := beq_eq_false_iff_ne.2 (by omega)
 have qp2 : (e.op == 2) = false := beq_eq_false_iff_ne.2 (by omega)
 have qp3 : (e.op == 3) = true := beq_iff_eq.2 (ho)
 have qp4 : (e.op == 4) = false := beq_eq_false_iff_ne.2 (by omega)
 have qr0 : (e.er == 0) = false := beq_eq_false_iff_ne.2 (he)
 have qr4 : (e.er == 4) = false := beq_eq_false_iff_ne.2 (he4)
 obtain ⟨A, c, rfl⟩ := Kd.R_slice h
 have CR := Aside0.mk (fun W => rright_run e W)
 have CS : Aside0 (∀ W, KR W B (.slice A m.L.length c) m.L → Calls Try.prog 35 #[.agg #[.int .i64 m.clk, .slice A m.L.length c], .agg #[.int .i64 e.hn, .int .i64 e.hg]] W fun r w' => r = .returned (.int .i64 (statR m.L e.h)) ∧ Below W.heap.size W w') := ⟨fun W hW => stat_calls hW (by omega) e.hn e.hg⟩
 have HN := Aside0.mk hn
 have HND := Aside0.mk nd
 have HB := Aside0.mk hB
 have HJ := Aside0.mk (Rj.start h m.clk e)
 rw [hr] at CR
 clear hn nd hB h hr hk ho he he4
 have hcb := fun i => blk_cell HJ.out.b i
 have hce := fun i => blk_cell HJ.out.e_ i
 have hlb := blk_lt HJ.out.b
 have hle := blk_lt HJ.out.e_
 have hlr := (by obtain ⟨_, _, q⟩ := HJ.out.r; exact blk_lt q : w.heap.size + 1 + 1 < _)
 obtain ⟨sv, hsv⟩ : ∃ sv, statR m.L e.h = sv := ⟨_, rfl⟩
 try rw [hsv] at CS
 try rw [hsv] at qs
 clear hsv
 go_enter Try.func45, Try.ntmps45
 go_upto_region 14 with (first | (go_at_call 62; (with_reducible refine (CR.out _).mono ?_); rintro r w2 ⟨rfl, hb⟩; have HJ2 := Aside0.mk (HJ.out.step hb); clear hb hcb hce hlb hle hlr HJ; have HJ := HJ2; clear HJ2; have hcb := fun i => blk_cell HJ.out.b i; have hce := fun i => blk_cell HJ.out.e_ i; have hlb := blk_lt HJ.out.b; have hle := blk_lt HJ.out.e_; have hlr := (by obtain ⟨_, _, q⟩ := HJ.out.r; exact blk_lt q : w.heap.size + 1 + 1 < _)) | (go_at_call 35; (with_reducible refine (CS.out _ HJ.out.kr).mono ?_); rintro r w3 ⟨rfl, hb⟩; have HJ2 := Aside0.mk (HJ.out.step hb); clear hb hcb hce hlb hle hlr HJ; have HJ := HJ2; clear HJ2; have hcb := fun i => blk_cell HJ.out.b i; have hce := fun i => blk_cell HJ.out.e_ i; have hlb := blk_lt HJ.out.b; have hle := blk_lt HJ.out.e_; have hlr := (by obtain ⟨_, _, q⟩ := HJ.out.r; exact blk_lt q : w.heap.size + 1 + 1 < _)))
 go_upto_region 15 with (fail)
 obtain ⟨nb, hnb⟩ : ∃ nb, w3.heap.size = nb := ⟨_, rfl⟩
 refine gen_world' (fun W => Nj B w W m.clk (.slice A m.L.length c) m.L e nb (.slice A m.L.length c) m.L) (by rw [← hnb]; exact Nj.start HJ.out) fun w4 H4 => ?_
 have HN4 := Aside0.mk H4
 have HJ4 := Aside0.mk H4.rj
 clear H4 HJ
 clear hcb hce hlb hle hlr
 have hcb := fun i => blk_cell HJ4.out.b i
 have hce := fun i => blk_cell HJ4.out.e_ i
 have hlb := blk_lt HJ4.out.b
 have hle := blk_lt HJ4.out.e_
 have hlr := (by obtain ⟨_, _, q⟩ := HJ4.out.r; exact blk_lt q : w.heap.size + 1 + 1 < _)
 have hcn := fun i => blk_cell HN4.out.nb_ i
 have hln := blk_lt HN4.out.nb_
 have hfn := fun i => blk_frozen HN4.out.nb_ i
 go_upto_region 38 with (fail)
 obtain ⟨rs, hrs, hrr⟩ := HN4.out.rj.r
 obtain ⟨x0, x1, rfl⟩ : ∃ x0 x1, rs = #[x0, x1] := by rcases rs with ⟨_ | ⟨x0, _ | ⟨x1, _ | _⟩⟩⟩ <;> simp at hrs; exact ⟨_, _, rfl⟩
 have hcr := fun i => blk_cell hrr i
 have hfr := fun i => blk_frozen hrr i
 clear hrs
 go_wp2
 have HE := Aside0.mk (show KR _ B (.slice A m.L.length c) m.L from KR.keep (KR.keep HN4.out.kn (W1 := World.setCell _ ⟨w.heap.size + 1 + 1, 0, none⟩ (.int .i64 m.clk)) fun g cs hg => Below.heap_setCell _ _ _ _ (types_ne hg hrr (by decide))) (W1 := World.setCell (World.setCell _ ⟨w.heap.size + 1 + 1, 0, none⟩ (.int .i64 m.clk)) ⟨w.heap.size + 1 + 1, 1, none⟩ (.slice A m.L.length c)) fun g cs hg => Below.heap_setCell _ _ _ _ (types_ne hg (blk_put hrr 0 _ rfl) (by decide)))
 have HBL := Aside0.mk (below_set (g := w.heap.size + 1 + 1) (j := 1) (v := .slice A m.L.length c) (below_set (g := w.heap.size + 1 + 1) (j := 0) (v := .int .i64 m.clk) HN4.out.rj.below (by omega)) (by omega))
 unfold RdPost
 rw [HF.out]
 exact bodyPost_ret (v := .tuple #[.agg #[.int .i64 m.clk, .slice A m.L.length c], .int .i64 0]) (by simp [results, Try.results45, asAddr, go_sem, hu0, hcr, hlr]) rfl ⟨_, rfl, HE.out, HBL.out⟩
theorem rdo_rearm_stale_no {w : World} {B : Nat} (m : Rm) (v : Value) (e : Au.Ev) (hn : m.L.length ≤ 90000) (nd : (m.L.map S127.h).Nodup) (hB : B ≤ w.heap.size) (h : KR w B v m.L) (hr : rightJ e = true) (hk : e.k = 3) (ho : e.op = 3) (he : e.er = 4) (ha : statR m.L e.h = 1) :
  Calls Try.prog 45 #[.agg #[.int .i64 m.clk, v], .agg (evA e)] w (RdPost B w (rdoF m e)) := by
 have hu0 := Try.underlying43
 have hu1 := Try.underlying36
 have hu2 := Try.underlying50
 have hu3 := Try.underlying127
 have HF := Aside0.mk (show rdoF m e = (m, 6) by unfold rdoF; rw [if_neg (by rw [hr]; simp; omega), if_neg (by omega), if_neg (by omega)]; unfold rpF; rw [if_neg (by omega), if_neg (by omega), if_pos ho, if_pos he, if_pos ha])
 have qk1 : (e.k == 1) = false := beq_eq_false_iff_ne.2 (by omega)
 have qk2 : (e.k == 2) = false := beq_eq_false_iff_ne.2 (by omega)
 have qk4 : (e.k == 4) = false := beq_eq_false_iff_ne.2 (by omega)
 have qk5 : (e.k == 5) = false := beq_eq_false_iff_ne.2 (by omega)
 have qp1 : (e.op == 1) = false := beq_eq_false_iff_ne.2 (by omega)
 have qp2 : (e.op == 2) = false := beq_eq_false_iff_ne.2 (by omega)
 have qp3 : (e.op == 3) = true := beq_iff_eq.2 (ho)
 have qp4 : (e.op == 4) = false := beq_eq_false_iff_ne.2 (by omega)
 have qr0 : (e.er == 0) = false := beq_eq_false_iff_ne.2 (by omega)
 have qr4 : (e.er == 4) = true := beq_iff_eq.2 (he)
 have qs : (statR m.L e.h == 1) = true := beq_iff_eq.2 (ha)
 obtain ⟨A, c, rfl⟩ := Kd.R_slice h
 have CR := Aside0.mk (fun W => rright_run e W)
 have CS : Aside0 (∀ W, KR W B (.slice A m.L.length c) m.L → Calls Try.prog 35 #[.agg #[.int .i64 m.clk, .slice A m.L.length c], .agg #[.int .i64 e.hn, .int .i64 e.hg]] W fun r w' => r = .returned (.int .i64 (statR m.L e.h)) ∧ Below W.heap.size W w') := ⟨fun W hW => stat_calls hW (by omega) e.hn e.hg⟩
 have HN := Aside0.mk hn
 have HND := Aside0.mk nd
 have HB := Aside0.mk hB
 have HJ := Aside0.mk (Rj.start h m.clk e)
 rw [hr] at CR
 clear hn nd hB h hr hk ho he ha
 have hcb := fun i => blk_cell HJ.out.b i
 have hce := fun i => blk_cell HJ.out.e_ i
 have hlb := blk_lt HJ.out.b
 have hle := blk_lt HJ.out.e_
 have hlr := (by obtain ⟨_, _, q⟩ := HJ.out.r; exact blk_lt q : w.heap.size + 1 + 1 < _)
 obtain ⟨sv, hsv⟩ : ∃ sv, statR m.L e.h = sv := ⟨_, rfl⟩
 try rw [hsv] at CS
 try rw [hsv] at qs
 clear hsv
 go_enter Try.func45, Try.ntmps45
 go_upto_region 14 with (first | (go_at_call 62; (with_reducible refine (CR.out _).mono ?_); rintro r w2 ⟨rfl, hb⟩; have HJ2 := Aside0.mk (HJ.out.step hb); clear hb hcb hce hlb hle hlr HJ; have HJ := HJ2; clear HJ2; have hcb := fun i => blk_cell HJ.out.b i; have hce := fun i => blk_cell HJ.out.e_ i; have hlb := blk_lt HJ.out.b; have hle := blk_lt HJ.out.e_; have hlr := (by obtain ⟨_, _, q⟩ := HJ.out.r; exact blk_lt q : w.heap.size + 1 + 1 < _)) | (go_at_call 35; (with_reducible refine (CS.out _ HJ.out.kr).mono ?_); rintro r w3 ⟨rfl, hb⟩; have HJ2 := Aside0.mk (HJ.out.step hb); clear hb hcb hce hlb hle hlr HJ; have HJ := HJ2; clear HJ2; have hcb := fun i => blk_cell HJ.out.b i; have hce := fun i => blk_cell HJ.out.e_ i; have hlb := blk_lt HJ.out.b; have hle := blk_lt HJ.out.e_; have hlr := (by obtain ⟨_, _, q⟩ := HJ.out.r; exact blk_lt q : w.heap.size + 1 + 1 < _)))
 go_upto_region 15 with (fail)
 obtain ⟨nb, hnb⟩ : ∃ nb, w3.heap.size = nb := ⟨_, rfl⟩
 refine gen_world' (fun W => Nj B w W m.clk (.slice A m.L.length c) m.L e nb (.slice A m.L.length c) m.L) (by rw [← hnb]; exact Nj.start HJ.out) fun w4 H4 => ?_
 have HN4 := Aside0.mk H4
 have HJ4 := Aside0.mk H4.rj
 clear H4 HJ
 clear hcb hce hlb hle hlr
 have hcb := fun i => blk_cell HJ4.out.b i
 have hce := fun i => blk_cell HJ4.out.e_ i
 have hlb := blk_lt HJ4.out.b
 have hle := blk_lt HJ4.out.e_
 have hlr := (by obtain ⟨_, _, q⟩ := HJ4.out.r; exact blk_lt q : w.heap.size + 1 + 1 < _)
 have hcn := fun i => blk_cell HN4.out.nb_ i
 have hln := blk_lt HN4.out.nb_
 have hfn := fun i => blk_frozen HN4.out.nb_ i
 go_upto_region 37 with (fail)
 obtain ⟨rs, hrs, hrr⟩ := HJ4.out.r
 obtain ⟨x0, x1, rfl⟩ : ∃ x0 x1, rs = #[x0, x1] := by rcases rs with ⟨_ | ⟨x0, _ | ⟨x1, _ | _⟩⟩⟩ <;> simp at hrs; exact ⟨_, _, rfl⟩
 have hcr := fun i => blk_cell hrr i
 have hfr := fun i => blk_frozen hrr i
 clear hrs
 go_wp2
 have HE := Aside0.mk (show KR _ B (.slice A m.L.length c) m.L from KR.keep (KR.keep HJ4.out.kr (W1 := World.setCell _ ⟨w.heap.size + 1 + 1, 0, none⟩ (.int .i64 m.clk)) fun g cs hg => Below.heap_setCell _ _ _ _ (types_ne hg hrr (by decide))) (W1 := World.setCell (World.setCell _ ⟨w.heap.size + 1 + 1, 0, none⟩ (.int .i64 m.clk)) ⟨w.heap.size + 1 + 1, 1, none⟩ (.slice A m.L.length c)) fun g cs hg => Below.heap_setCell _ _ _ _ (types_ne hg (blk_put hrr 0 _ rfl) (by decide)))
 have HBL := Aside0.mk (below_set (g := w.heap.size + 1 + 1) (j := 1) (v := .slice A m.L.length c) (below_set (g := w.heap.size + 1 + 1) (j := 0) (v := .int .i64 m.clk) HJ4.out.below (by omega)) (by omega))
 unfold RdPost
 rw [HF.out]
 exact bodyPost_ret (v := .tuple #[.agg #[.int .i64 m.clk, .slice A m.L.length c], .int .i64 6]) (by simp [results, Try.results45, asAddr, go_sem, hu0, hcr, hlr]) rfl ⟨_, rfl, HE.out, HBL.out⟩
theorem rdo_rearm_stale {w : World} {B : Nat} (m : Rm) (v : Value) (e : Au.Ev) (hn : m.L.length ≤ 90000) (nd : (m.L.map S127.h).Nodup) (hB : B ≤ w.heap.size) (h : KR w B v m.L) (hr : rightJ e = true) (hk : e.k = 3) (ho : e.op = 3) (he : e.er = 4) (ha : ¬ statR m.L e.h = 1) :
  Calls Try.prog 45 #[.agg #[.int .i64 m.clk, v], .agg (evA e)] w (RdPost B w (rdoF m e)) := by
 have hu0 := Try.underlying43
 have hu1 := Try.underlying36
 have hu2 := Try.underlying50
 have hu3 := Try.underlying127
 have HF := Aside0.mk (show rdoF m e = (m, 0) by unfold rdoF; rw [if_neg (by rw [hr]; simp; omega), if_neg (by omega), if_neg (by omega)]; unfold rpF; rw [if_neg (by omega), if_neg (by omega), if_pos ho, if_pos he, if_neg ha])
 have qk1 : (e.k == 1) = false := beq_eq_false_iff_ne.2 (by omega)
 have qk2 : (e.k == 2) = false := beq_eq_false_iff_ne.2 (by omega)
 have qk4 : (e.k == 4) = false := beq_eq_false_iff_ne.2 (by omega)
 have qk5 : (e.k == 5) = false := beq_eq_false_iff_ne.2 (by omega)
 have qp1 : (e.op == 1) = false := beq_eq_false_iff_ne.2 (by omega)
 have qp2 : (e.op == 2) = false := beq_eq_false_iff_ne.2 (by omega)
 have qp3 : (e.op == 3) = true := beq_iff_eq.2 (ho)
 have qp4 : (e.op == 4) = false := beq_eq_false_iff_ne.2 (by omega)
 have qr0 : (e.er == 0) = false := beq_eq_false_iff_ne.2 (by omega)
 have qr4 : (e.er == 4) = true := beq_iff_eq.2 (he)
 have qs : (statR m.L e.h == 1) = false := beq_eq_false_iff_ne.2 (ha)
 obtain ⟨A, c, rfl⟩ := Kd.R_slice h
 have CR := Aside0.mk (fun W => rright_run e W)
 have CS : Aside0 (∀ W, KR W B (.slice A m.L.length c) m.L → Calls Try.prog 35 #[.agg #[.int .i64 m.clk, .slice A m.L.length c], .agg #[.int .i64 e.hn, .int .i64 e.hg]] W fun r w' => r = .returned (.int .i64 (statR m.L e.h)) ∧ Below W.heap.size W w') := ⟨fun W hW => stat_calls hW (by omega) e.hn e.hg⟩
 have HN := Aside0.mk hn
 have HND := Aside0.mk nd
 have HB := Aside0.mk hB
 have HJ := Aside0.mk (Rj.start h m.clk e)
 rw [hr] at CR
 clear hn nd hB h hr hk ho he ha
 have hcb := fun i => blk_cell HJ.out.b i
 have hce := fun i => blk_cell HJ.out.e_ i
 have hlb := blk_lt HJ.out.b
 have hle := blk_lt HJ.out.e_
 have hlr := (by obtain ⟨_, _, q⟩ := HJ.out.r; exact blk_lt q : w.heap.size + 1 + 1 < _)
 obtain ⟨sv, hsv⟩ : ∃ sv, statR m.L e.h = sv := ⟨_, rfl⟩
 try rw [hsv] at CS
 try rw [hsv] at qs
 clear hsv
 go_enter Try.func45, Try.ntmps45
 go_upto_region 14 with (first | (go_at_call 62; (with_reducible refine (CR.out _).mono ?_); rintro r w2 ⟨rfl, hb⟩; have HJ2 := Aside0.mk (HJ.out.step hb); clear hb hcb hce hlb hle hlr HJ; have HJ := HJ2; clear HJ2; have hcb := fun i => blk_cell HJ.out.b i; have hce := fun i => blk_cell HJ.out.e_ i; have hlb := blk_lt HJ.out.b; have hle := blk_lt HJ.out.e_; have hlr := (by obtain ⟨_, _, q⟩ := HJ.out.r; exact blk_lt q : w.heap.size + 1 + 1 < _)) | (go_at_call 35; (with_reducible refine (CS.out _ HJ.out.kr).mono ?_); rintro r w3 ⟨rfl, hb⟩; have HJ2 := Aside0.mk (HJ.out.step hb); clear hb hcb hce hlb hle hlr HJ; have HJ := HJ2; clear HJ2; have hcb := fun i => blk_cell HJ.out.b i; have hce := fun i => blk_cell HJ.out.e_ i; have hlb := blk_lt HJ.out.b; have hle := blk_lt HJ.out.e_; have hlr := (by obtain ⟨_, _, q⟩ := HJ.out.r; exact blk_lt q : w.heap.size + 1 + 1 < _)))
 go_upto_region 15 with (fail)
 obtain ⟨nb, hnb⟩ : ∃ nb, w3.heap.size = nb := ⟨_, rfl⟩
 refine gen_world' (fun W => Nj B w W m.clk (.slice A m.L.length c) m.L e nb (.slice A m.L.length c) m.L) (by rw [← hnb]; exact Nj.start HJ.out) fun w4 H4 => ?_
 have HN4 := Aside0.mk H4
 have HJ4 := Aside0.mk H4.rj
 clear H4 HJ
 clear hcb hce hlb hle hlr
 have hcb := fun i => blk_cell HJ4.out.b i
 have hce := fun i => blk_cell HJ4.out.e_ i
 have hlb := blk_lt HJ4.out.b
 have hle := blk_lt HJ4.out.e_
 have hlr := (by obtain ⟨_, _, q⟩ := HJ4.out.r; exact blk_lt q : w.heap.size + 1 + 1 < _)
 have hcn := fun i => blk_cell HN4.out.nb_ i
 have hln := blk_lt HN4.out.nb_
 have hfn := fun i => blk_frozen HN4.out.nb_ i
 go_upto_region 38 with (fail)
 obtain ⟨rs, hrs, hrr⟩ := HN4.out.rj.r
 obtain ⟨x0, x1, rfl⟩ : ∃ x0 x1, rs = #[x0, x1] := by rcases rs with ⟨_ | ⟨x0, _ | ⟨x1, _ | _⟩⟩⟩ <;> simp at hrs; exact ⟨_, _, rfl⟩
 have hcr := fun i => blk_cell hrr i
 have hfr := fun i => blk_frozen hrr i
 clear hrs
 go_wp2
 have HE := Aside0.mk (show KR _ B (.slice A m.L.length c) m.L from KR.keep (KR.keep HN4.out.kn (W1 := World.setCell _ ⟨w.heap.size + 1 + 1, 0, none⟩ (.int .i64 m.clk)) fun g cs hg => Below.heap_setCell _ _ _ _ (types_ne hg hrr (by decide))) (W1 := World.setCell (World.setCell _ ⟨w.heap.size + 1 + 1, 0, none⟩ (.int .i64 m.clk)) ⟨w.heap.size + 1 + 1, 1, none⟩ (.slice A m.L.length c)) fun g cs hg => Below.heap_setCell _ _ _ _ (types_ne hg (blk_put hrr 0 _ rfl) (by decide)))
 have HBL := Aside0.mk (below_set (g := w.heap.size + 1 + 1) (j := 1) (v := .slice A m.L.length c) (below_set (g := w.heap.size + 1 + 1) (j := 0) (v := .int .i64 m.clk) HN4.out.rj.below (by omega)) (by omega))
 unfold RdPost
 rw [HF.out]
 exact bodyPost_ret (v := .tuple #[.agg #[.int .i64 m.clk, .slice A m.L.length c], .int .i64 0]) (by simp [results, Try.results45, asAddr, go_sem, hu0, hcr, hlr]) rfl ⟨_, rfl, HE.out, HBL.out⟩
theorem rdo_migrate_else {w : World} {B : Nat} (m : Rm) (v : Value) (e : Au.Ev) (hn : m.L.length ≤ 90000) (nd : (m.L.map S127.h).Nodup) (hB : B ≤ w.heap.size) (h : KR w B v m.L) (hr : rightJ e = true) (hk : e.k = 3) (ho : e.op = 4) (he : ¬ e.er = 0) (he4 : ¬ e.er = 4) :
  Calls Try.prog 45 #[.agg #[.int .i64 m.clk, v], .agg (evA e)] w (RdPost B w (rdoF m e)) := by
 have hu0 := Try.underlying43
 have hu1 := Try.underlying36
 have hu2 := Try.underlying50
 have hu3 := Try.underlying127
 have HF := Aside0.mk (show rdoF m e = (m, 0) by unfold rdoF; rw [if_neg (by rw [hr]; simp; omega), if_neg (by omega), if_neg (by omega)]; unfold rpF; rw [if_neg (by omega), if_neg (by omega), if_neg (by omega), if_neg he4, if_neg he])
 have qk1 : (e.k == 1) = false := beq_eq_false_iff_ne.2 (by omega)
 have qk2 : (e.k == 2) = false := beq_eq_false_iff_ne.2 (by omega)
 have qk4 : (e.k == 4) = false := beq_eq_false_iff_ne.2 (by omega)
 have qk5 : (e.k == 5) = false := beq_eq_false_iff_ne.2 (by omega)
 have qp1 : (e.op == 1) = false := beq_eq_false_iff_ne.2 (by omega)
 have qp2 : (e.op == 2) = false := beq_eq_false_iff_ne.2 (by omega)
 have qp3 : (e.op == 3) = false := beq_eq_false_iff_ne.2 (by omega)
 have qp4 : (e.op == 4) = true := beq_iff_eq.2 (ho)
 have qr0 : (e.er == 0) = false := beq_eq_false_iff_ne.2 (he)
 have qr4 : (e.er == 4) = false := beq_eq_false_iff_ne.2 (he4)
 obtain ⟨A, c, rfl⟩ := Kd.R_slice h
 have CR := Aside0.mk (fun W => rright_run e W)
 have CS : Aside0 (∀ W, KR W B (.slice A m.L.length c) m.L → Calls Try.prog 35 #[.agg #[.int .i64 m.clk, .slice A m.L.length c], .agg #[.int .i64 e.hn, .int .i64 e.hg]] W fun r w' => r = .returned (.int .i64 (statR m.L e.h)) ∧ Below W.heap.size W w') := ⟨fun W hW => stat_calls hW (by omega) e.hn e.hg⟩
 have HN := Aside0.mk hn
 have HND := Aside0.mk nd
 have HB := Aside0.mk hB
 have HJ := Aside0.mk (Rj.start h m.clk e)
 rw [hr] at CR
 clear hn nd hB h hr hk ho he he4
 have hcb := fun i => blk_cell HJ.out.b i
 have hce := fun i => blk_cell HJ.out.e_ i
 have hlb := blk_lt HJ.out.b
 have hle := blk_lt HJ.out.e_
 have hlr := (by obtain ⟨_, _, q⟩ := HJ.out.r; exact blk_lt q : w.heap.size + 1 + 1 < _)
 obtain ⟨sv, hsv⟩ : ∃ sv, statR m.L e.h = sv := ⟨_, rfl⟩
 try rw [hsv] at CS
 try rw [hsv] at qs
 clear hsv
 go_enter Try.func45, Try.ntmps45
 go_upto_region 14 with (first | (go_at_call 62; (with_reducible refine (CR.out _).mono ?_); rintro r w2 ⟨rfl, hb⟩; have HJ2 := Aside0.mk (HJ.out.step hb); clear hb hcb hce hlb hle hlr HJ; have HJ := HJ2; clear HJ2; have hcb := fun i => blk_cell HJ.out.b i; have hce := fun i => blk_cell HJ.out.e_ i; have hlb := blk_lt HJ.out.b; have hle := blk_lt HJ.out.e_; have hlr := (by obtain ⟨_, _, q⟩ := HJ.out.r; exact blk_lt q : w.heap.size + 1 + 1 < _)) | (go_at_call 35; (with_reducible refine (CS.out _ HJ.out.kr).mono ?_); rintro r w3 ⟨rfl, hb⟩; have HJ2 := Aside0.mk (HJ.out.step hb); clear hb hcb hce hlb hle hlr HJ; have HJ := HJ2; clear HJ2; have hcb := fun i => blk_cell HJ.out.b i; have hce := fun i => blk_cell HJ.out.e_ i; have hlb := blk_lt HJ.out.b; have hle := blk_lt HJ.out.e_; have hlr := (by obtain ⟨_, _, q⟩ := HJ.out.r; exact blk_lt q : w.heap.size + 1 + 1 < _)))
 go_upto_region 15 with (fail)
 obtain ⟨nb, hnb⟩ : ∃ nb, w3.heap.size = nb := ⟨_, rfl⟩
 refine gen_world' (fun W => Nj B w W m.clk (.slice A m.L.length c) m.L e nb (.slice A m.L.length c) m.L) (by rw [← hnb]; exact Nj.start HJ.out) fun w4 H4 => ?_
 have HN4 := Aside0.mk H4
 have HJ4 := Aside0.mk H4.rj
 clear H4 HJ
 clear hcb hce hlb hle hlr
 have hcb := fun i => blk_cell HJ4.out.b i
 have hce := fun i => blk_cell HJ4.out.e_ i
 have hlb := blk_lt HJ4.out.b
 have hle := blk_lt HJ4.out.e_
 have hlr := (by obtain ⟨_, _, q⟩ := HJ4.out.r; exact blk_lt q : w.heap.size + 1 + 1 < _)
 have hcn := fun i => blk_cell HN4.out.nb_ i
 have hln := blk_lt HN4.out.nb_
 have hfn := fun i => blk_frozen HN4.out.nb_ i
 go_upto_region 38 with (fail)
 obtain ⟨rs, hrs, hrr⟩ := HN4.out.rj.r
 obtain ⟨x0, x1, rfl⟩ : ∃ x0 x1, rs = #[x0, x1] := by rcases rs with ⟨_ | ⟨x0, _ | ⟨x1, _ | _⟩⟩⟩ <;> simp at hrs; exact ⟨_, _, rfl⟩
 have hcr := fun i => blk_cell hrr i
 have hfr := fun i => blk_frozen hrr i
 clear hrs
 go_wp2
 have HE := Aside0.mk (show KR _ B (.slice A m.L.length c) m.L from KR.keep (KR.keep HN4.out.kn (W1 := World.setCell _ ⟨w.heap.size + 1 + 1, 0, none⟩ (.int .i64 m.clk)) fun g cs hg => Below.heap_setCell _ _ _ _ (types_ne hg hrr (by decide))) (W1 := World.setCell (World.setCell _ ⟨w.heap.size + 1 + 1, 0, none⟩ (.int .i64 m.clk)) ⟨w.heap.size + 1 + 1, 1, none⟩ (.slice A m.L.length c)) fun g cs hg => Below.heap_setCell _ _ _ _ (types_ne hg (blk_put hrr 0 _ rfl) (by decide)))
 have HBL := Aside0.mk (below_set (g := w.heap.size + 1 + 1) (j := 1) (v := .slice A m.L.length c) (below_set (g := w.heap.size + 1 + 1) (j := 0) (v := .int .i64 m.clk) HN4.out.rj.below (by omega)) (by omega))
 unfold RdPost
 rw [HF.out]
 exact bodyPost_ret (v := .tuple #[.agg #[.int .i64 m.clk, .slice A m.L.length c], .int .i64 0]) (by simp [results, Try.results45, asAddr, go_sem, hu0, hcr, hlr]) rfl ⟨_, rfl, HE.out, HBL.out⟩
theorem rdo_migrate_stale_no {w : World} {B : Nat} (m : Rm) (v : Value) (e : Au.Ev) (hn : m.L.length ≤ 90000) (nd : (m.L.map S127.h).Nodup) (hB : B ≤ w.heap.size) (h : KR w B v m.L) (hr : rightJ e = true) (hk : e.k = 3) (ho : e.op = 4) (he : e.er = 4) (ha : statR m.L e.h = 1) :
  Calls Try.prog 45 #[.agg #[.int .i64 m.clk, v], .agg (evA e)] w (RdPost B w (rdoF m e)) := by
 have hu0 := Try.underlying43
 have hu1 := Try.underlying36
 have hu2 := Try.underlying50
 have hu3 := Try.underlying127
 have HF := Aside0.mk (show rdoF m e = (m, 6) by unfold rdoF; rw [if_neg (by rw [hr]; simp; omega), if_neg (by omega), if_neg (by omega)]; unfold rpF; rw [if_neg (by omega), if_neg (by omega), if_neg (by omega), if_pos he, if_pos ha])
 have qk1 : (e.k == 1) = false := beq_eq_false_iff_ne.2 (by omega)
 have qk2 : (e.k == 2) = false := beq_eq_false_iff_ne.2 (by omega)
 have qk4 : (e.k == 4) = false := beq_eq_false_iff_ne.2 (by omega)
 have qk5 : (e.k == 5) = false := beq_eq_false_iff_ne.2 (by omega)
 have qp1 : (e.op == 1) = false := beq_eq_false_iff_ne.2 (by omega)
 have qp2 : (e.op == 2) = false := beq_eq_false_iff_ne.2 (by omega)
 have qp3 : (e.op == 3) = false := beq_eq_false_iff_ne.2 (by omega)
 have qp4 : (e.op == 4) = true := beq_iff_eq.2 (ho)
 have qr0 : (e.er == 0) = false := beq_eq_false_iff_ne.2 (by omega)
 have qr4 : (e.er == 4) = true := beq_iff_eq.2 (he)
 have qs : (statR m.L e.h == 1) = true := beq_iff_eq.2 (ha)
 obtain ⟨A, c, rfl⟩ := Kd.R_slice h
 have CR := Aside0.mk (fun W => rright_run e W)
 have CS : Aside0 (∀ W, KR W B (.slice A m.L.length c) m.L → Calls Try.prog 35 #[.agg #[.int .i64 m.clk, .slice A m.L.length c], .agg #[.int .i64 e.hn, .int .i64 e.hg]] W fun r w' => r = .returned (.int .i64 (statR m.L e.h)) ∧ Below W.heap.size W w') := ⟨fun W hW => stat_calls hW (by omega) e.hn e.hg⟩
 have HN := Aside0.mk hn
 have HND := Aside0.mk nd
 have HB := Aside0.mk hB
 have HJ := Aside0.mk (Rj.start h m.clk e)
 rw [hr] at CR
 clear hn nd hB h hr hk ho he ha
 have hcb := fun i => blk_cell HJ.out.b i
 have hce := fun i => blk_cell HJ.out.e_ i
 have hlb := blk_lt HJ.out.b
 have hle := blk_lt HJ.out.e_
 have hlr := (by obtain ⟨_, _, q⟩ := HJ.out.r; exact blk_lt q : w.heap.size + 1 + 1 < _)
 obtain ⟨sv, hsv⟩ : ∃ sv, statR m.L e.h = sv := ⟨_, rfl⟩
 try rw [hsv] at CS
 try rw [hsv] at qs
 clear hsv
 go_enter Try.func45, Try.ntmps45
 go_upto_region 14 with (first | (go_at_call 62; (with_reducible refine (CR.out _).mono ?_); rintro r w2 ⟨rfl, hb⟩; have HJ2 := Aside0.mk (HJ.out.step hb); clear hb hcb hce hlb hle hlr HJ; have HJ := HJ2; clear HJ2; have hcb := fun i => blk_cell HJ.out.b i; have hce := fun i => blk_cell HJ.out.e_ i; have hlb := blk_lt HJ.out.b; have hle := blk_lt HJ.out.e_; have hlr := (by obtain ⟨_, _, q⟩ := HJ.out.r; exact blk_lt q : w.heap.size + 1 + 1 < _)) | (go_at_call 35; (with_reducible refine (CS.out _ HJ.out.kr).mono ?_); rintro r w3 ⟨rfl, hb⟩; have HJ2 := Aside0.mk (HJ.out.step hb); clear hb hcb hce hlb hle hlr HJ; have HJ := HJ2; clear HJ2; have hcb := fun i => blk_cell HJ.out.b i; have hce := fun i => blk_cell HJ.out.e_ i; have hlb := blk_lt HJ.out.b; have hle := blk_lt HJ.out.e_; have hlr := (by obtain ⟨_, _, q⟩ := HJ.out.r; exact blk_lt q : w.heap.size + 1 + 1 < _)))
 go_upto_region 15 with (fail)
 obtain ⟨nb, hnb⟩ : ∃ nb, w3.heap.size = nb := ⟨_, rfl⟩
 refine gen_world' (fun W => Nj B w W m.clk (.slice A m.L.length c) m.L e nb (.slice A m.L.length c) m.L) (by rw [← hnb]; exact Nj.start HJ.out) fun w4 H4 => ?_
 have HN4 := Aside0.mk H4
 have HJ4 := Aside0.mk H4.rj
 clear H4 HJ
 clear hcb hce hlb hle hlr
 have hcb := fun i => blk_cell HJ4.out.b i
 have hce := fun i => blk_cell HJ4.out.e_ i
 have hlb := blk_lt HJ4.out.b
 have hle := blk_lt HJ4.out.e_
 have hlr := (by obtain ⟨_, _, q⟩ := HJ4.out.r; exact blk_lt q : w.heap.size + 1 + 1 < _)
 have hcn := fun i => blk_cell HN4.out.nb_ i
 have hln := blk_lt HN4.out.nb_
 have hfn := fun i => blk_frozen HN4.out.nb_ i
 go_upto_region 37 with (fail)
 obtain ⟨rs, hrs, hrr⟩ := HJ4.out.r
 obtain ⟨x0, x1, rfl⟩ : ∃ x0 x1, rs = #[x0, x1] := by rcases rs with ⟨_ | ⟨x0, _ | ⟨x1, _ | _⟩⟩⟩ <;> simp at hrs; exact ⟨_, _, rfl⟩
 have hcr := fun i => blk_cell hrr i
 have hfr := fun i => blk_frozen hrr i
 clear hrs
 go_wp2
 have HE := Aside0.mk (show KR _ B (.slice A m.L.length c) m.L from KR.keep (KR.keep HJ4.out.kr (W1 := World.setCell _ ⟨w.heap.size + 1 + 1, 0, none⟩ (.int .i64 m.clk)) fun g cs hg => Below.heap_setCell _ _ _ _ (types_ne hg hrr (by decide))) (W1 := World.setCell (World.setCell _ ⟨w.heap.size + 1 + 1, 0, none⟩ (.int .i64 m.clk)) ⟨w.heap.size + 1 + 1, 1, none⟩ (.slice A m.L.length c)) fun g cs hg => Below.heap_setCell _ _ _ _ (types_ne hg (blk_put hrr 0 _ rfl) (by decide)))
 have HBL := Aside0.mk (below_set (g := w.heap.size + 1 + 1) (j := 1) (v := .slice A m.L.length c) (below_set (g := w.heap.size + 1 + 1) (j := 0) (v := .int .i64 m.clk) HJ4.out.below (by omega)) (by omega))
 unfold RdPost
 rw [HF.out]
 exact bodyPost_ret (v := .tuple #[.agg #[.int .i64 m.clk, .slice A m.L.length c], .int .i64 6]) (by simp [results, Try.results45, asAddr, go_sem, hu0, hcr, hlr]) rfl ⟨_, rfl, HE.out, HBL.out⟩
theorem rdo_migrate_stale {w : World} {B : Nat} (m : Rm) (v : Value) (e : Au.Ev) (hn : m.L.length ≤ 90000) (nd : (m.L.map S127.h).Nodup) (hB : B ≤ w.heap.size) (h : KR w B v m.L) (hr : rightJ e = true) (hk : e.k = 3) (ho : e.op = 4) (he : e.er = 4) (ha : ¬ statR m.L e.h = 1) :
  Calls Try.prog 45 #[.agg #[.int .i64 m.clk, v], .agg (evA e)] w (RdPost B w (rdoF m e)) := by
 have hu0 := Try.underlying43
 have hu1 := Try.underlying36
 have hu2 := Try.underlying50
 have hu3 := Try.underlying127
 have HF := Aside0.mk (show rdoF m e = (m, 0) by unfold rdoF; rw [if_neg (by rw [hr]; simp; omega), if_neg (by omega), if_neg (by omega)]; unfold rpF; rw [if_neg (by omega), if_neg (by omega), if_neg (by omega), if_pos he, if_neg ha])
 have qk1 : (e.k == 1) = false := beq_eq_false_iff_ne.2 (by omega)
 have qk2 : (e.k == 2) = false := beq_eq_false_iff_ne.2 (by omega)
 have qk4 : (e.k == 4) = false := beq_eq_false_iff_ne.2 (by omega)
 have qk5 : (e.k == 5) = false := beq_eq_false_iff_ne.2 (by omega)
 have qp1 : (e.op == 1) = false := beq_eq_false_iff_ne.2 (by omega)
 have qp2 : (e.op == 2) = false := beq_eq_false_iff_ne.2 (by omega)
 have qp3 : (e.op == 3) = false := beq_eq_false_iff_ne.2 (by omega)
 have qp4 : (e.op == 4) = true := beq_iff_eq.2 (ho)
 have qr0 : (e.er == 0) = false := beq_eq_false_iff_ne.2 (by omega)
 have qr4 : (e.er == 4) = true := beq_iff_eq.2 (he)
 have qs : (statR m.L e.h == 1) = false := beq_eq_false_iff_ne.2 (ha)
 obtain ⟨A, c, rfl⟩ := Kd.R_slice h
 have CR := Aside0.mk (fun W => rright_run e W)
 have CS : Aside0 (∀ W, KR W B (.slice A m.L.length c) m.L → Calls Try.prog 35 #[.agg #[.int .i64 m.clk, .slice A m.L.length c], .agg #[.int .i64 e.hn, .int .i64 e.hg]] W fun r w' => r = .returned (.int .i64 (statR m.L e.h)) ∧ Below W.heap.size W w') := ⟨fun W hW => stat_calls hW (by omega) e.hn e.hg⟩
 have HN := Aside0.mk hn
 have HND := Aside0.mk nd
 have HB := Aside0.mk hB
 have HJ := Aside0.mk (Rj.start h m.clk e)
 rw [hr] at CR
 clear hn nd hB h hr hk ho he ha
 have hcb := fun i => blk_cell HJ.out.b i
 have hce := fun i => blk_cell HJ.out.e_ i
 have hlb := blk_lt HJ.out.b
 have hle := blk_lt HJ.out.e_
 have hlr := (by obtain ⟨_, _, q⟩ := HJ.out.r; exact blk_lt q : w.heap.size + 1 + 1 < _)
 obtain ⟨sv, hsv⟩ : ∃ sv, statR m.L e.h = sv := ⟨_, rfl⟩
 try rw [hsv] at CS
 try rw [hsv] at qs
 clear hsv
 go_enter Try.func45, Try.ntmps45
 go_upto_region 14 with (first | (go_at_call 62; (with_reducible refine (CR.out _).mono ?_); rintro r w2 ⟨rfl, hb⟩; have HJ2 := Aside0.mk (HJ.out.step hb); clear hb hcb hce hlb hle hlr HJ; have HJ := HJ2; clear HJ2; have hcb := fun i => blk_cell HJ.out.b i; have hce := fun i => blk_cell HJ.out.e_ i; have hlb := blk_lt HJ.out.b; have hle := blk_lt HJ.out.e_; have hlr := (by obtain ⟨_, _, q⟩ := HJ.out.r; exact blk_lt q : w.heap.size + 1 + 1 < _)) | (go_at_call 35; (with_reducible refine (CS.out _ HJ.out.kr).mono ?_); rintro r w3 ⟨rfl, hb⟩; have HJ2 := Aside0.mk (HJ.out.step hb); clear hb hcb hce hlb hle hlr HJ; have HJ := HJ2; clear HJ2; have hcb := fun i => blk_cell HJ.out.b i; have hce := fun i => blk_cell HJ.out.e_ i; have hlb := blk_lt HJ.out.b; have hle := blk_lt HJ.out.e_; have hlr := (by obtain ⟨_, _, q⟩ := HJ.out.r; exact blk_lt q : w.heap.size + 1 + 1 < _)))
 go_upto_region 15 with (fail)
 obtain ⟨nb, hnb⟩ : ∃ nb, w3.heap.size = nb := ⟨_, rfl⟩
 refine gen_world' (fun W => Nj B w W m.clk (.slice A m.L.length c) m.L e nb (.slice A m.L.length c) m.L) (by rw [← hnb]; exact Nj.start HJ.out) fun w4 H4 => ?_
 have HN4 := Aside0.mk H4
 have HJ4 := Aside0.mk H4.rj
 clear H4 HJ
 clear hcb hce hlb hle hlr
 have hcb := fun i => blk_cell HJ4.out.b i
 have hce := fun i => blk_cell HJ4.out.e_ i
 have hlb := blk_lt HJ4.out.b
 have hle := blk_lt HJ4.out.e_
 have hlr := (by obtain ⟨_, _, q⟩ := HJ4.out.r; exact blk_lt q : w.heap.size + 1 + 1 < _)
 have hcn := fun i => blk_cell HN4.out.nb_ i
 have hln := blk_lt HN4.out.nb_
 have hfn := fun i => blk_frozen HN4.out.nb_ i
 go_upto_region 38 with (fail)
 obtain ⟨rs, hrs, hrr⟩ := HN4.out.rj.r
 obtain ⟨x0, x1, rfl⟩ : ∃ x0 x1, rs = #[x0, x1] := by rcases rs with ⟨_ | ⟨x0, _ | ⟨x1, _ | _⟩⟩⟩ <;> simp at hrs; exact ⟨_, _, rfl⟩
 have hcr := fun i => blk_cell hrr i
 have hfr := fun i => blk_frozen hrr i
 clear hrs
 go_wp2
 have HE := Aside0.mk (show KR _ B (.slice A m.L.length c) m.L from KR.keep (KR.keep HN4.out.kn (W1 := World.setCell _ ⟨w.heap.size + 1 + 1, 0, none⟩ (.int .i64 m.clk)) fun g cs hg => Below.heap_setCell _ _ _ _ (types_ne hg hrr (by decide))) (W1 := World.setCell (World.setCell _ ⟨w.heap.size + 1 + 1, 0, none⟩ (.int .i64 m.clk)) ⟨w.heap.size + 1 + 1, 1, none⟩ (.slice A m.L.length c)) fun g cs hg => Below.heap_setCell _ _ _ _ (types_ne hg (blk_put hrr 0 _ rfl) (by decide)))
 have HBL := Aside0.mk (below_set (g := w.heap.size + 1 + 1) (j := 1) (v := .slice A m.L.length c) (below_set (g := w.heap.size + 1 + 1) (j := 0) (v := .int .i64 m.clk) HN4.out.rj.below (by omega)) (by omega))
 unfold RdPost
 rw [HF.out]
 exact bodyPost_ret (v := .tuple #[.agg #[.int .i64 m.clk, .slice A m.L.length c], .int .i64 0]) (by simp [results, Try.results45, asAddr, go_sem, hu0, hcr, hlr]) rfl ⟨_, rfl, HE.out, HBL.out⟩
theorem rdo_migrate {w : World} {B : Nat} (m : Rm) (v : Value) (e : Au.Ev) (hn : m.L.length ≤ 90000) (nd : (m.L.map S127.h).Nodup) (hB : B ≤ w.heap.size) (h : KR w B v m.L) (hr : rightJ e = true) (hk : e.k = 3) (ho : e.op = 4) (he : e.er = 0) (ha : statR m.L e.h = 1) :
  Calls Try.prog 45 #[.agg #[.int .i64 m.clk, v], .agg (evA e)] w (RdPost B w (rdoF m e)) := by
 have hu0 := Try.underlying43
 have hu1 := Try.underlying36
 have hu2 := Try.underlying50
 have hu3 := Try.underlying127
 have HF := Aside0.mk (show rdoF m e = (m, 0) by unfold rdoF; rw [if_neg (by rw [hr]; simp; omega), if_neg (by omega), if_neg (by omega)]; unfold rpF; rw [if_neg (by omega), if_neg (by omega), if_neg (by omega), if_neg (by omega), if_pos he, if_pos ha])
 have qk1 : (e.k == 1) = false := beq_eq_false_iff_ne.2 (by omega)
 have qk2 : (e.k == 2) = false := beq_eq_false_iff_ne.2 (by omega)
 have qk4 : (e.k == 4) = false := beq_eq_false_iff_ne.2 (by omega)
 have qk5 : (e.k == 5) = false := beq_eq_false_iff_ne.2 (by omega)
 have qp1 : (e.op == 1) = false := beq_eq_false_iff_ne.2 (by omega)
 have qp2 : (e.op == 2) = false := beq_eq_false_iff_ne.2 (by omega)
 have qp3 : (e.op == 3) = false := beq_eq_false_iff_ne.2 (by omega)
 have qp4 : (e.op == 4) = true := beq_iff_eq.2 (ho)
 have qr0 : (e.er == 0) = true := beq_iff_eq.2 (he)
 have qr4 : (e.er == 4) = false := beq_eq_false_iff_ne.2 (by omega)
 have qs : (statR m.L e.h == 1) = true := beq_iff_eq.2 (ha)
 obtain ⟨A, c, rfl⟩ := Kd.R_slice h
 have CR := Aside0.mk (fun W => rright_run e W)
 have CS : Aside0 (∀ W, KR W B (.slice A m.L.length c) m.L → Calls Try.prog 35 #[.agg #[.int .i64 m.clk, .slice A m.L.length c], .agg #[.int .i64 e.hn, .int .i64 e.hg]] W fun r w' => r = .returned (.int .i64 (statR m.L e.h)) ∧ Below W.heap.size W w') := ⟨fun W hW => stat_calls hW (by omega) e.hn e.hg⟩
 have HN := Aside0.mk hn
 have HND := Aside0.mk nd
 have HB := Aside0.mk hB
 have HJ := Aside0.mk (Rj.start h m.clk e)
 rw [hr] at CR
 clear hn nd hB h hr hk ho he ha
 have hcb := fun i => blk_cell HJ.out.b i
 have hce := fun i => blk_cell HJ.out.e_ i
 have hlb := blk_lt HJ.out.b
 have hle := blk_lt HJ.out.e_
 have hlr := (by obtain ⟨_, _, q⟩ := HJ.out.r; exact blk_lt q : w.heap.size + 1 + 1 < _)
 obtain ⟨sv, hsv⟩ : ∃ sv, statR m.L e.h = sv := ⟨_, rfl⟩
 try rw [hsv] at CS
 try rw [hsv] at qs
 clear hsv
 go_enter Try.func45, Try.ntmps45
 go_upto_region 14 with (first | (go_at_call 62; (with_reducible refine (CR.out _).mono ?_); rintro r w2 ⟨rfl, hb⟩; have HJ2 := Aside0.mk (HJ.out.step hb); clear hb hcb hce hlb hle hlr HJ; have HJ := HJ2; clear HJ2; have hcb := fun i => blk_cell HJ.out.b i; have hce := fun i => blk_cell HJ.out.e_ i; have hlb := blk_lt HJ.out.b; have hle := blk_lt HJ.out.e_; have hlr := (by obtain ⟨_, _, q⟩ := HJ.out.r; exact blk_lt q : w.heap.size + 1 + 1 < _)) | (go_at_call 35; (with_reducible refine (CS.out _ HJ.out.kr).mono ?_); rintro r w3 ⟨rfl, hb⟩; have HJ2 := Aside0.mk (HJ.out.step hb); clear hb hcb hce hlb hle hlr HJ; have HJ := HJ2; clear HJ2; have hcb := fun i => blk_cell HJ.out.b i; have hce := fun i => blk_cell HJ.out.e_ i; have hlb := blk_lt HJ.out.b; have hle := blk_lt HJ.out.e_; have hlr := (by obtain ⟨_, _, q⟩ := HJ.out.r; exact blk_lt q : w.heap.size + 1 + 1 < _)))
 go_upto_region 15 with (fail)
 obtain ⟨nb, hnb⟩ : ∃ nb, w3.heap.size = nb := ⟨_, rfl⟩
 refine gen_world' (fun W => Nj B w W m.clk (.slice A m.L.length c) m.L e nb (.slice A m.L.length c) m.L) (by rw [← hnb]; exact Nj.start HJ.out) fun w4 H4 => ?_
 have HN4 := Aside0.mk H4
 have HJ4 := Aside0.mk H4.rj
 clear H4 HJ
 clear hcb hce hlb hle hlr
 have hcb := fun i => blk_cell HJ4.out.b i
 have hce := fun i => blk_cell HJ4.out.e_ i
 have hlb := blk_lt HJ4.out.b
 have hle := blk_lt HJ4.out.e_
 have hlr := (by obtain ⟨_, _, q⟩ := HJ4.out.r; exact blk_lt q : w.heap.size + 1 + 1 < _)
 have hcn := fun i => blk_cell HN4.out.nb_ i
 have hln := blk_lt HN4.out.nb_
 have hfn := fun i => blk_frozen HN4.out.nb_ i
 go_upto_region 38 with (fail)
 obtain ⟨rs, hrs, hrr⟩ := HN4.out.rj.r
 obtain ⟨x0, x1, rfl⟩ : ∃ x0 x1, rs = #[x0, x1] := by rcases rs with ⟨_ | ⟨x0, _ | ⟨x1, _ | _⟩⟩⟩ <;> simp at hrs; exact ⟨_, _, rfl⟩
 have hcr := fun i => blk_cell hrr i
 have hfr := fun i => blk_frozen hrr i
 clear hrs
 go_wp2
 have HE := Aside0.mk (show KR _ B (.slice A m.L.length c) m.L from KR.keep (KR.keep HN4.out.kn (W1 := World.setCell _ ⟨w.heap.size + 1 + 1, 0, none⟩ (.int .i64 m.clk)) fun g cs hg => Below.heap_setCell _ _ _ _ (types_ne hg hrr (by decide))) (W1 := World.setCell (World.setCell _ ⟨w.heap.size + 1 + 1, 0, none⟩ (.int .i64 m.clk)) ⟨w.heap.size + 1 + 1, 1, none⟩ (.slice A m.L.length c)) fun g cs hg => Below.heap_setCell _ _ _ _ (types_ne hg (blk_put hrr 0 _ rfl) (by decide)))
 have HBL := Aside0.mk (below_set (g := w.heap.size + 1 + 1) (j := 1) (v := .slice A m.L.length c) (below_set (g := w.heap.size + 1 + 1) (j := 0) (v := .int .i64 m.clk) HN4.out.rj.below (by omega)) (by omega))
 unfold RdPost
 rw [HF.out]
 exact bodyPost_ret (v := .tuple #[.agg #[.int .i64 m.clk, .slice A m.L.length c], .int .i64 0]) (by simp [results, Try.results45, asAddr, go_sem, hu0, hcr, hlr]) rfl ⟨_, rfl, HE.out, HBL.out⟩
theorem rdo_migrate_no {w : World} {B : Nat} (m : Rm) (v : Value) (e : Au.Ev) (hn : m.L.length ≤ 90000) (nd : (m.L.map S127.h).Nodup) (hB : B ≤ w.heap.size) (h : KR w B v m.L) (hr : rightJ e = true) (hk : e.k = 3) (ho : e.op = 4) (he : e.er = 0) (ha : ¬ statR m.L e.h = 1) :
  Calls Try.prog 45 #[.agg #[.int .i64 m.clk, v], .agg (evA e)] w (RdPost B w (rdoF m e)) := by
 have hu0 := Try.underlying43
 have hu1 := Try.underlying36
 have hu2 := Try.underlying50
 have hu3 := Try.underlying127
 have HF := Aside0.mk (show rdoF m e = (m, 6) by unfold rdoF; rw [if_neg (by rw [hr]; simp; omega), if_neg (by omega), if_neg (by omega)]; unfold rpF; rw [if_neg (by omega), if_neg (by omega), if_neg (by omega), if_neg (by omega), if_pos he, if_neg ha])
 have qk1 : (e.k == 1) = false := beq_eq_false_iff_ne.2 (by omega)
 have qk2 : (e.k == 2) = false := beq_eq_false_iff_ne.2 (by omega)
 have qk4 : (e.k == 4) = false := beq_eq_false_iff_ne.2 (by omega)
 have qk5 : (e.k == 5) = false := beq_eq_false_iff_ne.2 (by omega)
 have qp1 : (e.op == 1) = false := beq_eq_false_iff_ne.2 (by omega)
 have qp2 : (e.op == 2) = false := beq_eq_false_iff_ne.2 (by omega)
 have qp3 : (e.op == 3) = false := beq_eq_false_iff_ne.2 (by omega)
 have qp4 : (e.op == 4) = true := beq_iff_eq.2 (ho)
 have qr0 : (e.er == 0) = true := beq_iff_eq.2 (he)
 have qr4 : (e.er == 4) = false := beq_eq_false_iff_ne.2 (by omega)
 have qs : (statR m.L e.h == 1) = false := beq_eq_false_iff_ne.2 (ha)
 obtain ⟨A, c, rfl⟩ := Kd.R_slice h
 have CR := Aside0.mk (fun W => rright_run e W)
 have CS : Aside0 (∀ W, KR W B (.slice A m.L.length c) m.L → Calls Try.prog 35 #[.agg #[.int .i64 m.clk, .slice A m.L.length c], .agg #[.int .i64 e.hn, .int .i64 e.hg]] W fun r w' => r = .returned (.int .i64 (statR m.L e.h)) ∧ Below W.heap.size W w') := ⟨fun W hW => stat_calls hW (by omega) e.hn e.hg⟩
 have HN := Aside0.mk hn
 have HND := Aside0.mk nd
 have HB := Aside0.mk hB
 have HJ := Aside0.mk (Rj.start h m.clk e)
 rw [hr] at CR
 clear hn nd hB h hr hk ho he ha
 have hcb := fun i => blk_cell HJ.out.b i
 have hce := fun i => blk_cell HJ.out.e_ i
 have hlb := blk_lt HJ.out.b
 have hle := blk_lt HJ.out.e_
 have hlr := (by obtain ⟨_, _, q⟩ := HJ.out.r; exact blk_lt q : w.heap.size + 1 + 1 < _)
 obtain ⟨sv, hsv⟩ : ∃ sv, statR m.L e.h = sv := ⟨_, rfl⟩
 try rw [hsv] at CS
 try rw [hsv] at qs
 clear hsv
 go_enter Try.func45, Try.ntmps45
 go_upto_region 14 with (first | (go_at_call 62; (with_reducible refine (CR.out _).mono ?_); rintro r w2 ⟨rfl, hb⟩; have HJ2 := Aside0.mk (HJ.out.step hb); clear hb hcb hce hlb hle hlr HJ; have HJ := HJ2; clear HJ2; have hcb := fun i => blk_cell HJ.out.b i; have hce := fun i => blk_cell HJ.out.e_ i; have hlb := blk_lt HJ.out.b; have hle := blk_lt HJ.out.e_; have hlr := (by obtain ⟨_, _, q⟩ := HJ.out.r; exact blk_lt q : w.heap.size + 1 + 1 < _)) | (go_at_call 35; (with_reducible refine (CS.out _ HJ.out.kr).mono ?_); rintro r w3 ⟨rfl, hb⟩; have HJ2 := Aside0.mk (HJ.out.step hb); clear hb hcb hce hlb hle hlr HJ; have HJ := HJ2; clear HJ2; have hcb := fun i => blk_cell HJ.out.b i; have hce := fun i => blk_cell HJ.out.e_ i; have hlb := blk_lt HJ.out.b; have hle := blk_lt HJ.out.e_; have hlr := (by obtain ⟨_, _, q⟩ := HJ.out.r; exact blk_lt q : w.heap.size + 1 + 1 < _)))
 go_upto_region 15 with (fail)
 obtain ⟨nb, hnb⟩ : ∃ nb, w3.heap.size = nb := ⟨_, rfl⟩
 refine gen_world' (fun W => Nj B w W m.clk (.slice A m.L.length c) m.L e nb (.slice A m.L.length c) m.L) (by rw [← hnb]; exact Nj.start HJ.out) fun w4 H4 => ?_
 have HN4 := Aside0.mk H4
 have HJ4 := Aside0.mk H4.rj
 clear H4 HJ
 clear hcb hce hlb hle hlr
 have hcb := fun i => blk_cell HJ4.out.b i
 have hce := fun i => blk_cell HJ4.out.e_ i
 have hlb := blk_lt HJ4.out.b
 have hle := blk_lt HJ4.out.e_
 have hlr := (by obtain ⟨_, _, q⟩ := HJ4.out.r; exact blk_lt q : w.heap.size + 1 + 1 < _)
 have hcn := fun i => blk_cell HN4.out.nb_ i
 have hln := blk_lt HN4.out.nb_
 have hfn := fun i => blk_frozen HN4.out.nb_ i
 go_upto_region 37 with (fail)
 obtain ⟨rs, hrs, hrr⟩ := HJ4.out.r
 obtain ⟨x0, x1, rfl⟩ : ∃ x0 x1, rs = #[x0, x1] := by rcases rs with ⟨_ | ⟨x0, _ | ⟨x1, _ | _⟩⟩⟩ <;> simp at hrs; exact ⟨_, _, rfl⟩
 have hcr := fun i => blk_cell hrr i
 have hfr := fun i => blk_frozen hrr i
 clear hrs
 go_wp2
 have HE := Aside0.mk (show KR _ B (.slice A m.L.length c) m.L from KR.keep (KR.keep HJ4.out.kr (W1 := World.setCell _ ⟨w.heap.size + 1 + 1, 0, none⟩ (.int .i64 m.clk)) fun g cs hg => Below.heap_setCell _ _ _ _ (types_ne hg hrr (by decide))) (W1 := World.setCell (World.setCell _ ⟨w.heap.size + 1 + 1, 0, none⟩ (.int .i64 m.clk)) ⟨w.heap.size + 1 + 1, 1, none⟩ (.slice A m.L.length c)) fun g cs hg => Below.heap_setCell _ _ _ _ (types_ne hg (blk_put hrr 0 _ rfl) (by decide)))
 have HBL := Aside0.mk (below_set (g := w.heap.size + 1 + 1) (j := 1) (v := .slice A m.L.length c) (below_set (g := w.heap.size + 1 + 1) (j := 0) (v := .int .i64 m.clk) HJ4.out.below (by omega)) (by omega))
 unfold RdPost
 rw [HF.out]
 exact bodyPost_ret (v := .tuple #[.agg #[.int .i64 m.clk, .slice A m.L.length c], .int .i64 6]) (by simp [results, Try.results45, asAddr, go_sem, hu0, hcr, hlr]) rfl ⟨_, rfl, HE.out, HBL.out⟩
theorem rdo_cancel_11 {w : World} {B : Nat} (m : Rm) (v : Value) (e : Au.Ev) (hn : m.L.length ≤ 90000) (nd : (m.L.map S127.h).Nodup) (hB : B ≤ w.heap.size) (h : KR w B v m.L) (hr : rightJ e = true) (hk : e.k = 3) (ho : e.op = 2) (hy : e.y = true) (ha : statR m.L e.h = 1) :
  Calls Try.prog 45 #[.agg #[.int .i64 m.clk, v], .agg (evA e)] w (RdPost B w (rdoF m e)) := by
 have hu0 := Try.underlying43
 have hu1 := Try.underlying36
 have hu2 := Try.underlying50
 have hu3 := Try.underlying127
 have HF := Aside0.mk (show rdoF m e = ({ m with L := turnR m.L e.h 3 }, 0) by unfold rdoF; rw [if_neg (by rw [hr]; simp; omega), if_neg (by omega), if_neg (by omega)]; unfold rpF; rw [if_neg (by omega), if_pos ho, if_pos (by simp [ha, hy]), if_pos hy])
 have qk1 : (e.k == 1) = false := beq_eq_false_iff_ne.2 (by omega)
 have qk2 : (e.k == 2) = false := beq_eq_false_iff_ne.2 (by omega)
 have qk4 : (e.k == 4) = false := beq_eq_false_iff_ne.2 (by omega)
 have qk5 : (e.k == 5) = false := beq_eq_false_iff_ne.2 (by omega)
 have qp1 : (e.op == 1) = false := beq_eq_false_iff_ne.2 (by omega)
 have qp2 : (e.op == 2) = true := beq_iff_eq.2 (ho)
 have qp3 : (e.op == 3) = false := beq_eq_false_iff_ne.2 (by omega)
 have qp4 : (e.op == 4) = false := beq_eq_false_iff_ne.2 (by omega)
 have qs : (statR m.L e.h == 1) = true := beq_iff_eq.2 (ha)
 have HY := Aside0.mk hy
 obtain ⟨A, c, rfl⟩ := Kd.R_slice h
 have CR := Aside0.mk (fun W => rright_run e W)
 have CS : Aside0 (∀ W, KR W B (.slice A m.L.length c) m.L → Calls Try.prog 35 #[.agg #[.int .i64 m.clk, .slice A m.L.length c], .agg #[.int .i64 e.hn, .int .i64 e.hg]] W fun r w' => r = .returned (.int .i64 (statR m.L e.h)) ∧ Below W.heap.size W w') := ⟨fun W hW => stat_calls hW (by omega) e.hn e.hg⟩
 have HN := Aside0.mk hn
 have HND := Aside0.mk nd
 have HB := Aside0.mk hB
 have HJ := Aside0.mk (Rj.start h m.clk e)
 rw [hr] at CR
 have CT : Aside0 (∀ W, Rj B w W m.clk (.slice A m.L.length c) m.L e → Calls Try.prog 79 #[.agg #[.int .i64 m.clk, .slice A m.L.length c], .agg #[.int .i64 e.hn, .int .i64 e.hg], .int .i64 3] W fun r w' => ∃ A1 c1, r = .returned (.agg #[.int .i64 m.clk, .slice A1 (turnR m.L e.h 3).length c1]) ∧ KR w' B (.slice A1 (turnR m.L e.h 3).length c1) (turnR m.L e.h 3) ∧ Below W.heap.size W w') := ⟨fun W hW => turn_calls hW.kr (by have := hW.below.size; omega) (by omega) e.hn e.hg 3 nd (stat_ex ha)⟩
 clear hn nd hB h hr hk ho hy ha
 have hcb := fun i => blk_cell HJ.out.b i
 have hce := fun i => blk_cell HJ.out.e_ i
 have hlb := blk_lt HJ.out.b
 have hle := blk_lt HJ.out.e_
 have hlr := (by obtain ⟨_, _, q⟩ := HJ.out.r; exact blk_lt q : w.heap.size + 1 + 1 < _)
 obtain ⟨sv, hsv⟩ : ∃ sv, statR m.L e.h = sv := ⟨_, rfl⟩
 try rw [hsv] at CS
 try rw [hsv] at qs
 clear hsv
 go_enter Try.func45, Try.ntmps45
 go_upto_region 14 with (first | (go_at_call 62; (with_reducible refine (CR.out _).mono ?_); rintro r w2 ⟨rfl, hb⟩; have HJ2 := Aside0.mk (HJ.out.step hb); clear hb hcb hce hlb hle hlr HJ; have HJ := HJ2; clear HJ2; have hcb := fun i => blk_cell HJ.out.b i; have hce := fun i => blk_cell HJ.out.e_ i; have hlb := blk_lt HJ.out.b; have hle := blk_lt HJ.out.e_; have hlr := (by obtain ⟨_, _, q⟩ := HJ.out.r; exact blk_lt q : w.heap.size + 1 + 1 < _)) | (go_at_call 35; (with_reducible refine (CS.out _ HJ.out.kr).mono ?_); rintro r w3 ⟨rfl, hb⟩; have HJ2 := Aside0.mk (HJ.out.step hb); clear hb hcb hce hlb hle hlr HJ; have HJ := HJ2; clear HJ2; have hcb := fun i => blk_cell HJ.out.b i; have hce := fun i => blk_cell HJ.out.e_ i; have hlb := blk_lt HJ.out.b; have hle := blk_lt HJ.out.e_; have hlr := (by obtain ⟨_, _, q⟩ := HJ.out.r; exact blk_lt q : w.heap.size + 1 + 1 < _)))
 go_upto_region 15 with (fail)
 obtain ⟨nb, hnb⟩ : ∃ nb, w3.heap.size = nb := ⟨_, rfl⟩
 refine gen_world' (fun W => Nj B w W m.clk (.slice A m.L.length c) m.L e nb (.slice A m.L.length c) m.L) (by rw [← hnb]; exact Nj.start HJ.out) fun w4 H4 => ?_
 have HN4 := Aside0.mk H4
 have HJ4 := Aside0.mk H4.rj
 clear H4 HJ
 clear hcb hce hlb hle hlr
 have hcb := fun i => blk_cell HJ4.out.b i
 have hce := fun i => blk_cell HJ4.out.e_ i
 have hlb := blk_lt HJ4.out.b
 have hle := blk_lt HJ4.out.e_
 have hlr := (by obtain ⟨_, _, q⟩ := HJ4.out.r; exact blk_lt q : w.heap.size + 1 + 1 < _)
 have hcn := fun i => blk_cell HN4.out.nb_ i
 have hln := blk_lt HN4.out.nb_
 have hfn := fun i => blk_frozen HN4.out.nb_ i
 have y0 := HY.out
 go_upto_region 36 with (first | (go_at_call 79; (with_reducible refine (CT.out _ HJ4.out).mono ?_); rintro r w7 ⟨A1, c1, rfl, hk1, hb⟩; have HN7 := Aside0.mk (HN4.out.next hb hk1); have hcn7 := fun i => blk_cell (HN4.out.step hb).nb_ i; have hfn7 := fun i => blk_frozen (HN4.out.step hb).nb_ i; have hln7 := blk_lt (HN4.out.step hb).nb_; clear hb hk1 hcn hln hfn hcb hce hlb hle hlr))
 clear hcn7 hfn7 hln7
 have hcb := fun i => blk_cell HN7.out.rj.b i
 have hce := fun i => blk_cell HN7.out.rj.e_ i
 have hlb := blk_lt HN7.out.rj.b
 have hle := blk_lt HN7.out.rj.e_
 have hlr := (by obtain ⟨_, _, q⟩ := HN7.out.rj.r; exact blk_lt q : w.heap.size + 1 + 1 < _)
 have hcn := fun i => blk_cell HN7.out.nb_ i
 have hln := blk_lt HN7.out.nb_
 go_upto_region 38 with (fail)
 obtain ⟨rs, hrs, hrr⟩ := HN7.out.rj.r
 obtain ⟨x0, x1, rfl⟩ : ∃ x0 x1, rs = #[x0, x1] := by rcases rs with ⟨_ | ⟨x0, _ | ⟨x1, _ | _⟩⟩⟩ <;> simp at hrs; exact ⟨_, _, rfl⟩
 have hcr := fun i => blk_cell hrr i
 have hfr := fun i => blk_frozen hrr i
 clear hrs
 go_wp2
 have HE := Aside0.mk (show KR _ B (.slice A1 (turnR m.L e.h 3).length c1) (turnR m.L e.h 3) from KR.keep (KR.keep HN7.out.kn (W1 := World.setCell _ ⟨w.heap.size + 1 + 1, 0, none⟩ (.int .i64 m.clk)) fun g cs hg => Below.heap_setCell _ _ _ _ (types_ne hg hrr (by decide))) (W1 := World.setCell (World.setCell _ ⟨w.heap.size + 1 + 1, 0, none⟩ (.int .i64 m.clk)) ⟨w.heap.size + 1 + 1, 1, none⟩ (.slice A1 (turnR m.L e.h 3).length c1)) fun g cs hg => Below.heap_setCell _ _ _ _ (types_ne hg (blk_put hrr 0 _ rfl) (by decide)))
 have HBL := Aside0.mk (below_set (g := w.heap.size + 1 + 1) (j := 1) (v := .slice A1 (turnR m.L e.h 3).length c1) (below_set (g := w.heap.size + 1 + 1) (j := 0) (v := .int .i64 m.clk) HN7.out.rj.below (by omega)) (by omega))
 unfold RdPost
 rw [HF.out]
 exact bodyPost_ret (v := .tuple #[.agg #[.int .i64 m.clk, .slice A1 (turnR m.L e.h 3).length c1], .int .i64 0]) (by simp [results, Try.results45, asAddr, go_sem, hu0, hcr, hlr]) rfl ⟨_, rfl, HE.out, HBL.out⟩
theorem rdo_cancel_10 {w : World} {B : Nat} (m : Rm) (v : Value) (e : Au.Ev) (hn : m.L.length ≤ 90000) (nd : (m.L.map S127.h).Nodup) (hB : B ≤ w.heap.size) (h : KR w B v m.L) (hr : rightJ e = true) (hk : e.k = 3) (ho : e.op = 2) (hy : e.y = false) (ha : statR m.L e.h = 1) :
  Calls Try.prog 45 #[.agg #[.int .i64 m.clk, v], .agg (evA e)] w (RdPost B w (rdoF m e)) := by
 have hu0 := Try.underlying43
 have hu1 := Try.underlying36
 have hu2 := Try.underlying50
 have hu3 := Try.underlying127
 have HF := Aside0.mk (show rdoF m e = (m, 6) by unfold rdoF; rw [if_neg (by rw [hr]; simp; omega), if_neg (by omega), if_neg (by omega)]; unfold rpF; rw [if_neg (by omega), if_pos ho, if_neg (by simp [ha, hy])])
 have qk1 : (e.k == 1) = false := beq_eq_false_iff_ne.2 (by omega)
 have qk2 : (e.k == 2) = false := beq_eq_false_iff_ne.2 (by omega)
 have qk4 : (e.k == 4) = false := beq_eq_false_iff_ne.2 (by omega)
 have qk5 : (e.k == 5) = false := beq_eq_false_iff_ne.2 (by omega)
 have qp1 : (e.op == 1) = false := beq_eq_false_iff_ne.2 (by omega)
 have qp2 : (e.op == 2) = true := beq_iff_eq.2 (ho)
 have qp3 : (e.op == 3) = false := beq_eq_false_iff_ne.2 (by omega)
 have qp4 : (e.op == 4) = false := beq_eq_false_iff_ne.2 (by omega)
 have qs : (statR m.L e.h == 1) = true := beq_iff_eq.2 (ha)
 have HY := Aside0.mk hy
 obtain ⟨A, c, rfl⟩ := Kd.R_slice h
 have CR := Aside0.mk (fun W => rright_run e W)
 have CS : Aside0 (∀ W, KR W B (.slice A m.L.length c) m.L → Calls Try.prog 35 #[.agg #[.int .i64 m.clk, .slice A m.L.length c], .agg #[.int .i64 e.hn, .int .i64 e.hg]] W fun r w' => r = .returned (.int .i64 (statR m.L e.h)) ∧ Below W.heap.size W w') := ⟨fun W hW => stat_calls hW (by omega) e.hn e.hg⟩
 have HN := Aside0.mk hn
 have HND := Aside0.mk nd
 have HB := Aside0.mk hB
 have HJ := Aside0.mk (Rj.start h m.clk e)
 rw [hr] at CR
 clear hn nd hB h hr hk ho hy ha
 have hcb := fun i => blk_cell HJ.out.b i
 have hce := fun i => blk_cell HJ.out.e_ i
 have hlb := blk_lt HJ.out.b
 have hle := blk_lt HJ.out.e_
 have hlr := (by obtain ⟨_, _, q⟩ := HJ.out.r; exact blk_lt q : w.heap.size + 1 + 1 < _)
 obtain ⟨sv, hsv⟩ : ∃ sv, statR m.L e.h = sv := ⟨_, rfl⟩
 try rw [hsv] at CS
 try rw [hsv] at qs
 clear hsv
 go_enter Try.func45, Try.ntmps45
 go_upto_region 14 with (first | (go_at_call 62; (with_reducible refine (CR.out _).mono ?_); rintro r w2 ⟨rfl, hb⟩; have HJ2 := Aside0.mk (HJ.out.step hb); clear hb hcb hce hlb hle hlr HJ; have HJ := HJ2; clear HJ2; have hcb := fun i => blk_cell HJ.out.b i; have hce := fun i => blk_cell HJ.out.e_ i; have hlb := blk_lt HJ.out.b; have hle := blk_lt HJ.out.e_; have hlr := (by obtain ⟨_, _, q⟩ := HJ.out.r; exact blk_lt q : w.heap.size + 1 + 1 < _)) | (go_at_call 35; (with_reducible refine (CS.out _ HJ.out.kr).mono ?_); rintro r w3 ⟨rfl, hb⟩; have HJ2 := Aside0.mk (HJ.out.step hb); clear hb hcb hce hlb hle hlr HJ; have HJ := HJ2; clear HJ2; have hcb := fun i => blk_cell HJ.out.b i; have hce := fun i => blk_cell HJ.out.e_ i; have hlb := blk_lt HJ.out.b; have hle := blk_lt HJ.out.e_; have hlr := (by obtain ⟨_, _, q⟩ := HJ.out.r; exact blk_lt q : w.heap.size + 1 + 1 < _)))
 go_upto_region 15 with (fail)
 obtain ⟨nb, hnb⟩ : ∃ nb, w3.heap.size = nb := ⟨_, rfl⟩
 refine gen_world' (fun W => Nj B w W m.clk (.slice A m.L.length c) m.L e nb (.slice A m.L.length c) m.L) (by rw [← hnb]; exact Nj.start HJ.out) fun w4 H4 => ?_
 have HN4 := Aside0.mk H4
 have HJ4 := Aside0.mk H4.rj
 clear H4 HJ
 clear hcb hce hlb hle hlr
 have hcb := fun i => blk_cell HJ4.out.b i
 have hce := fun i => blk_cell HJ4.out.e_ i
 have hlb := blk_lt HJ4.out.b
 have hle := blk_lt HJ4.out.e_
 have hlr := (by obtain ⟨_, _, q⟩ := HJ4.out.r; exact blk_lt q : w.heap.size + 1 + 1 < _)
 have hcn := fun i => blk_cell HN4.out.nb_ i
 have hln := blk_lt HN4.out.nb_
 have hfn := fun i => blk_frozen HN4.out.nb_ i
 have y0 := HY.out
 go_upto_region 37 with (fail)
 obtain ⟨rs, hrs, hrr⟩ := HJ4.out.r
 obtain ⟨x0, x1, rfl⟩ : ∃ x0 x1, rs = #[x0, x1] := by rcases rs with ⟨_ | ⟨x0, _ | ⟨x1, _ | _⟩⟩⟩ <;> simp at hrs; exact ⟨_, _, rfl⟩
 have hcr := fun i => blk_cell hrr i
 have hfr := fun i => blk_frozen hrr i
 clear hrs
 go_wp2
 have HE := Aside0.mk (show KR _ B (.slice A m.L.length c) m.L from KR.keep (KR.keep HJ4.out.kr (W1 := World.setCell _ ⟨w.heap.size + 1 + 1, 0, none⟩ (.int .i64 m.clk)) fun g cs hg => Below.heap_setCell _ _ _ _ (types_ne hg hrr (by decide))) (W1 := World.setCell (World.setCell _ ⟨w.heap.size + 1 + 1, 0, none⟩ (.int .i64 m.clk)) ⟨w.heap.size + 1 + 1, 1, none⟩ (.slice A m.L.length c)) fun g cs hg => Below.heap_setCell _ _ _ _ (types_ne hg (blk_put hrr 0 _ rfl) (by decide)))
 have HBL := Aside0.mk (below_set (g := w.heap.size + 1 + 1) (j := 1) (v := .slice A m.L.length c) (below_set (g := w.heap.size + 1 + 1) (j := 0) (v := .int .i64 m.clk) HJ4.out.below (by omega)) (by omega))
 unfold RdPost
 rw [HF.out]
 exact bodyPost_ret (v := .tuple #[.agg #[.int .i64 m.clk, .slice A m.L.length c], .int .i64 6]) (by simp [results, Try.results45, asAddr, go_sem, hu0, hcr, hlr]) rfl ⟨_, rfl, HE.out, HBL.out⟩
theorem rdo_cancel_01 {w : World} {B : Nat} (m : Rm) (v : Value) (e : Au.Ev) (hn : m.L.length ≤ 90000) (nd : (m.L.map S127.h).Nodup) (hB : B ≤ w.heap.size) (h : KR w B v m.L) (hr : rightJ e = true) (hk : e.k = 3) (ho : e.op = 2) (hy : e.y = true) (ha : ¬ statR m.L e.h = 1) :
  Calls Try.prog 45 #[.agg #[.int .i64 m.clk, v], .agg (evA e)] w (RdPost B w (rdoF m e)) := by
 have hu0 := Try.underlying43
 have hu1 := Try.underlying36
 have hu2 := Try.underlying50
 have hu3 := Try.underlying127
 have HF := Aside0.mk (show rdoF m e = (m, 6) by unfold rdoF; rw [if_neg (by rw [hr]; simp; omega), if_neg (by omega), if_neg (by omega)]; unfold rpF; rw [if_neg (by omega), if_pos ho, if_neg (by simp [ha, hy])])
 have qk1 : (e.k == 1) = false := beq_eq_false_iff_ne.2 (by omega)
 have qk2 : (e.k == 2) = false := beq_eq_false_iff_ne.2 (by omega)
 have qk4 : (e.k == 4) = false := beq_eq_false_iff_ne.2 (by omega)
 have qk5 : (e.k == 5) = false := beq_eq_false_iff_ne.2 (by omega)
 have qp1 : (e.op == 1) = false := beq_eq_false_iff_ne.2 (by omega)
 have qp2 : (e.op == 2) = true := beq_iff_eq.2 (ho)
 have qp3 : (e.op == 3) = false := beq_eq_false_iff_ne.2 (by omega)
 have qp4 : (e.op == 4) = false := beq_eq_false_iff_ne.2 (by omega)
 have qs : (statR m.L e.h == 1) = false := beq_eq_false_iff_ne.2 (ha)
 have HY := Aside0.mk hy
 obtain ⟨A, c, rfl⟩ := Kd.R_slice h
 have CR := Aside0.mk (fun W => rright_run e W)
 have CS : Aside0 (∀ W, KR W B (.slice A m.L.length c) m.L → Calls Try.prog 35 #[.agg #[.int .i64 m.clk, .slice A m.L.length c], .agg #[.int .i64 e.hn, .int .i64 e.hg]] W fun r w' => r = .returned (.int .i64 (statR m.L e.h)) ∧ Below W.heap.size W w') := ⟨fun W hW => stat_calls hW (by omega) e.hn e.hg⟩
 have HN := Aside0.mk hn
 have HND := Aside0.mk nd
 have HB := Aside0.mk hB
 have HJ := Aside0.mk (Rj.start h m.clk e)
 rw [hr] at CR
 clear hn nd hB h hr hk ho hy ha
 have hcb := fun i => blk_cell HJ.out.b i
 have hce := fun i => blk_cell HJ.out.e_ i
 have hlb := blk_lt HJ.out.b
 have hle := blk_lt HJ.out.e_
 have hlr := (by obtain ⟨_, _, q⟩ := HJ.out.r; exact blk_lt q : w.heap.size + 1 + 1 < _)
 obtain ⟨sv, hsv⟩ : ∃ sv, statR m.L e.h = sv := ⟨_, rfl⟩
 try rw [hsv] at CS
 try rw [hsv] at qs
 clear hsv
 go_enter Try.func45, Try.ntmps45
 go_upto_region 14 with (first | (go_at_call 62; (with_reducible refine (CR.out _).mono ?_); rintro r w2 ⟨rfl, hb⟩; have HJ2 := Aside0.mk (HJ.out.step hb); clear hb hcb hce hlb hle hlr HJ; have HJ := HJ2; clear HJ2; have hcb := fun i => blk_cell HJ.out.b i; have hce := fun i => blk_cell HJ.out.e_ i; have hlb := blk_lt HJ.out.b; have hle := blk_lt HJ.out.e_; have hlr := (by obtain ⟨_, _, q⟩ := HJ.out.r; exact blk_lt q : w.heap.size + 1 + 1 < _)) | (go_at_call 35; (with_reducible refine (CS.out _ HJ.out.kr).mono ?_); rintro r w3 ⟨rfl, hb⟩; have HJ2 := Aside0.mk (HJ.out.step hb); clear hb hcb hce hlb hle hlr HJ; have HJ := HJ2; clear HJ2; have hcb := fun i => blk_cell HJ.out.b i; have hce := fun i => blk_cell HJ.out.e_ i; have hlb := blk_lt HJ.out.b; have hle := blk_lt HJ.out.e_; have hlr := (by obtain ⟨_, _, q⟩ := HJ.out.r; exact blk_lt q : w.heap.size + 1 + 1 < _)))
 go_upto_region 15 with (fail)
 obtain ⟨nb, hnb⟩ : ∃ nb, w3.heap.size = nb := ⟨_, rfl⟩
 refine gen_world' (fun W => Nj B w W m.clk (.slice A m.L.length c) m.L e nb (.slice A m.L.length c) m.L) (by rw [← hnb]; exact Nj.start HJ.out) fun w4 H4 => ?_
 have HN4 := Aside0.mk H4
 have HJ4 := Aside0.mk H4.rj
 clear H4 HJ
 clear hcb hce hlb hle hlr
 have hcb := fun i => blk_cell HJ4.out.b i
 have hce := fun i => blk_cell HJ4.out.e_ i
 have hlb := blk_lt HJ4.out.b
 have hle := blk_lt HJ4.out.e_
 have hlr := (by obtain ⟨_, _, q⟩ := HJ4.out.r; exact blk_lt q : w.heap.size + 1 + 1 < _)
 have hcn := fun i => blk_cell HN4.out.nb_ i
 have hln := blk_lt HN4.out.nb_
 have hfn := fun i => blk_frozen HN4.out.nb_ i
 have y0 := HY.out
 go_upto_region 37 with (fail)
 obtain ⟨rs, hrs, hrr⟩ := HJ4.out.r
 obtain ⟨x0, x1, rfl⟩ : ∃ x0 x1, rs = #[x0, x1] := by rcases rs with ⟨_ | ⟨x0, _ | ⟨x1, _ | _⟩⟩⟩ <;> simp at hrs; exact ⟨_, _, rfl⟩
 have hcr := fun i => blk_cell hrr i
 have hfr := fun i => blk_frozen hrr i
 clear hrs
 go_wp2
 have HE := Aside0.mk (show KR _ B (.slice A m.L.length c) m.L from KR.keep (KR.keep HJ4.out.kr (W1 := World.setCell _ ⟨w.heap.size + 1 + 1, 0, none⟩ (.int .i64 m.clk)) fun g cs hg => Below.heap_setCell _ _ _ _ (types_ne hg hrr (by decide))) (W1 := World.setCell (World.setCell _ ⟨w.heap.size + 1 + 1, 0, none⟩ (.int .i64 m.clk)) ⟨w.heap.size + 1 + 1, 1, none⟩ (.slice A m.L.length c)) fun g cs hg => Below.heap_setCell _ _ _ _ (types_ne hg (blk_put hrr 0 _ rfl) (by decide)))
 have HBL := Aside0.mk (below_set (g := w.heap.size + 1 + 1) (j := 1) (v := .slice A m.L.length c) (below_set (g := w.heap.size + 1 + 1) (j := 0) (v := .int .i64 m.clk) HJ4.out.below (by omega)) (by omega))
 unfold RdPost
 rw [HF.out]
 exact bodyPost_ret (v := .tuple #[.agg #[.int .i64 m.clk, .slice A m.L.length c], .int .i64 6]) (by simp [results, Try.results45, asAddr, go_sem, hu0, hcr, hlr]) rfl ⟨_, rfl, HE.out, HBL.out⟩
theorem rdo_cancel_00 {w : World} {B : Nat} (m : Rm) (v : Value) (e : Au.Ev) (hn : m.L.length ≤ 90000) (nd : (m.L.map S127.h).Nodup) (hB : B ≤ w.heap.size) (h : KR w B v m.L) (hr : rightJ e = true) (hk : e.k = 3) (ho : e.op = 2) (hy : e.y = false) (ha : ¬ statR m.L e.h = 1) :
  Calls Try.prog 45 #[.agg #[.int .i64 m.clk, v], .agg (evA e)] w (RdPost B w (rdoF m e)) := by
 have hu0 := Try.underlying43
 have hu1 := Try.underlying36
 have hu2 := Try.underlying50
 have hu3 := Try.underlying127
 have HF := Aside0.mk (show rdoF m e = (m, 0) by unfold rdoF; rw [if_neg (by rw [hr]; simp; omega), if_neg (by omega), if_neg (by omega)]; unfold rpF; rw [if_neg (by omega), if_pos ho, if_pos (by simp [ha, hy]), if_neg (by simp [hy])])
 have qk1 : (e.k == 1) = false := beq_eq_false_iff_ne.2 (by omega)
 have qk2 : (e.k == 2) = false := beq_eq_false_iff_ne.2 (by omega)
 have qk4 : (e.k == 4) = false := beq_eq_false_iff_ne.2 (by omega)
 have qk5 : (e.k == 5) = false := beq_eq_false_iff_ne.2 (by omega)
 have qp1 : (e.op == 1) = false := beq_eq_false_iff_ne.2 (by omega)
 have qp2 : (e.op == 2) = true := beq_iff_eq.2 (ho)
 have qp3 : (e.op == 3) = false := beq_eq_false_iff_ne.2 (by omega)
 have qp4 : (e.op == 4) = false := beq_eq_false_iff_ne.2 (by omega)
 have qs : (statR m.L e.h == 1) = false := beq_eq_false_iff_ne.2 (ha)
 have HY := Aside0.mk hy
 obtain ⟨A, c, rfl⟩ := Kd.R_slice h
 have CR := Aside0.mk (fun W => rright_run e W)
 have CS : Aside0 (∀ W, KR W B (.slice A m.L.length c) m.L → Calls Try.prog 35 #[.agg #[.int .i64 m.clk, .slice A m.L.length c], .agg #[.int .i64 e.hn, .int .i64 e.hg]] W fun r w' => r = .returned (.int .i64 (statR m.L e.h)) ∧ Below W.heap.size W w') := ⟨fun W hW => stat_calls hW (by omega) e.hn e.hg⟩
 have HN := Aside0.mk hn
 have HND := Aside0.mk nd
 have HB := Aside0.mk hB
 have HJ := Aside0.mk (Rj.start h m.clk e)
 rw [hr] at CR
 clear hn nd hB h hr hk ho hy ha
 have hcb := fun i => blk_cell HJ.out.b i
 have hce := fun i => blk_cell HJ.out.e_ i
 have hlb := blk_lt HJ.out.b
 have hle := blk_lt HJ.out.e_
 have hlr := (by obtain ⟨_, _, q⟩ := HJ.out.r; exact blk_lt q : w.heap.size + 1 + 1 < _)
 obtain ⟨sv, hsv⟩ : ∃ sv, statR m.L e.h = sv := ⟨_, rfl⟩
 try rw [hsv] at CS
 try rw [hsv] at qs
 clear hsv
 go_enter Try.func45, Try.ntmps45
 go_upto_region 14 with (first | (go_at_call 62; (with_reducible refine (CR.out _).mono ?_); rintro r w2 ⟨rfl, hb⟩; have HJ2 := Aside0.mk (HJ.out.step hb); clear hb hcb hce hlb hle hlr HJ; have HJ := HJ2; clear HJ2; have hcb := fun i => blk_cell HJ.out.b i; have hce := fun i => blk_cell HJ.out.e_ i; have hlb := blk_lt HJ.out.b; have hle := blk_lt HJ.out.e_; have hlr := (by obtain ⟨_, _, q⟩ := HJ.out.r; exact blk_lt q : w.heap.size + 1 + 1 < _)) | (go_at_call 35; (with_reducible refine (CS.out _ HJ.out.kr).mono ?_); rintro r w3 ⟨rfl, hb⟩; have HJ2 := Aside0.mk (HJ.out.step hb); clear hb hcb hce hlb hle hlr HJ; have HJ := HJ2; clear HJ2; have hcb := fun i => blk_cell HJ.out.b i; have hce := fun i => blk_cell HJ.out.e_ i; have hlb := blk_lt HJ.out.b; have hle := blk_lt HJ.out.e_; have hlr := (by obtain ⟨_, _, q⟩ := HJ.out.r; exact blk_lt q : w.heap.size + 1 + 1 < _)))
 go_upto_region 15 with (fail)
 obtain ⟨nb, hnb⟩ : ∃ nb, w3.heap.size = nb := ⟨_, rfl⟩
 refine gen_world' (fun W => Nj B w W m.clk (.slice A m.L.length c) m.L e nb (.slice A m.L.length c) m.L) (by rw [← hnb]; exact Nj.start HJ.out) fun w4 H4 => ?_
 have HN4 := Aside0.mk H4
 have HJ4 := Aside0.mk H4.rj
 clear H4 HJ
 clear hcb hce hlb hle hlr
 have hcb := fun i => blk_cell HJ4.out.b i
 have hce := fun i => blk_cell HJ4.out.e_ i
 have hlb := blk_lt HJ4.out.b
 have hle := blk_lt HJ4.out.e_
 have hlr := (by obtain ⟨_, _, q⟩ := HJ4.out.r; exact blk_lt q : w.heap.size + 1 + 1 < _)
 have hcn := fun i => blk_cell HN4.out.nb_ i
 have hln := blk_lt HN4.out.nb_
 have hfn := fun i => blk_frozen HN4.out.nb_ i
 have y0 := HY.out
 go_upto_region 38 with (fail)
 obtain ⟨rs, hrs, hrr⟩ := HN4.out.rj.r
 obtain ⟨x0, x1, rfl⟩ : ∃ x0 x1, rs = #[x0, x1] := by rcases rs with ⟨_ | ⟨x0, _ | ⟨x1, _ | _⟩⟩⟩ <;> simp at hrs; exact ⟨_, _, rfl⟩
 have hcr := fun i => blk_cell hrr i
 have hfr := fun i => blk_frozen hrr i
 clear hrs
 go_wp2
 have HE := Aside0.mk (show KR _ B (.slice A m.L.length c) m.L from KR.keep (KR.keep HN4.out.kn (W1 := World.setCell _ ⟨w.heap.size + 1 + 1, 0, none⟩ (.int .i64 m.clk)) fun g cs hg => Below.heap_setCell _ _ _ _ (types_ne hg hrr (by decide))) (W1 := World.setCell (World.setCell _ ⟨w.heap.size + 1 + 1, 0, none⟩ (.int .i64 m.clk)) ⟨w.heap.size + 1 + 1, 1, none⟩ (.slice A m.L.length c)) fun g cs hg => Below.heap_setCell _ _ _ _ (types_ne hg (blk_put hrr 0 _ rfl) (by decide)))
 have HBL := Aside0.mk (below_set (g := w.heap.size + 1 + 1) (j := 1) (v := .slice A m.L.length c) (below_set (g := w.heap.size + 1 + 1) (j := 0) (v := .int .i64 m.clk) HN4.out.rj.below (by omega)) (by omega))
 unfold RdPost
 rw [HF.out]
 exact bodyPost_ret (v := .tuple #[.agg #[.int .i64 m.clk, .slice A m.L.length c], .int .i64 0]) (by simp [results, Try.results45, asAddr, go_sem, hu0, hcr, hlr]) rfl ⟨_, rfl, HE.out, HBL.out⟩
theorem rdo_start {w : World} {B : Nat} (m : Rm) (v : Value) (e : Au.Ev) (hn : m.L.length ≤ 90000) (nd : (m.L.map S127.h).Nodup) (hB : B ≤ w.heap.size) (h : KR w B v m.L) (hr : rightJ e = true) (hk : e.k = 3) (ho : e.op = 1) (he : e.er = 0) (hf : freeR m.L e.new = true) :
  Calls Try.prog 45 #[.agg #[.int .i64 m.clk, v], .agg (evA e)] w (RdPost B w (rdoF m e)) := by
 have hu0 := Try.underlying43
 have hu1 := Try.underlying36
 have hu2 := Try.underlying50
 have hu3 := Try.underlying127
 have HF := Aside0.mk (show rdoF m e = ({ m with L := armR m.L e.new e.t }, 0) by unfold rdoF; rw [if_neg (by rw [hr]; simp; omega), if_neg (by omega), if_neg (by omega)]; unfold rpF; rw [if_pos ho, if_pos he, if_pos hf])
 have qk1 : (e.k == 1) = false := beq_eq_false_iff_ne.2 (by omega)
 have qk2 : (e.k == 2) = false := beq_eq_false_iff_ne.2 (by omega)
 have qk4 : (e.k == 4) = false := beq_eq_false_iff_ne.2 (by omega)
 have qk5 : (e.k == 5) = false := beq_eq_false_iff_ne.2 (by omega)
 have qp1 : (e.op == 1) = true := beq_iff_eq.2 (ho)
 have qp2 : (e.op == 2) = false := beq_eq_false_iff_ne.2 (by omega)
 have qp3 : (e.op == 3) = false := beq_eq_false_iff_ne.2 (by omega)
 have qp4 : (e.op == 4) = false := beq_eq_false_iff_ne.2 (by omega)
 have qr0 : (e.er == 0) = true := beq_iff_eq.2 (he)
 have qr4 : (e.er == 4) = false := beq_eq_false_iff_ne.2 (by omega)
 obtain ⟨A, c, rfl⟩ := Kd.R_slice h
 have CR := Aside0.mk (fun W => rright_run e W)
 have CS : Aside0 (∀ W, KR W B (.slice A m.L.length c) m.L → Calls Try.prog 35 #[.agg #[.int .i64 m.clk, .slice A m.L.length c], .agg #[.int .i64 e.hn, .int .i64 e.hg]] W fun r w' => r = .returned (.int .i64 (statR m.L e.h)) ∧ Below W.heap.size W w') := ⟨fun W hW => stat_calls hW (by omega) e.hn e.hg⟩
 have HN := Aside0.mk hn
 have HND := Aside0.mk nd
 have HB := Aside0.mk hB
 have HJ := Aside0.mk (Rj.start h m.clk e)
 rw [hr] at CR
 have CF : Aside0 (∀ W, Rj B w W m.clk (.slice A m.L.length c) m.L e → Calls Try.prog 80 #[.agg #[.int .i64 m.clk, .slice A m.L.length c], .agg #[.int .i64 e.nn, .int .i64 e.ng]] W fun r w' => r = .returned (.bool true) ∧ Below W.heap.size W w') := ⟨fun W hW => by have := free_calls (clk := m.clk) hW.kr (by omega) e.nn e.ng; rw [show freeR m.L (e.nn, e.ng) = true from hf] at this; exact this⟩
 have CA : Aside0 (∀ W, Rj B w W m.clk (.slice A m.L.length c) m.L e → Calls Try.prog 81 #[.agg #[.int .i64 m.clk, .slice A m.L.length c], .agg #[.int .i64 e.nn, .int .i64 e.ng], .int .i64 e.t] W fun r w' => ∃ A1 c1, r = .returned (.agg #[.int .i64 m.clk, .slice A1 (armR m.L e.new e.t).length c1]) ∧ KR w' B (.slice A1 (armR m.L e.new e.t).length c1) (armR m.L e.new e.t) ∧ Below W.heap.size W w') := ⟨fun W hW => arm_calls hW.kr (by have := hW.below.size; omega) (by omega) e.nn e.ng e.t⟩
 clear hn nd hB h hr hk ho he hf
 have hcb := fun i => blk_cell HJ.out.b i
 have hce := fun i => blk_cell HJ.out.e_ i
 have hlb := blk_lt HJ.out.b
 have hle := blk_lt HJ.out.e_
 have hlr := (by obtain ⟨_, _, q⟩ := HJ.out.r; exact blk_lt q : w.heap.size + 1 + 1 < _)
 obtain ⟨sv, hsv⟩ : ∃ sv, statR m.L e.h = sv := ⟨_, rfl⟩
 try rw [hsv] at CS
 try rw [hsv] at qs
 clear hsv
 go_enter Try.func45, Try.ntmps45
 go_upto_region 14 with (first | (go_at_call 62; (with_reducible refine (CR.out _).mono ?_); rintro r w2 ⟨rfl, hb⟩; have HJ2 := Aside0.mk (HJ.out.step hb); clear hb hcb hce hlb hle hlr HJ; have HJ := HJ2; clear HJ2; have hcb := fun i => blk_cell HJ.out.b i; have hce := fun i => blk_cell HJ.out.e_ i; have hlb := blk_lt HJ.out.b; have hle := blk_lt HJ.out.e_; have hlr := (by obtain ⟨_, _, q⟩ := HJ.out.r; exact blk_lt q : w.heap.size + 1 + 1 < _)) | (go_at_call 35; (with_reducible refine (CS.out _ HJ.out.kr).mono ?_); rintro r w3 ⟨rfl, hb⟩; have HJ2 := Aside0.mk (HJ.out.step hb); clear hb hcb hce hlb hle hlr HJ; have HJ := HJ2; clear HJ2; have hcb := fun i => blk_cell HJ.out.b i; have hce := fun i => blk_cell HJ.out.e_ i; have hlb := blk_lt HJ.out.b; have hle := blk_lt HJ.out.e_; have hlr := (by obtain ⟨_, _, q⟩ := HJ.out.r; exact blk_lt q : w.heap.size + 1 + 1 < _)))
 go_upto_region 15 with (fail)
 obtain ⟨nb, hnb⟩ : ∃ nb, w3.heap.size = nb := ⟨_, rfl⟩
 refine gen_world' (fun W => Nj B w W m.clk (.slice A m.L.length c) m.L e nb (.slice A m.L.length c) m.L) (by rw [← hnb]; exact Nj.start HJ.out) fun w4 H4 => ?_
 have HN4 := Aside0.mk H4
 have HJ4 := Aside0.mk H4.rj
 clear H4 HJ
 clear hcb hce hlb hle hlr
 have hcb := fun i => blk_cell HJ4.out.b i
 have hce := fun i => blk_cell HJ4.out.e_ i
 have hlb := blk_lt HJ4.out.b
 have hle := blk_lt HJ4.out.e_
 have hlr := (by obtain ⟨_, _, q⟩ := HJ4.out.r; exact blk_lt q : w.heap.size + 1 + 1 < _)
 have hcn := fun i => blk_cell HN4.out.nb_ i
 have hln := blk_lt HN4.out.nb_
 have hfn := fun i => blk_frozen HN4.out.nb_ i
 go_upto_region 36 with (first | (go_at_call 80; (with_reducible refine (CF.out _ HJ4.out).mono ?_); rintro r w5 ⟨rfl, hb⟩; have HN5 := Aside0.mk (HN4.out.step hb); have HJ5 := Aside0.mk (HJ4.out.step hb); clear hb hcn hln hfn hcb hce hlb hle hlr; have hcb := fun i => blk_cell HJ5.out.b i; have hce := fun i => blk_cell HJ5.out.e_ i; have hlb := blk_lt HJ5.out.b; have hle := blk_lt HJ5.out.e_; have hlr := (by obtain ⟨_, _, q⟩ := HJ5.out.r; exact blk_lt q : w.heap.size + 1 + 1 < _)) | (go_at_call 81; (with_reducible refine (CA.out _ HJ5.out).mono ?_); rintro r w7 ⟨A2, c2, rfl, hk1, hb⟩; have HN7 := Aside0.mk (HN5.out.next hb hk1); have hcn7 := fun i => blk_cell (HN5.out.step hb).nb_ i; have hfn7 := fun i => blk_frozen (HN5.out.step hb).nb_ i; have hln7 := blk_lt (HN5.out.step hb).nb_; clear hb hk1 hcb hce hlb hle hlr))
 clear hcn7 hfn7 hln7
 have hcb := fun i => blk_cell HN7.out.rj.b i
 have hce := fun i => blk_cell HN7.out.rj.e_ i
 have hlb := blk_lt HN7.out.rj.b
 have hle := blk_lt HN7.out.rj.e_
 have hlr := (by obtain ⟨_, _, q⟩ := HN7.out.rj.r; exact blk_lt q : w.heap.size + 1 + 1 < _)
 have hcn := fun i => blk_cell HN7.out.nb_ i
 have hln := blk_lt HN7.out.nb_
 go_upto_region 38 with (fail)
 obtain ⟨rs, hrs, hrr⟩ := HN7.out.rj.r
 obtain ⟨x0, x1, rfl⟩ : ∃ x0 x1, rs = #[x0, x1] := by rcases rs with ⟨_ | ⟨x0, _ | ⟨x1, _ | _⟩⟩⟩ <;> simp at hrs; exact ⟨_, _, rfl⟩
 have hcr := fun i => blk_cell hrr i
 have hfr := fun i => blk_frozen hrr i
 clear hrs
 go_wp2
 have HE := Aside0.mk (show KR _ B (.slice A2 (armR m.L e.new e.t).length c2) (armR m.L e.new e.t) from KR.keep (KR.keep HN7.out.kn (W1 := World.setCell _ ⟨w.heap.size + 1 + 1, 0, none⟩ (.int .i64 m.clk)) fun g cs hg => Below.heap_setCell _ _ _ _ (types_ne hg hrr (by decide))) (W1 := World.setCell (World.setCell _ ⟨w.heap.size + 1 + 1, 0, none⟩ (.int .i64 m.clk)) ⟨w.heap.size + 1 + 1, 1, none⟩ (.slice A2 (armR m.L e.new e.t).length c2)) fun g cs hg => Below.heap_setCell _ _ _ _ (types_ne hg (blk_put hrr 0 _ rfl) (by decide)))
 have HBL := Aside0.mk (below_set (g := w.heap.size + 1 + 1) (j := 1) (v := .slice A2 (armR m.L e.new e.t).length c2) (below_set (g := w.heap.size + 1 + 1) (j := 0) (v := .int .i64 m.clk) HN7.out.rj.below (by omega)) (by omega))
 unfold RdPost
 rw [HF.out]
 exact bodyPost_ret (v := .tuple #[.agg #[.int .i64 m.clk, .slice A2 (armR m.L e.new e.t).length c2], .int .i64 0]) (by simp [results, Try.results45, asAddr, go_sem, hu0, hcr, hlr]) rfl ⟨_, rfl, HE.out, HBL.out⟩
theorem rdo_start_no {w : World} {B : Nat} (m : Rm) (v : Value) (e : Au.Ev) (hn : m.L.length ≤ 90000) (nd : (m.L.map S127.h).Nodup) (hB : B ≤ w.heap.size) (h : KR w B v m.L) (hr : rightJ e = true) (hk : e.k = 3) (ho : e.op = 1) (he : e.er = 0) (hf : freeR m.L e.new = false) :
  Calls Try.prog 45 #[.agg #[.int .i64 m.clk, v], .agg (evA e)] w (RdPost B w (rdoF m e)) := by
 have hu0 := Try.underlying43
 have hu1 := Try.underlying36
 have hu2 := Try.underlying50
 have hu3 := Try.underlying127
 have HF := Aside0.mk (show rdoF m e = (m, 6) by unfold rdoF; rw [if_neg (by rw [hr]; simp; omega), if_neg (by omega), if_neg (by omega)]; unfold rpF; rw [if_pos ho, if_pos he, if_neg (by rw [hf]; simp)])
 have qk1 : (e.k == 1) = false := beq_eq_false_iff_ne.2 (by omega)
 have qk2 : (e.k == 2) = false := beq_eq_false_iff_ne.2 (by omega)
 have qk4 : (e.k == 4) = false := beq_eq_false_iff_ne.2 (by omega)
 have qk5 : (e.k == 5) = false := beq_eq_false_iff_ne.2 (by omega)
 have qp1 : (e.op == 1) = true := beq_iff_eq.2 (ho)
 have qp2 : (e.op == 2) = false := beq_eq_false_iff_ne.2 (by omega)
 have qp3 : (e.op == 3) = false := beq_eq_false_iff_ne.2 (by omega)
 have qp4 : (e.op == 4) = false := beq_eq_false_iff_ne.2 (by omega)
 have qr0 : (e.er == 0) = true := beq_iff_eq.2 (he)
 have qr4 : (e.er == 4) = false := beq_eq_false_iff_ne.2 (by omega)
 obtain ⟨A, c, rfl⟩ := Kd.R_slice h
 have CR := Aside0.mk (fun W => rright_run e W)
 have CS : Aside0 (∀ W, KR W B (.slice A m.L.length c) m.L → Calls Try.prog 35 #[.agg #[.int .i64 m.clk, .slice A m.L.length c], .agg #[.int .i64 e.hn, .int .i64 e.hg]] W fun r w' => r = .returned (.int .i64 (statR m.L e.h)) ∧ Below W.heap.size W w') := ⟨fun W hW => stat_calls hW (by omega) e.hn e.hg⟩
 have HN := Aside0.mk hn
 have HND := Aside0.mk nd
 have HB := Aside0.mk hB
 have HJ := Aside0.mk (Rj.start h m.clk e)
 rw [hr] at CR
 have CF : Aside0 (∀ W, Rj B w W m.clk (.slice A m.L.length c) m.L e → Calls Try.prog 80 #[.agg #[.int .i64 m.clk, .slice A m.L.length c], .agg #[.int .i64 e.nn, .int .i64 e.ng]] W fun r w' => r = .returned (.bool false) ∧ Below W.heap.size W w') := ⟨fun W hW => by have := free_calls (clk := m.clk) hW.kr (by omega) e.nn e.ng; rw [show freeR m.L (e.nn, e.ng) = false from hf] at this; exact this⟩
 have CA : Aside0 (∀ W, Rj B w W m.clk (.slice A m.L.length c) m.L e → Calls Try.prog 81 #[.agg #[.int .i64 m.clk, .slice A m.L.length c], .agg #[.int .i64 e.nn, .int .i64 e.ng], .int .i64 e.t] W fun r w' => ∃ A1 c1, r = .returned (.agg #[.int .i64 m.clk, .slice A1 (armR m.L e.new e.t).length c1]) ∧ KR w' B (.slice A1 (armR m.L e.new e.t).length c1) (armR m.L e.new e.t) ∧ Below W.heap.size W w') := ⟨fun W hW => arm_calls hW.kr (by have := hW.below.size; omega) (by omega) e.nn e.ng e.t⟩
 clear hn nd hB h hr hk ho he hf
 have hcb := fun i => blk_cell HJ.out.b i
 have hce := fun i => blk_cell HJ.out.e_ i
 have hlb := blk_lt HJ.out.b
 have hle := blk_lt HJ.out.e_
 have hlr := (by obtain ⟨_, _, q⟩ := HJ.out.r; exact blk_lt q : w.heap.size + 1 + 1 < _)
 obtain ⟨sv, hsv⟩ : ∃ sv, statR m.L e.h = sv := ⟨_, rfl⟩
 try rw [hsv] at CS
 try rw [hsv] at qs
 clear hsv
 go_enter Try.func45, Try.ntmps45
 go_upto_region 14 with (first | (go_at_call 62; (with_reducible refine (CR.out _).mono ?_); rintro r w2 ⟨rfl, hb⟩; have HJ2 := Aside0.mk (HJ.out.step hb); clear hb hcb hce hlb hle hlr HJ; have HJ := HJ2; clear HJ2; have hcb := fun i => blk_cell HJ.out.b i; have hce := fun i => blk_cell HJ.out.e_ i; have hlb := blk_lt HJ.out.b; have hle := blk_lt HJ.out.e_; have hlr := (by obtain ⟨_, _, q⟩ := HJ.out.r; exact blk_lt q : w.heap.size + 1 + 1 < _)) | (go_at_call 35; (with_reducible refine (CS.out _ HJ.out.kr).mono ?_); rintro r w3 ⟨rfl, hb⟩; have HJ2 := Aside0.mk (HJ.out.step hb); clear hb hcb hce hlb hle hlr HJ; have HJ := HJ2; clear HJ2; have hcb := fun i => blk_cell HJ.out.b i; have hce := fun i => blk_cell HJ.out.e_ i; have hlb := blk_lt HJ.out.b; have hle := blk_lt HJ.out.e_; have hlr := (by obtain ⟨_, _, q⟩ := HJ.out.r; exact blk_lt q : w.heap.size + 1 + 1 < _)))
 go_upto_region 15 with (fail)
 obtain ⟨nb, hnb⟩ : ∃ nb, w3.heap.size = nb := ⟨_, rfl⟩
 refine gen_world' (fun W => Nj B w W m.clk (.slice A m.L.length c) m.L e nb (.slice A m.L.length c) m.L) (by rw [← hnb]; exact Nj.start HJ.out) fun w4 H4 => ?_
 have HN4 := Aside0.mk H4
 have HJ4 := Aside0.mk H4.rj
 clear H4 HJ
 clear hcb hce hlb hle hlr
 have hcb := fun i => blk_cell HJ4.out.b i
 have hce := fun i => blk_cell HJ4.out.e_ i
 have hlb := blk_lt HJ4.out.b
 have hle := blk_lt HJ4.out.e_
 have hlr := (by obtain ⟨_, _, q⟩ := HJ4.out.r; exact blk_lt q : w.heap.size + 1 + 1 < _)
 have hcn := fun i => blk_cell HN4.out.nb_ i
 have hln := blk_lt HN4.out.nb_
 have hfn := fun i => blk_frozen HN4.out.nb_ i
 go_upto_region 36 with (first | (go_at_call 80; (with_reducible refine (CF.out _ HJ4.out).mono ?_); rintro r w5 ⟨rfl, hb⟩; have HN5 := Aside0.mk (HN4.out.step hb); have HJ5 := Aside0.mk (HJ4.out.step hb); clear hb hcn hln hfn hcb hce hlb hle hlr; have hcb := fun i => blk_cell HJ5.out.b i; have hce := fun i => blk_cell HJ5.out.e_ i; have hlb := blk_lt HJ5.out.b; have hle := blk_lt HJ5.out.e_; have hlr := (by obtain ⟨_, _, q⟩ := HJ5.out.r; exact blk_lt q : w.heap.size + 1 + 1 < _)) | (go_at_call 81; (with_reducible refine (CA.out _ HJ5.out).mono ?_); rintro r w7 ⟨A2, c2, rfl, hk1, hb⟩; have HN7 := Aside0.mk (HN5.out.next hb hk1); have hcn7 := fun i => blk_cell (HN5.out.step hb).nb_ i; have hfn7 := fun i => blk_frozen (HN5.out.step hb).nb_ i; have hln7 := blk_lt (HN5.out.step hb).nb_; clear hb hk1 hcb hce hlb hle hlr))
 clear hcn7 hfn7 hln7
 have hcb := fun i => blk_cell HN7.out.rj.b i
 have hce := fun i => blk_cell HN7.out.rj.e_ i
 have hlb := blk_lt HN7.out.rj.b
 have hle := blk_lt HN7.out.rj.e_
 have hlr := (by obtain ⟨_, _, q⟩ := HN7.out.rj.r; exact blk_lt q : w.heap.size + 1 + 1 < _)
 have hcn := fun i => blk_cell HN7.out.nb_ i
 have hln := blk_lt HN7.out.nb_
 go_upto_region 37 with (fail)
 obtain ⟨rs, hrs, hrr⟩ := HN7.out.rj.r
 obtain ⟨x0, x1, rfl⟩ : ∃ x0 x1, rs = #[x0, x1] := by rcases rs with ⟨_ | ⟨x0, _ | ⟨x1, _ | _⟩⟩⟩ <;> simp at hrs; exact ⟨_, _, rfl⟩
 have hcr := fun i => blk_cell hrr i
 have hfr := fun i => blk_frozen hrr i
 clear hrs
 go_wp2
 have HE := Aside0.mk (show KR _ B (.slice A m.L.length c) m.L from KR.keep (KR.keep HN7.out.rj.kr (W1 := World.setCell _ ⟨w.heap.size + 1 + 1, 0, none⟩ (.int .i64 m.clk)) fun g cs hg => Below.heap_setCell _ _ _ _ (types_ne hg hrr (by decide))) (W1 := World.setCell (World.setCell _ ⟨w.heap.size + 1 + 1, 0, none⟩ (.int .i64 m.clk)) ⟨w.heap.size + 1 + 1, 1, none⟩ (.slice A m.L.length c)) fun g cs hg => Below.heap_setCell _ _ _ _ (types_ne hg (blk_put hrr 0 _ rfl) (by decide)))
 have HBL := Aside0.mk (below_set (g := w.heap.size + 1 + 1) (j := 1) (v := .slice A m.L.length c) (below_set (g := w.heap.size + 1 + 1) (j := 0) (v := .int .i64 m.clk) HN7.out.rj.below (by omega)) (by omega))
 unfold RdPost
 rw [HF.out]
 exact bodyPost_ret (v := .tuple #[.agg #[.int .i64 m.clk, .slice A m.L.length c], .int .i64 6]) (by simp [results, Try.results45, asAddr, go_sem, hu0, hcr, hlr]) rfl ⟨_, rfl, HE.out, HBL.out⟩
theorem rdo_rearm_no_a {w : World} {B : Nat} (m : Rm) (v : Value) (e : Au.Ev) (hn : m.L.length ≤ 90000) (nd : (m.L.map S127.h).Nodup) (hB : B ≤ w.heap.size) (h : KR w B v m.L) (hr : rightJ e = true) (hk : e.k = 3) (ho : e.op = 3) (he : e.er = 0) (ha : ¬ statR m.L e.h = 1) :
  Calls Try.prog 45 #[.agg #[.int .i64 m.clk, v], .agg (evA e)] w (RdPost B w (rdoF m e)) := by
 have hu0 := Try.underlying43
 have hu1 := Try.underlying36
 have hu2 := Try.underlying50
 have hu3 := Try.underlying127
 have HF := Aside0.mk (show rdoF m e = (m, 6) by unfold rdoF; rw [if_neg (by rw [hr]; simp; omega), if_neg (by omega), if_neg (by omega)]; unfold rpF; rw [if_neg (by omega), if_neg (by omega), if_pos ho, if_neg (by omega), if_pos he, if_neg (fun q => ha q.1)])
 have qk1 : (e.k == 1) = false := beq_eq_false_iff_ne.2 (by omega)
 have qk2 : (e.k == 2) = false := beq_eq_false_iff_ne.2 (by omega)
 have qk4 : (e.k == 4) = false := beq_eq_false_iff_ne.2 (by omega)
 have qk5 : (e.k == 5) = false := beq_eq_false_iff_ne.2 (by omega)
 have qp1 : (e.op == 1) = false := beq_eq_false_iff_ne.2 (by omega)
 have qp2 : (e.op == 2) = false := beq_eq_false_iff_ne.2 (by omega)
 have qp3 : (e.op == 3) = true := beq_iff_eq.2 (ho)
 have qp4 : (e.op == 4) = false := beq_eq_false_iff_ne.2 (by omega)
 have qr0 : (e.er == 0) = true := beq_iff_eq.2 (he)
 have qr4 : (e.er == 4) = false := beq_eq_false_iff_ne.2 (by omega)
 have qs : (statR m.L e.h == 1) = false := beq_eq_false_iff_ne.2 (ha)
 obtain ⟨A, c, rfl⟩ := Kd.R_slice h
 have CR := Aside0.mk (fun W => rright_run e W)
 have CS : Aside0 (∀ W, KR W B (.slice A m.L.length c) m.L → Calls Try.prog 35 #[.agg #[.int .i64 m.clk, .slice A m.L.length c], .agg #[.int .i64 e.hn, .int .i64 e.hg]] W fun r w' => r = .returned (.int .i64 (statR m.L e.h)) ∧ Below W.heap.size W w') := ⟨fun W hW => stat_calls hW (by omega) e.hn e.hg⟩
 have HN := Aside0.mk hn
 have HND := Aside0.mk nd
 have HB := Aside0.mk hB
 have HJ := Aside0.mk (Rj.start h m.clk e)
 rw [hr] at CR
 clear hn nd hB h hr hk ho he ha
 have hcb := fun i => blk_cell HJ.out.b i
 have hce := fun i => blk_cell HJ.out.e_ i
 have hlb := blk_lt HJ.out.b
 have hle := blk_lt HJ.out.e_
 have hlr := (by obtain ⟨_, _, q⟩ := HJ.out.r; exact blk_lt q : w.heap.size + 1 + 1 < _)
 obtain ⟨sv, hsv⟩ : ∃ sv, statR m.L e.h = sv := ⟨_, rfl⟩
 try rw [hsv] at CS
 try rw [hsv] at qs
 clear hsv
 go_enter Try.func45, Try.ntmps45
 go_upto_region 14 with (first | (go_at_call 62; (with_reducible refine (CR.out _).mono ?_); rintro r w2 ⟨rfl, hb⟩; have HJ2 := Aside0.mk (HJ.out.step hb); clear hb hcb hce hlb hle hlr HJ; have HJ := HJ2; clear HJ2; have hcb := fun i => blk_cell HJ.out.b i; have hce := fun i => blk_cell HJ.out.e_ i; have hlb := blk_lt HJ.out.b; have hle := blk_lt HJ.out.e_; have hlr := (by obtain ⟨_, _, q⟩ := HJ.out.r; exact blk_lt q : w.heap.size + 1 + 1 < _)) | (go_at_call 35; (with_reducible refine (CS.out _ HJ.out.kr).mono ?_); rintro r w3 ⟨rfl, hb⟩; have HJ2 := Aside0.mk (HJ.out.step hb); clear hb hcb hce hlb hle hlr HJ; have HJ := HJ2; clear HJ2; have hcb := fun i => blk_cell HJ.out.b i; have hce := fun i => blk_cell HJ.out.e_ i; have hlb := blk_lt HJ.out.b; have hle := blk_lt HJ.out.e_; have hlr := (by obtain ⟨_, _, q⟩ := HJ.out.r; exact blk_lt q : w.heap.size + 1 + 1 < _)))
 go_upto_region 15 with (fail)
 obtain ⟨nb, hnb⟩ : ∃ nb, w3.heap.size = nb := ⟨_, rfl⟩
 refine gen_world' (fun W => Nj B w W m.clk (.slice A m.L.length c) m.L e nb (.slice A m.L.length c) m.L) (by rw [← hnb]; exact Nj.start HJ.out) fun w4 H4 => ?_
 have HN4 := Aside0.mk H4
 have HJ4 := Aside0.mk H4.rj
 clear H4 HJ
 clear hcb hce hlb hle hlr
 have hcb := fun i => blk_cell HJ4.out.b i
 have hce := fun i => blk_cell HJ4.out.e_ i
 have hlb := blk_lt HJ4.out.b
 have hle := blk_lt HJ4.out.e_
 have hlr := (by obtain ⟨_, _, q⟩ := HJ4.out.r; exact blk_lt q : w.heap.size + 1 + 1 < _)
 have hcn := fun i => blk_cell HN4.out.nb_ i
 have hln := blk_lt HN4.out.nb_
 have hfn := fun i => blk_frozen HN4.out.nb_ i
 go_upto_region 37 with (fail)
 obtain ⟨rs, hrs, hrr⟩ := HJ4.out.r
 obtain ⟨x0, x1, rfl⟩ : ∃ x0 x1, rs = #[x0, x1] := by rcases rs with ⟨_ | ⟨x0, _ | ⟨x1, _ | _⟩⟩⟩ <;> simp at hrs; exact ⟨_, _, rfl⟩
 have hcr := fun i => blk_cell hrr i
 have hfr := fun i => blk_frozen hrr i
 clear hrs
 go_wp2
 have HE := Aside0.mk (show KR _ B (.slice A m.L.length c) m.L from KR.keep (KR.keep HJ4.out.kr (W1 := World.setCell _ ⟨w.heap.size + 1 + 1, 0, none⟩ (.int .i64 m.clk)) fun g cs hg => Below.heap_setCell _ _ _ _ (types_ne hg hrr (by decide))) (W1 := World.setCell (World.setCell _ ⟨w.heap.size + 1 + 1, 0, none⟩ (.int .i64 m.clk)) ⟨w.heap.size + 1 + 1, 1, none⟩ (.slice A m.L.length c)) fun g cs hg => Below.heap_setCell _ _ _ _ (types_ne hg (blk_put hrr 0 _ rfl) (by decide)))
 have HBL := Aside0.mk (below_set (g := w.heap.size + 1 + 1) (j := 1) (v := .slice A m.L.length c) (below_set (g := w.heap.size + 1 + 1) (j := 0) (v := .int .i64 m.clk) HJ4.out.below (by omega)) (by omega))
 unfold RdPost
 rw [HF.out]
 exact bodyPost_ret (v := .tuple #[.agg #[.int .i64 m.clk, .slice A m.L.length c], .int .i64 6]) (by simp [results, Try.results45, asAddr, go_sem, hu0, hcr, hlr]) rfl ⟨_, rfl, HE.out, HBL.out⟩
theorem rdo_rearm_no_n {w : World} {B : Nat} (m : Rm) (v : Value) (e : Au.Ev) (hn : m.L.length ≤ 90000) (nd : (m.L.map S127.h).Nodup) (hB : B ≤ w.heap.size) (h : KR w B v m.L) (hr : rightJ e = true) (hk : e.k = 3) (ho : e.op = 3) (he : e.er = 0) (ha : statR m.L e.h = 1) (hx : ¬ e.nn = e.hn) :
  Calls Try.prog 45 #[.agg #[.int .i64 m.clk, v], .agg (evA e)] w (RdPost B w (rdoF m e)) := by
 have hu0 := Try.underlying43
 have hu1 := Try.underlying36
 have hu2 := Try.underlying50
 have hu3 := Try.underlying127
 have HF := Aside0.mk (show rdoF m e = (m, 6) by unfold rdoF; rw [if_neg (by rw [hr]; simp; omega), if_neg (by omega), if_neg (by omega)]; unfold rpF; rw [if_neg (by omega), if_neg (by omega), if_pos ho, if_neg (by omega), if_pos he, if_neg (fun q => hx q.2.1)])
 have qk1 : (e.k == 1) = false := beq_eq_false_iff_ne.2 (by omega)
 have qk2 : (e.k == 2) = false := beq_eq_false_iff_ne.2 (by omega)
 have qk4 : (e.k == 4) = false := beq_eq_false_iff_ne.2 (by omega)
 have qk5 : (e.k == 5) = false := beq_eq_false_iff_ne.2 (by omega)
 have qp1 : (e.op == 1) = false := beq_eq_false_iff_ne.2 (by omega)
 have qp2 : (e.op == 2) = false := beq_eq_false_iff_ne.2 (by omega)
 have qp3 : (e.op == 3) = true := beq_iff_eq.2 (ho)
 have qp4 : (e.op == 4) = false := beq_eq_false_iff_ne.2 (by omega)
 have qr0 : (e.er == 0) = true := beq_iff_eq.2 (he)
 have qr4 : (e.er == 4) = false := beq_eq_false_iff_ne.2 (by omega)
 have qs : (statR m.L e.h == 1) = true := beq_iff_eq.2 (ha)
 have x0 : (e.nn == e.hn) = false := beq_eq_false_iff_ne.2 (hx)
 obtain ⟨A, c, rfl⟩ := Kd.R_slice h
 have CR := Aside0.mk (fun W => rright_run e W)
 have CS : Aside0 (∀ W, KR W B (.slice A m.L.length c) m.L → Calls Try.prog 35 #[.agg #[.int .i64 m.clk, .slice A m.L.length c], .agg #[.int .i64 e.hn, .int .i64 e.hg]] W fun r w' => r = .returned (.int .i64 (statR m.L e.h)) ∧ Below W.heap.size W w') := ⟨fun W hW => stat_calls hW (by omega) e.hn e.hg⟩
 have HN := Aside0.mk hn
 have HND := Aside0.mk nd
 have HB := Aside0.mk hB
 have HJ := Aside0.mk (Rj.start h m.clk e)
 rw [hr] at CR
 clear hn nd hB h hr hk ho he ha hx
 have hcb := fun i => blk_cell HJ.out.b i
 have hce := fun i => blk_cell HJ.out.e_ i
 have hlb := blk_lt HJ.out.b
 have hle := blk_lt HJ.out.e_
 have hlr := (by obtain ⟨_, _, q⟩ := HJ.out.r; exact blk_lt q : w.heap.size + 1 + 1 < _)
 obtain ⟨sv, hsv⟩ : ∃ sv, statR m.L e.h = sv := ⟨_, rfl⟩
 try rw [hsv] at CS
 try rw [hsv] at qs
 clear hsv
 go_enter Try.func45, Try.ntmps45
 go_upto_region 14 with (first | (go_at_call 62; (with_reducible refine (CR.out _).mono ?_); rintro r w2 ⟨rfl, hb⟩; have HJ2 := Aside0.mk (HJ.out.step hb); clear hb hcb hce hlb hle hlr HJ; have HJ := HJ2; clear HJ2; have hcb := fun i => blk_cell HJ.out.b i; have hce := fun i => blk_cell HJ.out.e_ i; have hlb := blk_lt HJ.out.b; have hle := blk_lt HJ.out.e_; have hlr := (by obtain ⟨_, _, q⟩ := HJ.out.r; exact blk_lt q : w.heap.size + 1 + 1 < _)) | (go_at_call 35; (with_reducible refine (CS.out _ HJ.out.kr).mono ?_); rintro r w3 ⟨rfl, hb⟩; have HJ2 := Aside0.mk (HJ.out.step hb); clear hb hcb hce hlb hle hlr HJ; have HJ := HJ2; clear HJ2; have hcb := fun i => blk_cell HJ.out.b i; have hce := fun i => blk_cell HJ.out.e_ i; have hlb := blk_lt HJ.out.b; have hle := blk_lt HJ.out.e_; have hlr := (by obtain ⟨_, _, q⟩ := HJ.out.r; exact blk_lt q : w.heap.size + 1 + 1 < _)))
 go_upto_region 15 with (fail)
 obtain ⟨nb, hnb⟩ : ∃ nb, w3.heap.size = nb := ⟨_, rfl⟩
 refine gen_world' (fun W => Nj B w W m.clk (.slice A m.L.length c) m.L e nb (.slice A m.L.length c) m.L) (by rw [← hnb]; exact Nj.start HJ.out) fun w4 H4 => ?_
 have HN4 := Aside0.mk H4
 have HJ4 := Aside0.mk H4.rj
 clear H4 HJ
 clear hcb hce hlb hle hlr
 have hcb := fun i => blk_cell HJ4.out.b i
 have hce := fun i => blk_cell HJ4.out.e_ i
 have hlb := blk_lt HJ4.out.b
 have hle := blk_lt HJ4.out.e_
 have hlr := (by obtain ⟨_, _, q⟩ := HJ4.out.r; exact blk_lt q : w.heap.size + 1 + 1 < _)
 have hcn := fun i => blk_cell HN4.out.nb_ i
 have hln := blk_lt HN4.out.nb_
 have hfn := fun i => blk_frozen HN4.out.nb_ i
 go_upto_region 37 with (fail)
 obtain ⟨rs, hrs, hrr⟩ := HJ4.out.r
 obtain ⟨x0, x1, rfl⟩ : ∃ x0 x1, rs = #[x0, x1] := by rcases rs with ⟨_ | ⟨x0, _ | ⟨x1, _ | _⟩⟩⟩ <;> simp at hrs; exact ⟨_, _, rfl⟩
 have hcr := fun i => blk_cell hrr i
 have hfr := fun i => blk_frozen hrr i
 clear hrs
 go_wp2
 have HE := Aside0.mk (show KR _ B (.slice A m.L.length c) m.L from KR.keep (KR.keep HJ4.out.kr (W1 := World.setCell _ ⟨w.heap.size + 1 + 1, 0, none⟩ (.int .i64 m.clk)) fun g cs hg => Below.heap_setCell _ _ _ _ (types_ne hg hrr (by decide))) (W1 := World.setCell (World.setCell _ ⟨w.heap.size + 1 + 1, 0, none⟩ (.int .i64 m.clk)) ⟨w.heap.size + 1 + 1, 1, none⟩ (.slice A m.L.length c)) fun g cs hg => Below.heap_setCell _ _ _ _ (types_ne hg (blk_put hrr 0 _ rfl) (by decide)))
 have HBL := Aside0.mk (below_set (g := w.heap.size + 1 + 1) (j := 1) (v := .slice A m.L.length c) (below_set (g := w.heap.size + 1 + 1) (j := 0) (v := .int .i64 m.clk) HJ4.out.below (by omega)) (by omega))
 unfold RdPost
 rw [HF.out]
 exact bodyPost_ret (v := .tuple #[.agg #[.int .i64 m.clk, .slice A m.L.length c], .int .i64 6]) (by simp [results, Try.results45, asAddr, go_sem, hu0, hcr, hlr]) rfl ⟨_, rfl, HE.out, HBL.out⟩
theorem rdo_rearm_no_g {w : World} {B : Nat} (m : Rm) (v : Value) (e : Au.Ev) (hn : m.L.length ≤ 90000) (nd : (m.L.map S127.h).Nodup) (hB : B ≤ w.heap.size) (h : KR w B v m.L) (hr : rightJ e = true) (hk : e.k = 3) (ho : e.op = 3) (he : e.er = 0) (ha : statR m.L e.h = 1) (hx : e.nn = e.hn) (hz : ¬ e.ng = wrap64 (e.hg + 1)) :
  Calls Try.prog 45 #[.agg #[.int .i64 m.clk, v], .agg (evA e)] w (RdPost B w (rdoF m e)) := by
 have hu0 := Try.underlying43
 have hu1 := Try.underlying36
 have hu2 := Try.underlying50
 have hu3 := Try.underlying127
 have HF := Aside0.mk (show rdoF m e = (m, 6) by unfold rdoF; rw [if_neg (by rw [hr]; simp; omega), if_neg (by omega), if_neg (by omega)]; unfold rpF; rw [if_neg (by omega), if_neg (by omega), if_pos ho, if_neg (by omega), if_pos he, if_neg (fun q => hz q.2.2)])
 have qk1 : (e.k == 1) = false := beq_eq_false_iff_ne.2 (by omega)
 have qk2 : (e.k == 2) = false := beq_eq_false_iff_ne.2 (by omega)
 have qk4 : (e.k == 4) = false := beq_eq_false_iff_ne.2 (by omega)
 have qk5 : (e.k == 5) = false := beq_eq_false_iff_ne.2 (by omega)
 have qp1 : (e.op == 1) = false := beq_eq_false_iff_ne.2 (by omega)
 have qp2 : (e.op == 2) = false := beq_eq_false_iff_ne.2 (by omega)
 have qp3 : (e.op == 3) = true := beq_iff_eq.2 (ho)
 have qp4 : (e.op == 4) = false := beq_eq_false_iff_ne.2 (by omega)
 have qr0 : (e.er == 0) = true := beq_iff_eq.2 (he)
 have qr4 : (e.er == 4) = false := beq_eq_false_iff_ne.2 (by omega)
 have qs : (statR m.L e.h == 1) = true := beq_iff_eq.2 (ha)
 have x0 : (e.nn == e.hn) = true := beq_iff_eq.2 (hx)
 have z0 : (e.ng == wrap64 (e.hg + 1)) = false := beq_eq_false_iff_ne.2 (hz)
 obtain ⟨A, c, rfl⟩ := Kd.R_slice h
 have CR := Aside0.mk (fun W => rright_run e W)
 have CS : Aside0 (∀ W, KR W B (.slice A m.L.length c) m.L → Calls Try.prog 35 #[.agg #[.int .i64 m.clk, .slice A m.L.length c], .agg #[.int .i64 e.hn, .int .i64 e.hg]] W fun r w' => r = .returned (.int .i64 (statR m.L e.h)) ∧ Below W.heap.size W w') := ⟨fun W hW => stat_calls hW (by omega) e.hn e.hg⟩
 have HN := Aside0.mk hn
 have HND := Aside0.mk nd
 have HB := Aside0.mk hB
 have HJ := Aside0.mk (Rj.start h m.clk e)
 rw [hr] at CR
 clear hn nd hB h hr hk ho he ha hx hz
 have hcb := fun i => blk_cell HJ.out.b i
 have hce := fun i => blk_cell HJ.out.e_ i
 have hlb := blk_lt HJ.out.b
 have hle := blk_lt HJ.out.e_
 have hlr := (by obtain ⟨_, _, q⟩ := HJ.out.r; exact blk_lt q : w.heap.size + 1 + 1 < _)
 obtain ⟨sv, hsv⟩ : ∃ sv, statR m.L e.h = sv := ⟨_, rfl⟩
 try rw [hsv] at CS
 try rw [hsv] at qs
 clear hsv
 go_enter Try.func45, Try.ntmps45
 go_upto_region 14 with (first | (go_at_call 62; (with_reducible refine (CR.out _).mono ?_); rintro r w2 ⟨rfl, hb⟩; have HJ2 := Aside0.mk (HJ.out.step hb); clear hb hcb hce hlb hle hlr HJ; have HJ := HJ2; clear HJ2; have hcb := fun i => blk_cell HJ.out.b i; have hce := fun i => blk_cell HJ.out.e_ i; have hlb := blk_lt HJ.out.b; have hle := blk_lt HJ.out.e_; have hlr := (by obtain ⟨_, _, q⟩ := HJ.out.r; exact blk_lt q : w.heap.size + 1 + 1 < _)) | (go_at_call 35; (with_reducible refine (CS.out _ HJ.out.kr).mono ?_); rintro r w3 ⟨rfl, hb⟩; have HJ2 := Aside0.mk (HJ.out.step hb); clear hb hcb hce hlb hle hlr HJ; have HJ := HJ2; clear HJ2; have hcb := fun i => blk_cell HJ.out.b i; have hce := fun i => blk_cell HJ.out.e_ i; have hlb := blk_lt HJ.out.b; have hle := blk_lt HJ.out.e_; have hlr := (by obtain ⟨_, _, q⟩ := HJ.out.r; exact blk_lt q : w.heap.size + 1 + 1 < _)))
 go_upto_region 15 with (fail)
 obtain ⟨nb, hnb⟩ : ∃ nb, w3.heap.size = nb := ⟨_, rfl⟩
 refine gen_world' (fun W => Nj B w W m.clk (.slice A m.L.length c) m.L e nb (.slice A m.L.length c) m.L) (by rw [← hnb]; exact Nj.start HJ.out) fun w4 H4 => ?_
 have HN4 := Aside0.mk H4
 have HJ4 := Aside0.mk H4.rj
 clear H4 HJ
 clear hcb hce hlb hle hlr
 have hcb := fun i => blk_cell HJ4.out.b i
 have hce := fun i => blk_cell HJ4.out.e_ i
 have hlb := blk_lt HJ4.out.b
 have hle := blk_lt HJ4.out.e_
 have hlr := (by obtain ⟨_, _, q⟩ := HJ4.out.r; exact blk_lt q : w.heap.size + 1 + 1 < _)
 have hcn := fun i => blk_cell HN4.out.nb_ i
 have hln := blk_lt HN4.out.nb_
 have hfn := fun i => blk_frozen HN4.out.nb_ i
 go_upto_region 37 with (fail)
 obtain ⟨rs, hrs, hrr⟩ := HJ4.out.r
 obtain ⟨x0, x1, rfl⟩ : ∃ x0 x1, rs = #[x0, x1] := by rcases rs with ⟨_ | ⟨x0, _ | ⟨x1, _ | _⟩⟩⟩ <;> simp at hrs; exact ⟨_, _, rfl⟩
 have hcr := fun i => blk_cell hrr i
 have hfr := fun i => blk_frozen hrr i
 clear hrs
 go_wp2
 have HE := Aside0.mk (show KR _ B (.slice A m.L.length c) m.L from KR.keep (KR.keep HJ4.out.kr (W1 := World.setCell _ ⟨w.heap.size + 1 + 1, 0, none⟩ (.int .i64 m.clk)) fun g cs hg => Below.heap_setCell _ _ _ _ (types_ne hg hrr (by decide))) (W1 := World.setCell (World.setCell _ ⟨w.heap.size + 1 + 1, 0, none⟩ (.int .i64 m.clk)) ⟨w.heap.size + 1 + 1, 1, none⟩ (.slice A m.L.length c)) fun g cs hg => Below.heap_setCell _ _ _ _ (types_ne hg (blk_put hrr 0 _ rfl) (by decide)))
 have HBL := Aside0.mk (below_set (g := w.heap.size + 1 + 1) (j := 1) (v := .slice A m.L.length c) (below_set (g := w.heap.size + 1 + 1) (j := 0) (v := .int .i64 m.clk) HJ4.out.below (by omega)) (by omega))
 unfold RdPost
 rw [HF.out]
 exact bodyPost_ret (v := .tuple #[.agg #[.int .i64 m.clk, .slice A m.L.length c], .int .i64 6]) (by simp [results, Try.results45, asAddr, go_sem, hu0, hcr, hlr]) rfl ⟨_, rfl, HE.out, HBL.out⟩
theorem rdo_rearm {w : World} {B : Nat} (m : Rm) (v : Value) (e : Au.Ev) (hn : m.L.length ≤ 90000) (nd : (m.L.map S127.h).Nodup) (hB : B ≤ w.heap.size) (h : KR w B v m.L) (hr : rightJ e = true) (hk : e.k = 3) (ho : e.op = 3) (he : e.er = 0) (ha : statR m.L e.h = 1) (hx : e.nn = e.hn) (hz : e.ng = wrap64 (e.hg + 1)) :
  Calls Try.prog 45 #[.agg #[.int .i64 m.clk, v], .agg (evA e)] w (RdPost B w (rdoF m e)) := by
 have hu0 := Try.underlying43
 have hu1 := Try.underlying36
 have hu2 := Try.underlying50
 have hu3 := Try.underlying127
 have HF := Aside0.mk (show rdoF m e = ({ m with L := armR (turnR m.L e.h 4) e.new e.t }, 0) by unfold rdoF; rw [if_neg (by rw [hr]; simp; omega), if_neg (by omega), if_neg (by omega)]; unfold rpF; rw [if_neg (by omega), if_neg (by omega), if_pos ho, if_neg (by omega), if_pos he, if_pos ⟨ha, hx, hz⟩])
 have qk1 : (e.k == 1) = false := beq_eq_false_iff_ne.2 (by omega)
 have qk2 : (e.k == 2) = false := beq_eq_false_iff_ne.2 (by omega)
 have qk4 : (e.k == 4) = false := beq_eq_false_iff_ne.2 (by omega)
 have qk5 : (e.k == 5) = false := beq_eq_false_iff_ne.2 (by omega)
 have qp1 : (e.op == 1) = false := beq_eq_false_iff_ne.2 (by omega)
 have qp2 : (e.op == 2) = false := beq_eq_false_iff_ne.2 (by omega)
 have qp3 : (e.op == 3) = true := beq_iff_eq.2 (ho)
 have qp4 : (e.op == 4) = false := beq_eq_false_iff_ne.2 (by omega)
 have qr0 : (e.er == 0) = true := beq_iff_eq.2 (he)
 have qr4 : (e.er == 4) = false := beq_eq_false_iff_ne.2 (by omega)
 have qs : (statR m.L e.h == 1) = true := beq_iff_eq.2 (ha)
 have x0 : (e.nn == e.hn) = true := beq_iff_eq.2 (hx)
 have z0 : (e.ng == wrap64 (e.hg + 1)) = true := beq_iff_eq.2 (hz)
 obtain ⟨A, c, rfl⟩ := Kd.R_slice h
 have CR := Aside0.mk (fun W => rright_run e W)
 have CS : Aside0 (∀ W, KR W B (.slice A m.L.length c) m.L → Calls Try.prog 35 #[.agg #[.int .i64 m.clk, .slice A m.L.length c], .agg #[.int .i64 e.hn, .int .i64 e.hg]] W fun r w' => r = .returned (.int .i64 (statR m.L e.h)) ∧ Below W.heap.size W w') := ⟨fun W hW => stat_calls hW (by omega) e.hn e.hg⟩
 have HN := Aside0.mk hn
 have HND := Aside0.mk nd
 have HB := Aside0.mk hB
 have HJ := Aside0.mk (Rj.start h m.clk e)
 rw [hr] at CR
 have CT : Aside0 (∀ W, Rj B w W m.clk (.slice A m.L.length c) m.L e → Calls Try.prog 79 #[.agg #[.int .i64 m.clk, .slice A m.L.length c], .agg #[.int .i64 e.hn, .int .i64 e.hg], .int .i64 4] W fun r w' => ∃ A1 c1, r = .returned (.agg #[.int .i64 m.clk, .slice A1 (turnR m.L e.h 4).length c1]) ∧ KR w' B (.slice A1 (turnR m.L e.h 4).length c1) (turnR m.L e.h 4) ∧ Below W.heap.size W w') := ⟨fun W hW => turn_calls hW.kr (by have := hW.below.size; omega) (by omega) e.hn e.hg 4 nd (stat_ex ha)⟩
 have CA : Aside0 (∀ W A1 c1, KR W B (.slice A1 (turnR m.L e.h 4).length c1) (turnR m.L e.h 4) → w.heap.size ≤ W.heap.size → Calls Try.prog 81 #[.agg #[.int .i64 m.clk, .slice A1 (turnR m.L e.h 4).length c1], .agg #[.int .i64 e.nn, .int .i64 e.ng], .int .i64 e.t] W fun r w' => ∃ A2 c2, r = .returned (.agg #[.int .i64 m.clk, .slice A2 (armR (turnR m.L e.h 4) e.new e.t).length c2]) ∧ KR w' B (.slice A2 (armR (turnR m.L e.h 4) e.new e.t).length c2) (armR (turnR m.L e.h 4) e.new e.t) ∧ Below W.heap.size W w') := ⟨fun W A1 c1 hW hz => arm_calls hW (by omega) (by unfold turnR; rw [List.length_map]; omega) e.nn e.ng e.t⟩
 clear hn nd hB h hr hk ho he ha hx hz
 have hcb := fun i => blk_cell HJ.out.b i
 have hce := fun i => blk_cell HJ.out.e_ i
 have hlb := blk_lt HJ.out.b
 have hle := blk_lt HJ.out.e_
 have hlr := (by obtain ⟨_, _, q⟩ := HJ.out.r; exact blk_lt q : w.heap.size + 1 + 1 < _)
 obtain ⟨sv, hsv⟩ : ∃ sv, statR m.L e.h = sv := ⟨_, rfl⟩
 try rw [hsv] at CS
 try rw [hsv] at qs
 clear hsv
 go_enter Try.func45, Try.ntmps45
 go_upto_region 14 with (first | (go_at_call 62; (with_reducible refine (CR.out _).mono ?_); rintro r w2 ⟨rfl, hb⟩; have HJ2 := Aside0.mk (HJ.out.step hb); clear hb hcb hce hlb hle hlr HJ; have HJ := HJ2; clear HJ2; have hcb := fun i => blk_cell HJ.out.b i; have hce := fun i => blk_cell HJ.out.e_ i; have hlb := blk_lt HJ.out.b; have hle := blk_lt HJ.out.e_; have hlr := (by obtain ⟨_, _, q⟩ := HJ.out.r; exact blk_lt q : w.heap.size + 1 + 1 < _)) | (go_at_call 35; (with_reducible refine (CS.out _ HJ.out.kr).mono ?_); rintro r w3 ⟨rfl, hb⟩; have HJ2 := Aside0.mk (HJ.out.step hb); clear hb hcb hce hlb hle hlr HJ; have HJ := HJ2; clear HJ2; have hcb := fun i => blk_cell HJ.out.b i; have hce := fun i => blk_cell HJ.out.e_ i; have hlb := blk_lt HJ.out.b; have hle := blk_lt HJ.out.e_; have hlr := (by obtain ⟨_, _, q⟩ := HJ.out.r; exact blk_lt q : w.heap.size + 1 + 1 < _)))
 go_upto_region 15 with (fail)
 obtain ⟨nb, hnb⟩ : ∃ nb, w3.heap.size = nb := ⟨_, rfl⟩
 refine gen_world' (fun W => Nj B w W m.clk (.slice A m.L.length c) m.L e nb (.slice A m.L.length c) m.L) (by rw [← hnb]; exact Nj.start HJ.out) fun w4 H4 => ?_
 have HN4 := Aside0.mk H4
 have HJ4 := Aside0.mk H4.rj
 clear H4 HJ
 clear hcb hce hlb hle hlr
 have hcb := fun i => blk_cell HJ4.out.b i
 have hce := fun i => blk_cell HJ4.out.e_ i
 have hlb := blk_lt HJ4.out.b
 have hle := blk_lt HJ4.out.e_
 have hlr := (by obtain ⟨_, _, q⟩ := HJ4.out.r; exact blk_lt q : w.heap.size + 1 + 1 < _)
 have hcn := fun i => blk_cell HN4.out.nb_ i
 have hln := blk_lt HN4.out.nb_
 have hfn := fun i => blk_frozen HN4.out.nb_ i
 go_upto_region 30 with (fail)
 refine start_ (n := 10) (S := (fun w' => (∀ i, w'.cell? ⟨w.heap.size, i, none⟩ = (#[.int .i64 m.clk, .slice A m.L.length c] : Array Value)[i]?) ∧ (∀ i, w'.cell? ⟨w.heap.size + 1, i, none⟩ = (evA e)[i]?) ∧ (∀ i, w'.cell? ⟨nb, i, none⟩ = (#[.int .i64 m.clk, .slice A m.L.length c] : Array Value)[i]?) ∧ (∀ i, w'.frozen? ⟨nb, i, none⟩ = false))) (ds := [9]) #[ff,ff,ff,ff,ff,ff,ff,ff,ff,ff] (by kernel_rfl) rfl rfl ⟨fun i => blk_cell HN4.out.drew.rj.b i, fun i => blk_cell HN4.out.drew.rj.e_ i, fun i => blk_cell HN4.out.drew.nb_ i, fun i => blk_frozen HN4.out.drew.nb_ i⟩ (fun hHeld => ?_)
 refine with_tabW rdR.tab30 rdR.bits30 (fun HT_ HW_ => ?_)
 have HN5 := Aside0.mk HN4.out.drew
 generalize w4.drew = w5 at HN5 hHeld ⊢
 clear HN4 HJ4 hcn hln hfn
 clear hcb hce hlb hle hlr
 have hlb := blk_lt HN5.out.rj.b
 have hle := blk_lt HN5.out.rj.e_
 have hlr := (by obtain ⟨_, _, q⟩ := HN5.out.rj.r; exact blk_lt q : w.heap.size + 1 + 1 < _)
 have hln := blk_lt HN5.out.nb_
 refine pure_ (i := 1) (N := (some 138)) (v := ?_) (a' := ?_) #[ff,tt,ff,ff,ff,ff,ff,ff,ff,ff] rfl rfl (any_of HT_.out (by kernel_rfl)) (fun _ _ _ h => h) (Or.inl ⟨by rfl, ?_⟩) ?_ ?_
 rotate_left
 ·intro w'
  go_simp
  with_reducible rfl
 rotate_left
 ·simp only [Act.put, sQ0, sQ1, sQ2, i64_w]
  rfl
 refine pure_ (i := 4) (N := (some 141)) (v := ?_) (a' := ?_) #[ff,tt,ff,ff,tt,ff,ff,ff,ff,ff] rfl rfl (any_of HT_.out (by kernel_rfl)) (fun _ _ _ h => h) (Or.inl ⟨by rfl, ?_⟩) ?_ ?_
 rotate_left
 ·intro w'
  go_simp
  with_reducible rfl
 rotate_left
 ·simp only [Act.put, sQ0, sQ1, sQ2, i64_w]
  rfl
 refine pure_ (i := 6) (N := (some 143)) (v := ?_) (a' := ?_) #[ff,tt,ff,ff,tt,ff,tt,ff,ff,ff] rfl rfl (any_of HT_.out (by kernel_rfl)) (fun _ _ _ h => h) (Or.inl ⟨by rfl, ?_⟩) ?_ ?_
 rotate_left
 ·intro w'
  go_simp
  with_reducible rfl
 rotate_left
 ·simp only [Act.put, sQ0, sQ1, sQ2, i64_w]
  rfl
 refine take_ (i := 0) (N := (some 137)) (v := ?_) (a' := ?_) #[tt,tt,ff,ff,tt,ff,tt,ff,ff,ff] rfl rfl (take_ofW HT_.out HW_.out (by kernel_rfl)) (fun _ _ _ h => h) (Or.inl ⟨by rfl, ?_⟩) hHeld ?_ ?_
 rotate_left
 ·rintro w' ⟨s0, s1, s2, s3⟩
  go_simp
  with_reducible rfl
 rotate_left
 ·simp only [Act.put, sQ0, sQ1, sQ2, i64_w]
  rfl
 refine take_ (i := 2) (N := (some 139)) (v := ?_) (a' := ?_) #[tt,tt,tt,ff,tt,ff,tt,ff,ff,ff] rfl rfl (take_ofW HT_.out HW_.out (by kernel_rfl)) (fun _ _ _ h => h) (Or.inl ⟨by rfl, ?_⟩) hHeld ?_ ?_
 rotate_left
 ·rintro w' ⟨s0, s1, s2, s3⟩
  go_simp
  with_reducible rfl
 rotate_left
 ·simp only [Act.put, sQ0, sQ1, sQ2, i64_w]
  rfl
 refine take_ (i := 5) (N := (some 142)) (v := ?_) (a' := ?_) #[tt,tt,tt,ff,tt,tt,tt,ff,ff,ff] rfl rfl (take_ofW HT_.out HW_.out (by kernel_rfl)) (fun _ _ _ h => h) (Or.inl ⟨by rfl, ?_⟩) hHeld ?_ ?_
 rotate_left
 ·rintro w' ⟨s0, s1, s2, s3⟩
  go_simp
  with_reducible rfl
 rotate_left
 ·simp only [Act.put, sQ0, sQ1, sQ2, i64_w]
  rfl
 refine take_ (i := 7) (N := (some 144)) (v := ?_) (a' := ?_) #[tt,tt,tt,ff,tt,tt,tt,tt,ff,ff] rfl rfl (take_ofW HT_.out HW_.out (by kernel_rfl)) (fun _ _ _ h => h) (Or.inl ⟨by rfl, ?_⟩) hHeld ?_ ?_
 rotate_left
 ·rintro w' ⟨s0, s1, s2, s3⟩
  go_simp
  with_reducible rfl
 rotate_left
 ·simp only [Act.put, sQ0, sQ1, sQ2, i64_w]
  rfl
 refine one_ (i := 3) (N := (some 140)) #[tt,tt,tt,tt,tt,tt,tt,tt,ff,ff] rfl rfl (one_of HT_.out (by kernel_rfl)) (by decide) (fun K hK => ?_)
 refine call_ (f := 79) #[.agg #[.int .i64 m.clk, .slice A m.L.length c], .agg #[.int .i64 e.hn, .int .i64 e.hg], .int .i64 4] (by rfl) rfl (by go_simp <;> rfl) ?_
 refine (CT.out w5 HN5.out.rj).mono ?_
 rintro r w6 ⟨A1, c1, rfl, hk1, hb⟩
 refine ⟨_, rfl, ?_⟩
 have HK1 := Aside0.mk hk1
 have HN6 := Aside0.mk (HN5.out.step hb)
 clear hb hk1
 refine hK.out _ _ ⟨fun i => blk_cell HN6.out.rj.b i, fun i => blk_cell HN6.out.rj.e_ i, fun i => blk_cell HN6.out.nb_ i, fun i => blk_frozen HN6.out.nb_ i⟩ (fun hHeld => ?_)
 clear hK K
 refine norm_ (a' := ?_) ?_ ?_
 rotate_left
 ·show Act.put _ (some 140) _ = _
  simp only [Act.put, sQ0, sQ1, sQ2, i64_w]
  rfl
 refine one_ (i := 8) (N := (some 145)) #[tt,tt,tt,tt,tt,tt,tt,tt,tt,ff] rfl rfl (one_of HT_.out (by kernel_rfl)) (by decide) (fun K hK => ?_)
 refine call_ (f := 81) #[.agg #[.int .i64 m.clk, .slice A1 (turnR m.L e.h 4).length c1], .agg #[.int .i64 e.nn, .int .i64 e.ng], .int .i64 e.t] (by rfl) rfl (by go_simp <;> rfl) ?_
 refine (CA.out w6 A1 c1 HK1.out HN6.out.rj.below.size).mono ?_
 rintro r w7 ⟨A2, c2, rfl, hk2, hb⟩
 refine ⟨_, rfl, ?_⟩
 have HN7 := Aside0.mk (HN6.out.next hb hk2)
 have HN6B := Aside0.mk (HN6.out.step hb)
 clear hb hk2
 refine hK.out _ _ ⟨fun i => blk_cell HN6B.out.rj.b i, fun i => blk_cell HN6B.out.rj.e_ i, fun i => blk_cell HN6B.out.nb_ i, fun i => blk_frozen HN6B.out.nb_ i⟩ (fun hHeld => ?_)
 clear hK K
 refine norm_ (a' := ?_) ?_ ?_
 rotate_left
 ·show Act.put _ (some 145) _ = _
  simp only [Act.put, sQ0, sQ1, sQ2, i64_w]
  rfl
 refine last_ (i := 9) (N := none) #[tt,tt,tt,tt,tt,tt,tt,tt,tt,tt] rfl rfl (one_of HT_.out (by kernel_rfl)) (by decide) (fun K hK => ?_)
 refine skip_ (by rfl) rfl (w1 := (w7.setCell ⟨nb, 0, none⟩ (.int .i64 m.clk)).setCell ⟨nb, 1, none⟩ (.slice A2 (armR (turnR m.L e.h 4) e.new e.t).length c2)) (by have q0 := hHeld.2.2.1; have q1 := hHeld.2.2.2; have q2 := blk_lt HN6B.out.nb_; go_simp <;> rfl) ?_
 refine hK.out _ _ ?_
 clear hK K
 refine done_ (done_of HT_.out (by kernel_rfl)) ?_
 clear hlb hle hlr hln
 clear hHeld
 have hcb := fun i => blk_cell HN7.out.rj.b i
 have hce := fun i => blk_cell HN7.out.rj.e_ i
 have hlb := blk_lt HN7.out.rj.b
 have hle := blk_lt HN7.out.rj.e_
 have hlr := (by obtain ⟨_, _, q⟩ := HN7.out.rj.r; exact blk_lt q : w.heap.size + 1 + 1 < _)
 have hcn := fun i => blk_cell HN7.out.nb_ i
 have hln := blk_lt HN7.out.nb_
 go_upto_region 38 with (fail)
 obtain ⟨rs, hrs, hrr⟩ := HN7.out.rj.r
 obtain ⟨x0, x1, rfl⟩ : ∃ x0 x1, rs = #[x0, x1] := by rcases rs with ⟨_ | ⟨x0, _ | ⟨x1, _ | _⟩⟩⟩ <;> simp at hrs; exact ⟨_, _, rfl⟩
 have hcr := fun i => blk_cell hrr i
 have hfr := fun i => blk_frozen hrr i
 clear hrs
 go_wp2
 have HE := Aside0.mk (show KR _ B (.slice A2 (armR (turnR m.L e.h 4) e.new e.t).length c2) (armR (turnR m.L e.h 4) e.new e.t) from KR.keep (KR.keep HN7.out.kn (W1 := World.setCell _ ⟨w.heap.size + 1 + 1, 0, none⟩ (.int .i64 m.clk)) fun g cs hg => Below.heap_setCell _ _ _ _ (types_ne hg hrr (by decide))) (W1 := World.setCell (World.setCell _ ⟨w.heap.size + 1 + 1, 0, none⟩ (.int .i64 m.clk)) ⟨w.heap.size + 1 + 1, 1, none⟩ (.slice A2 (armR (turnR m.L e.h 4) e.new e.t).length c2)) fun g cs hg => Below.heap_setCell _ _ _ _ (types_ne hg (blk_put hrr 0 _ rfl) (by decide)))
 have HBL := Aside0.mk (below_set (g := w.heap.size + 1 + 1) (j := 1) (v := .slice A2 (armR (turnR m.L e.h 4) e.new e.t).length c2) (below_set (g := w.heap.size + 1 + 1) (j := 0) (v := .int .i64 m.clk) HN7.out.rj.below (by omega)) (by omega))
 unfold RdPost
 rw [HF.out]
 exact bodyPost_ret (v := .tuple #[.agg #[.int .i64 m.clk, .slice A2 (armR (turnR m.L e.h 4) e.new e.t).length c2], .int .i64 0]) (by simp [results, Try.results45, asAddr, go_sem, hu0, hcr, hlr]) rfl ⟨_, rfl, HE.out, HBL.out⟩
end Go.Proofs.Ythniclbmpeklmaa.KJf
end
section
namespace Go.Proofs.Ythniclbmpeklmaa.KJf
open Go.RowKit Go.Proofs.YthniclbmpeklmaaW.PrintWords Go.Proofs.YthniclbmpeklmaaW.PrintLast Go.Proofs.YthniclbmpeklmaaW.PrintMore Go.Proofs.Ythniclbmpeklmaa.Ju
open Go.Proofs.Ythniclbmpeklmaa.Au (evA types_ne RowIs flat_len flat_get)
open Go.Proofs.YthniclbmpeklmaaW.PrintWords renaming Ev → PE
set_option linter.unusedVariables false
set_option linter.unusedSimpArgs false
section
variable {P : Program}
theorem run_storeVar_at (w : World) (g o : Nat) (t ty : TypeId) (cur cells : Array Value) (hg : w.heap[g]? = some (.cells cur t (0, 0))) (hi : (P.info? ty).map (·.size) = some cells.size) (ho : o + cells.size ≤ cur.size) (h1 : cells.all (·.oneCell') = true) :
  (storeVar ty ⟨g, o, none⟩ (.agg cells)).run P w = .ok () (w.setRow g (cur.toList.take o ++ cells.toList ++ cur.toList.drop (o + cells.size)).toArray) := by
 have := run_storeCells_at (P := P) g o t cells.toList 0 cur w hg (by simp; omega) (fun v hv => (Array.all_eq_true_iff_forall_mem.1 h1) v (by simpa using hv))
 simp only [Nat.add_zero, Array.length_toList] at this
 cases hq : P.info? ty with
 | none => simp [hq] at hi
 | some i =>
  have hs : cells.size = i.size := by simp [hq] at hi; omega
  simp [storeVar, sizeOf, typeInfo, hq, Value.cells, hs]
  rw [← hs, ← List.append_assoc]
  exact this
theorem wp_store_at {o : Oper} {a : Act} {w : World} {K : Act → World → Prop} {Q : Exit → Act → World → Prop} (ty : TypeId) (x y : Operand) (ho : o.op = .store ty x y)
  (g q : Nat) (cells : Array Value) (hx : a.eval x = .pointer (some ⟨g, q, none⟩)) (hy : a.eval y = .agg cells) (t : TypeId) (cur : Array Value) (hg : w.heap[g]? = some (.cells cur t (0, 0))) (hi : (P.info? ty).map (·.size) = some cells.size)
  (hold : q + cells.size ≤ cur.size) (h1 : cells.all (·.oneCell') = true) (h : K (a.put o.dst undef) (w.setRow g (cur.toList.take q ++ cells.toList ++ cur.toList.drop (q + cells.size)).toArray)) : o.wp P a w K Q := by
 unfold Oper.wp execOp
 simp only [ho, hx, hy, Instr.storeAt, Instr.sureAddr, Sem.run_bind, Sem.run_pure, Result.andThen_ok, run_storeVar_at w g q t ty cur cells hg hi hold h1]
 exact h
theorem wpList_store_at {ops : Array Oper} {rest : List Oper} {o : Oper} {a : Act} {w : World} {Q : Exit → Act → World → Prop} (hgd : o.guard = none) (ty : TypeId) (x y : Operand) (ho : o.op = .store ty x y)
  (g q : Nat) (cells : Array Value) (hx : a.eval x = .pointer (some ⟨g, q, none⟩)) (hy : a.eval y = .agg cells) (t : TypeId) (cur : Array Value) (hg : w.heap[g]? = some (.cells cur t (0, 0))) (hi : (P.info? ty).map (·.size) = some cells.size)
  (hold : q + cells.size ≤ cur.size) (h1 : cells.all (·.oneCell') = true) (h : wpList P ops Q rest (a.put o.dst undef) (w.setRow g (cur.toList.take q ++ cells.toList ++ cur.toList.drop (q + cells.size)).toArray)) : wpList P ops Q (o :: rest) a w :=
 wpList_plain hgd fun _ hK => wp_store_at ty x y ho g q cells hx hy t cur hg hi hold h1 (hK _ _ h)
theorem run_loadVar_at (w : World) (g o : Nat) (ty : TypeId) (cs : Array Value) (d : TypeDesc) (hg : ∀ j, j < cs.size → w.cell? ⟨g, o + j, none⟩ = cs[j]?)
  (hu : P.underlying ty = some d) (hd : (match d with | .struct _ | .array _ _ => true | _ => false) = true) (hi : (P.info? ty).map (·.size) = some cs.size) :
  (loadVar ty ⟨g, o, none⟩).run P w = .ok (.agg cs) w := by
 have hl : (loadCells ⟨g, o, none⟩ cs.toList.length).run P w = .ok cs.toList.toArray w :=
  run_loadCells_list (P := P) w ⟨g, o, none⟩ cs.toList (fun j v hv => by
   have hadd : (⟨g, o, none⟩ : Addr).add j = ⟨g, o + j, none⟩ := by unfold Addr.add; split <;> simp_all
   have hj : j < cs.size := by have := (List.getElem?_eq_some_iff.1 hv).1; simpa using this
   rw [hadd, hg j hj]
   simpa using hv)
 cases hq : P.info? ty with
 | none => simp [hq] at hi
 | some i =>
  have hs : i.size = cs.size := by simpa [hq] using hi
  have hagg : (isAgg ty).run P w = .ok true w := by
   unfold isAgg
   rw [Sem.run_bind, run_underlying hu w]
   cases d <;> simp_all
  simp only [Array.length_toList, Array.toArray_toList] at hl
  simp [loadVar, Sem.run_bind, hagg, sizeOf, typeInfo, hq, hs, hl]
theorem wp_load_at {o : Oper} {a : Act} {w : World} {K : Act → World → Prop} {Q : Exit → Act → World → Prop} (ty : TypeId) (x : Operand) (ho : o.op = .load ty x)
  (g q : Nat) (hx : a.eval x = .pointer (some ⟨g, q, none⟩)) (cs : Array Value) (d : TypeDesc) (hg : ∀ j, j < cs.size → w.cell? ⟨g, q + j, none⟩ = cs[j]?)
  (hu : P.underlying ty = some d) (hd : (match d with | .struct _ | .array _ _ => true | _ => false) = true) (hi : (P.info? ty).map (·.size) = some cs.size)
  (h : K (a.put o.dst (.agg cs)) w) : o.wp P a w K Q := by
 unfold Oper.wp execOp
 simp only [ho, hx, Instr.loadAt, Instr.sureAddr, Sem.run_bind, Sem.run_pure, Result.andThen_ok, run_loadVar_at w g q ty cs d hg hu hd hi]
 exact h
theorem wpList_load_at {ops : Array Oper} {rest : List Oper} {o : Oper} {a : Act} {w : World} {Q : Exit → Act → World → Prop} (hgd : o.guard = none) (ty : TypeId) (x : Operand) (ho : o.op = .load ty x)
  (g q : Nat) (hx : a.eval x = .pointer (some ⟨g, q, none⟩)) (cs : Array Value) (d : TypeDesc) (hg : ∀ j, j < cs.size → w.cell? ⟨g, q + j, none⟩ = cs[j]?)
  (hu : P.underlying ty = some d) (hd : (match d with | .struct _ | .array _ _ => true | _ => false) = true) (hi : (P.info? ty).map (·.size) = some cs.size)
  (h : wpList P ops Q rest (a.put o.dst (.agg cs)) w) : wpList P ops Q (o :: rest) a w :=
 wpList_plain hgd fun _ hK => wp_load_at ty x ho g q hx cs d hg hu hd hi (hK _ _ h)
end
def wA (x : S66) : Array Value := #[.int .i64 x.f0.f0, .int .i64 x.f0.f1, .int .i64 x.f0.f2, .int .i64 x.f0.f3.f0, .int .i64 x.f0.f3.f1, .int .i64 x.f0.f4.f0, .int .i64 x.f0.f4.f1, .int .i64 x.f0.f5, .int .i64 x.f0.f6, .int .i64 x.f0.f7, .bool x.f0.f8, .int .i64 x.f0.f9, .int .i64 x.f1, .bool x.f2, .int .i64 x.f3.f0, .int .i64 x.f3.f1, .int .i64 x.f3.f2, .int .i64 x.f3.f3.f0, .int .i64 x.f3.f3.f1, .int .i64 x.f3.f4.f0, .int .i64 x.f3.f4.f1, .int .i64 x.f3.f5, .int .i64 x.f3.f6, .int .i64 x.f3.f7, .bool x.f3.f8, .int .i64 x.f3.f9]
theorem wA_size (x : S66) : (wA x).size = 26 := rfl
theorem wA_one (x : S66) : (wA x).all (·.oneCell') = true := by simp [wA, Value.oneCell']
theorem wA_info (x : S66) : (Try.prog.info? 66).map (·.size) = some (wA x).size := by rw [wA_size]; kernel_rfl
theorem flat_put {α : Type} {A : α → Array Value} {k : Nat} (hA : ∀ x, (A x).size = k) : ∀ (l : List α) (i : Nat) (x : α), i < l.length → ((l.set i x).flatMap fun x => (A x).toList) = (l.flatMap fun x => (A x).toList).take (i * k) ++ (A x).toList ++ (l.flatMap fun x => (A x).toList).drop (i * k + k)
 | [], i, x, h => by simp at h
 | y :: l, 0, x, h => by
  rw [sQ1, List.flatMap_cons, List.flatMap_cons, Nat.zero_mul, List.take_zero, Nat.zero_add, List.nil_append, List.drop_append, List.drop_of_length_le (by simp [hA])]
  simp [hA]
 | y :: l, i + 1, x, h => by
  rw [sQ2, List.flatMap_cons, List.flatMap_cons, flat_put hA l i x (by simpa using h)]
  have e : (i + 1) * k = k + i * k := by rw [Nat.succ_mul]; omega
  rw [List.take_append, List.drop_append, List.take_of_length_le (l := (A y).toList) (by simp only [Array.length_toList, hA]; rw [e]; omega), List.drop_of_length_le (l := (A y).toList) (by simp only [Array.length_toList, hA]; rw [e]; omega)]
  simp only [Array.length_toList, hA, List.nil_append, List.append_assoc]
  rw [show (i + 1) * k - k = i * k by rw [e]; omega, show (i + 1) * k + k - k = i * k + k by rw [e]; omega]
theorem take_put {β : Type} {L M : List β} {n a k : Nat} (hn : n ≤ L.length) (ha : a + k ≤ n) (hM : M.length = k) : (L.take a ++ M ++ L.drop (a + k)).take n = (L.take n).take a ++ M ++ (L.take n).drop (a + k) := by
 rw [List.take_append, List.length_append, List.length_take, hM, Nat.min_eq_left (by omega), List.take_of_length_le (by rw [List.length_append, List.length_take, hM]; omega), List.take_take, Nat.min_eq_left (by omega), List.drop_take]
theorem RowIs_put {α : Type} {w : World} {B T k g cap : Nat} {A : α → Array Value} {l : List α} (h : RowIs w B T k A (.slice (some ⟨g, 0, none⟩) l.length cap) l) (hA : ∀ x, (A x).size = k) {i : Nat} (hi : i < l.length) (x : α) :
  ∃ cur : Array Value, w.heap[g]? = some (.cells cur T (0, 0)) ∧ i * k + (A x).size ≤ cur.size ∧ B ≤ g ∧ RowIs (w.setRow g (cur.toList.take (i * k) ++ (A x).toList ++ cur.toList.drop (i * k + (A x).size)).toArray) B T k A (.slice (some ⟨g, 0, none⟩) l.length cap) (l.set i x) := by
 rcases h.2 with ⟨hn, _⟩ | ⟨g', cap', cur, hv, hb, hg, hnc, hcm, hcs, htake⟩
 ·cases hn
 ·obtain ⟨rfl, rfl⟩ : g' = g ∧ cap' = cap := by injection hv with a b c; injection a with a; injection a with a; exact ⟨a.symm, c.symm⟩
  have h1 : (i + 1) * k ≤ l.length * k := Nat.mul_le_mul_right _ hi
  have h2 : l.length * k ≤ cap' * k := Nat.mul_le_mul_right _ hnc
  rw [Nat.succ_mul] at h1
  refine ⟨cur, hg, by rw [hA, hcs]; omega, hb, ?_⟩
  refine ⟨by rw [flat_len hA, List.length_set], .inr ⟨g', cap', _, by simp, hb, setRow_heap w g' cur _ T _ hg, by simpa using hnc, hcm, ?_, ?_⟩⟩
  ·simp [hA]; omega
  ·have hfl := flat_put hA l i x hi
   have htk : (cur.toList.take (l.length * k)) = (l.flatMap fun x => (A x).toList) := htake
   rw [List.length_set, hfl, ← htk]
   rw [hA]
   have q : cur.toList.length = cap' * k := by simpa using hcs
   exact take_put (by rw [q]; exact h2) (by omega) (by simpa using hA x)
theorem flat_of' {α : Type} {A : α → Array Value} {k : Nat} : ∀ (l : List α) (cs : List Value), cs.length = l.length * k → (∀ j p, l[j]? = some p → (cs.drop (j * k)).take k = (A p).toList) → cs = l.flatMap fun x => (A x).toList
 | [], cs, h, _ => by simpa using h
 | y :: l, cs, h, hj => by
  have h0 := hj 0 y rfl
  rw [Nat.zero_mul, List.drop_zero] at h0
  have h1 := flat_of' (k := k) l (cs.drop k) (by rw [List.length_drop, h, List.length_cons, Nat.succ_mul]; omega) (fun j p hp => by
   have := hj (j + 1) p (by simpa using hp)
   rw [List.drop_drop, show k + j * k = (j + 1) * k by rw [Nat.succ_mul]; omega]
   exact this)
  rw [List.flatMap_cons, ← h0, ← h1, List.take_append_drop]
theorem flat_cut {α : Type} {A : α → Array Value} {k : Nat} (hA : ∀ x, (A x).size = k) {l : List α} {j : Nat} {p : α} (h : l[j]? = some p) : ((l.flatMap fun x => (A x).toList).drop (j * k)).take k = (A p).toList := by
 apply List.ext_getElem?
 intro i
 rw [List.getElem?_take, List.getElem?_drop]
 by_cases c : i < k
 ·rw [if_pos c, Go.Proofs.Ythniclbmpeklmaa.Au.flat_get hA l j i p h c]
  simp
 ·rw [if_neg c]
  exact (List.getElem?_eq_none (by simp [hA]; omega)).symm
abbrev KW (W : World) (B : Nat) (v : Value) (L : List S66) : Prop := Kd.R k66 66 W B (fun _ => True) v L
theorem KW.row {w : World} {B : Nat} {v : Value} {l : List S66} (h : KW w B v l) : RowIs w B 66 26 wA v l := by
 obtain ⟨_, inner, ho, hr⟩ := h
 have e := flat_of' (A := wA) l inner hr.1 (fun j p hp => (k66_openM (hr.2 j p hp)).trans rfl)
 unfold RowIs
 rw [← e]
 exact ho
theorem KW.of_row {w : World} {B : Nat} {v : Value} {l : List S66} (h : RowIs w B 66 26 wA v l) : KW w B v l :=
 ⟨fun _ _ => trivial, _, h, ⟨flat_len wA_size l, fun j p hp => by rw [show k66.sz = 26 from rfl, flat_cut wA_size hp]; exact k66_mkM _ _ _ _⟩⟩
theorem KW.C {W : World} {B : Nat} {A : Option Addr} {c : Nat} {L : List S66} (h : KW W B (.slice A L.length c) L) : Kd.C k66 W A L.length L ∧ L.length ≤ c := by
 obtain ⟨_, hC⟩ := Kd.R_reads' h
 exact ⟨hC.2, hC.1⟩
theorem KW.keep {W W1 : World} {B : Nat} {v : Value} {L : List S66} (h : KW W B v L) (hk : ∀ (g : Nat) (cs : Array Value), W.heap[g]? = some (.cells cs 66 (0, 0)) → W1.heap[g]? = W.heap[g]?) : KW W1 B v L :=
 Kd.R_mono (Kd.R_move (Kd.R_bound h) (fun k hkk => by
  obtain ⟨_, _, _, q, hq, cells, hc⟩ := hkk
  have e : q = 66 := by
   have : q ∈ [66] := hq
   simpa using this
  rw [e] at hc
  exact hk k cells hc)) (fun _ _ => trivial)
theorem KW.empty (W : World) (B : Nat) (hB : B ≤ W.heap.size) : KW (W.alloc (.cells #[] 66)) B (.slice (some ⟨W.heap.size, 0, none⟩) 0 0) [] :=
 ⟨fun _ _ => trivial, [], ⟨rfl, .inr ⟨_, 0, #[], rfl, hB, blk_new W _, Nat.le_refl _, by unfold maxLen; omega, rfl, rfl⟩⟩, Reps.none _ _⟩
theorem KM_66 {w w1 : World} {B : Nat} {ok : Nat → Prop} {x : S66} {cs : List Value} (h : k66.K w x cs) : k66.M w1 B ok x cs := by
 rw [k66_open h]
 exact k66_mkM _ _ _ _
theorem rdo_any {w : World} {B : Nat} (m : Rm) (v : Value) (e : Au.Ev) (hn : m.L.length ≤ 90000) (nd : (m.L.map S127.h).Nodup) (hB : B ≤ w.heap.size) (h : KR w B v m.L) :
  Calls Try.prog 45 #[.agg #[.int .i64 m.clk, v], .agg (evA e)] w (RdPost B w (rdoF m e)) := by
 cases hr : rightJ e with
 | false => exact rdo_wrong m v e hn nd hB h hr
 | true =>
  rcases right_k hr with hk | hk | hk | hk | hk
  ·by_cases ht : e.t = wrap64 (m.clk + 1)
   ·exact rdo_tick m v e hn nd hB h hr hk ht
   ·exact rdo_tick_no m v e hn nd hB h hr hk ht
  ·exact rdo_two m v e hn nd hB h hr hk
  ·obtain ⟨o1, o4, _, _⟩ := right_op hr hk
   by_cases ho : e.op = 1
   ·by_cases he : e.er = 0
    ·cases hf : freeR m.L e.new with
     | true => exact rdo_start m v e hn nd hB h hr hk ho he hf
     | false => exact rdo_start_no m v e hn nd hB h hr hk ho he hf
    ·exact rdo_start_err m v e hn nd hB h hr hk ho he
   by_cases ho2 : e.op = 2
   ·cases hy : e.y with
    | true =>
     by_cases ha : statR m.L e.h = 1
     ·exact rdo_cancel_11 m v e hn nd hB h hr hk ho2 hy ha
     ·exact rdo_cancel_01 m v e hn nd hB h hr hk ho2 hy ha
    | false =>
     by_cases ha : statR m.L e.h = 1
     ·exact rdo_cancel_10 m v e hn nd hB h hr hk ho2 hy ha
     ·exact rdo_cancel_00 m v e hn nd hB h hr hk ho2 hy ha
   by_cases ho3 : e.op = 3
   ·by_cases he4 : e.er = 4
    ·by_cases ha : statR m.L e.h = 1
     ·exact rdo_rearm_stale_no m v e hn nd hB h hr hk ho3 he4 ha
     ·exact rdo_rearm_stale m v e hn nd hB h hr hk ho3 he4 ha
    by_cases he : e.er = 0
    ·by_cases ha : statR m.L e.h = 1
     ·by_cases hx : e.nn = e.hn
      ·by_cases hz : e.ng = wrap64 (e.hg + 1)
       ·exact rdo_rearm m v e hn nd hB h hr hk ho3 he ha hx hz
       ·exact rdo_rearm_no_g m v e hn nd hB h hr hk ho3 he ha hx hz
      ·exact rdo_rearm_no_n m v e hn nd hB h hr hk ho3 he ha hx
     ·exact rdo_rearm_no_a m v e hn nd hB h hr hk ho3 he ha
    ·exact rdo_rearm_else m v e hn nd hB h hr hk ho3 he he4
   have ho4 : e.op = 4 := by omega
   by_cases he4 : e.er = 4
   ·by_cases ha : statR m.L e.h = 1
    ·exact rdo_migrate_stale_no m v e hn nd hB h hr hk ho4 he4 ha
    ·exact rdo_migrate_stale m v e hn nd hB h hr hk ho4 he4 ha
   by_cases he : e.er = 0
   ·by_cases ha : statR m.L e.h = 1
    ·exact rdo_migrate m v e hn nd hB h hr hk ho4 he ha
    ·exact rdo_migrate_no m v e hn nd hB h hr hk ho4 he ha
   ·exact rdo_migrate_else m v e hn nd hB h hr hk ho4 he he4
  ·by_cases ha : statR m.L e.h = 1
   ·by_cases hd : dlR m.L e.h ≤ e.t
    ·by_cases hc : e.t ≤ m.clk
     ·exact rdo_fire m v e hn nd hB h hr hk ha hd hc
     ·exact rdo_fire_late m v e hn nd hB h hr hk ha hd hc
    ·exact rdo_fire_early m v e hn nd hB h hr hk ha hd
   ·exact rdo_fire_no m v e hn nd hB h hr hk ha
  ·exact rdo_five m v e hn nd hB h hr hk
end Go.Proofs.Ythniclbmpeklmaa.KJf
end
section
namespace Go.Proofs.Ythniclbmpeklmaa.KJf
open Go.RowKit Go.Proofs.YthniclbmpeklmaaW.PrintWords Go.Proofs.YthniclbmpeklmaaW.PrintLast Go.Proofs.YthniclbmpeklmaaW.PrintMore Go.Proofs.Ythniclbmpeklmaa.Ju
open Go.Proofs.Ythniclbmpeklmaa.Au (evA types_ne RowIs flat_len flat_get)
open Go.Proofs.YthniclbmpeklmaaW.PrintWords renaming Ev → PE
set_option linter.unusedVariables false
set_option linter.unusedSimpArgs false
theorem info66w : (Try.prog.info? 66).map (fun i => (i.zero, i.size, i.bytes)) = some (some (.agg (wA z66)), 26, 208) := by kernel_rfl
theorem KW.empty' (W : World) (B g : Nat) (hg : g = W.heap.size) (hB : B ≤ g) : KW (W.alloc (.cells #[] 66)) B (.slice (some ⟨g, 0, none⟩) 0 0) [] := by
 subst hg
 exact KW.empty W B hB
theorem with_blks {w w4 : World} {o0 o1 o2 o3 : Obj} (hg : ((((w.alloc o0).alloc o1).alloc o2).alloc o3).grownBy w4 (Value.slice (some ⟨w.heap.size + 1 + 1 + 1, 0, none⟩) 0 0).ownBlock) : w4.heap[w.heap.size]? = some o0 ∧ w4.heap[w.heap.size + 1]? = some o1 ∧ w4.heap[w.heap.size + 1 + 1]? = some o2 := by
 have q1 : ((w.alloc o0).alloc o1).heap[w.heap.size + 1]? = some o1 := by
  have q := blk_new (w.alloc o0) o1
  rw [show (w.alloc o0).heap.size = w.heap.size + 1 by simp] at q
  exact q
 have q2 : (((w.alloc o0).alloc o1).alloc o2).heap[w.heap.size + 1 + 1]? = some o2 := by
  have q := blk_new ((w.alloc o0).alloc o1) o2
  rw [show ((w.alloc o0).alloc o1).heap.size = w.heap.size + 1 + 1 by simp] at q
  exact q
 refine ⟨?_, ?_, ?_⟩
 ·rw [hg.block _ (by simp <;> omega) (by simp [Value.ownBlock] <;> omega)]; exact blk_alloc (blk_alloc (blk_alloc (blk_new _ _) _) _) _
 ·rw [hg.block _ (by simp <;> omega) (by simp [Value.ownBlock] <;> omega)]; exact blk_alloc (blk_alloc q1 _) _
 ·rw [hg.block _ (by simp <;> omega) (by simp [Value.ownBlock] <;> omega)]; exact blk_alloc q2 _
theorem with_at {w : World} {B n b i c : Nat} {A : Option Addr} {L : List S66} (h : KW w B (.slice A L.length c) L) (hi : i < L.length) (hat : (Value.slice A L.length c).ownBlock = (Value.slice (some ⟨n, 0, none⟩) 0 0).ownBlock ∨ ∃ g, (Value.slice A L.length c).ownBlock = some g ∧ b ≤ g) : ∃ g, A = some ⟨g, 0, none⟩ ∧ (g = n ∨ b ≤ g) := by
 rcases h.row.2 with ⟨_, hn⟩ | ⟨g, cap, cur, hv, _⟩
 ·omega
 ·injection hv with hA _ _
  subst hA
  refine ⟨g, rfl, ?_⟩
  rcases hat with q | ⟨g', q, hb⟩
  ·left; simpa [Value.ownBlock] using q
  ·right
   obtain rfl : g = g' := by simpa [Value.ownBlock] using q
   exact hb
set_option maxHeartbeats 4000000 in
set_option maxRecDepth 100000 in
theorem with_any {w : World} {B : Nat} (clk : Int) (A0 : Option Addr) (n0 c0 : Nat) (A : Option Addr) (c : Nat) (L : List S66) (i : Nat) (hi : i < L.length) (hn : L.length ≤ 64) (x : S66) (h : KW w B (.slice A L.length c) L) :
  Calls Try.prog 63 #[.agg #[.int .i64 clk, .slice A0 n0 c0, .slice A L.length c], .int .i64 i, .agg (wA x)] w fun r w' => ∃ A1 c1, r = .returned (.agg #[.int .i64 clk, .slice A0 n0 c0, .slice A1 L.length c1]) ∧ KW w' w.heap.size (.slice A1 L.length c1) (L.set i x) ∧ Below w.heap.size w w' := by
 have hu0 := Try.underlying46
 have hu1 := Try.underlying66
 have hu2 := Try.underlying44
 have H := Aside0.mk h
 have HN := Aside0.mk hn
 have HI := Aside0.mk hi
 clear h hn hi
 go_enter Try.func63, Try.ntmps63
 go_upto_region 2 with (at_builtin; go_loud (refine Kd.R_append_rows k66 (Rr := k66.K ?ww) (w0 := w) w.heap.size rfl _ _ 44 66 (.agg (wA z66)) 208 rfl Try.underlying44 info66w rfl (by decide) (by omega) (.slice (some ⟨w.heap.size + 1 + 1 + 1, 0, none⟩) 0 0) [] L A L.length c (fun _ => True) (fun _ => False) rfl rfl ?aO ?aR (fun x cs h => KM_66 h) (fun _ h => h.elim) (fun _ _ => trivial) ?aB ?aS ?aL ?_; (case aO => exact KW.empty' _ _ _ (by simp) (by omega)); (case aR => show Kd.C k66 _ A L.length L; exact Kd.C_below H.out.C.1 (by repeat (first | exact Below.refl _ _ | apply below_alloc))); (case aB => exact (by repeat (first | exact Below.refl _ _ | apply below_alloc))); (case aS => simp; omega); (case aL => have := HN.out; simp; omega); intro v1 w4 ho hb4 hg4 hat; rw [List.nil_append] at ho; obtain ⟨Ao, co, rfl⟩ := Kd.R_slice ho; obtain ⟨g, rfl, hgn⟩ := with_at ho HI.out hat; have hgn : w.heap.size + 1 + 1 + 1 ≤ g := (by (rcases hgn with q | q; (omega); (exact Nat.le_trans (by simp) q))); have qb := with_blks hg4; have b0 := qb.1; have b1 := qb.2.1; have b2 := qb.2.2; clear qb; have hc0 := fun i => blk_cell b0 i; have hf0 := fun i => blk_frozen b0 i; have hl0 := blk_lt b0; have HO := Aside0.mk ho; have HB4 := Aside0.mk hb4; have HK0 := Aside0.mk b0; have HK1 := Aside0.mk b1; have HK2 := Aside0.mk b2; clear ho hb4 hg4 hat b0 b1 b2))
 obtain ⟨W, hW⟩ : ∃ W, w4.setCell ⟨w.heap.size, 2, none⟩ (.slice (some ⟨g, 0, none⟩) L.length co) = W := ⟨_, rfl⟩
 have HO1 := Aside0.mk (show KW W w.heap.size (.slice (some ⟨g, 0, none⟩) L.length co) L by rw [← hW]; exact KW.keep HO.out fun k cs hk => Below.heap_setCell _ _ _ _ (types_ne hk HK0.out (by decide)))
 have HB1 := Aside0.mk (show Below w.heap.size w W by rw [← hW]; exact below_set HB4.out (Nat.le_refl _))
 have HJ0 := Aside0.mk (show W.heap[w.heap.size]? = some (.cells #[.int .i64 clk, .slice A0 n0 c0, .slice (some ⟨g, 0, none⟩) L.length co] 46 (0, 0)) by rw [← hW]; exact blk_put HK0.out 2 _ rfl)
 have HJ1 := Aside0.mk (show W.heap[w.heap.size + 1]? = some (.cells (wA x) 66 (0, 0)) by rw [← hW]; exact (Below.heap_setCell _ _ _ _ (by simp)).trans HK1.out)
 have HJ2 := Aside0.mk (show W.heap[w.heap.size + 1 + 1]? = some (.cells #[.int .i64 0, .slice none 0 0, .slice none 0 0] 46 (0, 0)) by rw [← hW]; exact (Below.heap_setCell _ _ _ _ (by simp; omega)).trans HK2.out)
 clear hc0 hf0 hl0 HO HB4 HK0 HK1 HK2
 obtain ⟨cur, hg, hsz, _, hput⟩ := RowIs_put HO1.out.row wA_size HI.out x
 have HB2 := Aside0.mk (below_setRow HB1.out (by omega : w.heap.size ≤ g) (cur.toList.take (i * 26) ++ (wA x).toList ++ cur.toList.drop (i * 26 + (wA x).size)).toArray)
 have HJ3 := Aside0.mk ((setRow_other W g w.heap.size (cur.toList.take (i * 26) ++ (wA x).toList ++ cur.toList.drop (i * 26 + (wA x).size)).toArray (by omega)).trans HJ0.out)
 have HJ4 := Aside0.mk ((setRow_other W g (w.heap.size + 1 + 1) (cur.toList.take (i * 26) ++ (wA x).toList ++ cur.toList.drop (i * 26 + (wA x).size)).toArray (by omega)).trans HJ2.out)
 have HP := Aside0.mk hput
 have HS := Aside0.mk hsz
 have HGG := Aside0.mk hg
 have hcj := fun j => blk_cell HJ0.out j
 have hlj := blk_lt HJ0.out
 have p0 : (0 ≤ (i : Int)) = True := eq_true (by omega)
 have q0 : ((i : Int) < (L.length : Int)) = True := eq_true (by have := HI.out; omega)
 clear hput hsz hg
 rw [hW]
 clear hW
 go_upto_region 3 with (first | ((with_reducible refine Go.Proofs.Ythniclbmpeklmaa.Ev.gate_load (t := 66) (p := 5) rfl ?_); go_loud (refine wpList_load_row rfl 66 _ rfl (w.heap.size + 1) rfl 66 (wA x) (0, 0) _ HJ1.out hu1 rfl (wA_info x) ?_)) | ((with_reducible refine gate_store (t := 66) (p := 16) rfl ?_); go_loud (refine wpList_store_at rfl 66 _ _ rfl g (i * 26) (wA x) ?hx rfl 66 cur HGG.out (wA_info x) HS.out (wA_one x) ?_; (case hx => rfl))))
 obtain ⟨W2, hW2⟩ : ∃ W2, W.setRow g (cur.toList.take (i * 26) ++ (wA x).toList ++ cur.toList.drop (i * 26 + (wA x).size)).toArray = W2 := ⟨_, rfl⟩
 rw [hW2] at HB2 HJ3 HJ4 HP ⊢
 clear hW2 hcj hlj p0 q0 HGG HS HO1 HB1 HJ0 HJ1 HJ2 cur
 have hcj := fun j => blk_cell HJ3.out j
 have hlj := blk_lt HJ3.out
 have HP2 := Aside0.mk (KW.of_row HP.out)
 go_wp2_with (first | ((with_reducible refine gate_store (t := 46) (p := 6) rfl ?_); go_loud (refine wpList_store_row rfl 46 _ _ rfl (w.heap.size + 1 + 1) #[.int .i64 clk, .slice A0 n0 c0, .slice (some ⟨g, 0, none⟩) L.length co] rfl rfl 46 _ HJ4.out (by kernel_rfl) (by kernel_rfl) (by simp [Value.oneCell']) ?_)))
 have hr9 := setRow_heap W2 (w.heap.size + 1 + 1) _ #[.int .i64 clk, .slice A0 n0 c0, .slice (some ⟨g, 0, none⟩) L.length co] _ _ HJ4.out
 refine bodyPost_ret (v := .agg #[.int .i64 clk, .slice A0 n0 c0, .slice (some ⟨g, 0, none⟩) L.length co]) ?_ rfl ⟨some ⟨g, 0, none⟩, co, rfl, ?_, ?_⟩
 ·exact results_cell_row Try.results63 _ _ (w.heap.size + 1 + 1) 46 _ (0, 0) _ rfl hr9 hu0 rfl (by kernel_rfl)
 ·exact KW.keep HP2.out fun k cs hk => setRow_other W2 _ k _ (types_ne hk HJ4.out (by decide))
 ·exact below_setRow HB2.out (by omega) _
end Go.Proofs.Ythniclbmpeklmaa.KJf
end
section
set_option maxHeartbeats 4000000
set_option maxRecDepth 100000
namespace Go.Proofs.Ythniclbmpeklmaa.KJf
open Go.RowKit Go.Proofs.YthniclbmpeklmaaW.PrintWords Go.Proofs.YthniclbmpeklmaaW.PrintLast Go.Proofs.YthniclbmpeklmaaW.PrintMore Go.Proofs.Ythniclbmpeklmaa.Ju
open Go.Proofs.Ythniclbmpeklmaa.Au (evA types_ne RowIs)
open Go.Proofs.YthniclbmpeklmaaW.PrintWords renaming Ev → PE
set_option linter.unusedVariables false
set_option linter.unusedSimpArgs false
attribute [local go_sem high] eqA36
structure Pj (w W : World) (bx : Array Value) (x : S66) (e : Au.Ev) : Prop where
 below : Below w.heap.size w W
 b0 : W.heap[w.heap.size]? = some (.cells bx 46 (0, 0))
 b1 : W.heap[w.heap.size + 1]? = some (.cells (wA x) 66 (0, 0))
 b2 : W.heap[w.heap.size + 1 + 1]? = some (.cells (evA e) 50 (0, 0))
theorem Pj.start (w : World) (bx : Array Value) (x : S66) (e : Au.Ev) : Pj w (((w.alloc (.cells bx 46)).alloc (.cells (wA x) 66)).alloc (.cells (evA e) 50)) bx x e :=
 ⟨below_alloc (below_alloc (below_alloc (Below.refl _ _) _) _) _, blk_alloc (blk_alloc (blk_new _ _) _) _, blk_alloc (by have q := blk_new (w.alloc (.cells bx 46)) (.cells (wA x) 66); rw [show (w.alloc (.cells bx 46)).heap.size = w.heap.size + 1 by simp] at q; exact q) _,
  (by have q := blk_new ((w.alloc (.cells bx 46)).alloc (.cells (wA x) 66)) (.cells (evA e) 50); rw [show ((w.alloc (.cells bx 46)).alloc (.cells (wA x) 66)).heap.size = w.heap.size + 1 + 1 by simp] at q; exact q)⟩
theorem Pj.step {w W W1 : World} {bx : Array Value} {x : S66} {e : Au.Ev} (h : Pj w W bx x e) (hb : Below W.heap.size W W1) : Pj w W1 bx x e := ⟨below_step h.below hb, blk_below h.b0 hb, blk_below h.b1 hb, blk_below h.b2 hb⟩
theorem hash_is (e : Au.Ev) (hk : e.k = 3) (h1 : 1 ≤ e.op) (h4 : e.op ≤ 4) : Ev.hasH e.k e.op = !(e.op == 1) := by
 unfold Ev.hasH Ev.in3
 rw [hk]
 have : e.op = 1 ∨ e.op = 2 ∨ e.op = 3 ∨ e.op = 4 := by omega
 rcases this with q | q | q | q <;> rw [q] <;> rfl
theorem hast_is (e : Au.Ev) (hk : e.k = 3) : Ev.hasT e.k e.op e.er = (e.er == 0 && (e.op == 1 || e.op == 3)) := by
 unfold Ev.hasT Ev.made
 rw [hk]
 cases (e.op == 1) <;> cases (e.op == 3) <;> cases (e.er == 0) <;> rfl
theorem point_op {w : World} (clk : Int) (A0 : Option Addr) (n0 c0 : Nat) (A : Option Addr) (nw c : Nat) (x : S66) (e : Au.Ev) (bh bt : Bool) (hh : Ev.hasH e.k e.op = bh) (ht : Ev.hasT e.k e.op e.er = bt) (ho : ¬ x.f0.f2 = e.op) :
  Calls Try.prog 64 #[.agg #[.int .i64 clk, .slice A0 n0 c0, .slice A nw c], .agg (wA x), .agg (evA e)] w fun r w' => r = .returned (.bool false) ∧ Below w.heap.size w w' := by
 have hu0 := Try.underlying46
 have hu1 := Try.underlying36
 have hu2 := Try.underlying50
 have hu3 := Try.underlying66
 have hu4 := Try.underlying43
 have o0 : (x.f0.f2 != e.op) = true := bne_iff_ne.2 ho
 have CH := Aside0.mk (fun W => Ev.has_h e.k e.wk e.op e.hn e.hg e.nn e.ng e.t e.a e.u e.y e.er W)
 have CT := Aside0.mk (fun W => Ev.has_t e.k e.wk e.op e.hn e.hg e.nn e.ng e.t e.a e.u e.y e.er W)
 rw [hh] at CH
 rw [ht] at CT
 have HJ := Aside0.mk (Pj.start w #[.int .i64 clk, .slice A0 n0 c0, .slice A nw c] x e)
 clear hh ht ho
 have hc0 := fun i => blk_cell HJ.out.b0 i
 have hc1 := fun i => (show World.cell? _ ⟨w.heap.size + 1, i, none⟩ = (#[.int .i64 x.f0.f0, .int .i64 x.f0.f1, .int .i64 x.f0.f2, .int .i64 x.f0.f3.f0, .int .i64 x.f0.f3.f1, .int .i64 x.f0.f4.f0, .int .i64 x.f0.f4.f1, .int .i64 x.f0.f5, .int .i64 x.f0.f6, .int .i64 x.f0.f7, .bool x.f0.f8, .int .i64 x.f0.f9, .int .i64 x.f1, .bool x.f2, .int .i64 x.f3.f0, .int .i64 x.f3.f1, .int .i64 x.f3.f2, .int .i64 x.f3.f3.f0, .int .i64 x.f3.f3.f1, .int .i64 x.f3.f4.f0, .int .i64 x.f3.f4.f1, .int .i64 x.f3.f5, .int .i64 x.f3.f6, .int .i64 x.f3.f7, .bool x.f3.f8, .int .i64 x.f3.f9] : Array Value)[i]? from blk_cell HJ.out.b1 i)
 have hc2 := fun i => blk_cell HJ.out.b2 i
 have hl0 := blk_lt HJ.out.b0
 have hl1 := blk_lt HJ.out.b1
 have hl2 := blk_lt HJ.out.b2
 go_enter Try.func64, Try.ntmps64
 go_wp2_with (first | (go_at_call 91; (first | (with_reducible refine (CH.out _).mono ?_) | (with_reducible refine (CT.out _).mono ?_)); rintro r w2 ⟨rfl, hb⟩; have HJ2 := Aside0.mk (HJ.out.step hb); clear hc0 hc1 hc2 hl0 hl1 hl2 HJ; have HJ := HJ2; clear HJ2; have hc0 := fun i => blk_cell HJ.out.b0 i; have hc1 := fun i => (show World.cell? _ ⟨w.heap.size + 1, i, none⟩ = (#[.int .i64 x.f0.f0, .int .i64 x.f0.f1, .int .i64 x.f0.f2, .int .i64 x.f0.f3.f0, .int .i64 x.f0.f3.f1, .int .i64 x.f0.f4.f0, .int .i64 x.f0.f4.f1, .int .i64 x.f0.f5, .int .i64 x.f0.f6, .int .i64 x.f0.f7, .bool x.f0.f8, .int .i64 x.f0.f9, .int .i64 x.f1, .bool x.f2, .int .i64 x.f3.f0, .int .i64 x.f3.f1, .int .i64 x.f3.f2, .int .i64 x.f3.f3.f0, .int .i64 x.f3.f3.f1, .int .i64 x.f3.f4.f0, .int .i64 x.f3.f4.f1, .int .i64 x.f3.f5, .int .i64 x.f3.f6, .int .i64 x.f3.f7, .bool x.f3.f8, .int .i64 x.f3.f9] : Array Value)[i]? from blk_cell HJ.out.b1 i); have hc2 := fun i => blk_cell HJ.out.b2 i; have hl0 := blk_lt HJ.out.b0; have hl1 := blk_lt HJ.out.b1; have hl2 := blk_lt HJ.out.b2; clear hb))
 go_ret
 exact ⟨rfl, HJ.out.below⟩
theorem point_again {w : World} (clk : Int) (A0 : Option Addr) (n0 c0 : Nat) (A : Option Addr) (nw c : Nat) (x : S66) (e : Au.Ev) (bh bt : Bool) (hh : Ev.hasH e.k e.op = bh) (ht : Ev.hasT e.k e.op e.er = bt) (ho : x.f0.f2 = e.op) (hp : x.f2 = true) :
  Calls Try.prog 64 #[.agg #[.int .i64 clk, .slice A0 n0 c0, .slice A nw c], .agg (wA x), .agg (evA e)] w fun r w' => r = .returned (.bool false) ∧ Below w.heap.size w w' := by
 have hu0 := Try.underlying46
 have hu1 := Try.underlying36
 have hu2 := Try.underlying50
 have hu3 := Try.underlying66
 have hu4 := Try.underlying43
 have o0 : (x.f0.f2 != e.op) = false := bne_eq_false_iff_eq.2 ho
 have z0 := hp
 have CH := Aside0.mk (fun W => Ev.has_h e.k e.wk e.op e.hn e.hg e.nn e.ng e.t e.a e.u e.y e.er W)
 have CT := Aside0.mk (fun W => Ev.has_t e.k e.wk e.op e.hn e.hg e.nn e.ng e.t e.a e.u e.y e.er W)
 rw [hh] at CH
 rw [ht] at CT
 have HJ := Aside0.mk (Pj.start w #[.int .i64 clk, .slice A0 n0 c0, .slice A nw c] x e)
 clear hh ht ho hp
 have hc0 := fun i => blk_cell HJ.out.b0 i
 have hc1 := fun i => (show World.cell? _ ⟨w.heap.size + 1, i, none⟩ = (#[.int .i64 x.f0.f0, .int .i64 x.f0.f1, .int .i64 x.f0.f2, .int .i64 x.f0.f3.f0, .int .i64 x.f0.f3.f1, .int .i64 x.f0.f4.f0, .int .i64 x.f0.f4.f1, .int .i64 x.f0.f5, .int .i64 x.f0.f6, .int .i64 x.f0.f7, .bool x.f0.f8, .int .i64 x.f0.f9, .int .i64 x.f1, .bool x.f2, .int .i64 x.f3.f0, .int .i64 x.f3.f1, .int .i64 x.f3.f2, .int .i64 x.f3.f3.f0, .int .i64 x.f3.f3.f1, .int .i64 x.f3.f4.f0, .int .i64 x.f3.f4.f1, .int .i64 x.f3.f5, .int .i64 x.f3.f6, .int .i64 x.f3.f7, .bool x.f3.f8, .int .i64 x.f3.f9] : Array Value)[i]? from blk_cell HJ.out.b1 i)
 have hc2 := fun i => blk_cell HJ.out.b2 i
 have hl0 := blk_lt HJ.out.b0
 have hl1 := blk_lt HJ.out.b1
 have hl2 := blk_lt HJ.out.b2
 go_enter Try.func64, Try.ntmps64
 go_wp2_with (first | (go_at_call 91; (first | (with_reducible refine (CH.out _).mono ?_) | (with_reducible refine (CT.out _).mono ?_)); rintro r w2 ⟨rfl, hb⟩; have HJ2 := Aside0.mk (HJ.out.step hb); clear hc0 hc1 hc2 hl0 hl1 hl2 HJ; have HJ := HJ2; clear HJ2; have hc0 := fun i => blk_cell HJ.out.b0 i; have hc1 := fun i => (show World.cell? _ ⟨w.heap.size + 1, i, none⟩ = (#[.int .i64 x.f0.f0, .int .i64 x.f0.f1, .int .i64 x.f0.f2, .int .i64 x.f0.f3.f0, .int .i64 x.f0.f3.f1, .int .i64 x.f0.f4.f0, .int .i64 x.f0.f4.f1, .int .i64 x.f0.f5, .int .i64 x.f0.f6, .int .i64 x.f0.f7, .bool x.f0.f8, .int .i64 x.f0.f9, .int .i64 x.f1, .bool x.f2, .int .i64 x.f3.f0, .int .i64 x.f3.f1, .int .i64 x.f3.f2, .int .i64 x.f3.f3.f0, .int .i64 x.f3.f3.f1, .int .i64 x.f3.f4.f0, .int .i64 x.f3.f4.f1, .int .i64 x.f3.f5, .int .i64 x.f3.f6, .int .i64 x.f3.f7, .bool x.f3.f8, .int .i64 x.f3.f9] : Array Value)[i]? from blk_cell HJ.out.b1 i); have hc2 := fun i => blk_cell HJ.out.b2 i; have hl0 := blk_lt HJ.out.b0; have hl1 := blk_lt HJ.out.b1; have hl2 := blk_lt HJ.out.b2; clear hb))
 go_ret
 exact ⟨rfl, HJ.out.below⟩
theorem point_ne {w : World} (clk : Int) (A0 : Option Addr) (n0 c0 : Nat) (A : Option Addr) (nw c : Nat) (x : S66) (e : Au.Ev) (bh bt : Bool) (hh : Ev.hasH e.k e.op = bh) (ht : Ev.hasT e.k e.op e.er = bt) (ho : x.f0.f2 = e.op) (hp : x.f2 = false) (hb : bh = true) (hd : (!(e.hn == x.f0.f3.f0) || (!(e.hg == x.f0.f3.f1))) = true) :
  Calls Try.prog 64 #[.agg #[.int .i64 clk, .slice A0 n0 c0, .slice A nw c], .agg (wA x), .agg (evA e)] w fun r w' => r = .returned (.bool false) ∧ Below w.heap.size w w' := by
 have hu0 := Try.underlying46
 have hu1 := Try.underlying36
 have hu2 := Try.underlying50
 have hu3 := Try.underlying66
 have hu4 := Try.underlying43
 have o0 : (x.f0.f2 != e.op) = false := bne_eq_false_iff_eq.2 ho
 have z0 := hp
 have z1 := hd
 subst hb
 have CH := Aside0.mk (fun W => Ev.has_h e.k e.wk e.op e.hn e.hg e.nn e.ng e.t e.a e.u e.y e.er W)
 have CT := Aside0.mk (fun W => Ev.has_t e.k e.wk e.op e.hn e.hg e.nn e.ng e.t e.a e.u e.y e.er W)
 rw [hh] at CH
 rw [ht] at CT
 have HJ := Aside0.mk (Pj.start w #[.int .i64 clk, .slice A0 n0 c0, .slice A nw c] x e)
 clear hh ht ho hp hd
 have hc0 := fun i => blk_cell HJ.out.b0 i
 have hc1 := fun i => (show World.cell? _ ⟨w.heap.size + 1, i, none⟩ = (#[.int .i64 x.f0.f0, .int .i64 x.f0.f1, .int .i64 x.f0.f2, .int .i64 x.f0.f3.f0, .int .i64 x.f0.f3.f1, .int .i64 x.f0.f4.f0, .int .i64 x.f0.f4.f1, .int .i64 x.f0.f5, .int .i64 x.f0.f6, .int .i64 x.f0.f7, .bool x.f0.f8, .int .i64 x.f0.f9, .int .i64 x.f1, .bool x.f2, .int .i64 x.f3.f0, .int .i64 x.f3.f1, .int .i64 x.f3.f2, .int .i64 x.f3.f3.f0, .int .i64 x.f3.f3.f1, .int .i64 x.f3.f4.f0, .int .i64 x.f3.f4.f1, .int .i64 x.f3.f5, .int .i64 x.f3.f6, .int .i64 x.f3.f7, .bool x.f3.f8, .int .i64 x.f3.f9] : Array Value)[i]? from blk_cell HJ.out.b1 i)
 have hc2 := fun i => blk_cell HJ.out.b2 i
 have hl0 := blk_lt HJ.out.b0
 have hl1 := blk_lt HJ.out.b1
 have hl2 := blk_lt HJ.out.b2
 go_enter Try.func64, Try.ntmps64
 go_wp2_with (first | (go_at_call 91; (first | (with_reducible refine (CH.out _).mono ?_) | (with_reducible refine (CT.out _).mono ?_)); rintro r w2 ⟨rfl, hb⟩; have HJ2 := Aside0.mk (HJ.out.step hb); clear hc0 hc1 hc2 hl0 hl1 hl2 HJ; have HJ := HJ2; clear HJ2; have hc0 := fun i => blk_cell HJ.out.b0 i; have hc1 := fun i => (show World.cell? _ ⟨w.heap.size + 1, i, none⟩ = (#[.int .i64 x.f0.f0, .int .i64 x.f0.f1, .int .i64 x.f0.f2, .int .i64 x.f0.f3.f0, .int .i64 x.f0.f3.f1, .int .i64 x.f0.f4.f0, .int .i64 x.f0.f4.f1, .int .i64 x.f0.f5, .int .i64 x.f0.f6, .int .i64 x.f0.f7, .bool x.f0.f8, .int .i64 x.f0.f9, .int .i64 x.f1, .bool x.f2, .int .i64 x.f3.f0, .int .i64 x.f3.f1, .int .i64 x.f3.f2, .int .i64 x.f3.f3.f0, .int .i64 x.f3.f3.f1, .int .i64 x.f3.f4.f0, .int .i64 x.f3.f4.f1, .int .i64 x.f3.f5, .int .i64 x.f3.f6, .int .i64 x.f3.f7, .bool x.f3.f8, .int .i64 x.f3.f9] : Array Value)[i]? from blk_cell HJ.out.b1 i); have hc2 := fun i => blk_cell HJ.out.b2 i; have hl0 := blk_lt HJ.out.b0; have hl1 := blk_lt HJ.out.b1; have hl2 := blk_lt HJ.out.b2; clear hb))
 go_ret
 exact ⟨rfl, HJ.out.below⟩
theorem point_hn {w : World} (clk : Int) (A0 : Option Addr) (n0 c0 : Nat) (A : Option Addr) (nw c : Nat) (x : S66) (e : Au.Ev) (bh bt : Bool) (hh : Ev.hasH e.k e.op = bh) (ht : Ev.hasT e.k e.op e.er = bt) (ho : x.f0.f2 = e.op) (hp : x.f2 = false) (hb : bh = true) (hd : (!(e.hn == x.f0.f3.f0) || (!(e.hg == x.f0.f3.f1))) = false) (hbt : bt = false) :
  Calls Try.prog 64 #[.agg #[.int .i64 clk, .slice A0 n0 c0, .slice A nw c], .agg (wA x), .agg (evA e)] w fun r w' => r = .returned (.bool true) ∧ Below w.heap.size w w' := by
 have hu0 := Try.underlying46
 have hu1 := Try.underlying36
 have hu2 := Try.underlying50
 have hu3 := Try.underlying66
 have hu4 := Try.underlying43
 have o0 : (x.f0.f2 != e.op) = false := bne_eq_false_iff_eq.2 ho
 have z0 := hp
 have z1 := hd
 subst hb
 subst hbt
 have CH := Aside0.mk (fun W => Ev.has_h e.k e.wk e.op e.hn e.hg e.nn e.ng e.t e.a e.u e.y e.er W)
 have CT := Aside0.mk (fun W => Ev.has_t e.k e.wk e.op e.hn e.hg e.nn e.ng e.t e.a e.u e.y e.er W)
 rw [hh] at CH
 rw [ht] at CT
 have HJ := Aside0.mk (Pj.start w #[.int .i64 clk, .slice A0 n0 c0, .slice A nw c] x e)
 clear hh ht ho hp hd
 have hc0 := fun i => blk_cell HJ.out.b0 i
 have hc1 := fun i => (show World.cell? _ ⟨w.heap.size + 1, i, none⟩ = (#[.int .i64 x.f0.f0, .int .i64 x.f0.f1, .int .i64 x.f0.f2, .int .i64 x.f0.f3.f0, .int .i64 x.f0.f3.f1, .int .i64 x.f0.f4.f0, .int .i64 x.f0.f4.f1, .int .i64 x.f0.f5, .int .i64 x.f0.f6, .int .i64 x.f0.f7, .bool x.f0.f8, .int .i64 x.f0.f9, .int .i64 x.f1, .bool x.f2, .int .i64 x.f3.f0, .int .i64 x.f3.f1, .int .i64 x.f3.f2, .int .i64 x.f3.f3.f0, .int .i64 x.f3.f3.f1, .int .i64 x.f3.f4.f0, .int .i64 x.f3.f4.f1, .int .i64 x.f3.f5, .int .i64 x.f3.f6, .int .i64 x.f3.f7, .bool x.f3.f8, .int .i64 x.f3.f9] : Array Value)[i]? from blk_cell HJ.out.b1 i)
 have hc2 := fun i => blk_cell HJ.out.b2 i
 have hl0 := blk_lt HJ.out.b0
 have hl1 := blk_lt HJ.out.b1
 have hl2 := blk_lt HJ.out.b2
 go_enter Try.func64, Try.ntmps64
 go_wp2_with (first | (go_at_call 91; (first | (with_reducible refine (CH.out _).mono ?_) | (with_reducible refine (CT.out _).mono ?_)); rintro r w2 ⟨rfl, hb⟩; have HJ2 := Aside0.mk (HJ.out.step hb); clear hc0 hc1 hc2 hl0 hl1 hl2 HJ; have HJ := HJ2; clear HJ2; have hc0 := fun i => blk_cell HJ.out.b0 i; have hc1 := fun i => (show World.cell? _ ⟨w.heap.size + 1, i, none⟩ = (#[.int .i64 x.f0.f0, .int .i64 x.f0.f1, .int .i64 x.f0.f2, .int .i64 x.f0.f3.f0, .int .i64 x.f0.f3.f1, .int .i64 x.f0.f4.f0, .int .i64 x.f0.f4.f1, .int .i64 x.f0.f5, .int .i64 x.f0.f6, .int .i64 x.f0.f7, .bool x.f0.f8, .int .i64 x.f0.f9, .int .i64 x.f1, .bool x.f2, .int .i64 x.f3.f0, .int .i64 x.f3.f1, .int .i64 x.f3.f2, .int .i64 x.f3.f3.f0, .int .i64 x.f3.f3.f1, .int .i64 x.f3.f4.f0, .int .i64 x.f3.f4.f1, .int .i64 x.f3.f5, .int .i64 x.f3.f6, .int .i64 x.f3.f7, .bool x.f3.f8, .int .i64 x.f3.f9] : Array Value)[i]? from blk_cell HJ.out.b1 i); have hc2 := fun i => blk_cell HJ.out.b2 i; have hl0 := blk_lt HJ.out.b0; have hl1 := blk_lt HJ.out.b1; have hl2 := blk_lt HJ.out.b2; clear hb))
 go_ret
 exact ⟨rfl, HJ.out.below⟩
theorem point_ht {w : World} (clk : Int) (A0 : Option Addr) (n0 c0 : Nat) (A : Option Addr) (nw c : Nat) (x : S66) (e : Au.Ev) (bh bt : Bool) (hh : Ev.hasH e.k e.op = bh) (ht : Ev.hasT e.k e.op e.er = bt) (ho : x.f0.f2 = e.op) (hp : x.f2 = false) (hb : bh = true) (hd : (!(e.hn == x.f0.f3.f0) || (!(e.hg == x.f0.f3.f1))) = false) (hbt : bt = true) (hx : 0 ≤ x.f1) (hx2 : x.f1 ≤ 1000000) (hcl : clk ≤ 1000000) (htm : e.t ≤ 9223372036854775807) (ht0 : 0 ≤ e.t) :
  Calls Try.prog 64 #[.agg #[.int .i64 clk, .slice A0 n0 c0, .slice A nw c], .agg (wA x), .agg (evA e)] w fun r w' => r = .returned (.bool (decide (x.f1 ≤ e.t - x.f0.f5) && decide (e.t - x.f0.f5 ≤ clk))) ∧ Below w.heap.size w w' := by
 have hu0 := Try.underlying46
 have hu1 := Try.underlying36
 have hu2 := Try.underlying50
 have hu3 := Try.underlying66
 have hu4 := Try.underlying43
 have o0 : (x.f0.f2 != e.op) = false := bne_eq_false_iff_eq.2 ho
 have z0 := hp
 have z1 := hd
 subst hb
 subst hbt
 have HB := Aside0.mk (show 0 ≤ x.f1 ∧ x.f1 ≤ 1000001 by omega)
 have HTM := Aside0.mk (show clk ≤ 1000000 ∧ 0 ≤ e.t ∧ e.t ≤ 9223372036854775807 from ⟨hcl, ht0, htm⟩)
 have CH := Aside0.mk (fun W => Ev.has_h e.k e.wk e.op e.hn e.hg e.nn e.ng e.t e.a e.u e.y e.er W)
 have CT := Aside0.mk (fun W => Ev.has_t e.k e.wk e.op e.hn e.hg e.nn e.ng e.t e.a e.u e.y e.er W)
 rw [hh] at CH
 rw [ht] at CT
 have HJ := Aside0.mk (Pj.start w #[.int .i64 clk, .slice A0 n0 c0, .slice A nw c] x e)
 clear hh ht ho hp hd hx hx2 hcl htm ht0
 have hc0 := fun i => blk_cell HJ.out.b0 i
 have hc1 := fun i => (show World.cell? _ ⟨w.heap.size + 1, i, none⟩ = (#[.int .i64 x.f0.f0, .int .i64 x.f0.f1, .int .i64 x.f0.f2, .int .i64 x.f0.f3.f0, .int .i64 x.f0.f3.f1, .int .i64 x.f0.f4.f0, .int .i64 x.f0.f4.f1, .int .i64 x.f0.f5, .int .i64 x.f0.f6, .int .i64 x.f0.f7, .bool x.f0.f8, .int .i64 x.f0.f9, .int .i64 x.f1, .bool x.f2, .int .i64 x.f3.f0, .int .i64 x.f3.f1, .int .i64 x.f3.f2, .int .i64 x.f3.f3.f0, .int .i64 x.f3.f3.f1, .int .i64 x.f3.f4.f0, .int .i64 x.f3.f4.f1, .int .i64 x.f3.f5, .int .i64 x.f3.f6, .int .i64 x.f3.f7, .bool x.f3.f8, .int .i64 x.f3.f9] : Array Value)[i]? from blk_cell HJ.out.b1 i)
 have hc2 := fun i => blk_cell HJ.out.b2 i
 have hl0 := blk_lt HJ.out.b0
 have hl1 := blk_lt HJ.out.b1
 have hl2 := blk_lt HJ.out.b2
 go_enter Try.func64, Try.ntmps64
 go_upto_region 4 with (first | (go_at_call 91; (first | (with_reducible refine (CH.out _).mono ?_) | (with_reducible refine (CT.out _).mono ?_)); rintro r w2 ⟨rfl, hb⟩; have HJ2 := Aside0.mk (HJ.out.step hb); clear hc0 hc1 hc2 hl0 hl1 hl2 HJ; have HJ := HJ2; clear HJ2; have hc0 := fun i => blk_cell HJ.out.b0 i; have hc1 := fun i => (show World.cell? _ ⟨w.heap.size + 1, i, none⟩ = (#[.int .i64 x.f0.f0, .int .i64 x.f0.f1, .int .i64 x.f0.f2, .int .i64 x.f0.f3.f0, .int .i64 x.f0.f3.f1, .int .i64 x.f0.f4.f0, .int .i64 x.f0.f4.f1, .int .i64 x.f0.f5, .int .i64 x.f0.f6, .int .i64 x.f0.f7, .bool x.f0.f8, .int .i64 x.f0.f9, .int .i64 x.f1, .bool x.f2, .int .i64 x.f3.f0, .int .i64 x.f3.f1, .int .i64 x.f3.f2, .int .i64 x.f3.f3.f0, .int .i64 x.f3.f3.f1, .int .i64 x.f3.f4.f0, .int .i64 x.f3.f4.f1, .int .i64 x.f3.f5, .int .i64 x.f3.f6, .int .i64 x.f3.f7, .bool x.f3.f8, .int .i64 x.f3.f9] : Array Value)[i]? from blk_cell HJ.out.b1 i); have hc2 := fun i => blk_cell HJ.out.b2 i; have hl0 := blk_lt HJ.out.b0; have hl1 := blk_lt HJ.out.b1; have hl2 := blk_lt HJ.out.b2; clear hb))
 go_upto_region 5 with (fail)
 go_loopw [7] (fun i wr => ∃ b : Int, i = .int .i64 b ∧ Aside0 (0 ≤ b ∧ b ≤ 1000001) ∧ Aside0 ((decide (x.f1 ≤ e.t - x.f0.f5) && decide (e.t - x.f0.f5 ≤ clk)) = (decide (b ≤ e.t - x.f0.f5) && decide (e.t - x.f0.f5 ≤ clk))) ∧ Aside0 (Pj w wr #[.int .i64 clk, .slice A0 n0 c0, .slice A nw c] x e)) (fun i _ => (clk + 1 - intOf i).toNat)
 case atStart => exact ⟨x.f1, rfl, ⟨HB.out⟩, ⟨rfl⟩, HJ⟩
 case round =>
  clear hc0 hc1 hc2 hl0 hl1 hl2 HJ
  obtain ⟨b, rfl, HBB, HV, HJ⟩ := hrel
  have hc0 := fun i => blk_cell HJ.out.b0 i
  have hc1 := fun i => (show World.cell? _ ⟨w.heap.size + 1, i, none⟩ = (#[.int .i64 x.f0.f0, .int .i64 x.f0.f1, .int .i64 x.f0.f2, .int .i64 x.f0.f3.f0, .int .i64 x.f0.f3.f1, .int .i64 x.f0.f4.f0, .int .i64 x.f0.f4.f1, .int .i64 x.f0.f5, .int .i64 x.f0.f6, .int .i64 x.f0.f7, .bool x.f0.f8, .int .i64 x.f0.f9, .int .i64 x.f1, .bool x.f2, .int .i64 x.f3.f0, .int .i64 x.f3.f1, .int .i64 x.f3.f2, .int .i64 x.f3.f3.f0, .int .i64 x.f3.f3.f1, .int .i64 x.f3.f4.f0, .int .i64 x.f3.f4.f1, .int .i64 x.f3.f5, .int .i64 x.f3.f6, .int .i64 x.f3.f7, .bool x.f3.f8, .int .i64 x.f3.f9] : Array Value)[i]? from blk_cell HJ.out.b1 i)
  have hc2 := fun i => blk_cell HJ.out.b2 i
  have hl0 := blk_lt HJ.out.b0
  have hl1 := blk_lt HJ.out.b1
  have hl2 := blk_lt HJ.out.b2
  by_cases hle : b ≤ clk
  ·have q0 : (b ≤ clk) = True := eq_true hle
   have e1 : wrap64 (e.t - b) = e.t - b := by have := HBB.out; have := HTM.out; unfold wrap64; omega
   by_cases hq : e.t - b = x.f0.f5
   ·have q1 : (wrap64 (e.t - b) == x.f0.f5) = true := by rw [e1]; exact beq_iff_eq.2 hq
    have HR : Aside0 ((decide (x.f1 ≤ e.t - x.f0.f5) && decide (e.t - x.f0.f5 ≤ clk)) = true) := ⟨by rw [HV.out]; simp only [Bool.and_eq_true, decide_eq_true_eq]; omega⟩
    clear hq hle e1
    go_wp2
    go_ret
    exact ⟨by rw [HR.out]; rfl, HJ.out.below⟩
   ·have q1 : (wrap64 (e.t - b) == x.f0.f5) = false := by rw [e1]; exact beq_eq_false_iff_ne.2 hq
    have hnn : wrap64 (b + 1) = b + 1 := by have := HBB.out; unfold wrap64; omega
    have HR : Aside0 ((decide (x.f1 ≤ e.t - x.f0.f5) && decide (e.t - x.f0.f5 ≤ clk)) = (decide (b + 1 ≤ e.t - x.f0.f5) && decide (e.t - x.f0.f5 ≤ clk))) := ⟨by rw [HV.out, Bool.eq_iff_iff]; simp only [Bool.and_eq_true, decide_eq_true_eq]; omega⟩
    have HB2 : Aside0 (0 ≤ b + 1 ∧ b + 1 ≤ 1000001) := ⟨by have := HBB.out; have := HTM.out; omega⟩
    have HLE := Aside0.mk hle
    clear hq hle e1
    go_wp2
    go_roundw
    case rel => exact ⟨b + 1, by first | rw [hnn] | simp, HB2, HR, HJ⟩
    case measure => have := HLE.out; first | (rw [hnn]; simp [intOf]; omega) | (simp [intOf]; omega)
  ·have q0 : (b ≤ clk) = False := eq_false hle
   have HR : Aside0 ((decide (x.f1 ≤ e.t - x.f0.f5) && decide (e.t - x.f0.f5 ≤ clk)) = false) := ⟨by rw [HV.out, Bool.eq_false_iff]; simp only [ne_eq, Bool.and_eq_true, decide_eq_true_eq]; omega⟩
   clear hle
   go_wp2
   go_ret
   exact ⟨by rw [HR.out]; rfl, HJ.out.below⟩
theorem point_nn {w : World} (clk : Int) (A0 : Option Addr) (n0 c0 : Nat) (A : Option Addr) (nw c : Nat) (x : S66) (e : Au.Ev) (bh bt : Bool) (hh : Ev.hasH e.k e.op = bh) (ht : Ev.hasT e.k e.op e.er = bt) (ho : x.f0.f2 = e.op) (hp : x.f2 = false) (hb : bh = false) (hbt : bt = false) :
  Calls Try.prog 64 #[.agg #[.int .i64 clk, .slice A0 n0 c0, .slice A nw c], .agg (wA x), .agg (evA e)] w fun r w' => r = .returned (.bool true) ∧ Below w.heap.size w w' := by
 have hu0 := Try.underlying46
 have hu1 := Try.underlying36
 have hu2 := Try.underlying50
 have hu3 := Try.underlying66
 have hu4 := Try.underlying43
 have o0 : (x.f0.f2 != e.op) = false := bne_eq_false_iff_eq.2 ho
 have z0 := hp
 subst hb
 subst hbt
 have CH := Aside0.mk (fun W => Ev.has_h e.k e.wk e.op e.hn e.hg e.nn e.ng e.t e.a e.u e.y e.er W)
 have CT := Aside0.mk (fun W => Ev.has_t e.k e.wk e.op e.hn e.hg e.nn e.ng e.t e.a e.u e.y e.er W)
 rw [hh] at CH
 rw [ht] at CT
 have HJ := Aside0.mk (Pj.start w #[.int .i64 clk, .slice A0 n0 c0, .slice A nw c] x e)
 clear hh ht ho hp
 have hc0 := fun i => blk_cell HJ.out.b0 i
 have hc1 := fun i => (show World.cell? _ ⟨w.heap.size + 1, i, none⟩ = (#[.int .i64 x.f0.f0, .int .i64 x.f0.f1, .int .i64 x.f0.f2, .int .i64 x.f0.f3.f0, .int .i64 x.f0.f3.f1, .int .i64 x.f0.f4.f0, .int .i64 x.f0.f4.f1, .int .i64 x.f0.f5, .int .i64 x.f0.f6, .int .i64 x.f0.f7, .bool x.f0.f8, .int .i64 x.f0.f9, .int .i64 x.f1, .bool x.f2, .int .i64 x.f3.f0, .int .i64 x.f3.f1, .int .i64 x.f3.f2, .int .i64 x.f3.f3.f0, .int .i64 x.f3.f3.f1, .int .i64 x.f3.f4.f0, .int .i64 x.f3.f4.f1, .int .i64 x.f3.f5, .int .i64 x.f3.f6, .int .i64 x.f3.f7, .bool x.f3.f8, .int .i64 x.f3.f9] : Array Value)[i]? from blk_cell HJ.out.b1 i)
 have hc2 := fun i => blk_cell HJ.out.b2 i
 have hl0 := blk_lt HJ.out.b0
 have hl1 := blk_lt HJ.out.b1
 have hl2 := blk_lt HJ.out.b2
 go_enter Try.func64, Try.ntmps64
 go_wp2_with (first | (go_at_call 91; (first | (with_reducible refine (CH.out _).mono ?_) | (with_reducible refine (CT.out _).mono ?_)); rintro r w2 ⟨rfl, hb⟩; have HJ2 := Aside0.mk (HJ.out.step hb); clear hc0 hc1 hc2 hl0 hl1 hl2 HJ; have HJ := HJ2; clear HJ2; have hc0 := fun i => blk_cell HJ.out.b0 i; have hc1 := fun i => (show World.cell? _ ⟨w.heap.size + 1, i, none⟩ = (#[.int .i64 x.f0.f0, .int .i64 x.f0.f1, .int .i64 x.f0.f2, .int .i64 x.f0.f3.f0, .int .i64 x.f0.f3.f1, .int .i64 x.f0.f4.f0, .int .i64 x.f0.f4.f1, .int .i64 x.f0.f5, .int .i64 x.f0.f6, .int .i64 x.f0.f7, .bool x.f0.f8, .int .i64 x.f0.f9, .int .i64 x.f1, .bool x.f2, .int .i64 x.f3.f0, .int .i64 x.f3.f1, .int .i64 x.f3.f2, .int .i64 x.f3.f3.f0, .int .i64 x.f3.f3.f1, .int .i64 x.f3.f4.f0, .int .i64 x.f3.f4.f1, .int .i64 x.f3.f5, .int .i64 x.f3.f6, .int .i64 x.f3.f7, .bool x.f3.f8, .int .i64 x.f3.f9] : Array Value)[i]? from blk_cell HJ.out.b1 i); have hc2 := fun i => blk_cell HJ.out.b2 i; have hl0 := blk_lt HJ.out.b0; have hl1 := blk_lt HJ.out.b1; have hl2 := blk_lt HJ.out.b2; clear hb))
 go_ret
 exact ⟨rfl, HJ.out.below⟩
theorem point_nt {w : World} (clk : Int) (A0 : Option Addr) (n0 c0 : Nat) (A : Option Addr) (nw c : Nat) (x : S66) (e : Au.Ev) (bh bt : Bool) (hh : Ev.hasH e.k e.op = bh) (ht : Ev.hasT e.k e.op e.er = bt) (ho : x.f0.f2 = e.op) (hp : x.f2 = false) (hb : bh = false) (hbt : bt = true) (hx : 0 ≤ x.f1) (hx2 : x.f1 ≤ 1000000) (hcl : clk ≤ 1000000) (htm : e.t ≤ 9223372036854775807) (ht0 : 0 ≤ e.t) :
  Calls Try.prog 64 #[.agg #[.int .i64 clk, .slice A0 n0 c0, .slice A nw c], .agg (wA x), .agg (evA e)] w fun r w' => r = .returned (.bool (decide (x.f1 ≤ e.t - x.f0.f5) && decide (e.t - x.f0.f5 ≤ clk))) ∧ Below w.heap.size w w' := by
 have hu0 := Try.underlying46
 have hu1 := Try.underlying36
 have hu2 := Try.underlying50
 have hu3 := Try.underlying66
 have hu4 := Try.underlying43
 have o0 : (x.f0.f2 != e.op) = false := bne_eq_false_iff_eq.2 ho
 have z0 := hp
 subst hb
 subst hbt
 have HB := Aside0.mk (show 0 ≤ x.f1 ∧ x.f1 ≤ 1000001 by omega)
 have HTM := Aside0.mk (show clk ≤ 1000000 ∧ 0 ≤ e.t ∧ e.t ≤ 9223372036854775807 from ⟨hcl, ht0, htm⟩)
 have CH := Aside0.mk (fun W => Ev.has_h e.k e.wk e.op e.hn e.hg e.nn e.ng e.t e.a e.u e.y e.er W)
 have CT := Aside0.mk (fun W => Ev.has_t e.k e.wk e.op e.hn e.hg e.nn e.ng e.t e.a e.u e.y e.er W)
 rw [hh] at CH
 rw [ht] at CT
 have HJ := Aside0.mk (Pj.start w #[.int .i64 clk, .slice A0 n0 c0, .slice A nw c] x e)
 clear hh ht ho hp hx hx2 hcl htm ht0
 have hc0 := fun i => blk_cell HJ.out.b0 i
 have hc1 := fun i => (show World.cell? _ ⟨w.heap.size + 1, i, none⟩ = (#[.int .i64 x.f0.f0, .int .i64 x.f0.f1, .int .i64 x.f0.f2, .int .i64 x.f0.f3.f0, .int .i64 x.f0.f3.f1, .int .i64 x.f0.f4.f0, .int .i64 x.f0.f4.f1, .int .i64 x.f0.f5, .int .i64 x.f0.f6, .int .i64 x.f0.f7, .bool x.f0.f8, .int .i64 x.f0.f9, .int .i64 x.f1, .bool x.f2, .int .i64 x.f3.f0, .int .i64 x.f3.f1, .int .i64 x.f3.f2, .int .i64 x.f3.f3.f0, .int .i64 x.f3.f3.f1, .int .i64 x.f3.f4.f0, .int .i64 x.f3.f4.f1, .int .i64 x.f3.f5, .int .i64 x.f3.f6, .int .i64 x.f3.f7, .bool x.f3.f8, .int .i64 x.f3.f9] : Array Value)[i]? from blk_cell HJ.out.b1 i)
 have hc2 := fun i => blk_cell HJ.out.b2 i
 have hl0 := blk_lt HJ.out.b0
 have hl1 := blk_lt HJ.out.b1
 have hl2 := blk_lt HJ.out.b2
 go_enter Try.func64, Try.ntmps64
 go_upto_region 4 with (first | (go_at_call 91; (first | (with_reducible refine (CH.out _).mono ?_) | (with_reducible refine (CT.out _).mono ?_)); rintro r w2 ⟨rfl, hb⟩; have HJ2 := Aside0.mk (HJ.out.step hb); clear hc0 hc1 hc2 hl0 hl1 hl2 HJ; have HJ := HJ2; clear HJ2; have hc0 := fun i => blk_cell HJ.out.b0 i; have hc1 := fun i => (show World.cell? _ ⟨w.heap.size + 1, i, none⟩ = (#[.int .i64 x.f0.f0, .int .i64 x.f0.f1, .int .i64 x.f0.f2, .int .i64 x.f0.f3.f0, .int .i64 x.f0.f3.f1, .int .i64 x.f0.f4.f0, .int .i64 x.f0.f4.f1, .int .i64 x.f0.f5, .int .i64 x.f0.f6, .int .i64 x.f0.f7, .bool x.f0.f8, .int .i64 x.f0.f9, .int .i64 x.f1, .bool x.f2, .int .i64 x.f3.f0, .int .i64 x.f3.f1, .int .i64 x.f3.f2, .int .i64 x.f3.f3.f0, .int .i64 x.f3.f3.f1, .int .i64 x.f3.f4.f0, .int .i64 x.f3.f4.f1, .int .i64 x.f3.f5, .int .i64 x.f3.f6, .int .i64 x.f3.f7, .bool x.f3.f8, .int .i64 x.f3.f9] : Array Value)[i]? from blk_cell HJ.out.b1 i); have hc2 := fun i => blk_cell HJ.out.b2 i; have hl0 := blk_lt HJ.out.b0; have hl1 := blk_lt HJ.out.b1; have hl2 := blk_lt HJ.out.b2; clear hb))
 go_upto_region 5 with (fail)
 go_loopw [7] (fun i wr => ∃ b : Int, i = .int .i64 b ∧ Aside0 (0 ≤ b ∧ b ≤ 1000001) ∧ Aside0 ((decide (x.f1 ≤ e.t - x.f0.f5) && decide (e.t - x.f0.f5 ≤ clk)) = (decide (b ≤ e.t - x.f0.f5) && decide (e.t - x.f0.f5 ≤ clk))) ∧ Aside0 (Pj w wr #[.int .i64 clk, .slice A0 n0 c0, .slice A nw c] x e)) (fun i _ => (clk + 1 - intOf i).toNat)
 case atStart => exact ⟨x.f1, rfl, ⟨HB.out⟩, ⟨rfl⟩, HJ⟩
 case round =>
  clear hc0 hc1 hc2 hl0 hl1 hl2 HJ
  obtain ⟨b, rfl, HBB, HV, HJ⟩ := hrel
  have hc0 := fun i => blk_cell HJ.out.b0 i
  have hc1 := fun i => (show World.cell? _ ⟨w.heap.size + 1, i, none⟩ = (#[.int .i64 x.f0.f0, .int .i64 x.f0.f1, .int .i64 x.f0.f2, .int .i64 x.f0.f3.f0, .int .i64 x.f0.f3.f1, .int .i64 x.f0.f4.f0, .int .i64 x.f0.f4.f1, .int .i64 x.f0.f5, .int .i64 x.f0.f6, .int .i64 x.f0.f7, .bool x.f0.f8, .int .i64 x.f0.f9, .int .i64 x.f1, .bool x.f2, .int .i64 x.f3.f0, .int .i64 x.f3.f1, .int .i64 x.f3.f2, .int .i64 x.f3.f3.f0, .int .i64 x.f3.f3.f1, .int .i64 x.f3.f4.f0, .int .i64 x.f3.f4.f1, .int .i64 x.f3.f5, .int .i64 x.f3.f6, .int .i64 x.f3.f7, .bool x.f3.f8, .int .i64 x.f3.f9] : Array Value)[i]? from blk_cell HJ.out.b1 i)
  have hc2 := fun i => blk_cell HJ.out.b2 i
  have hl0 := blk_lt HJ.out.b0
  have hl1 := blk_lt HJ.out.b1
  have hl2 := blk_lt HJ.out.b2
  by_cases hle : b ≤ clk
  ·have q0 : (b ≤ clk) = True := eq_true hle
   have e1 : wrap64 (e.t - b) = e.t - b := by have := HBB.out; have := HTM.out; unfold wrap64; omega
   by_cases hq : e.t - b = x.f0.f5
   ·have q1 : (wrap64 (e.t - b) == x.f0.f5) = true := by rw [e1]; exact beq_iff_eq.2 hq
    have HR : Aside0 ((decide (x.f1 ≤ e.t - x.f0.f5) && decide (e.t - x.f0.f5 ≤ clk)) = true) := ⟨by rw [HV.out]; simp only [Bool.and_eq_true, decide_eq_true_eq]; omega⟩
    clear hq hle e1
    go_wp2
    go_ret
    exact ⟨by rw [HR.out]; rfl, HJ.out.below⟩
   ·have q1 : (wrap64 (e.t - b) == x.f0.f5) = false := by rw [e1]; exact beq_eq_false_iff_ne.2 hq
    have hnn : wrap64 (b + 1) = b + 1 := by have := HBB.out; unfold wrap64; omega
    have HR : Aside0 ((decide (x.f1 ≤ e.t - x.f0.f5) && decide (e.t - x.f0.f5 ≤ clk)) = (decide (b + 1 ≤ e.t - x.f0.f5) && decide (e.t - x.f0.f5 ≤ clk))) := ⟨by rw [HV.out, Bool.eq_iff_iff]; simp only [Bool.and_eq_true, decide_eq_true_eq]; omega⟩
    have HB2 : Aside0 (0 ≤ b + 1 ∧ b + 1 ≤ 1000001) := ⟨by have := HBB.out; have := HTM.out; omega⟩
    have HLE := Aside0.mk hle
    clear hq hle e1
    go_wp2
    go_roundw
    case rel => exact ⟨b + 1, by first | rw [hnn] | simp, HB2, HR, HJ⟩
    case measure => have := HLE.out; first | (rw [hnn]; simp [intOf]; omega) | (simp [intOf]; omega)
  ·have q0 : (b ≤ clk) = False := eq_false hle
   have HR : Aside0 ((decide (x.f1 ≤ e.t - x.f0.f5) && decide (e.t - x.f0.f5 ≤ clk)) = false) := ⟨by rw [HV.out, Bool.eq_false_iff]; simp only [ne_eq, Bool.and_eq_true, decide_eq_true_eq]; omega⟩
   clear hle
   go_wp2
   go_ret
   exact ⟨by rw [HR.out]; rfl, HJ.out.below⟩
theorem rpoint_any {W : World} {B : Nat} (clk : Int) (A0 : Option Addr) (c0 : Nat) (L : List S127) (A : Option Addr) (c : Nat) (Ws : List S66) (x : S66) (e : Au.Ev) (hL : KR W B (.slice A0 L.length c0) L) (hW : KW W B (.slice A Ws.length c) Ws)
  (hr : rightJ e = true) (hk : e.k = 3) (hb : 0 ≤ x.f1) (hb2 : x.f1 ≤ 1000000) (hc : clk ≤ 1000000) (ht : e.t ≤ 9223372036854775807) :
  Calls Try.prog 64 #[.agg #[.int .i64 clk, .slice A0 L.length c0, .slice A Ws.length c], .agg (wA x), .agg (evA e)] W fun r w' => r = .returned (.bool (rptOk clk x e)) ∧ Below W.heap.size W w' := by
 have hop := right_op hr hk
 have eh := hash_is e hk hop.1 hop.2.1
 have et := hast_is e hk
 have t0 := right_t hr (.inl hk)
 unfold rptOk
 by_cases o : x.f0.f2 = e.op
 ·rw [show (x.f0.f2 == e.op) = true from beq_iff_eq.2 o]
  cases hq : x.f2 with
  | true => simpa [hq] using point_again clk A0 L.length c0 A Ws.length c x e _ _ eh et o hq
  | false =>
   cases z : (e.op == 1) with
   | true =>
    rw [z] at eh
    cases y : (e.er == 0 && (e.op == 1 || e.op == 3)) with
    | true =>
     rw [z] at y
     rw [y]
     simpa using point_nt clk A0 L.length c0 A Ws.length c x e _ _ eh et o hq rfl (by rw [z]; exact y) hb hb2 hc ht t0
    | false =>
     rw [z] at y
     rw [y]
     simpa using point_nn clk A0 L.length c0 A Ws.length c x e _ _ eh et o hq rfl (by rw [z]; exact y)
   | false =>
    rw [z] at eh
    by_cases hh : e.hn = x.f0.f3.f0 ∧ e.hg = x.f0.f3.f1
    ·have hd : (!(e.hn == x.f0.f3.f0) || (!(e.hg == x.f0.f3.f1))) = false := by simp [hh.1, hh.2]
     have hv : (e.hn == x.f0.f3.f0 && e.hg == x.f0.f3.f1) = true := by simp [hh.1, hh.2]
     rw [hv]
     cases y : (e.er == 0 && (e.op == 1 || e.op == 3)) with
     | true =>
      rw [z] at y
      rw [y]
      simpa using point_ht clk A0 L.length c0 A Ws.length c x e _ _ eh et o hq rfl hd (by rw [z]; exact y) hb hb2 hc ht t0
     | false =>
      rw [z] at y
      rw [y]
      simpa using point_hn clk A0 L.length c0 A Ws.length c x e _ _ eh et o hq rfl hd (by rw [z]; exact y)
    ·have hd : (!(e.hn == x.f0.f3.f0) || (!(e.hg == x.f0.f3.f1))) = true := by
      rcases Decidable.em (e.hn = x.f0.f3.f0) with a | a
      ·have : ¬ e.hg = x.f0.f3.f1 := fun b => hh ⟨a, b⟩
       simp [this]
      ·simp [a]
     have hv : (e.hn == x.f0.f3.f0 && e.hg == x.f0.f3.f1) = false := by
      rw [Bool.eq_false_iff]
      simpa using hh
     rw [hv]
     simpa using point_ne clk A0 L.length c0 A Ws.length c x e _ _ eh et o hq rfl hd
 ·rw [show (x.f0.f2 == e.op) = false from beq_eq_false_iff_ne.2 o]
  simpa using point_op clk A0 L.length c0 A Ws.length c x e _ _ eh et o
end Go.Proofs.Ythniclbmpeklmaa.KJf
end
