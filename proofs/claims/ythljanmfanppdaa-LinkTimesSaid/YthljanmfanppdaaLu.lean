/- What is proved: knelllaw24.LinkTimes returns true; connections' numbers fit into 64 bits. -/
import Derived.Test.YthljanmfanppdaaLv
namespace Go.Proofs.Ythljanmfanppdaa.Bk
open Go.RowKit Go.Maps Go.Proofs.YthljanmfanppdaaW.PrintWords Go.Proofs.YthljanmfanppdaaW.PrintLast Go.Proofs.YthljanmfanppdaaW.PrintMore Go.Proofs.Ythljanmfanppdaa.Mp Go.Proofs.Ythljanmfanppdaa.KLa
set_option linter.unusedVariables false
set_option linter.unusedSimpArgs false
set_option maxHeartbeats 8000000 in
set_option maxRecDepth 100000 in
theorem times_long (c : Cf) (A1 : Option Addr) (n1 : Nat) (q1 : Nat) (A2 : Option Addr) (n2 q2 : Nat) (hn : 60 < n1) (w : World) :
    Calls Try.prog 8 #[.agg c.cells, .slice A1 n1 q1, .slice A2 n2 q2] w fun e w' => e = .returned (.bool true) ∧ Below w.heap.size w w' := by
  have CS := Aside0.mk (fun W => speaks_any W)
  have hn' : decide ((n1 : Int) > 60) = true := by simp; omega
  go_enter Try.func8, Try.ntmps8
  go_wp2_with (first
    | (go_at_call 35; (with_reducible refine (CS.out _).mono ?_); rintro e w2 ⟨rfl, hb⟩; have n3 := Aside0.mk (below_step n1.out hb); clear hb; clear n1; have n1 := n3)
    | (go_at_call 35; (with_reducible refine (CS.out _).mono ?_); rintro e w1 ⟨rfl, hb⟩; have n1 := Aside0.mk (show Below w.heap.size w w1 from below_step (below_alloc (Below.refl _ _) _) hb); have n2 := Aside0.mk ((hb.block w.heap.size (by simp)).trans (heap_alloc_new w (.cells c.cells 33))); have hc := fun i => blk_cell n2.out i; clear hb))
  go_ret
  exact ⟨rfl, n1.out⟩
set_option maxHeartbeats 8000000 in
set_option maxRecDepth 100000 in
theorem times_wrong (c : Cf) (A1 : Option Addr) (n1 : Nat) (q1 : Nat) (A2 : Option Addr) (n2 q2 : Nat) (hn : n1 ≤ 60) (hc : (cfCode c == 0) = false) (w : World) :
    Calls Try.prog 8 #[.agg c.cells, .slice A1 n1 q1, .slice A2 n2 q2] w fun e w' => e = .returned (.bool true) ∧ Below w.heap.size w w' := by
  have CS := Aside0.mk (fun W => speaks_any W)
  have CR := Aside0.mk (fun W => cright_calls c W)
  rw [hc] at CR
  clear hc
  have hn' : decide ((n1 : Int) > 60) = false := by simp; omega
  go_enter Try.func8, Try.ntmps8
  go_wp2_with (first
    | (go_at_call 35; (with_reducible refine (CS.out _).mono ?_); rintro e w2 ⟨rfl, hb⟩; have n3 := Aside0.mk (below_step n1.out hb); clear hb; clear n1; have n1 := n3)
    | (go_at_call 35; (with_reducible refine (CS.out _).mono ?_); rintro e w1 ⟨rfl, hb⟩; have n1 := Aside0.mk (show Below w.heap.size w w1 from below_step (below_alloc (Below.refl _ _) _) hb); have n2 := Aside0.mk ((hb.block w.heap.size (by simp)).trans (heap_alloc_new w (.cells c.cells 33))); have hc := fun i => blk_cell n2.out i; clear hb)
    | (go_at_call 22; (with_reducible refine (CR.out _).mono ?_); rintro e w2 ⟨rfl, hb⟩; have n1 := Aside0.mk (below_step n1.out hb); clear hb))
  go_ret
  exact ⟨rfl, n1.out⟩
/-- The book and the configuration's block. -/
structure Lz (w W : World) (g m n : Nat) (c : Cf) (clk : Int) (F : SM) : Prop where
  la : La w W g m n c clk F
  cb : W.heap[w.heap.size]? = some (.cells c.cells 33 (0, 0))
  cg : w.heap.size ≠ g
  cm : w.heap.size ≠ m
/-- .. and an event's block. -/
structure Lq (w W : World) (g m n : Nat) (c : Cf) (clk : Int) (F : SM) (yb : Nat) (ev : Array Value) : Prop where
  lz : Lz w W g m n c clk F
  y : W.heap[yb]? = some (.cells ev 54 (0, 0))
  yg : yb ≠ g
  ym : yb ≠ m
section
variable {w W W1 : World} {g m n : Nat} {c : Cf} {clk : Int} {F : SM} {yb : Nat} {ev : Array Value}
theorem Lz.step (h : Lz w W g m n c clk F) (hb : Below W.heap.size W W1) : Lz w W1 g m n c clk F := ⟨h.la.step hb, blk_below h.cb hb, h.cg, h.cm⟩
theorem Lz.alloc (h : Lz w W g m n c clk F) (o : Obj) : Lz w (W.alloc o) g m n c clk F := h.step (below_alloc (Below.refl _ _) _)
theorem Lq.step (h : Lq w W g m n c clk F yb ev) (hb : Below W.heap.size W W1) : Lq w W1 g m n c clk F yb ev := ⟨h.lz.step hb, blk_below h.y hb, h.yg, h.ym⟩
theorem Lq.next {clk' : Int} {F' : SM} {n' : Nat} (h : Lq w W g m n c clk F yb ev) (hl : La w W1 g m n' c clk' F') (hc : Chg W W1 g m) : Lq w W1 g m n' c clk' F' yb ev :=
  ⟨⟨hl, (hc.block _ (blk_lt h.lz.cb) h.lz.cg h.lz.cm).trans h.lz.cb, h.lz.cg, h.lz.cm⟩, (hc.block _ (blk_lt h.y) h.yg h.ym).trans h.y, h.yg, h.ym⟩
end
theorem field_att (a b d : Int) (W : World) : (Instr.field 56 (.agg #[.int .i64 a, .int .i64 b, .int .i64 d]) 1).run Try.prog W = .ok (.int .i64 b) W := by first | kernel_rfl | rfl | (have hu2 := Try.underlying56; simp [Instr.field, go_sem, hu2])
attribute [local go_sem] max2_int min2_int max_two min_two
set_option maxHeartbeats 20000000 in
set_option maxRecDepth 100000 in
theorem times_main (c : Cf) (A1 : Option Addr) (q1 : Nat) (l1 : List S54) (A2 : Option Addr) (q2 : Nat) (l2 : List Int) (hn : l1.length ≤ 60) (hc : (cfCode c == 0) = true) (w : World) (hr1 : Kd.C k54 w A1 l1.length l1) (hr2 : Kd.C (Kd.int .i64) w A2 l2.length l2) (hwf : ∀ i : Int, (Lit.int .i64 (rd_T54 l1 i).f3).wf = true) :
    Calls Try.prog 8 #[.agg c.cells, .slice A1 l1.length q1, .slice A2 l2.length q2] w fun e w' => e = .returned (.bool true) ∧ Below w.heap.size w w' := by
  have hu54 := Try.underlying54
  have hu2 := Try.underlying56
  have CS := Aside0.mk (fun W => speaks_any W)
  have CR := Aside0.mk (fun W => cright_calls c W)
  rw [hc] at CR
  have CO := Aside0.mk (fun W => of_calls c W)
  have CN := Aside0.mk (fun W => new_is c W)
  have hf0 : cfCode c = 0 := by simpa using hc
  rw [hf0] at CN
  clear hc
  have HR1 := Aside0.mk hr1
  have HR2 := Aside0.mk hr2
  have HW := Aside0.mk hwf
  have HN := Aside0.mk hn
  have hn' : decide ((l1.length : Int) > 60) = false := by simp; omega
  clear hr1 hr2 hwf hn
  obtain ⟨N, hN⟩ : ∃ N : Int, (if 4 < c.c7 then 4 else c.c7) = N := ⟨_, rfl⟩
  have hN4 : N ≤ 4 := by rw [← hN]; split <;> omega
  go_enter Try.func8, Try.ntmps8
  go_wp2_with (first
    | (go_at_call 35; (with_reducible refine (CS.out _).mono ?_); rintro e w1 ⟨rfl, hb⟩; have n1 := Aside0.mk (show Below w.heap.size w w1 from below_step (below_alloc (Below.refl _ _) _) hb); have n2 := Aside0.mk ((hb.block w.heap.size (by simp)).trans (heap_alloc_new w (.cells c.cells 33))); have hc := fun i => blk_cell n2.out i; clear hb)
    | (go_at_call 22; (with_reducible refine (CR.out _).mono ?_); rintro e w2 ⟨rfl, hb⟩; have n3 := Aside0.mk (below_step n1.out hb); have n4 := Aside0.mk ((hb.block _ (blk_lt n2.out)).trans n2.out); clear hb n1 n2 hc; have hc := fun i => blk_cell n4.out i)
    | (go_at_call 23; (with_reducible refine (CO.out _).mono ?_); rintro e w3 ⟨rfl, hb⟩; have n5 := Aside0.mk (below_step n3.out hb); have m5 := Aside0.mk ((hb.block _ (blk_lt n4.out)).trans n4.out); clear hb n3 n4 hc)
    | (go_at_call 36; (with_reducible refine (CN.out _).mono ?_); rintro e w4 (⟨h0, _⟩ | ⟨_, g, m, rfl, hg, hm, hB, hb⟩); (exact absurd rfl h0); have n6 := Aside0.mk (show La w w4 g m 0 c 0 (fun _ => none) from ⟨below_step n5.out hb, ⟨0, Nat.le_refl _, hB⟩, Nat.le_trans n5.out.size hg, Nat.le_trans n5.out.size hm⟩); have m6 := Aside0.mk ((hb.block _ (blk_lt m5.out)).trans m5.out); clear hg hm hB hb n5 m5; have hc := fun i => blk_cell m6.out i))
  have hf : cfCode c = 0 := hf0
  clear hN
  have HU : Aside0 (Below w.heap.size w w4 ∧ w4.heap[w.heap.size]? = some (.cells c.cells 33 (0, 0))) := ⟨n6.out.below, m6.out⟩
  clear n6 m6 hc
  go_loopw [47] (fun i wr => ∃ x : Nat, x ≤ 4 ∧ i = .int .i64 x ∧ Aside0 (Below w.heap.size w wr ∧ wr.heap[w.heap.size]? = some (.cells c.cells 33 (0, 0)))) (fun i _ => 4 - (intOf i).toNat)
  case atStart => exact ⟨0, by omega, rfl, HU⟩
  case round =>
    clear HU
    obtain ⟨x, hx4, rfl, HU⟩ := hrel
    by_cases hxN : (x : Int) < N
    · have x1 : decide ((x : Int) < N) = true := decide_eq_true hxN
      have hxx : wrap64 ((x : Int) + 1) = ((x + 1 : Nat) : Int) := by unfold wrap64; omega
      have hx4' : x < 4 := by omega
      have hwx : (Lit.int .i64 (x : Int)).wf = true := by
        obtain rfl | rfl | rfl | rfl : x = 0 ∨ x = 1 ∨ x = 2 ∨ x = 3 := by omega
        all_goals decide
      clear hxN
      have hcx := fun i => blk_cell HU.out.2 i
      go_wp2_with (first
        | (go_at_call 23; (with_reducible refine (CO.out _).mono ?_); rintro e w5 ⟨rfl, hb⟩; have n1 := Aside0.mk (below_step HU.out.1 hb); have n2 := Aside0.mk (blk_below HU.out.2 hb); clear hb HU hcx)
        | (go_at_call 36; (with_reducible refine (CN.out _).mono ?_); rintro e w6 (⟨h0, _⟩ | ⟨_, g, m, rfl, hg, hm, hB, hb⟩); (exact absurd rfl h0); have HZ := Aside0.mk (show Lz w w6 g m 0 c 0 (fun _ => none) from ⟨⟨below_step n1.out hb, ⟨0, Nat.le_refl _, hB⟩, Nat.le_trans n1.out.size hg, Nat.le_trans n1.out.size hm⟩, blk_below n2.out hb, by have := blk_lt n2.out; omega, by have := blk_lt n2.out; omega⟩); clear hg hm hB hb n1 n2))
      go_loopw [60, 10, 11, 12] (fun i va vd vr wr => ∃ (n : Nat) (clk : Int) (F : SM) (a d r : Int), n ≤ l1.length ∧ i = .int .i64 n ∧ va = .int .i64 a ∧ vd = .int .i64 d ∧ vr = .int .i64 r ∧ Aside0 (Lz w wr g m n c clk F ∧ TJ c (F.at_ x) a d r)) (fun i _ _ _ _ => l1.length - (intOf i).toNat)
      case atStart => exact ⟨0, 0, fun _ => none, 0, 0, 0, by omega, rfl, rfl, rfl, rfl, ⟨HZ.out, ⟨⟨by show (0 : Int) ≤ 0; decide, by show (0 : Int) ≤ 31; decide⟩, ⟨by decide, by decide⟩, fun e => absurd (show (0 : Int) = 1 from e) (by decide), fun e => absurd (show (0 : Int) = 2 from e) (by decide), fun e => absurd (show (0 : Int) = 3 from e) (by decide)⟩⟩⟩
      case round =>
        clear HZ
        obtain ⟨n, clk, F, a, d, r, hn, rfl, rfl, rfl, rfl, HL⟩ := hrel
        rcases Nat.lt_or_ge n l1.length with hlt | hge
        · have p0 : (0 : Int) ≤ (n : Int) := by omega
          have q0 : (n : Int) < (l1.length : Int) := by omega
          obtain ⟨ad, e, h0, h1, h2, h3, h4, h5, h6⟩ := at_T54 HR1.out (n : Int) p0 q0
          cases e
          have HX := Aside0.mk (HW.out (n : Int))
          generalize rd_T54 l1 (n : Int) = E at h0 h1 h2 h3 h4 h5 h6 HX
          obtain ⟨k, wk, op, cn, t, dr, er⟩ := E
          simp only [Int.toNat_natCast] at h0 h1 h2 h3 h4 h5 h6 HX
          replace h0 := (HL.out.1.la.below.cell (World.block_lt_of_cell? w _ h0)).trans h0
          replace h1 := (HL.out.1.la.below.cell (World.block_lt_of_cell? w _ h1)).trans h1
          replace h2 := (HL.out.1.la.below.cell (World.block_lt_of_cell? w _ h2)).trans h2
          replace h3 := (HL.out.1.la.below.cell (World.block_lt_of_cell? w _ h3)).trans h3
          replace h4 := (HL.out.1.la.below.cell (World.block_lt_of_cell? w _ h4)).trans h4
          replace h5 := (HL.out.1.la.below.cell (World.block_lt_of_cell? w _ h5)).trans h5
          replace h6 := (HL.out.1.la.below.cell (World.block_lt_of_cell? w _ h6)).trans h6
          replace q0 := eq_true q0
          replace p0 := eq_true p0
          have hnn : wrap64 ((n : Int) + 1) = ((n + 1 : Nat) : Int) := by have := HN.out; unfold wrap64; omega
          have hgl := HL.out.1.la.glt
          have hml := HL.out.1.la.mlt
          have HT := Aside0.mk HL.out.2
          have HY := Aside0.mk (show Lq w (wr.alloc (.cells (evA k wk op cn t dr er) 54)) g m n c clk F wr.heap.size (evA k wk op cn t dr er) from ⟨HL.out.1.alloc _, blk_new _ _, by omega, by omega⟩)
          have HB := Aside0.mk HL.out.1.la.below
          clear HL hgl hml
          go_upto_if 68 with (fail)
          go_cut [15] from 65 to 72 (fun v wc => ∃ draw : Int, v = .int .i64 draw ∧ Aside0 (Lq w wc g m n c clk F wr.heap.size (evA k wk op cn t dr er)))
          case first =>
            rcases Nat.lt_or_ge n l2.length with hd | hd
            · have d0 : (0 : Int) ≤ (n : Int) := by omega
              have d1 : (n : Int) < (l2.length : Int) := by omega
              obtain ⟨ad2, e, hd2⟩ := Kd.at_int HR2.out (n : Int) d0 d1
              cases e
              replace hd2 := (HB.out.cell (World.block_lt_of_cell? w _ hd2)).trans hd2
              generalize rd l2 (n : Int) = draw at hd2
              rw [Int.toNat_natCast] at hd2
              have hdl := World.block_lt_of_cell? _ _ hd2
              replace hd2 : (wr.alloc (.cells (evA k wk op cn t dr er) 54)).cell? (ad2.add n) = some (.int .i64 draw) := ((below_alloc (Below.refl _ _) _).cell hdl).trans hd2
              replace d1 := eq_true d1
              go_wp2
              go_meet
              case rel => exact ⟨draw, rfl, HY⟩
            · have d1 : ((n : Int) < (l2.length : Int)) = False := eq_false (by omega)
              go_wp2
              go_meet
              case rel => exact ⟨0, rfl, HY⟩
          case rest =>
            clear HY h0 h1 h2 h3 h4 h5 h6
            obtain ⟨draw, rfl, HY⟩ := hcut
            obtain ⟨st, att, tm, hst⟩ : ∃ a b d, F.at_ (x : Int) = (a, b, d) := ⟨_, _, _, rfl⟩
            obtain ⟨code, clk', F', hdo⟩ : ∃ code clk' F', doF c clk F k wk op cn t dr er draw = (code, clk', F') := ⟨_, _, _, rfl⟩
            have HK : Aside0 (code ≠ 0 ∨ cn ≠ (x : Int) ∨ er ≠ 0 ∨ k = 1 → TJ c (F'.at_ x) a d r) := ⟨fun q => by have := times_skip (c := c) (clk := clk) (F := F) (k := k) (wk := wk) (op := op) (cn := cn) (t := t) (dr := dr) (er := er) (draw := draw) HT.out (by rw [hdo]; exact q); rw [hdo] at this; exact this⟩
            have CSt : Aside0 (∀ W, La w W g m n c clk F → Calls Try.prog 37 #[.pointer (some ⟨g, 0, none⟩), .int .i64 (x : Int)] W fun e w' => e = .returned (.agg #[.int .i64 st, .int .i64 att, .int .i64 tm]) ∧ Below W.heap.size W w') := ⟨fun W h => h.state x hwx _ _ _ hst⟩
            have hfl := fun W => field_att st att tm W
            have CE := Aside0.mk (fun W => eof_calls k wk op cn t dr er W)
            have CD : Aside0 (∀ W, La w W g m n c clk F → Calls Try.prog 38 #[.pointer (some ⟨g, 0, none⟩), .agg #[.int .i64 k, .int .i64 wk, .int .i64 op, .int .i64 cn, .int .i64 t, .int .i64 dr, .int .i64 er], .int .i64 draw] W fun e w' => e = .returned (.int .i64 code) ∧ La w w' g m (n + 1) c clk' F' ∧ Chg W w' g m) := ⟨fun W h => by have := h.doing (by have := HN.out; omega) k wk op cn t dr er draw HX.out; rw [hdo] at this; exact this⟩
            by_cases hco : code ≠ 0
            · have ho1 : (code == 0) = false := by simpa using hco
              have ho2 : (code != 0) = true := by simpa using hco
              have hT := HK.out (.inl hco)
              clear hco hdo
              go_wp2_with (first   | (go_at_call 37; (with_reducible refine (CSt.out _ HY.out.lz.la).mono ?_); rintro e w7 ⟨rfl, hb⟩; have HY2 := Aside0.mk (HY.out.step hb); clear hb HY; have hcy := fun i => blk_cell HY2.out.y i)   | (go_at_call 39; (with_reducible refine (CE.out _).mono ?_); rintro e w8 ⟨rfl, hb⟩; have HY3 := Aside0.mk (HY2.out.step hb); clear hb HY2 hcy)   | (go_at_call 38; (with_reducible refine (CD.out _ HY3.out.lz.la).mono ?_); rintro e w9 ⟨rfl, hl, hch⟩; have HY4 := Aside0.mk (HY3.out.next hl hch); clear hl hch HY3; have hcy := fun i => blk_cell HY4.out.y i; have hcc := fun i => blk_cell HY4.out.lz.cb i))
              go_roundw
              case rel => exact ⟨n + 1, clk', F', a, d, r, by omega, by first | rw [hnn] | simp, rfl, rfl, rfl, ⟨HY4.out.lz, hT⟩⟩
              case measure => first | (rw [hnn]; simp [intOf]; omega) | (simp [intOf]; omega)
            obtain rfl : code = 0 := Classical.byContradiction hco
            clear hco
            by_cases hcn : cn ≠ (x : Int)
            · have hx1 : (cn == (x : Int)) = false := by simpa using hcn
              have hx2 : (cn != (x : Int)) = true := by simpa using hcn
              have hT := HK.out (.inr (.inl hcn))
              clear hcn hdo
              go_wp2_with (first   | (go_at_call 37; (with_reducible refine (CSt.out _ HY.out.lz.la).mono ?_); rintro e w7 ⟨rfl, hb⟩; have HY2 := Aside0.mk (HY.out.step hb); clear hb HY; have hcy := fun i => blk_cell HY2.out.y i)   | (go_at_call 39; (with_reducible refine (CE.out _).mono ?_); rintro e w8 ⟨rfl, hb⟩; have HY3 := Aside0.mk (HY2.out.step hb); clear hb HY2 hcy)   | (go_at_call 38; (with_reducible refine (CD.out _ HY3.out.lz.la).mono ?_); rintro e w9 ⟨rfl, hl, hch⟩; have HY4 := Aside0.mk (HY3.out.next hl hch); clear hl hch HY3; have hcy := fun i => blk_cell HY4.out.y i; have hcc := fun i => blk_cell HY4.out.lz.cb i))
              go_roundw
              case rel => exact ⟨n + 1, clk', F', a, d, r, by omega, by first | rw [hnn] | simp, rfl, rfl, rfl, ⟨HY4.out.lz, hT⟩⟩
              case measure => first | (rw [hnn]; simp [intOf]; omega) | (simp [intOf]; omega)
            obtain rfl : cn = (x : Int) := Classical.byContradiction hcn
            clear hcn
            by_cases her : er ≠ 0
            · have hx1 : (er == 0) = false := by simpa using her
              have hx2 : (er != 0) = true := by simpa using her
              have hT := HK.out (.inr (.inr (.inl her)))
              clear her hdo
              go_wp2_with (first   | (go_at_call 37; (with_reducible refine (CSt.out _ HY.out.lz.la).mono ?_); rintro e w7 ⟨rfl, hb⟩; have HY2 := Aside0.mk (HY.out.step hb); clear hb HY; have hcy := fun i => blk_cell HY2.out.y i)   | (go_at_call 39; (with_reducible refine (CE.out _).mono ?_); rintro e w8 ⟨rfl, hb⟩; have HY3 := Aside0.mk (HY2.out.step hb); clear hb HY2 hcy)   | (go_at_call 38; (with_reducible refine (CD.out _ HY3.out.lz.la).mono ?_); rintro e w9 ⟨rfl, hl, hch⟩; have HY4 := Aside0.mk (HY3.out.next hl hch); clear hl hch HY3; have hcy := fun i => blk_cell HY4.out.y i; have hcc := fun i => blk_cell HY4.out.lz.cb i))
              go_roundw
              case rel => exact ⟨n + 1, clk', F', a, d, r, by omega, by first | rw [hnn] | simp, rfl, rfl, rfl, ⟨HY4.out.lz, hT⟩⟩
              case measure => first | (rw [hnn]; simp [intOf]; omega) | (simp [intOf]; omega)
            obtain rfl : er = 0 := Classical.byContradiction her
            clear her
            by_cases hk : k = 1
            · have hx1 : (k == 1) = true := by simpa using hk
              have hT := HK.out (.inr (.inr (.inr hk)))
              clear hk hdo
              go_wp2_with (first   | (go_at_call 37; (with_reducible refine (CSt.out _ HY.out.lz.la).mono ?_); rintro e w7 ⟨rfl, hb⟩; have HY2 := Aside0.mk (HY.out.step hb); clear hb HY; have hcy := fun i => blk_cell HY2.out.y i)   | (go_at_call 39; (with_reducible refine (CE.out _).mono ?_); rintro e w8 ⟨rfl, hb⟩; have HY3 := Aside0.mk (HY2.out.step hb); clear hb HY2 hcy)   | (go_at_call 38; (with_reducible refine (CD.out _ HY3.out.lz.la).mono ?_); rintro e w9 ⟨rfl, hl, hch⟩; have HY4 := Aside0.mk (HY3.out.next hl hch); clear hl hch HY3; have hcy := fun i => blk_cell HY4.out.y i; have hcc := fun i => blk_cell HY4.out.lz.cb i))
              go_roundw
              case rel => exact ⟨n + 1, clk', F', a, d, r, by omega, by first | rw [hnn] | simp, rfl, rfl, rfl, ⟨HY4.out.lz, hT⟩⟩
              case measure => first | (rw [hnn]; simp [intOf]; omega) | (simp [intOf]; omega)
            have hk1 : (k == 1) = false := by simpa using hk
            have hTT := times_do (draw := draw) (clk := clk) (wk := wk) (op := op) (t := t) (dr := dr) hf HT.out (by rw [hdo]) hk
            simp only [hdo, hst] at hTT
            have hat := HT.out.att
            rw [hst] at hat
            clear hk hdo HK
            have HTT := Aside0.mk hTT
            clear hTT
            go_upto_region 21 with (first   | (go_at_call 37; (with_reducible refine (CSt.out _ HY.out.lz.la).mono ?_); rintro e w7 ⟨rfl, hb⟩; have HY2 := Aside0.mk (HY.out.step hb); clear hb HY; have hcy := fun i => blk_cell HY2.out.y i)   | (go_at_call 39; (with_reducible refine (CE.out _).mono ?_); rintro e w8 ⟨rfl, hb⟩; have HY3 := Aside0.mk (HY2.out.step hb); clear hb HY2 hcy)   | (go_at_call 38; (with_reducible refine (CD.out _ HY3.out.lz.la).mono ?_); rintro e w9 ⟨rfl, hl, hch⟩; have HY4 := Aside0.mk (HY3.out.next hl hch); clear hl hch HY3; have hcy := fun i => blk_cell HY4.out.y i; have hcc := fun i => blk_cell HY4.out.lz.cb i))
            have hTT := HTT.out
            clear HTT
            rcases hTT with ⟨ho, hT⟩ | ⟨rfl, hT⟩ | ⟨rfl, hT⟩ | ⟨rfl, hT⟩ | ⟨rfl, h7, hT⟩ | ⟨rfl, h7, h8, hT⟩
            · rcases ho with rfl | rfl
              · go_wp2
                go_roundw
                case rel => exact ⟨n + 1, clk', F', t, d, 0, by omega, by first | rw [hnn] | simp, rfl, rfl, rfl, ⟨HY4.out.lz, hT⟩⟩
                case measure => first | (rw [hnn]; simp [intOf]; omega) | (simp [intOf]; omega)
              · go_wp2
                go_roundw
                case rel => exact ⟨n + 1, clk', F', t, d, 0, by omega, by first | rw [hnn] | simp, rfl, rfl, rfl, ⟨HY4.out.lz, hT⟩⟩
                case measure => first | (rw [hnn]; simp [intOf]; omega) | (simp [intOf]; omega)
            · obtain ⟨v, hv⟩ : ∃ v : Int, (if a < t then t else a) = v := ⟨_, rfl⟩
              rw [hv] at hT
              go_wp2
              go_roundw
              case rel => exact ⟨n + 1, clk', F', v, d, r, by omega, by first | rw [hnn] | simp, rfl, rfl, rfl, ⟨HY4.out.lz, hT⟩⟩
              case measure => first | (rw [hnn]; simp [intOf]; omega) | (simp [intOf]; omega)
            · go_wp2
              go_roundw
              case rel => exact ⟨n + 1, clk', F', a, d, r, by omega, by first | rw [hnn] | simp, rfl, rfl, rfl, ⟨HY4.out.lz, hT⟩⟩
              case measure => first | (rw [hnn]; simp [intOf]; omega) | (simp [intOf]; omega)
            · have HT4 := Aside0.mk hT
              clear hT
              go_wp2
              have HJ := Aside0.mk (WJ.start (c := c) (att := att) hf hat.1)
              go_loopw [18, 17] (fun vk vw wr => ∃ (q : Nat) (Wt : Int), vk = .int .i64 q ∧ vw = .int .i64 Wt ∧ Aside0 (WJ c att q Wt) ∧ wr = w9) (fun vk _ _ => 32 - (intOf vk).toNat)
              case atStart => exact ⟨0, c.c9, rfl, rfl, HJ, rfl⟩
              case round =>
                clear HJ
                obtain ⟨q, Wt, rfl, rfl, HJ, hw9⟩ := hrel
                subst hw9
                have hq31 : q ≤ 31 := by have := HJ.out.le; have := hat.2; omega
                by_cases hq : (q : Int) < att
                · have u1 : decide ((q : Int) < att) = true := decide_eq_true hq
                  by_cases hw : Wt < c.c10
                  · have u2 : decide (Wt < c.c10) = true := decide_eq_true hw
                    have hqq : wrap64 ((q : Int) + 1) = ((q + 1 : Nat) : Int) := by unfold wrap64; omega
                    have HJ2 := Aside0.mk (HJ.out.step hf hq hw)
                    clear hq hw HJ
                    go_wp2
                    go_roundw
                    case rel => exact ⟨q + 1, _, by first | rw [hqq] | simp, rfl, HJ2, by first | trivial | rfl⟩
                    case measure => first | (rw [hqq]; simp [intOf]; omega) | (simp [intOf]; omega)
                  · have u2 : decide (Wt < c.c10) = false := decide_eq_false hw
                    have hT := HT4.out _ (HJ.out.end_ hf hat (.inr hw))
                    obtain ⟨v, hv⟩ : ∃ v : Int, (if c.c10 < Wt then c.c10 else Wt) = v := ⟨_, rfl⟩
                    replace hT : TJ c (F'.at_ x) a (wrap64 (t + v)) r := by rw [← hv]; exact hT
                    clear hq hw HJ HT4
                    go_wp2
                    go_roundw
                    case rel => exact ⟨n + 1, clk', F', a, _, r, by omega, by first | rw [hnn] | simp, rfl, rfl, rfl, ⟨HY4.out.lz, hT⟩⟩
                    case measure => first | (rw [hnn]; simp [intOf]; omega) | (simp [intOf]; omega)
                · have u1 : decide ((q : Int) < att) = false := decide_eq_false hq
                  have hT := HT4.out _ (HJ.out.end_ hf hat (.inl hq))
                  obtain ⟨v, hv⟩ : ∃ v : Int, (if c.c10 < Wt then c.c10 else Wt) = v := ⟨_, rfl⟩
                  replace hT : TJ c (F'.at_ x) a (wrap64 (t + v)) r := by rw [← hv]; exact hT
                  clear hq HJ HT4
                  go_wp2
                  go_roundw
                  case rel => exact ⟨n + 1, clk', F', a, _, r, by omega, by first | rw [hnn] | simp, rfl, rfl, rfl, ⟨HY4.out.lz, hT⟩⟩
                  case measure => first | (rw [hnn]; simp [intOf]; omega) | (simp [intOf]; omega)
            · obtain ⟨v, hv⟩ : ∃ v : Int, (if 1073741823 < wrap64 (a + c.c8) then 1073741823 else wrap64 (a + c.c8)) = v := ⟨_, rfl⟩
              have g7 : decide (t < v) = false := decide_eq_false (by rw [← hv]; exact Int.not_lt.2 h7)
              clear h7
              go_wp2
              go_roundw
              case rel => exact ⟨n + 1, clk', F', a, d, r, by omega, by first | rw [hnn] | simp, rfl, rfl, rfl, ⟨HY4.out.lz, hT⟩⟩
              case measure => first | (rw [hnn]; simp [intOf]; omega) | (simp [intOf]; omega)
            · obtain ⟨v, hv⟩ : ∃ v : Int, (if 1073741823 < d then 1073741823 else d) = v := ⟨_, rfl⟩
              have g7 : decide (t < v) = false := decide_eq_false (by rw [← hv]; exact Int.not_lt.2 h7)
              have g8 : decide (wrap64 (r + 1) > c.c12) = false := decide_eq_false (Int.not_lt.2 h8)
              clear h7 h8
              go_wp2
              go_roundw
              case rel => exact ⟨n + 1, clk', F', a, d, _, by omega, by first | rw [hnn] | simp, rfl, rfl, rfl, ⟨HY4.out.lz, hT⟩⟩
              case measure => first | (rw [hnn]; simp [intOf]; omega) | (simp [intOf]; omega)
        · have q0 : decide ((n : Int) < (l1.length : Int)) = false := decide_eq_false (by omega)
          go_wp2
          go_roundw
          case rel => exact ⟨x + 1, by omega, by first | rw [hxx] | simp, ⟨HL.out.1.la.below, HL.out.1.cb⟩⟩
          case measure => first | (rw [hxx]; simp [intOf]; omega) | (simp [intOf]; omega)
    · have x1 : decide ((x : Int) < N) = false := decide_eq_false hxN
      go_wp2
      go_ret
      exact ⟨rfl, HU.out.1⟩
end Go.Proofs.Ythljanmfanppdaa.Bk
