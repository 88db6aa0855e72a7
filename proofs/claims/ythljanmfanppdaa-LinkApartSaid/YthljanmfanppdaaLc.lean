/- What is proved: knelllaw24.LinkApart returns true; connections' numbers fit into 64 bits. -/
import Derived.Test.YthljanmfanppdaaLb
namespace Go.Proofs.Ythljanmfanppdaa.Bk
open Go.RowKit Go.Maps Go.Proofs.YthljanmfanppdaaW.PrintWords Go.Proofs.YthljanmfanppdaaW.PrintLast Go.Proofs.YthljanmfanppdaaW.PrintMore Go.Proofs.Ythljanmfanppdaa.Mp Go.Proofs.Ythljanmfanppdaa.KLa
set_option linter.unusedVariables false
set_option linter.unusedSimpArgs false
/-- The cells of the four states, j of them read. -/
abbrev ar4 (a0 b0 d0 a1 b1 d1 a2 b2 d2 a3 b3 d3 : Int) : Array Value := #[.int .i64 a0, .int .i64 b0, .int .i64 d0, .int .i64 a1, .int .i64 b1, .int .i64 d1, .int .i64 a2, .int .i64 b2, .int .i64 d2, .int .i64 a3, .int .i64 b3, .int .i64 d3]
def arA (a0 b0 d0 a1 b1 d1 a2 b2 d2 a3 b3 d3 : Int) : Nat → Array Value
  | 0 => ar4 0 0 0 0 0 0 0 0 0 0 0 0
  | 1 => ar4 a0 b0 d0 0 0 0 0 0 0 0 0 0
  | 2 => ar4 a0 b0 d0 a1 b1 d1 0 0 0 0 0 0
  | 3 => ar4 a0 b0 d0 a1 b1 d1 a2 b2 d2 0 0 0
  | _ => ar4 a0 b0 d0 a1 b1 d1 a2 b2 d2 a3 b3 d3
/-- The book, an event's block and the block of the four states. -/
structure Ly (w W : World) (g m n : Nat) (c : Cf) (clk : Int) (F : SM) (yb ab : Nat) (ev ar : Array Value) : Prop where
  la : La w W g m n c clk F
  y : W.heap[yb]? = some (.cells ev 54 (0, 0))
  a : W.heap[ab]? = some (.cells ar 63 (0, 0))
  yl : w.heap.size ≤ yb
  al : w.heap.size ≤ ab
  yg : yb ≠ g
  ym : yb ≠ m
  ag : ab ≠ g
  am : ab ≠ m
  ya : yb ≠ ab
section
variable {w W W1 : World} {g m n : Nat} {c : Cf} {clk : Int} {F : SM} {yb ab : Nat} {ev ar : Array Value}
theorem Ly.step (h : Ly w W g m n c clk F yb ab ev ar) (hb : Below W.heap.size W W1) : Ly w W1 g m n c clk F yb ab ev ar :=
  ⟨h.la.step hb, blk_below h.y hb, blk_below h.a hb, h.yl, h.al, h.yg, h.ym, h.ag, h.am, h.ya⟩
theorem Ly.alloc (h : Ly w W g m n c clk F yb ab ev ar) (o : Obj) : Ly w (W.alloc o) g m n c clk F yb ab ev ar := h.step (below_alloc (Below.refl _ _) _)
theorem Ly.drew (h : Ly w W g m n c clk F yb ab ev ar) : Ly w W.drew g m n c clk F yb ab ev ar := h.step (Below.drew (Below.refl _ _))
theorem Ly.put (h : Ly w W g m n c clk F yb ab ev ar) (i : Nat) (x y z : Value) {ar' : Array Value} (e : ((ar.setIfInBounds i x).setIfInBounds (i + 1) y).setIfInBounds (i + 2) z = ar') : Ly w (((W.setCell ⟨ab, i, none⟩ x).setCell ⟨ab, i + 1, none⟩ y).setCell ⟨ab, i + 2, none⟩ z) g m n c clk F yb ab ev ar' :=
  ⟨((h.la.put h.al h.ag h.am i x).put h.al h.ag h.am (i + 1) y).put h.al h.ag h.am (i + 2) z, blk_far (blk_far (blk_far h.y h.ya x) h.ya y) h.ya z, e ▸ blk_set (blk_set (blk_set h.a i x) (i + 1) y) (i + 2) z, h.yl, h.al, h.yg, h.ym, h.ag, h.am, h.ya⟩
theorem Ly.next {clk' : Int} {F' : SM} {n' : Nat} (h : Ly w W g m n c clk F yb ab ev ar) (hl : La w W1 g m n' c clk' F') (hc : Chg W W1 g m) : Ly w W1 g m n' c clk' F' yb ab ev ar :=
  ⟨hl, (hc.block _ (blk_lt h.y) h.yg h.ym).trans h.y, (hc.block _ (blk_lt h.a) h.ag h.am).trans h.a, h.yl, h.al, h.yg, h.ym, h.ag, h.am, h.ya⟩
/-- A world in which all that holds. -/
structure LyW (w : World) (g m n : Nat) (c : Cf) (clk : Int) (F : SM) (yb ab : Nat) (ev ar : Array Value) where
  W : World
  h : Ly w W g m n c clk F yb ab ev ar
theorem Ly.cells (h : Ly w W g m n c clk F yb ab ev ar) : (∀ i, W.cell? ⟨yb, i, none⟩ = ev[i]?) ∧ (∀ i, W.cell? ⟨ab, i, none⟩ = ar[i]?) := ⟨fun i => blk_cell h.y i, fun i => blk_cell h.a i⟩
end
/-- A region that draws its order and only reads, in a class of worlds. -/
theorem wp_region_quiet_in {P : Program} {id : Nat} {Q : Exit → Act → World → Prop} {a : Act} {w : World} {l : List Oper} (C : World → Prop) (hm : P.follows .mixedOrders = true) (hB : Region.lexB .any l.toArray = true) (hw : C w.drew)
    (h : wpQuiet P l.toArray C (fun a' => ∀ w', C w' → Q .normal a' w') l a) : (Code.region id l.toArray true).wp P Q a w :=
  wp_region_quiet (C := C) hm hB hw (by simpa using h)
set_option maxHeartbeats 20000000 in
set_option maxRecDepth 100000 in
theorem apart_main (c : Cf) (A1 : Option Addr) (q1 : Nat) (l1 : List S54) (A2 : Option Addr) (q2 : Nat) (l2 : List Int) (hn : l1.length ≤ 60) (hc : (cfCode c == 0) = true) (w : World) (hr1 : Kd.C k54 w A1 l1.length l1) (hr2 : Kd.C (Kd.int .i64) w A2 l2.length l2) (hwf : ∀ i : Int, (Lit.int .i64 (rd_T54 l1 i).f3).wf = true) :
    Calls Try.prog 9 #[.agg c.cells, .slice A1 l1.length q1, .slice A2 l2.length q2] w fun e w' => e = .returned (.bool true) ∧ Below w.heap.size w w' := by
  have hu54 := Try.underlying54
  have hu2 := Try.underlying56
  have CS := Aside0.mk (fun W => speaks_any W)
  have CR := Aside0.mk (fun W => cright_calls c W)
  rw [hc] at CR
  have CO := Aside0.mk (fun W => of_calls c W)
  have CN := Aside0.mk (fun W => new_is c W)
  rw [show cfCode c = 0 by simpa using hc] at CN
  clear hc
  have HR1 := Aside0.mk hr1
  have HR2 := Aside0.mk hr2
  have HW := Aside0.mk hwf
  have HN := Aside0.mk hn
  have hn' : decide ((l1.length : Int) > 60) = false := by simp; omega
  clear hr1 hr2 hwf hn
  go_enter Try.func9, Try.ntmps9
  go_wp2_with (first
    | (go_at_call 35; (with_reducible refine (CS.out _).mono ?_); rintro e w1 ⟨rfl, hb⟩; have n1 := Aside0.mk (show Below w.heap.size w w1 from below_step (below_alloc (Below.refl _ _) _) hb); have n2 := Aside0.mk ((hb.block w.heap.size (by simp)).trans (heap_alloc_new w (.cells c.cells 33))); have hc := fun i => blk_cell n2.out i; clear hb)
    | (go_at_call 22; (with_reducible refine (CR.out _).mono ?_); rintro e w2 ⟨rfl, hb⟩; have n3 := Aside0.mk (below_step n1.out hb); have n4 := Aside0.mk ((hb.block _ (blk_lt n2.out)).trans n2.out); clear hb n1 n2 hc; have hc := fun i => blk_cell n4.out i)
    | (go_at_call 23; (with_reducible refine (CO.out _).mono ?_); rintro e w3 ⟨rfl, hb⟩; have n5 := Aside0.mk (below_step n3.out hb); clear hb n3 n4 hc)
    | (go_at_call 36; (with_reducible refine (CN.out _).mono ?_); rintro e w4 (⟨h0, _⟩ | ⟨_, g, m, rfl, hg, hm, hB, hb⟩); (exact absurd rfl h0); have n6 := Aside0.mk (show La w w4 g m 0 c 0 (fun _ => none) from ⟨below_step n5.out hb, ⟨0, Nat.le_refl _, hB⟩, Nat.le_trans n5.out.size hg, Nat.le_trans n5.out.size hm⟩); clear hg hm hB hb n5))
  go_loopw [43] (fun i wr => ∃ (n : Nat) (clk : Int) (F : SM), n ≤ l1.length ∧ i = .int .i64 n ∧ Aside0 (La w wr g m n c clk F)) (fun i _ => l1.length - (intOf i).toNat)
  case atStart => exact ⟨0, 0, fun _ => none, by omega, rfl, n6⟩
  case round =>
    clear n6
    obtain ⟨n, clk, F, hn, rfl, HL⟩ := hrel
    rcases Nat.lt_or_ge n l1.length with hlt | hge
    · have p0 : (0 : Int) ≤ (n : Int) := by omega
      have q0 : (n : Int) < (l1.length : Int) := by omega
      obtain ⟨ad, e, h0, h1, h2, h3, h4, h5, h6⟩ := at_T54 HR1.out (n : Int) p0 q0
      cases e
      have HX := Aside0.mk (HW.out (n : Int))
      generalize rd_T54 l1 (n : Int) = E at h0 h1 h2 h3 h4 h5 h6 HX
      obtain ⟨k, wk, op, cn, t, dr, er⟩ := E
      simp only [Int.toNat_natCast] at h0 h1 h2 h3 h4 h5 h6 HX
      replace h0 := (HL.out.below.cell (World.block_lt_of_cell? w _ h0)).trans h0
      replace h1 := (HL.out.below.cell (World.block_lt_of_cell? w _ h1)).trans h1
      replace h2 := (HL.out.below.cell (World.block_lt_of_cell? w _ h2)).trans h2
      replace h3 := (HL.out.below.cell (World.block_lt_of_cell? w _ h3)).trans h3
      replace h4 := (HL.out.below.cell (World.block_lt_of_cell? w _ h4)).trans h4
      replace h5 := (HL.out.below.cell (World.block_lt_of_cell? w _ h5)).trans h5
      replace h6 := (HL.out.below.cell (World.block_lt_of_cell? w _ h6)).trans h6
      replace q0 := eq_true q0
      replace p0 := eq_true p0
      have hnn : wrap64 ((n : Int) + 1) = ((n + 1 : Nat) : Int) := by have := HN.out; unfold wrap64; omega
      rcases Nat.lt_or_ge n l2.length with hd | hd
      · have d0 : (0 : Int) ≤ (n : Int) := by omega
        have d1 : (n : Int) < (l2.length : Int) := by omega
        obtain ⟨ad2, e, hd2⟩ := Kd.at_int HR2.out (n : Int) d0 d1
        cases e
        replace hd2 := (HL.out.below.cell (World.block_lt_of_cell? w _ hd2)).trans hd2
        generalize rd l2 (n : Int) = draw at hd2
        rw [Int.toNat_natCast] at hd2
        have hdl := World.block_lt_of_cell? _ _ hd2
        replace hd2 : (wr.alloc (.cells (evA k wk op cn t dr er) 54)).cell? (ad2.add n) = some (.int .i64 draw) := ((below_alloc (Below.refl _ _) _).cell hdl).trans hd2
        replace d1 := eq_true d1
        go_wp2
        have hgl := HL.out.glt
        have hml := HL.out.mlt
        obtain ⟨yb, hyb⟩ : ∃ yb, yb = wr.heap.size := ⟨_, rfl⟩
        obtain ⟨ab, hab⟩ : ∃ ab, ab = wr.heap.size + 1 := ⟨_, rfl⟩
        have HY : Aside0 (Ly w ((wr.alloc (.cells (evA k wk op cn t dr er) 54)).alloc (.cells (ar4 0 0 0 0 0 0 0 0 0 0 0 0) 63)) g m n c clk F yb ab (evA k wk op cn t dr er) (ar4 0 0 0 0 0 0 0 0 0 0 0 0)) :=
          ⟨⟨(HL.out.alloc _).alloc _, by rw [hyb]; exact blk_alloc (blk_new _ _) _, by rw [hab]; simpa using blk_new (wr.alloc (.cells (evA k wk op cn t dr er) 54)) (.cells (ar4 0 0 0 0 0 0 0 0 0 0 0 0) 63), by have := HL.out.below.size; omega, by have := HL.out.below.size; omega, by omega, by omega, by omega, by omega, by omega⟩⟩
        rw [← hab, ← hyb]
        clear hab hyb hgl hml HL h0 h1 h2 h3 h4 h5 h6
        obtain ⟨a0, b0, e0, f0⟩ : ∃ a b d, F.at_ 0 = (a, b, d) := ⟨_, _, _, rfl⟩
        obtain ⟨a1, b1, e1, f1⟩ : ∃ a b d, F.at_ 1 = (a, b, d) := ⟨_, _, _, rfl⟩
        obtain ⟨a2, b2, e2, f2⟩ : ∃ a b d, F.at_ 2 = (a, b, d) := ⟨_, _, _, rfl⟩
        obtain ⟨a3, b3, e3, f3⟩ : ∃ a b d, F.at_ 3 = (a, b, d) := ⟨_, _, _, rfl⟩
        go_loopw [56] (fun i wr => ∃ j : Nat, j ≤ 4 ∧ i = .int .i64 j ∧ Aside0 (Ly w wr g m n c clk F yb ab (evA k wk op cn t dr er) (arA a0 b0 e0 a1 b1 e1 a2 b2 e2 a3 b3 e3 j))) (fun i _ => 4 - (intOf i).toNat)
        case atStart => exact ⟨0, by omega, rfl, HY⟩
        case round =>
          clear HY
          obtain ⟨j, hj, rfl, HY⟩ := hrel
          obtain rfl | rfl | rfl | rfl | rfl : j = 0 ∨ j = 1 ∨ j = 2 ∨ j = 3 ∨ j = 4 := by omega
          · have CSt : Aside0 (∀ W, La w W g m n c clk F → Calls Try.prog 37 #[.pointer (some ⟨g, 0, none⟩), .int .i64 0] W fun e w' => e = .returned (.agg #[.int .i64 a0, .int .i64 b0, .int .i64 e0]) ∧ Below W.heap.size W w') := ⟨fun W h => h.state 0 (by decide) _ _ _ f0⟩
            go_wp2_with (go_at_call 37; (with_reducible refine (CSt.out _ HY.out.la).mono ?_); rintro e w2 ⟨rfl, hb⟩; have HY2 := Aside0.mk (HY.out.step hb); clear hb HY; have hfz := fun i => blk_frozen HY2.out.a i; have hca : ∀ i, w2.cell? ⟨ab, i, none⟩ = (#[.int .i64 0, .int .i64 0, .int .i64 0, .int .i64 0, .int .i64 0, .int .i64 0, .int .i64 0, .int .i64 0, .int .i64 0, .int .i64 0, .int .i64 0, .int .i64 0] : Array Value)[i]? := fun i => blk_cell HY2.out.a i)
            go_roundw
            case rel => exact ⟨1, by omega, rfl, ⟨HY2.out.put 0 _ _ _ rfl⟩⟩
            case measure => simp [intOf]
          · have CSt : Aside0 (∀ W, La w W g m n c clk F → Calls Try.prog 37 #[.pointer (some ⟨g, 0, none⟩), .int .i64 1] W fun e w' => e = .returned (.agg #[.int .i64 a1, .int .i64 b1, .int .i64 e1]) ∧ Below W.heap.size W w') := ⟨fun W h => h.state 1 (by decide) _ _ _ f1⟩
            go_wp2_with (go_at_call 37; (with_reducible refine (CSt.out _ HY.out.la).mono ?_); rintro e w2 ⟨rfl, hb⟩; have HY2 := Aside0.mk (HY.out.step hb); clear hb HY; have hfz := fun i => blk_frozen HY2.out.a i; have hca : ∀ i, w2.cell? ⟨ab, i, none⟩ = (#[.int .i64 a0, .int .i64 b0, .int .i64 e0, .int .i64 0, .int .i64 0, .int .i64 0, .int .i64 0, .int .i64 0, .int .i64 0, .int .i64 0, .int .i64 0, .int .i64 0] : Array Value)[i]? := fun i => blk_cell HY2.out.a i)
            go_roundw
            case rel => exact ⟨2, by omega, rfl, ⟨HY2.out.put 3 _ _ _ rfl⟩⟩
            case measure => simp [intOf]
          · have CSt : Aside0 (∀ W, La w W g m n c clk F → Calls Try.prog 37 #[.pointer (some ⟨g, 0, none⟩), .int .i64 2] W fun e w' => e = .returned (.agg #[.int .i64 a2, .int .i64 b2, .int .i64 e2]) ∧ Below W.heap.size W w') := ⟨fun W h => h.state 2 (by decide) _ _ _ f2⟩
            go_wp2_with (go_at_call 37; (with_reducible refine (CSt.out _ HY.out.la).mono ?_); rintro e w2 ⟨rfl, hb⟩; have HY2 := Aside0.mk (HY.out.step hb); clear hb HY; have hfz := fun i => blk_frozen HY2.out.a i; have hca : ∀ i, w2.cell? ⟨ab, i, none⟩ = (#[.int .i64 a0, .int .i64 b0, .int .i64 e0, .int .i64 a1, .int .i64 b1, .int .i64 e1, .int .i64 0, .int .i64 0, .int .i64 0, .int .i64 0, .int .i64 0, .int .i64 0] : Array Value)[i]? := fun i => blk_cell HY2.out.a i)
            go_roundw
            case rel => exact ⟨3, by omega, rfl, ⟨HY2.out.put 6 _ _ _ rfl⟩⟩
            case measure => simp [intOf]
          · have CSt : Aside0 (∀ W, La w W g m n c clk F → Calls Try.prog 37 #[.pointer (some ⟨g, 0, none⟩), .int .i64 3] W fun e w' => e = .returned (.agg #[.int .i64 a3, .int .i64 b3, .int .i64 e3]) ∧ Below W.heap.size W w') := ⟨fun W h => h.state 3 (by decide) _ _ _ f3⟩
            go_wp2_with (go_at_call 37; (with_reducible refine (CSt.out _ HY.out.la).mono ?_); rintro e w2 ⟨rfl, hb⟩; have HY2 := Aside0.mk (HY.out.step hb); clear hb HY; have hfz := fun i => blk_frozen HY2.out.a i; have hca : ∀ i, w2.cell? ⟨ab, i, none⟩ = (#[.int .i64 a0, .int .i64 b0, .int .i64 e0, .int .i64 a1, .int .i64 b1, .int .i64 e1, .int .i64 a2, .int .i64 b2, .int .i64 e2, .int .i64 0, .int .i64 0, .int .i64 0] : Array Value)[i]? := fun i => blk_cell HY2.out.a i)
            go_roundw
            case rel => exact ⟨4, by omega, rfl, ⟨HY2.out.put 9 _ _ _ rfl⟩⟩
            case measure => simp [intOf]
          · have hcy := fun i => blk_cell HY.out.y i
            obtain ⟨code, clk', F', hdo⟩ : ∃ code clk' F', doF c clk F k wk op cn t dr er draw = (code, clk', F') := ⟨_, _, _, rfl⟩
            have HA : Aside0 (∀ x, x ≠ cn ∨ code ≠ 0 ∨ k = 1 → F'.at_ x = F.at_ x) := ⟨fun x hx => by have := apart_is c clk F k wk op cn t dr er draw x (by rw [hdo]; exact hx); rw [hdo] at this; exact this⟩
            have CE := Aside0.mk (fun W => eof_calls k wk op cn t dr er W)
            have CD : Aside0 (∀ W, La w W g m n c clk F → Calls Try.prog 38 #[.pointer (some ⟨g, 0, none⟩), .agg #[.int .i64 k, .int .i64 wk, .int .i64 op, .int .i64 cn, .int .i64 t, .int .i64 dr, .int .i64 er], .int .i64 draw] W fun e w' => e = .returned (.int .i64 code) ∧ La w w' g m (n + 1) c clk' F' ∧ Chg W w' g m) := ⟨fun W h => by have := h.doing (by have := HN.out; omega) k wk op cn t dr er draw HX.out; rw [hdo] at this; exact this⟩
            clear hdo
            go_wp2_with (first
              | (go_at_call 39; (with_reducible refine (CE.out _).mono ?_); rintro e w2 ⟨rfl, hb⟩; have HY2 := Aside0.mk (HY.out.step hb); clear hb HY hcy; have hcy := fun i => blk_cell HY2.out.y i)
              | (go_at_call 38; (with_reducible refine (CD.out _ HY2.out.la).mono ?_); rintro e w3 ⟨rfl, hl, hch⟩; have HY3 := Aside0.mk (HY2.out.next hl hch); clear hl hch HY2 hcy))
            go_loopw [70] (fun i wr => ∃ x : Nat, x ≤ 4 ∧ i = .int .i64 x ∧ Aside0 (Ly w wr g m (n + 1) c clk' F' yb ab (evA k wk op cn t dr er) (ar4 a0 b0 e0 a1 b1 e1 a2 b2 e2 a3 b3 e3))) (fun i _ => 4 - (intOf i).toNat)
            case atStart => exact ⟨0, by omega, rfl, HY3⟩
            case round =>
              clear HY3
              obtain ⟨x, hxx, rfl, HZ⟩ := hrel
              rcases Nat.lt_or_ge x 4 with hx4 | hx4
              · obtain ⟨a, b, d, f, hwx, HF⟩ : ∃ a b d, F.at_ (x : Int) = (a, b, d) ∧ (Lit.int .i64 (x : Int)).wf = true ∧ Aside0 ((ar4 a0 b0 e0 a1 b1 e1 a2 b2 e2 a3 b3 e3)[x * 3]? = some (.int .i64 a) ∧ (ar4 a0 b0 e0 a1 b1 e1 a2 b2 e2 a3 b3 e3)[x * 3 + 1]? = some (.int .i64 b) ∧ (ar4 a0 b0 e0 a1 b1 e1 a2 b2 e2 a3 b3 e3)[x * 3 + 2]? = some (.int .i64 d)) := by
                  obtain rfl | rfl | rfl | rfl : x = 0 ∨ x = 1 ∨ x = 2 ∨ x = 3 := by omega
                  · exact ⟨_, _, _, f0, by decide, ⟨rfl, rfl, rfl⟩⟩
                  · exact ⟨_, _, _, f1, by decide, ⟨rfl, rfl, rfl⟩⟩
                  · exact ⟨_, _, _, f2, by decide, ⟨rfl, rfl, rfl⟩⟩
                  · exact ⟨_, _, _, f3, by decide, ⟨rfl, rfl, rfl⟩⟩
                have t1 : ((x : Int) < 4) = True := eq_true (by omega)
                have t2 : decide ((x : Int) < 4) = true := decide_eq_true (by omega)
                have t3 : (0 ≤ (x : Int)) = True := eq_true (by omega)
                have t4 : x < 4 := hx4
                have hxw : wrap64 ((x : Int) + 1) = ((x + 1 : Nat) : Int) := by unfold wrap64; omega
                by_cases hx : (x : Int) ≠ cn
                · have hx1 : ((x : Int) == cn) = false := by simpa using hx
                  have hx2 : ((x : Int) != cn) = true := by simpa using hx
                  have CSt : Aside0 (∀ W, La w W g m (n + 1) c clk' F' → Calls Try.prog 37 #[.pointer (some ⟨g, 0, none⟩), .int .i64 (x : Int)] W fun e w' => e = .returned (.agg #[.int .i64 a, .int .i64 b, .int .i64 d]) ∧ Below W.heap.size W w') := ⟨fun W h => h.state x hwx _ _ _ ((HA.out x (.inl hx)).trans f)⟩
                  clear hx
                  go_wp2
                  have hcp : ∀ (p : LyW w g m (n + 1) c clk' F' yb ab (evA k wk op cn t dr er) (ar4 a0 b0 e0 a1 b1 e1 a2 b2 e2 a3 b3 e3)) (i : Nat), p.W.cell? ⟨yb, i, none⟩ = (evA k wk op cn t dr er)[i]? := fun p i => p.h.cells.1 i
                  have hp0 : ∀ (p : LyW w g m (n + 1) c clk' F' yb ab (evA k wk op cn t dr er) (ar4 a0 b0 e0 a1 b1 e1 a2 b2 e2 a3 b3 e3)), p.W.cell? ⟨ab, x * 3, none⟩ = some (.int .i64 a) := fun p => (p.h.cells.2 _).trans HF.out.1
                  have hp1 : ∀ (p : LyW w g m (n + 1) c clk' F' yb ab (evA k wk op cn t dr er) (ar4 a0 b0 e0 a1 b1 e1 a2 b2 e2 a3 b3 e3)), p.W.cell? ⟨ab, x * 3 + 1, none⟩ = some (.int .i64 b) := fun p => (p.h.cells.2 _).trans HF.out.2.1
                  have hp2 : ∀ (p : LyW w g m (n + 1) c clk' F' yb ab (evA k wk op cn t dr er) (ar4 a0 b0 e0 a1 b1 e1 a2 b2 e2 a3 b3 e3)), p.W.cell? ⟨ab, x * 3 + 2, none⟩ = some (.int .i64 d) := fun p => (p.h.cells.2 _).trans HF.out.2.2
                  have hne : Nonempty (LyW w g m (n + 1) c clk' F' yb ab (evA k wk op cn t dr er) (ar4 a0 b0 e0 a1 b1 e1 a2 b2 e2 a3 b3 e3)) := ⟨⟨_, HZ.out⟩⟩
                  refine wp_region_quiet_in (fun w' => ∃ p : LyW w g m (n + 1) c clk' F' yb ab (evA k wk op cn t dr er) (ar4 a0 b0 e0 a1 b1 e1 a2 b2 e2 a3 b3 e3), w' = p.W) (by kernel_rfl) (by kernel_rfl) ⟨⟨_, HZ.out.drew⟩, rfl⟩ ?_
                  repeat (go_big_quiet_step ((rename_i p; go_at_call 37; (with_reducible refine (CSt.out _ p.h.la).mono ?_); rintro e w5 ⟨rfl, hb⟩; exact ⟨rfl, ⟨⟨w5, p.h.step hb⟩, rfl⟩⟩)))
                  refine wpQuiet_nil ?_
                  intro _ hw'
                  obtain ⟨p, hw''⟩ := hw'
                  subst hw''
                  clear hne HZ hcp hp0 hp1 hp2
                  have HZ := Aside0.mk p.h
                  go_wp2
                  exact ⟨⟨x + 1, by omega, by simp, ⟨by first | exact HZ.out | exact HZ.out.drew | exact HZ.out.step (pw_below_drewN (Below.refl _ _) _)⟩⟩, by simp [intOf]; omega⟩
                by_cases hco : code ≠ 0
                · have hx1 : ((x : Int) == cn) = true := by simpa using hx
                  have hx2 : ((x : Int) != cn) = false := by simpa using hx
                  have ho1 : (code == 0) = false := by simpa using hco
                  have ho2 : (code != 0) = true := by simpa using hco
                  have CSt : Aside0 (∀ W, La w W g m (n + 1) c clk' F' → Calls Try.prog 37 #[.pointer (some ⟨g, 0, none⟩), .int .i64 (x : Int)] W fun e w' => e = .returned (.agg #[.int .i64 a, .int .i64 b, .int .i64 d]) ∧ Below W.heap.size W w') := ⟨fun W h => h.state x hwx _ _ _ ((HA.out x (.inr (.inl hco))).trans f)⟩
                  clear hx hco
                  go_wp2
                  have hcp : ∀ (p : LyW w g m (n + 1) c clk' F' yb ab (evA k wk op cn t dr er) (ar4 a0 b0 e0 a1 b1 e1 a2 b2 e2 a3 b3 e3)) (i : Nat), p.W.cell? ⟨yb, i, none⟩ = (evA k wk op cn t dr er)[i]? := fun p i => p.h.cells.1 i
                  have hp0 : ∀ (p : LyW w g m (n + 1) c clk' F' yb ab (evA k wk op cn t dr er) (ar4 a0 b0 e0 a1 b1 e1 a2 b2 e2 a3 b3 e3)), p.W.cell? ⟨ab, x * 3, none⟩ = some (.int .i64 a) := fun p => (p.h.cells.2 _).trans HF.out.1
                  have hp1 : ∀ (p : LyW w g m (n + 1) c clk' F' yb ab (evA k wk op cn t dr er) (ar4 a0 b0 e0 a1 b1 e1 a2 b2 e2 a3 b3 e3)), p.W.cell? ⟨ab, x * 3 + 1, none⟩ = some (.int .i64 b) := fun p => (p.h.cells.2 _).trans HF.out.2.1
                  have hp2 : ∀ (p : LyW w g m (n + 1) c clk' F' yb ab (evA k wk op cn t dr er) (ar4 a0 b0 e0 a1 b1 e1 a2 b2 e2 a3 b3 e3)), p.W.cell? ⟨ab, x * 3 + 2, none⟩ = some (.int .i64 d) := fun p => (p.h.cells.2 _).trans HF.out.2.2
                  have hne : Nonempty (LyW w g m (n + 1) c clk' F' yb ab (evA k wk op cn t dr er) (ar4 a0 b0 e0 a1 b1 e1 a2 b2 e2 a3 b3 e3)) := ⟨⟨_, HZ.out⟩⟩
                  refine wp_region_quiet_in (fun w' => ∃ p : LyW w g m (n + 1) c clk' F' yb ab (evA k wk op cn t dr er) (ar4 a0 b0 e0 a1 b1 e1 a2 b2 e2 a3 b3 e3), w' = p.W) (by kernel_rfl) (by kernel_rfl) ⟨⟨_, HZ.out.drew⟩, rfl⟩ ?_
                  repeat (go_big_quiet_step ((rename_i p; go_at_call 37; (with_reducible refine (CSt.out _ p.h.la).mono ?_); rintro e w5 ⟨rfl, hb⟩; exact ⟨rfl, ⟨⟨w5, p.h.step hb⟩, rfl⟩⟩)))
                  refine wpQuiet_nil ?_
                  intro _ hw'
                  obtain ⟨p, hw''⟩ := hw'
                  subst hw''
                  clear hne HZ hcp hp0 hp1 hp2
                  have HZ := Aside0.mk p.h
                  go_wp2
                  exact ⟨⟨x + 1, by omega, by simp, ⟨by first | exact HZ.out | exact HZ.out.drew | exact HZ.out.step (pw_below_drewN (Below.refl _ _) _)⟩⟩, by simp [intOf]; omega⟩
                by_cases hk : k = 1
                · have hx1 : ((x : Int) == cn) = true := by simpa using hx
                  have hx2 : ((x : Int) != cn) = false := by simpa using hx
                  have ho1 : (code == 0) = true := by simpa using hco
                  have ho2 : (code != 0) = false := by simpa using hco
                  have hk1 : (k == 1) = true := by simpa using hk
                  have CSt : Aside0 (∀ W, La w W g m (n + 1) c clk' F' → Calls Try.prog 37 #[.pointer (some ⟨g, 0, none⟩), .int .i64 (x : Int)] W fun e w' => e = .returned (.agg #[.int .i64 a, .int .i64 b, .int .i64 d]) ∧ Below W.heap.size W w') := ⟨fun W h => h.state x hwx _ _ _ ((HA.out x (.inr (.inr hk))).trans f)⟩
                  clear hx hco hk
                  go_wp2
                  have hcp : ∀ (p : LyW w g m (n + 1) c clk' F' yb ab (evA k wk op cn t dr er) (ar4 a0 b0 e0 a1 b1 e1 a2 b2 e2 a3 b3 e3)) (i : Nat), p.W.cell? ⟨yb, i, none⟩ = (evA k wk op cn t dr er)[i]? := fun p i => p.h.cells.1 i
                  have hp0 : ∀ (p : LyW w g m (n + 1) c clk' F' yb ab (evA k wk op cn t dr er) (ar4 a0 b0 e0 a1 b1 e1 a2 b2 e2 a3 b3 e3)), p.W.cell? ⟨ab, x * 3, none⟩ = some (.int .i64 a) := fun p => (p.h.cells.2 _).trans HF.out.1
                  have hp1 : ∀ (p : LyW w g m (n + 1) c clk' F' yb ab (evA k wk op cn t dr er) (ar4 a0 b0 e0 a1 b1 e1 a2 b2 e2 a3 b3 e3)), p.W.cell? ⟨ab, x * 3 + 1, none⟩ = some (.int .i64 b) := fun p => (p.h.cells.2 _).trans HF.out.2.1
                  have hp2 : ∀ (p : LyW w g m (n + 1) c clk' F' yb ab (evA k wk op cn t dr er) (ar4 a0 b0 e0 a1 b1 e1 a2 b2 e2 a3 b3 e3)), p.W.cell? ⟨ab, x * 3 + 2, none⟩ = some (.int .i64 d) := fun p => (p.h.cells.2 _).trans HF.out.2.2
                  have hne : Nonempty (LyW w g m (n + 1) c clk' F' yb ab (evA k wk op cn t dr er) (ar4 a0 b0 e0 a1 b1 e1 a2 b2 e2 a3 b3 e3)) := ⟨⟨_, HZ.out⟩⟩
                  refine wp_region_quiet_in (fun w' => ∃ p : LyW w g m (n + 1) c clk' F' yb ab (evA k wk op cn t dr er) (ar4 a0 b0 e0 a1 b1 e1 a2 b2 e2 a3 b3 e3), w' = p.W) (by kernel_rfl) (by kernel_rfl) ⟨⟨_, HZ.out.drew⟩, rfl⟩ ?_
                  repeat (go_big_quiet_step ((rename_i p; go_at_call 37; (with_reducible refine (CSt.out _ p.h.la).mono ?_); rintro e w5 ⟨rfl, hb⟩; exact ⟨rfl, ⟨⟨w5, p.h.step hb⟩, rfl⟩⟩)))
                  refine wpQuiet_nil ?_
                  intro _ hw'
                  obtain ⟨p, hw''⟩ := hw'
                  subst hw''
                  clear hne HZ hcp hp0 hp1 hp2
                  have HZ := Aside0.mk p.h
                  go_wp2
                  exact ⟨⟨x + 1, by omega, by simp, ⟨by first | exact HZ.out | exact HZ.out.drew | exact HZ.out.step (pw_below_drewN (Below.refl _ _) _)⟩⟩, by simp [intOf]; omega⟩
                · have hx1 : ((x : Int) == cn) = true := by simpa using hx
                  have hx2 : ((x : Int) != cn) = false := by simpa using hx
                  have ho1 : (code == 0) = true := by simpa using hco
                  have ho2 : (code != 0) = false := by simpa using hco
                  have hk1 : (k == 1) = false := by simpa using hk
                  clear hx hco hk
                  have hcy := HZ.out.cells.1
                  go_wp2
                  go_quiet (fail)
                  go_wp2
                  exact ⟨⟨x + 1, by omega, by simp, ⟨by first | exact HZ.out | exact HZ.out.drew | exact HZ.out.step (pw_below_drewN (Below.refl _ _) _)⟩⟩, by simp [intOf]; omega⟩
              · obtain rfl : x = 4 := by omega
                go_wp2
                go_roundw
                case rel => exact ⟨n + 1, clk', F', by omega, by rw [hnn], ⟨HZ.out.la⟩⟩
                case measure => rw [hnn]; simp [intOf]; omega
      · have d1 : ((n : Int) < (l2.length : Int)) = False := eq_false (by omega)
        go_wp2
        have hgl := HL.out.glt
        have hml := HL.out.mlt
        obtain ⟨yb, hyb⟩ : ∃ yb, yb = wr.heap.size := ⟨_, rfl⟩
        obtain ⟨ab, hab⟩ : ∃ ab, ab = wr.heap.size + 1 := ⟨_, rfl⟩
        have HY : Aside0 (Ly w ((wr.alloc (.cells (evA k wk op cn t dr er) 54)).alloc (.cells (ar4 0 0 0 0 0 0 0 0 0 0 0 0) 63)) g m n c clk F yb ab (evA k wk op cn t dr er) (ar4 0 0 0 0 0 0 0 0 0 0 0 0)) :=
          ⟨⟨(HL.out.alloc _).alloc _, by rw [hyb]; exact blk_alloc (blk_new _ _) _, by rw [hab]; simpa using blk_new (wr.alloc (.cells (evA k wk op cn t dr er) 54)) (.cells (ar4 0 0 0 0 0 0 0 0 0 0 0 0) 63), by have := HL.out.below.size; omega, by have := HL.out.below.size; omega, by omega, by omega, by omega, by omega, by omega⟩⟩
        rw [← hab, ← hyb]
        clear hab hyb hgl hml HL h0 h1 h2 h3 h4 h5 h6
        obtain ⟨a0, b0, e0, f0⟩ : ∃ a b d, F.at_ 0 = (a, b, d) := ⟨_, _, _, rfl⟩
        obtain ⟨a1, b1, e1, f1⟩ : ∃ a b d, F.at_ 1 = (a, b, d) := ⟨_, _, _, rfl⟩
        obtain ⟨a2, b2, e2, f2⟩ : ∃ a b d, F.at_ 2 = (a, b, d) := ⟨_, _, _, rfl⟩
        obtain ⟨a3, b3, e3, f3⟩ : ∃ a b d, F.at_ 3 = (a, b, d) := ⟨_, _, _, rfl⟩
        go_loopw [56] (fun i wr => ∃ j : Nat, j ≤ 4 ∧ i = .int .i64 j ∧ Aside0 (Ly w wr g m n c clk F yb ab (evA k wk op cn t dr er) (arA a0 b0 e0 a1 b1 e1 a2 b2 e2 a3 b3 e3 j))) (fun i _ => 4 - (intOf i).toNat)
        case atStart => exact ⟨0, by omega, rfl, HY⟩
        case round =>
          clear HY
          obtain ⟨j, hj, rfl, HY⟩ := hrel
          obtain rfl | rfl | rfl | rfl | rfl : j = 0 ∨ j = 1 ∨ j = 2 ∨ j = 3 ∨ j = 4 := by omega
          · have CSt : Aside0 (∀ W, La w W g m n c clk F → Calls Try.prog 37 #[.pointer (some ⟨g, 0, none⟩), .int .i64 0] W fun e w' => e = .returned (.agg #[.int .i64 a0, .int .i64 b0, .int .i64 e0]) ∧ Below W.heap.size W w') := ⟨fun W h => h.state 0 (by decide) _ _ _ f0⟩
            go_wp2_with (go_at_call 37; (with_reducible refine (CSt.out _ HY.out.la).mono ?_); rintro e w2 ⟨rfl, hb⟩; have HY2 := Aside0.mk (HY.out.step hb); clear hb HY; have hfz := fun i => blk_frozen HY2.out.a i; have hca : ∀ i, w2.cell? ⟨ab, i, none⟩ = (#[.int .i64 0, .int .i64 0, .int .i64 0, .int .i64 0, .int .i64 0, .int .i64 0, .int .i64 0, .int .i64 0, .int .i64 0, .int .i64 0, .int .i64 0, .int .i64 0] : Array Value)[i]? := fun i => blk_cell HY2.out.a i)
            go_roundw
            case rel => exact ⟨1, by omega, rfl, ⟨HY2.out.put 0 _ _ _ rfl⟩⟩
            case measure => simp [intOf]
          · have CSt : Aside0 (∀ W, La w W g m n c clk F → Calls Try.prog 37 #[.pointer (some ⟨g, 0, none⟩), .int .i64 1] W fun e w' => e = .returned (.agg #[.int .i64 a1, .int .i64 b1, .int .i64 e1]) ∧ Below W.heap.size W w') := ⟨fun W h => h.state 1 (by decide) _ _ _ f1⟩
            go_wp2_with (go_at_call 37; (with_reducible refine (CSt.out _ HY.out.la).mono ?_); rintro e w2 ⟨rfl, hb⟩; have HY2 := Aside0.mk (HY.out.step hb); clear hb HY; have hfz := fun i => blk_frozen HY2.out.a i; have hca : ∀ i, w2.cell? ⟨ab, i, none⟩ = (#[.int .i64 a0, .int .i64 b0, .int .i64 e0, .int .i64 0, .int .i64 0, .int .i64 0, .int .i64 0, .int .i64 0, .int .i64 0, .int .i64 0, .int .i64 0, .int .i64 0] : Array Value)[i]? := fun i => blk_cell HY2.out.a i)
            go_roundw
            case rel => exact ⟨2, by omega, rfl, ⟨HY2.out.put 3 _ _ _ rfl⟩⟩
            case measure => simp [intOf]
          · have CSt : Aside0 (∀ W, La w W g m n c clk F → Calls Try.prog 37 #[.pointer (some ⟨g, 0, none⟩), .int .i64 2] W fun e w' => e = .returned (.agg #[.int .i64 a2, .int .i64 b2, .int .i64 e2]) ∧ Below W.heap.size W w') := ⟨fun W h => h.state 2 (by decide) _ _ _ f2⟩
            go_wp2_with (go_at_call 37; (with_reducible refine (CSt.out _ HY.out.la).mono ?_); rintro e w2 ⟨rfl, hb⟩; have HY2 := Aside0.mk (HY.out.step hb); clear hb HY; have hfz := fun i => blk_frozen HY2.out.a i; have hca : ∀ i, w2.cell? ⟨ab, i, none⟩ = (#[.int .i64 a0, .int .i64 b0, .int .i64 e0, .int .i64 a1, .int .i64 b1, .int .i64 e1, .int .i64 0, .int .i64 0, .int .i64 0, .int .i64 0, .int .i64 0, .int .i64 0] : Array Value)[i]? := fun i => blk_cell HY2.out.a i)
            go_roundw
            case rel => exact ⟨3, by omega, rfl, ⟨HY2.out.put 6 _ _ _ rfl⟩⟩
            case measure => simp [intOf]
          · have CSt : Aside0 (∀ W, La w W g m n c clk F → Calls Try.prog 37 #[.pointer (some ⟨g, 0, none⟩), .int .i64 3] W fun e w' => e = .returned (.agg #[.int .i64 a3, .int .i64 b3, .int .i64 e3]) ∧ Below W.heap.size W w') := ⟨fun W h => h.state 3 (by decide) _ _ _ f3⟩
            go_wp2_with (go_at_call 37; (with_reducible refine (CSt.out _ HY.out.la).mono ?_); rintro e w2 ⟨rfl, hb⟩; have HY2 := Aside0.mk (HY.out.step hb); clear hb HY; have hfz := fun i => blk_frozen HY2.out.a i; have hca : ∀ i, w2.cell? ⟨ab, i, none⟩ = (#[.int .i64 a0, .int .i64 b0, .int .i64 e0, .int .i64 a1, .int .i64 b1, .int .i64 e1, .int .i64 a2, .int .i64 b2, .int .i64 e2, .int .i64 0, .int .i64 0, .int .i64 0] : Array Value)[i]? := fun i => blk_cell HY2.out.a i)
            go_roundw
            case rel => exact ⟨4, by omega, rfl, ⟨HY2.out.put 9 _ _ _ rfl⟩⟩
            case measure => simp [intOf]
          · have hcy := fun i => blk_cell HY.out.y i
            obtain ⟨code, clk', F', hdo⟩ : ∃ code clk' F', doF c clk F k wk op cn t dr er 0 = (code, clk', F') := ⟨_, _, _, rfl⟩
            have HA : Aside0 (∀ x, x ≠ cn ∨ code ≠ 0 ∨ k = 1 → F'.at_ x = F.at_ x) := ⟨fun x hx => by have := apart_is c clk F k wk op cn t dr er 0 x (by rw [hdo]; exact hx); rw [hdo] at this; exact this⟩
            have CE := Aside0.mk (fun W => eof_calls k wk op cn t dr er W)
            have CD : Aside0 (∀ W, La w W g m n c clk F → Calls Try.prog 38 #[.pointer (some ⟨g, 0, none⟩), .agg #[.int .i64 k, .int .i64 wk, .int .i64 op, .int .i64 cn, .int .i64 t, .int .i64 dr, .int .i64 er], .int .i64 0] W fun e w' => e = .returned (.int .i64 code) ∧ La w w' g m (n + 1) c clk' F' ∧ Chg W w' g m) := ⟨fun W h => by have := h.doing (by have := HN.out; omega) k wk op cn t dr er 0 HX.out; rw [hdo] at this; exact this⟩
            clear hdo
            go_wp2_with (first
              | (go_at_call 39; (with_reducible refine (CE.out _).mono ?_); rintro e w2 ⟨rfl, hb⟩; have HY2 := Aside0.mk (HY.out.step hb); clear hb HY hcy; have hcy := fun i => blk_cell HY2.out.y i)
              | (go_at_call 38; (with_reducible refine (CD.out _ HY2.out.la).mono ?_); rintro e w3 ⟨rfl, hl, hch⟩; have HY3 := Aside0.mk (HY2.out.next hl hch); clear hl hch HY2 hcy))
            go_loopw [70] (fun i wr => ∃ x : Nat, x ≤ 4 ∧ i = .int .i64 x ∧ Aside0 (Ly w wr g m (n + 1) c clk' F' yb ab (evA k wk op cn t dr er) (ar4 a0 b0 e0 a1 b1 e1 a2 b2 e2 a3 b3 e3))) (fun i _ => 4 - (intOf i).toNat)
            case atStart => exact ⟨0, by omega, rfl, HY3⟩
            case round =>
              clear HY3
              obtain ⟨x, hxx, rfl, HZ⟩ := hrel
              rcases Nat.lt_or_ge x 4 with hx4 | hx4
              · obtain ⟨a, b, d, f, hwx, HF⟩ : ∃ a b d, F.at_ (x : Int) = (a, b, d) ∧ (Lit.int .i64 (x : Int)).wf = true ∧ Aside0 ((ar4 a0 b0 e0 a1 b1 e1 a2 b2 e2 a3 b3 e3)[x * 3]? = some (.int .i64 a) ∧ (ar4 a0 b0 e0 a1 b1 e1 a2 b2 e2 a3 b3 e3)[x * 3 + 1]? = some (.int .i64 b) ∧ (ar4 a0 b0 e0 a1 b1 e1 a2 b2 e2 a3 b3 e3)[x * 3 + 2]? = some (.int .i64 d)) := by
                  obtain rfl | rfl | rfl | rfl : x = 0 ∨ x = 1 ∨ x = 2 ∨ x = 3 := by omega
                  · exact ⟨_, _, _, f0, by decide, ⟨rfl, rfl, rfl⟩⟩
                  · exact ⟨_, _, _, f1, by decide, ⟨rfl, rfl, rfl⟩⟩
                  · exact ⟨_, _, _, f2, by decide, ⟨rfl, rfl, rfl⟩⟩
                  · exact ⟨_, _, _, f3, by decide, ⟨rfl, rfl, rfl⟩⟩
                have t1 : ((x : Int) < 4) = True := eq_true (by omega)
                have t2 : decide ((x : Int) < 4) = true := decide_eq_true (by omega)
                have t3 : (0 ≤ (x : Int)) = True := eq_true (by omega)
                have t4 : x < 4 := hx4
                have hxw : wrap64 ((x : Int) + 1) = ((x + 1 : Nat) : Int) := by unfold wrap64; omega
                by_cases hx : (x : Int) ≠ cn
                · have hx1 : ((x : Int) == cn) = false := by simpa using hx
                  have hx2 : ((x : Int) != cn) = true := by simpa using hx
                  have CSt : Aside0 (∀ W, La w W g m (n + 1) c clk' F' → Calls Try.prog 37 #[.pointer (some ⟨g, 0, none⟩), .int .i64 (x : Int)] W fun e w' => e = .returned (.agg #[.int .i64 a, .int .i64 b, .int .i64 d]) ∧ Below W.heap.size W w') := ⟨fun W h => h.state x hwx _ _ _ ((HA.out x (.inl hx)).trans f)⟩
                  clear hx
                  go_wp2
                  have hcp : ∀ (p : LyW w g m (n + 1) c clk' F' yb ab (evA k wk op cn t dr er) (ar4 a0 b0 e0 a1 b1 e1 a2 b2 e2 a3 b3 e3)) (i : Nat), p.W.cell? ⟨yb, i, none⟩ = (evA k wk op cn t dr er)[i]? := fun p i => p.h.cells.1 i
                  have hp0 : ∀ (p : LyW w g m (n + 1) c clk' F' yb ab (evA k wk op cn t dr er) (ar4 a0 b0 e0 a1 b1 e1 a2 b2 e2 a3 b3 e3)), p.W.cell? ⟨ab, x * 3, none⟩ = some (.int .i64 a) := fun p => (p.h.cells.2 _).trans HF.out.1
                  have hp1 : ∀ (p : LyW w g m (n + 1) c clk' F' yb ab (evA k wk op cn t dr er) (ar4 a0 b0 e0 a1 b1 e1 a2 b2 e2 a3 b3 e3)), p.W.cell? ⟨ab, x * 3 + 1, none⟩ = some (.int .i64 b) := fun p => (p.h.cells.2 _).trans HF.out.2.1
                  have hp2 : ∀ (p : LyW w g m (n + 1) c clk' F' yb ab (evA k wk op cn t dr er) (ar4 a0 b0 e0 a1 b1 e1 a2 b2 e2 a3 b3 e3)), p.W.cell? ⟨ab, x * 3 + 2, none⟩ = some (.int .i64 d) := fun p => (p.h.cells.2 _).trans HF.out.2.2
                  have hne : Nonempty (LyW w g m (n + 1) c clk' F' yb ab (evA k wk op cn t dr er) (ar4 a0 b0 e0 a1 b1 e1 a2 b2 e2 a3 b3 e3)) := ⟨⟨_, HZ.out⟩⟩
                  refine wp_region_quiet_in (fun w' => ∃ p : LyW w g m (n + 1) c clk' F' yb ab (evA k wk op cn t dr er) (ar4 a0 b0 e0 a1 b1 e1 a2 b2 e2 a3 b3 e3), w' = p.W) (by kernel_rfl) (by kernel_rfl) ⟨⟨_, HZ.out.drew⟩, rfl⟩ ?_
                  repeat (go_big_quiet_step ((rename_i p; go_at_call 37; (with_reducible refine (CSt.out _ p.h.la).mono ?_); rintro e w5 ⟨rfl, hb⟩; exact ⟨rfl, ⟨⟨w5, p.h.step hb⟩, rfl⟩⟩)))
                  refine wpQuiet_nil ?_
                  intro _ hw'
                  obtain ⟨p, hw''⟩ := hw'
                  subst hw''
                  clear hne HZ hcp hp0 hp1 hp2
                  have HZ := Aside0.mk p.h
                  go_wp2
                  exact ⟨⟨x + 1, by omega, by simp, ⟨by first | exact HZ.out | exact HZ.out.drew | exact HZ.out.step (pw_below_drewN (Below.refl _ _) _)⟩⟩, by simp [intOf]; omega⟩
                by_cases hco : code ≠ 0
                · have hx1 : ((x : Int) == cn) = true := by simpa using hx
                  have hx2 : ((x : Int) != cn) = false := by simpa using hx
                  have ho1 : (code == 0) = false := by simpa using hco
                  have ho2 : (code != 0) = true := by simpa using hco
                  have CSt : Aside0 (∀ W, La w W g m (n + 1) c clk' F' → Calls Try.prog 37 #[.pointer (some ⟨g, 0, none⟩), .int .i64 (x : Int)] W fun e w' => e = .returned (.agg #[.int .i64 a, .int .i64 b, .int .i64 d]) ∧ Below W.heap.size W w') := ⟨fun W h => h.state x hwx _ _ _ ((HA.out x (.inr (.inl hco))).trans f)⟩
                  clear hx hco
                  go_wp2
                  have hcp : ∀ (p : LyW w g m (n + 1) c clk' F' yb ab (evA k wk op cn t dr er) (ar4 a0 b0 e0 a1 b1 e1 a2 b2 e2 a3 b3 e3)) (i : Nat), p.W.cell? ⟨yb, i, none⟩ = (evA k wk op cn t dr er)[i]? := fun p i => p.h.cells.1 i
                  have hp0 : ∀ (p : LyW w g m (n + 1) c clk' F' yb ab (evA k wk op cn t dr er) (ar4 a0 b0 e0 a1 b1 e1 a2 b2 e2 a3 b3 e3)), p.W.cell? ⟨ab, x * 3, none⟩ = some (.int .i64 a) := fun p => (p.h.cells.2 _).trans HF.out.1
                  have hp1 : ∀ (p : LyW w g m (n + 1) c clk' F' yb ab (evA k wk op cn t dr er) (ar4 a0 b0 e0 a1 b1 e1 a2 b2 e2 a3 b3 e3)), p.W.cell? ⟨ab, x * 3 + 1, none⟩ = some (.int .i64 b) := fun p => (p.h.cells.2 _).trans HF.out.2.1
                  have hp2 : ∀ (p : LyW w g m (n + 1) c clk' F' yb ab (evA k wk op cn t dr er) (ar4 a0 b0 e0 a1 b1 e1 a2 b2 e2 a3 b3 e3)), p.W.cell? ⟨ab, x * 3 + 2, none⟩ = some (.int .i64 d) := fun p => (p.h.cells.2 _).trans HF.out.2.2
                  have hne : Nonempty (LyW w g m (n + 1) c clk' F' yb ab (evA k wk op cn t dr er) (ar4 a0 b0 e0 a1 b1 e1 a2 b2 e2 a3 b3 e3)) := ⟨⟨_, HZ.out⟩⟩
                  refine wp_region_quiet_in (fun w' => ∃ p : LyW w g m (n + 1) c clk' F' yb ab (evA k wk op cn t dr er) (ar4 a0 b0 e0 a1 b1 e1 a2 b2 e2 a3 b3 e3), w' = p.W) (by kernel_rfl) (by kernel_rfl) ⟨⟨_, HZ.out.drew⟩, rfl⟩ ?_
                  repeat (go_big_quiet_step ((rename_i p; go_at_call 37; (with_reducible refine (CSt.out _ p.h.la).mono ?_); rintro e w5 ⟨rfl, hb⟩; exact ⟨rfl, ⟨⟨w5, p.h.step hb⟩, rfl⟩⟩)))
                  refine wpQuiet_nil ?_
                  intro _ hw'
                  obtain ⟨p, hw''⟩ := hw'
                  subst hw''
                  clear hne HZ hcp hp0 hp1 hp2
                  have HZ := Aside0.mk p.h
                  go_wp2
                  exact ⟨⟨x + 1, by omega, by simp, ⟨by first | exact HZ.out | exact HZ.out.drew | exact HZ.out.step (pw_below_drewN (Below.refl _ _) _)⟩⟩, by simp [intOf]; omega⟩
                by_cases hk : k = 1
                · have hx1 : ((x : Int) == cn) = true := by simpa using hx
                  have hx2 : ((x : Int) != cn) = false := by simpa using hx
                  have ho1 : (code == 0) = true := by simpa using hco
                  have ho2 : (code != 0) = false := by simpa using hco
                  have hk1 : (k == 1) = true := by simpa using hk
                  have CSt : Aside0 (∀ W, La w W g m (n + 1) c clk' F' → Calls Try.prog 37 #[.pointer (some ⟨g, 0, none⟩), .int .i64 (x : Int)] W fun e w' => e = .returned (.agg #[.int .i64 a, .int .i64 b, .int .i64 d]) ∧ Below W.heap.size W w') := ⟨fun W h => h.state x hwx _ _ _ ((HA.out x (.inr (.inr hk))).trans f)⟩
                  clear hx hco hk
                  go_wp2
                  have hcp : ∀ (p : LyW w g m (n + 1) c clk' F' yb ab (evA k wk op cn t dr er) (ar4 a0 b0 e0 a1 b1 e1 a2 b2 e2 a3 b3 e3)) (i : Nat), p.W.cell? ⟨yb, i, none⟩ = (evA k wk op cn t dr er)[i]? := fun p i => p.h.cells.1 i
                  have hp0 : ∀ (p : LyW w g m (n + 1) c clk' F' yb ab (evA k wk op cn t dr er) (ar4 a0 b0 e0 a1 b1 e1 a2 b2 e2 a3 b3 e3)), p.W.cell? ⟨ab, x * 3, none⟩ = some (.int .i64 a) := fun p => (p.h.cells.2 _).trans HF.out.1
                  have hp1 : ∀ (p : LyW w g m (n + 1) c clk' F' yb ab (evA k wk op cn t dr er) (ar4 a0 b0 e0 a1 b1 e1 a2 b2 e2 a3 b3 e3)), p.W.cell? ⟨ab, x * 3 + 1, none⟩ = some (.int .i64 b) := fun p => (p.h.cells.2 _).trans HF.out.2.1
                  have hp2 : ∀ (p : LyW w g m (n + 1) c clk' F' yb ab (evA k wk op cn t dr er) (ar4 a0 b0 e0 a1 b1 e1 a2 b2 e2 a3 b3 e3)), p.W.cell? ⟨ab, x * 3 + 2, none⟩ = some (.int .i64 d) := fun p => (p.h.cells.2 _).trans HF.out.2.2
                  have hne : Nonempty (LyW w g m (n + 1) c clk' F' yb ab (evA k wk op cn t dr er) (ar4 a0 b0 e0 a1 b1 e1 a2 b2 e2 a3 b3 e3)) := ⟨⟨_, HZ.out⟩⟩
                  refine wp_region_quiet_in (fun w' => ∃ p : LyW w g m (n + 1) c clk' F' yb ab (evA k wk op cn t dr er) (ar4 a0 b0 e0 a1 b1 e1 a2 b2 e2 a3 b3 e3), w' = p.W) (by kernel_rfl) (by kernel_rfl) ⟨⟨_, HZ.out.drew⟩, rfl⟩ ?_
                  repeat (go_big_quiet_step ((rename_i p; go_at_call 37; (with_reducible refine (CSt.out _ p.h.la).mono ?_); rintro e w5 ⟨rfl, hb⟩; exact ⟨rfl, ⟨⟨w5, p.h.step hb⟩, rfl⟩⟩)))
                  refine wpQuiet_nil ?_
                  intro _ hw'
                  obtain ⟨p, hw''⟩ := hw'
                  subst hw''
                  clear hne HZ hcp hp0 hp1 hp2
                  have HZ := Aside0.mk p.h
                  go_wp2
                  exact ⟨⟨x + 1, by omega, by simp, ⟨by first | exact HZ.out | exact HZ.out.drew | exact HZ.out.step (pw_below_drewN (Below.refl _ _) _)⟩⟩, by simp [intOf]; omega⟩
                · have hx1 : ((x : Int) == cn) = true := by simpa using hx
                  have hx2 : ((x : Int) != cn) = false := by simpa using hx
                  have ho1 : (code == 0) = true := by simpa using hco
                  have ho2 : (code != 0) = false := by simpa using hco
                  have hk1 : (k == 1) = false := by simpa using hk
                  clear hx hco hk
                  have hcy := HZ.out.cells.1
                  go_wp2
                  go_quiet (fail)
                  go_wp2
                  exact ⟨⟨x + 1, by omega, by simp, ⟨by first | exact HZ.out | exact HZ.out.drew | exact HZ.out.step (pw_below_drewN (Below.refl _ _) _)⟩⟩, by simp [intOf]; omega⟩
              · obtain rfl : x = 4 := by omega
                go_wp2
                go_roundw
                case rel => exact ⟨n + 1, clk', F', by omega, by rw [hnn], ⟨HZ.out.la⟩⟩
                case measure => rw [hnn]; simp [intOf]; omega
    · have q0 : decide ((n : Int) < (l1.length : Int)) = false := decide_eq_false (by omega)
      go_wp2
      go_ret
      exact ⟨rfl, HL.out.below⟩
end Go.Proofs.Ythljanmfanppdaa.Bk
