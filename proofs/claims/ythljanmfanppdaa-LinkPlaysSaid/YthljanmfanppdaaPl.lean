/- What is proved: the document's book (a list of states) and the program's (a map) tell the same of each connection; plain. -/
import Derived.Test.YthljanmfanppdaaPr
import Derived.Test.YthljanmfanppdaaKRfx1
namespace Go.Proofs.Ythljanmfanppdaa.Bk
open Go.RowKit Go.Proofs.YthljanmfanppdaaW.PrintWords Go.Proofs.YthljanmfanppdaaW.PrintLast Go.Proofs.YthljanmfanppdaaW.PrintMore Go.Proofs.Ythljanmfanppdaa.KRf
set_option linter.unusedVariables false
set_option linter.unusedSimpArgs false
def stOf (s : S71) : St := (s.f0, s.f1, s.f2)
/-- The list tells what the map tells. -/
structure Tie (c : Cf) (F : SM) (L : List S71) : Prop where
  len : (L.length : Int) = c.c7
  at_ : ∀ x : Int, F.at_ x = if 0 ≤ x ∧ x < (L.length : Int) then stOf (rd_T71 L x) else (0, 0, 0)
theorem At_is {c : Cf} {F : SM} {L : List S71} (h : Tie c F L) (a0 a1 a2 a3 a4 a5 a6 a7 a8 a9 a10 a11 a12 a13 x : Int) : knellref24_At.f a0 a1 a2 a3 a4 a5 a6 a7 a8 a9 a10 a11 a12 a13 L x = some (F.at_ x) := by
  rw [h.at_ x]
  unfold knellref24_At.f
  by_cases h0 : x < 0
  · rw [if_pos h0, if_neg (by omega)]
  rw [if_neg h0]
  by_cases h1 : x ≥ (L.length : Int)
  · rw [if_pos h1, if_neg (by omega)]
  rw [if_neg h1, if_pos (by omega), if_pos (by omega), if_pos (by omega)]
  rfl
theorem set_is (a0 a1 a2 a3 a4 a5 a6 a7 a8 a9 a10 a11 a12 a13 x u v t : Int) (L : List S71) (hl : L.length < 5864062014805) (h0 : 0 ≤ x) (h1 : x < (L.length : Int)) :
    knellref24_set.f a0 a1 a2 a3 a4 a5 a6 a7 a8 a9 a10 a11 a12 a13 L x u v t = some (a0, a1, a2, a3, a4, a5, a6, a7, a8, a9, a10, a11, a12, a13, L.set x.toNat ⟨u, v, t⟩) := by
  unfold knellref24_set.f
  rw [Option.bind_some, if_pos (by simpa using hl), Option.bind_some, if_pos h0, List.nil_append, if_pos h1]
theorem Tie.set {c : Cf} {F : SM} {L : List S71} (h : Tie c F L) (x u v t : Int) (h0 : 0 ≤ x) (h1 : x < (L.length : Int)) (hz : u = 0 → v = 0 ∧ t = 0) : Tie c (F.put x (u, v, t)) (L.set x.toNat ⟨u, v, t⟩) := by
  refine ⟨by rw [List.length_set]; exact h.len, fun y => ?_⟩
  rw [List.length_set]
  by_cases e : y = x
  · subst e
    rw [if_pos ⟨h0, h1⟩]
    have e1 : rd_T71 (L.set y.toNat ⟨u, v, t⟩) y = ⟨u, v, t⟩ := by
      unfold rd_T71
      rw [List.getD_eq_getElem?_getD, List.getElem?_set_self (by omega)]
      rfl
    rw [e1]
    unfold SM.at_ SM.put
    rw [if_pos rfl]
    show (if u = 0 then none else some (u, v, t)).getD (0, 0, 0) = (u, v, t)
    split
    · rename_i hu
      obtain ⟨rfl, rfl⟩ := hz hu
      subst hu
      rfl
    · rfl
  · have e1 : (F.put x (u, v, t)).at_ y = F.at_ y := by
      unfold SM.at_ SM.put
      rw [if_neg e]
    rw [e1, h.at_ y]
    by_cases hy : 0 ≤ y ∧ y < (L.length : Int)
    · rw [if_pos hy, if_pos hy]
      unfold rd_T71
      rw [List.getD_eq_getElem?_getD, List.getD_eq_getElem?_getD, List.getElem?_set_ne (by omega)]
    · rw [if_neg hy, if_neg hy]
end Go.Proofs.Ythljanmfanppdaa.Bk
