/- A region that draws: a load that may come ahead of a store, or behind it, and yields the same in both: one step for the two. -/
import Derived.Test.YteamldgngknmfaaZJLawArr
namespace Go.Proofs.Yteamldgngknmfaa
open Go.RowKit Go.Proofs.YteamldgngknmfaaW.PrintWords Go.Proofs.YteamldgngknmfaaW.PrintLast Go.Proofs.YteamldgngknmfaaW.PrintMore
section
variable {P : Program} {ops : Array Oper} {Q : Exit → Act → World → Prop} {md : Region.Mode} {S : World → Prop} {ds : List Nat}
theorem AllReadyL.cons_same {fuel : Nat} {listed : Array Bool} {a : Act} {w : World} {i : Nat} {o : Oper} {v : Value} {rs : List Nat} (ho : ops[i]? = some o) (hw : Region.wanted o (yielded ops a.tmps) = true)
    (hrun : (execOp a.eval o).run P w = .ok (.value v) w) (h : wpAnyLast P md ops Q S ds fuel (listed.setIfInBounds i true) (a.put o.dst v) w)
    (hs : AllReadyL P md ops Q S ds fuel listed a w rs) : AllReadyL P md ops Q S ds fuel listed a w (i :: rs) := fun j hj => by
  rcases List.mem_cons.1 hj with rfl | hj
  · exact wpOp_step ho (fun K' hK => value_ hw rfl hrun (hK _ _ ⟨fun _ hS => hS, h⟩))
  · exact hs j hj
theorem AllReadyL.cons_skip {fuel : Nat} {listed : Array Bool} {a : Act} {w w1 : World} {i : Nat} {o : Oper} {rs : List Nat} (ho : ops[i]? = some o) (hd : i ∈ ds) (hw : Region.wanted o (yielded ops a.tmps) = true) (hN : o.dst = none)
    (hrun : (execOp a.eval o).run P w = .ok .skip w1) (h : wpAnyLast P md ops Q S ds fuel (listed.setIfInBounds i true) a w1)
    (hs : AllReadyL P md ops Q S ds fuel listed a w rs) : AllReadyL P md ops Q S ds fuel listed a w (i :: rs) :=
  AllReadyL.cons_last ho hd (fun K' hK => by rw [hN]; exact skip_ hw hN hrun (hK.out _ _ h)) hs
def rsB (md : Region.Mode) (ops : Array Oper) (l l' : Array Bool) (i j : Nat) : Bool :=
  (Region.ready md ops l == [i, j]) && (Region.ready md ops (l.setIfInBounds i true) == [j]) && (Region.ready md ops (l.setIfInBounds j true) == [i]) && ((l.setIfInBounds i true).setIfInBounds j true == l') && ((l.setIfInBounds j true).setIfInBounds i true == l')
theorem readstore_ {i j : Nat} {N : Option Tmp} {oi oj : Oper} {v : Value} {fuel : Nat} {l : Array Bool} {a : Act} {w w1 : World} (l' : Array Bool) (hi : ops[i]? = some oi) (hj : ops[j]? = some oj) (hN : oi.dst = N) (hNj : oj.dst = none)
    (hc : rsB md ops l l' i j = true) (hd : j ∈ ds) (hw : Region.wanted oi (yielded ops a.tmps) = true) (hw2 : Region.wanted oj (yielded ops a.tmps) = true) (hw3 : Region.wanted oj (yielded ops (a.put N v).tmps) = true)
    (hr : (execOp a.eval oi).run P w = .ok (.value v) w) (hs : (execOp a.eval oj).run P w = .ok .skip w1) (hs2 : (execOp (a.put N v).eval oj).run P w = .ok .skip w1) (hr2 : (execOp a.eval oi).run P w1 = .ok (.value v) w1)
    {a' : Act} (ha : a.put N v = a') (h : wpAnyLast P md ops Q S ds fuel l' a' w1) : wpAnyLast P md ops Q S ds (fuel + 2) l a w := by
  subst ha
  subst hN
  simp only [rsB, Bool.and_eq_true, beq_iff_eq] at hc
  obtain ⟨⟨⟨⟨h1, h2⟩, h3⟩, h4⟩, h5⟩ := hc
  refine wpAnyLast_ready h1 (by simp) (AllReadyL.cons_same hi hw hr ?_ (AllReadyL.cons_skip hj hd hw2 hNj hs ?_ AllReadyL.nil))
  · refine wpAnyLast_ready h2 (by simp) (AllReadyL.cons_skip hj hd hw3 hNj hs2 ?_ AllReadyL.nil)
    rw [h4]
    exact h
  · refine wpAnyLast_ready h3 (by simp) (AllReadyL.cons_same hi hw hr2 ?_ AllReadyL.nil)
    rw [h5]
    exact h
end
theorem cell_oth {w : World} {a b : Addr} {v : Value} (h : a ≠ b) : (w.setCell a v).cell? b = w.cell? b := World.cell?_setCell_other (h := h) ..
theorem cell_sam {w : World} {a : Addr} {u v : Value} (h : w.cell? a = some u) : (w.setCell a v).cell? a = some v := World.cell?_setCell_same (h := h) ..
theorem cell_two {w : World} {p q r : Addr} {x y u : Value} (hpr : p ≠ r) (hr : w.cell? r = some u) : (w.setCell q y).cell? r = ((w.setCell p x).setCell q y).cell? r := by
  by_cases h : q = r
  · subst h
    rw [cell_sam hr, cell_sam ((cell_oth hpr).trans hr)]
  · rw [cell_oth h, cell_oth h, cell_oth hpr]
section
variable {α : Type} {d : Kd α} {e : Nat} {w : World} {base : Nat} {ok : Nat → Prop} {v : Value} {xs : List α} {g : Nat} {u0 u1 u2 u3 u4 u5 : Value}
theorem R_far6 (h : Kd.R d e w base ok v xs) (hok : ∀ k, ok k → k ≠ g) : Kd.R d e ((((((w.setCell ⟨g, 0, none⟩ u0).setCell ⟨g, 1, none⟩ u1).setCell ⟨g, 2, none⟩ u2).setCell ⟨g, 3, none⟩ u3).setCell ⟨g, 4, none⟩ u4).setCell ⟨g, 5, none⟩ u5) base ok v xs :=
  Kd.R_far (p := ⟨g, 5, none⟩) (Kd.R_far (p := ⟨g, 4, none⟩) (Kd.R_far (p := ⟨g, 3, none⟩) (Kd.R_far (p := ⟨g, 2, none⟩) (Kd.R_far (p := ⟨g, 1, none⟩) (Kd.R_far (p := ⟨g, 0, none⟩) h hok u0) hok u1) hok u2) hok u3) hok u4) hok u5
theorem V_far6 (h : Kd.V d e w base ok v xs) (hok : ∀ k, ok k → k ≠ g) : Kd.V d e ((((((w.setCell ⟨g, 0, none⟩ u0).setCell ⟨g, 1, none⟩ u1).setCell ⟨g, 2, none⟩ u2).setCell ⟨g, 3, none⟩ u3).setCell ⟨g, 4, none⟩ u4).setCell ⟨g, 5, none⟩ u5) base ok v xs :=
  Kd.V_far (p := ⟨g, 5, none⟩) (Kd.V_far (p := ⟨g, 4, none⟩) (Kd.V_far (p := ⟨g, 3, none⟩) (Kd.V_far (p := ⟨g, 2, none⟩) (Kd.V_far (p := ⟨g, 1, none⟩) (Kd.V_far (p := ⟨g, 0, none⟩) h hok u0) hok u1) hok u2) hok u3) hok u4) hok u5
end
end Go.Proofs.Yteamldgngknmfaa
