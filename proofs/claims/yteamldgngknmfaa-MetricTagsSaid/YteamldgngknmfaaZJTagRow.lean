/- A row of tags in memory, and the sort's contract at it; no condition. -/
import Derived.Test.YteamldgngknmfaaZJCmpS
import Derived.Test.YteamldgngknmfaaZJSortLay
import Derived.Test.YteamldgngknmfaaZJEach
namespace Go.Proofs.Yteamldgngknmfaa
open Go.RowKit Go.Sort Go.Lib Go.Shelf Go.Proofs.YteamldgngknmfaaW.PrintWords Go.Proofs.YteamldgngknmfaaW.PrintLast Go.Proofs.YteamldgngknmfaaW.PrintMore Go.Proofs.Yteamldgngknmfaa.PE
set_option linter.unusedVariables false
set_option linter.unusedSimpArgs false
theorem addr_add (g n : Nat) : (⟨g, 0, none⟩ : Addr).add n = ⟨g, n, none⟩ := by
  unfold Addr.add
  split <;> simp_all
def TRow (w : World) (g cap : Nat) (L : List S37) : Prop :=
  ∃ cur : Array Value, w.heap[g]? = some (.cells cur 37 (0, 0)) ∧ cur.size = cap * 2 ∧ L.length ≤ cap ∧ cap ≤ 9223372036854775807 ∧ ∀ (j : Nat) (t : S37), L[j]? = some t → cur[j * 2]? = some (.string t.f0) ∧ cur[j * 2 + 1]? = some (.string t.f1)
theorem TRow.lt {w : World} {g cap : Nat} {L : List S37} (h : TRow w g cap L) : g < w.heap.size := by
  obtain ⟨cur, h1, _⟩ := h
  exact blk_lt h1
theorem TRow.step {w w' : World} {g cap : Nat} {L : List S37} (h : TRow w g cap L) (hb : w'.heap[g]? = w.heap[g]?) : TRow w' g cap L := by
  obtain ⟨cur, h1, h2⟩ := h
  exact ⟨cur, hb.trans h1, h2⟩
theorem TRow.frozen {w : World} {g cap : Nat} {L : List S37} (h : TRow w g cap L) (i : Nat) : w.frozen? ⟨g, i, none⟩ = false := by
  obtain ⟨cur, h1, _⟩ := h
  exact blk_frozen h1 i
theorem TRow.cell {w : World} {g cap : Nat} {L : List S37} (h : TRow w g cap L) {j : Nat} {t : S37} (hj : L[j]? = some t) : w.cell? ⟨g, j * 2, none⟩ = some (.string t.f0) ∧ w.cell? ⟨g, j * 2 + 1, none⟩ = some (.string t.f1) := by
  obtain ⟨cur, h1, _, _, _, h2⟩ := h
  exact ⟨(blk_cell h1 _).trans (h2 j t hj).1, (blk_cell h1 _).trans (h2 j t hj).2⟩
theorem TRow.C {w : World} {g cap : Nat} {L : List S37} (h : TRow w g cap L) (n : Nat) (hn : n ≤ L.length) : (k37).C w (some ⟨g, 0, none⟩) n (L.take n) := by
  have hl : (L.take n).length = n := by rw [List.length_take]; omega
  have hm : n ≤ 9223372036854775807 := by obtain ⟨_, _, _, h3, h4, _⟩ := h; omega
  refine ⟨hl, hm, fun _ => ⟨⟨g, 0, none⟩, rfl, fun j p hj => ⟨[.string p.f0, .string p.f1], rfl, k37_mk w p, fun i u hu => ?_⟩⟩⟩
  have hj2 : L[j]? = some p := by
    rw [List.getElem?_take] at hj
    split at hj
    · exact hj
    · cases hj
  have hc := h.cell hj2
  match i, hu with
  | 0, hu =>
    have e : u = .string p.f0 := by simpa using hu.symm
    subst e
    have : (⟨g, 0, none⟩ : Addr).add (j * (k37).sz + 0) = ⟨g, j * 2, none⟩ := addr_add g _
    rw [this]; exact hc.1
  | 1, hu =>
    have e : u = .string p.f1 := by simpa using hu.symm
    subst e
    have : (⟨g, 0, none⟩ : Addr).add (j * (k37).sz + 1) = ⟨g, j * 2 + 1, none⟩ := addr_add g _
    rw [this]; exact hc.2
  | i + 2, hu => simp at hu
theorem TRow.of_R {w : World} {base g cap : Nat} {ok : Nat → Prop} {L : List S37} (h : (k37).R 37 w base ok (.slice (some ⟨g, 0, none⟩) L.length cap) L) : TRow w g cap L := by
  obtain ⟨_, inner, ⟨hl, ho⟩, hr⟩ := h
  rcases ho with ⟨hv, _⟩ | ⟨g', cap', cur, hv, _, hb, hle, hm, hs, ht⟩
  · cases hv
  · injection hv with hv1 hv2 hv3
    injection hv1 with hv1
    injection hv1 with hv1
    subst hv1 hv3
    refine ⟨cur, hb, hs, hle, hm, fun j t hj => ?_⟩
    obtain ⟨hjl, _⟩ := List.getElem?_eq_some_iff.mp hj
    have h1 := k37_openM (hr.2 j t hj)
    have hj2 : j * 2 + 1 < L.length * 2 := by omega
    have e0 : ∀ i, i < 2 → cur[j * 2 + i]? = ([Value.string t.f0, .string t.f1])[i]? := by
      intro i hi
      rw [← h1, ← ht]
      simp only [List.getElem?_take, List.getElem?_drop]
      rw [if_pos (show i < (k37).sz from hi), if_pos (show j * (k37).sz + i < L.length * (k37).sz by show j * 2 + i < L.length * 2; omega)]
      simp
      rfl
    exact ⟨e0 0 (by omega), e0 1 (by omega)⟩
theorem TRow.V {w : World} {base g cap c n : Nat} {ok : Nat → Prop} {L : List S37} (h : TRow w g cap L) (hn : n ≤ L.length) (hc : n ≤ c) (ho : ok g) : Kd.V k37 37 w base ok (.slice (some ⟨g, 0, none⟩) n c) (L.take n) := by
  have hl : (L.take n).length = n := by rw [List.length_take]; omega
  refine ⟨some ⟨g, 0, none⟩, c, by rw [hl], by rw [hl]; exact hc, ?_⟩
  rw [hl]
  intro W hW
  exact (h.step (hW g ho h.lt)).C n hn
theorem TRow.set {w : World} {g cap : Nat} {L : List S37} (h : TRow w g cap L) (n : Nat) (hn : n < L.length) (t : S37) : TRow ((w.setCell ⟨g, n * 2, none⟩ (.string t.f0)).setCell ⟨g, n * 2 + 1, none⟩ (.string t.f1)) g cap (L.set n t) := by
  obtain ⟨cur, h1, h2, h3, h4, h5⟩ := h
  refine ⟨(cur.setIfInBounds (n * 2) (.string t.f0)).setIfInBounds (n * 2 + 1) (.string t.f1), blk_put (blk_put h1 _ _ rfl) _ _ rfl, by simpa using h2, by simpa using h3, h4, fun j u hj => ?_⟩
  have hs : n * 2 + 1 < cur.size := by omega
  rw [List.getElem?_set] at hj
  simp only [Array.getElem?_setIfInBounds, Array.size_setIfInBounds]
  by_cases e : n = j
  · subst e
    rw [if_pos rfl, if_pos hn] at hj
    cases hj
    constructor
    · rw [if_neg (by omega), if_pos rfl, if_pos (by omega)]
    · rw [if_pos rfl, if_pos (by omega)]
  · rw [if_neg e] at hj
    have := h5 j u hj
    constructor
    · rw [if_neg (by omega), if_neg (by omega)]; exact this.1
    · rw [if_neg (by omega), if_neg (by omega)]; exact this.2
def encT (t : S37) : List Value := [.string t.f0, .string t.f1]
instance : Inhabited S37 := ⟨z37⟩
theorem TRow.holds {w : World} {g cap : Nat} {L : List S37} (h : TRow w g cap L) : HoldsK encT 2 w g 0 L.toArray := by
  intro j hj
  rw [size_flatK] at hj
  have hj' : j < L.length * 2 := by simpa using hj
  refine ⟨?_, h.frozen _⟩
  obtain ⟨q, hq⟩ : ∃ q, j = q * 2 ∨ j = q * 2 + 1 := ⟨j / 2, by omega⟩
  have hd : q < L.length := by omega
  have hg : L[q]? = some (L[q]'hd) := List.getElem?_eq_getElem hd
  have hc := h.cell hg
  have hD : L.toArray[q]! = L[q]'hd := by
    rw [getElem!_pos L.toArray q (by simpa using hd)]
    simp
  show w.cell? ⟨g, 0 + j, none⟩ = some ((flatK encT 2 L.toArray)[j]!)
  rw [get_flatK _ _ _ _ (by simpa using hj'), Nat.zero_add]
  rcases hq with rfl | rfl
  · rw [show q * 2 / 2 = q by omega, show q * 2 % 2 = 0 by omega, hD]
    exact hc.1
  · rw [show (q * 2 + 1) / 2 = q by omega, show (q * 2 + 1) % 2 = 1 by omega, hD]
    exact hc.2
theorem TRow.put {w : World} {g cap : Nat} {L : List S37} (h : TRow w g cap L) (D : List S37) (hD : D.length = L.length) (m : Nat) (os : Array Obj) : TRow (sortWorldK encT 2 w g 0 m D.toArray os) g cap D ∧ Chg (fun k => k = g) w (sortWorldK encT 2 w g 0 m D.toArray os) := by
  obtain ⟨cur, h1, h2, h3, h4, h5⟩ := h
  have hsz : (flatK encT 2 D.toArray).size = D.length * 2 := by simp
  have hb : (sortWorldK encT 2 w g 0 m D.toArray os).heap[g]? = some (.cells (putCells id 0 (flatK encT 2 D.toArray) cur) 37 (0, 0)) := by
    unfold sortWorldK putRowK putRow mapBlock grow
    have hlt : g < ((Sort.ahead w m).heap.modify g (onCells (putCells id 0 (flatK encT 2 D.toArray)))).size := by
      rw [Array.size_modify]; exact blk_lt h1
    rw [Array.getElem?_append_left hlt, Array.getElem?_modify, if_pos rfl]
    show (w.heap[g]?).map _ = _
    rw [h1]
    rfl
  constructor
  · refine ⟨_, hb, by unfold putCells; simpa using h2, by omega, h4, fun j t hj => ?_⟩
    obtain ⟨hjl, hjt⟩ := List.getElem?_eq_some_iff.mp hj
    have hcs : j * 2 + 1 < cur.size := by omega
    have hDt : D.toArray[j]! = t := by
      rw [getElem!_pos D.toArray j (by simpa using hjl)]
      simpa using hjt
    have key : ∀ i, i < 2 → (putCells id 0 (flatK encT 2 D.toArray) cur)[j * 2 + i]? = some ((encT t)[i]!) := by
      intro i hi
      unfold putCells
      rw [Array.getElem?_mapIdx, Array.getElem?_eq_getElem (show j * 2 + i < cur.size by omega), Option.map_some, if_pos ⟨Nat.zero_le _, by rw [hsz]; omega⟩, Nat.sub_zero, get_flatK _ _ _ _ (by simp; omega), show (j * 2 + i) / 2 = j by omega, show (j * 2 + i) % 2 = i by omega, hDt]
      rfl
    exact ⟨key 0 (by omega), key 1 (by omega)⟩
  · refine ⟨rfl, rfl, rfl, by simp [sortWorldK, putRowK, putRow, mapBlock, grow, Sort.ahead], fun k hk hn => ?_⟩
    unfold sortWorldK putRowK putRow mapBlock grow
    rw [Array.getElem?_append_left (by rw [Array.size_modify]; exact hk), Array.getElem?_modify, if_neg (fun e => hn e.symm)]
    rfl
theorem sorttags_calls (g cap : Nat) (L : List S37) (w : World) (h : TRow w g cap L) (hsz : L.length < 4611686018427387904) :
    Calls Try.prog 75 #[.slice (some ⟨g, 0, none⟩) L.length cap, .func (.func 76) #[] #[]] w fun e w' => e = .returned (.tuple #[]) ∧ TRow w' g cap (tSort L) ∧ Chg (fun k => k = g) w w' := by
  have hlt : ∀ x y : S37, ltOf cmpT x y = tLt x y := fun x y => cmpT_lt x y
  have hO : SWO (ltOf cmpT) := by
    constructor
    · intro x; rw [hlt]; exact tLt_irr x
    · intro x y z h1 h2; rw [hlt] at *; exact tLt_trans h1 h2
    · intro x y z h1 h2
      rw [hlt] at *
      cases e : tLt x z with
      | false => rfl
      | true =>
        cases e1 : tLt y x with
        | true => have := tLt_trans e1 e; rw [h2] at this; cases this
        | false => have := tLt_tri h1 e1; subst this; rw [h2] at e; cases e
  have hcon := AnyQ.slices_SortFunc_total Try.sortTag 2 (fun w => Try.isAgg37 w) (fun w => Try.sizeOf37 w) encT (fun _ => rfl) (fun x v hv => by simp [encT] at hv; rcases hv with rfl | rfl <;> rfl) cmpT hO 76 #[] g 0 cap L.toArray w (enters_of Try.func76 (by kernel_rfl) rfl) (fun _ _ _ _ x y => closure_calls x y _) h.holds h.lt (by simpa using hsz) (fun x y h1 h2 => by rw [hlt] at *; exact tLt_tri h1 h2)
  have hcon2 : Calls Try.prog 75 #[.slice (some ⟨g, 0, none⟩) L.toArray.size cap, .func (.func 76) #[] #[]] w _ := hcon
  rw [List.size_toArray] at hcon2
  refine hcon2.mono ?_
  rintro e w' ⟨rfl, n, os, rfl⟩
  have e : (L.mergeSort fun x y => !(ltOf cmpT) y x) = tSort L := by
    unfold tSort
    congr 1
    funext x y
    rw [hlt]
  rw [e]
  have hp := h.put (tSort L) (List.length_mergeSort L) n os
  exact ⟨rfl, hp.1, hp.2⟩
end Go.Proofs.Yteamldgngknmfaa
