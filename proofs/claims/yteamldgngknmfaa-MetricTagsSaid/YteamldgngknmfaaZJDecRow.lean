/- A row of numbers in memory; no condition. -/
import Derived.Test.YteamldgngknmfaaZJLawMetB
import Derived.Test.YteamldgngknmfaaZJEach
namespace Go.Proofs.Yteamldgngknmfaa
open Go.RowKit Go.Proofs.YteamldgngknmfaaW.PrintWords Go.Proofs.YteamldgngknmfaaW.PrintLast Go.Proofs.YteamldgngknmfaaW.PrintMore Go.Proofs.Yteamldgngknmfaa.PE
set_option linter.unusedVariables false
set_option linter.unusedSimpArgs false
def DRow (w : World) (g cap : Nat) (L : List S40) : Prop :=
  ∃ cur : Array Value, w.heap[g]? = some (.cells cur 40 (0, 0)) ∧ cur.size = cap * 3 ∧ L.length ≤ cap ∧ cap ≤ 9223372036854775807 ∧ ∀ (j : Nat) (t : S40), L[j]? = some t → cur[j * 3]? = some (.bool t.f0) ∧ cur[j * 3 + 1]? = some (.int .u64 t.f1) ∧ cur[j * 3 + 2]? = some (.int .i64 t.f2)
theorem DRow.lt {w : World} {g cap : Nat} {L : List S40} (h : DRow w g cap L) : g < w.heap.size := by
  obtain ⟨cur, h1, _⟩ := h
  exact blk_lt h1
theorem DRow.step {w w' : World} {g cap : Nat} {L : List S40} (h : DRow w g cap L) (hb : w'.heap[g]? = w.heap[g]?) : DRow w' g cap L := by
  obtain ⟨cur, h1, h2⟩ := h
  exact ⟨cur, hb.trans h1, h2⟩
theorem DRow.frozen {w : World} {g cap : Nat} {L : List S40} (h : DRow w g cap L) (i : Nat) : w.frozen? ⟨g, i, none⟩ = false := by
  obtain ⟨cur, h1, _⟩ := h
  exact blk_frozen h1 i
theorem DRow.cell {w : World} {g cap : Nat} {L : List S40} (h : DRow w g cap L) {j : Nat} {t : S40} (hj : L[j]? = some t) : w.cell? ⟨g, j * 3, none⟩ = some (.bool t.f0) ∧ w.cell? ⟨g, j * 3 + 1, none⟩ = some (.int .u64 t.f1) ∧ w.cell? ⟨g, j * 3 + 2, none⟩ = some (.int .i64 t.f2) := by
  obtain ⟨cur, h1, _, _, _, h2⟩ := h
  exact ⟨(blk_cell h1 _).trans (h2 j t hj).1, (blk_cell h1 _).trans (h2 j t hj).2.1, (blk_cell h1 _).trans (h2 j t hj).2.2⟩
theorem DRow.of_R {w : World} {base g cap : Nat} {ok : Nat → Prop} {L : List S40} (h : (k40).R 40 w base ok (.slice (some ⟨g, 0, none⟩) L.length cap) L) : DRow w g cap L ∧ base ≤ g := by
  obtain ⟨_, inner, ⟨hl, ho⟩, hr⟩ := h
  rcases ho with ⟨hv, _⟩ | ⟨g', cap', cur, hv, hbase, hb, hle, hm, hs, ht⟩
  · cases hv
  · injection hv with hv1 hv2 hv3
    injection hv1 with hv1
    injection hv1 with hv1
    subst hv1 hv3
    refine ⟨⟨cur, hb, hs, hle, hm, fun j t hj => ?_⟩, hbase⟩
    obtain ⟨hjl, _⟩ := List.getElem?_eq_some_iff.mp hj
    have h1 := k40_openM (hr.2 j t hj)
    have e0 : ∀ i, i < 3 → cur[j * 3 + i]? = ([Value.bool t.f0, .int .u64 t.f1, .int .i64 t.f2])[i]? := by
      intro i hi
      rw [← h1, ← ht]
      simp only [List.getElem?_take, List.getElem?_drop]
      rw [if_pos (show i < (k40).sz from hi), if_pos (show j * (k40).sz + i < L.length * (k40).sz by show j * 3 + i < L.length * 3; omega)]
      simp
      rfl
    exact ⟨e0 0 (by omega), e0 1 (by omega), e0 2 (by omega)⟩
theorem DRow.to_R {w : World} {base g cap : Nat} {ok : Nat → Prop} {L : List S40} (h : DRow w g cap L) (hb : base ≤ g) (ho : ok g) : (k40).R 40 w base ok (.slice (some ⟨g, 0, none⟩) L.length cap) L := by
  obtain ⟨cur, h1, h2, h3, h4, h5⟩ := h
  have hcl : cur.toList.length = cap * 3 := by simpa using h2
  have hln : (cur.toList.take (L.length * 3)).length = L.length * 3 := by rw [List.length_take, hcl]; omega
  refine ⟨fun k hk => by cases hk; exact ho, cur.toList.take (L.length * 3), ⟨hln, .inr ⟨g, cap, cur, rfl, hb, h1, h3, h4, h2, rfl⟩⟩, hln, fun j t hj => ?_⟩
  obtain ⟨hjl, _⟩ := List.getElem?_eq_some_iff.mp hj
  obtain ⟨c0, c1, c2⟩ := h5 j t hj
  have e : ((cur.toList.take (L.length * 3)).drop (j * (k40).sz)).take (k40).sz = [.bool t.f0, .int .u64 t.f1, .int .i64 t.f2] := by
    show ((cur.toList.take (L.length * 3)).drop (j * 3)).take 3 = _
    apply List.ext_getElem?
    intro i
    rw [List.getElem?_take, List.getElem?_drop, List.getElem?_take]
    match i with
    | 0 => rw [if_pos (by omega), if_pos (by omega)]; simpa using c0
    | 1 => rw [if_pos (by omega), if_pos (by omega)]; simpa using c1
    | 2 => rw [if_pos (by omega), if_pos (by omega)]; simpa using c2
    | i + 3 => rw [if_neg (by omega)]; simp
  rw [e]
  exact k40_mkM w base _ t
theorem DRow.set {w : World} {g cap : Nat} {L : List S40} (h : DRow w g cap L) (n : Nat) (hn : n < L.length) (t : S40) : DRow (((w.setCell ⟨g, n * 3, none⟩ (.bool t.f0)).setCell ⟨g, n * 3 + 1, none⟩ (.int .u64 t.f1)).setCell ⟨g, n * 3 + 2, none⟩ (.int .i64 t.f2)) g cap (L.set n t) := by
  obtain ⟨cur, h1, h2, h3, h4, h5⟩ := h
  refine ⟨((cur.setIfInBounds (n * 3) (.bool t.f0)).setIfInBounds (n * 3 + 1) (.int .u64 t.f1)).setIfInBounds (n * 3 + 2) (.int .i64 t.f2), blk_put (blk_put (blk_put h1 _ _ rfl) _ _ rfl) _ _ rfl, by simpa using h2, by simpa using h3, h4, fun j u hj => ?_⟩
  have hs : n * 3 + 2 < cur.size := by omega
  rw [List.getElem?_set] at hj
  simp only [Array.getElem?_setIfInBounds, Array.size_setIfInBounds]
  by_cases e : n = j
  · subst e
    rw [if_pos rfl, if_pos hn] at hj
    cases hj
    refine ⟨?_, ?_, ?_⟩
    · rw [if_neg (by omega), if_neg (by omega), if_pos rfl, if_pos (by omega)]
    · rw [if_neg (by omega), if_pos rfl, if_pos (by omega)]
    · rw [if_pos rfl, if_pos (by omega)]
  · rw [if_neg e] at hj
    have := h5 j u hj
    refine ⟨?_, ?_, ?_⟩
    · rw [if_neg (by omega), if_neg (by omega), if_neg (by omega)]; exact this.1
    · rw [if_neg (by omega), if_neg (by omega), if_neg (by omega)]; exact this.2.1
    · rw [if_neg (by omega), if_neg (by omega), if_neg (by omega)]; exact this.2.2
end Go.Proofs.Yteamldgngknmfaa
